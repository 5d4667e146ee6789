/- The plain law of FnMinimal. -/
import Derived.Test.YtfeppeacchjbeaaPtFnMinimal
open Prod.mk renaming injEq->z9
open List renaming getD->zA,length_cons->zB,length_nil->zC,range->zE,length_append->zF,getElem_mem->zG,length_map->zH,take_succ_eq_append_getElem->zJ,take_of_length_le->zK,map_append->zM,getElem_map->zN,length_replicate->zO,replicate->zP,length_set->zQ,map_cons->zR,take_zero->zT,length_range->zV,length_take->zW,map_congr_left->zZ,length->yD,getElem_range->yE,append_nil->yJ,map_nil->yL,mem_range->yN,range'->yO,mem_or_eq_of_mem_set->yP,drop_eq_getElem_cons->yQ,append_assoc->yR,eq_of_mem_replicate->yS,getElem_append_left->yT,ext_getElem->yU,drop_of_length_le->yX,map->yY,range_succ->yZ,count_set->xB,count_le_length->xC,getElem_idxOf->xF,mem_map->xI,flatten_cons->xJ,take_length->xK,all_eq_true->xL,not_mem_nil->xM,set->xO,map_map->xT
open Int renaming toNat_natCast->zD,mul_le_mul->zL,mul_le_mul_of_nonneg_right->zU,toNat->zX,add_mul->yA,one_mul->yB,mul_nonneg->yG,natCast_mul->xA,natCast_nonneg->xH
open Bool renaming cond_decide->zI,and_eq_true->yH,not_true->yI,not_false->yM,false_and->xS
open Nat renaming mul_le_mul->zS,ble_eq->zY,le_refl->yC,le_trans->yF,zero_add->yK,succ_mul->yV,ble->yW,mul_le_mul_right->xD,mod_lt->xE,lt_of_lt_of_le->xG,div_eq_of_lt->xN,min_eq_left->xQ,mul_add_div->xR,mul_comm->xU,add_zero->xV
open Option renaming map_none->xP
set_option linter.unusedVariables false
set_option linter.unusedSimpArgs false
namespace Go.Proofs.Ytfeppeacchjbeaa.fnMinimal.Pure
open Go.Ev Go.Proofs.Ytfeppeacchjbeaa.fnMinimal
structure DOk(c:List Int)(w:Int)(n t e:List Int):Prop where
 cl:c.length=256
 w0:1<=w
 w1:w<=256
 t0:1<=t.length
 t1:t.length<=4000
 el:e.length=t.length
 nl:(n.length:Int)=t.length*w
 ci:∀x∈c,0<=x/\x<=w-1
 ni:∀x∈n,0<=x/\x<=t.length-1
 ti:∀x∈t,-1<=x/\x<=99
 ei:∀x∈e,-1<=x/\x<=99
abbrev DT:=List Int×Int×List Int×List Int×List Int
def Any(d:DT):Prop:=DOk d.1 d.2.1 d.2.2.1 d.2.2.2.1 d.2.2.2.2
theorem Adg{t:Nat}{w:Int}(h1:t<=4000)(h2:1<=w)(h3:w<=256):0<=(t:Int)*w/\(t:Int)*w<=1024000:=by
 have a:0<=(t:Int)*w:=yG (by omega) (by omega)
 have b:(t:Int)*w<=4000*256:=zL (by omega) h3 (by omega) (by omega)
 omega
theorem Sr(l:List Int)(lo hi:Int){N:Nat}(hl:l.length<=1048576)(hN:2000000<N):Ret (λ R k=>F.ox (R:=R) N (l,lo,hi) k) (λ o=>o=true<->∀x∈l,lo<=x/\x<=hi):=by
  simp only[F.ox]
  have L0:=rO (s:=λ R=>F.my (R:=R) N) (app:=Cy) (P:=λ o:Unit⊕Bool=>match o with|.inl _=>∀x∈l,lo<=x/\x<=hi|.inr b=>b=false/\¬∀x∈l,lo<=x/\x<=hi) (λ y:Int×Int×List Int×Int×Int=>y.1=lo/\y.2.1=hi/\y.2.2.1=l/\y.2.2.2.1=l.length/\0<=y.2.2.2.2/\y.2.2.2.2<=l.length/\∀x∈l.take y.2.2.2.2.toNat,lo<=x/\x<=hi) (λ y=>((l.length:Int)-y.2.2.2.2).toNat) (λ y hy=>by
    obtain⟨a,b,l',n,j⟩:=y
    obtain⟨g1,g2,g3,g4,j0,j1,hd⟩:=hy
    dsimp only at g1 g2 g3 g4 j0 j1 hd
    subst g1 g2 g3 g4
    simp only[F.my]
    refine rB (λ h=> ?_) λ h=>rL (.inr (.inl ())) (by have:¬j<l'.length:=(by simpa using h);rw[show j.toNat=l'.length by omega,xK] at hd;exact hd) λ _ _=>rfl
    have h:j<l'.length:=by simpa using h
    have hj:j.toNat<l'.length:=by omega
    rw[Eu l' hj,Ag (n:=j+1) (by omega) (by omega)]
    refine rC (Ad j0 h) (rD (Eg _ _ _) ?_)
    rintro _ rfl
    refine rB (λ e=>rL (.inr (.inr false)) ⟨rfl,λ q=> ?_⟩ λ _ _=>rfl) λ e=>rL (.inl _) ⟨⟨rfl,rfl,rfl,rfl,by dsimp only;omega,by dsimp only;omega,λ x hx=> ?_⟩,by dsimp only;omega⟩ λ _ _=>rfl
    · have:=q _ (zG hj)
      simp[this.1,this.2] at e
    · dsimp only at hx
      rw[show(j+1).toNat=j.toNat+1 by omega,zJ hj] at hx
      rcases List.mem_append.1 hx with hx|hx
      · exact hd x hx
      · cases List.mem_singleton.1 hx
        simpa using e) N (lo,hi,l,(l.length:Int),0) ⟨rfl,rfl,rfl,rfl,by simp,by simp,λ x hx=>absurd hx (by simp)⟩ (by dsimp only;omega)
  refine rD L0 ?_
  rintro(_|b) ho
  · exact rL true ⟨λ _=>ho,λ _=>rfl⟩ λ _ _=>rfl
  · obtain⟨rfl,ho⟩:=ho
    exact rL false ⟨λ h=>(by cases h),λ h=>absurd h ho⟩ λ _ _=>rfl
theorem Yn(d:DT){N:Nat}(hc:d.1.length<=1048576)(hn:d.2.2.1.length<=1048576)(ht:d.2.2.2.1.length<=1048576)(he:d.2.2.2.2.length<=1048576)(hw:-9223372036854775807<=d.2.1/\d.2.1<=9223372036854775807)(hN:2000000<N):Ret (λ R k=>F.mz (R:=R) N d k) (λ o=>o=true<->Any d):=by
 obtain⟨c,w,n,t,e⟩:=d
 dsimp only at hc hn ht he hw
 have no:¬DOk c w n t e->Ret (λ R k=>k false) (λ o=>o=true<->Any (c,w,n,t,e)):=λ h=>rL false ⟨λ h=>(by cases h),λ q=>absurd q h⟩ λ _ _=>rfl
 have j8:∀q:Bool,(q=true->¬DOk c w n t e)->(q=false->c.length=256/\1<=w/\w<=256/\1<=t.length/\t.length<=4000/\e.length=t.length/\(n.length:Int)=t.length*w)->Ret (λ R k=>jn (F.qu (R:=R) N k) (((t.length:Int),q),c,w,n,t,e)) (λ o=>o=true<->Any (c,w,n,t,e)):=λ q h1 h2=>by
  simp only[jn,F.qu]
  rw[Ag (n:=w-1) (by omega) (by omega),Ag (n:=(t.length:Int)-1) (by omega) (by omega)]
  refine rB (λ h=>no (h1 h)) λ h=>rD (Sr c _ _ hc hN) λ v1 q1=>rB (λ e1=>rD (Sr n _ _ hn hN) λ v2 q2=>rB (λ e2=>rD (Sr t _ _ ht hN) λ v3 q3=>rB (λ e3=>rD (Sr e _ _ he hN) λ v4 q4=>rL _ ⟨λ e4=> ?_,λ g=>q4.2 g.ei⟩ λ _ _=>rfl) λ e3=>no λ g=> ?_) λ e2=>no λ g=> ?_) λ e1=>no λ g=> ?_
  ·obtain⟨x1,x2,x3,x4,x5,x6,x7⟩:=h2 h
   exact⟨x1,x2,x3,x4,x5,x6,x7,q1.1 e1,q2.1 e2,q3.1 e3,q4.1 e4⟩
  ·rw[q3.2 g.ti] at e3;cases e3
  ·rw[q2.2 g.ni] at e2;cases e2
  ·rw[q1.2 g.ci] at e1;cases e1
 have j4:∀q:Bool,(q=true->¬DOk c w n t e)->(q=false->c.length=256/\1<=w/\w<=256/\1<=t.length/\t.length<=4000)->Ret (λ R k=>jn (F.pe (R:=R) N k) (((t.length:Int),q),c,w,n,t,e)) (λ o=>o=true<->Any (c,w,n,t,e)):=λ q h1 h2=>by
  simp only[jn,F.pe]
  refine rB (λ h=>no (h1 h)) λ h=> ?_
  obtain⟨x1,x2,x3,x4,x5⟩:=h2 h
  have:=Adg x5 x2 x3
  rw[Ag (n:=(t.length:Int)*w) (by omega) (by omega)]
  refine rB (λ h=>j8 true (λ _ g=> ?_) λ h=>(by cases h)) λ h=>j8 _ (λ q g=> ?_) λ q=> ?_
  ·have:=g.el
   simp[this] at h
  ·have:=g.nl
   simp[this] at q
  ·have h:(e.length:Int)=t.length:=by simpa using h
   exact⟨x1,x2,x3,x4,x5,by omega,by simpa using q⟩
 simp only[F.mz]
 refine rB (λ h=>j4 true (λ _ g=> ?_) λ h=>(by cases h)) λ h=>rD (Eg _ _ _) ?_
 ·have:=g.cl
  simp[this] at h
 ·rintro _ rfl
  refine rB (λ h2=>j4 true (λ _ g=> ?_) λ h=>(by cases h)) λ h2=>rD (Eg _ _ _) ?_
  ·have x1:=g.w0
   have x2:=g.w1
   simp[x1,x2] at h2
  ·rintro _ rfl
   refine j4 _ (λ q g=> ?_) λ q=> ?_
   ·have x1:=g.t0
    have x2:=g.t1
    rw[decide_eq_true (show(1:Int)<=t.length by omega),decide_eq_true (show(t.length:Int)<=4000 by omega)] at q
    cases q
   ·have q:1<=(t.length:Int)/\(t.length:Int)<=4000:=by
     have q:(decide (1<=(t.length:Int))&&decide ((t.length:Int)<=4000))=true:=by rw[<-Bool.not_not (decide _&&_),q];rfl
     rw[yH,decide_eq_true_eq,decide_eq_true_eq] at q
     exact q
    have h2:1<=w/\w<=256:=by simpa using h2
    have h:(c.length:Int)=256:=by simpa using h
    exact⟨by omega,h2.1,h2.2,by omega,by omega⟩
theorem place(l:List Int)(x:Int){N:Nat}(hl:l.length<=1048576)(hN:2000000<N):Ret (λ R k=>F.ce (R:=R) N (l,x) k) (λ o=>o=-1/\x∉l\/0<=o/\o<l.length/\x∈l):=by
  simp only[F.ce]
  have L0:=rO (s:=λ R=>F.jv (R:=R) N) (app:=Cy) (P:=λ o:Unit⊕Int=>match o with|.inl _=>x∉l|.inr o=>0<=o/\o<l.length/\x∈l) (λ y:Int×List Int×Int×Int=>y.1=x/\y.2.1=l/\y.2.2.1=l.length/\0<=y.2.2.2/\y.2.2.2<=l.length/\x∉l.take y.2.2.2.toNat) (λ y=>((l.length:Int)-y.2.2.2).toNat) (λ y hy=>by
    obtain⟨a,l',n,j⟩:=y
    obtain⟨g1,g2,g3,j0,j1,hd⟩:=hy
    dsimp only at g1 g2 g3 j0 j1 hd
    subst g1 g2 g3
    simp only[F.jv]
    refine rB (λ h=> ?_) λ h=>rL (.inr (.inl ())) (by have:¬j<l'.length:=(by simpa using h);rw[show j.toNat=l'.length by omega,xK] at hd;exact hd) λ _ _=>rfl
    have h:j<l'.length:=by simpa using h
    have hj:j.toNat<l'.length:=by omega
    rw[Eu l' hj,Ag (n:=j+1) (by omega) (by omega)]
    refine rC (Ad j0 h) (rB (λ e=>rL (.inr (.inr j)) ⟨j0,h,by rw[<-beq_iff_eq.1 e];exact zG _⟩ λ _ _=>rfl) λ e=>rL (.inl _) ⟨⟨rfl,rfl,rfl,by dsimp only;omega,by dsimp only;omega,λ hx=> ?_⟩,by dsimp only;omega⟩ λ _ _=>rfl)
    dsimp only at hx
    rw[show(j+1).toNat=j.toNat+1 by omega,zJ hj] at hx
    rcases List.mem_append.1 hx with hx|hx
    · exact hd hx
    · exact beq_eq_false_iff_ne.1 e (List.mem_singleton.1 hx).symm) N (x,l,(l.length:Int),0) ⟨rfl,rfl,rfl,by simp,by simp,by simp⟩ (by dsimp only;omega)
  refine rD L0 ?_
  rintro(_|b) ho
  · exact rL (-1) (.inl ⟨rfl,ho⟩) λ _ _=>rfl
  · exact rL b (.inr ho) λ _ _=>rfl
def SOk(T:Nat)(l:List Int):Prop:=l.Nodup/\∀x∈l,0<=x/\x<T
theorem SOk.le{T:Nat}{l:List Int}(h:SOk T l):l.length<=T:=by
 have:(l.map zX).Nodup:=List.pairwise_map.2 (List.Pairwise.imp_of_mem (λ ha hb ne e=>ne (by have:=h.2 _ ha;have:=h.2 _ hb;omega)) h.1)
 have:=Lj this (T:=T) λ x hx=>by
  obtain⟨y,hy,rfl⟩:=List.mem_map.1 hx
  have:=h.2 y hy
  omega
 rw[zH] at this
 exact this
theorem SOk.snoc{T:Nat}{l:List Int}{x:Int}(h:SOk T l)(hx:x∉l)(h0:0<=x)(h1:x<T):SOk T (l++[x]):=by
 refine⟨List.nodup_append.2 ⟨h.1,by simp,λ a ha b hb e=> ?_⟩,λ y hy=> ?_⟩
 ·cases List.mem_singleton.1 hb;subst e;exact hx ha
 ·rcases List.mem_append.1 hy with hy|hy
  ·exact h.2 y hy
  ·cases List.mem_singleton.1 hy;exact⟨h0,h1⟩
theorem Fe{l:List Int}{P:Int->Prop}(h:∀x∈l,P x){i:Int}(i1:i.toNat<l.length):P (zA l i.toNat 0):=by
 rw[Eu l i1];exact h _ (zG _)
theorem Aty{s c w:Int}{T:Nat}(hT:T<=4000)(w1:w<=256)(s0:0<=s)(s1:s<T)(c0:0<=c)(c1:c<w):0<=s*w/\s*w+c<T*w/\s*w+c<=1024000:=by
 have a:0<=s*w:=yG s0 (by omega)
 have b:(s+1)*w<=T*w:=zU (by omega) (by omega)
 have:=Adg hT (by omega:1<=w) w1
 rw[yA,yB] at b
 omega
section
variable{c n t e:List Int}{w:Int}{N:Nat}
theorem DOk.go(h:DOk c w n t e){s k:Int}(s0:0<=s)(s1:s<t.length)(k0:0<=k)(k1:k<w):Aa .i64 (Aa .i64 (s*w)+k)=s*w+k/\0<=s*w+k/\s*w+k<n.length/\0<=zA n (s*w+k).toNat 0/\zA n (s*w+k).toNat 0<t.length:=by
 obtain⟨q0,q1,q2⟩:=Aty h.t1 h.w1 s0 s1 k0 k1
 have hn:=h.nl
 rw[Ag (n:=s*w) (by omega) (by omega),Ag (n:=s*w+k) (by omega) (by omega)]
 have:=Fe h.ni (i:=s*w+k) (by omega)
 exact⟨rfl,by omega,by omega,by omega,by omega⟩
abbrev RcD:=Int×DT×List Int
theorem Ads(h:DOk c w n t e)(hN:2000000<N){k:Int}{l:List Int}(k0:0<=k)(k1:k<l.length)(hl:SOk t.length l):Ret (λ R q=>F.sq (R:=R) N N ((k,0),(c,w,n,t,e),l) q) (λ o=>o.1=k/\o.2.1=(c,w,n,t,e)/\SOk t.length o.2.2/\l.length<=o.2.2.length):=by
 have t1:=h.t1
 have w0:=h.w0
 have w1:=h.w1
 have cl:=h.cl
 refine rO (s:=λ R=>F.dq (R:=R) N) (λ y:(Int×Int)×DT×List Int=>y.1.1=k/\0<=y.1.2/\y.1.2<=w/\y.2.1=(c,w,n,t,e)/\SOk t.length y.2.2/\l.length<=y.2.2.length) (λ y=>(w-y.1.2).toNat) ?_ N _ ⟨rfl,by simp,by dsimp only;omega,rfl,hl,yC _⟩ (by dsimp only;omega)
 rintro⟨⟨k',j⟩,⟨c',w',n',t',e'⟩,m⟩ ⟨g1,j0,j1,g2,hm,hle⟩
 dsimp only at g1 j0 j1 g2 hm hle
 obtain⟨rfl,rfl,rfl,rfl,rfl⟩:=by simpa only[z9] using g2
 subst g1
 simp only[F.dq]
 refine rB (λ x=> ?_) λ x=>rL (.inr _) ⟨rfl,rfl,hm,hle⟩ λ _ _=>rfl
 have x:j<w':=by simpa using x
 have hml:=hm.le
 have hs:=Fe hm.2 (i:=k') (by omega)
 obtain⟨q1,q2,q3,q4,q5⟩:=h.go hs.1 hs.2 j0 x
 rw[q1,Ag (n:=j+1) (by omega) (by omega)]
 have nxt:∀m',SOk t'.length m'->l.length<=m'.length->Sm (λ y:(Int×Int)×DT×List Int=>y.1.1=k'/\0<=y.1.2/\y.1.2<=w'/\y.2.1=(c',w',n',t',e')/\SOk t'.length y.2.2/\l.length<=y.2.2.length) (λ y=>(w'-y.1.2).toNat) ((k',j),(c',w',n',t',e'),m) (λ o:RcD=>o.1=k'/\o.2.1=(c',w',n',t',e')/\SOk t'.length o.2.2/\l.length<=o.2.2.length) (.inl ((k',j+1),(c',w',n',t',e'),m')):=λ m' a b=>⟨⟨rfl,by dsimp only;omega,by dsimp only;omega,rfl,a,b⟩,by dsimp only;omega⟩
 refine rD (place c' j (by omega) hN) λ v hv=>rC (Ad k0 (by omega)) (rC (Ad q2 q3) (rB (λ _=>rD (place m _ (by omega) hN) λ u hu=>rB (λ y=>rC (Bo (by simp only[zB,zC];omega) (by omega)) (rL (.inl _) (nxt _ (hm.snoc ?_ q4 q5) (by simp only[zF];omega)) λ _ _=>rfl)) λ _=>rL (.inl _) (nxt m hm hle) λ _ _=>rfl) λ _=>rL (.inl _) (nxt m hm hle) λ _ _=>rfl))
 have y:u<0:=by simpa using y
 exact(hu.resolve_right (by omega)).2
theorem Apf(h:DOk c w n t e)(hN:2000000<N):Ret (λ R k=>F.qj (R:=R) N (c,w,n,t,e) k) (λ o=>SOk t.length o/\1<=o.length):=by
 have t0:=h.t0
 have t1:=h.t1
 simp only[F.qj]
 have L0:=rO (s:=λ R=>F.dt (R:=R) N) (app:=λ _ d k=>k d) (P:=λ o:List Int=>SOk t.length o/\1<=o.length) (λ y:RcD=>0<=y.1/\y.1<=y.2.2.length/\y.2.1=(c,w,n,t,e)/\SOk t.length y.2.2/\1<=y.2.2.length) (λ y=>((t.length:Int)-y.1).toNat) (λ y hy=>by
  obtain⟨j,⟨c',w',n',t',e'⟩,m⟩:=y
  obtain⟨j0,j1,g2,hm,h1⟩:=hy
  dsimp only at j0 j1 g2 hm h1
  obtain⟨rfl,rfl,rfl,rfl,rfl⟩:=by simpa only[z9] using g2
  simp only[F.dt]
  refine rB (λ x=>rD (Ads h hN j0 (by simpa using x) hm) ?_) λ x=>rL (.inr _) ⟨hm,h1⟩ λ _ _=>rfl
  have x:j<m.length:=by simpa using x
  have hml:=hm.le
  rintro⟨j',⟨c,w,n,t,e⟩,m'⟩ ⟨g1,g2,hm',hle⟩
  dsimp only at g1 g2 hm' hle⊢
  obtain⟨rfl,rfl,rfl,rfl,rfl⟩:=by simpa only[z9] using g2
  subst g1
  rw[Ag (n:=j'+1) (by omega) (by omega)]
  exact rL (.inl _) ⟨⟨by dsimp only;omega,by dsimp only;omega,rfl,hm',by dsimp only;omega⟩,by dsimp only;omega⟩ λ _ _=>rfl) N (0,(c,w,n,t,e),[0]) ⟨by simp,by simp,rfl,⟨by simp,λ x hx=>by cases List.mem_singleton.1 hx;omega⟩,by simp⟩ (by dsimp only;omega)
 exact rD L0 λ o ho=>rL o ho λ _ _=>rfl
abbrev Mat:=List (List Bool)
def cell(m:Mat)(i j:Nat):Bool:=zA (zA m i []) j false
structure Qa(k:Nat)(m:Mat):Prop where
 len:m.length=k
 row:∀i,i<k->(zA m i []).length=k
 dia:∀i,i<k->cell m i i=false
def fc(m:Mat):Nat:=(m.map λ r=>r.count false).sum
theorem Aga:∀(l:List Nat) (i:Nat) (h:i<l.length) (v:Nat),(l.set i v).sum+l[i]=l.sum+v
 | a::l,0,_,v=>by simp;omega
 | a::l,i+1,h,v=>by
  have:=Aga l i (by simpa using h) v
  simp only[List.set_cons_succ,List.sum_cons,List.getElem_cons_succ]
  omega
def put(m:Mat)(x y:Nat):Mat:=m.set x ((zA m x []).set y true)
theorem Af1{m:Mat}{x y i:Nat}:zA (put m x y) i []=if x=i/\x<m.length then(zA m x []).set y true else zA m i []:=by
 simp only[put,List.getD_eq_getElem?_getD,List.getElem?_set]
 by_cases h:x=i
 ·subst h
  by_cases h2:x<m.length
  ·simp[h2]
  ·simp[h2]
 ·simp[h]
theorem Alf{m:Mat}{x y i j:Nat}(h:¬(x=i/\y=j)):cell (put m x y) i j=cell m i j:=by
 simp only[cell,Af1]
 split
 ·rename_i q
  obtain⟨rfl,q⟩:=q
  simp only[List.getD_eq_getElem?_getD,List.getElem?_set]
  rw[if_neg (by omega)]
 ·rfl
theorem Qa.put{k:Nat}{m:Mat}(h:Qa k m){x y:Nat}(ne:x≠y):Qa k (put m x y):=by
 refine⟨by simp only[Pure.put,zQ];exact h.len,λ i hi=> ?_,λ i hi=> ?_⟩
 ·rw[Af1]
  split
  ·rename_i q
   rw[zQ,q.1];exact h.row i hi
  ·exact h.row i hi
 ·rw[Alf (by omega)];exact h.dia i hi
theorem Atw{k:Nat}{m:Mat}(h:Qa k m){x y:Nat}(hx:x<k)(hy:y<k):fc (put m x y)<=fc m/\(cell m x y=false->fc (put m x y)<fc m):=by
 have hxl:x<m.length:=by rw[h.len];exact hx
 have hr:zA m x []=m[x]:=by rw[List.getD_eq_getElem?_getD,List.getElem?_eq_getElem hxl];rfl
 have hyl:y<m[x].length:=by rw[<-hr,h.row x hx];exact hy
 have hc:cell m x y=m[x][y]:=by rw[cell,hr,List.getD_eq_getElem?_getD,List.getElem?_eq_getElem hyl];rfl
 have e:=Aga (m.map λ r=>r.count false) x (by rw[zH];exact hxl) ((m[x].set y true).count false)
 rw[zN,xB hyl] at e
 have e2:fc (Pure.put m x y)=((m.map λ r=>r.count false).set x ((m[x].set y true).count false)).sum:=by rw[fc,Pure.put,hr,List.map_set]
 have p:m[x][y]=false->1<=m[x].count false:=λ q=>List.count_pos_iff.2 (by rw[<-q];exact zG _)
 rw[xB hyl] at e2
 rw[e2,hc,fc]
 cases q:m[x][y]
 ·have:=p q
  simp only[q,beq_self_eq_true,if_true] at e⊢
  simp at e⊢
  omega
 ·simp only[q] at e⊢
  simp at e⊢
  omega
end
abbrev ApE(c:List Int)(w:Int)(n t e:List Int)(L:List Int)(pl us:List Int):Prop:=pl.length=t.length/\(∀x∈pl,0<=x/\x<L.length)/\us.length<=256/\∀x∈us,0<=x/\x<w
theorem Nh{m:List Bool}{i:Nat}(h:i<m.length)(z:Bool):zA m i z=m[i]:=by rw[List.getD_eq_getElem?_getD,List.getElem?_eq_getElem h];rfl
section
variable{c n t e:List Int}{w:Int}{N:Nat}{L:List Int}
theorem Aik(h:DOk c w n t e)(hN:2000000<N)(hL:SOk t.length L)(h1:1<=L.length):Ret (λ R q=>F.uz (R:=R) N N ((L,(L.length:Int),L,(L.length:Int),0),(c,w,n,t,e),zP t.length (0:Int)) q) (λ o=>o.1=(L,(L.length:Int))/\o.2.1=(c,w,n,t,e)/\o.2.2.length=t.length/\∀x∈o.2.2,0<=x/\x<L.length):=by
 have hl:=hL.le
 have t1:=h.t1
 refine rO (s:=λ R=>F.jx (R:=R) N) (λ y:(List Int×Int×List Int×Int×Int)×DT×List Int=>(y.1.1,y.1.2.1)=(L,(L.length:Int))/\y.1.2.2.1=L/\y.1.2.2.2.1=L.length/\0<=y.1.2.2.2.2/\y.1.2.2.2.2<=L.length/\y.2.1=(c,w,n,t,e)/\y.2.2.length=t.length/\∀x∈y.2.2,0<=x/\x<L.length) (λ y=>((L.length:Int)-y.1.2.2.2.2).toNat) ?_ N _ ⟨rfl,rfl,rfl,by simp,by simp,rfl,zO,λ x hx=>by have:=yS hx;omega⟩ (by dsimp only;omega)
 rintro⟨⟨a,b,l,k,j⟩,d,pl⟩ ⟨g1,g2,g3,j0,j1,g4,hp,hx⟩
 dsimp only at g1 g2 g3 j0 j1 g4 hp hx
 subst g2 g3 g4
 simp only[F.jx]
 refine rB (λ x=> ?_) λ x=>rL (.inr _) ⟨g1,rfl,hp,hx⟩ λ _ _=>rfl
 have x:j<l.length:=by simpa using x
 have hs:=Fe hL.2 (i:=j) (by omega)
 rw[Ag (n:=j+1) (by omega) (by omega)]
 refine rC (Ad j0 x) (rC (Ad hs.1 (by omega)) (rL (.inl _) ⟨⟨g1,rfl,rfl,by dsimp only;omega,by dsimp only;omega,rfl,by simp only[zQ];exact hp,λ y hy=> ?_⟩,by dsimp only;omega⟩ λ _ _=>rfl))
 rcases yP hy with hy|rfl
 ·exact hx y hy
 ·exact⟨j0,x⟩
theorem Ail(h:DOk c w n t e)(hN:2000000<N){a b:Int}{pl:List Int}:Ret (λ R q=>F.va (R:=R) N N ((L,a,0),(c,w,n,t,e),pl,[]) q) (λ o=>o.1=(L,a)/\o.2.1=(c,w,n,t,e)/\o.2.2.1=pl/\o.2.2.2.length<=256/\∀x∈o.2.2.2,0<=x/\x<w):=by
 have w0:=h.w0
 have w1:=h.w1
 have cl:=h.cl
 refine rO (s:=λ R=>F.jy (R:=R) N) (λ y:(List Int×Int×Int)×DT×List Int×List Int=>(y.1.1,y.1.2.1)=(L,a)/\0<=y.1.2.2/\y.1.2.2<=w/\y.2.1=(c,w,n,t,e)/\y.2.2.1=pl/\(y.2.2.2.length:Int)<=y.1.2.2/\∀x∈y.2.2.2,0<=x/\x<w) (λ y=>(w-y.1.2.2).toNat) ?_ N _ ⟨rfl,by simp,by dsimp only;omega,rfl,rfl,by simp,λ x hx=>absurd hx (by simp)⟩ (by dsimp only;omega)
 rintro⟨⟨l,b',j⟩,⟨c',w',n',t',e'⟩,p,us⟩ ⟨g1,j0,j1,g2,g3,hu,hx⟩
 dsimp only at g1 j0 j1 g2 g3 hu hx
 obtain⟨rfl,rfl,rfl,rfl,rfl⟩:=by simpa only[z9] using g2
 subst g3
 simp only[F.jy]
 refine rB (λ x=> ?_) λ x=>rL (.inr _) ⟨g1,rfl,rfl,by dsimp only;omega,hx⟩ λ _ _=>rfl
 have x:j<w':=by simpa using x
 rw[Ag (n:=j+1) (by omega) (by omega)]
 refine rD (place c' j (by omega) hN) λ v _=>rB (λ _=>rC (Bo (by simp only[zB,zC];omega) (by omega)) (rL (.inl _) ⟨⟨g1,by dsimp only;omega,by dsimp only;omega,rfl,rfl,by simp only[zF,zB,zC];omega,λ y hy=> ?_⟩,by dsimp only;omega⟩ λ _ _=>rfl)) λ _=>rL (.inl _) ⟨⟨g1,by dsimp only;omega,by dsimp only;omega,rfl,rfl,by dsimp only;omega,hx⟩,by dsimp only;omega⟩ λ _ _=>rfl
 rcases List.mem_append.1 hy with hy|hy
 ·exact hx y hy
 ·cases List.mem_singleton.1 hy;exact⟨j0,x⟩
theorem Ain(h:DOk c w n t e)(hN:2000000<N)(hL:SOk t.length L){x:Int}{pl us:List Int}{m:Mat}(x0:0<=x)(x1:x<L.length):Ret (λ R q=>F.vb (R:=R) N N ((L,(L.length:Int),x,0),(c,w,n,t,e),pl,us,m,zP L.length false) q) (λ o=>o.1=(L,(L.length:Int),x)/\o.2.1=(c,w,n,t,e)/\o.2.2.1=pl/\o.2.2.2.1=us/\o.2.2.2.2.1=m/\o.2.2.2.2.2.length=L.length/\zA o.2.2.2.2.2 x.toNat false=false):=by
 have hl:=hL.le
 have t1:=h.t1
 have el:=h.el
 refine rO (s:=λ R=>F.jz (R:=R) N) (λ y:(List Int×Int×Int×Int)×DT×List Int×List Int×Mat×List Bool=>y.1.1=L/\y.1.2.1=L.length/\y.1.2.2.1=x/\0<=y.1.2.2.2/\y.1.2.2.2<=L.length/\y.2.1=(c,w,n,t,e)/\y.2.2.1=pl/\y.2.2.2.1=us/\y.2.2.2.2.1=m/\y.2.2.2.2.2.length=L.length/\zA y.2.2.2.2.2 x.toNat false=false) (λ y=>((L.length:Int)-y.1.2.2.2).toNat) ?_ N _ ⟨rfl,rfl,rfl,by simp,by simp,rfl,rfl,rfl,rfl,zO,by rw[Nh (by simp;omega)];simp⟩ (by dsimp only;omega)
 rintro⟨⟨l,k,x',j⟩,⟨c',w',n',t',e'⟩,p,u,m',r⟩ ⟨g1,g2,g3,j0,j1,g4,g5,g6,g7,hr,hd⟩
 dsimp only at g1 g2 g3 j0 j1 g4 g5 g6 g7 hr hd
 obtain⟨rfl,rfl,rfl,rfl,rfl⟩:=by simpa only[z9] using g4
 subst g1 g2 g3 g5 g6 g7
 simp only[F.jz]
 refine rB (λ y=> ?_) λ y=>rL (.inr _) ⟨rfl,rfl,rfl,rfl,rfl,hr,hd⟩ λ _ _=>rfl
 have y:j<l.length:=by simpa using y
 have s1:=Fe hL.2 (i:=x') (by omega)
 have s2:=Fe hL.2 (i:=j) (by omega)
 rw[Ag (n:=j+1) (by omega) (by omega)]
 have nxt:∀b:Bool,(j=x'->b=false)->RetK (K:=λ R=>(((List Int×Int×Int×Int)×DT×List Int×List Int×Mat×List Bool)->Option R)×(((List Int×Int×Int)×DT×List Int×List Int×Mat×List Bool)->Option R)) (aS λ _ d k=>k d) (λ R q=>chk (inB j r.length)<|q.1 ((l,(l.length:Int),x',j+1),(c',w',n',t',e'),p,u,m',r.set j.toNat b)) (Sm (λ y:(List Int×Int×Int×Int)×DT×List Int×List Int×Mat×List Bool=>y.1.1=l/\y.1.2.1=l.length/\y.1.2.2.1=x'/\0<=y.1.2.2.2/\y.1.2.2.2<=l.length/\y.2.1=(c',w',n',t',e')/\y.2.2.1=p/\y.2.2.2.1=u/\y.2.2.2.2.1=m'/\y.2.2.2.2.2.length=l.length/\zA y.2.2.2.2.2 x'.toNat false=false) (λ y=>((l.length:Int)-y.1.2.2.2).toNat) ((l,(l.length:Int),x',j),(c',w',n',t',e'),p,u,m',r) (λ o=>o.1=(l,(l.length:Int),x')/\o.2.1=(c',w',n',t',e')/\o.2.2.1=p/\o.2.2.2.1=u/\o.2.2.2.2.1=m'/\o.2.2.2.2.2.length=l.length/\zA o.2.2.2.2.2 x'.toNat false=false)):=λ b hb=>
  rC (Ad j0 (by omega)) (rL (.inl _) ⟨⟨rfl,rfl,rfl,by dsimp only;omega,by dsimp only;omega,rfl,rfl,rfl,rfl,by simp only[zQ];exact hr,by
   dsimp only
   rw[Nh (by rw[zQ];omega),List.getElem_set]
   split
   ·exact hb (by omega)
   ·rw[Nh (by omega)] at hd;exact hd⟩,by dsimp only;omega⟩ λ _ _=>rfl)
 exact rC (Ad x0 x1) (rC (Ad s1.1 s1.2) (rC (Ad j0 y) (rC (Ad s2.1 s2.2) (rB (λ q=>nxt true λ e=>by rw[e] at q;simp at q) λ _=>rC (Ad x0 x1) (rC (Ad s1.1 (by omega)) (rC (Ad j0 y) (rC (Ad s2.1 (by omega)) (nxt _ λ e=>by rw[e];simp))))))))
theorem Aim(h:DOk c w n t e)(hN:2000000<N)(hL:SOk t.length L){pl us:List Int}:Ret (λ R q=>F.vc (R:=R) N N ((L,(L.length:Int),0),(c,w,n,t,e),pl,us,[]) q) (λ o=>o.1=(L,(L.length:Int))/\o.2.1=(c,w,n,t,e)/\o.2.2.1=pl/\o.2.2.2.1=us/\Qa L.length o.2.2.2.2):=by
 have hl:=hL.le
 have t1:=h.t1
 refine rO (s:=λ R=>F.ka (R:=R) N) (λ y:(List Int×Int×Int)×DT×List Int×List Int×Mat=>y.1.1=L/\y.1.2.1=L.length/\0<=y.1.2.2/\y.1.2.2<=L.length/\y.2.1=(c,w,n,t,e)/\y.2.2.1=pl/\y.2.2.2.1=us/\(y.2.2.2.2.length:Int)=y.1.2.2/\∀i,i<y.2.2.2.2.length->(zA y.2.2.2.2 i []).length=L.length/\cell y.2.2.2.2 i i=false) (λ y=>((L.length:Int)-y.1.2.2).toNat) ?_ N _ ⟨rfl,rfl,by simp,by simp,rfl,rfl,rfl,by simp,λ i hi=>absurd hi (by simp)⟩ (by dsimp only;omega)
 rintro⟨⟨l,k,j⟩,⟨c',w',n',t',e'⟩,p,u,m⟩ ⟨g1,g2,j0,j1,g4,g5,g6,hm,hi⟩
 dsimp only at g1 g2 j0 j1 g4 g5 g6 hm hi
 obtain⟨rfl,rfl,rfl,rfl,rfl⟩:=by simpa only[z9] using g4
 subst g1 g2 g5 g6
 simp only[F.ka]
 refine rB (λ y=> ?_) λ y=>rL (.inr _) ⟨rfl,rfl,rfl,rfl, ?_⟩ λ _ _=>rfl
 ·have y:j<l.length:=by simpa using y
  rw[zD]
  refine rC (by simp) (rC (by rw[zY];simp only[Ap];omega) (rD (Ain h hN hL j0 y) ?_))
  rintro⟨⟨a,b,x⟩,⟨c,w,n,t,e⟩,p',u',m',r⟩ ⟨g1,g2,h3,h4,h5,hr,hd⟩
  dsimp only at g1 g2 h3 h4 h5 hr hd⊢
  obtain⟨rfl,rfl,rfl⟩:=by simpa only[z9] using g1
  obtain⟨rfl,rfl,rfl,rfl,rfl⟩:=by simpa only[z9] using g2
  subst h3 h4 h5
  rw[Ag (n:=x+1) (by omega) (by omega)]
  refine rC (S1 (by simp only[zB,zC];omega)) (rL (.inl _) ⟨⟨rfl,rfl,by dsimp only;omega,by dsimp only;omega,rfl,rfl,rfl,by simp only[zF,zB,zC];omega,λ i hi2=> ?_⟩,by dsimp only;omega⟩ λ _ _=>rfl)
  simp only[zF,zB,zC] at hi2
  by_cases q:i<m'.length
  ·have e1:zA (m'++[r]) i []=zA m' i []:=by rw[List.getD_eq_getElem?_getD,List.getElem?_append_left q,List.getD_eq_getElem?_getD]
   simp only[cell,e1]
   exact hi i q
  ·have e0:i=m'.length:=by omega
   have e1:zA (m'++[r]) i []=r:=by rw[e0,List.getD_eq_getElem?_getD,List.getElem?_append_right (yC _)];simp
   simp only[cell,e1]
   refine⟨hr, ?_⟩
   rw[show i=x.toNat by omega]
   exact hd
 ·have y:¬j<l.length:=by simpa using y
  exact⟨by dsimp only;omega,λ i hi2=>(hi i (by omega)).1,λ i hi2=>(hi i (by omega)).2⟩
def Y8(k f:Nat)(g:Bool)(m:Mat):Prop:=Qa k m/\fc m<=f/\(g=true->fc m<f)
abbrev Av5:=(List Int×Int×Bool×Int×Int×Int×Int)×DT×List Int×List Int×Mat
abbrev Av4:=(List Int×Int×Bool×Int×Int)×DT×List Int×List Int×Mat
abbrev Av3:=(List Int×Int×Bool×Int)×DT×List Int×List Int×Mat
abbrev A8D:=(List Int×Int×Bool)×DT×List Int×List Int×Mat
theorem Agq(h:DOk c w n t e)(hN:2000000<N)(hL:SOk t.length L){pl us:List Int}(hE:ApE c w n t e L pl us){f:Nat}{g:Bool}{m:Mat}{x y:Int}(x0:0<=x)(x1:x<L.length)(y0:0<=y)(y1:y<L.length)(hc:cell m x.toNat y.toNat=false)(hP:Y8 L.length f g m):Ret (λ R q=>F.ua (R:=R) N N ((L,(L.length:Int),g,x,y,(us.length:Int),0),(c,w,n,t,e),pl,us,m) q) (λ o=>(o.1.1,o.1.2.1,o.1.2.2.2)=(L,(L.length:Int),x,y)/\o.2.1=(c,w,n,t,e)/\o.2.2.1=pl/\o.2.2.2.1=us/\Y8 L.length f o.1.2.2.1 o.2.2.2.2):=by
 have hl:=hL.le
 have t1:=h.t1
 obtain⟨hp1,hp2,hu1,hu2⟩:=hE
 refine rO (s:=λ R=>F.ig (R:=R) N) (λ z:Av5=>z.1.1=L/\z.1.2.1=L.length/\z.1.2.2.2.1=x/\z.1.2.2.2.2.1=y/\z.1.2.2.2.2.2.1=us.length/\0<=z.1.2.2.2.2.2.2/\z.1.2.2.2.2.2.2<=us.length/\z.2.1=(c,w,n,t,e)/\z.2.2.1=pl/\z.2.2.2.1=us/\Y8 L.length f z.1.2.2.1 z.2.2.2.2/\(cell z.2.2.2.2 x.toNat y.toNat=false\/z.1.2.2.1=true)) (λ z=>((us.length:Int)-z.1.2.2.2.2.2.2).toNat) ?_ N _ ⟨rfl,rfl,rfl,rfl,rfl,by simp,by simp,rfl,rfl,rfl,hP,.inl hc⟩ (by dsimp only;omega)
 rintro⟨⟨l,k,g',x',y',ul,j⟩,⟨c',w',n',t',e'⟩,p,u,m'⟩ ⟨g1,g2,g3,g4,g5,j0,j1,g6,g7,g8,hP',hc'⟩
 dsimp only at g1 g2 g3 g4 g5 j0 j1 g6 g7 g8 hP' hc'
 obtain⟨rfl,rfl,rfl,rfl,rfl⟩:=by simpa only[z9] using g6
 subst g1 g2 g3 g4 g7 g8 g5
 simp only[F.ig]
 refine rB (λ q=> ?_) λ q=>rL (.inr _) ⟨rfl,rfl,rfl,rfl,hP'⟩ λ _ _=>rfl
 have q:j<u.length:=by simpa using q
 obtain⟨hM,hf,hg⟩:=hP'
 have s1:=Fe hL.2 (i:=x') (by omega)
 have s2:=Fe hL.2 (i:=y') (by omega)
 have k1:=Fe hu2 (i:=j) (by omega)
 obtain⟨a1,a2,a3,a4,a5⟩:=h.go s1.1 s1.2 k1.1 k1.2
 obtain⟨b1,b2,b3,b4,b5⟩:=h.go s2.1 s2.2 k1.1 k1.2
 have p1:=Fe hp2 (i:=zA n' (zA l x'.toNat 0*w'+zA u j.toNat 0).toNat 0) (by omega)
 have p2:=Fe hp2 (i:=zA n' (zA l y'.toNat 0*w'+zA u j.toNat 0).toNat 0) (by omega)
 have r1:=hM.row (zA p (zA n' (zA l x'.toNat 0*w'+zA u j.toNat 0).toNat 0).toNat 0).toNat (by omega)
 have r2:=hM.row x'.toNat (by omega)
 have ml:=hM.len
 rw[a1,b1,Ag (n:=j+1) (by omega) (by omega)]
 refine rC (Ad j0 q) (rC (Ad x0 x1) (rC (Ad a2 a3) (rC (Ad a4 (by omega)) (rC (Ad y0 y1) (rC (Ad b2 b3) (rC (Ad b4 (by omega)) (rC (Ad p1.1 (by omega)) (rC (Ad p2.1 (by omega)) (rB (λ v=>rC (Ad x0 (by omega)) (rC (Ad y0 (by omega)) ?_)) λ v=>rL (.inl _) ⟨⟨rfl,rfl,rfl,rfl,rfl,by dsimp only;omega,by dsimp only;omega,rfl,rfl,rfl,⟨hM,hf,hg⟩,hc'⟩,by dsimp only;omega⟩ λ _ _=>rfl)))))))))
 have ne:x'.toNat≠y'.toNat:=λ e=>by
  have e:x'=y':=by omega
  subst e
  have:=hM.dia (zA p (zA n' (zA l x'.toNat 0*w'+zA u j.toNat 0).toNat 0).toNat 0).toNat (by omega)
  rw[cell] at this
  exact absurd (v.symm.trans this) (by decide)
 obtain⟨f1,f2⟩:=Atw hM (x:=x'.toNat) (y:=y'.toNat) (by omega) (by omega)
 have f3:fc (put m' x'.toNat y'.toNat)<f:=by
  rcases hc' with hc'|hc'
  ·have:=f2 hc';omega
  ·have:=hg hc';omega
 exact rL (.inl _) ⟨⟨rfl,rfl,rfl,rfl,rfl,by dsimp only;omega,by dsimp only;omega,rfl,rfl,rfl,⟨hM.put ne,Nat.le_of_lt f3,λ _=>f3⟩,.inr rfl⟩,by dsimp only;omega⟩ λ _ _=>rfl
theorem Agp(h:DOk c w n t e)(hN:2000000<N)(hL:SOk t.length L){pl us:List Int}(hE:ApE c w n t e L pl us){f:Nat}{g:Bool}{m:Mat}{x:Int}(x0:0<=x)(x1:x<L.length)(hP:Y8 L.length f g m):Ret (λ R q=>F.uc (R:=R) N N ((L,(L.length:Int),g,x,0),(c,w,n,t,e),pl,us,m) q) (λ o=>(o.1.1,o.1.2.1,o.1.2.2.2)=(L,(L.length:Int),x)/\o.2.1=(c,w,n,t,e)/\o.2.2.1=pl/\o.2.2.2.1=us/\Y8 L.length f o.1.2.2.1 o.2.2.2.2):=by
 have hl:=hL.le
 have t1:=h.t1
 refine rO (s:=λ R=>F.ii (R:=R) N) (λ z:Av4=>z.1.1=L/\z.1.2.1=L.length/\z.1.2.2.2.1=x/\0<=z.1.2.2.2.2/\z.1.2.2.2.2<=L.length/\z.2.1=(c,w,n,t,e)/\z.2.2.1=pl/\z.2.2.2.1=us/\Y8 L.length f z.1.2.2.1 z.2.2.2.2) (λ z=>((L.length:Int)-z.1.2.2.2.2).toNat) ?_ N _ ⟨rfl,rfl,rfl,by simp,by simp,rfl,rfl,rfl,hP⟩ (by dsimp only;omega)
 rintro⟨⟨l,k,g',x',y⟩,⟨c',w',n',t',e'⟩,p,u,m'⟩ ⟨g1,g2,g3,j0,j1,g6,g7,g8,hP'⟩
 dsimp only at g1 g2 g3 j0 j1 g6 g7 g8 hP'
 obtain⟨rfl,rfl,rfl,rfl,rfl⟩:=by simpa only[z9] using g6
 subst g1 g2 g3 g7 g8
 simp only[F.ii]
 refine rB (λ q=> ?_) λ q=>rL (.inr _) ⟨rfl,rfl,rfl,rfl,hP'⟩ λ _ _=>rfl
 have q:y<l.length:=by simpa using q
 have ml:=hP'.1.len
 have r2:=hP'.1.row x'.toNat (by omega)
 rw[Ag (n:=y+1) (by omega) (by omega)]
 refine rC (Ad x0 (by omega)) (rC (Ad j0 (by omega)) (rB (λ v=>rL (.inl _) ⟨⟨rfl,rfl,rfl,by dsimp only;omega,by dsimp only;omega,rfl,rfl,rfl,hP'⟩,by dsimp only;omega⟩ λ _ _=>rfl) λ v=>rD (Agq h hN hL hE x0 x1 j0 q v hP') ?_))
 rintro⟨⟨a,b,g2,x2,y2⟩,⟨c,w,n,t,e⟩,p',u',m2⟩ ⟨g1,g2,g3,g4,hP2⟩
 dsimp only at g1 g2 g3 g4 hP2⊢
 obtain⟨rfl,rfl,rfl,rfl⟩:=by simpa only[z9] using g1
 obtain⟨rfl,rfl,rfl,rfl,rfl⟩:=by simpa only[z9] using g2
 subst g3 g4
 rw[Ag (n:=y2+1) (by omega) (by omega)]
 exact rL (.inl _) ⟨⟨rfl,rfl,rfl,by dsimp only;omega,by dsimp only;omega,rfl,rfl,rfl,hP2⟩,by dsimp only;omega⟩ λ _ _=>rfl
theorem Ago(h:DOk c w n t e)(hN:2000000<N)(hL:SOk t.length L){pl us:List Int}(hE:ApE c w n t e L pl us){m:Mat}(hM:Qa L.length m):Ret (λ R q=>F.ud (R:=R) N N ((L,(L.length:Int),false,0),(c,w,n,t,e),pl,us,m) q) (λ o=>(o.1.1,o.1.2.1)=(L,(L.length:Int))/\o.2.1=(c,w,n,t,e)/\o.2.2.1=pl/\o.2.2.2.1=us/\Y8 L.length (fc m) o.1.2.2 o.2.2.2.2):=by
 have hl:=hL.le
 have t1:=h.t1
 refine rO (s:=λ R=>F.il (R:=R) N) (λ z:Av3=>z.1.1=L/\z.1.2.1=L.length/\0<=z.1.2.2.2/\z.1.2.2.2<=L.length/\z.2.1=(c,w,n,t,e)/\z.2.2.1=pl/\z.2.2.2.1=us/\Y8 L.length (fc m) z.1.2.2.1 z.2.2.2.2) (λ z=>((L.length:Int)-z.1.2.2.2).toNat) ?_ N _ ⟨rfl,rfl,by simp,by simp,rfl,rfl,rfl,hM,yC _,λ q=>by cases q⟩ (by dsimp only;omega)
 rintro⟨⟨l,k,g',x⟩,⟨c',w',n',t',e'⟩,p,u,m'⟩ ⟨g1,g2,j0,j1,g6,g7,g8,hP'⟩
 dsimp only at g1 g2 j0 j1 g6 g7 g8 hP'
 obtain⟨rfl,rfl,rfl,rfl,rfl⟩:=by simpa only[z9] using g6
 subst g1 g2 g7 g8
 simp only[F.il]
 refine rB (λ q=>rD (Agp h hN hL hE j0 (by simpa using q) hP') ?_) λ q=>rL (.inr _) ⟨rfl,rfl,rfl,rfl,hP'⟩ λ _ _=>rfl
 have q:x<l.length:=by simpa using q
 rintro⟨⟨a,b,g2,x2⟩,⟨c,w,n,t,e⟩,p',u',m2⟩ ⟨g1,g2,g3,g4,hP2⟩
 dsimp only at g1 g2 g3 g4 hP2⊢
 obtain⟨rfl,rfl,rfl⟩:=by simpa only[z9] using g1
 obtain⟨rfl,rfl,rfl,rfl,rfl⟩:=by simpa only[z9] using g2
 subst g3 g4
 rw[Ag (n:=x2+1) (by omega) (by omega)]
 exact rL (.inl _) ⟨⟨rfl,rfl,by dsimp only;omega,by dsimp only;omega,rfl,rfl,rfl,hP2⟩,by dsimp only;omega⟩ λ _ _=>rfl
theorem Avn{k:Nat}{m:Mat}(h:Qa k m)(hk:k<=4000):fc m<=16000000:=by
 have:∀l:Mat,(∀r∈l,r.length=k)->fc l<=l.length*4000:=by
  intro l
  induction l with
  | nil=>intro _;simp[fc]
  | cons r l ih=>
   intro hr
   have h1:=ih λ r hr2=>hr r (List.mem_cons_of_mem _ hr2)
   have h2:r.count false<=r.length:=xC
   have h3:=hr r List.mem_cons_self
   have e:fc (r::l)=r.count false+fc l:=rfl
   rw[e,zB,yV]
   omega
 have h2:=this m λ r hr=>by
  obtain⟨i,hi,rfl⟩:=List.mem_iff_getElem.1 hr
  have:=h.row i (by rw[<-h.len];exact hi)
  rw[List.getD_eq_getElem?_getD,List.getElem?_eq_getElem hi] at this
  exact this
 rw[h.len] at h2
 omega
theorem apart(h:DOk c w n t e)(hN:200000000<N)(hL:SOk t.length L)(h1:1<=L.length):Ret (λ R q=>F.rk (R:=R) N ((c,w,n,t,e),L) q) (λ o=>Qa L.length o):=by
 have hl:=hL.le
 have t1:=h.t1
 simp only[F.rk]
 rw[zD]
 refine rC (by simp) (rC (Bo (by omega) (by omega)) (rD (Aik h (by omega) hL h1) ?_))
 rintro⟨⟨a,b⟩,⟨c',w',n',t',e'⟩,pl⟩ ⟨g1,g2,p1,p2⟩
 dsimp only at g1 g2 p1 p2⊢
 obtain⟨rfl,rfl⟩:=by simpa only[z9] using g1
 obtain⟨rfl,rfl,rfl,rfl,rfl⟩:=by simpa only[z9] using g2
 refine rD (Ail (b:=0) h (by omega)) ?_
 rintro⟨⟨a',b'⟩,⟨c,w,n,t,e⟩,pl',us⟩ ⟨g1,g2,g3,u1,u2⟩
 dsimp only at g1 g2 g3 u1 u2⊢
 obtain⟨rfl,rfl⟩:=by simpa only[z9] using g1
 obtain⟨rfl,rfl,rfl,rfl,rfl⟩:=by simpa only[z9] using g2
 subst g3
 refine rD (Aim h (by omega) hL) ?_
 rintro⟨⟨a2,b2⟩,⟨c',w',n',t',e'⟩,pl2,us2,m⟩ ⟨g1,g2,g3,g4,hM⟩
 dsimp only at g1 g2 g3 g4 hM⊢
 obtain⟨rfl,rfl⟩:=by simpa only[z9] using g1
 obtain⟨rfl,rfl,rfl,rfl,rfl⟩:=by simpa only[z9] using g2
 subst g3 g4
 have hE:ApE c' w' n' t' e' a2 pl2 us2:=⟨p1,p2,u1,u2⟩
 have L8:=rO (s:=λ R=>F.kb (R:=R) N) (app:=λ _ d k=>k d) (P:=λ o:Mat=>Qa a2.length o) (λ z:A8D=>z.1.1=a2/\z.1.2.1=a2.length/\z.2.1=(c',w',n',t',e')/\z.2.2.1=pl2/\z.2.2.2.1=us2/\Qa a2.length z.2.2.2.2) (λ z=>if z.1.2.2 then fc z.2.2.2.2+1 else 0) (λ z hz=>by
  obtain⟨⟨a,b,g⟩,⟨c,w,n,t,e⟩,p,u,m'⟩:=z
  obtain⟨g1,g2,g3,g4,g5,hM'⟩:=hz
  dsimp only at g1 g2 g3 g4 g5 hM'
  obtain⟨rfl,rfl,rfl,rfl,rfl⟩:=by simpa only[z9] using g3
  subst g1 g2 g4 g5
  simp only[F.kb]
  refine rB (λ q=>rD (Ago h (by omega) hL hE hM') ?_) λ q=>rL (.inr _) hM' λ _ _=>rfl
  rintro⟨⟨a3,b3,g3⟩,⟨c',w',n',t',e'⟩,p',u',m2⟩ ⟨g1,g2,g4,g5,hP⟩
  dsimp only at g1 g2 g4 g5 hP⊢
  obtain⟨rfl,rfl⟩:=by simpa only[z9] using g1
  obtain⟨rfl,rfl,rfl,rfl,rfl⟩:=by simpa only[z9] using g2
  subst g4 g5
  refine rL (.inl _) ⟨⟨rfl,rfl,rfl,rfl,rfl,hP.1⟩, ?_⟩ λ _ _=>rfl
  dsimp only
  rw[q,if_pos rfl]
  split
  ·have:=hP.2.2 ‹_›;omega
  ·omega) N ((a2,(a2.length:Int),true),(c',w',n',t',e'),pl2,us2,m) ⟨rfl,rfl,rfl,rfl,rfl,hM⟩ (by have:=Avn hM (by omega);simp only[if_pos];omega)
 exact rD L8 λ o ho=>rL o ho λ _ _=>rfl
end
abbrev T9:=List Int×List Int×List Int×List Int×List Int×List Int×List Int×List Int×List Int
abbrev M8T:=Int×List Int×List (List Int)×Int×T9
abbrev Au7:=Int×List (List Int)×Int×List Int×T9
theorem Af5{rows:List (List Int)}{P:List Int->Prop}(h:∀r∈rows,P r){i:Int}(i1:i.toNat<rows.length):P (zA rows i.toNat []):=by
 rw[List.getD_eq_getElem?_getD,List.getElem?_eq_getElem i1];exact h _ (zG _)
section
variable{c n t e:List Int}{w:Int}{N:Nat}{L:List Int}
theorem Apq(hN:2000000<N){d:DT}{z s:Int}{m:Mat}(hM:Qa L.length m){ch a1 a2 a3 a4:List Int}{i nn:Int}(i0:0<=i)(i1:i<L.length)(hl:L.length<=4000):Ret (λ R q=>F.ue (R:=R) N N ((i,s,0,nn,i),d,z,L,m,ch,a1,a2,a3,a4) q) (λ o=>o.1.1=s/\0<=o.1.2.1/\o.1.2.1<L.length/\o.1.2.2=(nn,i)/\o.2=(d,z,L,m,ch,a1,a2,a3,a4)):=by
 have ml:=hM.len
 refine rO (s:=λ R=>F.im (R:=R) N) (λ y=>y.1.1=i/\y.1.2.1=s/\0<=y.1.2.2.1/\y.1.2.2.1<=i/\y.1.2.2.2=(nn,i)/\y.2=(d,z,L,m,ch,a1,a2,a3,a4)) (λ y=>(i-y.1.2.2.1).toNat) ?_ N _ ⟨rfl,rfl,by simp,by dsimp only;omega,rfl,rfl⟩ (by dsimp only;omega)
 rintro⟨⟨i',s',k,nn',i''⟩,⟨c1,c2,c3,c4,c5⟩,z',l',m',ch',b1,b2,b3,b4⟩ ⟨g1,g2,k0,k1,g3,g4⟩
 dsimp only at g1 g2 k0 k1 g3
 simp only[z9] at g3 g4
 obtain⟨rfl,rfl⟩:=g3
 obtain⟨rfl,rfl,rfl,rfl,rfl,rfl,rfl,rfl,rfl⟩:=g4
 subst g1 g2
 simp only[F.im]
 have hr:=hM.row i'.toNat (by omega)
 rw[Ag (n:=k+1) (by omega) (by omega)]
 refine rC (Ad i0 (by omega)) (rC (Ad k0 (by omega)) (rB (λ v=> ?_) λ v=>rL (.inr _) ⟨rfl,k0,by dsimp only;omega,rfl,rfl⟩ λ _ _=>rfl))
 have ne:k≠i':=λ q=>by
  have:=hM.dia i'.toNat (by omega)
  rw[q] at v
  exact absurd (v.symm.trans this) (by decide)
 exact rL (.inl _) ⟨⟨rfl,rfl,by dsimp only;omega,by dsimp only;omega,rfl,rfl⟩,by dsimp only;omega⟩ λ _ _=>rfl
theorem App(h:DOk c w n t e)(hN:2000000<N)(hL:SOk t.length L){z:Int}{m:Mat}(hM:Qa L.length m){a1 a2 a3 a4:List Int}:Ret (λ R q=>F.uf (R:=R) N N (((L.length:Int),0),(c,w,n,t,e),z,L,m,zP t.length (0:Int),a1,a2,a3,a4) q) (λ o=>o.1=(c,w,n,t,e)/\o.2.2.1.length=t.length/\(∀x∈o.2.2.1,0<=x/\x<t.length)/\o.2.2.2=(a1,a2,a3,a4)):=by
 have hl:=hL.le
 have t0:=h.t0
 have t1:=h.t1
 refine rO (s:=λ R=>F.io (R:=R) N) (λ y=>y.1.1=(L.length:Int)/\0<=y.1.2/\y.1.2<=L.length/\y.2.1=(c,w,n,t,e)/\y.2.2.2.1=L/\y.2.2.2.2.1=m/\y.2.2.2.2.2.1.length=t.length/\(∀x∈y.2.2.2.2.2.1,0<=x/\x<t.length)/\y.2.2.2.2.2.2=(a1,a2,a3,a4)) (λ y=>((L.length:Int)-y.1.2).toNat) ?_ N _ ⟨rfl,by simp,by simp,rfl,rfl,rfl,zO,λ x hx=>by have:=yS hx;omega,rfl⟩ (by dsimp only;omega)
 rintro⟨⟨nn,i⟩,d,z',l,m',ch,b⟩ ⟨g1,i0,i1,g2,g3,g4,hc,hx,g5⟩
 dsimp only at g1 i0 i1 g2 g3 g4 hc hx g5
 subst g1 g2 g3 g4 g5
 simp only[F.io]
 refine rB (λ q=> ?_) λ q=>rL (.inr _) ⟨rfl,hc,hx,rfl⟩ λ _ _=>rfl
 have q:i<l.length:=by simpa using q
 have s1:=Fe hL.2 (i:=i) (by omega)
 refine rC (Ad i0 q) (rD (Apq hN hM i0 q (by omega)) ?_)
 rintro⟨⟨s,k,nn',i'⟩,⟨c1,c2,c3,c4,c5⟩,z2,l2,m2,ch2,b1,b2,b3,b4⟩ ⟨g1,k0,k1,g3,g4⟩
 dsimp only at g1 k0 k1 g3⊢
 simp only[z9] at g3 g4
 obtain⟨rfl,rfl⟩:=g3
 obtain⟨⟨rfl,rfl,rfl,rfl,rfl⟩,rfl,rfl,rfl,rfl,rfl,rfl,rfl,rfl⟩:=g4
 subst g1
 have s2:=Fe hL.2 (i:=k) (by omega)
 rw[Ag (n:=i'+1) (by omega) (by omega)]
 refine rC (Ad k0 k1) (rC (Ad s1.1 (by omega)) (rL (.inl _) ⟨⟨rfl,by dsimp only;omega,by dsimp only;omega,rfl,rfl,rfl,by simp only[zQ];exact hc,λ y hy=> ?_,rfl⟩,by dsimp only;omega⟩ λ _ _=>rfl))
 rcases yP hy with hy|rfl
 ·exact hx y hy
 ·exact s2
def Kb(k:Nat)(r:List Int):Prop:=r.length=256/\∀x∈r,0<=x/\x<k
theorem Aps(h:DOk c w n t e)(hN:2000000<N){z k:Int}{ch od:List Int}{rows:List (List Int)}{a:List Int×List Int×List Int×List Int}(hc:ch.length=t.length)(hx:∀x∈ch,0<=x/\x<t.length)(ho:SOk t.length od)(k0:0<=k)(k1:k<od.length):Ret (λ R q=>F.ug (R:=R) N N ((k,0),(c,w,n,t,e),z,ch,od,rows,[],a) q) (λ o=>o.1=k/\o.2.1=(c,w,n,t,e)/\o.2.2.2.1=ch/\SOk t.length o.2.2.2.2.1/\od.length<=o.2.2.2.2.1.length/\o.2.2.2.2.2.1=rows/\Kb o.2.2.2.2.1.length o.2.2.2.2.2.2.1/\o.2.2.2.2.2.2.2=a):=by
 have t1:=h.t1
 have cl:=h.cl
 have w0:=h.w0
 refine rO (s:=λ R=>F.ip (R:=R) N) (λ y=>y.1.1=k/\0<=y.1.2/\y.1.2<=256/\y.2.1=(c,w,n,t,e)/\y.2.2.2.1=ch/\SOk t.length y.2.2.2.2.1/\od.length<=y.2.2.2.2.1.length/\y.2.2.2.2.2.1=rows/\(y.2.2.2.2.2.2.1.length:Int)=y.1.2/\(∀x∈y.2.2.2.2.2.2.1,0<=x/\x<y.2.2.2.2.1.length)/\y.2.2.2.2.2.2.2=a) (λ y=>(256-y.1.2).toNat) ?_ N _ ⟨rfl,by simp,by simp,rfl,rfl,ho,yC _,rfl,by simp,λ x hx=>absurd hx (by simp),rfl⟩ (by dsimp only;omega)
 rintro⟨⟨k',j⟩,⟨c',w',n',t',e'⟩,z',ch',o,rows',row,a'⟩ ⟨g1,j0,j1,g2,g3,ho',hle,g4,hr,hrx,g5⟩
 dsimp only at g1 j0 j1 g2 g3 ho' hle g4 hr hrx g5
 obtain⟨rfl,rfl,rfl,rfl,rfl⟩:=by simpa only[z9] using g2
 subst g1 g3 g4 g5
 simp only[F.ip]
 refine rB (λ q=> ?_) λ q=>rL (.inr _) ⟨rfl,rfl,rfl,ho',hle,rfl,⟨by have:¬j<256:=(by simpa using q);dsimp only;omega,hrx⟩,rfl⟩ λ _ _=>rfl
 have q:j<256:=by simpa using q
 have hol:=ho'.le
 have s1:=Fe ho'.2 (i:=k') (by omega)
 have c1:=Fe h.ci (i:=j) (by omega)
 obtain⟨q1,q2,q3,q4,q5⟩:=h.go s1.1 s1.2 c1.1 (by omega)
 have x1:=Fe hx (i:=zA n' (zA o k'.toNat 0*w'+zA c' j.toNat 0).toNat 0) (by omega)
 have go:Ret (λ R k=>F.vd (R:=R) ((c',w',n',t',e'),zA o k'.toNat 0,j) k) (λ r=>r=zA n' (zA o k'.toNat 0*w'+zA c' j.toNat 0).toNat 0):=by
  simp only[F.vd]
  rw[q1]
  exact rC (Ad j0 (by omega)) (rC (Ad q2 q3) (rL _ rfl λ _ _=>rfl))
 rw[Ag (n:=j+1) (by omega) (by omega)]
 refine rC (Ad k0 (by omega)) (rD go ?_)
 rintro _ rfl
 have fin:∀(o2:List Int) (r:Int),SOk t'.length o2->o.length<=o2.length->0<=r->r<o2.length->RetK (K:=λ R=>(((Int×Int)×DT×Int×List Int×List Int×List (List Int)×List Int×List Int×List Int×List Int×List Int)->Option R)×((Int×DT×Int×List Int×List Int×List (List Int)×List Int×List Int×List Int×List Int×List Int)->Option R)) (aS λ _ d k=>k d) (λ R q=>chk (yW (yD row+yD [r]) (Ap 8))<|q.1 ((k',j+1),(c',w',n',t',e'),z',ch',o2,rows',row++[r],a')) (Sm (λ y=>y.1.1=k'/\0<=y.1.2/\y.1.2<=256/\y.2.1=(c',w',n',t',e')/\y.2.2.2.1=ch'/\SOk t'.length y.2.2.2.2.1/\od.length<=y.2.2.2.2.1.length/\y.2.2.2.2.2.1=rows'/\(y.2.2.2.2.2.2.1.length:Int)=y.1.2/\(∀x∈y.2.2.2.2.2.2.1,0<=x/\x<y.2.2.2.2.1.length)/\y.2.2.2.2.2.2.2=a') (λ y=>(256-y.1.2).toNat) ((k',j),(c',w',n',t',e'),z',ch',o,rows',row,a') (λ o=>o.1=k'/\o.2.1=(c',w',n',t',e')/\o.2.2.2.1=ch'/\SOk t'.length o.2.2.2.2.1/\od.length<=o.2.2.2.2.1.length/\o.2.2.2.2.2.1=rows'/\Kb o.2.2.2.2.1.length o.2.2.2.2.2.2.1/\o.2.2.2.2.2.2.2=a')):=λ o2 r a1 a2 a3 a4=>
  rC (Bo (by simp only[zB,zC];omega) (by omega)) (rL (.inl _) ⟨⟨rfl,by dsimp only;omega,by dsimp only;omega,rfl,rfl,a1,by dsimp only;omega,rfl,by simp only[zF,zB,zC];omega,λ x hx=>by
   rcases List.mem_append.1 hx with hx|hx
   ·have:=hrx x hx;dsimp only;omega
   ·cases List.mem_singleton.1 hx;exact⟨a3,a4⟩,rfl⟩,by dsimp only;omega⟩ λ _ _=>rfl)
 refine rC (Ad q4 (by omega)) (rD (place o _ (by omega) hN) λ v hv=>rB (λ y=> ?_) λ y=> ?_)
 ·have y:v<0:=by simpa using y
  have hs:=ho'.snoc (hv.resolve_right (by omega)).2 x1.1 x1.2
  have hsl:=hs.le
  refine rC (Bo (by simp only[zB,zC];omega) (by omega)) (rD (place _ _ (by omega) hN) λ u hu=> ?_)
  have hu:=hu.resolve_left λ p=>p.2 (by simp)
  exact fin _ u hs (by simp only[zF];omega) hu.1 hu.2.1
 ·have y:¬v<0:=by simpa using y
  refine rD (place o _ (by omega) hN) λ u hu=> ?_
  have hv2:=hv.resolve_left (by omega)
  have hu:=hu.resolve_left λ p=>p.2 hv2.2.2
  exact fin o u ho' (yC _) hu.1 hu.2.1
end
theorem Kb.mono{k m:Nat}{r:List Int}(h:Kb k r)(e:k<=m):Kb m r:=⟨h.1,λ x hx=>by have:=h.2 x hx;omega⟩
section
variable{c n t e:List Int}{w:Int}{N:Nat}
theorem Apr(h:DOk c w n t e)(hN:2000000<N){z s:Int}{ch:List Int}{a:List Int×List Int×List Int×List Int}(hc:ch.length=t.length)(hx:∀x∈ch,0<=x/\x<t.length)(s0:0<=s)(s1:s<t.length):Ret (λ R q=>F.uh (R:=R) N N (0,(c,w,n,t,e),z,ch,[s],[],a) q) (λ o=>o.1=(c,w,n,t,e)/\SOk t.length o.2.2.1/\1<=o.2.2.1.length/\o.2.2.2.1.length=o.2.2.1.length/\(∀r∈o.2.2.2.1,Kb o.2.2.1.length r)/\o.2.2.2.2=a):=by
 have t1:=h.t1
 refine rO (s:=λ R=>F.iq (R:=R) N) (λ y=>0<=y.1/\y.1<=y.2.2.2.2.1.length/\y.2.1=(c,w,n,t,e)/\y.2.2.2.1=ch/\SOk t.length y.2.2.2.2.1/\1<=y.2.2.2.2.1.length/\(y.2.2.2.2.2.1.length:Int)=y.1/\(∀r∈y.2.2.2.2.2.1,Kb y.2.2.2.2.1.length r)/\y.2.2.2.2.2.2=a) (λ y=>((t.length:Int)-y.1).toNat) ?_ N _ ⟨by simp,by simp,rfl,rfl,⟨by simp,λ x hx=>by cases List.mem_singleton.1 hx;exact⟨s0,s1⟩⟩,by simp,by simp,λ r hr=>absurd hr (by simp),rfl⟩ (by dsimp only;omega)
 rintro⟨k,d,z',ch',o,rows,f1,f2,f3,f4⟩ ⟨k0,k1,g1,g2,ho,h1,hr,hrx,g3⟩
 dsimp only at k0 k1 g1 g2 ho h1 hr hrx g3
 subst g1 g2 g3
 simp only[F.iq]
 refine rB (λ q=>rD (Aps h hN hc hx ho k0 (by simpa using q)) ?_) λ q=>rL (.inr _) ⟨rfl,ho,h1,by have:¬k<o.length:=(by simpa using q);dsimp only;omega,hrx,rfl⟩ λ _ _=>rfl
 have q:k<o.length:=by simpa using q
 rintro⟨k',⟨c1,c2,c3,c4,c5⟩,z2,ch2,o2,rows2,row,a1,a2,a3,a4⟩ ⟨g1,g2,g3,ho2,hle,g4,hrow,g5⟩
 dsimp only at g1 g2 g3 ho2 hle g4 hrow g5⊢
 obtain⟨rfl,rfl,rfl,rfl,rfl⟩:=by simpa only[z9] using g2
 obtain⟨rfl,rfl,rfl,rfl⟩:=by simpa only[z9] using g5
 subst g1 g3 g4
 have hol:=ho2.le
 rw[Ag (n:=k'+1) (by omega) (by omega)]
 refine rC (S1 (by simp only[zB,zC];omega)) (rL (.inl _) ⟨⟨by dsimp only;omega,by dsimp only;omega,rfl,rfl,ho2,by dsimp only;omega,by simp only[zF,zB,zC];omega,λ r hr2=> ?_,rfl⟩,by dsimp only;omega⟩ λ _ _=>rfl)
 rcases List.mem_append.1 hr2 with hr2|hr2
 ·exact(hrx r hr2).mono hle
 ·cases List.mem_singleton.1 hr2;exact hrow
theorem Als(hN:2000000<N){K:Nat}{d:DT}{z q ch cls j hd nn k:Int}{sm:Bool}{od hs:List Int}{rows:List (List Int)}{a:List Int×List Int×List Int×List Int×List Int×List Int×List Int×List Int}(hrl:rows.length<=4000)(hr:∀r∈rows,Kb K r)(c0:0<=ch)(c1:ch<256)(h0:0<=hd)(h1:hd<256):Ret (λ R u=>F.sr (R:=R) N N ((ch,cls,j,hd,sm,nn,k,(rows.length:Int),0),d,z,od,rows,q,hs,a) u) (λ o=>(o.1.1,o.1.2.1,o.1.2.2.1,o.1.2.2.2.2)=(ch,cls,j,nn,k)/\o.2=(d,z,od,rows,q,hs,a)):=by
 refine rO (s:=λ R=>F.du (R:=R) N) (λ y=>(y.1.1,y.1.2.1,y.1.2.2.1,y.1.2.2.2.1)=(ch,cls,j,hd)/\(y.1.2.2.2.2.2.1,y.1.2.2.2.2.2.2.1,y.1.2.2.2.2.2.2.2.1)=(nn,k,(rows.length:Int))/\0<=y.1.2.2.2.2.2.2.2.2/\y.1.2.2.2.2.2.2.2.2<=rows.length/\y.2=(d,z,od,rows,q,hs,a)) (λ y=>((rows.length:Int)-y.1.2.2.2.2.2.2.2.2).toNat) ?_ N _ ⟨rfl,rfl,by simp,by simp,rfl⟩ (by dsimp only;omega)
 rintro⟨⟨ch',cls',j',hd',sm',nn',k',rl,i⟩,d',z',od',rows',q',hs',a'⟩ ⟨g1,g2,i0,i1,g3⟩
 dsimp only at i0 i1
 simp only[z9] at g1 g2 g3
 obtain⟨rfl,rfl,rfl,rfl⟩:=g1
 obtain⟨rfl,rfl,rfl⟩:=g2
 obtain⟨rfl,rfl,rfl,rfl,rfl,rfl,rfl⟩:=g3
 simp only[F.du]
 refine rB (λ x=> ?_) λ x=>rL (.inr _) ⟨rfl,rfl⟩ λ _ _=>rfl
 have x:i<rows'.length:=by simpa using x
 have row:=(Af5 hr (i:=i) (by omega)).1
 rw[Ag (n:=i+1) (by omega) (by omega)]
 refine rC (Ad i0 x) (rC (Ad h0 (by omega)) (rC (Ad c0 (by omega)) (rB (λ _=> ?_) λ _=> ?_)))
 ·exact rL (.inl _) ⟨⟨rfl,rfl,by dsimp only;omega,by dsimp only;omega,rfl⟩,by dsimp only;omega⟩ λ _ _=>rfl
 ·exact rL (.inl _) ⟨⟨rfl,rfl,by dsimp only;omega,by dsimp only;omega,rfl⟩,by dsimp only;omega⟩ λ _ _=>rfl
theorem Alr(hN:2000000<N){K:Nat}{d:DT}{z q ch:Int}{od hs:List Int}{rows:List (List Int)}{a:List Int×List Int×List Int×List Int×List Int×List Int×List Int×List Int}(hrl:rows.length<=4000)(hr:∀r∈rows,Kb K r)(c0:0<=ch)(c1:ch<256)(hhl:hs.length<=256)(hh:∀x∈hs,0<=x/\x<256):Ret (λ R u=>F.su (R:=R) N N ((ch,-1,(hs.length:Int),0),d,z,od,rows,q,hs,a) u) (λ o=>o.1.1=ch/\(o.1.2=-1\/0<=o.1.2/\o.1.2<hs.length)/\o.2=(d,z,od,rows,q,hs,a)):=by
 refine rO (s:=λ R=>F.dw (R:=R) N) (λ y=>y.1.1=ch/\(y.1.2.1=-1\/0<=y.1.2.1/\y.1.2.1<hs.length)/\y.1.2.2.1=hs.length/\0<=y.1.2.2.2/\y.1.2.2.2<=hs.length/\y.2=(d,z,od,rows,q,hs,a)) (λ y=>((hs.length:Int)-y.1.2.2.2).toNat) ?_ N _ ⟨rfl,.inl rfl,rfl,by simp,by simp,rfl⟩ (by dsimp only;omega)
 rintro⟨⟨ch',cls,nn,k⟩,⟨e1,e2,e3,e4,e5⟩,z',od',rows',q',hs',f1,f2,f3,f4,f5,f6,f7,f8⟩ ⟨g1,hc,g2,k0,k1,g3⟩
 dsimp only at g1 hc g2 k0 k1
 simp only[z9] at g3
 obtain⟨rfl,rfl,rfl,rfl,rfl,rfl,rfl⟩:=g3
 subst g1 g2
 simp only[F.dw]
 refine rB (λ x=> ?_) λ x=>rL (.inr _) ⟨rfl,hc,rfl⟩ λ _ _=>rfl
 have x:k<hs'.length:=by simpa using x
 have hd:=Fe hh (i:=k) (by omega)
 refine rC (Ad k0 x) (rD (Als hN hrl hr c0 c1 hd.1 hd.2) ?_)
 rintro⟨⟨ch2,cls2,j2,sm,nn2,k2⟩,⟨d1,d2,d3,d4,d5⟩,z2,od2,rows2,q2,hs2,a1,a2,a3,a4,a5,a6,a7,a8⟩ ⟨g1,g2⟩
 simp only[z9] at g1 g2
 obtain⟨rfl,rfl,rfl,rfl,rfl⟩:=g1
 obtain⟨⟨rfl,rfl,rfl,rfl,rfl⟩,rfl,rfl,rfl,rfl,rfl,rfl,rfl,rfl,rfl,rfl,rfl,rfl,rfl⟩:=g2
 dsimp only
 rw[Ag (n:=k2+1) (by omega) (by omega)]
 refine rB (λ _=> ?_) λ _=> ?_
 ·exact rL (.inl _) ⟨⟨rfl,.inr ⟨k0,x⟩,rfl,by dsimp only;omega,by dsimp only;omega,rfl⟩,by dsimp only;omega⟩ λ _ _=>rfl
 ·exact rL (.inl _) ⟨⟨rfl,hc,rfl,by dsimp only;omega,by dsimp only;omega,rfl⟩,by dsimp only;omega⟩ λ _ _=>rfl
abbrev S8D:=Int×DT×M8T
theorem Apt(hN:2000000<N){K:Nat}{d:DT}{z q:Int}{od a1 a2 a3 a4:List Int}{rows:List (List Int)}(hrl:rows.length<=4000)(hr:∀r∈rows,Kb K r):Ret (λ R u=>F.ui (R:=R) N N (0,d,z,od,rows,q,[],a1,a2,a3,a4,[],[],[],[]) u) (λ o=>o.1=d/\o.2.2.1=od/\o.2.2.2.1=rows/\o.2.2.2.2.2.1.length<=256/\(∀x∈o.2.2.2.2.2.1,0<=x/\x<256)/\o.2.2.2.2.2.2.2.2.2.2.1.length=256/\(∀x∈o.2.2.2.2.2.2.2.2.2.2.1,0<=x/\x<o.2.2.2.2.2.1.length)/\o.2.2.2.2.2.2.2.2.2.2.2=([],[],[])):=by
 refine rO (s:=λ R=>F.ir (R:=R) N) (λ y:S8D=>0<=y.1/\y.1<=256/\y.2.1=d/\y.2.2.2.1=od/\y.2.2.2.2.1=rows/\(y.2.2.2.2.2.2.1.length:Int)<=y.1/\(∀x∈y.2.2.2.2.2.2.1,0<=x/\x<256)/\(y.2.2.2.2.2.2.2.2.2.2.2.1.length:Int)=y.1/\(∀x∈y.2.2.2.2.2.2.2.2.2.2.2.1,0<=x/\x<y.2.2.2.2.2.2.1.length)/\y.2.2.2.2.2.2.2.2.2.2.2.2=([],[],[])) (λ y=>(256-y.1).toNat) ?_ N _ ⟨by simp,by simp,rfl,rfl,rfl,by simp,λ x hx=>absurd hx (by simp),by simp,λ x hx=>absurd hx (by simp),rfl⟩ (by dsimp only;omega)
 rintro⟨ch,⟨e1,e2,e3,e4,e5⟩,z',od',rows',q',hs,b1,b2,b3,b4,cls,b5,b6,b7⟩ ⟨c0,c1,g1,g2,g3,hl,hh,hcl,hcx,g4⟩
 dsimp only at c0 c1 g1 g2 g3 hl hh hcl hcx g4
 simp only[z9] at g4
 obtain⟨rfl,rfl,rfl⟩:=g4
 subst g1 g2 g3
 simp only[F.ir]
 refine rB (λ x=>rD (Alr hN hrl hr c0 (by simpa using x) (by omega) hh) ?_) λ x=>rL (.inr _) ⟨rfl,rfl,rfl,by dsimp only;omega,hh,by have:¬ch<256:=(by simpa using x);dsimp only;omega,hcx,rfl⟩ λ _ _=>rfl
 have x:ch<256:=by simpa using x
 rintro⟨⟨ch2,v⟩,⟨d1,d2,d3,d4,d5⟩,z2,od2,rows2,q2,hs2,a1,a2,a3,a4,a5,a6,a7,a8⟩ ⟨g1,hv,g2⟩
 dsimp only at g1 hv
 simp only[z9] at g2
 obtain⟨⟨rfl,rfl,rfl,rfl,rfl⟩,rfl,rfl,rfl,rfl,rfl,rfl,rfl,rfl,rfl,rfl,rfl,rfl,rfl⟩:=g2
 subst g1
 dsimp only
 rw[Ag (n:=ch2+1) (by omega) (by omega)]
 refine rB (λ y=>rC (Bo (by simp only[zB,zC];omega) (by omega)) (rC (Bo (by simp only[zB,zC];omega) (by omega)) (rL (.inl _) ⟨⟨by dsimp only;omega,by dsimp only;omega,rfl,rfl,rfl, ?_,λ u hu=> ?_, ?_,λ u hu=> ?_,rfl⟩,by dsimp only;omega⟩ λ _ _=>rfl))) λ y=>rC (Bo (by simp only[zB,zC];omega) (by omega)) (rL (.inl _) ⟨⟨by dsimp only;omega,by dsimp only;omega,rfl,rfl,rfl,by dsimp only;omega,hh, ?_,λ u hu=> ?_,rfl⟩,by dsimp only;omega⟩ λ _ _=>rfl)
 ·simp only[zF,zB,zC];omega
 ·rcases List.mem_append.1 hu with hu|hu
  ·exact hh u hu
  ·cases List.mem_singleton.1 hu;exact⟨c0,x⟩
 ·simp only[zF,zB,zC];omega
 ·simp only[zF,zB,zC]
  rcases List.mem_append.1 hu with hu|hu
  ·have:=hcx u hu;omega
  ·cases List.mem_singleton.1 hu;omega
 ·simp only[zF,zB,zC];omega
 ·have y:¬v<0:=by simpa using y
  rcases List.mem_append.1 hu with hu|hu
  ·exact hcx u hu
  ·cases List.mem_singleton.1 hu;dsimp only;omega
abbrev Av7:=(Int×Int×Int×Int×Int×Int)×DT×Au7
abbrev Av6:=(Int×Int)×DT×Au7
theorem Alv(hN:2000000<N){K:Nat}{d:DT}{z q s kn k:Int}{hs od a1 a2 a3 a4 cls nx:List Int}{b:List Int×List Int}{rows:List (List Int)}(hr:∀r∈rows,Kb K r)(hh:∀x∈hs,0<=x/\x<256)(hhl:hs.length<=256)(k0:0<=k)(k1:k<rows.length)(hnl:nx.length<=1024000)(hn:∀x∈nx,0<=x/\x<K):Ret (λ R u=>F.sv (R:=R) N N ((k,s,kn,k,(hs.length:Int),0),d,z,rows,q,hs,od,a1,a2,a3,a4,cls,nx,b) u) (λ o=>o.1=(s,kn,k)/\o.2.1=d/\o.2.2.2.1=rows/\o.2.2.2.2.1=q/\o.2.2.2.2.2.1=hs/\o.2.2.2.2.2.2.1=od/\o.2.2.2.2.2.2.2.2.2.2.2.1=cls/\o.2.2.2.2.2.2.2.2.2.2.2.2.1.length=nx.length+hs.length/\(∀x∈o.2.2.2.2.2.2.2.2.2.2.2.2.1,0<=x/\x<K)/\o.2.2.2.2.2.2.2.2.2.2.2.2.2=b):=by
 refine rO (s:=λ R=>F.dx (R:=R) N) (λ y:Av7=>(y.1.1,y.1.2.1,y.1.2.2.1,y.1.2.2.2.1)=(k,s,kn,k)/\y.1.2.2.2.2.1=hs.length/\0<=y.1.2.2.2.2.2/\y.1.2.2.2.2.2<=hs.length/\y.2.1=d/\y.2.2.2.1=rows/\y.2.2.2.2.1=q/\y.2.2.2.2.2.1=hs/\y.2.2.2.2.2.2.1=od/\y.2.2.2.2.2.2.2.2.2.2.2.1=cls/\(y.2.2.2.2.2.2.2.2.2.2.2.2.1.length:Int)=nx.length+y.1.2.2.2.2.2/\(∀x∈y.2.2.2.2.2.2.2.2.2.2.2.2.1,0<=x/\x<K)/\y.2.2.2.2.2.2.2.2.2.2.2.2.2=b) (λ y=>((hs.length:Int)-y.1.2.2.2.2.2).toNat) ?_ N _ ⟨rfl,rfl,by simp,by simp,rfl,rfl,rfl,rfl,rfl,rfl,by simp,hn,rfl⟩ (by dsimp only;omega)
 rintro⟨⟨k',s',kn',k'',hl,j⟩,d',z',rows',q',hs',od',b1,b2,b3,b4,cls',nx',b'⟩ ⟨g1,g2,j0,j1,g3,g4,g5,g6,g7,g8,hl1,hx,g9⟩
 dsimp only at g2 j0 j1 g3 g4 g5 g6 g7 g8 hl1 hx g9
 simp only[z9] at g1
 obtain⟨rfl,rfl,rfl,rfl⟩:=g1
 subst g2 g3 g4 g5 g6 g7 g8 g9
 simp only[F.dx]
 refine rB (λ x=> ?_) λ x=>rL (.inr _) ⟨rfl,rfl,rfl,rfl,rfl,rfl,rfl,by have:¬j<hs'.length:=(by simpa using x);dsimp only;omega,hx,rfl⟩ λ _ _=>rfl
 have x:j<hs'.length:=by simpa using x
 have row:=Af5 hr (i:=k'') (by omega)
 have hd:=Fe hh (i:=j) (by omega)
 have v:=Fe row.2 (i:=zA hs' j.toNat 0) (by rw[row.1];omega)
 rw[Ag (n:=j+1) (by omega) (by omega)]
 refine rC (Ad j0 x) (rC (Ad k0 k1) (rC (Ad hd.1 (by rw[row.1];exact hd.2)) (rC (Bo (by simp only[zB,zC];omega) (by omega)) (rL (.inl _) ⟨⟨rfl,rfl,by dsimp only;omega,by dsimp only;omega,rfl,rfl,rfl,rfl,rfl,rfl,by simp only[zF,zB,zC];omega,λ y hy=> ?_,rfl⟩,by dsimp only;omega⟩ λ _ _=>rfl))))
 rcases List.mem_append.1 hy with hy|hy
 ·exact hx y hy
 ·cases List.mem_singleton.1 hy;exact v
theorem Alu(h:DOk c w n t e)(hN:2000000<N){z q:Int}{hs od a1 a2 a3 a4 cls:List Int}{rows:List (List Int)}(hrl:rows.length=od.length)(hr:∀r∈rows,Kb od.length r)(ho:SOk t.length od)(hh:∀x∈hs,0<=x/\x<256)(hhl:hs.length<=256):Ret (λ R u=>F.sw (R:=R) N N (((od.length:Int),0),(c,w,n,t,e),z,rows,q,hs,od,a1,a2,a3,a4,cls,[],[],[]) u) (λ o=>o.2.1=q/\o.2.2.2.2.2.2.1=cls/\(o.2.2.2.2.2.2.2.1.length:Int)=od.length*hs.length/\(∀x∈o.2.2.2.2.2.2.2.1,0<=x/\x<od.length)/\o.2.2.2.2.2.2.2.2.1.length=od.length/\(∀x∈o.2.2.2.2.2.2.2.2.1,-1<=x/\x<=99)/\o.2.2.2.2.2.2.2.2.2.length=od.length/\∀x∈o.2.2.2.2.2.2.2.2.2,-1<=x/\x<=99):=by
 have hol:=ho.le
 have t1:=h.t1
 have el:=h.el
 refine rO (s:=λ R=>F.dy (R:=R) N) (λ y:Av6=>y.1.1=od.length/\0<=y.1.2/\y.1.2<=od.length/\y.2.1=(c,w,n,t,e)/\y.2.2.2.1=rows/\y.2.2.2.2.1=q/\y.2.2.2.2.2.1=hs/\y.2.2.2.2.2.2.1=od/\y.2.2.2.2.2.2.2.2.2.2.2.1=cls/\(y.2.2.2.2.2.2.2.2.2.2.2.2.1.length:Int)=y.1.2*hs.length/\(∀x∈y.2.2.2.2.2.2.2.2.2.2.2.2.1,0<=x/\x<od.length)/\(y.2.2.2.2.2.2.2.2.2.2.2.2.2.1.length:Int)=y.1.2/\(∀x∈y.2.2.2.2.2.2.2.2.2.2.2.2.2.1,-1<=x/\x<=99)/\(y.2.2.2.2.2.2.2.2.2.2.2.2.2.2.length:Int)=y.1.2/\(∀x∈y.2.2.2.2.2.2.2.2.2.2.2.2.2.2,-1<=x/\x<=99)) (λ y=>((od.length:Int)-y.1.2).toNat) ?_ N _ ⟨rfl,by simp,by simp,rfl,rfl,rfl,rfl,rfl,rfl,by simp,λ x hx=>absurd hx (by simp),by simp,λ x hx=>absurd hx (by simp),by simp,λ x hx=>absurd hx (by simp)⟩ (by dsimp only;omega)
 rintro⟨⟨kn,k⟩,⟨c',w',n',t',e'⟩,z',rows',q',hs',od',b1,b2,b3,b4,cls',nx,tg,en⟩ ⟨g1,k0,k1,g2,g3,g4,g5,g6,g7,hnl,hnx,htl,htx,hel,hex⟩
 dsimp only at g1 k0 k1 g2 g3 g4 g5 g6 g7 hnl hnx htl htx hel hex
 obtain⟨rfl,rfl,rfl,rfl,rfl⟩:=by simpa only[z9] using g2
 subst g1 g3 g4 g5 g6 g7
 have ml:k*(hs'.length:Int)<=4000*256:=zL (by omega) (by omega) (by omega) (by omega)
 simp only[F.dy]
 refine rB (λ x=> ?_) λ x=>rL (.inr _) ?_ λ _ _=>rfl
 ·have x:k<od'.length:=by simpa using x
  have s1:=Fe ho.2 (i:=k) (by omega)
  refine rC (Ad k0 x) (rD (Alv hN hr hh hhl k0 (by omega) (by omega) hnx) ?_)
  rintro⟨⟨s,kn,k'⟩,⟨c,w,n,t,e⟩,z2,rows2,q2,hs2,od2,b1,b2,b3,b4,cls2,nx2,tg2,en2⟩ ⟨g1,g2,g3,g4,g5,g6,g7,hl2,hx2,g8⟩
  dsimp only at g2 g3 g4 g5 g6 g7 hl2 hx2 g8⊢
  simp only[z9] at g1 g2 g8
  obtain⟨rfl,rfl,rfl⟩:=g1
  obtain⟨rfl,rfl,rfl,rfl,rfl⟩:=g2
  obtain⟨rfl,rfl⟩:=g8
  subst g3 g4 g5 g6 g7
  have tt:=Fe h.ti (i:=zA od2 k'.toNat 0) (by omega)
  have ee:=Fe h.ei (i:=zA od2 k'.toNat 0) (by omega)
  rw[Ag (n:=k'+1) (by omega) (by omega)]
  refine rC (Ad s1.1 (by omega)) (rC (Bo (by simp only[zB,zC];omega) (by omega)) (rC (Ad s1.1 (by omega)) (rC (Bo (by simp only[zB,zC];omega) (by omega)) (rL (.inl _) ⟨⟨rfl,by dsimp only;omega,by dsimp only;omega,rfl,rfl,rfl,rfl,rfl,rfl, ?_,hx2,by simp only[zF,zB,zC];omega,λ y hy=> ?_,by simp only[zF,zB,zC];omega,λ y hy=> ?_⟩,by dsimp only;omega⟩ λ _ _=>rfl))))
  ·dsimp only
   rw[yA,yB]
   omega
  ·rcases List.mem_append.1 hy with hy|hy
   ·exact htx y hy
   ·cases List.mem_singleton.1 hy;exact tt
  ·rcases List.mem_append.1 hy with hy|hy
   ·exact hex y hy
   ·cases List.mem_singleton.1 hy;exact ee
 ·have x:¬k<od'.length:=by simpa using x
  exact⟨rfl,rfl,by dsimp only;rw[hnl,show k=(od'.length:Int) by omega],hnx,by dsimp only;omega,htx,by dsimp only;omega,hex⟩
theorem Apu(h:DOk c w n t e)(hN:200000000<N):Ret (λ R k=>F.qv (R:=R) N (c,w,n,t,e) k) (λ o=>DOk o.2.1 o.1 o.2.2.1 o.2.2.2.1 o.2.2.2.2/\o.2.2.2.1.length<=t.length):=by
 have t0:=h.t0
 have t1:=h.t1
 have w1:=h.w1
 have w0:=h.w0
 have nl:=h.nl
 have cl:=h.cl
 have el:=h.el
 have m1:=Adg t1 w0 w1
 simp only[F.qv]
 refine rD (Yn (c,w,n,t,e) (by dsimp only;omega) (by dsimp only;omega) (by dsimp only;omega) (by dsimp only;omega) (by dsimp only;omega) (by omega)) λ v hv=> ?_
 rw[hv.2 h]
 refine rB (λ q=>by cases q) λ _=>rD (Apf h (by omega)) λ L hL=> ?_
 obtain⟨hL,hL1⟩:=hL
 refine rD (apart h hN hL hL1) λ m hM=> ?_
 rw[zD]
 refine rC (by simp) (rC (Bo (by omega) (by omega)) (rD (App h (by omega) hL hM) ?_))
 rintro⟨⟨c1,c2,c3,c4,c5⟩,z,ch,a1,a2,a3,a4⟩ ⟨g1,hc,hx,g2⟩
 dsimp only at g1 hc hx g2⊢
 simp only[z9] at g1 g2
 obtain⟨rfl,rfl,rfl,rfl,rfl⟩:=g1
 obtain⟨rfl,rfl,rfl,rfl⟩:=g2
 have s1:=Fe hx (i:=0) (by simp;omega)
 refine rC (Ad (by omega) (by omega)) (rD (Apr h (by omega) hc hx s1.1 s1.2) ?_)
 rintro⟨⟨c,w,n,t,e⟩,z,od,rows,a1,a2,a3,a4⟩ ⟨g1,ho,h1,hrl,hr,g2⟩
 dsimp only at g1 ho h1 hrl hr g2⊢
 simp only[z9] at g1 g2
 obtain⟨rfl,rfl,rfl,rfl,rfl⟩:=g1
 obtain⟨rfl,rfl,rfl,rfl⟩:=g2
 have hol:=ho.le
 refine rD (Apt (by omega) (by omega) hr) ?_
 rintro⟨⟨c1,c2,c3,c4,c5⟩,z,od2,rows2,q,hs,a1,a2,a3,a4,cls,b1,b2,b3⟩ ⟨g1,g2,g3,hhl,hh,hcl,hcx,g4⟩
 dsimp only at g1 g2 g3 hhl hh hcl hcx g4⊢
 simp only[z9] at g1 g4
 obtain⟨rfl,rfl,rfl,rfl,rfl⟩:=g1
 obtain⟨rfl,rfl,rfl⟩:=g4
 subst g2 g3
 refine rD (Alu h (by omega) hrl hr ho hh hhl) ?_
 rintro⟨z,q,a1,a2,a3,a4,cls2,nx,tg,en⟩ ⟨g1,g2,x1,x2,x3,x4,x5,x6⟩
 dsimp only at g1 g2 x1 x2 x3 x4 x5 x6⊢
 subst g1 g2
 have c0:0<hs.length:=by
  have:=hcx (cls2[0]'(by omega)) (zG _)
  omega
 refine rL _ ⟨⟨hcl,by dsimp only;omega,by dsimp only;omega,by dsimp only;omega,by dsimp only;omega,by dsimp only;omega,by dsimp only;rw[x1,x3],λ x hx=> ?_,λ x hx=> ?_,x4,x6⟩,by dsimp only;omega⟩ λ _ _=>rfl
 ·have:=hcx x hx;dsimp only;omega
 ·have:=x2 x hx;dsimp only;omega
end
abbrev C4D:=(Int×Int×Int×Int×Int×Int)×Int×List Int×Int×List (List Bool)×List Bool×List Int×List Int×List Int×List Int×List C4×List WBr×List Int×List Int×List Int×List Int
abbrev C2D:=(Int×Int×Int×Int)×Int×List Int×Int×List (List Bool)×List Int×List Int×List Int×List Int×List C4×List WBr×List Int×List Int×List Int×List Int
abbrev C0D:=(Int×Int)×Int×List Int×Int×List (List Bool)×List Int×List Int×List Int×List Int×List C4×List WBr×List Int×List Int×List Int×List Int
section
variable{N:Nat}
theorem Aoj(hN:10000000000<N){most k kn hi z wd:Int}{hs:List Int}{sets:List (List Bool)}{nx:List Bool}{K:Nat}{u:List Int×List Int×List Int×List Int×List C4×List WBr×List Int×List Int×List Int×List Int}(hsl:sets.length<=5000)(hS:∀s∈sets,s.length=K)(hK:K<=10000000000)(hnx:nx.length=K):Ret (λ R q=>F.ve (R:=R) N N ((most,k,-1,1,kn,hi),z,hs,wd,sets,nx,u) q) (λ o=>o.1.1=most/\o.1.2.1=k/\(o.1.2.2.1=-1\/0<=o.1.2.2.1/\o.1.2.2.1<sets.length)/\o.1.2.2.2=(kn,hi)/\o.2=(z,hs,wd,sets,nx,u)):=by
 obtain⟨u1,u2,u3,u4,u5,u6,u7,u8,u9,u10⟩:=u
 refine rO (s:=λ R=>F.ke (R:=R) N) (λ y:C4D=>y.1.1=most/\y.1.2.1=k/\y.1.2.2.1=-1/\1<=y.1.2.2.2.1/\y.1.2.2.2.2=(kn,hi)/\y.2=(z,hs,wd,sets,nx,u1,u2,u3,u4,u5,u6,u7,u8,u9,u10)) (λ y=>((sets.length:Int)-y.1.2.2.2.1).toNat) ?_ N _ ⟨rfl,rfl,rfl,by simp,rfl,rfl⟩ (by dsimp only;omega)
 rintro⟨⟨m',k',to,j,kn',hi'⟩,z',hs',wd',sets',nx',v1,v2,v3,v4,v5,v6,v7,v8,v9,v10⟩ ⟨g1,g2,g3,j1,g4,g5⟩
 dsimp only at g1 g2 g3 j1
 simp only[z9] at g4 g5
 obtain⟨rfl,rfl⟩:=g4
 obtain⟨rfl,rfl,rfl,rfl,rfl,rfl,rfl,rfl,rfl,rfl,rfl,rfl,rfl,rfl,rfl⟩:=g5
 subst g1 g2 g3
 simp only[F.ke]
 refine rB (λ x=> ?_) λ x=>rL (.inr _) ⟨rfl,rfl,.inl rfl,rfl,rfl⟩ λ _ _=>rfl
 have x:j<sets'.length:=by simpa using x
 have hj:j.toNat<sets'.length:=by omega
 have hg:(zA sets' j.toNat []).length=nx'.length:=by
  rw[List.getD_eq_getElem?_getD,List.getElem?_eq_getElem hj,hnx];exact hS _ (zG hj)
 rw[Ag (n:=j+1) (by omega) (by omega)]
 refine rC (Ad (by omega) x) (rD (same _ _ (by omega) (by omega) (by omega)) λ v _=>rB (λ _=>rL (.inr _) ⟨rfl,rfl,.inr ⟨by dsimp only;omega,x⟩,rfl,rfl⟩ λ _ _=>rfl) λ _=>rL (.inl _) ⟨⟨rfl,rfl,rfl,by dsimp only;omega,rfl,rfl⟩,by dsimp only;omega⟩ λ _ _=>rfl)
theorem Aoi(hN:10000000000<N){o:Whl}(h:H0 o){most k z wd:Int}{hs tg en cls:List Int}{sets:List (List Bool)}{nx u1 u2 u3 u4:List Int}(hhl:hs.length<=256)(hsl:sets.length<=4000)(hS:∀s∈sets,s.length=o.1.length)(k0:0<=k)(k1:k<sets.length)(hnl:nx.length<=1024000)(hn:∀x∈nx,0<=x/\x<sets.length):Ret (λ R q=>F.vf (R:=R) N N ((most,k,(hs.length:Int),0),z,hs,wd,sets,u1,u2,u3,u4,o.1,o.2,cls,nx,tg,en) q) (λ r=>r.1=(most,k)/\r.2.2.1=hs/\r.2.2.2.1=wd/\sets.length<=r.2.2.2.2.1.length/\r.2.2.2.2.1.length<=4300/\(∀s∈r.2.2.2.2.1,s.length=o.1.length)/\(r.2.2.2.2.2.2.2.2.2.1,r.2.2.2.2.2.2.2.2.2.2.1)=o/\r.2.2.2.2.2.2.2.2.2.2.2.1=cls/\r.2.2.2.2.2.2.2.2.2.2.2.2.1.length=nx.length+hs.length/\(∀x∈r.2.2.2.2.2.2.2.2.2.2.2.2.1,0<=x/\x<r.2.2.2.2.1.length)/\r.2.2.2.2.2.2.2.2.2.2.2.2.2=(tg,en)):=by
 obtain⟨ws,bs⟩:=o
 have hwl:=h.l
 refine rO (s:=λ R=>F.kf (R:=R) N) (λ y:C2D=>(y.1.1,y.1.2.1)=(most,k)/\y.1.2.2.1=hs.length/\0<=y.1.2.2.2/\y.1.2.2.2<=hs.length/\y.2.2.1=hs/\y.2.2.2.1=wd/\sets.length<=y.2.2.2.2.1.length/\(y.2.2.2.2.1.length:Int)<=4000+y.1.2.2.2/\(∀s∈y.2.2.2.2.1,s.length=ws.length)/\(y.2.2.2.2.2.2.2.2.2.1,y.2.2.2.2.2.2.2.2.2.2.1)=(ws,bs)/\y.2.2.2.2.2.2.2.2.2.2.2.1=cls/\(y.2.2.2.2.2.2.2.2.2.2.2.2.1.length:Int)=nx.length+y.1.2.2.2/\(∀x∈y.2.2.2.2.2.2.2.2.2.2.2.2.1,0<=x/\x<y.2.2.2.2.1.length)/\y.2.2.2.2.2.2.2.2.2.2.2.2.2=(tg,en)) (λ y=>((hs.length:Int)-y.1.2.2.2).toNat) ?_ N _ ⟨rfl,rfl,by simp,by simp,rfl,rfl,yC _,by dsimp only;omega,hS,rfl,rfl,by simp,hn,rfl⟩ (by dsimp only;omega)
 rintro⟨⟨m',k',hl,i⟩,z',hs',wd',sets',v1,v2,v3,v4,w1,w2,cls',nx',tg',en'⟩ ⟨g1,g2,i0,i1,g3,g4,hle,hs4,hS',g5,g6,hnl',hn',g7⟩
 dsimp only at g2 i0 i1 g3 g4 hle hs4 hS' g6 hnl' hn'
 simp only[z9] at g1 g5 g7
 obtain⟨rfl,rfl⟩:=g1
 obtain⟨rfl,rfl⟩:=g5
 obtain⟨rfl,rfl⟩:=g7
 subst g2 g3 g4 g6
 simp only[F.kf]
 refine rB (λ x=> ?_) λ x=>rL (.inr _) ⟨rfl,rfl,rfl,hle,by dsimp only;omega,hS',rfl,rfl,by have:¬i<hs'.length:=(by simpa using x);dsimp only;omega,hn',rfl⟩ λ _ _=>rfl
 have x:i<hs'.length:=by simpa using x
 have hk:k'.toNat<sets'.length:=by omega
 have hg:(zA sets' k'.toNat []).length=w1.length:=by
  rw[List.getD_eq_getElem?_getD,List.getElem?_eq_getElem hk];exact hS' _ (zG hk)
 refine rC (Ad i0 x) (rC (Ad k0 (by omega)) (rD (after h hg hN _ _) λ nw hnw=>rD (Aoj hN (by omega) hS' hwl hnw) ?_))
 rintro⟨⟨m2,k2,to,kn2,hi2⟩,z2,hs2,wd2,sets2,nx2,a1,a2,a3,a4,a5,a6,a7,a8,a9,a10⟩ ⟨g1,g2,hto,g3,g4⟩
 dsimp only at g1 g2 hto
 simp only[z9] at g3 g4
 obtain⟨rfl,rfl⟩:=g3
 obtain⟨rfl,rfl,rfl,rfl,rfl,rfl,rfl,rfl,rfl,rfl,rfl,rfl,rfl,rfl,rfl⟩:=g4
 subst g1 g2
 dsimp only
 rw[Ag (n:=hi2+1) (by omega) (by omega)]
 refine rB (λ y=>rC (S1 (by simp only[zB,zC];omega)) (rC (Bo (by simp only[zB,zC];omega) (by omega)) (rL (.inl _) ⟨⟨rfl,rfl,by dsimp only;omega,by dsimp only;omega,rfl,rfl,by simp only[zF];omega,by simp only[zF,zB,zC];omega,λ s hs=> ?_,rfl,rfl,by simp only[zF,zB,zC];omega,λ v hv=> ?_,rfl⟩,by dsimp only;omega⟩ λ _ _=>rfl))) λ y=>rC (Bo (by simp only[zB,zC];omega) (by omega)) (rL (.inl _) ⟨⟨rfl,rfl,by dsimp only;omega,by dsimp only;omega,rfl,rfl,hle,by dsimp only;omega,hS',rfl,rfl,by simp only[zF,zB,zC];omega,λ v hv=> ?_,rfl⟩,by dsimp only;omega⟩ λ _ _=>rfl)
 ·rcases List.mem_append.1 hs with hs|hs
  ·exact hS' s hs
  ·cases List.mem_singleton.1 hs;exact hnw
 ·simp only[zF,zB,zC]
  rcases List.mem_append.1 hv with hv|hv
  ·have:=hn' v hv;omega
  ·cases List.mem_singleton.1 hv;omega
 ·have y:¬to<0:=by simpa using y
  rcases List.mem_append.1 hv with hv|hv
  ·exact hn' v hv
  ·cases List.mem_singleton.1 hv;dsimp only;omega
theorem Aok(hN:10000000000<N){rs:List Rul}{most:Int}(h2:∀x∈rs,El 2001 8000 x.1):Ret (λ R k=>F.rn (R:=R) N (rs,most) k) (λ o=>o.1.2=0->DOk o.2.1 o.1.1 o.2.2.1 o.2.2.2.1 o.2.2.2.2/\(o.2.2.2.1.length:Int)<=most):=by
  simp only[F.rn]
  refine rD (Eg _ _ _) ?_
  rintro _ rfl
  refine rB (λ _=>rL ((0,1),[],[],[],[]) (λ e=>by cases e) λ _ _=>rfl) λ q=> ?_
  obtain⟨q1,q2⟩:1<=most/\most<=4000:=by simpa using q
  refine rD (At6 rs (by omega) h2) λ v hv=>rB (λ _=>rL ((0,2),[],[],[],[]) (λ e=>by cases e) λ _ _=>rfl) λ e=> ?_
  obtain⟨r1,r2⟩:=hv (by simpa using e)
  refine rD (Anw (by omega) r1 h2 r2) ?_
  rintro⟨ws,bs⟩ hW
  refine rD (bytes hW (by omega)) ?_
  rintro⟨cls,hs⟩ ⟨hcl,hhl,hcx⟩
  have hwl:=hW.l
  dsimp only at hcl hhl hcx hwl⊢
  rw[zD]
  have L0:=rO (s:=λ R=>F.kg (R:=R) N) (app:=Cy) (P:=λ o:(Int×Int×List Int×List Int×List Int×List Int×List Int×List Int×List Int×List Int)⊕(Int×Int×Int×List Int×List Int×List Int×List Int×List Int×List Int×List Int×List Int)=>match o with|.inl o=>o.2.1=hs.length/\o.2.2.2.2.2.2.1=cls/\((o.2.2.2.2.2.2.2.1.length:Int)=o.2.2.2.2.2.2.2.2.1.length*hs.length)/\(∀x∈o.2.2.2.2.2.2.2.1,0<=x/\x<o.2.2.2.2.2.2.2.2.1.length)/\1<=o.2.2.2.2.2.2.2.2.1.length/\(o.2.2.2.2.2.2.2.2.1.length:Int)<=most/\(∀x∈o.2.2.2.2.2.2.2.2.1,-1<=x/\x<=99)/\o.2.2.2.2.2.2.2.2.2.length=o.2.2.2.2.2.2.2.2.1.length/\(∀x∈o.2.2.2.2.2.2.2.2.2,-1<=x/\x<=99)|.inr o=>o.1=3) (λ y:C0D=>y.1.1=most/\0<=y.1.2/\y.1.2<=y.2.2.2.2.1.length/\y.2.2.1=hs/\y.2.2.2.1=hs.length/\1<=y.2.2.2.2.1.length/\(y.2.2.2.2.1.length:Int)<=most/\(∀s∈y.2.2.2.2.1,s.length=ws.length)/\(y.2.2.2.2.2.2.2.2.2.1,y.2.2.2.2.2.2.2.2.2.2.1)=(ws,bs)/\y.2.2.2.2.2.2.2.2.2.2.2.1=cls/\(y.2.2.2.2.2.2.2.2.2.2.2.2.1.length:Int)=y.1.2*hs.length/\(∀x∈y.2.2.2.2.2.2.2.2.2.2.2.2.1,0<=x/\x<y.2.2.2.2.1.length)/\(y.2.2.2.2.2.2.2.2.2.2.2.2.2.1.length:Int)=y.1.2/\(∀x∈y.2.2.2.2.2.2.2.2.2.2.2.2.2.1,-1<=x/\x<=99)/\(y.2.2.2.2.2.2.2.2.2.2.2.2.2.2.length:Int)=y.1.2/\(∀x∈y.2.2.2.2.2.2.2.2.2.2.2.2.2.2,-1<=x/\x<=99)) (λ y=>(4001-y.1.2).toNat) (λ y hy=>by
    obtain⟨⟨m',k⟩,z',hs',wd',sets,v1,v2,v3,v4,w1,w2,cls',nx,tg,en⟩:=y
    obtain⟨g1,k0,k1,g2,g3,s1,s2,hS,g4,g5,hnl,hnx,htl,htx,hel,hex⟩:=hy
    dsimp only at g1 k0 k1 g2 g3 s1 s2 hS g5 hnl hnx htl htx hel hex
    simp only[z9] at g4
    obtain⟨rfl,rfl⟩:=g4
    subst g1 g2 g3 g5
    simp only[F.kg]
    refine rB (λ x=> ?_) λ x=>rL (.inr (.inl (z',(hs'.length:Int),v1,v2,v3,v4,cls',nx,tg,en))) ?_ λ _ _=>rfl
    · have x:k<sets.length:=by simpa using x
      have hk:k.toNat<sets.length:=by omega
      have hg:(zA sets k.toNat []).length=w1.length:=by
        rw[List.getD_eq_getElem?_getD,List.getElem?_eq_getElem hk];exact hS _ (zG hk)
      have ml:k*(hs'.length:Int)<=4000*256:=zL (by omega) (by omega) (by omega) (by omega)
      refine rC (Ad k0 x) (rD (Acr hW hg (by omega) _ _) λ t1 ht1=>rC (Bo (by simp only[zB,zC];omega) (by omega)) (rC (Ad k0 x) (rD (Acr hW hg (by omega) _ _) λ t2 ht2=>rC (Bo (by simp only[zB,zC];omega) (by omega)) (rD (Aoi hN hW hhl (by omega) hS k0 x (by omega) hnx) ?_))))
      rintro⟨⟨m2,k2⟩,z2,hs2,wd2,sets2,a1,a2,a3,a4,a5,a6,cls2,nx2,tg2,en2⟩ ⟨g1,g2,g3,hle,hs4,hS2,g4,g5,hnl2,hn2,g6⟩
      dsimp only at g2 g3 hle hs4 hS2 g5 hnl2 hn2⊢
      simp only[z9] at g1 g4 g6
      obtain⟨rfl,rfl⟩:=g1
      obtain⟨rfl,rfl⟩:=g4
      obtain⟨rfl,rfl⟩:=g6
      subst g2 g3 g5
      rw[Ag (n:=k2+1) (by omega) (by omega)]
      refine rB (λ y=>rL (.inr (.inr (3,_,_,_,_,_,_,_,_,_,_))) rfl λ _ _=>rfl) λ y=>rL (.inl _) ⟨⟨rfl,by dsimp only;omega,by dsimp only;omega,rfl,rfl,by dsimp only;omega, ?_,hS2,rfl,rfl, ?_,hn2,by simp only[zF,zB,zC];omega,λ v hv=> ?_,by simp only[zF,zB,zC];omega,λ v hv=> ?_⟩,by dsimp only;omega⟩ λ _ _=>rfl
      · have y:¬(sets2.length:Int)>m2:=by simpa using y
        dsimp only;omega
      · dsimp only
        rw[yA,yB]
        omega
      · rcases List.mem_append.1 hv with hv|hv
        · exact htx v hv
        · cases List.mem_singleton.1 hv;exact ht1
      · rcases List.mem_append.1 hv with hv|hv
        · exact hex v hv
        · cases List.mem_singleton.1 hv;exact ht2
    · have x:¬k<sets.length:=by simpa using x
      refine⟨rfl,rfl, ?_,λ v hv=> ?_, ?_, ?_,htx, ?_,hex⟩
      · dsimp only;rw[hnl,htl]
      · have:=hnx v hv;dsimp only;omega
      · dsimp only;omega
      · dsimp only;omega
      · dsimp only;omega) N ((most,0),0,hs,(hs.length:Int),[zP ws.length false],[],[],[],[],ws,bs,cls,[],[],[]) ⟨rfl,by simp,by simp,rfl,rfl,by simp,by dsimp only;simp only[zB,zC];omega,λ s hs=>by cases List.mem_singleton.1 hs;exact zO,rfl,rfl,by simp,λ x hx=>absurd hx (by simp),by simp,λ x hx=>absurd hx (by simp),by simp,λ x hx=>absurd hx (by simp)⟩ (by dsimp only;omega)
  refine rC (by simp) (rC (by rw[zY];simp only[Ap];omega) (rD L0 ?_))
  have c0:0<hs.length:=by
    have:=hcx (cls[0]'(by omega)) (zG _)
    omega
  rintro(⟨z,wd,v1,v2,v3,v4,cls2,nx,tg,en⟩|⟨a,b,z,v1,v2,v3,v4,v5,v6,v7,v8⟩) ho
  · obtain⟨g1,g2,x1,x2,x3,x4,x5,x6,x7⟩:=ho
    dsimp only at g1 g2 x1 x2 x3 x4 x5 x6 x7
    subst g1 g2
    dsimp only[Cy]
    have hD:DOk cls2 (hs.length:Int) nx tg en:=⟨hcl,by omega,by omega,x3,by omega,x6,x1,λ x hx=>by have:=hcx x hx;omega,λ x hx=>by have:=x2 x hx;omega,x5,x7⟩
    refine rD (Apu hD (by omega)) ?_
    rintro⟨w',c',n',t',e'⟩ ⟨hD',hle⟩
    dsimp only at hle
    exact rL _ (λ _=>⟨hD',by dsimp only;omega⟩) λ _ _=>rfl
  · obtain rfl:a=3:=ho
    exact rL ((b,3),_,_,_,_) (λ e=>by cases e) λ _ _=>rfl
end
abbrev Cu:=List Int×Int×Int
abbrev DbT:=Cu×DT×Int×Int×List Int×List Int×List Int×List Int×List Int×List Int×List Int×List Int
section
variable{N:Nat}{L:List Int}{c n t e:List Int}{w:Int}
theorem Atn(hN:2000000<N){T cp z w2:Int}{cur:Cu}{a1 a2 a3 a4:List Int}(hc:c.length=256):Ret (λ R q=>F.uj (R:=R) N N ((T,cp,0),cur,(c,w,n,t,e),z,w2,a1,a2,a3,a4,[],[],[],[]) q) (λ o=>o.1=(T,cp)/\o.2.1=cur/\o.2.2.1=(c,w,n,t,e)/\o.2.2.2.2.1=w2/\o.2.2.2.2.2.2.2.2.2.1.length=256/\o.2.2.2.2.2.2.2.2.2.2=([],[],[])):=by
 refine rO (s:=λ R=>F.iu (R:=R) N) (λ y:(Int×Int×Int)×DbT=>(y.1.1,y.1.2.1)=(T,cp)/\0<=y.1.2.2/\y.1.2.2<=256/\y.2.1=cur/\y.2.2.1=(c,w,n,t,e)/\y.2.2.2.2.1=w2/\(y.2.2.2.2.2.2.2.2.2.1.length:Int)=y.1.2.2/\y.2.2.2.2.2.2.2.2.2.2=([],[],[])) (λ y=>(256-y.1.2.2).toNat) ?_ N _ ⟨rfl,by simp,by simp,rfl,rfl,rfl,by simp,rfl⟩ (by dsimp only;omega)
 rintro⟨⟨T',cp',j⟩,⟨u1,u2,u3⟩,⟨c',w',n',t',e'⟩,z',w2',b1,b2,b3,b4,b5,b6,b7,b8⟩ ⟨g1,j0,j1,g2,g3,g4,hl,g5⟩
 dsimp only at g1 j0 j1 g2 g3 g4 hl g5
 obtain⟨rfl,rfl,rfl,rfl,rfl⟩:=by simpa only[z9] using g3
 subst g2 g4
 simp only[F.iu]
 refine rB (λ x=> ?_) λ x=>rL (.inr _) ⟨g1,rfl,rfl,rfl,by have:¬j<256:=(by simpa using x);dsimp only;omega,g5⟩ λ _ _=>rfl
 have x:j<256:=by simpa using x
 rw[Ag (n:=j+1) (by omega) (by omega)]
 exact rC (Ad j0 (by omega)) (rC (by decide) (rC (Bo (by simp only[zB,zC];omega) (by omega)) (rL (.inl _) ⟨⟨g1,by dsimp only;omega,by dsimp only;omega,rfl,rfl,rfl,by simp only[zF,zB,zC];omega,g5⟩,by dsimp only;omega⟩ λ _ _=>rfl)))
structure DIn(c:List Int)(w:Int)(n t e:List Int):Prop where
 cl:c.length=256
 w0:0<=w
 w1:w<=10000
 t0:1<=t.length
 t1:t.length<=10000
 el:e.length=t.length
 nl:(n.length:Int)=t.length*w
 n0:1<=n.length
 n1:n.length<=10000
theorem DIn.idx(h:DIn c w n t e){s k:Int}(s0:0<=s)(s1:s<t.length)(k0:0<=k)(k1:k<w):Aa .i64 (Aa .i64 (s*w)+k)=s*w+k/\0<=s*w+k/\s*w+k<n.length:=by
 have a:0<=s*w:=yG s0 (by omega)
 have b:(s+1)*w<=t.length*w:=zU (by omega) (by omega)
 rw[yA,yB] at b
 have hn:=h.nl
 have h1:=h.n1
 rw[Ag (n:=s*w) (by omega) (by omega),Ag (n:=s*w+k) (by omega) (by omega)]
 exact⟨rfl,by omega,by omega⟩
theorem Atp(hL:Src L)(hN:2000000<N)(h:DIn c w n t e){T cp k s z w2:Int}{cur:Cu}{a1 a2 a3 a4 oc on:List Int}{b:List Int×List Int}(hc:Cur L cur)(hcp:cp<=3)(s0:0<=s)(s1:s<t.length)(hon:on.length<=100000):Ret (λ R q=>F.um (R:=R) N N ((T,cp,k,s,0),cur,(c,w,n,t,e),z,w2,a1,a2,a3,a4,oc,on,b) q) (λ o=>o.1=(T,cp,k,s)/\Cur L o.2.1/\o.2.2.1=(c,w,n,t,e)/\o.2.2.2.2.1=w2/\o.2.2.2.2.2.2.2.2.2.1=oc/\(o.2.2.2.2.2.2.2.2.2.2.1.length:Int)=on.length+2*w/\o.2.2.2.2.2.2.2.2.2.2.2=b):=by
 have w0:=h.w0
 have w1:=h.w1
 refine rO (s:=λ R=>F.iw (R:=R) N) (λ y:(Int×Int×Int×Int×Int)×DbT=>(y.1.1,y.1.2.1,y.1.2.2.1,y.1.2.2.2.1)=(T,cp,k,s)/\0<=y.1.2.2.2.2/\y.1.2.2.2.2<=w/\Cur L y.2.1/\y.2.2.1=(c,w,n,t,e)/\y.2.2.2.2.1=w2/\y.2.2.2.2.2.2.2.2.2.1=oc/\(y.2.2.2.2.2.2.2.2.2.2.1.length:Int)=on.length+2*y.1.2.2.2.2/\y.2.2.2.2.2.2.2.2.2.2.2=b) (λ y=>(w-y.1.2.2.2.2).toNat) ?_ N _ ⟨rfl,by simp,by dsimp only;omega,hc,rfl,rfl,rfl,by simp,rfl⟩ (by dsimp only;omega)
 rintro⟨⟨T',cp',k',s',j⟩,⟨u1,u2,u3⟩,⟨c',w',n',t',e'⟩,z',w2',b1,b2,b3,b4,b5,b6,b7,b8⟩ ⟨g1,j0,j1,hc',g3,g4,g5,hl,g6⟩
 dsimp only at j0 j1 hc' g3 g4 g5 hl g6
 simp only[z9] at g1
 obtain⟨rfl,rfl,rfl,rfl⟩:=g1
 obtain⟨rfl,rfl,rfl,rfl,rfl⟩:=by simpa only[z9] using g3
 subst g4 g5
 simp only[F.iw]
 refine rB (λ x=> ?_) λ x=>rL (.inr _) ⟨rfl,hc',rfl,rfl,rfl,by have:¬j<w':=(by simpa using x);dsimp only;omega,g6⟩ λ _ _=>rfl
 have x:j<w':=by simpa using x
 obtain⟨q1,q2,q3⟩:=h.idx s0 s1 j0 x
 rw[q1,Ag (n:=j+1) (by omega) (by omega)]
 refine rC (Ad q2 q3) (rD (A0 hL hc' (by omega)) ?_)
 rintro⟨p,v1,v2,v3⟩ ⟨-,-,hc2⟩
 dsimp only at hc2⊢
 refine rD (A0 hL hc2 (by omega)) ?_
 rintro⟨p2,v4,v5,v6⟩ ⟨-,-,hc3⟩
 dsimp only at hc3⊢
 exact rC (Bo (by simp only[zB,zC];omega) (by omega)) (rC (Bo (by simp only[zF,zB,zC];omega) (by omega)) (rL (.inl _) ⟨⟨rfl,by dsimp only;omega,by dsimp only;omega,hc3,rfl,rfl,rfl,by simp only[zF,zB,zC];omega,g6⟩,by dsimp only;omega⟩ λ _ _=>rfl))
theorem Ato(hL:Src L)(hN:2000000<N)(h:DIn c w n t e){cp k z w2:Int}{cur:Cu}{a1 a2 a3 a4 oc on ot oe:List Int}(hc:Cur L cur)(hcp:cp<=3)(hon:on.length<=60000)(hot:ot.length<=60000)(hoe:oe.length=ot.length):Ret (λ R q=>F.uo (R:=R) N N (((t.length:Int),cp,k,0),cur,(c,w,n,t,e),z,w2,a1,a2,a3,a4,oc,on,ot,oe) q) (λ o=>o.1=((t.length:Int),cp,k)/\Cur L o.2.1/\o.2.2.1=(c,w,n,t,e)/\o.2.2.2.2.1=w2/\o.2.2.2.2.2.2.2.2.2.1=oc/\(o.2.2.2.2.2.2.2.2.2.2.1.length:Int)=on.length+2*n.length/\o.2.2.2.2.2.2.2.2.2.2.2.1.length=ot.length+t.length/\o.2.2.2.2.2.2.2.2.2.2.2.2.length=oe.length+t.length):=by
 have t1:=h.t1
 have el:=h.el
 have n1:=h.n1
 have nl:=h.nl
 refine rO (s:=λ R=>F.ix (R:=R) N) (λ y:(Int×Int×Int×Int)×DbT=>(y.1.1,y.1.2.1,y.1.2.2.1)=((t.length:Int),cp,k)/\0<=y.1.2.2.2/\y.1.2.2.2<=t.length/\Cur L y.2.1/\y.2.2.1=(c,w,n,t,e)/\y.2.2.2.2.1=w2/\y.2.2.2.2.2.2.2.2.2.1=oc/\(y.2.2.2.2.2.2.2.2.2.2.1.length:Int)=on.length+2*(y.1.2.2.2*w)/\(y.2.2.2.2.2.2.2.2.2.2.2.1.length:Int)=ot.length+y.1.2.2.2/\(y.2.2.2.2.2.2.2.2.2.2.2.2.length:Int)=oe.length+y.1.2.2.2) (λ y=>((t.length:Int)-y.1.2.2.2).toNat) ?_ N _ ⟨rfl,by simp,by simp,hc,rfl,rfl,rfl,by simp,by simp,by simp⟩ (by dsimp only;omega)
 rintro⟨⟨T',cp',k',j⟩,⟨u1,u2,u3⟩,⟨c',w',n',t',e'⟩,z',w2',b1,b2,b3,b4,b5,b6,b7,b8⟩ ⟨g1,j0,j1,hc',g3,g4,g5,hl,hl2,hl3⟩
 dsimp only at j0 j1 hc' g3 g4 g5 hl hl2 hl3
 simp only[z9] at g1
 obtain⟨rfl,rfl,rfl⟩:=g1
 obtain⟨rfl,rfl,rfl,rfl,rfl⟩:=by simpa only[z9] using g3
 subst g4 g5
 have jw:0<=j*w':=yG j0 h.w0
 have jw2:j*w'<=t'.length*w':=zU j1 h.w0
 simp only[F.ix]
 refine rB (λ x=> ?_) λ x=>rL (.inr _) ⟨rfl,hc',rfl,rfl,rfl, ?_, ?_, ?_⟩ λ _ _=>rfl
 ·have x:j<t'.length:=by simpa using x
  refine rD (Atp hL hN h hc' hcp j0 x (by omega)) ?_
  rintro⟨⟨T2,cp2,k2,s2⟩,⟨v1,v2,v3⟩,⟨c,w,n,t,e⟩,z,w2,d1,d2,d3,d4,d5,d6,d7,d8⟩ ⟨y1,hc2,y2,y3,y4,hl4,y5⟩
  dsimp only at hc2 y2 y3 y4 hl4⊢
  simp only[z9] at y1 y2 y5
  obtain⟨rfl,rfl,rfl,rfl⟩:=y1
  obtain⟨rfl,rfl,rfl,rfl,rfl⟩:=y2
  obtain⟨rfl,rfl⟩:=y5
  subst y3 y4
  rw[Ag (n:=s2+1) (by omega) (by omega)]
  refine rC (Ad j0 x) (rC (Bo (by simp only[zB,zC];omega) (by omega)) (rC (Ad j0 (by omega)) (rC (Bo (by simp only[zB,zC];omega) (by omega)) (rL (.inl _) ⟨⟨rfl,by dsimp only;omega,by dsimp only;omega,hc2,rfl,rfl,rfl, ?_, ?_, ?_⟩,by dsimp only;omega⟩ λ _ _=>rfl))))
  ·dsimp only
   rw[yA,yB]
   omega
  ·simp only[zF,zB,zC];omega
  ·simp only[zF,zB,zC];omega
 ·have x:¬j<t'.length:=by simpa using x
  dsimp only
  rw[hl,show j=(t'.length:Int) by omega]
  omega
 ·have x:¬j<t'.length:=by simpa using x
  dsimp only;omega
 ·have x:¬j<t'.length:=by simpa using x
  dsimp only;omega
theorem Ajb(hL:Src L)(hN:2000000<N)(h:DIn c w n t e){cur:Cu}(hc:Cur L cur):Ret (λ R q=>F.pf (R:=R) N ((c,w,n,t,e),cur) q) (λ o=>Cur L o.2.1/\Ip 65536 o):=by
 obtain⟨u1,u2,u3⟩:=cur
 have cl:=h.cl
 have w0:=h.w0
 have w1:=h.w1
 have t0:=h.t0
 have t1:=h.t1
 have el:=h.el
 have nl:=h.nl
 have n0:=h.n0
 have n1:=h.n1
 simp only[F.pf]
 refine rD (A0 hL hc (by omega)) ?_
 rintro⟨r,v1,v2,v3⟩ ⟨r0,r1,hc2⟩
 dsimp only at r0 r1 hc2⊢
 rw[Ag (n:=2+r) (by omega) (by omega),Ag (n:=w*2) (by omega) (by omega)]
 refine rD (Atn hN cl) ?_
 rintro⟨⟨T,cp⟩,⟨x1,x2,x3⟩,⟨c',w',n',t',e'⟩,z,w2,a1,a2,a3,a4,oc,on,ot,oe⟩ ⟨g1,g2,g3,g4,hoc,g5⟩
 dsimp only at g4 hoc⊢
 simp only[z9] at g1 g2 g3 g5
 obtain⟨rfl,rfl⟩:=g1
 obtain⟨rfl,rfl,rfl⟩:=g2
 obtain⟨rfl,rfl,rfl,rfl,rfl⟩:=g3
 obtain⟨rfl,rfl,rfl⟩:=g5
 subst g4
 have L2:=rO (s:=λ R=>F.iy (R:=R) N) (app:=λ _ d k=>k d) (P:=λ o:Cu×Int×Int×List Int×List Int×List Int×List Int×List Int×List Int×List Int×List Int=>Cur L o.1/\o.2.2.1=w'*2/\o.2.2.2.2.2.2.2.1=oc/\(o.2.2.2.2.2.2.2.2.1.length:Int)=(2+r)*(2*n'.length)/\(o.2.2.2.2.2.2.2.2.2.1.length:Int)=(2+r)*t'.length/\o.2.2.2.2.2.2.2.2.2.2.length=o.2.2.2.2.2.2.2.2.2.1.length) (λ y:(Int×Int×Int)×DbT=>(y.1.1,y.1.2.1)=((t'.length:Int),2+r)/\0<=y.1.2.2/\y.1.2.2<=2+r/\Cur L y.2.1/\y.2.2.1=(c',w',n',t',e')/\y.2.2.2.2.1=w'*2/\y.2.2.2.2.2.2.2.2.2.1=oc/\(y.2.2.2.2.2.2.2.2.2.2.1.length:Int)=y.1.2.2*(2*n'.length)/\(y.2.2.2.2.2.2.2.2.2.2.2.1.length:Int)=y.1.2.2*t'.length/\y.2.2.2.2.2.2.2.2.2.2.2.2.length=y.2.2.2.2.2.2.2.2.2.2.2.1.length) (λ y=>(2+r-y.1.2.2).toNat) (λ y hy=>by
  obtain⟨⟨T,cp,k⟩,⟨x1,x2,x3⟩,⟨c,w,n,t,e⟩,z,w2,a1,a2,a3,a4,oc',on,ot,oe⟩:=y
  obtain⟨g1,k0,k1,hc',g2,g3,g4,hl1,hl2,hl3⟩:=hy
  dsimp only at k0 k1 hc' g3 g4 hl1 hl2 hl3
  simp only[z9] at g1 g2
  obtain⟨rfl,rfl⟩:=g1
  obtain⟨rfl,rfl,rfl,rfl,rfl⟩:=g2
  subst g3 g4
  simp only[F.iy]
  refine rB (λ x=> ?_) λ x=>rL (.inr _) ⟨hc',rfl,rfl, ?_, ?_,hl3⟩ λ _ _=>rfl
  ·have x:k<2+r:=by simpa using x
   have m1:k*(2*(n.length:Int))<=2*20000:=zL (by omega) (by omega) (by omega) (by omega)
   have m2:k*(t.length:Int)<=2*10000:=zL (by omega) (by omega) (by omega) (by omega)
   refine rD (Ato hL hN h hc' (by omega) (by omega) (by omega) hl3) ?_
   rintro⟨⟨T,cp,k'⟩,⟨x1,x2,x3⟩,⟨c',w',n',t',e'⟩,z,w2,a1,a2,a3,a4,oc,on2,ot2,oe2⟩ ⟨g1,hc3,g2,g3,g4,hq1,hq2,hq3⟩
   dsimp only at hc3 g3 g4 hq1 hq2 hq3⊢
   simp only[z9] at g1 g2
   obtain⟨rfl,rfl,rfl⟩:=g1
   obtain⟨rfl,rfl,rfl,rfl,rfl⟩:=g2
   subst g3 g4
   rw[Ag (n:=k'+1) (by omega) (by omega)]
   refine rL (.inl _) ⟨⟨rfl,by dsimp only;omega,by dsimp only;omega,hc3,rfl,rfl,rfl, ?_, ?_,by dsimp only;omega⟩,by dsimp only;omega⟩ λ _ _=>rfl
   ·dsimp only;rw[yA,yB];omega
   ·dsimp only;rw[yA,yB];omega
  ·have x:¬k<2+r:=by simpa using x
   dsimp only;rw[hl1,show k=2+r by omega]
  ·have x:¬k<2+r:=by simpa using x
   dsimp only;rw[hl2,show k=2+r by omega]) N (((t'.length:Int),2+r,0),(x1,x2,x3),(c',w',n',t',e'),z,w'*2,a1,a2,a3,a4,oc,[],[],[]) ⟨rfl,by simp,by dsimp only;omega,hc2,rfl,rfl,rfl,by simp,by simp,rfl⟩ (by dsimp only;omega)
 refine rD L2 ?_
 rintro⟨⟨x1,x2,x3⟩,z,w2,a1,a2,a3,a4,oc2,on,ot,oe⟩ ⟨hc3,g1,g2,q1,q2,q3⟩
 dsimp only at hc3 g1 g2 q1 q2 q3⊢
 subst g1 g2
 have m1:(2+r)*(2*(n'.length:Int))<=3*20000:=zL (by omega) (by omega) (by omega) (by omega)
 have m2:(2+r)*(t'.length:Int)<=3*10000:=zL (by omega) (by omega) (by omega) (by omega)
 have m3:2*1<=(2+r)*(2*(n'.length:Int)):=zL (by omega) (by omega) (by omega) (by omega)
 have m4:2*1<=(2+r)*(t'.length:Int):=zL (by omega) (by omega) (by omega) (by omega)
 exact rL _ ⟨hc3,by dsimp only;omega,by dsimp only;omega,hoc,by dsimp only;omega,by dsimp only;omega,by dsimp only;omega,by dsimp only;omega,q3,by dsimp only;rw[q1,q2,nl,Int.mul_assoc,Int.mul_left_comm 2,Int.mul_comm 2 w']⟩ λ _ _=>rfl
abbrev DrO:=Int×Cu×List Int×List Int×List Int×List Int
theorem Ip.mono{a b:Nat}{o:DrO}(h:Ip a o)(e:a<=b):Ip b o:=by
 obtain⟨h1,h2,h3,h4,h5,h6,h7,h8,h9⟩:=h
 exact⟨h1,by omega,h3,h4,by omega,h6,by omega,h8,h9⟩
theorem Ip.din{o:DrO}(h:Ip 10000 o):DIn o.2.2.1 o.1 o.2.2.2.1 o.2.2.2.2.1 o.2.2.2.2.2:=by
 obtain⟨h1,h2,h3,h4,h5,h6,h7,h8,h9⟩:=h
 exact⟨h3,h1,h2,h6,h7,h8,h9,h4,h5⟩
theorem Aet(hL:Src L)(hN:10000000000<N){cur:Cu}(hc:Cur L cur):Ret (λ R q=>F.oh (R:=R) N cur q) (λ o=>Cur L o.2.1/\Ip 65536 o):=by
 obtain⟨u1,u2,u3⟩:=cur
 simp only[F.oh]
 refine rD (A0 hL hc (by omega)) ?_
 rintro⟨how,v1,v2,v3⟩ ⟨-,-,hc2⟩
 dsimp only at hc2⊢
 have j49:∀{cur:Cu} {z p:Int} {b1 b2 b3 b4 c n t e:List Int},Cur L cur->Ip 10000 (p,cur,c,n,t,e)->Ret (λ R k=>jn (F.bn (R:=R) N k) (how,cur,z,p,b1,b2,b3,b4,c,n,t,e)) (λ o=>Cur L o.2.1/\Ip 65536 o):=by
  rintro⟨x1,x2,x3⟩ z p b1 b2 b3 b4 c n t e hc hd
  simp only[jn,F.bn]
  refine rB (λ _=>rL _ ⟨hc,hd.mono (by omega)⟩ λ _ _=>rfl) λ _=>rB (λ _=>rD (Adr hL (by omega) hc) ?_) λ _=>rD (Ajb hL (by omega) hd.din hc) ?_
  ·rintro⟨q1,⟨q2,q3,q4⟩,q5,q6,q7,q8⟩ ⟨y1,y2⟩
   dsimp only at y1⊢
   refine rD (Ajb hL (by omega) (y2.mono (b:=10000) (by omega)).din y1) ?_
   rintro⟨q1,⟨q2,q3,q4⟩,q5,q6,q7,q8⟩ ho
   exact rL _ ho λ _ _=>rfl
  ·rintro⟨q1,⟨q2,q3,q4⟩,q5,q6,q7,q8⟩ ho
   exact rL _ ho λ _ _=>rfl
 refine rB (λ _=>rD (Adr hL (by omega) hc2) ?_) λ _=>rD (Agx hL (by omega) hc2 (by omega) (by omega) (by omega)) ?_
 ·rintro⟨q1,⟨q2,q3,q4⟩,q5,q6,q7,q8⟩ ⟨y1,y2⟩
  exact rL _ ⟨y1,y2.mono (by omega)⟩ λ _ _=>rfl
 ·rintro⟨rs,x1,x2,x3⟩ ⟨hc3,hr⟩
  dsimp only at hc3⊢
  have raw:RetK (K:=λ R=>DrO->Option R) (λ _ d k=>k d) (λ R k=>F.df (R:=R) N (x1,x2,x3) λ x=>jn (F.bn N k) (how,x.2.1,0,x.1,[],[],[],[],x.2.2.1,x.2.2.2.1,x.2.2.2.2.1,x.2.2.2.2.2)) (λ o=>Cur L o.2.1/\Ip 65536 o):=by
   refine rD (Adr hL (by omega) hc3) ?_
   rintro⟨q1,cu,q5,q6,q7,q8⟩ ⟨y1,y2⟩
   exact j49 y1 (y2.mono (by omega))
  refine rD (Aok hN hr.2) ?_
  rintro⟨⟨w,code⟩,c,n,t,e⟩ ho
  dsimp only at ho⊢
  refine rB (λ _=>raw) λ x=>rB (λ _=>raw) λ y=> ?_
  have x:code=0:=by simpa using x
  have y:¬w>100:=by simpa using y
  obtain⟨hD,ht⟩:=ho x
  have w0:=hD.w0
  have t0:=hD.t0
  have el:=hD.el
  have nl:=hD.nl
  have m1:(t.length:Int)*w<=90*100:=zL ht (by omega) (by omega) (by omega)
  have m2:(1:Int)*1<=(t.length:Int)*w:=zL (by omega) w0 (by omega) (by omega)
  exact j49 hc3 ⟨by dsimp only;omega,by dsimp only;omega,hD.cl,by dsimp only;omega,by dsimp only;omega,t0,by dsimp only;omega,el,nl⟩
theorem Aom(hL:Src L)(hN:10000000000<N):Ret (λ R q=>F.cz (R:=R) N L q) (λ o=>-1000000<=o.1/\o.1<=1000000/\o.2.1.length<=100000/\o.2.2.1.length<=100000/\o.2.2.2.1.length<=100000/\o.2.2.2.2.length<=100000):=by
 simp only[F.cz]
 have any:Ret (λ R q=>F.nr (R:=R) N (L,0,0) q) (λ o=>-1000000<=o.1/\o.1<=1000000/\o.2.2.1.length<=100000/\o.2.2.2.1.length<=100000/\o.2.2.2.2.1.length<=100000/\o.2.2.2.2.2.length<=100000):=by
  simp only[F.nr]
  have fin:∀{o:DrO},Ip 65536 o->-1000000<=o.1/\o.1<=1000000/\o.2.2.1.length<=100000/\o.2.2.2.1.length<=100000/\o.2.2.2.2.1.length<=100000/\o.2.2.2.2.2.length<=100000:=λ h=>by
   obtain⟨h1,h2,h3,h4,h5,h6,h7,h8,-⟩:=h
   omega
  refine rD (Ai9 hL (c:=(L,0,0)) ⟨rfl,by simp,by simp⟩) ?_
  rintro⟨r,v1,v2,v3⟩ ⟨-,-,hc⟩
  dsimp only at hc⊢
  refine rB (λ _=>rD (Aet hL hN hc) ?_) λ _=>rB (λ _=>rD (Atd hL (by omega) hc) ?_) λ _=>rD (Aet hL hN hc) ?_
  ·rintro⟨q1,⟨q2,q3,q4⟩,q5,q6,q7,q8⟩ ⟨y1,y2⟩
   refine rD (Alw hL (by omega) y1 y2) ?_
   rintro⟨q1,⟨⟨q2,q3,q4⟩,q5,q6,q7,q8⟩,q9,q10,q11,q12⟩ ⟨-,h1,h2,h3,h4,h5,h6⟩
   dsimp only at h1 h2 h3 h4 h5 h6
   exact rL _ ⟨by dsimp only;omega,by dsimp only;omega,by dsimp only;omega,by dsimp only;omega,by dsimp only;omega,by dsimp only;omega⟩ λ _ _=>rfl
  ·rintro⟨q1,⟨q2,q3,q4⟩,q5,q6,q7,q8⟩ ⟨y1,y2⟩
   exact rL _ (fin (y2.mono (by omega))) λ _ _=>rfl
  ·rintro⟨q1,⟨q2,q3,q4⟩,q5,q6,q7,q8⟩ ⟨y1,y2⟩
   exact rL _ (fin y2) λ _ _=>rfl
 refine rD any ?_
 rintro⟨q1,⟨q2,q3,q4⟩,q5,q6,q7,q8⟩ ho
 exact rL _ ho λ _ _=>rfl
end
def Hw(l:List Int)(lo hi:Int):Bool:=l.all λ x=>decide (lo<=x/\x<=hi)
theorem Acq(l:List Int)(lo hi:Int){i:Nat}(h:i<l.length):Hw (l.drop i) lo hi=(decide (lo<=l[i]/\l[i]<=hi)&&Hw (l.drop (i+1)) lo hi):=by
 simp only[Hw]
 rw[yQ h,List.all_cons]
theorem Aks{R:Type}(N:Nat)(l:List Int)(lo hi:Int)(hl:l.length<=1048576)(k:Bool->Option R):∀(d n i:Nat),i+d=l.length->d<n->
  F.bd N n l (l.length:Int) (i:Int) lo hi (λ _ _=>k (!decide ((-1:Int)>=0))) (λ j _ _=>k (!decide (j>=0)))=k (Hw (l.drop i) lo hi):=by
 intro d
 induction d with
 | zero=>
  intro n i hi' hn
  obtain⟨n,rfl⟩:∃m,n=m+1:=⟨n-1,by omega⟩
  simp only[chk,F.bd,F.jg,zI]
  rw[if_neg (by omega),yX (by omega)]
  rfl
 | succ d ih=>
  intro n i hi' hn
  obtain⟨n,rfl⟩:∃m,n=m+1:=⟨n-1,by omega⟩
  simp only[chk,F.bd,F.jg,F.rt,zI]
  rw[if_pos (by omega),Ad (by omega) (by omega),Ag (by omega) (by omega),Acq l lo hi (by omega)]
  simp only[cond_true,zD]
  simp only[Eu l (show i<l.length by omega)]
  have:=ih n (i+1) (by omega) (by omega)
  rw[show((i+1:Nat):Int)=(i:Int)+1 by omega] at this
  rw[this]
  by_cases h1:l[i]<lo
  ·rw[if_pos h1]
   simp[show¬(lo<=l[i]) by omega]
  ·rw[if_neg h1]
   by_cases h2:l[i]>hi
   ·rw[if_pos h2]
    simp[show¬(l[i]<=hi) by omega]
   ·rw[if_neg h2]
    simp[show lo<=l[i] by omega,show l[i]<=hi by omega]
theorem Xv{R:Type}(N:Nat)(l:List Int)(lo hi:Int)(hl:l.length<=1048576)(hN:1048576<N)(k:Bool->Option R):F.li N l lo hi k=k (Hw l lo hi):=by
 simp only[chk,F.li,F.pg,F.qz]
 exact Aks N l lo hi hl k l.length N 0 (by omega) (by omega)
def Kf(c:List Int)(w:Int)(n t e:List Int):Bool:=
 decide (c.length=256/\1<=w/\w<=256/\1<=t.length/\t.length<=4000/\e.length=t.length/\(n.length:Int)=t.length*w)&&
  (Hw c 0 (w-1)&&(Hw n 0 (t.length-1)&&(Hw t (-1) 99&&Hw e (-1) 99)))
theorem Ak8{t:Nat}{w:Int}(h1:t<=4000)(h2:1<=w)(h3:w<=256):Aa .i64 ((t:Int)*w)=t*w:=by
 have a:0<=(t:Int)*w:=yG (by omega) (by omega)
 have b:(t:Int)*w<=4000*256:=zL (by omega) h3 (by omega) (by omega)
 exact Ag (by omega) (by omega)
theorem Wb{R:Type}(N:Nat)(c:List Int)(w:Int)(n t e:List Int)(hc:c.length<=1048576)(hn:n.length<=1048576)(ht:t.length<=1048576)(he:e.length<=1048576)(hN:1048576<N)(k:Bool->Option R):
  F.rp N c w n t e k=k (Kf c w n t e):=by
 by_cases hg:c.length=256/\1<=w/\w<=256/\1<=t.length/\t.length<=4000/\e.length=t.length/\(n.length:Int)=t.length*w
 ·obtain⟨g1,g2,g3,g4,g5,g6,g7⟩:=hg
  simp only[chk,F.rp,zI]
  rw[Ak8 g5 g2 g3,Ag (n:=w-1) (by omega) (by omega),Ag (n:=(t.length:Int)-1) (by omega) (by omega)]
  simp only[show((c.length:Int) !=256)=false by simp;omega,cond_false,if_neg (show¬(w<1) by omega),if_neg (show¬(w>256) by omega),if_neg (show¬((t.length:Int)<1) by omega),if_neg (show¬((t.length:Int)>4000) by omega),
   show((e.length:Int) !=t.length)=false by simp;omega,show((n.length:Int) !=t.length*w)=false by simp;omega]
  rw[Xv N c _ _ hc hN,Xv N n _ _ hn hN,Xv N t _ _ ht hN,Xv N e _ _ he hN]
  simp only[Kf,g1,g2,g3,g4,g5,g6,g7,true_and,and_self,decide_true,Bool.true_and]
  cases Hw c 0 (w-1)<;>cases Hw n 0 (t.length-1)<;>cases Hw t (-1) 99<;>simp
 ·have e0:Kf c w n t e=false:=by simp only[Kf,decide_eq_false hg,xS]
  rw[e0]
  simp only[chk,F.rp,zI]
  by_cases g1:c.length=256
  case neg=>simp only[show((c.length:Int) !=256)=true by simp;omega,cond_true]
  simp only[show((c.length:Int) !=256)=false by simp;omega,cond_false]
  by_cases g2:1<=w
  case neg=>rw[if_pos (by omega)]
  by_cases g3:w<=256
  case neg=>rw[if_neg (by omega),if_pos (by omega)]
  rw[if_neg (by omega),if_neg (by omega)]
  by_cases g4:1<=t.length
  case neg=>rw[if_pos (by omega)]
  by_cases g5:t.length<=4000
  case neg=>rw[if_neg (by omega),if_pos (by omega)]
  rw[if_neg (by omega),if_neg (by omega)]
  by_cases g6:e.length=t.length
  case neg=>simp only[show((e.length:Int) !=t.length)=true by simp;omega,cond_true]
  simp only[show((e.length:Int) !=t.length)=false by simp;omega,cond_false]
  rw[Ak8 g5 g2 g3]
  have g7:¬((n.length:Int)=t.length*w):=λ h=>hg ⟨g1,g2,g3,g4,g5,g6,h⟩
  simp only[show((n.length:Int) !=t.length*w)=true by simpa using g7,cond_true]
structure Mdl where
 c:List Int
 n:List Int
 t:List Int
 e:List Int
 w:Nat
 T:Nat
structure MOk(A:Mdl):Prop where
 lc:A.c.length=256
 w1:1<=A.w
 w2:A.w<=256
 T1:1<=A.T
 T2:A.T<=4000
 lt:A.t.length=A.T
 le:A.e.length=A.T
 ln:A.n.length=A.T*A.w
 hc:∀x∈A.c,0<=x/\x<A.w
 hn:∀x∈A.n,0<=x/\x<A.T
 ht:∀x∈A.t,-1<=x/\x<=99
 he:∀x∈A.e,-1<=x/\x<=99
theorem Aui{c:List Int}{w:Int}{n t e:List Int}(h:Kf c w n t e=true):MOk ⟨c,n,t,e,w.toNat,t.length⟩/\w=(w.toNat:Int):=by
 simp only[Kf,yH,decide_eq_true_eq] at h
 obtain⟨⟨h1,h2,h3,h4,h5,h6,h7⟩,h8,h9,h10,h11⟩:=h
 have hw:w=(w.toNat:Int):=by omega
 have hin:∀{l:List Int} {a b:Int},Hw l a b=true->∀x∈l,a<=x/\x<=b:=by
  intro l a b h x hx
  simp only[Hw,xL,yH,decide_eq_true_eq] at h
  exact h x hx
 refine⟨⟨h1,by show 1<=w.toNat;omega,by show w.toNat<=256;omega,h4,h5,rfl,h6, ?_, ?_, ?_,hin h10,hin h11⟩,hw⟩
 ·show n.length=t.length*w.toNat
  rw[hw] at h7
  exact_mod_cast h7
 ·intro x hx
  have:=hin h8 x hx
  show 0<=x/\x<(w.toNat:Int)
  omega
 ·intro x hx
  have:=hin h9 x hx
  show 0<=x/\x<(t.length:Int)
  omega
def Mdl.ch(A:Mdl)(j:Nat):Nat:=(A.c.getD j 0).toNat
def Mdl.nc(A:Mdl)(s k:Nat):Nat:=(A.n.getD (s*A.w+k) 0).toNat
def Mdl.nx(A:Mdl)(s j:Nat):Nat:=A.nc s (A.ch j)
theorem O6{l:List Int}{P:Int->Prop}(h:∀x∈l,P x){i:Nat}(hi:i<l.length):P (zA l i 0):=by
 rw[Eu l hi]
 exact h _ (zG _)
theorem MOk.ch_lt{A:Mdl}(h:MOk A){j:Nat}(hj:j<256):A.ch j<A.w:=by
 have:=O6 h.hc (i:=j) (by rw[h.lc];exact hj)
 unfold Mdl.ch
 omega
theorem MOk.ch_eq{A:Mdl}(h:MOk A){j:Nat}(hj:j<256):zA A.c j 0=(A.ch j:Int):=by
 have:=O6 h.hc (i:=j) (by rw[h.lc];exact hj)
 unfold Mdl.ch
 omega
theorem Tw{s k w T:Nat}(hs:s<T)(hk:k<w):s*w+k<T*w:=by
 have h1:(s+1)*w<=T*w:=xD _ hs
 rw[yV] at h1
 omega
theorem MOk.nc_lt{A:Mdl}(h:MOk A){s k:Nat}(hs:s<A.T)(hk:k<A.w):A.nc s k<A.T:=by
 have:=O6 h.hn (i:=s*A.w+k) (by rw[h.ln];exact Tw hs hk)
 unfold Mdl.nc
 omega
theorem MOk.nc_eq{A:Mdl}(h:MOk A){s k:Nat}(hs:s<A.T)(hk:k<A.w):zA A.n (s*A.w+k) 0=(A.nc s k:Int):=by
 have:=O6 h.hn (i:=s*A.w+k) (by rw[h.ln];exact Tw hs hk)
 unfold Mdl.nc
 omega
theorem MOk.nx_lt{A:Mdl}(h:MOk A){s j:Nat}(hs:s<A.T)(hj:j<256):A.nx s j<A.T:=h.nc_lt hs (h.ch_lt hj)
theorem MOk.idx{A:Mdl}(h:MOk A){s k:Nat}(hs:s<A.T)(hk:k<A.w):
  Aa .i64 ((Aa .i64 ((s:Int)*(A.w:Int)))+(k:Int))=((s*A.w+k:Nat):Int)/\s*A.w+k<A.n.length:=by
 have h1:=Tw hs hk
 have h2:A.T*A.w<=4000*256:=zS h.T2 h.w2
 have h3:((s:Int)*(A.w:Int))=((s*A.w:Nat):Int):=by push_cast;rfl
 rw[h3,h.ln]
 generalize s*A.w=q at*
 generalize A.T*A.w=p at*
 rw[Ag (n:=(q:Int)) (by omega) (by omega),Ag (by omega) (by omega)]
 exact⟨by omega,h1⟩
def ints(l:List Nat):List Int:=yY (λ x:Nat=>(x:Int)) l
theorem Be(l:List Nat):(ints l).length=l.length:=by simp[ints]
theorem Lc(l:List Nat)(i:Nat):zA (ints l) i (0:Int)=((l.getD i 0:Nat):Int):=by
 simp only[ints,List.getD_eq_getElem?_getD,List.getElem?_map]
 cases l[i]?<;>rfl
theorem H8(l:List Nat)(x:Nat):ints l++[(x:Int)]=ints (l++[x]):=by simp[ints]
theorem Tx{R:Type}{A:Mdl}(h:MOk A){s j:Nat}(hs:s<A.T)(hj:j<256)(k:Int->Option R):F.ly A.c (A.w:Int) A.n A.t A.e (s:Int) (j:Int) k=k (A.nx s j:Int):=by
 simp only[chk,F.ly]
 obtain⟨e1,e2⟩:=h.idx hs (h.ch_lt hj)
 rw[Ad (by omega) (by rw[h.lc];omega),cond_true,zD,h.ch_eq hj,e1,Ad (by omega) (by omega),cond_true,zD,h.nc_eq hs (h.ch_lt hj)]
 rfl
def Mdl.sB(A:Mdl)(s:Nat):List Nat:=(zE 256).map (A.nx s)
def Qx(T:Nat)(l:List Nat):List Bool:=(zE T).map λ x=>decide (x∈l)
theorem Ak2{T x:Nat}{l:List Nat}(hx:x<T):zA (Qx T l) x false=decide (x∈l):=by
 simp[Qx,List.getD_eq_getElem?_getD,hx]
theorem Aa0{T x:Nat}{l:List Nat}:xO (Qx T l) x true=Qx T (l++[x]):=by
 apply List.ext_getElem?
 intro i
 simp only[Qx,List.getElem?_set,zH,zV,List.getElem?_map]
 by_cases hi:i<T
 ·rw[List.getElem?_range hi]
  by_cases e:x=i
  ·subst e;simp[hi]
  ·simp[e,Ne.symm e]
 ·simp only[List.getElem?_eq_none (show(zE T).length<=i by simp;omega),xP]
  by_cases e:x=i
  ·simp[e,hi]
  ·simp[e]
theorem I2{n m b:Nat}(h:n<=1048576)(hm:m<=1048576)(hb:b<=4095):yW (n+m) (Ap b)=true:=by
 rw[zY]
 have:2097152<=Ap b:=by
  unfold Ap
  rw[Nat.le_div_iff_mul_le (by omega)]
  omega
 omega
theorem Ld{R:Type}{A:Mdl}(h:MOk A)(C N:Nat){i s:Nat}(hs:s<A.T)(k:List Int->Int->List Int->List Int->List Int->Int->List Bool->List Int->Option R):
  ∀(d j:Nat) (l:List Nat),j+d=256->(∀x∈l,x<A.T)->l.Nodup->i<l.length->l.getD i 0=s->
  F.be C N d j A.c (A.w:Int) A.n A.t A.e (i:Int) (Qx A.T l) (ints l) k=
   k A.c (A.w:Int) A.n A.t A.e (i:Int) (Qx A.T (((yO j d).map (A.nx s)).foldl Bf l)) (ints (((yO j d).map (A.nx s)).foldl Bf l))
 | 0,j,l,hj,hl,hnd,hi,hsi=>by simp only[chk,F.be];rfl
 | d+1,j,l,hj,hl,hnd,hi,hsi=>by
  simp only[chk,F.be,F.oi]
  have hx:=h.nx_lt hs (show j<256 by omega)
  have hlen:=Lj hnd hl
  have hT:=h.T2
  rw[Ad (by omega) (by rw[Be];omega),cond_true,zD,Lc,hsi,Tx h hs (by omega)]
  have hm:(Qx A.T l).length=A.T:=by simp[Qx]
  rw[Ad (by omega) (by rw[hm];omega),cond_true,cond_true,zD,Ak2 hx]
  rw[show yO j (d+1)=j::yO (j+1) d from List.range'_succ ..,zR,List.foldl_cons]
  by_cases hin:A.nx s j∈l
  ·rw[decide_eq_true hin,yI,cond_false,Ld h C N hs k d (j+1) l (by omega) hl hnd hi hsi,show Bf l (A.nx s j)=l from if_pos hin]
  ·rw[decide_eq_false hin,yM,cond_true,I2 (by rw[Be];omega) (by simp) (by omega),cond_true,Aa0,H8]
   have hadd:Bf l (A.nx s j)=l++[A.nx s j]:=if_neg hin
   rw[Ld h C N hs k d (j+1) (l++[A.nx s j]) (by omega) ?_ (hadd▸Oq hnd) (by simp;omega) ?_,hadd]
   ·intro y hy
    rcases List.mem_append.1 hy with hy|hy
    ·exact hl y hy
    ·have:y=A.nx s j:=by simpa using hy
     omega
   ·rw[<-hsi];simp[List.getD_eq_getElem?_getD,List.getElem?_append_left hi]
theorem Tp{T:Nat}{m l:List Nat}(hm:∀x∈m,x<T)(hl:∀x∈l,x<T):∀x∈m.foldl Bf l,x<T:=by
 intro x hx
 rcases Et.1 hx with h|h
 ·exact hl x h
 ·exact hm x h
theorem Ase{A:Mdl}(h:MOk A){s:Nat}(hs:s<A.T):∀x∈A.sB s,x<A.T:=by
 intro x hx
 simp only[Mdl.sB,xI,yN] at hx
 obtain⟨j,hj,rfl⟩:=hx
 exact h.nx_lt hs hj
theorem Rp{R:Type}{A:Mdl}(h:MOk A)(N:Nat)(k:List Int->Option R):∀(d m i:Nat) (l:List Nat),i+d=A.T+1->d<m->(∀x∈l,x<A.T)->l.Nodup->i<=l.length->
  F.dz 256 N m A.c (A.w:Int) A.n A.t A.e (i:Int) (Qx A.T l) (ints l) k=k (ints (bfs A.sB d i l))
 | 0,m,i,l,hi,hm,hl,hnd,hil=>by
  have:=Lj hnd hl
  omega
 | d+1,m,i,l,hi,hm,hl,hnd,hil=>by
  obtain⟨m,rfl⟩:∃z,m=z+1:=⟨m-1,by omega⟩
  simp only[chk,F.dz,F.oj,zI,F.az,Be,bfs]
  have hT:=h.T2
  by_cases hlt:i<l.length
  ·rw[if_pos (by omega)]
   have hx:l[i]?=some l[i]:=List.getElem?_eq_getElem hlt
   have hs:l[i]<A.T:=hl _ (zG _)
   have hg:l.getD i 0=l[i]:=by simp[List.getD_eq_getElem?_getD,hx]
   rw[Ld h 256 N hs _ 256 0 l (by omega) hl hnd hlt hg,hx]
   simp only
   rw[Ag (by omega) (by omega),show((i:Int)+1)=((i+1:Nat):Int) by omega]
   rw[show(yY (A.nx l[i]) (yO 0 256))=A.sB l[i] by rw[<-List.range_eq_range'];rfl]
   obtain⟨r,hr⟩:=Dg (A.sB l[i]) l
   refine Rp h N k d m (i+1) _ (by omega) (by omega) (Tp (Ase h hs) hl) (Ja hnd) ?_
   rw[hr];simp;omega
  ·rw[if_neg (by omega),List.getElem?_eq_none (by omega)]
def Mdl.Lb(A:Mdl):List Nat:=bfs A.sB (A.T+1) 0 [0]
theorem Aaq{R:Type}{A:Mdl}(h:MOk A)(N:Nat)(hN:1048576<N)(k:List Int->Option R):F.lj N A.c (A.w:Int) A.n A.t A.e k=k (ints A.Lb):=by
 have hT1:=h.T1
 have hT2:=h.T2
 simp only[chk,F.lj,F.pz,zI,h.lt]
 rw[if_pos (by omega),show yW (zX (A.T:Int)) (Ap 1)=true by rw[zY];simp[Ap];omega,cond_true]
 simp only[zD,zO]
 rw[Ad (by omega) (by omega),cond_true]
 have e:xO (zP A.T false) (zX 0) true=Qx A.T [0]:=by
  have:zP A.T false=Qx A.T []:=by
   apply List.ext_getElem?
   intro i
   simp only[Qx,List.getElem?_replicate,List.getElem?_map,xM,decide_false]
   by_cases hi:i<A.T
   ·rw[List.getElem?_range hi];simp[hi]
   ·rw[List.getElem?_eq_none (show(zE A.T).length<=i by simp;omega)];simp[hi]
  rw[this]
  exact Aa0
 rw[e]
 have:=Rp h N k (A.T+1) N 0 [0] (by omega) (by omega) (by simp;omega) (by simp) (by simp)
 exact this
theorem Ava{A:Mdl}(h:MOk A){succ:Nat->List Nat}(hs:∀s,s<A.T->∀x∈succ s,x<A.T)(d i:Nat)(l:List Nat)(hl:∀x∈l,x<A.T)(hn:l.Nodup):(∀x∈bfs succ d i l,x<A.T)/\(bfs succ d i l).length<=A.T:=by
 have h1:∀(d i:Nat) (l:List Nat),(∀x∈l,x<A.T)->∀x∈bfs succ d i l,x<A.T:=by
  intro d
  induction d with
  | zero=>intro i l h;exact h
  | succ d ih=>
   intro i l h
   simp only[bfs]
   cases hx:l[i]? with
   | none=>exact h
   | some x=>exact ih _ _ (Tp (hs x (h x (List.mem_of_getElem? hx))) h)
 exact⟨h1 d i l hl,Lj (Qh d i l hn) (h1 d i l hl)⟩
structure LOk(A:Mdl)(S:List Nat):Prop where
 lt:∀x∈S,x<A.T
 len:S.length<=A.T
 nd:S.Nodup
 zero:0∈S
 cl:∀x∈S,∀j,j<256->A.nx x j∈S
 rch:∀x,x∈S<->Rch A.sB 0 x
theorem Le{A:Mdl}(h:MOk A):LOk A A.Lb:=by
 have hT1:=h.T1
 obtain⟨a,b⟩:=Ava (succ:=A.sB) h (λ s hs=>Ase h hs) (A.T+1) 0 [0] (by simp;omega) (by simp)
 have hall:=An9 (succ:=A.sB) (x0:=0) (d:=A.T+1) (by omega)
 refine⟨a,b,Qh _ _ _ (by simp),(hall 0).2 .base,λ x hx j hj=>(hall _).2 (.step ((hall x).1 hx) ?_),hall⟩
 simp only[Mdl.sB,xI,yN]
 exact⟨j,hj,rfl⟩
def Mdl.run(A:Mdl):Nat->List Nat->Nat
 | s,[]=>s
 | s,j::w=>A.run (A.nx s j) w
def Mdl.Eqv(A:Mdl)(s u:Nat):Prop:=∀w:List Nat,(∀j∈w,j<256)->A.t.getD (A.run s w) 0=A.t.getD (A.run u w) 0/\A.e.getD (A.run s w) 0=A.e.getD (A.run u w) 0
theorem Mdl.Eqv.refl(A:Mdl)(s:Nat):A.Eqv s s:=λ _ _=>⟨rfl,rfl⟩
theorem Mdl.Eqv.symm{A:Mdl}{s u:Nat}(h:A.Eqv s u):A.Eqv u s:=λ w hw=>⟨(h w hw).1.symm,(h w hw).2.symm⟩
theorem Mdl.Eqv.trans{A:Mdl}{s u v:Nat}(h:A.Eqv s u)(k:A.Eqv u v):A.Eqv s v:=λ w hw=>⟨(h w hw).1.trans (k w hw).1,(h w hw).2.trans (k w hw).2⟩
theorem Mdl.Eqv.step{A:Mdl}{s u j:Nat}(h:A.Eqv s u)(hj:j<256):A.Eqv (A.nx s j) (A.nx u j):=λ w hw=>h (j::w) (by
 intro i hi
 rcases List.mem_cons.1 hi with rfl|hi
 ·exact hj
 ·exact hw i hi)
theorem Mdl.Eqv.tags{A:Mdl}{s u:Nat}(h:A.Eqv s u):A.t.getD s 0=A.t.getD u 0/\A.e.getD s 0=A.e.getD u 0:=h [] (by simp)
theorem Atv{A:Mdl}{S:List Nat}(hS:∀x∈S,∀j,j<256->A.nx x j∈S){P:Nat->Nat}(h0:∀x∈S,∀y∈S,P x=P y->A.t.getD x 0=A.t.getD y 0/\A.e.getD x 0=A.e.getD y 0)
  (h1:∀j,j<256->∀x∈S,∀y∈S,P x=P y->P (A.nx x j)=P (A.nx y j)):∀x∈S,∀y∈S,P x=P y->A.Eqv x y:=by
 intro x hx y hy hp w
 induction w generalizing x y with
 | nil=>intro _;exact h0 x hx y hy hp
 | cons j w ih=>
  intro hw
  have hj:=hw j (by simp)
  exact ih _ (hS x hx j hj) _ (hS y hy j hj) (h1 j hj x hx y hy hp) λ i hi=>hw i (by simp[hi])
def Bc{β:Type} [DecidableEq β](key:Nat->β)(S:List Nat)(s:Nat):Nat:=((reps key S).map key).idxOf (key s)
theorem F1{β:Type} [DecidableEq β]{key:Nat->β}{S:List Nat}{x y:Nat}(hx:x∈S):Bc key S x=Bc key S y<->key x=key y:=by
 constructor
 ·exact λ h=>Ag4 (Jt hx) h
 ·intro h;unfold Bc;rw[h]
def ofL(T:Nat)(P:Nat->Nat)(l:List Nat):List Int:=(zE T).map λ s=>if s∈l then((P s:Nat):Int) else 0
theorem I5(T:Nat)(P:Nat->Nat)(l:List Nat):(ofL T P l).length=T:=by simp[ofL]
theorem Pm{T:Nat}{P:Nat->Nat}{l:List Nat}{s:Nat}(hs:s<T)(h:s∈l):zA (ofL T P l) s 0=((P s:Nat):Int):=by
 simp[ofL,List.getD_eq_getElem?_getD,hs,h]
theorem Sn{T:Nat}{P:Nat->Nat}{l:List Nat}{s:Nat}:xO (ofL T P l) s ((P s:Nat):Int)=ofL T P (l++[s]):=by
 apply List.ext_getElem?
 intro i
 simp only[ofL,List.getElem?_set,zH,zV,List.getElem?_map]
 by_cases hi:i<T
 ·rw[List.getElem?_range hi]
  by_cases e:s=i
  ·subst e;simp[hi]
  ·simp[e,Ne.symm e]
 ·simp only[List.getElem?_eq_none (show(zE T).length<=i by simp;omega),xP]
  by_cases e:s=i
  ·simp[e,hi]
  ·simp[e]
theorem Yb(T:Nat)(P:Nat->Nat):ofL T P []=zP T 0:=by
 apply List.ext_getElem?
 intro i
 simp only[ofL,List.getElem?_replicate,List.getElem?_map,xM,if_false]
 by_cases hi:i<T
 ·rw[List.getElem?_range hi];simp[hi]
 ·rw[List.getElem?_eq_none (show(zE T).length<=i by simp;omega)];simp[hi]
theorem Nn{α:Type} [DecidableEq α]{e:α->α->Bool}(he:∀a b,e a b=decide (a=b))(key:Nat->α)(S:List Nat){i:Nat}(hi:i<S.length):
  (bif !(Fy e (key S[i]) (nm 0 ((reps key (S.take i)).map key))) then Jr e (key S[i]) ((nm 0 ((reps key (S.take i)).map key)).length:Int) (nm 0 ((reps key (S.take i)).map key)) else nm 0 ((reps key (S.take i)).map key))=nm 0 ((reps key (S.take (i+1))).map key)/\
  mget e (key S[i]) 0 (nm 0 ((reps key (S.take (i+1))).map key))=((Bc key S S[i]:Nat):Int):=by
 have ht:S.take (i+1)=S.take i++[S[i]]:=zJ (i:=i) hi
 have hin:key S[i]∈(reps key (S.take (i+1))).map key:=Jt (ht▸List.mem_append.2 (.inr (by simp)))
 constructor
 ·rw[X8 he,X9,ht,Cq,Da]
  by_cases h:key S[i]∈(reps key (S.take i)).map key
  ·rw[decide_eq_true h,if_pos h];rfl
  ·rw[decide_eq_false h,if_neg h]
   have:=Adi he (key S[i]) 0 _ h
   rw[yK] at this
   rw[yM,cond_true,this,zM]
   rfl
 ·rw[Adh he _ _ _ _ hin,yK]
  unfold Bc
  rw[Akq hin]
def Mdl.keyT(A:Mdl)(s:Nat):List Int:=[A.t.getD s 0,A.e.getD s 0]
def Mdl.keyP(A:Mdl)(P:Nat->Nat)(j s:Nat):List Int:=[((P s:Nat):Int),((P (A.nx s j):Nat):Int)]
theorem Aoc{R:Type}{A:Mdl}(h:MOk A){s:Nat}(hs:s<A.T)(k:List Int->Option R):F.nt (s:Int) A.c (A.w:Int) A.n A.t A.e k=k (A.keyT s):=by
 simp only[chk,F.nt]
 rw[Ad (by omega) (by rw[h.lt];omega),cond_true,Ad (by omega) (by rw[h.le];omega),cond_true,zD]
 rfl
theorem Aod{R:Type}{A:Mdl}(h:MOk A){S:List Nat}{P:Nat->Nat}{s j:Nat}(hs:s<A.T)(hj:j<256)(hS:s∈S)(hS':A.nx s j∈S)(k:List Int->Option R):F.nv (s:Int) (ofL A.T P S) A.c (A.w:Int) A.n A.t A.e (j:Int) k=k (A.keyP P j s):=by
 simp only[chk,F.nv]
 rw[Ad (by omega) (by rw[I5];omega),cond_true,Tx h hs hj,Ad (by omega) (by rw[I5];have:=h.nx_lt hs hj;omega),cond_true]
 simp only[zD]
 rw[Pm hs hS,Pm (h.nx_lt hs hj) hS']
 rfl
theorem Mf{S:List Nat}{i:Nat}(hi:i<S.length):zA (ints S) i (0:Int)=((S[i]:Nat):Int):=by
 rw[Lc,List.getD_eq_getElem?_getD,List.getElem?_eq_getElem hi];rfl
theorem Aup{R:Type}{A:Mdl}(h:MOk A)(N:Nat){S:List Nat}(hS:∀x∈S,x<A.T)(hlen:S.length<=A.T)(old:List Int)(cn:Int)(k:List Int->Int->List Int->List Int->List Int->Int->List (List Int×Int)->List Int->List Int->Option R):
  ∀(d m i:Nat),i+d=S.length->d<m->
  F.ba N m (ints S) (S.length:Int) (i:Int) A.c (A.w:Int) A.n A.t A.e cn (nm 0 ((reps A.keyT (S.take i)).map A.keyT)) (ofL A.T (Bc A.keyT S) (S.take i)) old k=
   k A.c (A.w:Int) A.n A.t A.e cn (nm 0 ((reps A.keyT S).map A.keyT)) (ofL A.T (Bc A.keyT S) S) old:=by
 intro d
 induction d with
 | zero=>
  intro m i hi hm
  obtain⟨m,rfl⟩:∃z,m=z+1:=⟨m-1,by omega⟩
  simp only[chk,F.ba,F.bg,zI]
  rw[if_neg (by omega),zK (by omega)]
 | succ d ih=>
  intro m i hi hm
  obtain⟨m,rfl⟩:∃z,m=z+1:=⟨m-1,by omega⟩
  have hT:=h.T2
  have hlt:i<S.length:=by omega
  have hs:=hS _ (zG hlt)
  simp only[chk,F.ba,F.bg,zI,Be]
  rw[if_pos (by omega),Ad (by omega) (by omega),Ag (n:=(i:Int)+1) (by omega) (by omega)]
  simp only[cond_true,zD,Mf hlt]
  rw[Aoc h hs,Ad (by omega) (by rw[I5];omega)]
  simp only[cond_true]
  obtain⟨e1,e2⟩:=Nn Aff A.keyT S hlt
  have ih:=ih m (i+1) (by omega) (by omega)
  rw[<-e1,show((i+1:Nat):Int)=(i:Int)+1 by omega,zJ (i:=i) hlt,<-Sn,<-e2,<-e1] at ih
  rw[<-ih]
  cases Fy eqL (A.keyT S[i]) (nm 0 (yY A.keyT (reps A.keyT (List.take i S))))<;>rfl
theorem Auq{R:Type}{A:Mdl}(h:MOk A)(N:Nat){S:List Nat}(hS:∀x∈S,x<A.T)(hlen:S.length<=A.T)(hcl:∀x∈S,∀j,j<256->A.nx x j∈S){j:Nat}(hj:j<256)(P:Nat->Nat)(cn:Int)
  (k:List Int->Int->List Int->List Int->List Int->Int->Int->List (List Int×Int)->List Int->List Int->Option R):
  ∀(d m i:Nat),i+d=S.length->d<m->
  F.ap N m (ints S) (S.length:Int) (i:Int) A.c (A.w:Int) A.n A.t A.e (j:Int) cn (nm 0 ((reps (A.keyP P j) (S.take i)).map (A.keyP P j))) (ofL A.T (Bc (A.keyP P j) S) (S.take i)) (ofL A.T P S) k=
   k A.c (A.w:Int) A.n A.t A.e (j:Int) cn (nm 0 ((reps (A.keyP P j) S).map (A.keyP P j))) (ofL A.T (Bc (A.keyP P j) S) S) (ofL A.T P S):=by
 intro d
 induction d with
 | zero=>
  intro m i hi hm
  obtain⟨m,rfl⟩:∃z,m=z+1:=⟨m-1,by omega⟩
  simp only[chk,F.ap,F.aq,zI]
  rw[if_neg (by omega),zK (by omega)]
 | succ d ih=>
  intro m i hi hm
  obtain⟨m,rfl⟩:∃z,m=z+1:=⟨m-1,by omega⟩
  have hT:=h.T2
  have hlt:i<S.length:=by omega
  have hm0:S[i]∈S:=zG hlt
  have hs:=hS _ hm0
  simp only[chk,F.ap,F.aq,zI,Be]
  rw[if_pos (by omega),Ad (by omega) (by omega),Ag (n:=(i:Int)+1) (by omega) (by omega)]
  simp only[cond_true,zD,Mf hlt]
  rw[Aod h hs hj hm0 (hcl _ hm0 j hj),Ad (by omega) (by rw[I5];omega)]
  simp only[cond_true]
  obtain⟨e1,e2⟩:=Nn Aff (A.keyP P j) S hlt
  have ih:=ih m (i+1) (by omega) (by omega)
  rw[<-e1,show((i+1:Nat):Int)=(i:Int)+1 by omega,zJ (i:=i) hlt,<-Sn,<-e2,<-e1] at ih
  rw[<-ih]
  cases Fy eqL (A.keyP P j S[i]) (nm 0 (yY (A.keyP P j) (reps (A.keyP P j) (List.take i S))))<;>rfl
theorem Apo{R:Type}(N:Nat)(l:List Int)(x:Int)(hl:l.length<=1048576)(k0:Unit->Option R)(k1:Int->Option R):∀(d m i:Nat),i+d=l.length->d<m->(x∈l.drop i)->
  F.na N m l x (l.length:Int) (i:Int) k0 k1=k1 ((i+(l.drop i).idxOf x:Nat):Int):=by
 intro d
 induction d with
 | zero=>
  intro m i hi hm hx
  rw[yX (by omega)] at hx
  simp at hx
 | succ d ih=>
  intro m i hi hm hx
  obtain⟨m,rfl⟩:∃z,m=z+1:=⟨m-1,by omega⟩
  have hlt:i<l.length:=by omega
  simp only[chk,F.na,F.qn,zI]
  rw[if_pos (by omega),Ad (by omega) (by omega),Ag (n:=(i:Int)+1) (by omega) (by omega)]
  simp only[cond_true,zD,Eu l hlt]
  rw[yQ hlt] at hx⊢
  rw[List.idxOf_cons]
  by_cases e:x=l[i]
  ·rw[show(x==l[i])=true by simpa using e,show(l[i]==x)=true by simpa using e.symm]
   simp
  ·rw[show(x==l[i])=false by simpa using e,show(l[i]==x)=false by simpa using λ k=>e k.symm]
   simp only[cond_false]
   have hx':x∈l.drop (i+1):=by
    rcases List.mem_cons.1 hx with h|h
    ·exact(e h).elim
    ·exact h
   have:=ih m (i+1) (by omega) (by omega) hx'
   rw[show((i+1:Nat):Int)=(i:Int)+1 by omega] at this
   rw[this]
   congr 2
   omega
theorem Ad4{R:Type}(N:Nat)(l:List Int)(x:Int)(hl:l.length<=1048576)(hN:1048576<N)(hx:x∈l)(k:Int->Option R):F.rq N l x k=k ((l.idxOf x:Nat):Int):=by
 simp only[chk,F.rq]
 have:=Apo N l x hl (λ _=>k (-1)) (λ y7=>k y7) l.length N 0 (by omega) (by omega) hx
 rw[yK,List.drop_zero] at this
 exact this
def Mdl.isRep(A:Mdl)(j:Nat):Prop:=A.c.idxOf (zA A.c j 0)=j
theorem Aum{A:Mdl}(h:MOk A){j:Nat}(hj:j<256):∃r,r<256/\A.isRep r/\A.ch r=A.ch j:=by
 have hmem:zA A.c j 0∈A.c:=by rw[Eu A.c (by rw[h.lc];exact hj)];exact zG _
 have hlt:=List.idxOf_lt_length_iff.2 hmem
 have e:zA A.c (A.c.idxOf (zA A.c j 0)) 0=zA A.c j 0:=by
  rw[Eu A.c hlt];exact xF hlt
 refine⟨A.c.idxOf (zA A.c j 0),by rw[h.lc] at hlt;exact hlt, ?_, ?_⟩
 ·unfold Mdl.isRep;rw[e]
 ·unfold Mdl.ch;rw[e]
def cnP(P:Nat->Nat)(S:List Nat):Nat:=(reps P S).length
structure Ref(A:Mdl)(S:List Nat)(P P':Nat->Nat):Prop where
 fine:∀x∈S,∀y∈S,P' x=P' y->P x=P y
 keep:(∀x∈S,∀y∈S,A.Eqv x y->P x=P y)->∀x∈S,∀y∈S,A.Eqv x y->P' x=P' y
theorem Ref.refl{A:Mdl}{S:List Nat}{P:Nat->Nat}:Ref A S P P:=⟨λ _ _ _ _ h=>h,λ h=>h⟩
theorem Ref.trans{A:Mdl}{S:List Nat}{P Q U:Nat->Nat}(h:Ref A S P Q)(k:Ref A S Q U):Ref A S P U:=⟨λ x hx y hy e=>h.fine x hx y hy (k.fine x hx y hy e),λ e=>k.keep (h.keep e)⟩
theorem Ref.le{A:Mdl}{S:List Nat}{P P':Nat->Nat}(h:Ref A S P P'):cnP P S<=cnP P' S:=(Un h.fine).1
theorem Ref.same{A:Mdl}{S:List Nat}{P P':Nat->Nat}(h:Ref A S P P')(e:cnP P' S=cnP P S):∀x∈S,∀y∈S,P x=P y->P' x=P' y:=(Un h.fine).2 e
theorem Afv{β:Type} [DecidableEq β](key:Nat->β)(S:List Nat):cnP (Bc key S) S=(reps key S).length:=by
 unfold cnP
 rw[Mn (f:=Bc key S) (g:=key) λ x hx y hy=>F1 hx]
theorem Aoz{A:Mdl}{S:List Nat}(hcl:∀x∈S,∀j,j<256->A.nx x j∈S){j:Nat}(hj:j<256)(P:Nat->Nat):
  Ref A S P (Bc (A.keyP P j) S)/\∀x∈S,∀y∈S,Bc (A.keyP P j) S x=Bc (A.keyP P j) S y->P (A.nx x j)=P (A.nx y j):=by
 have hk:∀x y,A.keyP P j x=A.keyP P j y<->P x=P y/\P (A.nx x j)=P (A.nx y j):=by
  intro x y
  simp only[Mdl.keyP,List.cons.injEq,and_true]
  omega
 refine⟨⟨λ x hx y hy e=>((hk x y).1 ((F1 hx).1 e)).1,λ e x hx y hy hxy=>(F1 hx).2 ((hk x y).2 ⟨e x hx y hy hxy,e _ (hcl x hx j hj) _ (hcl y hy j hj) (hxy.step hj)⟩)⟩,λ x hx y hy e=>((hk x y).1 ((F1 hx).1 e)).2⟩
theorem Aob{R:Type}{A:Mdl}(h:MOk A)(N:Nat)(hN:1048576<N){S:List Nat}(hS:∀x∈S,x<A.T)(hlen:S.length<=A.T)(old:List Int)(ho:old.length=A.T)(cn:Int)(k:List Int->Int->List Int->List Int->List Int->Int->List Int->Option R):
  F.nu N (ints S) A.c (A.w:Int) A.n A.t A.e cn old k=k A.c (A.w:Int) A.n A.t A.e ((cnP (Bc A.keyT S) S:Nat):Int) (ofL A.T (Bc A.keyT S) S):=by
 have hT:=h.T2
 simp only[chk,F.nu,zI,Be,ho]
 rw[if_pos (by omega),show yW (zX (A.T:Int)) (Ap 8)=true by rw[zY];simp[Ap];omega,cond_true]
 have:=Aup h N hS hlen old cn (λ y22 y23 y24 y25 y26 y27 y28 y29 y30=>k y22 y23 y24 y25 y26 (yD y28:Int) y29) S.length N 0 (by omega) (by omega)
 rw[zT,Yb,X9] at this
 rw[Afv]
 simp only[zH] at this
 exact this
theorem Ait{R:Type}{A:Mdl}(h:MOk A)(N:Nat)(hN:1048576<N){S:List Nat}(hS:∀x∈S,x<A.T)(hlen:S.length<=A.T)(hcl:∀x∈S,∀j,j<256->A.nx x j∈S){j:Nat}(hj:j<256)(P:Nat->Nat)(cn:Int)(k:List Int->Int->List Int->List Int->List Int->Int->Int->List Int->Option R):
  F.km N (ints S) A.c (A.w:Int) A.n A.t A.e (j:Int) cn (ofL A.T P S) k=k A.c (A.w:Int) A.n A.t A.e (j:Int) ((cnP (Bc (A.keyP P j) S) S:Nat):Int) (ofL A.T (Bc (A.keyP P j) S) S):=by
 have hT:=h.T2
 simp only[chk,F.km,zI,Be,I5]
 rw[if_pos (by omega),show yW (zX (A.T:Int)) (Ap 8)=true by rw[zY];simp[Ap];omega,cond_true]
 have:=Auq h N hS hlen hcl hj P cn (λ y24 y25 y26 y27 y28 y29 y30 y31 y32 y33=>k y24 y25 y26 y27 y28 y29 (yD y31:Int) y32) S.length N 0 (by omega) (by omega)
 rw[zT,Yb,X9] at this
 rw[Afv]
 simp only[zH] at this
 exact this
theorem pass{A:Mdl}(h:MOk A)(C N:Nat)(hN:1048576<N){S:List Nat}(hS:∀x∈S,x<A.T)(hlen:S.length<=A.T)(hcl:∀x∈S,∀j,j<256->A.nx x j∈S)(b:Int):∀(d j:Nat) (P:Nat->Nat),j+d=256->
  ∃P',(∀{R:Type} (k:Int->List Int->Int->List Int->List Int->List Int->Int->List Int->List Int->Option R),F.al C N d j b A.c (A.w:Int) A.n A.t A.e ((cnP P S:Nat):Int) (ofL A.T P S) (ints S) k=k b A.c (A.w:Int) A.n A.t A.e ((cnP P' S:Nat):Int) (ofL A.T P' S) (ints S))/\
   Ref A S P P'/\(cnP P' S=cnP P S->∀i,j<=i->i<256->A.isRep i->∀x∈S,∀y∈S,P x=P y->P (A.nx x i)=P (A.nx y i))
 | 0,j,P,hj=>⟨P,λ k=>by simp only[chk,F.al],.refl,λ _ i h1 h2=>by omega⟩
 | d+1,j,P,hj=>by
  have hT:=h.T2
  have hmem:zA A.c j 0∈A.c:=by rw[Eu A.c (by rw[h.lc];omega)];exact zG _
  have hstep:∀{R:Type} (k:Int->List Int->Int->List Int->List Int->List Int->Int->List Int->List Int->Option R),F.al C N (d+1) j b A.c (A.w:Int) A.n A.t A.e ((cnP P S:Nat):Int) (ofL A.T P S) (ints S) k=
    bif((A.c.idxOf (zA A.c j 0):Nat):Int)==(j:Int) then F.al C N d (j+1) b A.c (A.w:Int) A.n A.t A.e ((cnP (Bc (A.keyP P j) S) S:Nat):Int) (ofL A.T (Bc (A.keyP P j) S) S) (ints S) k
    else F.al C N d (j+1) b A.c (A.w:Int) A.n A.t A.e ((cnP P S:Nat):Int) (ofL A.T P S) (ints S) k:=by
   intro R k
   simp only[chk,F.al,F.oy]
   rw[Ad (by omega) (by rw[h.lc];omega),cond_true,zD,Ad4 N A.c _ (by rw[h.lc];omega) hN hmem]
   cases((A.c.idxOf (zA A.c j 0):Nat):Int)==(j:Int)
   ·rfl
   ·simp only[cond_true]
    rw[Ait h N hN hS hlen hcl (by omega) P]
  by_cases hr:A.isRep j
  ·obtain⟨q1,q2⟩:=Aoz hcl (show j<256 by omega) P
   obtain⟨P',k1,k2,k3⟩:=pass h C N hN hS hlen hcl b d (j+1) (Bc (A.keyP P j) S) (by omega)
   refine⟨P',λ k=> ?_,q1.trans k2,λ e i h1 h2 h3 x hx y hy hxy=> ?_⟩
   ·rw[hstep,show A.c.idxOf (zA A.c j 0)=j from hr,show((j:Int)==(j:Int))=true from beq_self_eq_true _,cond_true]
    exact k1 k
   ·have a:=q1.le
    have c:=k2.le
    have e1:cnP (Bc (A.keyP P j) S) S=cnP P S:=by omega
    have s1:=q1.same e1 x hx y hy hxy
    by_cases hij:i=j
    ·subst hij
     exact q2 x hx y hy s1
    ·exact q1.fine _ (hcl x hx i h2) _ (hcl y hy i h2) (k3 (by omega) i (by omega) h2 h3 x hx y hy s1)
  ·obtain⟨P',k1,k2,k3⟩:=pass h C N hN hS hlen hcl b d (j+1) P (by omega)
   refine⟨P',λ k=> ?_,k2,λ e i h1 h2 h3=> ?_⟩
   ·rw[hstep,show(((A.c.idxOf (zA A.c j 0):Nat):Int)==(j:Int))=false from beq_eq_false_iff_ne.2 (λ e=>hr (by unfold Mdl.isRep;omega)),cond_false]
    exact k1 k
   ·have:i≠j:=λ e=>hr (e▸h3)
    exact k3 e i (by omega) h2 h3
def Au9(A:Mdl)(S:List Nat)(P:Nat->Nat):Prop:=∀j,j<256->∀x∈S,∀y∈S,P x=P y->P (A.nx x j)=P (A.nx y j)
theorem Rx{A:Mdl}(h:MOk A)(N:Nat)(hN:1048576<N){S:List Nat}(hS:∀x∈S,x<A.T)(hlen:S.length<=A.T)(hcl:∀x∈S,∀j,j<256->A.nx x j∈S):∀(m:Nat) (P:Nat->Nat) (b:Nat),(b=cnP P S/\1<=m)\/A.T+2<=cnP P S+m->(b=cnP P S->Au9 A S P)->
  ∃P',(∀{R:Type} (k:List Int->Option R),F.bo 256 N m (b:Int) A.c (A.w:Int) A.n A.t A.e ((cnP P S:Nat):Int) (ofL A.T P S) (ints S) k=k (ofL A.T P' S))/\Ref A S P P'/\Au9 A S P'
 | 0,P,b,hm,hs=>by
  have:=Ez P S
  unfold cnP at hm
  omega
 | m+1,P,b,hm,hs=>by
  by_cases hb:b=cnP P S
  ·refine⟨P,λ k=> ?_,.refl,hs hb⟩
   simp only[chk,F.bo,F.kq]
   rw[show((b:Int) !=((cnP P S:Nat):Int))=false by simp;omega,cond_false]
  ·obtain⟨P1,k1,k2,k3⟩:=pass h 256 N hN hS hlen hcl ((cnP P S:Nat):Int) 256 0 P (by omega)
   have hle:=k2.le
   have hmax:cnP P1 S<=A.T:=yF (Ez P1 S) hlen
   obtain⟨P2,j1,j2,j3⟩:=Rx h N hN hS hlen hcl m P1 (cnP P S) (by omega) (λ e=>by
    have hst:=k3 e.symm
    intro i hi x hx y hy hxy
    obtain⟨r,r1,r2,r3⟩:=Aum h hi
    have e2:∀z,A.nx z i=A.nx z r:=λ z=>by unfold Mdl.nx;rw[r3]
    rw[e2,e2]
    exact k2.same e.symm _ (hcl x hx r r1) _ (hcl y hy r r1) (hst r (Nat.zero_le _) r1 r2 x hx y hy (k2.fine x hx y hy hxy)))
   refine⟨P2,λ k=> ?_,k2.trans j2,j3⟩
   simp only[chk,F.bo,F.kq,F.az]
   rw[show((b:Int) !=((cnP P S:Nat):Int))=true by simp;omega,cond_true,k1,j1]
theorem Ac6{A:Mdl}(h:MOk A)(N:Nat)(hN:1048576<N){S:List Nat}(hS:∀x∈S,x<A.T)(hlen:S.length<=A.T)(h0:S≠[])(hcl:∀x∈S,∀j,j<256->A.nx x j∈S):
  ∃P:Nat->Nat,(∀{R:Type} (k:List Int->Option R),F.nh N A.c (A.w:Int) A.n A.t A.e (ints S) k=k (ofL A.T P S))/\∀x∈S,∀y∈S,P x=P y<->A.Eqv x y:=by
 have hT:=h.T2
 have hpos:1<=cnP (Bc A.keyT S) S:=by
  obtain⟨x,hx⟩:=List.exists_mem_of_ne_nil S h0
  have:=Jt (f:=Bc A.keyT S) hx
  unfold cnP
  cases hr:reps (Bc A.keyT S) S with
  | nil=>rw[hr] at this;simp at this
  | cons a r=>simp
 obtain⟨P',j1,j2,j3⟩:=Rx h N hN hS hlen hcl N (Bc A.keyT S) 0 (.inr (by omega)) (λ e=>by omega)
 have hkey:∀x y,A.keyT x=A.keyT y<->A.t.getD x 0=A.t.getD y 0/\A.e.getD x 0=A.e.getD y 0:=by
  intro x y
  simp only[Mdl.keyT,List.cons.injEq,and_true]
 refine⟨P',λ k=> ?_,λ x hx y hy=>⟨?_, ?_⟩⟩
 ·simp only[chk,F.nh,F.qo,zI,h.lt]
  rw[if_pos (by omega),show yW (zX (A.T:Int)) (Ap 8)=true by rw[zY];simp[Ap];omega,cond_true,zD,Aob h N hN hS hlen _ (by simp)]
  exact j1 k
 ·exact Atv hcl (λ x hx y hy e=>(hkey x y).1 ((F1 hx).1 (j2.fine x hx y hy e))) j3 x hx y hy
 ·intro e
  exact j2.keep (λ x hx y hy e=>(F1 hx).2 ((hkey x y).2 e.tags)) x hx y hy e
def PI(P:Nat->Nat)(s:Nat):Int:=((P s:Nat):Int)
def Dt(A:Mdl)(P:Nat->Nat)(S:List Nat)(s j:Nat):Nat:=Bc (PI P) S (A.nx s j)
def E9(A:Mdl)(P:Nat->Nat)(S:List Nat)(s:Nat):List Int:=ofL 256 (Dt A P S s) (zE 256)
theorem Ahe{A:Mdl}(P:Nat->Nat)(S:List Nat){x:Nat}(hx:x∈S):mget eqI (PI P x) 0 (nm 0 ((reps (PI P) S).map (PI P)))=((Bc (PI P) S x:Nat):Int):=by
 rw[Adh Xn _ _ _ _ (Jt hx),yK]
 rfl
theorem Aua{R:Type}{A:Mdl}(h:MOk A)(C N:Nat){S:List Nat}(hS:∀x∈S,x<A.T)(hlen:S.length<=A.T)(P:Nat->Nat)(wd:Int)(a1 a2 a3 a4:List Int)(rows:List (List Int))
  (k:List Int->Int->List Int->List Int->List Int->Int->List Int->List Int->List Int->List Int->List Int->List Int->List (Int×Int)->List (List Int)->Option R):
  ∀(d m i:Nat),i+d=S.length->d<m->
  F.fm C N m (S.length:Int) (i:Int) A.c (A.w:Int) A.n A.t A.e wd (ints (reps (PI P) (S.take i))) (ints S) a1 a2 a3 a4 (ofL A.T P S) (nm 0 ((reps (PI P) (S.take i)).map (PI P))) rows k=
   k A.c (A.w:Int) A.n A.t A.e wd (ints (reps (PI P) S)) a1 a2 a3 a4 (ofL A.T P S) (nm 0 ((reps (PI P) S).map (PI P))) rows:=by
 intro d
 induction d with
 | zero=>
  intro m i hi hm
  obtain⟨m,rfl⟩:∃z,m=z+1:=⟨m-1,by omega⟩
  simp only[chk,F.fm,F.ja,zI]
  rw[if_neg (by omega),zK (by omega)]
 | succ d ih=>
  intro m i hi hm
  obtain⟨m,rfl⟩:∃z,m=z+1:=⟨m-1,by omega⟩
  have hT:=h.T2
  have hlt:i<S.length:=by omega
  have hm0:S[i]∈S:=zG hlt
  have hs:=hS _ hm0
  have hle:=Ez (PI P) (S.take i)
  have htl:(S.take i).length<=S.length:=by rw[zW];omega
  simp only[chk,F.fm,F.ja,zI,Be]
  rw[if_pos (by omega),Ad (by omega) (by omega),Ag (n:=(i:Int)+1) (by omega) (by omega)]
  simp only[cond_true,zD,Mf hlt,Pm hs hm0]
  rw[Ad (by omega) (by rw[I5];omega),I2 (by omega) (by simp) (by omega)]
  simp only[cond_true]
  have ih:=ih m (i+1) (by omega) (by omega)
  have ht:S.take (i+1)=S.take i++[S[i]]:=zJ (i:=i) hlt
  rw[show((i+1:Nat):Int)=(i:Int)+1 by omega,ht,Cq,Da] at ih
  have hh:Fy eqI ((P S[i]:Nat):Int) (nm 0 ((reps (PI P) (S.take i)).map (PI P)))=decide (PI P S[i]∈(reps (PI P) (S.take i)).map (PI P)):=X8 Xn _ _ _
  rw[hh]
  by_cases hc:PI P S[i]∈(reps (PI P) (S.take i)).map (PI P)
  ·rw[if_pos hc] at ih
   rw[decide_eq_true hc,yI,cond_false]
   exact ih
  ·rw[if_neg hc,zM,zR,yL,<-Adi Xn _ 0 _ hc,yK,zH,<-H8] at ih
   rw[decide_eq_false hc,yM,cond_true]
   exact ih
theorem Ak3{R:Type}{A:Mdl}(h:MOk A)(C N:Nat){S:List Nat}(hS:∀x∈S,x<A.T)(hcl:∀x∈S,∀j,j<256->A.nx x j∈S)(P:Nat->Nat){s:Nat}(hs:s∈S)(p q wd:Int)(f a1 a2 a3 a4:List Int)(rows:List (List Int))
  (k:Int->Int->List Int->Int->List Int->List Int->List Int->Int->List Int->List Int->List Int->List Int->List Int->List Int->List Int->List (Int×Int)->List (List Int)->Option R):
  ∀(d j:Nat),j+d=256->
  F.ft C N d j p q A.c (A.w:Int) A.n A.t A.e wd f (s:Int) (ofL 256 (Dt A P S s) (zE j)) a1 a2 a3 a4 (ofL A.T P S) (nm 0 ((reps (PI P) S).map (PI P))) rows k=
   k p q A.c (A.w:Int) A.n A.t A.e wd f (E9 A P S s) a1 a2 a3 a4 (ofL A.T P S) (nm 0 ((reps (PI P) S).map (PI P))) rows
 | 0,j,hj=>by
  simp only[chk,F.ft]
  rw[show j=256 by omega]
  rfl
 | d+1,j,hj=>by
  have hnx:=hcl s hs j (by omega)
  have hnt:=hS _ hnx
  simp only[chk,F.ft,F.qa]
  rw[Tx h (hS s hs) (by omega),Ad (by omega) (by rw[I5];omega),cond_true,Ad (by omega) (by omega),cond_true]
  simp only[zD,Pm hnt hnx]
  have e:mget eqI ((P (A.nx s j):Nat):Int) 0 (nm 0 ((reps (PI P) S).map (PI P)))=((Dt A P S s j:Nat):Int):=Ahe (A:=A) P S hnx
  rw[e,Sn,<-yZ]
  exact Ak3 h C N hS hcl P hs p q wd f a1 a2 a3 a4 rows k d (j+1) (by omega)
theorem Abb{T:Nat}(P:Nat->Nat):zP T (0:Int)=ofL T P (zE 0):=(Yb T P).symm
theorem Aub{R:Type}{A:Mdl}(h:MOk A)(N:Nat){S:List Nat}(hS:∀x∈S,x<A.T)(hlen:S.length<=A.T)(hcl:∀x∈S,∀j,j<256->A.nx x j∈S)(P:Nat->Nat)(wd:Int)(a1 a2 a3 a4:List Int){f:List Nat}(hf:∀x∈f,x∈S)(hfl:f.length<=A.T)
  (k:List Int->Int->List Int->List Int->List Int->Int->List Int->List Int->List Int->List Int->List Int->List (List Int)->Option R):
  ∀(d m i:Nat),i+d=f.length->d<m->
  F.fu 256 N m (f.length:Int) (i:Int) A.c (A.w:Int) A.n A.t A.e wd (ints f) a1 a2 a3 a4 (ofL A.T P S) (nm 0 ((reps (PI P) S).map (PI P))) ((f.take i).map (E9 A P S)) k=
   k A.c (A.w:Int) A.n A.t A.e wd (ints f) a1 a2 a3 a4 (f.map (E9 A P S)):=by
 intro d
 induction d with
 | zero=>
  intro m i hi hm
  obtain⟨m,rfl⟩:∃z,m=z+1:=⟨m-1,by omega⟩
  simp only[chk,F.fu,F.jb,zI]
  rw[if_neg (by omega),zK (by omega)]
 | succ d ih=>
  intro m i hi hm
  obtain⟨m,rfl⟩:∃z,m=z+1:=⟨m-1,by omega⟩
  have hT:=h.T2
  have hlt:i<f.length:=by omega
  have hm0:f[i]∈S:=hf _ (zG hlt)
  simp only[chk,F.fu,F.jb,zI,Be,F.az]
  rw[if_pos (by omega),Ad (by omega) (by omega),cond_true]
  simp only[zD,Mf hlt]
  rw[Abb (Dt A P S f[i]),Ak3 h 256 N hS hcl P hm0 _ _ _ _ _ _ _ _ _ _ 256 0 (by omega)]
  have htl:(f.take i).length<=f.length:=by rw[zW];omega
  rw[Ag (n:=(i:Int)+1) (by omega) (by omega),I2 (by rw[zH];omega) (by simp) (by omega),cond_true]
  have ih:=ih m (i+1) (by omega) (by omega)
  rw[show((i+1:Nat):Int)=(i:Int)+1 by omega,zJ (i:=i) hlt,zM] at ih
  exact ih
def Zm(v:Nat):List Int:=[((v%256:Nat):Int),((v/256%256:Nat):Int)]
theorem As3(v:Nat):Aa .u8 ((v:Nat):Int)=((v%256:Nat):Int):=by
 simp only[Aa,IntKind.wrap,IntKind.signed,IntKind.bits,xS,Bool.false_eq_true,if_false]
 omega
theorem Avo(v:Nat):Int.fdiv ((v:Nat):Int) (2^min (zX 8) 64)=((v/256:Nat):Int):=by
 have:(2:Int)^min (zX 8) 64=256:=by decide
 rw[this,Int.fdiv_eq_ediv_of_nonneg _ (by omega)]
 omega
def R9(A:Mdl)(P:Nat->Nat)(S f:List Nat)(j:Nat):List Int:=(f.map λ s=>Zm (Dt A P S s j)).flatten
def Ek(A:Mdl)(P:Nat->Nat)(S f:List Nat)(j:Nat):List UInt8:=C9 (R9 A P S f j)
theorem Zq(A:Mdl)(P:Nat->Nat)(S:List Nat)(j:Nat):∀f:List Nat,(R9 A P S f j).length=2*f.length
 | []=>rfl
 | s::f=>by
  have:=Zq A P S j f
  simp only[R9,zR,xJ,zF,zB] at this⊢
  rw[this]
  simp[Zm]
  omega
theorem Rk(A:Mdl)(P:Nat->Nat)(S:List Nat)(s:Nat){j:Nat}(hj:j<256):zA (E9 A P S s) j 0=((Dt A P S s j:Nat):Int):=Pm hj (by simpa using hj)
theorem Abh{A:Mdl}{P:Nat->Nat}{S f:List Nat}{i:Nat}(hi:i<f.length)(z:List Int):zA (f.map (E9 A P S)) i z=E9 A P S f[i]:=by
 simp[List.getD_eq_getElem?_getD,hi]
theorem Auc{R:Type}{A:Mdl}(h:MOk A)(C N:Nat)(P:Nat->Nat)(S:List Nat)(wd u:Int)(g a1 a2 a3 a4 cl b1 b2 b3 at':List Int)(names:List (List UInt8×Int)){f:List Nat}(hfl:f.length<=A.T){j:Nat}(hj:j<256)
  (k:Int->List Int->Int->List Int->List Int->List Int->Int->List Int->Int->List Int->List Int->List Int->List Int->List Int->List (List Int)->List Int->List Int->List Int->List Int->List (List UInt8×Int)->List Int->Option R):
  ∀(d m i:Nat),i+d=f.length->d<m->
  F.fv C N m (j:Int) (f.length:Int) (i:Int) A.c (A.w:Int) A.n A.t A.e wd g u (R9 A P S (f.take i) j) (f.map (E9 A P S)) a1 a2 a3 a4 cl b1 b2 b3 names at' k=
   k (j:Int) A.c (A.w:Int) A.n A.t A.e wd g u (R9 A P S f j) a1 a2 a3 a4 (f.map (E9 A P S)) cl b1 b2 b3 names at':=by
 intro d
 induction d with
 | zero=>
  intro m i hi hm
  obtain⟨m,rfl⟩:∃z,m=z+1:=⟨m-1,by omega⟩
  simp only[chk,F.fv,F.jc,zI]
  rw[if_neg (by omega),zK (by omega)]
 | succ d ih=>
  intro m i hi hm
  obtain⟨m,rfl⟩:∃z,m=z+1:=⟨m-1,by omega⟩
  have hT:=h.T2
  have hlt:i<f.length:=by omega
  simp only[chk,F.fv,F.jc,zI,zH]
  have htl:(f.take i).length<=f.length:=by rw[zW];omega
  rw[if_pos (by omega),Ad (by omega) (by omega),Ad (by omega) (by omega),if_pos (by omega),Ag (n:=(i:Int)+1) (by omega) (by omega)]
  simp only[cond_true,zD,Abh hlt,Rk A P S f[i] hj]
  rw[Avo,As3,As3,I2 (by rw[Zq];omega) (by simp) (by omega),cond_true]
  have ih:=ih m (i+1) (by omega) (by omega)
  rw[show((i+1:Nat):Int)=(i:Int)+1 by omega,zJ (i:=i) hlt] at ih
  have e:R9 A P S (f.take i++[f[i]]) j=R9 A P S (f.take i) j++Zm (Dt A P S f[i] j):=by
   unfold R9
   rw[zM,List.flatten_append,zR,yL,xJ,List.flatten_nil,yJ]
  rw[e] at ih
  exact ih
theorem Ahf{α:Type} [DecidableEq α]{e:α->α->Bool}(he:∀a b,e a b=decide (a=b))(key:Nat->α){j n:Nat}(hj:j<n):
  (bif !(Fy e (key j) (nm 0 ((reps key (zE j)).map key))) then Jr e (key j) ((nm 0 ((reps key (zE j)).map key)).length:Int) (nm 0 ((reps key (zE j)).map key)) else nm 0 ((reps key (zE j)).map key))=nm 0 ((reps key (zE (j+1))).map key)/\
  mget e (key j) 0 (nm 0 ((reps key (zE (j+1))).map key))=((Bc key (zE n) j:Nat):Int):=by
 have:=Nn he key (zE n) (i:=j) (by simpa using hj)
 simp only[yE,List.take_range,xQ (show j<=n by omega),xQ (show j+1<=n by omega)] at this
 exact this
theorem Ak4{R:Type}{A:Mdl}(h:MOk A)(C N:Nat)(hN:1048576<N)(P:Nat->Nat)(S:List Nat)(wd u:Int)(g a1 a2 a3 a4 b1 b2 b3:List Int){f:List Nat}(hfl:f.length<=A.T)
  (k:List Int->Int->List Int->List Int->List Int->Int->List Int->Int->List Int->List Int->List Int->List Int->List (List Int)->List Int->List Int->List Int->List Int->List Int->Option R):
  ∀(d j:Nat),j+d=256->
  F.fw C N d j A.c (A.w:Int) A.n A.t A.e wd g u a1 a2 a3 a4 (f.map (E9 A P S)) (ofL 256 (Bc (Ek A P S f) (zE 256)) (zE j)) b1 b2 b3 (nm 0 ((reps (Ek A P S f) (zE j)).map (Ek A P S f))) (ints (reps (Ek A P S f) (zE j))) k=
   k A.c (A.w:Int) A.n A.t A.e wd g u a1 a2 a3 a4 (f.map (E9 A P S)) (ofL 256 (Bc (Ek A P S f) (zE 256)) (zE 256)) b1 b2 b3 (ints (reps (Ek A P S f) (zE 256)))
 | 0,j,hj=>by
  simp only[chk,F.fw]
  rw[show j=256 by omega]
 | d+1,j,hj=>by
  have hT:=h.T2
  simp only[chk,F.fw,F.qb,zH]
  have h8:=λ k'=>Auc (R:=R) h C N P S wd u g a1 a2 a3 a4 (ofL 256 (Bc (Ek A P S f) (zE 256)) (zE j)) b1 b2 b3 (ints (reps (Ek A P S f) (zE j))) (nm 0 ((reps (Ek A P S f) (zE j)).map (Ek A P S f))) hfl (show j<256 by omega) k' f.length N 0 (by omega) (by omega)
  have h8:=λ k'=>h8 k'
  simp only[zT] at h8
  rw[show R9 A P S [] j=[] from rfl] at h8
  rw[show((0:Nat):Int)=0 from rfl] at h8
  rw[h8]
  rw[show C9 (R9 A P S f j)=Ek A P S f j from rfl]
  have hle:=Ez (Ek A P S f) (zE j)
  rw[zV] at hle
  rw[I2 (by rw[Be];omega) (by simp) (by omega),Ad (by omega) (by rw[I5];omega)]
  simp only[cond_true,zD]
  obtain⟨e1,e2⟩:=Ahf Afg (Ek A P S f) (show j<256 by omega)
  have ih:=Ak4 h C N hN P S wd u g a1 a2 a3 a4 b1 b2 b3 hfl k d (j+1) (by omega)
  have er:reps (Ek A P S f) (zE (j+1))=Da (Ek A P S f) (reps (Ek A P S f) (zE j)) j:=by rw[show zE (j+1)=zE j++[j] from yZ,Cq]
  have eo:ofL 256 (Bc (Ek A P S f) (zE 256)) (zE (j+1))=xO (ofL 256 (Bc (Ek A P S f) (zE 256)) (zE j)) j ((Bc (Ek A P S f) (zE 256) j:Nat):Int):=by rw[show zE (j+1)=zE j++[j] from yZ,Sn]
  rw[<-e1] at ih e2
  rw[eo,<-e2] at ih
  rw[er,Da] at ih
  have hh:=X8 Afg (Ek A P S f j) 0 ((reps (Ek A P S f) (zE j)).map (Ek A P S f))
  by_cases hc:Ek A P S f j∈(reps (Ek A P S f) (zE j)).map (Ek A P S f)
  ·simp only[hc,decide_true] at hh
   rw[hh,if_pos hc] at ih
   rw[hh]
   exact ih
  ·simp only[hc,decide_false] at hh
   rw[hh,if_neg hc,<-H8] at ih
   rw[hh]
   exact ih
theorem Apb{R:Type}{A:Mdl}(h:MOk A)(C N:Nat)(P:Nat->Nat)(S:List Nat)(p q wd wi:Int)(g a1 a2 a3 a4 cl tg en pre:List Int){f:List Nat}(hfl:f.length<=A.T){i:Nat}(hi:i<f.length){at':List Nat}(hat:∀x∈at',x<256)(hal:at'.length<=256)(hpre:pre.length<=1048276)
  (k:Int->Int->List Int->Int->List Int->List Int->List Int->Int->Int->List Int->List Int->List Int->List Int->List Int->List (List Int)->List Int->List Int->List Int->List Int->List Int->Option R):
  ∀(d m r:Nat),r+d=at'.length->d<m->
  F.da C N m (i:Int) p q (at'.length:Int) (r:Int) A.c (A.w:Int) A.n A.t A.e wd wi g (ints at') a1 a2 a3 a4 (f.map (E9 A P S)) cl (pre++ints ((at'.take r).map (Dt A P S f[i]))) tg en k=
   k p q A.c (A.w:Int) A.n A.t A.e wd wi g a1 a2 a3 a4 (f.map (E9 A P S)) cl (pre++ints (at'.map (Dt A P S f[i]))) tg en (ints at'):=by
 intro d
 induction d with
 | zero=>
  intro m r hr hm
  obtain⟨m,rfl⟩:∃z,m=z+1:=⟨m-1,by omega⟩
  simp only[chk,F.da,F.eb,zI]
  rw[if_neg (by omega),zK (by omega)]
 | succ d ih=>
  intro m r hr hm
  obtain⟨m,rfl⟩:∃z,m=z+1:=⟨m-1,by omega⟩
  have hT:=h.T2
  have hlt:r<at'.length:=by omega
  have hc:=hat _ (zG hlt)
  have htl:(at'.take r).length<=at'.length:=by rw[zW];omega
  simp only[chk,F.da,F.eb,zI,zH,Be]
  rw[if_pos (by omega),Ad (by omega) (by omega),Ad (by omega) (by omega),Ag (n:=(r:Int)+1) (by omega) (by omega)]
  simp only[cond_true,zD,Mf hlt,Abh hi,Rk A P S f[i] hc]
  rw[Ad (by omega) (by omega),cond_true,I2 (by rw[zF,Be,zH];omega) (by simp) (by omega),cond_true,yR,H8]
  have ih:=ih m (r+1) (by omega) (by omega)
  rw[show((r+1:Nat):Int)=(r:Int)+1 by omega,zJ (i:=r) hlt,zM] at ih
  exact ih
def Dl(cl:Nat->Nat->Nat)(at':List Nat):List Nat->List Int
 | []=>[]
 | s::f=>ints (at'.map (cl s))++Dl cl at' f
theorem Ru(cl:Nat->Nat->Nat)(at':List Nat)(s:Nat):∀f:List Nat,Dl cl at' (f++[s])=Dl cl at' f++ints (at'.map (cl s))
 | []=>by simp[Dl]
 | x::f=>by
  show ints (at'.map (cl x))++Dl cl at' (f++[s])=(ints (at'.map (cl x))++Dl cl at' f)++ints (at'.map (cl s))
  rw[Ru cl at' s f,yR]
theorem No(cl:Nat->Nat->Nat)(at':List Nat):∀f:List Nat,(Dl cl at' f).length=f.length*at'.length
 | []=>by simp[Dl]
 | x::f=>by
  simp only[Dl,zF,Be,zH,No cl at' f,zB,yV]
  omega
theorem Apa{R:Type}{A:Mdl}(h:MOk A)(C N:Nat)(hN:1048576<N)(P:Nat->Nat)(S:List Nat)(wd wi:Int)(a1 a2 a3 a4 cl:List Int){f:List Nat}(hf:∀x∈f,x<A.T)(hfl:f.length<=A.T){at':List Nat}(hat:∀x∈at',x<256)(hal:at'.length<=256)(hsz:f.length*at'.length<=1048276)
  (k:Int->Int->List Int->List Int->List Int->List Int->List Int->List Int->List Int->List Int->Option R):
  ∀(d m i:Nat),i+d=f.length->d<m->
  F.dc C N m (f.length:Int) (i:Int) A.c (A.w:Int) A.n A.t A.e wd wi (ints f) a1 a2 a3 a4 (f.map (E9 A P S)) cl (Dl (Dt A P S) at' (f.take i)) ((f.take i).map λ s=>zA A.t s 0) ((f.take i).map λ s=>zA A.e s 0) (ints at') k=
   k wd wi a1 a2 a3 a4 cl (Dl (Dt A P S) at' f) (f.map λ s=>zA A.t s 0) (f.map λ s=>zA A.e s 0):=by
 intro d
 induction d with
 | zero=>
  intro m i hi hm
  obtain⟨m,rfl⟩:∃z,m=z+1:=⟨m-1,by omega⟩
  simp only[chk,F.dc,F.ec,zI]
  rw[if_neg (by omega),zK (by omega)]
 | succ d ih=>
  intro m i hi hm
  obtain⟨m,rfl⟩:∃z,m=z+1:=⟨m-1,by omega⟩
  have hT:=h.T2
  have hlt:i<f.length:=by omega
  have hs:=hf _ (zG hlt)
  have htl:(f.take i).length<=f.length:=by rw[zW];omega
  simp only[chk,F.dc,F.ec,zI,Be]
  rw[if_pos (by omega),Ad (by omega) (by omega)]
  simp only[cond_true,zD,Mf hlt]
  rw[Ad (by omega) (by rw[h.lt];omega),cond_true,I2 (by rw[zH];omega) (by simp) (by omega),cond_true,Ad (by omega) (by rw[h.le];omega),cond_true,I2 (by rw[zH];omega) (by simp) (by omega),cond_true]
  have hpl:(Dl (Dt A P S) at' (f.take i)).length<=1048276:=by
   rw[No]
   exact yF (xD _ htl) hsz
  have h12:=λ q1 q2 k'=>Apb (R:=R) h C N P S (f.length:Int) (i:Int) wd wi (ints f) a1 a2 a3 a4 cl q1 q2 (Dl (Dt A P S) at' (f.take i)) hfl hlt hat hal hpl k' at'.length N 0 (by omega) (by omega)
  simp only[zT,yL] at h12
  rw[show ints []=[] from rfl] at h12
  simp only[yJ] at h12
  rw[show((0:Nat):Int)=0 from rfl] at h12
  rw[h12,Ag (n:=(i:Int)+1) (by omega) (by omega)]
  have ih:=ih m (i+1) (by omega) (by omega)
  rw[show((i+1:Nat):Int)=(i:Int)+1 by omega,zJ (i:=i) hlt,Ru,zM,zM] at ih
  exact ih
def Asc{β:Type}(A:Mdl)(cc:Nat->Nat)(cl:Nat->Nat->Nat)(f at':List Nat)(k:Int->List Int->List Int->List Int->List Int->β):β:=
 k (at'.length:Int) (ints ((zE 256).map cc)) (Dl cl at' f) (f.map λ s=>zA A.t s 0) (f.map λ s=>zA A.e s 0)
theorem Apd(P:Nat->Nat)(n:Nat):ofL n P (zE n)=ints ((zE n).map P):=by
 simp only[ofL,ints,xT]
 apply zZ
 intro x hx
 rw[if_pos hx]
 rfl
theorem Ga{β:Type} [DecidableEq β](key:Nat->β):∀x∈reps key (zE 256),x<256:=λ x hx=>List.mem_range.1 (E0 hx)
theorem J4{β:Type} [DecidableEq β](key:Nat->β):(reps key (zE 256)).length<=256:=by
 have:=Ez key (zE 256)
 rwa[zV] at this
theorem Akr{R:Type}{A:Mdl}(h:MOk A)(N:Nat)(hN:1048576<N){S:List Nat}(hS:∀x∈S,x<A.T)(hlen:S.length<=A.T)(hcl:∀x∈S,∀j,j<256->A.nx x j∈S)(P:Nat->Nat)(hsz:(reps (PI P) S).length*(reps (Ek A P S (reps (PI P) S)) (zE 256)).length<=1048276)
  (hok:Kf A.c (A.w:Int) A.n A.t A.e=true) (hb:∀k:List Int->Option R,F.nh N A.c (A.w:Int) A.n A.t A.e (ints S) k=k (ofL A.T P S)) (hr:∀k:List Int->Option R,F.lj N A.c (A.w:Int) A.n A.t A.e k=k (ints S))
  (k:Int->List Int->List Int->List Int->List Int->Option R):
  F.jh N A.c (A.w:Int) A.n A.t A.e k=Asc A (Bc (Ek A P S (reps (PI P) S)) (zE 256)) (Dt A P S) (reps (PI P) S) (reps (Ek A P S (reps (PI P) S)) (zE 256)) k:=by
 have hT:=h.T2
 have hT1:=h.T1
 have hq:A.T*A.w<=4000*256:=zS h.T2 h.w2
 have hfm:∀x∈reps (PI P) S,x∈S:=λ x hx=>E0 hx
 have hfl:(reps (PI P) S).length<=A.T:=yF (Ez _ _) hlen
 simp only[chk,F.jh,F.px]
 rw[Wb N A.c _ A.n A.t A.e (by rw[h.lc];omega) (by rw[h.ln];omega) (by rw[h.lt];omega) (by rw[h.le];omega) hN,hok]
 simp only[yI,cond_false]
 rw[hr,hb,Be]
 have h0:=λ k'=>Aua (R:=R) h 256 N hS hlen P 0 [] [] [] [] [] k' S.length N 0 (by omega) (by omega)
 simp only[zT] at h0
 rw[show reps (PI P) []=[] from rfl] at h0
 refine(h0 _).trans ?_
 rw[Be]
 have h2:=λ k'=>Aub (R:=R) h N hS hlen hcl P 0 [] [] [] [] hfm hfl k' (reps (PI P) S).length N 0 (by omega) (by omega)
 simp only[zT] at h2
 refine(h2 _).trans ?_
 simp only[zI,F.az]
 rw[if_pos (by omega),show yW (zX 256) (Ap 8)=true by decide,cond_true]
 have h6:=λ k'=>Ak4 (R:=R) h 256 N hN P S 0 0 (ints (reps (PI P) S)) [] [] [] [] [] [] [] hfl k' 256 0 (by omega)
 rw[<-Abb] at h6
 refine(h6 _).trans ?_
 simp only[Be]
 have h10:=λ wi cl k'=>Apa (R:=R) h 256 N hN P S 0 wi [] [] [] [] cl (λ x hx=>hS x (hfm x hx)) hfl (Ga (Ek A P S (reps (PI P) S))) (J4 _) hsz k' (reps (PI P) S).length N 0 (by omega) (by omega)
 simp only[zT,yL] at h10
 refine(h10 _ _ _).trans ?_
 rw[Apd]
 rfl
theorem Ai0{a b:Nat}(ha:a<65536)(hb:b<65536):C9 (Zm a)=C9 (Zm b)<->a=b:=by
 constructor
 ·intro e
  have key:∀x y:Nat,x<256->y<256->UInt8.ofNat ((x:Int).toNat)=UInt8.ofNat ((y:Int).toNat)->x=y:=by
   intro x y hx hy e
   have:=congrArg UInt8.toNat e
   simp only[zD,UInt8.toNat_ofNat'] at this
   omega
  simp only[C9,Zm,zR,yL,List.cons.injEq,and_true] at e
  have e1:=key _ _ (xE _ (by omega)) (xE _ (by omega)) e.1
  have e2:=key _ _ (xE _ (by omega)) (xE _ (by omega)) e.2
  omega
 ·intro e;rw[e]
theorem Zp{A:Mdl}{P:Nat->Nat}{S:List Nat}{i j:Nat}:∀{f:List Nat},(∀s∈f,Dt A P S s i<65536/\Dt A P S s j<65536)->(Ek A P S f i=Ek A P S f j<->f.map (λ s=>Dt A P S s i)=f.map (λ s=>Dt A P S s j))
 | [],_=>by simp[Ek,R9]
 | s::f,h=>by
  have ih:=Zp (f:=f) λ x hx=>h x (by simp[hx])
  have hs:=h s (by simp)
  have e:∀z,Ek A P S (s::f) z=C9 (Zm (Dt A P S s z))++Ek A P S f z:=by
   intro z
   simp[Ek,R9,C9]
  rw[e,e,zR,zR,List.cons.injEq,<-ih,<-Ai0 hs.1 hs.2]
  constructor
  ·intro h1
   exact List.append_inj h1 (by simp[C9,Zm])
  ·rintro⟨h1,h2⟩
   rw[h1,h2]
theorem Ug(cl:Nat->Nat->Nat)(rs:List Nat):∀(f:List Nat) (i k:Nat) (hi:i<f.length) (hk:k<rs.length),zA (Dl cl rs f) (i*rs.length+k) 0=(cl f[i] rs[k]:Int)
 | s::f,0,k,_,hk=>by
  rw[Dl,List.getD_eq_getElem?_getD,List.getElem?_append_left (by rw[Be,zH];omega),<-List.getD_eq_getElem?_getD,Lc]
  simp[List.getD_eq_getElem?_getD,hk]
 | s::f,i+1,k,hi,hk=>by
  have ih:=Ug cl rs f i k (by simpa using hi) hk
  rw[Dl,yV,List.getD_eq_getElem?_getD,List.getElem?_append_right (by rw[Be,zH];omega),Be,zH,show i*rs.length+rs.length+k-rs.length=i*rs.length+k by omega,<-List.getD_eq_getElem?_getD,ih]
  rfl
theorem I4(cl:Nat->Nat->Nat)(rs:List Nat):∀f:List Nat,Dl cl rs f=(f.map λ s=>ints (rs.map (cl s))).flatten
 | []=>rfl
 | s::f=>by rw[Dl,I4 cl rs f];rfl
theorem Apj{β:Type}(g:Nat->β){n j:Nat}(z:β)(hj:j<n):((zE n).map g).getD j z=g j:=by simp[List.getD_eq_getElem?_getD,hj]
abbrev Mdl.fs(A:Mdl)(P:Nat->Nat):List Nat:=reps (PI P) A.Lb
abbrev Mdl.cB(A:Mdl)(P:Nat->Nat):Nat->List UInt8:=Ek A P A.Lb (A.fs P)
abbrev Mdl.rs(A:Mdl)(P:Nat->Nat):List Nat:=reps (A.cB P) (zE 256)
def ph(A:Mdl)(P:Nat->Nat)(x:Nat):Nat:=Bc (PI P) A.Lb x
def Mdl.mn(A:Mdl)(P:Nat->Nat):Mdl:=⟨ints ((zE 256).map (Bc (A.cB P) (zE 256))),Dl (Dt A P A.Lb) (A.rs P) (A.fs P),(A.fs P).map λ s=>zA A.t s 0,(A.fs P).map λ s=>zA A.e s 0,(A.rs P).length,(A.fs P).length⟩
theorem Aud(A:Mdl)(P:Nat->Nat):(A.mn P).c=ints ((zE 256).map (Bc (A.cB P) (zE 256))):=rfl
theorem Apc(A:Mdl)(P:Nat->Nat):(A.mn P).n=Dl (Dt A P A.Lb) (A.rs P) (A.fs P):=rfl
theorem Aug(A:Mdl)(P:Nat->Nat):(A.mn P).t=(A.fs P).map λ s=>zA A.t s 0:=rfl
theorem Auf(A:Mdl)(P:Nat->Nat):(A.mn P).e=(A.fs P).map λ s=>zA A.e s 0:=rfl
theorem Aa6(A:Mdl)(P:Nat->Nat):(A.mn P).w=(A.rs P).length:=by rw[Mdl.mn]
theorem Aa5(A:Mdl)(P:Nat->Nat):(A.mn P).T=(A.fs P).length:=by rw[Mdl.mn]
def Kds(A:Mdl)(P:Nat->Nat):Prop:=∀x∈A.Lb,∀y∈A.Lb,P x=P y<->A.Eqv x y
section
variable{A:Mdl}{P:Nat->Nat}
theorem Xf{x y:Nat}:PI P x=PI P y<->P x=P y:=by unfold PI;omega
theorem Afo{β:Type} [DecidableEq β]{key:Nat->β}{S:List Nat}{x:Nat}(hx:x∈S):∃hi:Bc key S x<(reps key S).length,key (reps key S)[Bc key S x]=key x:=by
 have h1:=List.idxOf_lt_length_iff.2 (Jt (f:=key) hx)
 have h2:=xF h1
 rw[zN] at h2
 rw[zH] at h1
 exact⟨h1,h2⟩
theorem Aap{β:Type} [DecidableEq β]{key:Nat->β}{S:List Nat}{i:Nat}(hi:i<(reps key S).length):Bc key S (reps key S)[i]=i:=by
 have e:key (reps key S)[i]=((reps key S).map key)[i]'(by rw[zH];exact hi):=by rw[zN]
 unfold Bc
 rw[e]
 exact(Adu _ _).idxOf_getElem i _
theorem Q0{x:Nat}(hx:x∈A.Lb):∃hi:ph A P x<(A.fs P).length,P (A.fs P)[ph A P x]=P x:=by
 obtain⟨h1,h2⟩:=Afo (key:=PI P) hx
 exact⟨h1,Xf.1 h2⟩
theorem Ado{x y:Nat}(hx:x∈A.Lb):ph A P x=ph A P y<->P x=P y:=(F1 hx).trans Xf
theorem Adn{i:Nat}(hi:i<(A.fs P).length):ph A P (A.fs P)[i]=i:=Aap hi
theorem M1{i:Nat}(hi:i<(A.fs P).length):(A.fs P)[i]∈A.Lb:=E0 (zG hi)
theorem Afj(h:MOk A):(A.fs P).length<=4000:=yF (Ez _ _) (yF (Le h).len h.T2)
theorem T4(h:MOk A){s j:Nat}(hs:s∈A.Lb)(hj:j<256):Dt A P A.Lb s j<(A.fs P).length:=(Q0 ((Le h).cl s hs j hj)).1
theorem Acw(h:MOk A){a b:Nat}(ha:a<256)(hb:b<256):A.cB P a=A.cB P b<->∀s∈A.fs P,Dt A P A.Lb s a=Dt A P A.Lb s b:=by
 have hl:=Afj (P:=P) h
 rw[Zp λ s hs=>⟨xG (T4 h (E0 hs) ha) (by omega),xG (T4 h (E0 hs) hb) (by omega)⟩,List.map_inj_left]
theorem Ar9{j:Nat}(hj:j<256):(A.mn P).ch j=Bc (A.cB P) (zE 256) j:=by
 unfold Mdl.ch Mdl.mn
 dsimp only
 rw[Lc,Apj _ _ hj,zD]
theorem Acz{j:Nat}(hj:j<256):∃hi:Bc (A.cB P) (zE 256) j<(A.rs P).length,A.cB P (A.rs P)[Bc (A.cB P) (zE 256) j]=A.cB P j:=Afo (List.mem_range.2 hj)
theorem Aue{i:Nat}(hr:i<(A.rs P).length):∃b,b<256/\(A.mn P).ch b=i:=
 ⟨(A.rs P)[i],Ga _ _ (zG hr),(Ar9 (Ga _ _ (zG hr))).trans (Aap hr)⟩
theorem Asa(h:MOk A){i j:Nat}(hi:i<(A.fs P).length)(hj:j<256):(A.mn P).nx i j=ph A P (A.nx (A.fs P)[i] j):=by
 obtain⟨c1,c2⟩:=Acz (A:=A) (P:=P) hj
 have e:=(Acw h (Ga _ _ (zG c1)) hj).1 c2 _ (zG hi)
 unfold Mdl.nx
 rw[Ar9 hj]
 unfold Mdl.nc Mdl.mn
 dsimp only
 rw[Ug _ _ _ _ _ hi c1,zD,e]
 rfl
theorem Auh{i:Nat}(hi:i<(A.fs P).length):(A.mn P).t.getD i 0=A.t.getD (A.fs P)[i] 0/\(A.mn P).e.getD i 0=A.e.getD (A.fs P)[i] 0:=by
 unfold Mdl.mn
 simp[List.getD_eq_getElem?_getD,hi]
theorem Wj(h:MOk A):MOk (A.mn P):=by
 have hl:=Le h
 have h0:=(Q0 (P:=P) hl.zero).1
 have h1:=(Acz (A:=A) (P:=P) (j:=0) (by omega)).1
 have tag:∀{l:List Int},l.length=A.T->(∀x∈l,-1<=x/\x<=99)->∀x∈(A.fs P).map (λ s=>zA l s 0),-1<=x/\x<=99:=λ hl2 hx x hm=>by
  obtain⟨s,hs,rfl⟩:=List.mem_map.1 hm
  exact O6 hx (by rw[hl2];exact hl.lt s (E0 hs))
 refine⟨by show(ints _).length=256;rw[Be,zH,zV],by rw[Aa6];omega,by rw[Aa6];exact J4 (A.cB P),by rw[Aa5];omega,Afj h,by simp[Mdl.mn],by simp[Mdl.mn],by rw[Apc,Aa6,Aa5,No],λ x hx=> ?_,λ x hx=> ?_,tag h.lt h.ht,tag h.le h.he⟩
 ·obtain⟨j,hj,rfl⟩:=List.mem_map.1 (show x∈yY (λ x:Nat=>(x:Int)) ((zE 256).map _) from hx)
  obtain⟨i,hi,rfl⟩:=List.mem_map.1 hj
  have:=(Acz (A:=A) (P:=P) (List.mem_range.1 hi)).1
  rw[Aa6]
  exact⟨xH _,Int.ofNat_lt.2 this⟩
 ·rw[show(A.mn P).n=_ from I4 _ _ _] at hx
  obtain⟨r,hr,hx⟩:=List.mem_flatten.1 hx
  obtain⟨s,hs,rfl⟩:=List.mem_map.1 hr
  obtain⟨j,hj,rfl⟩:=List.mem_map.1 (show x∈yY (λ x:Nat=>(x:Int)) _ from hx)
  obtain⟨i,hi,rfl⟩:=List.mem_map.1 hj
  have:=T4 (P:=P) h (E0 hs) (Ga _ _ hi)
  rw[Aa5]
  exact⟨xH _,Int.ofNat_lt.2 this⟩
theorem X6(h:MOk A)(hP:Kds A P){x j:Nat}(hx:x∈A.Lb)(hj:j<256):(A.mn P).nx (ph A P x) j=ph A P (A.nx x j):=by
 obtain⟨h1,h2⟩:=Q0 (P:=P) hx
 have hl:=Le h
 rw[Asa h h1 hj,Ado (hl.cl _ (M1 h1) j hj),hP _ (hl.cl _ (M1 h1) j hj) _ (hl.cl x hx j hj)]
 exact((hP _ (M1 h1) _ hx).1 h2).step hj
theorem Pk(hP:Kds A P){x:Nat}(hx:x∈A.Lb):(A.mn P).t.getD (ph A P x) 0=A.t.getD x 0/\(A.mn P).e.getD (ph A P x) 0=A.e.getD x 0:=by
 obtain⟨h1,h2⟩:=Q0 (P:=P) hx
 have e:=((hP _ (M1 h1) _ hx).1 h2).tags
 have t:=Auh (A:=A) h1
 exact⟨t.1.trans e.1,t.2.trans e.2⟩
theorem Adf(h:MOk A)(hP:Kds A P):∀(w:List Nat) (x:Nat),x∈A.Lb->(∀j∈w,j<256)->(A.mn P).run (ph A P x) w=ph A P (A.run x w)/\A.run x w∈A.Lb
 | [],x,hx,_=>⟨rfl,hx⟩
 | j::w,x,hx,hw=>by
  have hj:=hw j (by simp)
  have:=Adf h hP w _ ((Le h).cl x hx j hj) λ i hi=>hw i (by simp[hi])
  simp only[Mdl.run]
  rw[X6 h hP hx hj]
  exact this
theorem Ak7(h:MOk A)(hP:Kds A P){i k:Nat}(hi:i<(A.fs P).length)(hk:k<(A.fs P).length)(e:(A.mn P).Eqv i k):i=k:=by
 rw[<-Adn (A:=A) hi,<-Adn (A:=A) hk,Ado (M1 hi),hP _ (M1 hi) _ (M1 hk)]
 intro w hw
 have:=e w hw
 rw[<-Adn (A:=A) hi,<-Adn (A:=A) hk] at this
 obtain⟨a1,a2⟩:=Adf h hP w _ (M1 hi) hw
 obtain⟨b1,b2⟩:=Adf h hP w _ (M1 hk) hw
 rw[a1,b1,(Pk hP a2).1,(Pk hP b2).1,(Pk hP a2).2,(Pk hP b2).2] at this
 exact this
theorem bfs_pre{α:Type} [DecidableEq α](succ:α->List α):∀(d i:Nat) (l:List α),∃r,bfs succ d i l=l++r
 | 0,_,l=>⟨[],(yJ l).symm⟩
 | d+1,i,l=>by
  simp only[bfs]
  cases l[i]? with
  | none=>exact⟨[],(yJ l).symm⟩
  | some x=>
   obtain⟨r,hr⟩:=Dg (succ x) l
   obtain⟨q,hq⟩:=bfs_pre succ d (i+1) ((succ x).foldl Bf l)
   exact⟨r++q,by rw[<-yR,<-hr];exact hq⟩
theorem Afq(h:MOk A):ph A P 0=0:=by
 have hl:=Le h
 obtain⟨r,hr⟩:∃r,A.Lb=[0]++r:=by
  have hs:=bfs_pre A.sB (A.T+1) 0 [0]
  exact hs
 obtain⟨q,hq⟩:=Ry (PI P) [0] r
 unfold ph Bc
 rw[hr,hq]
 simp[reps,Da]
theorem Ali{α β:Type} [DecidableEq β]{f:α->β}{l:List α}(h:(l.map f).Nodup):reps f l=l:=by
 induction l using H5 with
 | h0=>rfl
 | h1 l x ih=>
  rw[zM,List.nodup_append] at h
  rw[Cq,ih h.1,Da,if_neg]
  intro hx
  exact h.2.2 _ hx _ (by simp) rfl
theorem Avs(h:MOk A)(hP:Kds A P):(A.mn P).Lb=zE (A.fs P).length:=by
 have hb:=Le h
 have hf:reps (ph A P) A.Lb=A.fs P:=Mn λ x hx y hy=>(Ado hx).trans Xf.symm
 have himg:=Ma (succ:=A.sB) (succ':=(A.mn P).sB) (B:=ph A P) (S:=λ x=>x∈A.Lb) (λ x hx y hy=>by
   simp only[Mdl.sB,xI,yN] at hy
   obtain⟨j,hj,rfl⟩:=hy
   exact hb.cl x hx j hj) (λ x hx=>by
   unfold Mdl.sB
   rw[xT]
   exact zZ λ j hj=>X6 h hP hx (List.mem_range.1 hj)) (A.T+1) ((A.fs P).length+1) 0 0 [0] [0] (λ x hx=>by rw[List.mem_singleton.1 hx];exact hb.zero) (by rw[zR,Afq h];rfl) rfl ⟨[0],rfl⟩ (by simp)
   (by have:=hb.len;unfold Mdl.Lb at this;omega) (by simp) (by
    rw[Aes,zH]
    unfold Mdl.Lb at hf
    rw[hf]
    unfold Mdl.fs Mdl.Lb
    omega)
 have e:(A.mn P).Lb=dd (A.Lb.map (ph A P)):=himg
 rw[e,Aes,hf]
 refine yU (by simp) λ i h1 h2=> ?_
 rw[zN,yE]
 exact Adn (by simpa using h1)
theorem Ak6(h:MOk A)(hP:Kds A P){P':Nat->Nat}(hP':Kds (A.mn P) P'):((A.mn P).mn P').c=(A.mn P).c/\((A.mn P).mn P').n=(A.mn P).n/\((A.mn P).mn P').t=(A.mn P).t/\((A.mn P).mn P').e=(A.mn P).e/\((A.mn P).mn P').w=(A.mn P).w:=by
 have hB:=Wj (P:=P) h
 have hlb:=Avs h hP
 have inj:∀x∈(A.mn P).Lb,∀y∈(A.mn P).Lb,P' x=P' y<->x=y:=λ x hx y hy=>(hP' x hx y hy).trans ⟨λ e=>by
  rw[hlb,yN] at hx hy
  exact Ak7 h hP hx hy e,λ e=>e▸Mdl.Eqv.refl _ _⟩
 have hfs:(A.mn P).fs P'=zE (A.fs P).length:=by
  have:(A.mn P).fs P'=reps id (A.mn P).Lb:=Mn λ x hx y hy=>Xf.trans (inj x hx y hy)
  rw[this,hlb]
  exact Ali (by rw[List.map_id];exact List.nodup_range)
 have hph:∀i,i<(A.fs P).length->ph (A.mn P) P' i=i:=λ i hi=>by
  have e:=Adn (A:=A.mn P) (P:=P') (i:=i) (by rw[hfs];simpa using hi)
  simp only[hfs,yE] at e
  exact e
 have cel:∀i j,i<(A.fs P).length->(hi:i<(A.fs P).length)->j<256->Dt (A.mn P) P' (A.mn P).Lb i j=Dt A P A.Lb ((A.fs P)[i]) j:=λ i j _ hi hj=>by
  have e:=Asa (P:=P) h hi hj
  show ph (A.mn P) P' ((A.mn P).nx i j)=ph A P (A.nx _ j)
  rw[hph _ (hB.nx_lt hi hj),e]
 have hcol:∀x∈zE 256,∀y∈zE 256,(A.mn P).cB P' x=(A.mn P).cB P' y<->A.cB P x=A.cB P y:=λ x hx y hy=>by
  have hx:=List.mem_range.1 hx
  have hy:=List.mem_range.1 hy
  rw[Acw hB hx hy,Acw h hx hy,hfs]
  constructor
  ·intro q s hs
   obtain⟨i,hi,rfl⟩:=List.mem_iff_getElem.1 hs
   rw[<-cel i x hi hi hx,<-cel i y hi hi hy]
   exact q i (List.mem_range.2 hi)
  ·intro q i hi
   have hi:=List.mem_range.1 hi
   rw[cel i x hi hi hx,cel i y hi hi hy]
   exact q _ (zG hi)
 have hrs:(A.mn P).rs P'=A.rs P:=Mn hcol
 have pick:∀l:List Int,(zE (A.fs P).length).map (λ s=>zA ((A.fs P).map λ s=>zA l s 0) s 0)=(A.fs P).map λ s=>zA l s 0:=λ l=>by
  refine yU (by simp) λ i h1 h2=> ?_
  have hi:i<(A.fs P).length:=by simpa using h2
  simp[List.getD_eq_getElem?_getD,hi]
 refine⟨?_, ?_, ?_, ?_,by rw[Aa6,Aa6,hrs]⟩
 ·rw[Aud,Aud A]
  refine congrArg ints (zZ λ j hj=> ?_)
  unfold Bc
  rw[show reps ((A.mn P).cB P') (zE 256)=reps (A.cB P) (zE 256) from hrs]
  exact Aao λ y hy=>hcol y (E0 hy) j hj
 ·rw[Apc,Apc A,hrs,hfs,I4,I4]
  refine congrArg List.flatten (yU (by simp) λ i h1 h2=> ?_)
  have hi:i<(A.fs P).length:=by simpa using h2
  simp only[zN,yE]
  exact congrArg ints<|zZ λ j hj=>cel i j hi hi (Ga _ _ hj)
 ·rw[Aug,Aug A,hfs]
  exact pick A.t
 ·rw[Auf,Auf A,hfs]
  exact pick A.e
end
section
variable{A:Mdl}{N:Nat}
abbrev Mdl.d(A:Mdl):DT:=(A.c,(A.w:Int),A.n,A.t,A.e)
def at2(T:Nat)(v:List Bool)(a b:Nat):Bool:=zA v (a*T+b) false
theorem sqi(h:MOk A){x y:Nat}(hx:x<A.T)(hy:y<A.T):Aa .i64 (Aa .i64 ((x:Int)*(A.T:Int))+(y:Int))=((x*A.T+y:Nat):Int)/\x*A.T+y<A.T*A.T:=by
 have hT:=h.T2
 have h1:=Tw hx hy
 have h2:A.T*A.T<=4000*4000:=zS hT hT
 have e:(x:Int)*(A.T:Int)=((x*A.T:Nat):Int):=by rw[xA]
 rw[e,Ag (n:=((x*A.T:Nat):Int)) (by omega) (by omega),Ag (by omega) (by omega)]
 exact⟨by omega,h1⟩
theorem Aeo{T x y a b:Nat}{v:List Bool}{q:Bool}(hl:v.length=T*T)(hx:x<T)(hy:y<T)(hb:b<T):at2 T (v.set (x*T+y) q) a b=if a=x/\b=y then q else at2 T v a b:=by
 have h1:=Tw hx hy
 simp only[at2,List.getD_eq_getElem?_getD,List.getElem?_set]
 by_cases e:a=x/\b=y
 ·obtain⟨rfl,rfl⟩:=e
  rw[if_pos rfl,if_pos (by omega),if_pos ⟨rfl,rfl⟩]
  rfl
 ·rw[if_neg e,if_neg]
  intro q
  have hp:0<T:=by omega
  have e1:(x*T+y)/T=x:=by rw[xU,xR hp,xN hy,xV]
  have e2:(a*T+b)/T=a:=by rw[xU,xR hp,xN hb,xV]
  have:a=x:=by rw[<-e1,<-e2,q]
  subst this
  exact e ⟨rfl,by omega⟩
def Cov(A:Mdl)(v:List Bool)(X Y:Nat):Prop:=v.length=A.T*A.T/\∀a b,a<A.T->b<A.T->(a<X\/a=X/\b<Y)->(A.t.getD a 0≠A.t.getD b 0\/A.e.getD a 0≠A.e.getD b 0)->at2 A.T v a b=true
theorem Cov.set{v:List Bool}{x y:Nat}{q:Bool}(h:Cov A v x y)(hx:x<A.T)(hy:y<A.T)(hq:(A.t.getD x 0≠A.t.getD y 0\/A.e.getD x 0≠A.e.getD y 0)->q=true):Cov A (v.set (x*A.T+y) q) x (y+1):=by
 refine⟨by rw[zQ];exact h.1,λ a b ha hb hab hd=> ?_⟩
 rw[Aeo h.1 hx hy hb]
 split
 ·rename_i e
  rw[e.1,e.2] at hd
  exact hq hd
 ·exact h.2 a b ha hb (by omega) hd
theorem Atb(h:MOk A)(hN:200000000<N){x:Nat}{v:List Bool}(hx:x<A.T)(hv:Cov A v x 0):Ret (λ R q=>F.sx (R:=R) N N (((A.T:Int),(x:Int),0),A.d,v) q) (λ o=>o.1=((A.T:Int),(x:Int))/\o.2.1=A.d/\Cov A o.2.2 (x+1) 0):=by
 have hT:=h.T2
 refine rO (s:=λ R=>F.ef (R:=R) N) (λ y:(Int×Int×Int)×DT×List Bool=>∃j:Nat,y.1=((A.T:Int),(x:Int),(j:Int))/\j<=A.T/\y.2.1=A.d/\Cov A y.2.2 x j) (λ y=>((A.T:Int)-y.1.2.2).toNat) ?_ N _ ⟨0,rfl,by omega,rfl,hv⟩ (by dsimp only;omega)
 rintro⟨p,d,v'⟩ ⟨j,g1,j1,g2,hv'⟩
 dsimp only at g1 g2 hv'
 subst g1 g2
 simp only[F.ef]
 refine rB (λ q=> ?_) λ q=>rL (.inr _) ⟨rfl,rfl,hv'.1,λ a b ha hb hab=>hv'.2 a b ha hb (by have:¬(j:Int)<A.T:=(by simpa using q);omega)⟩ λ _ _=>rfl
 have q:j<A.T:=by have:(j:Int)<A.T:=(by simpa using q);omega
 have hl:=hv'.1
 have lt:=h.lt
 have le:=h.le
 obtain⟨s1,s2⟩:=sqi h hx q
 rw[s1,Ag (n:=(j:Int)+1) (by omega) (by omega)]
 simp only[zD]
 have nxt:∀b:Bool,((A.t.getD x 0≠A.t.getD j 0\/A.e.getD x 0≠A.e.getD j 0)->b=true)->RetK (K:=λ R=>(((Int×Int×Int)×DT×List Bool)->Option R)×(((Int×Int)×DT×List Bool)->Option R)) (aS λ _ d k=>k d) (λ R k=>chk (inB ((x*A.T+j:Nat):Int) v'.length)<|k.1 (((A.T:Int),(x:Int),(j:Int)+1),A.d,v'.set (x*A.T+j) b)) (Sm (λ y:(Int×Int×Int)×DT×List Bool=>∃j:Nat,y.1=((A.T:Int),(x:Int),(j:Int))/\j<=A.T/\y.2.1=A.d/\Cov A y.2.2 x j) (λ y=>((A.T:Int)-y.1.2.2).toNat) (((A.T:Int),(x:Int),(j:Int)),A.d,v') (λ o=>o.1=((A.T:Int),(x:Int))/\o.2.1=A.d/\Cov A o.2.2 (x+1) 0)):=λ b hb=>
  rC (Ad (by omega) (by omega)) (rL (.inl _) ⟨⟨j+1,rfl,by omega,rfl,hv'.set hx q hb⟩,by dsimp only;omega⟩ λ _ _=>rfl)
 refine rC (Ad (by omega) (by omega)) (rC (Ad (by omega) (by omega)) (rB (λ _=>nxt true λ _=>rfl) λ y=>rC (Ad (by omega) (by omega)) (rC (Ad (by omega) (by omega)) (nxt _ λ z=> ?_))))
 have y:zA A.t x 0=zA A.t j 0:=by simpa using y
 have z:=z.resolve_left (λ n=>n y)
 simpa using z
structure Rd(A:Mdl)(V:List Bool)(g:Bool)(v:List Bool)(X Y:Nat):Prop where
 len:v.length=A.T*A.T
 ext:∀a b,b<A.T->at2 A.T V a b=true->at2 A.T v a b=true
 le:v.count false<=V.count false
 lt:g=true->v.count false<V.count false
 no:g=false->v=V/\∀a b,a<A.T->b<A.T->(a<X\/a=X/\b<Y)->at2 A.T V a b=false->∀c,c<A.w->at2 A.T V (A.nc a c) (A.nc b c)=false
abbrev P10:=(Int×Bool×Int×Int×Int)×DT×List Bool
abbrev P8:=(Int×Bool×Int×Int)×DT×List Bool
theorem An8(h:MOk A)(hN:200000000<N){x y:Nat}{V v:List Bool}{g:Bool}(hx:x<A.T)(hy:y<A.T)(hv:Rd A V g v x y):Ret (λ R q=>F.sd (R:=R) N N (((A.T:Int),g,(x:Int),(y:Int),0),A.d,v) q) (λ o=>(o.1.1,o.1.2.2)=((A.T:Int),(x:Int),(y:Int))/\o.2.1=A.d/\Rd A V o.1.2.1 o.2.2 x (y+1)):=by
  have hw:=h.w2
  have ln:=h.ln
  refine rO (s:=λ R=>F.cg (R:=R) N) (λ z:P10=>∃c:Nat,(z.1.1,z.1.2.2)=((A.T:Int),(x:Int),(y:Int),(c:Int))/\c<=A.w/\z.2.1=A.d/\Rd A V z.1.2.1 z.2.2 x y/\(z.1.2.1=false->at2 A.T V x y=false->∀k,k<c->at2 A.T V (A.nc x k) (A.nc y k)=false)) (λ z=>((A.w:Int)-z.1.2.2.2.2).toNat) ?_ N _ ⟨0,rfl,by omega,rfl,hv,λ _ _ k hk=>absurd hk (by omega)⟩ (by dsimp only;omega)
  rintro⟨⟨p1,g',p2,p3,p4⟩,d,v'⟩ ⟨c,g1,c1,g2,hv',hc⟩
  dsimp only at g1 g2 hv' hc
  simp only[z9] at g1
  obtain⟨rfl,rfl,rfl,rfl⟩:=g1
  subst g2
  have hl:=hv'.len
  obtain⟨s1,s2⟩:=sqi h hx hy
  have out:(g'=false->at2 A.T V x y=false->∀k,k<A.w->at2 A.T V (A.nc x k) (A.nc y k)=false)->Rd A V g' v' x (y+1):=λ q=>⟨hl,hv'.ext,hv'.le,hv'.lt,λ e=>⟨(hv'.no e).1,λ a b ha hb hab z=>by
    by_cases r:a=x/\b=y
    · obtain⟨rfl,rfl⟩:=r
      exact q e z
    · exact(hv'.no e).2 a b ha hb (by omega) z⟩⟩
  simp only[F.cg]
  refine rB (λ q=> ?_) λ q=> ?_
  · have q:c<A.w:=by have:(c:Int)<A.w:=(by simpa using q);omega
    obtain⟨i1,i2⟩:=h.idx hx q
    obtain⟨k1,k2⟩:=h.idx hy q
    have n1:=h.nc_lt hx q
    have n2:=h.nc_lt hy q
    obtain⟨m1,m2⟩:=sqi h n1 n2
    rw[s1]
    refine rC (Ad (by omega) (by omega)) ?_
    simp only[jn,F.nj,s1,i1,k1,zD,h.nc_eq hx q,h.nc_eq hy q,m1]
    rw[Ag (n:=(c:Int)+1) (by omega) (by omega)]
    refine rB (λ r=> ?_) λ r=>rL (.inr _) ⟨rfl,rfl,out λ e z=> ?_⟩ λ _ _=>rfl
    · have r:at2 A.T v' x y=false:=by simpa[at2] using r
      refine rC (Ad (by omega) (by omega)) (rC (Ad (by omega) (by omega)) (rC (Ad (by omega) (by omega)) (rB (λ u=>rC (Ad (by omega) (by omega)) (rL (.inl _) ⟨⟨c+1,rfl,by omega,rfl,⟨by rw[zQ];exact hl,λ a b hb z=> ?_, ?_,λ _=> ?_,λ e=>by cases e⟩,λ e=>by cases e⟩,by dsimp only;omega⟩ λ _ _=>rfl)) λ u=>rL (.inl _) ⟨⟨c+1,rfl,by omega,rfl,hv',λ e z k hk=> ?_⟩,by dsimp only;omega⟩ λ _ _=>rfl)))
      · rw[Aeo hl hx hy hb]
        split
        · rfl
        · exact hv'.ext a b hb z
      all_goals first
        | (have e1:v'[x*A.T+y]'(by omega)=false:=by
            have r:=r
            rw[at2,List.getD_eq_getElem?_getD,List.getElem?_eq_getElem (by omega)] at r
            exact r
           have e2:1<=v'.count false:=List.count_pos_iff.2 (by rw[<-e1];exact zG _)
           have e3:=hv'.le
           rw[xB (by omega),e1]
           simp
           omega)
        | skip
      by_cases kc:k=c
      · subst kc
        rw[<-(hv'.no e).1]
        exact u
      · exact hc e z k (by omega)
    · have r:at2 A.T v' x y=true:=by simpa[at2] using r
      rw[(hv'.no e).1,z] at r
      cases r
  · have q:¬c<A.w:=λ z=>by have:¬(c:Int)<A.w:=(by simpa using q);omega
    simp only[jn,F.nj]
    refine rB (λ r=>by cases r) λ _=>rL (.inr _) ⟨rfl,rfl,out λ e z k hk=>hc e z k (by omega)⟩ λ _ _=>rfl
theorem Atc(h:MOk A)(hN:200000000<N){V:List Bool}(hV:V.length=A.T*A.T):Ret (λ R q=>F.sy (R:=R) N N (((A.T:Int),false,0),A.d,V) q) (λ o=>o.1.1=(A.T:Int)/\o.2.1=A.d/\Rd A V o.1.2 o.2.2 A.T 0):=by
 have hT:=h.T2
 refine rO (s:=λ R=>F.eu (R:=R) N) (λ z:(Int×Bool×Int)×DT×List Bool=>∃x:Nat,(z.1.1,z.1.2.2)=((A.T:Int),(x:Int))/\x<=A.T/\z.2.1=A.d/\Rd A V z.1.2.1 z.2.2 x 0) (λ z=>((A.T:Int)-z.1.2.2).toNat) ?_ N _ ⟨0,rfl,by omega,rfl,hV,λ _ _ _ z=>z,yC _,λ e=>(by cases e),λ _=>⟨rfl,λ a b ha hb hab=>absurd hab (by omega)⟩⟩ (by dsimp only;omega)
 rintro⟨⟨p1,g,p2⟩,d,v⟩ ⟨x,g1,x1,g2,hv⟩
 dsimp only at g1 g2 hv
 simp only[z9] at g1
 obtain⟨rfl,rfl⟩:=g1
 subst g2
 simp only[F.eu]
 refine rB (λ q=> ?_) λ q=>rL (.inr _) ⟨rfl,rfl,by
  have:¬(x:Int)<A.T:=by simpa using q
  rw[show x=A.T by omega] at hv
  exact hv⟩ λ _ _=>rfl
 have q:x<A.T:=by have:(x:Int)<A.T:=(by simpa using q);omega
 have L8:=rO (s:=λ R=>F.ej (R:=R) N) (app:=λ _ d k=>k d) (P:=λ o:(Int×Bool×Int)×DT×List Bool=>(o.1.1,o.1.2.2)=((A.T:Int),(x:Int))/\o.2.1=A.d/\Rd A V o.1.2.1 o.2.2 (x+1) 0) (λ z:P8=>∃y:Nat,(z.1.1,z.1.2.2)=((A.T:Int),(x:Int),(y:Int))/\y<=A.T/\z.2.1=A.d/\Rd A V z.1.2.1 z.2.2 x y) (λ z=>((A.T:Int)-z.1.2.2.2).toNat) (λ z hz=>by
  obtain⟨⟨p1,g,p2,p3⟩,d,v⟩:=z
  obtain⟨y,g1,y1,g2,hv⟩:=hz
  dsimp only at g1 g2 hv
  simp only[z9] at g1
  obtain⟨rfl,rfl,rfl⟩:=g1
  subst g2
  simp only[F.ej]
  refine rB (λ r=> ?_) λ r=>rL (.inr _) ⟨rfl,rfl,hv.len,hv.ext,hv.le,hv.lt,λ e=>⟨(hv.no e).1,λ a b ha hb hab=>(hv.no e).2 a b ha hb (by have:¬(y:Int)<A.T:=(by simpa using r);omega)⟩⟩ λ _ _=>rfl
  have r:y<A.T:=by have:(y:Int)<A.T:=(by simpa using r);omega
  refine rD (An8 h hN q r hv) ?_
  rintro⟨⟨p1,g',p2,p3⟩,⟨d1,d2,d3,d4,d5⟩,v'⟩ ⟨g1,g2,hv'⟩
  dsimp only at g1 g2 hv'⊢
  simp only[z9] at g1 g2
  obtain⟨rfl,rfl,rfl⟩:=g1
  obtain⟨rfl,rfl,rfl,rfl,rfl⟩:=g2
  rw[Ag (n:=(y:Int)+1) (by omega) (by omega)]
  exact rL (.inl _) ⟨⟨y+1,rfl,by omega,rfl,hv'⟩,by dsimp only;omega⟩ λ _ _=>rfl) N (((A.T:Int),g,(x:Int),0),A.d,v) ⟨0,rfl,by omega,rfl,hv⟩ (by dsimp only;omega)
 refine rD L8 ?_
 rintro⟨⟨p1,g',p2⟩,⟨d1,d2,d3,d4,d5⟩,v'⟩ ⟨g1,g2,hv'⟩
 dsimp only at g1 g2 hv'⊢
 simp only[z9] at g1 g2
 obtain⟨rfl,rfl⟩:=g1
 obtain⟨rfl,rfl,rfl,rfl,rfl⟩:=g2
 rw[Ag (n:=(x:Int)+1) (by omega) (by omega)]
 exact rL (.inl _) ⟨⟨x+1,rfl,by omega,rfl,hv'⟩,by dsimp only;omega⟩ λ _ _=>rfl
theorem Acd{v:List Bool}(h:MOk A)(h1:Cov A v A.T 0)(h2:∀a b,a<A.T->b<A.T->at2 A.T v a b=false->∀c,c<A.w->at2 A.T v (A.nc a c) (A.nc b c)=false):∀(w:List Nat) (a b:Nat),a<A.T->b<A.T->at2 A.T v a b=false->(∀j∈w,j<256)->A.t.getD (A.run a w) 0=A.t.getD (A.run b w) 0/\A.e.getD (A.run a w) 0=A.e.getD (A.run b w) 0
 | [],a,b,ha,hb,e,_=>by
  have:=h1.2 a b ha hb (.inl ha)
  rw[e] at this
  simp only[Mdl.run]
  constructor
  ·exact Decidable.byContradiction λ n=>by cases this (.inl n)
  ·exact Decidable.byContradiction λ n=>by cases this (.inr n)
 | j::w,a,b,ha,hb,e,hw=>by
  have hj:=hw j (by simp)
  exact Acd h h1 h2 w _ _ (h.nx_lt ha hj) (h.nx_lt hb hj) (h2 a b ha hb e _ (h.ch_lt hj)) λ i hi=>hw i (by simp[hi])
theorem Aih(h:MOk A)(hN:200000000<N)(hm:∀a b,a<A.T->b<A.T->A.Eqv a b->a=b):Ret (λ R q=>F.qk (R:=R) N A.d q) (λ o=>o=true):=by
  have hT:=h.T2
  have h2:A.T*A.T<=4000*4000:=zS hT hT
  simp only[F.qk,h.lt]
  rw[<-xA,Ag (n:=((A.T*A.T:Nat):Int)) (by omega) (by omega),zD]
  have L0:=rO (s:=λ R=>F.eh (R:=R) N) (app:=λ _ d k=>k d) (P:=λ o:Int×DT×List Bool=>o.1=(A.T:Int)/\o.2.1=A.d/\Cov A o.2.2 A.T 0) (λ z:(Int×Int)×DT×List Bool=>∃x:Nat,z.1=((A.T:Int),(x:Int))/\x<=A.T/\z.2.1=A.d/\Cov A z.2.2 x 0) (λ z=>((A.T:Int)-z.1.2).toNat) (λ z hz=>by
    obtain⟨p,d,v⟩:=z
    obtain⟨x,g1,x1,g2,hv⟩:=hz
    dsimp only at g1 g2 hv
    subst g1 g2
    simp only[F.eh]
    refine rB (λ q=> ?_) λ q=>rL (.inr _) ⟨rfl,rfl,hv.1,λ a b ha hb hab=>hv.2 a b ha hb (by have:¬(x:Int)<A.T:=(by simpa using q);omega)⟩ λ _ _=>rfl
    have q:x<A.T:=by have:(x:Int)<A.T:=(by simpa using q);omega
    refine rD (Atb h hN q hv) ?_
    rintro⟨⟨p1,p2⟩,⟨d1,d2,d3,d4,d5⟩,v'⟩ ⟨g1,g2,hv'⟩
    dsimp only at g1 g2 hv'⊢
    simp only[z9] at g1 g2
    obtain⟨rfl,rfl⟩:=g1
    obtain⟨rfl,rfl,rfl,rfl,rfl⟩:=g2
    rw[Ag (n:=(x:Int)+1) (by omega) (by omega)]
    exact rL (.inl _) ⟨⟨x+1,rfl,by omega,rfl,hv'⟩,by dsimp only;omega⟩ λ _ _=>rfl) N (((A.T:Int),0),A.d,zP (A.T*A.T) false) ⟨0,rfl,by omega,rfl,zO,λ a b _ _ hab=>absurd hab (by omega)⟩ (by dsimp only;omega)
  refine rC (by simp;omega) (rC (by rw[zY];simp only[Ap];omega) (rD L0 ?_))
  rintro⟨p,⟨d1,d2,d3,d4,d5⟩,v⟩ ⟨g1,g2,hv⟩
  dsimp only at g1 g2 hv⊢
  simp only[z9] at g2
  obtain⟨rfl,rfl,rfl,rfl,rfl⟩:=g2
  subst g1
  have L4:=rO (s:=λ R=>F.ew (R:=R) N) (app:=λ _ d k=>k d) (P:=λ o:Int×List Bool=>o.1=(A.T:Int)/\o.2.length=A.T*A.T/\∀a b,a<A.T->b<A.T->a≠b->at2 A.T o.2 a b=true) (λ z:(Int×Bool)×DT×List Bool=>z.1.1=(A.T:Int)/\z.2.1=A.d/\Cov A z.2.2 A.T 0/\(z.1.2=false->∀a b,a<A.T->b<A.T->at2 A.T z.2.2 a b=false->∀c,c<A.w->at2 A.T z.2.2 (A.nc a c) (A.nc b c)=false)) (λ z=>if z.1.2 then z.2.2.count false+1 else 0) (λ z hz=>by
    obtain⟨⟨p,g⟩,d,v⟩:=z
    obtain⟨g1,g2,hv,hg⟩:=hz
    dsimp only at g1 g2 hv hg
    subst g1 g2
    simp only[F.ew]
    refine rB (λ q=>rD (Atc h hN hv.1) ?_) λ q=>rL (.inr _) ⟨rfl,hv.1,λ a b ha hb ne=> ?_⟩ λ _ _=>rfl
    · rintro⟨⟨p1,g'⟩,⟨d1,d2,d3,d4,d5⟩,v'⟩ ⟨g1,g2,hv'⟩
      dsimp only at g1 g2 hv'⊢
      simp only[z9] at g2
      obtain⟨rfl,rfl,rfl,rfl,rfl⟩:=g2
      subst g1
      refine rL (.inl _) ⟨⟨rfl,rfl,⟨hv'.len,λ a b ha hb hab hd=>hv'.ext a b hb (hv.2 a b ha hb hab hd)⟩,λ e a b ha hb=> ?_⟩, ?_⟩ λ _ _=>rfl
      · obtain⟨rfl,hn⟩:=hv'.no e
        exact hn a b ha hb (.inl ha)
      · dsimp only
        rw[q,if_pos rfl]
        split
        · have:=hv'.lt ‹_›;omega
        · omega
    · cases e:at2 A.T v a b
      · exact absurd (hm a b ha hb λ w hw=>Acd h hv (hg q) w a b ha hb e hw) ne
      · rfl) N (((A.T:Int),true),A.d,v) ⟨rfl,rfl,hv,λ e=>by cases e⟩ (by
      have h1:v.count false<=v.length:=xC
      have h3:=hv.1
      simp only[if_pos]
      omega)
  refine rD L4 ?_
  rintro⟨p,v⟩ ⟨g1,hl,hall⟩
  dsimp only at g1 hl hall⊢
  subst g1
  have L12:=rO (s:=λ R=>F.cq (R:=R) N) (app:=Cy) (P:=λ o:Unit⊕Bool=>match o with|.inl _=>True|.inr _=>False) (λ z:(Int×Int)×List Bool=>∃x:Nat,z=(((A.T:Int),(x:Int)),v)/\x<=A.T) (λ z=>((A.T:Int)-z.1.2).toNat) (λ z hz=>by
    obtain⟨x,rfl,x1⟩:=hz
    simp only[F.cq]
    refine rB (λ q=> ?_) λ q=>rL (.inr (.inl ())) trivial λ _ _=>rfl
    have q:x<A.T:=by have:(x:Int)<A.T:=(by simpa using q);omega
    have L14:=rO (s:=λ R=>F.co (R:=R) N) (app:=Cy) (P:=λ o:((Int×Int)×List Bool)⊕((Bool×Int×Int)×List Bool)=>match o with|.inl o=>o=(((A.T:Int),(x:Int)),v)|.inr _=>False) (λ z:(Int×Int×Int)×List Bool=>∃y:Nat,z=(((A.T:Int),(x:Int),(y:Int)),v)/\y<=A.T) (λ z=>((A.T:Int)-z.1.2.2).toNat) (λ z hz=>by
      obtain⟨y,rfl,y1⟩:=hz
      simp only[F.co]
      refine rB (λ r=> ?_) λ r=>rL (.inr (.inl (((A.T:Int),(x:Int)),v))) rfl λ _ _=>rfl
      have r:y<A.T:=by have:(y:Int)<A.T:=(by simpa using r);omega
      obtain⟨s1,s2⟩:=sqi h q r
      rw[s1,Ag (n:=(y:Int)+1) (by omega) (by omega),zD]
      refine rB (λ u=>rC (Ad (by omega) (by omega)) (rB (λ z=> ?_) λ _=>rL (.inl _) ⟨⟨y+1,rfl,by omega⟩,by dsimp only;omega⟩ λ _ _=>rfl)) λ _=>rL (.inl _) ⟨⟨y+1,rfl,by omega⟩,by dsimp only;omega⟩ λ _ _=>rfl
      have u:x≠y:=by
        have u:(x:Int)≠y:=by simpa using u
        omega
      have:=hall x y q r u
      rw[show zA v (x*A.T+y) false=true from this] at z
      cases z) N (((A.T:Int),(x:Int),0),v) ⟨0,rfl,by omega⟩ (by dsimp only;omega)
    refine rD L14 ?_
    rintro(⟨⟨p1,p2⟩,v'⟩|⟨⟨p0,p1,p2⟩,v'⟩) ho
    · obtain⟨⟨rfl,rfl⟩,rfl⟩:=by simpa only[z9] using(show((p1,p2),v')=(((A.T:Int),(x:Int)),v) from ho)
      dsimp only[Cy]
      rw[Ag (n:=(x:Int)+1) (by omega) (by omega)]
      exact rL (.inl _) ⟨⟨x+1,rfl,by omega⟩,by dsimp only;omega⟩ λ _ _=>rfl
    · exact absurd ho (by simp)) N (((A.T:Int),0),v) ⟨0,rfl,by omega⟩ (by dsimp only;omega)
  refine rD L12 ?_
  rintro(_|b) ho
  · exact rL true rfl λ _ _=>rfl
  · exact absurd ho (by simp)
end
theorem gi(X:List Nat){i:Nat}(h:i<X.length):zA (ints X) i (0:Int)=(X[i]:Int):=by
 rw[Lc,List.getD_eq_getElem?_getD,List.getElem?_eq_getElem h];rfl
section
variable{A:Mdl}{P:Nat->Nat}{N:Nat}
abbrev RsT:=Int×Int×List Int×List Int×List Int×List Int×List Int×List Int×List Int×List Int×List Int×List Int
abbrev Rst(A:Mdl)(P:Nat->Nat)(X:List Nat):RsT:=((A.w:Int),((A.mn P).w:Int),ints X,ints (X.map (ph A P)),A.c,A.n,A.t,A.e,(A.mn P).c,(A.mn P).n,(A.mn P).t,(A.mn P).e)
theorem Aqg(hN:200000000<N){X:List Nat}(hl:X.length<=4000){x ch:Nat}{k:Int}:RetK (K:=λ R=>(((Int×Int×Int×Int×Bool)×RsT)->Option R)×(((Bool×Int×Int×Int×Int×Bool)×RsT)->Option R)) Cy (λ R q=>F.ta (R:=R) N N ((k,(ch:Int),(x:Int),(ph A P x:Int),false,(X.length:Int),0),Rst A P X) q) (λ o=>match o with|.inl o=>o=((k,(ch:Int),(x:Int),(ph A P x:Int),decide (x∈X)),Rst A P X)|.inr _=>False):=by
  refine rO (s:=λ R=>F.fe (R:=R) N) (λ z:(Int×Int×Int×Int×Bool×Int×Int)×RsT=>∃j:Nat,z=((k,(ch:Int),(x:Int),(ph A P x:Int),decide (x∈X.take j),(X.length:Int),(j:Int)),Rst A P X)/\j<=X.length) (λ z=>((X.length:Int)-z.1.2.2.2.2.2.2).toNat) ?_ N _ ⟨0,by simp,by omega⟩ (by dsimp only;omega)
  rintro z ⟨j,rfl,j1⟩
  simp only[F.fe]
  refine rB (λ q=> ?_) λ q=>rL (.inr (.inl ((k,(ch:Int),(x:Int),(ph A P x:Int),decide (x∈X.take j)),Rst A P X))) (by
    have:¬(j:Int)<X.length:=by simpa using q
    show _=_
    rw[zK (by omega)]) λ _ _=>rfl
  have q:j<X.length:=by have:(j:Int)<X.length:=(by simpa using q);omega
  rw[Ag (n:=(j:Int)+1) (by omega) (by omega),zD,gi X q,gi _ (by simpa using q),zN]
  have mem:∀b,(b=true<->x∈X.take (j+1))->RetK (K:=λ R=>(((Int×Int×Int×Int×Bool×Int×Int)×RsT)->Option R)×((((Int×Int×Int×Int×Bool)×RsT)->Option R)×(((Bool×Int×Int×Int×Int×Bool)×RsT)->Option R))) (aS Cy) (λ R c=>c.1 ((k,(ch:Int),(x:Int),(ph A P x:Int),b,(X.length:Int),(j:Int)+1),Rst A P X)) (Sm (λ z:(Int×Int×Int×Int×Bool×Int×Int)×RsT=>∃j:Nat,z=((k,(ch:Int),(x:Int),(ph A P x:Int),decide (x∈X.take j),(X.length:Int),(j:Int)),Rst A P X)/\j<=X.length) (λ z=>((X.length:Int)-z.1.2.2.2.2.2.2).toNat) ((k,(ch:Int),(x:Int),(ph A P x:Int),decide (x∈X.take j),(X.length:Int),(j:Int)),Rst A P X) (λ o=>match o with|.inl o=>o=((k,(ch:Int),(x:Int),(ph A P x:Int),decide (x∈X)),Rst A P X)|.inr _=>False)):=λ b hb=>
    rL (.inl _) ⟨⟨j+1,by rw[show b=decide (x∈X.take (j+1)) by rw[Bool.eq_iff_iff,hb,decide_eq_true_eq]];rfl,by omega⟩,by dsimp only;omega⟩ λ _ _=>rfl
  have ts:=zJ q
  refine rC (Ad (by omega) (by rw[Be];omega)) (rB (λ e=> ?_) λ e=> ?_)
  · have e:(X[j]:Int)=x:=beq_iff_eq.1 e
    have e:X[j]=x:=by omega
    refine rC (Ad (by omega) (by rw[Be,zH];omega)) (rB (λ z=> ?_) λ _=>mem true ?_)
    · rw[e] at z;simp at z
    · rw[ts,e];simp
  · have e:¬(X[j]:Int)=x:=beq_eq_false_iff_ne.1 e
    refine mem _ ?_
    rw[ts,List.mem_append,List.mem_singleton,decide_eq_true_eq]
    constructor
    · exact .inl
    · rintro(h|rfl)
      · exact h
      · exact absurd rfl e
structure Met(A:Mdl)(X:List Nat)(k c:Nat):Prop where
 nd:X.Nodup
 lb:∀x∈X,x∈A.Lb
 z:0∈X
 cl:∀i (hi:i<X.length),i<k->∀j,j<256->A.nx X[i] j∈X
 row:∀(hi:k<X.length),∀j,j<c->A.nx X[k] j∈X
theorem Met.le{X:List Nat}{k c:Nat}(hX:Met A X k c)(h:MOk A):X.length<=A.T:=Lj hX.nd λ x hx=>(Le h).lt x (hX.lb x hx)
theorem Aqf(h:MOk A)(hP:Kds A P)(hN:200000000<N){X:List Nat}{k:Nat}(hX:Met A X k 0)(hk:k<X.length):RetK (K:=λ R=>((Int×RsT)->Option R)×(((Bool×Int)×RsT)->Option R)) Cy (λ R q=>F.tb (R:=R) N N (((k:Int),0),Rst A P X) q) (λ o=>match o with|.inl o=>∃X',o=((k:Int),Rst A P X')/\Met A X' (k+1) 0/\k<X'.length|.inr _=>False):=by
  have hT:=h.T2
  have hB:=Wj (P:=P) h
  have hl:=Le h
  refine rO (s:=λ R=>F.ff (R:=R) N) (λ z:(Int×Int)×RsT=>∃(j:Nat) (X:List Nat),z=(((k:Int),(j:Int)),Rst A P X)/\j<=256/\Met A X k j/\k<X.length) (λ z=>(256-z.1.2).toNat) ?_ N _ ⟨0,X,rfl,by omega,hX,hk⟩ (by dsimp only;omega)
  rintro z ⟨j,X,rfl,j1,hX,hk⟩
  have hXl:=hX.le h
  simp only[F.ff]
  refine rB (λ q=> ?_) λ q=>rL (.inr (.inl ((k:Int),Rst A P X))) ⟨X,rfl,⟨hX.nd,hX.lb,hX.z,λ i hi hik c hc=> ?_,λ _ c hc=>absurd hc (by omega)⟩,hk⟩ λ _ _=>rfl
  · have q:j<256:=by have:(j:Int)<256:=(by simpa using q);omega
    have xl:=hX.lb _ (zG hk)
    have xt:=hl.lt _ xl
    have cl:=h.lc
    have cl2:=hB.lc
    obtain⟨i1,i2⟩:=h.idx xt (h.ch_lt q)
    obtain⟨p1,-⟩:=Q0 (P:=P) xl
    have p1:ph A P X[k]<(A.mn P).T:=by rw[Aa5];exact p1
    obtain⟨k1,k2⟩:=hB.idx p1 (hB.ch_lt q)
    have yl:=hl.cl _ xl j q
    have e1:(A.mn P).nc (ph A P X[k]) ((A.mn P).ch j)=ph A P (A.nx X[k] j):=X6 h hP xl q
    rw[zD,zD,gi X hk,gi _ (by simpa using hk),zN,h.ch_eq q,hB.ch_eq q,i1,k1,zD,zD,h.nc_eq xt (h.ch_lt q),hB.nc_eq p1 (hB.ch_lt q),e1,Be]
    refine rC (Ad (by omega) (by omega)) (rC (Ad (by omega) (by omega)) (rC (Ad (by omega) (by omega)) (rC (Ad (by omega) (by rw[Be,zH];omega)) (rC (Ad (by omega) (by omega)) (rC (Ad (by omega) (by omega)) (rD (Aqg (A:=A) (P:=P) (x:=A.nx X[k] j) hN (by omega)) ?_))))))
    rintro(⟨⟨r1,r2,r3,r4,r5⟩,r6,r7,r8,r9,r10,r11,r12,r13,r14,r15,r16,r17⟩|_) ho
    · have ho:((r1,r2,r3,r4,r5),r6,r7,r8,r9,r10,r11,r12,r13,r14,r15,r16,r17)=(((k:Int),(j:Int),(A.nx X[k] j:Int),(ph A P (A.nx X[k] j):Int),decide (A.nx X[k] j∈X)),Rst A P X):=ho
      simp only[z9] at ho
      obtain⟨⟨rfl,rfl,rfl,rfl,rfl⟩,rfl,rfl,rfl,rfl,rfl,rfl,rfl,rfl,rfl,rfl,rfl,rfl⟩:=ho
      dsimp only[Cy]
      rw[Ag (n:=(j:Int)+1) (by omega) (by omega),H8,H8]
      refine rB (λ m=> ?_) λ m=>rL (.inl _) ⟨⟨j+1,X,rfl,by omega,⟨hX.nd,hX.lb,hX.z,hX.cl,λ hi c hc=> ?_⟩,hk⟩,by dsimp only;omega⟩ λ _ _=>rfl
      · have m:A.nx X[k] j∉X:=by simpa using m
        refine rC (Bo (by rw[Be];simp only[zB,zC];omega) (by omega)) (rC (Bo (by rw[Be,zH];simp only[zB,zC];omega) (by omega)) (rL (.inl _) ⟨⟨j+1,X++[A.nx X[k] j],by rw[Rst,zM];rfl,by omega,⟨?_,λ x hx=> ?_,List.mem_append.2 (.inl hX.z),λ i hi hik c hc=> ?_,λ hi c hc=> ?_⟩,by simp only[zF];omega⟩,by dsimp only;omega⟩ λ _ _=>rfl))
        · exact List.nodup_append.2 ⟨hX.nd,by simp,λ a ha b hb e=>by cases List.mem_singleton.1 hb;exact m (e▸ha)⟩
        · rcases List.mem_append.1 hx with hx|hx
          · exact hX.lb x hx
          · cases List.mem_singleton.1 hx;exact yl
        · rw[yT (by omega)]
          exact List.mem_append.2 (.inl (hX.cl i (by omega) hik c hc))
        · rw[yT hk]
          by_cases cj:c=j
          · subst cj;exact List.mem_append.2 (.inr (by simp))
          · exact List.mem_append.2 (.inl (hX.row hk c (by omega)))
      · have m:A.nx X[k] j∈X:=by simpa using m
        by_cases cj:c=j
        · subst cj;exact m
        · exact hX.row hk c (by omega)
    · exact absurd ho (by simp)
  · have q:¬(j:Int)<256:=by simpa using q
    by_cases ik:i=k
    · subst ik;exact hX.row hi c (by omega)
    · exact hX.cl i hi (by omega) c hc
abbrev R6:=Int×List Int×List Int×List Int×List Int×List Int
abbrev Rs6(A:Mdl)(P:Nat->Nat)(X:List Nat):R6:=(((A.mn P).w:Int),ints (X.map (ph A P)),(A.mn P).c,(A.mn P).n,(A.mn P).t,(A.mn P).e)
theorem Awd(h:MOk A)(hP:Kds A P)(hN:200000000<N):RetK (K:=λ R=>(R6->Option R)×((Bool×R6)->Option R)) Cy (λ R q=>F.tc (R:=R) N N (0,(A.w:Int),((A.mn P).w:Int),[0],[0],A.c,A.n,A.t,A.e,(A.mn P).c,(A.mn P).n,(A.mn P).t,(A.mn P).e) q) (λ o=>match o with|.inl o=>∃X,o=Rs6 A P X/\X.length<=A.T/\∀x∈A.Lb,x∈X|.inr _=>False):=by
  have hT:=h.T2
  have hB:=Wj (P:=P) h
  have hl:=Le h
  refine rO (s:=λ R=>F.fg (R:=R) N) (λ z:Int×RsT=>∃(k:Nat) (X:List Nat),z=((k:Int),Rst A P X)/\k<=X.length/\Met A X k 0) (λ z=>((A.T:Int)-z.1).toNat) ?_ N _ ⟨0,[0],by rw[Rst,zR,Afq h];rfl,by simp,by simp,λ x hx=>by cases List.mem_singleton.1 hx;exact hl.zero,by simp,λ i _ hi=>absurd hi (by omega),λ _ j hj=>absurd hj (by omega)⟩ (by dsimp only;omega)
  rintro z ⟨k,X,rfl,k1,hX⟩
  have hXl:=hX.le h
  simp only[F.fg,Be,zH]
  refine rB (λ q=> ?_) λ q=>rL (.inr (.inl (Rs6 A P X))) ⟨X,rfl,hXl,λ x hx=> ?_⟩ λ _ _=>rfl
  · have q:k<X.length:=by have:(k:Int)<X.length:=(by simpa using q);omega
    have xl:=hX.lb _ (zG q)
    have xt:=hl.lt _ xl
    obtain⟨p1,-⟩:=Q0 (P:=P) xl
    have p1:ph A P X[k]<(A.mn P).T:=by rw[Aa5];exact p1
    obtain⟨t1,t2⟩:=Pk hP xl
    have l1:=h.lt
    have l2:=h.le
    have l3:=hB.lt
    have l4:=hB.le
    rw[zD,gi X q,gi _ (by simpa using q),zN,zD,zD]
    refine rC (Ad (by omega) (by omega)) (rC (Ad (by omega) (by omega)) (rC (Ad (by omega) (by omega)) (rC (Ad (by omega) (by omega)) (rB (λ z=> ?_) λ _=>rC (Ad (by omega) (by omega)) (rC (Ad (by omega) (by omega)) (rC (Ad (by omega) (by omega)) (rC (Ad (by omega) (by omega)) (rB (λ z=> ?_) λ _=>rD (Aqf h hP hN hX q) ?_))))))))
    · have z:(zA A.t X[k] 0 !=zA (A.mn P).t (ph A P X[k]) 0)=true:=z
      rw[show zA (A.mn P).t (ph A P X[k]) 0=zA A.t X[k] 0 from t1] at z
      simp at z
    · have z:(zA A.e X[k] 0 !=zA (A.mn P).e (ph A P X[k]) 0)=true:=z
      rw[show zA (A.mn P).e (ph A P X[k]) 0=zA A.e X[k] 0 from t2] at z
      simp at z
    · rintro(⟨r1,r6,r7,r8,r9,r10,r11,r12,r13,r14,r15,r16,r17⟩|_) ho
      · obtain⟨X',ho,hX',hk⟩:=ho
        simp only[z9] at ho
        obtain⟨rfl,rfl,rfl,rfl,rfl,rfl,rfl,rfl,rfl,rfl,rfl,rfl,rfl⟩:=ho
        dsimp only[Cy]
        rw[Ag (n:=(k:Int)+1) (by omega) (by omega)]
        exact rL (.inl _) ⟨⟨k+1,X',rfl,hk,hX'⟩,by dsimp only;omega⟩ λ _ _=>rfl
      · exact absurd ho (by simp)
  · have q:¬(k:Int)<X.length:=by simpa using q
    have hr:=(hl.rch x).1 hx
    clear hx
    induction hr with
    | base=>exact hX.z
    | step _ hy ih=>
      obtain⟨i,hi,rfl⟩:=List.mem_iff_getElem.1 ih
      obtain⟨j,hj,rfl⟩:=List.mem_map.1 hy
      exact hX.cl i hi (by omega) j (List.mem_range.1 hj)
theorem At9(h:MOk A)(hN:200000000<N){X:List Nat}(hl:X.length<=4000)(hX:∀x∈A.Lb,x∈X){wd:Int}{mc mn mt me:List Int}:RetK (K:=λ R=>((Int×List Int×List Int×List Int×List Int)->Option R)×((Bool×Int×List Int×List Int×List Int×List Int)->Option R)) Cy (λ R q=>F.tf (R:=R) N N ((((A.fs P).length:Int),0),wd,ints (X.map (ph A P)),mc,mn,mt,me) q) (λ o=>match o with|.inl o=>o=(wd,mc,mn,mt,me)|.inr _=>False):=by
  have hT:=Afj (P:=P) h
  refine rO (s:=λ R=>F.fj (R:=R) N) (λ z=>∃i:Nat,z=((((A.fs P).length:Int),(i:Int)),wd,ints (X.map (ph A P)),mc,mn,mt,me)/\i<=(A.fs P).length) (λ z=>(((A.fs P).length:Int)-z.1.2).toNat) ?_ N _ ⟨0,rfl,by omega⟩ (by dsimp only;omega)
  rintro z ⟨i,rfl,i1⟩
  simp only[F.fj]
  refine rB (λ q=> ?_) λ q=>rL (.inr (.inl (wd,mc,mn,mt,me))) rfl λ _ _=>rfl
  have q:i<(A.fs P).length:=by have:(i:Int)<(A.fs P).length:=(by simpa using q);omega
  have hm:i∈X.map (ph A P):=List.mem_map.2 ⟨_,hX _ (M1 q),Adn q⟩
  have hml:(X.map (ph A P)).length<=4000:=by rw[zH];exact hl
  generalize X.map (ph A P)=Y at hm hml
  have L8:=rO (s:=λ R=>F.fh (R:=R) N) (app:=λ _ d k=>k d) (P:=λ o=>o=((true,((A.fs P).length:Int),(i:Int)),wd,ints Y,mc,mn,mt,me)) (λ z=>∃(j:Nat) (b:Bool),z=(((i:Int),b,((A.fs P).length:Int),(i:Int),(Y.length:Int),(j:Int)),wd,ints Y,mc,mn,mt,me)/\j<=Y.length/\(i∈Y.take j->b=true)) (λ z=>((Y.length:Int)-z.1.2.2.2.2.2).toNat) (λ z hz=>by
    obtain⟨j,b,rfl,j1,hb⟩:=hz
    simp only[F.fh]
    refine rB (λ r=> ?_) λ r=>rL (.inr _) (by
      have:¬(j:Int)<Y.length:=by simpa using r
      rw[zK (by omega)] at hb
      show _=_
      rw[hb hm]) λ _ _=>rfl
    have r:j<Y.length:=by have:(j:Int)<Y.length:=(by simpa using r);omega
    rw[Ag (n:=(j:Int)+1) (by omega) (by omega),zD,gi Y r,Be]
    refine rC (Ad (by omega) (by omega)) (rB (λ e=>rL (.inl _) ⟨⟨j+1,true,rfl,by omega,λ _=>rfl⟩,by dsimp only;omega⟩ λ _ _=>rfl) λ e=>rL (.inl _) ⟨⟨j+1,_,rfl,by omega,λ m=> ?_⟩,by dsimp only;omega⟩ λ _ _=>rfl)
    rw[zJ r] at m
    rcases List.mem_append.1 m with m|m
    · rw[hb m] at e;cases e
    · rw[<-List.mem_singleton.1 m];simp) N (((i:Int),false,((A.fs P).length:Int),(i:Int),(Y.length:Int),0),wd,ints Y,mc,mn,mt,me) ⟨0,false,rfl,by omega,λ m=>absurd m (by simp)⟩ (by dsimp only;omega)
  rw[Be]
  refine rD L8 ?_
  rintro _ rfl
  dsimp only
  rw[Ag (n:=(i:Int)+1) (by omega) (by omega)]
  exact rB (λ e=>by cases e) λ _=>rL (.inl _) ⟨⟨i+1,rfl,by omega⟩,by dsimp only;omega⟩ λ _ _=>rfl
theorem Ao9(h:MOk A)(hN:200000000<N){mn mt me:List Int}:RetK (K:=λ R=>((Int×List Int×List Int×List Int×List Int)->Option R)×((Bool×Int×List Int×List Int×List Int×List Int)->Option R)) Cy (λ R q=>F.se (R:=R) N N (0,((A.mn P).w:Int),(A.mn P).c,mn,mt,me) q) (λ o=>match o with|.inl o=>o=(((A.mn P).w:Int),(A.mn P).c,mn,mt,me)|.inr _=>False):=by
  have hB:=Wj (P:=P) h
  have w2:=hB.w2
  have lc:=hB.lc
  refine rO (s:=λ R=>F.cv (R:=R) N) (λ z=>∃i:Nat,z=((i:Int),((A.mn P).w:Int),(A.mn P).c,mn,mt,me)/\i<=(A.mn P).w) (λ z=>(((A.mn P).w:Int)-z.1).toNat) ?_ N _ ⟨0,rfl,by omega⟩ (by dsimp only;omega)
  rintro z ⟨i,rfl,i1⟩
  simp only[F.cv]
  refine rB (λ q=> ?_) λ q=>rL (.inr (.inl (((A.mn P).w:Int),(A.mn P).c,mn,mt,me))) rfl λ _ _=>rfl
  have q:i<(A.mn P).w:=by have:(i:Int)<(A.mn P).w:=(by simpa using q);omega
  have hr:i<(A.rs P).length:=by have:=Aa6 A P;omega
  obtain⟨b0,h256,hch⟩:=Aue hr
  have L12:=rO (s:=λ R=>F.ct (R:=R) N) (app:=λ _ d k=>k d) (P:=λ o=>o=(((i:Int),true),((A.mn P).w:Int),(A.mn P).c,mn,mt,me)) (λ z=>∃(j:Nat) (b:Bool),z=(((i:Int),b,(j:Int)),((A.mn P).w:Int),(A.mn P).c,mn,mt,me)/\j<=256/\(b0<j->b=true)) (λ z=>(256-z.1.2.2).toNat) (λ z hz=>by
    obtain⟨j,b,rfl,j1,hb⟩:=hz
    simp only[F.ct]
    refine rB (λ r=> ?_) λ r=>rL (.inr _) (by show _=_;rw[hb (by have:¬(j:Int)<256:=(by simpa using r);omega)]) λ _ _=>rfl
    have r:j<256:=by have:(j:Int)<256:=(by simpa using r);omega
    rw[Ag (n:=(j:Int)+1) (by omega) (by omega),zD,hB.ch_eq r]
    refine rB (λ e=>rL (.inl _) ⟨⟨j+1,true,rfl,by omega,λ _=>rfl⟩,by dsimp only;omega⟩ λ _ _=>rfl) λ e=>rC (Ad (by omega) (by omega)) (rL (.inl _) ⟨⟨j+1,_,rfl,by omega,λ m=> ?_⟩,by dsimp only;omega⟩ λ _ _=>rfl)
    by_cases mj:b0=j
    · rw[<-mj,hch];simp
    · rw[hb (by omega)] at e;cases e) N (((i:Int),false,0),((A.mn P).w:Int),(A.mn P).c,mn,mt,me) ⟨0,false,rfl,by omega,λ m=>absurd m (by omega)⟩ (by dsimp only;omega)
  refine rD L12 ?_
  rintro _ rfl
  dsimp only
  rw[Ag (n:=(i:Int)+1) (by omega) (by omega)]
  exact rB (λ e=>by cases e) λ _=>rL (.inl _) ⟨⟨i+1,rfl,by omega⟩,by dsimp only;omega⟩ λ _ _=>rfl
theorem Ps(l:List Int)(hl:l.length<=2000000)(hN:200000000<N):Ret (λ R q=>F.fx (R:=R) N (l,l) q) (λ o=>o=true):=by
  simp only[F.fx]
  refine rB (λ e=>by simp at e) λ _=>rD (rO (s:=λ R=>F.ey (R:=R) N) (app:=Cy) (P:=λ o:Unit⊕Bool=>match o with|.inl _=>True|.inr _=>False) (λ z=>∃j:Nat,z=(l,l,(l.length:Int),(j:Int))/\j<=l.length) (λ z=>((l.length:Int)-z.2.2.2).toNat) (λ z hz=>by
    obtain⟨j,rfl,j1⟩:=hz
    simp only[F.ey]
    refine rB (λ q=> ?_) λ q=>rL (.inr (.inl ())) trivial λ _ _=>rfl
    have q:j<l.length:=by have:(j:Int)<l.length:=(by simpa using q);omega
    rw[Ag (n:=(j:Int)+1) (by omega) (by omega)]
    exact rC (Ad (by omega) (by omega)) (rC (Ad (by omega) (by omega)) (rB (λ e=>by simp at e) λ _=>rL (.inl _) ⟨⟨j+1,rfl,by omega⟩,by dsimp only;omega⟩ λ _ _=>rfl))) N (l,l,(l.length:Int),0) ⟨0,rfl,by omega⟩ (by dsimp only;omega)) ?_
  rintro(_|_) ho
  · exact rL true rfl λ _ _=>rfl
  · exact absurd ho (by simp)
theorem Afp(h:MOk A)(hok:Kf A.c (A.w:Int) A.n A.t A.e=true)(hN:200000000<N):∃P,Kds A P/\∀R (k:Int->List Int->List Int->List Int->List Int->Option R),F.jh N A.c (A.w:Int) A.n A.t A.e k=k ((A.mn P).w:Int) (A.mn P).c (A.mn P).n (A.mn P).t (A.mn P).e:=by
 have hb:=Le h
 obtain⟨P,p1,p2⟩:=Ac6 h N (by omega) hb.lt hb.len (List.ne_nil_of_mem hb.zero) hb.cl
 have h1:=Afj (P:=P) h
 have h2:(A.rs P).length<=256:=J4 (A.cB P)
 have hsz:(A.fs P).length*(A.rs P).length<=4000*256:=zS h1 h2
 refine⟨P,p2,λ R k=> ?_⟩
 rw[Akr h N (by omega) hb.lt hb.len hb.cl P (yF hsz (by decide)) hok p1 (λ k=>Aaq h N (by omega) k),Asc,Aa6,Aud,Apc,Aug,Auf]
theorem Yd{c:List Int}{w:Int}{n t e:List Int}:Kf c w n t e=true<->DOk c w n t e:=by
 have hin:∀{l:List Int} {a b:Int},Hw l a b=true<->∀x∈l,a<=x/\x<=b:=by
  intro l a b
  simp only[Hw,xL,decide_eq_true_eq]
 simp only[Kf,yH,decide_eq_true_eq,hin]
 exact⟨λ⟨⟨h1,h2,h3,h4,h5,h6,h7⟩,h8,h9,h10,h11⟩=>⟨h1,h2,h3,h4,h5,h6,h7,h8,h9,h10,h11⟩,λ h=>⟨⟨h.cl,h.w0,h.w1,h.t0,h.t1,h.el,h.nl⟩,h.ci,h.ni,h.ti,h.ei⟩⟩
theorem Asb(h:MOk A):Kf A.c (A.w:Int) A.n A.t A.e=true:=by
 have w1:=h.w1
 have w2:=h.w2
 have t1:=h.T1
 have t2:=h.T2
 refine Yd.2 ⟨h.lc,by omega,by omega,by rw[h.lt];exact t1,by rw[h.lt];exact t2,by rw[h.lt];exact h.le,by rw[h.lt,h.ln,xA],λ x hx=> ?_,λ x hx=> ?_,h.ht,h.he⟩
 ·have:=h.hc x hx;omega
 ·have:=h.hn x hx;rw[h.lt];omega
theorem Apv(h:MOk A)(hN:2000000<N):Ret (λ R k=>F.mz (R:=R) N A.d k) (λ o=>o=true):=by
 have l1:=h.lc
 have l2:=h.ln
 have l3:=h.lt
 have l4:=h.le
 have t2:=h.T2
 have w2:=h.w2
 have l5:A.T*A.w<=4000*256:=zS h.T2 h.w2
 exact(Yn A.d (by dsimp only;omega) (by dsimp only;omega) (by dsimp only;omega) (by dsimp only;omega) (by dsimp only;omega) hN).mono λ o ho=>ho.2 (Yd.1 (Asb h))
theorem Ao3(h:MOk A)(hP:Kds A P)(hN:200000000<N):Ret (λ R k=>jn (F.nk (R:=R) N k) (false,(A.w:Int),((A.mn P).w:Int),A.c,A.n,A.t,A.e,(A.mn P).c,(A.mn P).n,(A.mn P).t,(A.mn P).e)) (λ o=>o=true):=by
 have hB:=Wj (P:=P) h
 have hT:=h.T2
 simp only[jn,F.nk]
 refine rB (λ e=>by cases e) λ _=>rD (Awd h hP hN) ?_
 rintro(⟨r1,r2,r3,r4,r5,r6⟩|_) ho
 case inr=>exact absurd ho (by simp)
 obtain⟨X,ho,hXl,hX⟩:=ho
 simp only[z9] at ho
 obtain⟨rfl,rfl,rfl,rfl,rfl,rfl⟩:=ho
 dsimp only[Cy]
 rw[hB.lt,Aa5]
 refine rD (At9 h hN (by omega) hX) ?_
 rintro(⟨r1,r2,r3,r4,r5⟩|_) ho
 case inr=>exact absurd ho (by simp)
 have ho:(r1,r2,r3,r4,r5)=(((A.mn P).w:Int),(A.mn P).c,(A.mn P).n,(A.mn P).t,(A.mn P).e):=ho
 simp only[z9] at ho
 obtain⟨rfl,rfl,rfl,rfl,rfl⟩:=ho
 dsimp only[Cy]
 refine rD (Ao9 h hN) ?_
 rintro(⟨r1,r2,r3,r4,r5⟩|_) ho
 case inr=>exact absurd ho (by simp)
 have ho:(r1,r2,r3,r4,r5)=(((A.mn P).w:Int),(A.mn P).c,(A.mn P).n,(A.mn P).t,(A.mn P).e):=ho
 simp only[z9] at ho
 obtain⟨rfl,rfl,rfl,rfl,rfl⟩:=ho
 dsimp only[Cy]
 obtain⟨P',hP',e⟩:=Afp hB (Asb hB) hN
 obtain⟨e1,e2,e3,e4,e5⟩:=Ak6 h hP hP'
 rw[e1,e2,e3,e4,e5] at e
 have l1:=hB.lc
 have l2:=hB.ln
 have l3:=hB.lt
 have l4:=hB.le
 have t2:=hB.T2
 have l5:(A.mn P).T*(A.mn P).w<=4000*256:=zS hB.T2 hB.w2
 have same:Ret (λ R k=>F.qx (R:=R) N (((A.mn P).c,((A.mn P).w:Int),(A.mn P).n,(A.mn P).t,(A.mn P).e),(A.mn P).c,((A.mn P).w:Int),(A.mn P).n,(A.mn P).t,(A.mn P).e) k) (λ o=>o=true):=by
  simp only[F.qx]
  refine rB (λ _=>rD (Ps _ (by omega) hN) ?_) λ e=>by simp at e
  rintro _ rfl
  refine rB (λ _=>rD (Ps _ (by omega) hN) ?_) λ e=>by cases e
  rintro _ rfl
  refine rB (λ _=>rD (Ps _ (by omega) hN) ?_) λ e=>by cases e
  rintro _ rfl
  refine rB (λ _=>rD (Ps _ (by omega) hN) ?_) λ e=>by cases e
  rintro _ rfl
  exact rL true rfl λ _ _=>rfl
 obtain⟨o,ho,es⟩:=same
 exact rL o ho λ R k=>(e R _).trans (es R k)
theorem law{L:List Int}(hL:Src L)(hN:10000000000<N):Ret (λ R k=>jn (F.de (R:=R) N k) (L,false)) (λ o=>o=true):=by
 simp only[jn,F.de]
 obtain⟨⟨w,c,n,t,e⟩,⟨b1,b2,b3,b4,b5,b6⟩,ed⟩:=Aom hL hN
 dsimp only at b1 b2 b3 b4 b5 b6
 have dr:Ret (λ R q=>F.cz (R:=R) N L q) (λ o=>o=(w,c,n,t,e)):=⟨_,rfl,ed⟩
 refine rB (λ h=>by cases h) λ _=>rD dr ?_
 rintro _ rfl
 refine rD dr ?_
 rintro _ rfl
 dsimp only
 cases hok:Kf c w n t e
 ·obtain⟨o,ho,es⟩:=Yn (c,w,n,t,e) (N:=N) (by dsimp only;omega) (by dsimp only;omega) (by dsimp only;omega) (by dsimp only;omega) (by dsimp only;omega) (by omega)
  have o0:o=false:=by
   cases o
   ·rfl
   ·rw[Yd.2 (ho.1 rfl)] at hok
    cases hok
  subst o0
  refine rL true rfl λ R k=> ?_
  simp only[F.jh,F.px]
  rw[Wb N c w n t e (by omega) (by omega) (by omega) (by omega) (by omega),hok]
  simp only[chk,yM,cond_true]
  exact(es R _).trans rfl
 ·obtain⟨hA,hw⟩:=Aui hok
  obtain⟨P,hP,em⟩:=Afp hA (by rw[<-hw];exact hok) (show 200000000<N by omega)
  dsimp only at em
  rw[<-hw] at em
  have hB:=Wj (P:=P) hA
  obtain⟨o,ho,es⟩:=Yn (c,w,n,t,e) (N:=N) (by dsimp only;omega) (by dsimp only;omega) (by dsimp only;omega) (by dsimp only;omega) (by dsimp only;omega) (by omega)
  have o1:o=true:=ho.2 (Yd.1 hok)
  subst o1
  obtain⟨o2,ho2,es2⟩:=Apv hB (N:=N) (by omega)
  subst ho2
  obtain⟨o3,ho3,es3⟩:=Aih hB (N:=N) (by omega) λ a b ha hb hab=>Ak7 hA hP (by rw[Aa5] at ha;exact ha) (by rw[Aa5] at hb;exact hb) hab
  subst ho3
  obtain⟨o4,ho4,es4⟩:=Ao3 hA hP (N:=N) (by omega)
  dsimp only at es4
  rw[<-hw] at es4
  refine rL o4 ho4 λ R k=> ?_
  have x1:∀k:Bool->Option R,F.mz N (c,w,n,t,e) k=k true:=es R
  have x2:=es2 R
  have x3:=es3 R
  have x4:=es4 R k
  have x0:=em R
  clear em es es2 es3 es4 ho ho4 dr ed hB hP
  generalize Mdl.mn ⟨c,n,t,e,w.toNat,t.length⟩ P=B at x0 x2 x3 x4⊢
  dsimp only at x2 x3 x4
  rw[x0,x1]
  simp only[yI,cond_false]
  rw[x2]
  simp only[yI,cond_false]
  rw[x3]
  exact x4
end
theorem Aof{n:Int}(h:(Lit.int .u8 n).wf=true):0<=n/\n<256:=by
 simp[Lit.wf,IntKind.min,IntKind.max,IntKind.signed,IntKind.bits] at h
 omega
theorem FnMinimal:∀(a0:Ki.den (.lst (.int .u8))),∀(a1:Ki.den (.lst (.int .u8))),Fit (.lst (.int .u8)) a0->Fit (.lst (.int .u8)) a1->∃N,F.ru N (a0,a1) (λ b=>some b)=some true:=by
 intro a0 a1 h0 h1
 obtain⟨N,hN⟩:∃N,10000000000<N:=⟨10000000001,by omega⟩
 refine⟨N, ?_⟩
 have no:∀l:List Int,jn (F.de N λ b=>some b) (l,true)=some true:=λ l=>by simp only[jn,F.de];rfl
 simp only[F.ru]
 cases e:decide ((yD (α:=Int) a0:Int)>1048576)
 ·cases e2:decide ((yD (α:=Int) a1:Int)>1048576)
  ·have e:¬(yD (α:=Int) a0:Int)>1048576:=by simpa using e
   obtain⟨o,ho,es⟩:=law (L:=a0) (N:=N) ⟨by omega,λ x hx=>Aof (h0.2 x hx)⟩ hN
   subst ho
   exact es _ some
  ·exact no _
 ·exact no _
end Go.Proofs.Ytfeppeacchjbeaa.fnMinimal.Pure
