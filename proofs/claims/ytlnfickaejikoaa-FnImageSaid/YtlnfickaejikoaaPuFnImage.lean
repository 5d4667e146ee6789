/- The plain law of FnImage. -/
import Derived.Test.YtlnfickaejikoaaPtFnImage
open List renaming length_nil->z8,length_cons->z9,length_append->zB,getElem_mem->zC,getD->zE,length_singleton->zF,take_succ_eq_append_getElem->zH,take_of_length_le->zI,length_take->zJ,append_assoc->zM,length_replicate->zO,length_set->zP,drop_of_length_le->zS,drop_eq_getElem_cons->zT,replicate->zU,drop_zero->zV,length->zW,mem_of_mem_take->zZ,take_length->yA,mem_or_eq_of_mem_set->yC,append_nil->yF,eq_of_mem_replicate->yG,foldl_append->yH,any_eq_false->yJ,getElem_of_mem->yL,mem_cons->yN,length_drop->yP,take->yS,mem_cons_of_mem->yV,count_le_length->yW,count_singleton->yY,mem_of_mem_drop->yZ,mem_cons_self->xA,count_append->xC,drop->xE,not_mem_nil->xI,length_map->xK,mem_append->xM,nil_append->xN,count_set->xP,drop_left->xQ,range->xT
open Prod.mk renaming injEq->zA
open Bool renaming cond_decide->zD,and_eq_true->zR,not_eq_true'->yI,not_true->yO,true_or->yQ,not_false->yT,or_eq_false_iff->yX,or_eq_true->xL,false_or->xR
open Int renaming toNat_natCast->zG,natCast_zero->zK,toNat->zL,mul_le_mul->zN,natCast_mul->zQ,mul_le_mul_of_nonneg_right->zX,tmod_eq_emod_of_nonneg->yB,add_mul->yD,one_mul->yE,mul_nonneg->yM,eq_ofNat_of_zero_le->yR
open Nat renaming le_refl->zY,mul_le_mul_right->yK,mul_le_mul->yU,zero_add->xB,add_mul->xF,one_mul->xG,mod_eq_of_lt->xJ,ble_eq->xO,ble->xS
open Option.some renaming injEq->xD
open Option renaming getD_none->xH
set_option linter.unusedVariables false
set_option linter.unusedSimpArgs false
namespace Go.Proofs.Ytlnfickaejikoaa.fnImage.Pure
open Go.Ev Go.Proofs.Ytlnfickaejikoaa.fnImage
structure DOk(c:List Int)(w:Int)(n t e:List Int):Prop where
 cl:c.length=256
 w0:1<=w
 w1:w<=256
 t0:1<=t.length
 t1:t.length<=4000
 el:e.length=t.length
 nl:(n.length:Int)=t.length*w
 ci:∀x∈c,0<=x/\x<=w-1
 ni:∀x∈n,0<=x/\x<=t.length-1
 ti:∀x∈t,-1<=x/\x<=99
 ei:∀x∈e,-1<=x/\x<=99
abbrev DT:=List Int×Int×List Int×List Int×List Int
def Kb(d:DT):Prop:=DOk d.1 d.2.1 d.2.2.1 d.2.2.2.1 d.2.2.2.2
theorem Vr{t:Nat}{w:Int}(h1:t<=4000)(h2:1<=w)(h3:w<=256):0<=(t:Int)*w/\(t:Int)*w<=1024000:=by
 have a:0<=(t:Int)*w:=yM (by omega) (by omega)
 have b:(t:Int)*w<=4000*256:=zN (by omega) h3 (by omega) (by omega)
 omega
theorem T8(l:List Int)(lo hi:Int){N:Nat}(hl:l.length<=1048576)(hN:2000000<N):Ret (λ R k=>F.ph (R:=R) N (l,lo,hi) k) (λ o=>o=true<->∀x∈l,lo<=x/\x<=hi):=by
  simp only[F.ph]
  have L0:=rO (s:=λ R=>F.mw (R:=R) N) (app:=Db) (P:=λ o:Unit⊕Bool=>match o with|.inl _=>∀x∈l,lo<=x/\x<=hi|.inr b=>b=false/\¬∀x∈l,lo<=x/\x<=hi) (λ y:Int×Int×List Int×Int×Int=>y.1=lo/\y.2.1=hi/\y.2.2.1=l/\y.2.2.2.1=l.length/\0<=y.2.2.2.2/\y.2.2.2.2<=l.length/\∀x∈l.take y.2.2.2.2.toNat,lo<=x/\x<=hi) (λ y=>((l.length:Int)-y.2.2.2.2).toNat) (λ y hy=>by
    obtain⟨a,b,l',n,j⟩:=y
    obtain⟨g1,g2,g3,g4,j0,j1,hd⟩:=hy
    dsimp only at g1 g2 g3 g4 j0 j1 hd
    subst g1 g2 g3 g4
    simp only[F.mw]
    refine rB (λ h=> ?_) λ h=>rL (.inr (.inl ())) (by have:¬j<l'.length:=(by simpa using h);rw[show j.toNat=l'.length by omega,yA] at hd;exact hd) λ _ _=>rfl
    have h:j<l'.length:=by simpa using h
    have hj:j.toNat<l'.length:=by omega
    rw[A8 l' hj,Af (n:=j+1) (by omega) (by omega)]
    refine rC (Ae j0 h) (rD (Eo _ _ _) ?_)
    rintro _ rfl
    refine rB (λ e=>rL (.inr (.inr false)) ⟨rfl,λ q=> ?_⟩ λ _ _=>rfl) λ e=>rL (.inl _) ⟨⟨rfl,rfl,rfl,rfl,by dsimp only;omega,by dsimp only;omega,λ x hx=> ?_⟩,by dsimp only;omega⟩ λ _ _=>rfl
    · have:=q _ (zC hj)
      simp[this.1,this.2] at e
    · dsimp only at hx
      rw[show(j+1).toNat=j.toNat+1 by omega,zH hj] at hx
      rcases List.mem_append.1 hx with hx|hx
      · exact hd x hx
      · cases List.mem_singleton.1 hx
        simpa using e) N (lo,hi,l,(l.length:Int),0) ⟨rfl,rfl,rfl,rfl,by simp,by simp,λ x hx=>absurd hx (by simp)⟩ (by dsimp only;omega)
  refine rD L0 ?_
  rintro(_|b) ho
  · exact rL true ⟨λ _=>ho,λ _=>rfl⟩ λ _ _=>rfl
  · obtain⟨rfl,ho⟩:=ho
    exact rL false ⟨λ h=>(by cases h),λ h=>absurd h ho⟩ λ _ _=>rfl
theorem Ant(d:DT){N:Nat}(hc:d.1.length<=1048576)(hn:d.2.2.1.length<=1048576)(ht:d.2.2.2.1.length<=1048576)(he:d.2.2.2.2.length<=1048576)(hw:-9223372036854775807<=d.2.1/\d.2.1<=9223372036854775807)(hN:2000000<N):Ret (λ R k=>F.sj (R:=R) N d k) (λ o=>o=true<->Kb d):=by
 obtain⟨c,w,n,t,e⟩:=d
 dsimp only at hc hn ht he hw
 have no:¬DOk c w n t e->Ret (λ R k=>k false) (λ o=>o=true<->Kb (c,w,n,t,e)):=λ h=>rL false ⟨λ h=>(by cases h),λ q=>absurd q h⟩ λ _ _=>rfl
 have j8:∀q:Bool,(q=true->¬DOk c w n t e)->(q=false->c.length=256/\1<=w/\w<=256/\1<=t.length/\t.length<=4000/\e.length=t.length/\(n.length:Int)=t.length*w)->Ret (λ R k=>jn (F.rn (R:=R) N k) (((t.length:Int),q),c,w,n,t,e)) (λ o=>o=true<->Kb (c,w,n,t,e)):=λ q h1 h2=>by
  simp only[jn,F.rn]
  rw[Af (n:=w-1) (by omega) (by omega),Af (n:=(t.length:Int)-1) (by omega) (by omega)]
  refine rB (λ h=>no (h1 h)) λ h=>rD (T8 c _ _ hc hN) λ v1 q1=>rB (λ e1=>rD (T8 n _ _ hn hN) λ v2 q2=>rB (λ e2=>rD (T8 t _ _ ht hN) λ v3 q3=>rB (λ e3=>rD (T8 e _ _ he hN) λ v4 q4=>rL _ ⟨λ e4=> ?_,λ g=>q4.2 g.ei⟩ λ _ _=>rfl) λ e3=>no λ g=> ?_) λ e2=>no λ g=> ?_) λ e1=>no λ g=> ?_
  ·obtain⟨x1,x2,x3,x4,x5,x6,x7⟩:=h2 h
   exact⟨x1,x2,x3,x4,x5,x6,x7,q1.1 e1,q2.1 e2,q3.1 e3,q4.1 e4⟩
  ·rw[q3.2 g.ti] at e3;cases e3
  ·rw[q2.2 g.ni] at e2;cases e2
  ·rw[q1.2 g.ci] at e1;cases e1
 have j4:∀q:Bool,(q=true->¬DOk c w n t e)->(q=false->c.length=256/\1<=w/\w<=256/\1<=t.length/\t.length<=4000)->Ret (λ R k=>jn (F.pu (R:=R) N k) (((t.length:Int),q),c,w,n,t,e)) (λ o=>o=true<->Kb (c,w,n,t,e)):=λ q h1 h2=>by
  simp only[jn,F.pu]
  refine rB (λ h=>no (h1 h)) λ h=> ?_
  obtain⟨x1,x2,x3,x4,x5⟩:=h2 h
  have:=Vr x5 x2 x3
  rw[Af (n:=(t.length:Int)*w) (by omega) (by omega)]
  refine rB (λ h=>j8 true (λ _ g=> ?_) λ h=>(by cases h)) λ h=>j8 _ (λ q g=> ?_) λ q=> ?_
  ·have:=g.el
   simp[this] at h
  ·have:=g.nl
   simp[this] at q
  ·have h:(e.length:Int)=t.length:=by simpa using h
   exact⟨x1,x2,x3,x4,x5,by omega,by simpa using q⟩
 simp only[F.sj]
 refine rB (λ h=>j4 true (λ _ g=> ?_) λ h=>(by cases h)) λ h=>rD (Eo _ _ _) ?_
 ·have:=g.cl
  simp[this] at h
 ·rintro _ rfl
  refine rB (λ h2=>j4 true (λ _ g=> ?_) λ h=>(by cases h)) λ h2=>rD (Eo _ _ _) ?_
  ·have x1:=g.w0
   have x2:=g.w1
   simp[x1,x2] at h2
  ·rintro _ rfl
   refine j4 _ (λ q g=> ?_) λ q=> ?_
   ·have x1:=g.t0
    have x2:=g.t1
    rw[decide_eq_true (show(1:Int)<=t.length by omega),decide_eq_true (show(t.length:Int)<=4000 by omega)] at q
    cases q
   ·have q:1<=(t.length:Int)/\(t.length:Int)<=4000:=by
     have q:(decide (1<=(t.length:Int))&&decide ((t.length:Int)<=4000))=true:=by rw[<-Bool.not_not (decide _&&_),q];rfl
     rw[zR,decide_eq_true_eq,decide_eq_true_eq] at q
     exact q
    have h2:1<=w/\w<=256:=by simpa using h2
    have h:(c.length:Int)=256:=by simpa using h
    exact⟨by omega,h2.1,h2.2,by omega,by omega⟩
theorem place(l:List Int)(x:Int){N:Nat}(hl:l.length<=1048576)(hN:2000000<N):Ret (λ R k=>F.cx (R:=R) N (l,x) k) (λ o=>o=-1/\x∉l\/0<=o/\o<l.length/\x∈l):=by
  simp only[F.cx]
  have L0:=rO (s:=λ R=>F.jr (R:=R) N) (app:=Db) (P:=λ o:Unit⊕Int=>match o with|.inl _=>x∉l|.inr o=>0<=o/\o<l.length/\x∈l) (λ y:Int×List Int×Int×Int=>y.1=x/\y.2.1=l/\y.2.2.1=l.length/\0<=y.2.2.2/\y.2.2.2<=l.length/\x∉l.take y.2.2.2.toNat) (λ y=>((l.length:Int)-y.2.2.2).toNat) (λ y hy=>by
    obtain⟨a,l',n,j⟩:=y
    obtain⟨g1,g2,g3,j0,j1,hd⟩:=hy
    dsimp only at g1 g2 g3 j0 j1 hd
    subst g1 g2 g3
    simp only[F.jr]
    refine rB (λ h=> ?_) λ h=>rL (.inr (.inl ())) (by have:¬j<l'.length:=(by simpa using h);rw[show j.toNat=l'.length by omega,yA] at hd;exact hd) λ _ _=>rfl
    have h:j<l'.length:=by simpa using h
    have hj:j.toNat<l'.length:=by omega
    rw[A8 l' hj,Af (n:=j+1) (by omega) (by omega)]
    refine rC (Ae j0 h) (rB (λ e=>rL (.inr (.inr j)) ⟨j0,h,by rw[<-beq_iff_eq.1 e];exact zC _⟩ λ _ _=>rfl) λ e=>rL (.inl _) ⟨⟨rfl,rfl,rfl,by dsimp only;omega,by dsimp only;omega,λ hx=> ?_⟩,by dsimp only;omega⟩ λ _ _=>rfl)
    dsimp only at hx
    rw[show(j+1).toNat=j.toNat+1 by omega,zH hj] at hx
    rcases List.mem_append.1 hx with hx|hx
    · exact hd hx
    · exact beq_eq_false_iff_ne.1 e (List.mem_singleton.1 hx).symm) N (x,l,(l.length:Int),0) ⟨rfl,rfl,rfl,by simp,by simp,by simp⟩ (by dsimp only;omega)
  refine rD L0 ?_
  rintro(_|b) ho
  · exact rL (-1) (.inl ⟨rfl,ho⟩) λ _ _=>rfl
  · exact rL b (.inr ho) λ _ _=>rfl
def SOk(T:Nat)(l:List Int):Prop:=l.Nodup/\∀x∈l,0<=x/\x<T
theorem SOk.le{T:Nat}{l:List Int}(h:SOk T l):l.length<=T:=by
 have:(l.map zL).Nodup:=List.pairwise_map.2 (List.Pairwise.imp_of_mem (λ ha hb ne e=>ne (by have:=h.2 _ ha;have:=h.2 _ hb;omega)) h.1)
 have:=Am5 this (T:=T) λ x hx=>by
  obtain⟨y,hy,rfl⟩:=List.mem_map.1 hx
  have:=h.2 y hy
  omega
 rw[xK] at this
 exact this
theorem SOk.snoc{T:Nat}{l:List Int}{x:Int}(h:SOk T l)(hx:x∉l)(h0:0<=x)(h1:x<T):SOk T (l++[x]):=by
 refine⟨List.nodup_append.2 ⟨h.1,by simp,λ a ha b hb e=> ?_⟩,λ y hy=> ?_⟩
 ·cases List.mem_singleton.1 hb;subst e;exact hx ha
 ·rcases List.mem_append.1 hy with hy|hy
  ·exact h.2 y hy
  ·cases List.mem_singleton.1 hy;exact⟨h0,h1⟩
theorem Fi{l:List Int}{P:Int->Prop}(h:∀x∈l,P x){i:Int}(i1:i.toNat<l.length):P (zE l i.toNat 0):=by
 rw[A8 l i1];exact h _ (zC _)
theorem Av7{s c w:Int}{T:Nat}(hT:T<=4000)(w1:w<=256)(s0:0<=s)(s1:s<T)(c0:0<=c)(c1:c<w):0<=s*w/\s*w+c<T*w/\s*w+c<=1024000:=by
 have a:0<=s*w:=yM s0 (by omega)
 have b:(s+1)*w<=T*w:=zX (by omega) (by omega)
 have:=Vr hT (by omega:1<=w) w1
 rw[yD,yE] at b
 omega
section
variable{c n t e:List Int}{w:Int}{N:Nat}
theorem DOk.go(h:DOk c w n t e){s k:Int}(s0:0<=s)(s1:s<t.length)(k0:0<=k)(k1:k<w):Aa .i64 (Aa .i64 (s*w)+k)=s*w+k/\0<=s*w+k/\s*w+k<n.length/\0<=zE n (s*w+k).toNat 0/\zE n (s*w+k).toNat 0<t.length:=by
 obtain⟨q0,q1,q2⟩:=Av7 h.t1 h.w1 s0 s1 k0 k1
 have hn:=h.nl
 rw[Af (n:=s*w) (by omega) (by omega),Af (n:=s*w+k) (by omega) (by omega)]
 have:=Fi h.ni (i:=s*w+k) (by omega)
 exact⟨rfl,by omega,by omega,by omega,by omega⟩
abbrev RcD:=Int×DT×List Int
theorem Afg(h:DOk c w n t e)(hN:2000000<N){k:Int}{l:List Int}(k0:0<=k)(k1:k<l.length)(hl:SOk t.length l):Ret (λ R q=>F.uh (R:=R) N N ((k,0),(c,w,n,t,e),l) q) (λ o=>o.1=k/\o.2.1=(c,w,n,t,e)/\SOk t.length o.2.2/\l.length<=o.2.2.length):=by
 have t1:=h.t1
 have w0:=h.w0
 have w1:=h.w1
 have cl:=h.cl
 refine rO (s:=λ R=>F.eu (R:=R) N) (λ y:(Int×Int)×DT×List Int=>y.1.1=k/\0<=y.1.2/\y.1.2<=w/\y.2.1=(c,w,n,t,e)/\SOk t.length y.2.2/\l.length<=y.2.2.length) (λ y=>(w-y.1.2).toNat) ?_ N _ ⟨rfl,by simp,by dsimp only;omega,rfl,hl,zY _⟩ (by dsimp only;omega)
 rintro⟨⟨k',j⟩,⟨c',w',n',t',e'⟩,m⟩ ⟨g1,j0,j1,g2,hm,hle⟩
 dsimp only at g1 j0 j1 g2 hm hle
 obtain⟨rfl,rfl,rfl,rfl,rfl⟩:=by simpa only[zA] using g2
 subst g1
 simp only[F.eu]
 refine rB (λ x=> ?_) λ x=>rL (.inr _) ⟨rfl,rfl,hm,hle⟩ λ _ _=>rfl
 have x:j<w':=by simpa using x
 have hml:=hm.le
 have hs:=Fi hm.2 (i:=k') (by omega)
 obtain⟨q1,q2,q3,q4,q5⟩:=h.go hs.1 hs.2 j0 x
 rw[q1,Af (n:=j+1) (by omega) (by omega)]
 have nxt:∀m',SOk t'.length m'->l.length<=m'.length->Sm (λ y:(Int×Int)×DT×List Int=>y.1.1=k'/\0<=y.1.2/\y.1.2<=w'/\y.2.1=(c',w',n',t',e')/\SOk t'.length y.2.2/\l.length<=y.2.2.length) (λ y=>(w'-y.1.2).toNat) ((k',j),(c',w',n',t',e'),m) (λ o:RcD=>o.1=k'/\o.2.1=(c',w',n',t',e')/\SOk t'.length o.2.2/\l.length<=o.2.2.length) (.inl ((k',j+1),(c',w',n',t',e'),m')):=λ m' a b=>⟨⟨rfl,by dsimp only;omega,by dsimp only;omega,rfl,a,b⟩,by dsimp only;omega⟩
 refine rD (place c' j (by omega) hN) λ v hv=>rC (Ae k0 (by omega)) (rC (Ae q2 q3) (rB (λ _=>rD (place m _ (by omega) hN) λ u hu=>rB (λ y=>rC (Bg (by simp only[z9,z8];omega) (by omega)) (rL (.inl _) (nxt _ (hm.snoc ?_ q4 q5) (by simp only[zB];omega)) λ _ _=>rfl)) λ _=>rL (.inl _) (nxt m hm hle) λ _ _=>rfl) λ _=>rL (.inl _) (nxt m hm hle) λ _ _=>rfl))
 have y:u<0:=by simpa using y
 exact(hu.resolve_right (by omega)).2
theorem Aro(h:DOk c w n t e)(hN:2000000<N):Ret (λ R k=>F.qu (R:=R) N (c,w,n,t,e) k) (λ o=>SOk t.length o/\1<=o.length):=by
 have t0:=h.t0
 have t1:=h.t1
 simp only[F.qu]
 have L0:=rO (s:=λ R=>F.ew (R:=R) N) (app:=λ _ d k=>k d) (P:=λ o:List Int=>SOk t.length o/\1<=o.length) (λ y:RcD=>0<=y.1/\y.1<=y.2.2.length/\y.2.1=(c,w,n,t,e)/\SOk t.length y.2.2/\1<=y.2.2.length) (λ y=>((t.length:Int)-y.1).toNat) (λ y hy=>by
  obtain⟨j,⟨c',w',n',t',e'⟩,m⟩:=y
  obtain⟨j0,j1,g2,hm,h1⟩:=hy
  dsimp only at j0 j1 g2 hm h1
  obtain⟨rfl,rfl,rfl,rfl,rfl⟩:=by simpa only[zA] using g2
  simp only[F.ew]
  refine rB (λ x=>rD (Afg h hN j0 (by simpa using x) hm) ?_) λ x=>rL (.inr _) ⟨hm,h1⟩ λ _ _=>rfl
  have x:j<m.length:=by simpa using x
  have hml:=hm.le
  rintro⟨j',⟨c,w,n,t,e⟩,m'⟩ ⟨g1,g2,hm',hle⟩
  dsimp only at g1 g2 hm' hle⊢
  obtain⟨rfl,rfl,rfl,rfl,rfl⟩:=by simpa only[zA] using g2
  subst g1
  rw[Af (n:=j'+1) (by omega) (by omega)]
  exact rL (.inl _) ⟨⟨by dsimp only;omega,by dsimp only;omega,rfl,hm',by dsimp only;omega⟩,by dsimp only;omega⟩ λ _ _=>rfl) N (0,(c,w,n,t,e),[0]) ⟨by simp,by simp,rfl,⟨by simp,λ x hx=>by cases List.mem_singleton.1 hx;omega⟩,by simp⟩ (by dsimp only;omega)
 exact rD L0 λ o ho=>rL o ho λ _ _=>rfl
abbrev Mat:=List (List Bool)
def cell(m:Mat)(i j:Nat):Bool:=zE (zE m i []) j false
structure Ra(k:Nat)(m:Mat):Prop where
 len:m.length=k
 row:∀i,i<k->(zE m i []).length=k
 dia:∀i,i<k->cell m i i=false
def fc(m:Mat):Nat:=(m.map λ r=>r.count false).sum
theorem Ahj:∀(l:List Nat) (i:Nat) (h:i<l.length) (v:Nat),(l.set i v).sum+l[i]=l.sum+v
 | a::l,0,_,v=>by simp;omega
 | a::l,i+1,h,v=>by
  have:=Ahj l i (by simpa using h) v
  simp only[List.set_cons_succ,List.sum_cons,List.getElem_cons_succ]
  omega
def put(m:Mat)(x y:Nat):Mat:=m.set x ((zE m x []).set y true)
theorem Ag6{m:Mat}{x y i:Nat}:zE (put m x y) i []=if x=i/\x<m.length then(zE m x []).set y true else zE m i []:=by
 simp only[put,List.getD_eq_getElem?_getD,List.getElem?_set]
 by_cases h:x=i
 ·subst h
  by_cases h2:x<m.length
  ·simp[h2]
  ·simp[h2]
 ·simp[h]
theorem Am9{m:Mat}{x y i j:Nat}(h:¬(x=i/\y=j)):cell (put m x y) i j=cell m i j:=by
 simp only[cell,Ag6]
 split
 ·rename_i q
  obtain⟨rfl,q⟩:=q
  simp only[List.getD_eq_getElem?_getD,List.getElem?_set]
  rw[if_neg (by omega)]
 ·rfl
theorem Ra.put{k:Nat}{m:Mat}(h:Ra k m){x y:Nat}(ne:x≠y):Ra k (put m x y):=by
 refine⟨by simp only[Pure.put,zP];exact h.len,λ i hi=> ?_,λ i hi=> ?_⟩
 ·rw[Ag6]
  split
  ·rename_i q
   rw[zP,q.1];exact h.row i hi
  ·exact h.row i hi
 ·rw[Am9 (by omega)];exact h.dia i hi
theorem Av5{k:Nat}{m:Mat}(h:Ra k m){x y:Nat}(hx:x<k)(hy:y<k):fc (put m x y)<=fc m/\(cell m x y=false->fc (put m x y)<fc m):=by
 have hxl:x<m.length:=by rw[h.len];exact hx
 have hr:zE m x []=m[x]:=by rw[List.getD_eq_getElem?_getD,List.getElem?_eq_getElem hxl];rfl
 have hyl:y<m[x].length:=by rw[<-hr,h.row x hx];exact hy
 have hc:cell m x y=m[x][y]:=by rw[cell,hr,List.getD_eq_getElem?_getD,List.getElem?_eq_getElem hyl];rfl
 have e:=Ahj (m.map λ r=>r.count false) x (by rw[xK];exact hxl) ((m[x].set y true).count false)
 rw[List.getElem_map,xP hyl] at e
 have e2:fc (Pure.put m x y)=((m.map λ r=>r.count false).set x ((m[x].set y true).count false)).sum:=by rw[fc,Pure.put,hr,List.map_set]
 have p:m[x][y]=false->1<=m[x].count false:=λ q=>List.count_pos_iff.2 (by rw[<-q];exact zC _)
 rw[xP hyl] at e2
 rw[e2,hc,fc]
 cases q:m[x][y]
 ·have:=p q
  simp only[q,beq_self_eq_true,if_true] at e⊢
  simp at e⊢
  omega
 ·simp only[q] at e⊢
  simp at e⊢
  omega
end
abbrev ApE(c:List Int)(w:Int)(n t e:List Int)(L:List Int)(pl us:List Int):Prop:=pl.length=t.length/\(∀x∈pl,0<=x/\x<L.length)/\us.length<=256/\∀x∈us,0<=x/\x<w
theorem On{m:List Bool}{i:Nat}(h:i<m.length)(z:Bool):zE m i z=m[i]:=by rw[List.getD_eq_getElem?_getD,List.getElem?_eq_getElem h];rfl
section
variable{c n t e:List Int}{w:Int}{N:Nat}{L:List Int}
theorem Aju(h:DOk c w n t e)(hN:2000000<N)(hL:SOk t.length L)(h1:1<=L.length):Ret (λ R q=>F.vz (R:=R) N N ((L,(L.length:Int),L,(L.length:Int),0),(c,w,n,t,e),zU t.length (0:Int)) q) (λ o=>o.1=(L,(L.length:Int))/\o.2.1=(c,w,n,t,e)/\o.2.2.length=t.length/\∀x∈o.2.2,0<=x/\x<L.length):=by
 have hl:=hL.le
 have t1:=h.t1
 refine rO (s:=λ R=>F.js (R:=R) N) (λ y:(List Int×Int×List Int×Int×Int)×DT×List Int=>(y.1.1,y.1.2.1)=(L,(L.length:Int))/\y.1.2.2.1=L/\y.1.2.2.2.1=L.length/\0<=y.1.2.2.2.2/\y.1.2.2.2.2<=L.length/\y.2.1=(c,w,n,t,e)/\y.2.2.length=t.length/\∀x∈y.2.2,0<=x/\x<L.length) (λ y=>((L.length:Int)-y.1.2.2.2.2).toNat) ?_ N _ ⟨rfl,rfl,rfl,by simp,by simp,rfl,zO,λ x hx=>by have:=yG hx;omega⟩ (by dsimp only;omega)
 rintro⟨⟨a,b,l,k,j⟩,d,pl⟩ ⟨g1,g2,g3,j0,j1,g4,hp,hx⟩
 dsimp only at g1 g2 g3 j0 j1 g4 hp hx
 subst g2 g3 g4
 simp only[F.js]
 refine rB (λ x=> ?_) λ x=>rL (.inr _) ⟨g1,rfl,hp,hx⟩ λ _ _=>rfl
 have x:j<l.length:=by simpa using x
 have hs:=Fi hL.2 (i:=j) (by omega)
 rw[Af (n:=j+1) (by omega) (by omega)]
 refine rC (Ae j0 x) (rC (Ae hs.1 (by omega)) (rL (.inl _) ⟨⟨g1,rfl,rfl,by dsimp only;omega,by dsimp only;omega,rfl,by simp only[zP];exact hp,λ y hy=> ?_⟩,by dsimp only;omega⟩ λ _ _=>rfl))
 rcases yC hy with hy|rfl
 ·exact hx y hy
 ·exact⟨j0,x⟩
theorem Ajv(h:DOk c w n t e)(hN:2000000<N){a b:Int}{pl:List Int}:Ret (λ R q=>F.wa (R:=R) N N ((L,a,0),(c,w,n,t,e),pl,[]) q) (λ o=>o.1=(L,a)/\o.2.1=(c,w,n,t,e)/\o.2.2.1=pl/\o.2.2.2.length<=256/\∀x∈o.2.2.2,0<=x/\x<w):=by
 have w0:=h.w0
 have w1:=h.w1
 have cl:=h.cl
 refine rO (s:=λ R=>F.jt (R:=R) N) (λ y:(List Int×Int×Int)×DT×List Int×List Int=>(y.1.1,y.1.2.1)=(L,a)/\0<=y.1.2.2/\y.1.2.2<=w/\y.2.1=(c,w,n,t,e)/\y.2.2.1=pl/\(y.2.2.2.length:Int)<=y.1.2.2/\∀x∈y.2.2.2,0<=x/\x<w) (λ y=>(w-y.1.2.2).toNat) ?_ N _ ⟨rfl,by simp,by dsimp only;omega,rfl,rfl,by simp,λ x hx=>absurd hx (by simp)⟩ (by dsimp only;omega)
 rintro⟨⟨l,b',j⟩,⟨c',w',n',t',e'⟩,p,us⟩ ⟨g1,j0,j1,g2,g3,hu,hx⟩
 dsimp only at g1 j0 j1 g2 g3 hu hx
 obtain⟨rfl,rfl,rfl,rfl,rfl⟩:=by simpa only[zA] using g2
 subst g3
 simp only[F.jt]
 refine rB (λ x=> ?_) λ x=>rL (.inr _) ⟨g1,rfl,rfl,by dsimp only;omega,hx⟩ λ _ _=>rfl
 have x:j<w':=by simpa using x
 rw[Af (n:=j+1) (by omega) (by omega)]
 refine rD (place c' j (by omega) hN) λ v _=>rB (λ _=>rC (Bg (by simp only[z9,z8];omega) (by omega)) (rL (.inl _) ⟨⟨g1,by dsimp only;omega,by dsimp only;omega,rfl,rfl,by simp only[zB,z9,z8];omega,λ y hy=> ?_⟩,by dsimp only;omega⟩ λ _ _=>rfl)) λ _=>rL (.inl _) ⟨⟨g1,by dsimp only;omega,by dsimp only;omega,rfl,rfl,by dsimp only;omega,hx⟩,by dsimp only;omega⟩ λ _ _=>rfl
 rcases List.mem_append.1 hy with hy|hy
 ·exact hx y hy
 ·cases List.mem_singleton.1 hy;exact⟨j0,x⟩
theorem Ajx(h:DOk c w n t e)(hN:2000000<N)(hL:SOk t.length L){x:Int}{pl us:List Int}{m:Mat}(x0:0<=x)(x1:x<L.length):Ret (λ R q=>F.wb (R:=R) N N ((L,(L.length:Int),x,0),(c,w,n,t,e),pl,us,m,zU L.length false) q) (λ o=>o.1=(L,(L.length:Int),x)/\o.2.1=(c,w,n,t,e)/\o.2.2.1=pl/\o.2.2.2.1=us/\o.2.2.2.2.1=m/\o.2.2.2.2.2.length=L.length/\zE o.2.2.2.2.2 x.toNat false=false):=by
 have hl:=hL.le
 have t1:=h.t1
 have el:=h.el
 refine rO (s:=λ R=>F.ju (R:=R) N) (λ y:(List Int×Int×Int×Int)×DT×List Int×List Int×Mat×List Bool=>y.1.1=L/\y.1.2.1=L.length/\y.1.2.2.1=x/\0<=y.1.2.2.2/\y.1.2.2.2<=L.length/\y.2.1=(c,w,n,t,e)/\y.2.2.1=pl/\y.2.2.2.1=us/\y.2.2.2.2.1=m/\y.2.2.2.2.2.length=L.length/\zE y.2.2.2.2.2 x.toNat false=false) (λ y=>((L.length:Int)-y.1.2.2.2).toNat) ?_ N _ ⟨rfl,rfl,rfl,by simp,by simp,rfl,rfl,rfl,rfl,zO,by rw[On (by simp;omega)];simp⟩ (by dsimp only;omega)
 rintro⟨⟨l,k,x',j⟩,⟨c',w',n',t',e'⟩,p,u,m',r⟩ ⟨g1,g2,g3,j0,j1,g4,g5,g6,g7,hr,hd⟩
 dsimp only at g1 g2 g3 j0 j1 g4 g5 g6 g7 hr hd
 obtain⟨rfl,rfl,rfl,rfl,rfl⟩:=by simpa only[zA] using g4
 subst g1 g2 g3 g5 g6 g7
 simp only[F.ju]
 refine rB (λ y=> ?_) λ y=>rL (.inr _) ⟨rfl,rfl,rfl,rfl,rfl,hr,hd⟩ λ _ _=>rfl
 have y:j<l.length:=by simpa using y
 have s1:=Fi hL.2 (i:=x') (by omega)
 have s2:=Fi hL.2 (i:=j) (by omega)
 rw[Af (n:=j+1) (by omega) (by omega)]
 have nxt:∀b:Bool,(j=x'->b=false)->RetK (K:=λ R=>(((List Int×Int×Int×Int)×DT×List Int×List Int×Mat×List Bool)->Option R)×(((List Int×Int×Int)×DT×List Int×List Int×Mat×List Bool)->Option R)) (aS λ _ d k=>k d) (λ R q=>chk (inB j r.length)<|q.1 ((l,(l.length:Int),x',j+1),(c',w',n',t',e'),p,u,m',r.set j.toNat b)) (Sm (λ y:(List Int×Int×Int×Int)×DT×List Int×List Int×Mat×List Bool=>y.1.1=l/\y.1.2.1=l.length/\y.1.2.2.1=x'/\0<=y.1.2.2.2/\y.1.2.2.2<=l.length/\y.2.1=(c',w',n',t',e')/\y.2.2.1=p/\y.2.2.2.1=u/\y.2.2.2.2.1=m'/\y.2.2.2.2.2.length=l.length/\zE y.2.2.2.2.2 x'.toNat false=false) (λ y=>((l.length:Int)-y.1.2.2.2).toNat) ((l,(l.length:Int),x',j),(c',w',n',t',e'),p,u,m',r) (λ o=>o.1=(l,(l.length:Int),x')/\o.2.1=(c',w',n',t',e')/\o.2.2.1=p/\o.2.2.2.1=u/\o.2.2.2.2.1=m'/\o.2.2.2.2.2.length=l.length/\zE o.2.2.2.2.2 x'.toNat false=false)):=λ b hb=>
  rC (Ae j0 (by omega)) (rL (.inl _) ⟨⟨rfl,rfl,rfl,by dsimp only;omega,by dsimp only;omega,rfl,rfl,rfl,rfl,by simp only[zP];exact hr,by
   dsimp only
   rw[On (by rw[zP];omega),List.getElem_set]
   split
   ·exact hb (by omega)
   ·rw[On (by omega)] at hd;exact hd⟩,by dsimp only;omega⟩ λ _ _=>rfl)
 exact rC (Ae x0 x1) (rC (Ae s1.1 s1.2) (rC (Ae j0 y) (rC (Ae s2.1 s2.2) (rB (λ q=>nxt true λ e=>by rw[e] at q;simp at q) λ _=>rC (Ae x0 x1) (rC (Ae s1.1 (by omega)) (rC (Ae j0 y) (rC (Ae s2.1 (by omega)) (nxt _ λ e=>by rw[e];simp))))))))
theorem Ajw(h:DOk c w n t e)(hN:2000000<N)(hL:SOk t.length L){pl us:List Int}:Ret (λ R q=>F.wc (R:=R) N N ((L,(L.length:Int),0),(c,w,n,t,e),pl,us,[]) q) (λ o=>o.1=(L,(L.length:Int))/\o.2.1=(c,w,n,t,e)/\o.2.2.1=pl/\o.2.2.2.1=us/\Ra L.length o.2.2.2.2):=by
 have hl:=hL.le
 have t1:=h.t1
 refine rO (s:=λ R=>F.jv (R:=R) N) (λ y:(List Int×Int×Int)×DT×List Int×List Int×Mat=>y.1.1=L/\y.1.2.1=L.length/\0<=y.1.2.2/\y.1.2.2<=L.length/\y.2.1=(c,w,n,t,e)/\y.2.2.1=pl/\y.2.2.2.1=us/\(y.2.2.2.2.length:Int)=y.1.2.2/\∀i,i<y.2.2.2.2.length->(zE y.2.2.2.2 i []).length=L.length/\cell y.2.2.2.2 i i=false) (λ y=>((L.length:Int)-y.1.2.2).toNat) ?_ N _ ⟨rfl,rfl,by simp,by simp,rfl,rfl,rfl,by simp,λ i hi=>absurd hi (by simp)⟩ (by dsimp only;omega)
 rintro⟨⟨l,k,j⟩,⟨c',w',n',t',e'⟩,p,u,m⟩ ⟨g1,g2,j0,j1,g4,g5,g6,hm,hi⟩
 dsimp only at g1 g2 j0 j1 g4 g5 g6 hm hi
 obtain⟨rfl,rfl,rfl,rfl,rfl⟩:=by simpa only[zA] using g4
 subst g1 g2 g5 g6
 simp only[F.jv]
 refine rB (λ y=> ?_) λ y=>rL (.inr _) ⟨rfl,rfl,rfl,rfl, ?_⟩ λ _ _=>rfl
 ·have y:j<l.length:=by simpa using y
  rw[zG]
  refine rC (by simp) (rC (by rw[xO];simp only[Ar];omega) (rD (Ajx h hN hL j0 y) ?_))
  rintro⟨⟨a,b,x⟩,⟨c,w,n,t,e⟩,p',u',m',r⟩ ⟨g1,g2,h3,h4,h5,hr,hd⟩
  dsimp only at g1 g2 h3 h4 h5 hr hd⊢
  obtain⟨rfl,rfl,rfl⟩:=by simpa only[zA] using g1
  obtain⟨rfl,rfl,rfl,rfl,rfl⟩:=by simpa only[zA] using g2
  subst h3 h4 h5
  rw[Af (n:=x+1) (by omega) (by omega)]
  refine rC (Uh (by simp only[z9,z8];omega)) (rL (.inl _) ⟨⟨rfl,rfl,by dsimp only;omega,by dsimp only;omega,rfl,rfl,rfl,by simp only[zB,z9,z8];omega,λ i hi2=> ?_⟩,by dsimp only;omega⟩ λ _ _=>rfl)
  simp only[zB,z9,z8] at hi2
  by_cases q:i<m'.length
  ·have e1:zE (m'++[r]) i []=zE m' i []:=by rw[List.getD_eq_getElem?_getD,List.getElem?_append_left q,List.getD_eq_getElem?_getD]
   simp only[cell,e1]
   exact hi i q
  ·have e0:i=m'.length:=by omega
   have e1:zE (m'++[r]) i []=r:=by rw[e0,List.getD_eq_getElem?_getD,List.getElem?_append_right (zY _)];simp
   simp only[cell,e1]
   refine⟨hr, ?_⟩
   rw[show i=x.toNat by omega]
   exact hd
 ·have y:¬j<l.length:=by simpa using y
  exact⟨by dsimp only;omega,λ i hi2=>(hi i (by omega)).1,λ i hi2=>(hi i (by omega)).2⟩
def Aau(k f:Nat)(g:Bool)(m:Mat):Prop:=Ra k m/\fc m<=f/\(g=true->fc m<f)
abbrev Ax9:=(List Int×Int×Bool×Int×Int×Int×Int)×DT×List Int×List Int×Mat
abbrev Ax8:=(List Int×Int×Bool×Int×Int)×DT×List Int×List Int×Mat
abbrev Ax7:=(List Int×Int×Bool×Int)×DT×List Int×List Int×Mat
abbrev A8D:=(List Int×Int×Bool)×DT×List Int×List Int×Mat
theorem Ah4(h:DOk c w n t e)(hN:2000000<N)(hL:SOk t.length L){pl us:List Int}(hE:ApE c w n t e L pl us){f:Nat}{g:Bool}{m:Mat}{x y:Int}(x0:0<=x)(x1:x<L.length)(y0:0<=y)(y1:y<L.length)(hc:cell m x.toNat y.toNat=false)(hP:Aau L.length f g m):Ret (λ R q=>F.vc (R:=R) N N ((L,(L.length:Int),g,x,y,(us.length:Int),0),(c,w,n,t,e),pl,us,m) q) (λ o=>(o.1.1,o.1.2.1,o.1.2.2.2)=(L,(L.length:Int),x,y)/\o.2.1=(c,w,n,t,e)/\o.2.2.1=pl/\o.2.2.2.1=us/\Aau L.length f o.1.2.2.1 o.2.2.2.2):=by
 have hl:=hL.le
 have t1:=h.t1
 obtain⟨hp1,hp2,hu1,hu2⟩:=hE
 refine rO (s:=λ R=>F.ig (R:=R) N) (λ z:Ax9=>z.1.1=L/\z.1.2.1=L.length/\z.1.2.2.2.1=x/\z.1.2.2.2.2.1=y/\z.1.2.2.2.2.2.1=us.length/\0<=z.1.2.2.2.2.2.2/\z.1.2.2.2.2.2.2<=us.length/\z.2.1=(c,w,n,t,e)/\z.2.2.1=pl/\z.2.2.2.1=us/\Aau L.length f z.1.2.2.1 z.2.2.2.2/\(cell z.2.2.2.2 x.toNat y.toNat=false\/z.1.2.2.1=true)) (λ z=>((us.length:Int)-z.1.2.2.2.2.2.2).toNat) ?_ N _ ⟨rfl,rfl,rfl,rfl,rfl,by simp,by simp,rfl,rfl,rfl,hP,.inl hc⟩ (by dsimp only;omega)
 rintro⟨⟨l,k,g',x',y',ul,j⟩,⟨c',w',n',t',e'⟩,p,u,m'⟩ ⟨g1,g2,g3,g4,g5,j0,j1,g6,g7,g8,hP',hc'⟩
 dsimp only at g1 g2 g3 g4 g5 j0 j1 g6 g7 g8 hP' hc'
 obtain⟨rfl,rfl,rfl,rfl,rfl⟩:=by simpa only[zA] using g6
 subst g1 g2 g3 g4 g7 g8 g5
 simp only[F.ig]
 refine rB (λ q=> ?_) λ q=>rL (.inr _) ⟨rfl,rfl,rfl,rfl,hP'⟩ λ _ _=>rfl
 have q:j<u.length:=by simpa using q
 obtain⟨hM,hf,hg⟩:=hP'
 have s1:=Fi hL.2 (i:=x') (by omega)
 have s2:=Fi hL.2 (i:=y') (by omega)
 have k1:=Fi hu2 (i:=j) (by omega)
 obtain⟨a1,a2,a3,a4,a5⟩:=h.go s1.1 s1.2 k1.1 k1.2
 obtain⟨b1,b2,b3,b4,b5⟩:=h.go s2.1 s2.2 k1.1 k1.2
 have p1:=Fi hp2 (i:=zE n' (zE l x'.toNat 0*w'+zE u j.toNat 0).toNat 0) (by omega)
 have p2:=Fi hp2 (i:=zE n' (zE l y'.toNat 0*w'+zE u j.toNat 0).toNat 0) (by omega)
 have r1:=hM.row (zE p (zE n' (zE l x'.toNat 0*w'+zE u j.toNat 0).toNat 0).toNat 0).toNat (by omega)
 have r2:=hM.row x'.toNat (by omega)
 have ml:=hM.len
 rw[a1,b1,Af (n:=j+1) (by omega) (by omega)]
 refine rC (Ae j0 q) (rC (Ae x0 x1) (rC (Ae a2 a3) (rC (Ae a4 (by omega)) (rC (Ae y0 y1) (rC (Ae b2 b3) (rC (Ae b4 (by omega)) (rC (Ae p1.1 (by omega)) (rC (Ae p2.1 (by omega)) (rB (λ v=>rC (Ae x0 (by omega)) (rC (Ae y0 (by omega)) ?_)) λ v=>rL (.inl _) ⟨⟨rfl,rfl,rfl,rfl,rfl,by dsimp only;omega,by dsimp only;omega,rfl,rfl,rfl,⟨hM,hf,hg⟩,hc'⟩,by dsimp only;omega⟩ λ _ _=>rfl)))))))))
 have ne:x'.toNat≠y'.toNat:=λ e=>by
  have e:x'=y':=by omega
  subst e
  have:=hM.dia (zE p (zE n' (zE l x'.toNat 0*w'+zE u j.toNat 0).toNat 0).toNat 0).toNat (by omega)
  rw[cell] at this
  exact absurd (v.symm.trans this) (by decide)
 obtain⟨f1,f2⟩:=Av5 hM (x:=x'.toNat) (y:=y'.toNat) (by omega) (by omega)
 have f3:fc (put m' x'.toNat y'.toNat)<f:=by
  rcases hc' with hc'|hc'
  ·have:=f2 hc';omega
  ·have:=hg hc';omega
 exact rL (.inl _) ⟨⟨rfl,rfl,rfl,rfl,rfl,by dsimp only;omega,by dsimp only;omega,rfl,rfl,rfl,⟨hM.put ne,Nat.le_of_lt f3,λ _=>f3⟩,.inr rfl⟩,by dsimp only;omega⟩ λ _ _=>rfl
theorem Ah3(h:DOk c w n t e)(hN:2000000<N)(hL:SOk t.length L){pl us:List Int}(hE:ApE c w n t e L pl us){f:Nat}{g:Bool}{m:Mat}{x:Int}(x0:0<=x)(x1:x<L.length)(hP:Aau L.length f g m):Ret (λ R q=>F.vd (R:=R) N N ((L,(L.length:Int),g,x,0),(c,w,n,t,e),pl,us,m) q) (λ o=>(o.1.1,o.1.2.1,o.1.2.2.2)=(L,(L.length:Int),x)/\o.2.1=(c,w,n,t,e)/\o.2.2.1=pl/\o.2.2.2.1=us/\Aau L.length f o.1.2.2.1 o.2.2.2.2):=by
 have hl:=hL.le
 have t1:=h.t1
 refine rO (s:=λ R=>F.ii (R:=R) N) (λ z:Ax8=>z.1.1=L/\z.1.2.1=L.length/\z.1.2.2.2.1=x/\0<=z.1.2.2.2.2/\z.1.2.2.2.2<=L.length/\z.2.1=(c,w,n,t,e)/\z.2.2.1=pl/\z.2.2.2.1=us/\Aau L.length f z.1.2.2.1 z.2.2.2.2) (λ z=>((L.length:Int)-z.1.2.2.2.2).toNat) ?_ N _ ⟨rfl,rfl,rfl,by simp,by simp,rfl,rfl,rfl,hP⟩ (by dsimp only;omega)
 rintro⟨⟨l,k,g',x',y⟩,⟨c',w',n',t',e'⟩,p,u,m'⟩ ⟨g1,g2,g3,j0,j1,g6,g7,g8,hP'⟩
 dsimp only at g1 g2 g3 j0 j1 g6 g7 g8 hP'
 obtain⟨rfl,rfl,rfl,rfl,rfl⟩:=by simpa only[zA] using g6
 subst g1 g2 g3 g7 g8
 simp only[F.ii]
 refine rB (λ q=> ?_) λ q=>rL (.inr _) ⟨rfl,rfl,rfl,rfl,hP'⟩ λ _ _=>rfl
 have q:y<l.length:=by simpa using q
 have ml:=hP'.1.len
 have r2:=hP'.1.row x'.toNat (by omega)
 rw[Af (n:=y+1) (by omega) (by omega)]
 refine rC (Ae x0 (by omega)) (rC (Ae j0 (by omega)) (rB (λ v=>rL (.inl _) ⟨⟨rfl,rfl,rfl,by dsimp only;omega,by dsimp only;omega,rfl,rfl,rfl,hP'⟩,by dsimp only;omega⟩ λ _ _=>rfl) λ v=>rD (Ah4 h hN hL hE x0 x1 j0 q v hP') ?_))
 rintro⟨⟨a,b,g2,x2,y2⟩,⟨c,w,n,t,e⟩,p',u',m2⟩ ⟨g1,g2,g3,g4,hP2⟩
 dsimp only at g1 g2 g3 g4 hP2⊢
 obtain⟨rfl,rfl,rfl,rfl⟩:=by simpa only[zA] using g1
 obtain⟨rfl,rfl,rfl,rfl,rfl⟩:=by simpa only[zA] using g2
 subst g3 g4
 rw[Af (n:=y2+1) (by omega) (by omega)]
 exact rL (.inl _) ⟨⟨rfl,rfl,rfl,by dsimp only;omega,by dsimp only;omega,rfl,rfl,rfl,hP2⟩,by dsimp only;omega⟩ λ _ _=>rfl
theorem Ah2(h:DOk c w n t e)(hN:2000000<N)(hL:SOk t.length L){pl us:List Int}(hE:ApE c w n t e L pl us){m:Mat}(hM:Ra L.length m):Ret (λ R q=>F.ve (R:=R) N N ((L,(L.length:Int),false,0),(c,w,n,t,e),pl,us,m) q) (λ o=>(o.1.1,o.1.2.1)=(L,(L.length:Int))/\o.2.1=(c,w,n,t,e)/\o.2.2.1=pl/\o.2.2.2.1=us/\Aau L.length (fc m) o.1.2.2 o.2.2.2.2):=by
 have hl:=hL.le
 have t1:=h.t1
 refine rO (s:=λ R=>F.ik (R:=R) N) (λ z:Ax7=>z.1.1=L/\z.1.2.1=L.length/\0<=z.1.2.2.2/\z.1.2.2.2<=L.length/\z.2.1=(c,w,n,t,e)/\z.2.2.1=pl/\z.2.2.2.1=us/\Aau L.length (fc m) z.1.2.2.1 z.2.2.2.2) (λ z=>((L.length:Int)-z.1.2.2.2).toNat) ?_ N _ ⟨rfl,rfl,by simp,by simp,rfl,rfl,rfl,hM,zY _,λ q=>by cases q⟩ (by dsimp only;omega)
 rintro⟨⟨l,k,g',x⟩,⟨c',w',n',t',e'⟩,p,u,m'⟩ ⟨g1,g2,j0,j1,g6,g7,g8,hP'⟩
 dsimp only at g1 g2 j0 j1 g6 g7 g8 hP'
 obtain⟨rfl,rfl,rfl,rfl,rfl⟩:=by simpa only[zA] using g6
 subst g1 g2 g7 g8
 simp only[F.ik]
 refine rB (λ q=>rD (Ah3 h hN hL hE j0 (by simpa using q) hP') ?_) λ q=>rL (.inr _) ⟨rfl,rfl,rfl,rfl,hP'⟩ λ _ _=>rfl
 have q:x<l.length:=by simpa using q
 rintro⟨⟨a,b,g2,x2⟩,⟨c,w,n,t,e⟩,p',u',m2⟩ ⟨g1,g2,g3,g4,hP2⟩
 dsimp only at g1 g2 g3 g4 hP2⊢
 obtain⟨rfl,rfl,rfl⟩:=by simpa only[zA] using g1
 obtain⟨rfl,rfl,rfl,rfl,rfl⟩:=by simpa only[zA] using g2
 subst g3 g4
 rw[Af (n:=x2+1) (by omega) (by omega)]
 exact rL (.inl _) ⟨⟨rfl,rfl,by dsimp only;omega,by dsimp only;omega,rfl,rfl,rfl,hP2⟩,by dsimp only;omega⟩ λ _ _=>rfl
theorem Axq{k:Nat}{m:Mat}(h:Ra k m)(hk:k<=4000):fc m<=16000000:=by
 have:∀l:Mat,(∀r∈l,r.length=k)->fc l<=l.length*4000:=by
  intro l
  induction l with
  | nil=>intro _;simp[fc]
  | cons r l ih=>
   intro hr
   have h1:=ih λ r hr2=>hr r (yV _ hr2)
   have h2:r.count false<=r.length:=yW
   have h3:=hr r xA
   have e:fc (r::l)=r.count false+fc l:=rfl
   rw[e,z9,Nat.succ_mul]
   omega
 have h2:=this m λ r hr=>by
  obtain⟨i,hi,rfl⟩:=List.mem_iff_getElem.1 hr
  have:=h.row i (by rw[<-h.len];exact hi)
  rw[List.getD_eq_getElem?_getD,List.getElem?_eq_getElem hi] at this
  exact this
 rw[h.len] at h2
 omega
theorem apart(h:DOk c w n t e)(hN:200000000<N)(hL:SOk t.length L)(h1:1<=L.length):Ret (λ R q=>F.sk (R:=R) N ((c,w,n,t,e),L) q) (λ o=>Ra L.length o):=by
 have hl:=hL.le
 have t1:=h.t1
 simp only[F.sk]
 rw[zG]
 refine rC (by simp) (rC (Bg (by omega) (by omega)) (rD (Aju h (by omega) hL h1) ?_))
 rintro⟨⟨a,b⟩,⟨c',w',n',t',e'⟩,pl⟩ ⟨g1,g2,p1,p2⟩
 dsimp only at g1 g2 p1 p2⊢
 obtain⟨rfl,rfl⟩:=by simpa only[zA] using g1
 obtain⟨rfl,rfl,rfl,rfl,rfl⟩:=by simpa only[zA] using g2
 refine rD (Ajv (b:=0) h (by omega)) ?_
 rintro⟨⟨a',b'⟩,⟨c,w,n,t,e⟩,pl',us⟩ ⟨g1,g2,g3,u1,u2⟩
 dsimp only at g1 g2 g3 u1 u2⊢
 obtain⟨rfl,rfl⟩:=by simpa only[zA] using g1
 obtain⟨rfl,rfl,rfl,rfl,rfl⟩:=by simpa only[zA] using g2
 subst g3
 refine rD (Ajw h (by omega) hL) ?_
 rintro⟨⟨a2,b2⟩,⟨c',w',n',t',e'⟩,pl2,us2,m⟩ ⟨g1,g2,g3,g4,hM⟩
 dsimp only at g1 g2 g3 g4 hM⊢
 obtain⟨rfl,rfl⟩:=by simpa only[zA] using g1
 obtain⟨rfl,rfl,rfl,rfl,rfl⟩:=by simpa only[zA] using g2
 subst g3 g4
 have hE:ApE c' w' n' t' e' a2 pl2 us2:=⟨p1,p2,u1,u2⟩
 have L8:=rO (s:=λ R=>F.jx (R:=R) N) (app:=λ _ d k=>k d) (P:=λ o:Mat=>Ra a2.length o) (λ z:A8D=>z.1.1=a2/\z.1.2.1=a2.length/\z.2.1=(c',w',n',t',e')/\z.2.2.1=pl2/\z.2.2.2.1=us2/\Ra a2.length z.2.2.2.2) (λ z=>if z.1.2.2 then fc z.2.2.2.2+1 else 0) (λ z hz=>by
  obtain⟨⟨a,b,g⟩,⟨c,w,n,t,e⟩,p,u,m'⟩:=z
  obtain⟨g1,g2,g3,g4,g5,hM'⟩:=hz
  dsimp only at g1 g2 g3 g4 g5 hM'
  obtain⟨rfl,rfl,rfl,rfl,rfl⟩:=by simpa only[zA] using g3
  subst g1 g2 g4 g5
  simp only[F.jx]
  refine rB (λ q=>rD (Ah2 h (by omega) hL hE hM') ?_) λ q=>rL (.inr _) hM' λ _ _=>rfl
  rintro⟨⟨a3,b3,g3⟩,⟨c',w',n',t',e'⟩,p',u',m2⟩ ⟨g1,g2,g4,g5,hP⟩
  dsimp only at g1 g2 g4 g5 hP⊢
  obtain⟨rfl,rfl⟩:=by simpa only[zA] using g1
  obtain⟨rfl,rfl,rfl,rfl,rfl⟩:=by simpa only[zA] using g2
  subst g4 g5
  refine rL (.inl _) ⟨⟨rfl,rfl,rfl,rfl,rfl,hP.1⟩, ?_⟩ λ _ _=>rfl
  dsimp only
  rw[q,if_pos rfl]
  split
  ·have:=hP.2.2 ‹_›;omega
  ·omega) N ((a2,(a2.length:Int),true),(c',w',n',t',e'),pl2,us2,m) ⟨rfl,rfl,rfl,rfl,rfl,hM⟩ (by have:=Axq hM (by omega);simp only[if_pos];omega)
 exact rD L8 λ o ho=>rL o ho λ _ _=>rfl
end
abbrev T9:=List Int×List Int×List Int×List Int×List Int×List Int×List Int×List Int×List Int
abbrev M8T:=Int×List Int×List (List Int)×Int×T9
abbrev Axh:=Int×List (List Int)×Int×List Int×T9
theorem Ahc{rows:List (List Int)}{P:List Int->Prop}(h:∀r∈rows,P r){i:Int}(i1:i.toNat<rows.length):P (zE rows i.toNat []):=by
 rw[List.getD_eq_getElem?_getD,List.getElem?_eq_getElem i1];exact h _ (zC _)
section
variable{c n t e:List Int}{w:Int}{N:Nat}{L:List Int}
theorem Arx(hN:2000000<N){d:DT}{z s:Int}{m:Mat}(hM:Ra L.length m){ch a1 a2 a3 a4:List Int}{i nn:Int}(i0:0<=i)(i1:i<L.length)(hl:L.length<=4000):Ret (λ R q=>F.vf (R:=R) N N ((i,s,0,nn,i),d,z,L,m,ch,a1,a2,a3,a4) q) (λ o=>o.1.1=s/\0<=o.1.2.1/\o.1.2.1<L.length/\o.1.2.2=(nn,i)/\o.2=(d,z,L,m,ch,a1,a2,a3,a4)):=by
 have ml:=hM.len
 refine rO (s:=λ R=>F.il (R:=R) N) (λ y=>y.1.1=i/\y.1.2.1=s/\0<=y.1.2.2.1/\y.1.2.2.1<=i/\y.1.2.2.2=(nn,i)/\y.2=(d,z,L,m,ch,a1,a2,a3,a4)) (λ y=>(i-y.1.2.2.1).toNat) ?_ N _ ⟨rfl,rfl,by simp,by dsimp only;omega,rfl,rfl⟩ (by dsimp only;omega)
 rintro⟨⟨i',s',k,nn',i''⟩,⟨c1,c2,c3,c4,c5⟩,z',l',m',ch',b1,b2,b3,b4⟩ ⟨g1,g2,k0,k1,g3,g4⟩
 dsimp only at g1 g2 k0 k1 g3
 simp only[zA] at g3 g4
 obtain⟨rfl,rfl⟩:=g3
 obtain⟨rfl,rfl,rfl,rfl,rfl,rfl,rfl,rfl,rfl⟩:=g4
 subst g1 g2
 simp only[F.il]
 have hr:=hM.row i'.toNat (by omega)
 rw[Af (n:=k+1) (by omega) (by omega)]
 refine rC (Ae i0 (by omega)) (rC (Ae k0 (by omega)) (rB (λ v=> ?_) λ v=>rL (.inr _) ⟨rfl,k0,by dsimp only;omega,rfl,rfl⟩ λ _ _=>rfl))
 have ne:k≠i':=λ q=>by
  have:=hM.dia i'.toNat (by omega)
  rw[q] at v
  exact absurd (v.symm.trans this) (by decide)
 exact rL (.inl _) ⟨⟨rfl,rfl,by dsimp only;omega,by dsimp only;omega,rfl,rfl⟩,by dsimp only;omega⟩ λ _ _=>rfl
theorem Arw(h:DOk c w n t e)(hN:2000000<N)(hL:SOk t.length L){z:Int}{m:Mat}(hM:Ra L.length m){a1 a2 a3 a4:List Int}:Ret (λ R q=>F.vg (R:=R) N N (((L.length:Int),0),(c,w,n,t,e),z,L,m,zU t.length (0:Int),a1,a2,a3,a4) q) (λ o=>o.1=(c,w,n,t,e)/\o.2.2.1.length=t.length/\(∀x∈o.2.2.1,0<=x/\x<t.length)/\o.2.2.2=(a1,a2,a3,a4)):=by
 have hl:=hL.le
 have t0:=h.t0
 have t1:=h.t1
 refine rO (s:=λ R=>F.im (R:=R) N) (λ y=>y.1.1=(L.length:Int)/\0<=y.1.2/\y.1.2<=L.length/\y.2.1=(c,w,n,t,e)/\y.2.2.2.1=L/\y.2.2.2.2.1=m/\y.2.2.2.2.2.1.length=t.length/\(∀x∈y.2.2.2.2.2.1,0<=x/\x<t.length)/\y.2.2.2.2.2.2=(a1,a2,a3,a4)) (λ y=>((L.length:Int)-y.1.2).toNat) ?_ N _ ⟨rfl,by simp,by simp,rfl,rfl,rfl,zO,λ x hx=>by have:=yG hx;omega,rfl⟩ (by dsimp only;omega)
 rintro⟨⟨nn,i⟩,d,z',l,m',ch,b⟩ ⟨g1,i0,i1,g2,g3,g4,hc,hx,g5⟩
 dsimp only at g1 i0 i1 g2 g3 g4 hc hx g5
 subst g1 g2 g3 g4 g5
 simp only[F.im]
 refine rB (λ q=> ?_) λ q=>rL (.inr _) ⟨rfl,hc,hx,rfl⟩ λ _ _=>rfl
 have q:i<l.length:=by simpa using q
 have s1:=Fi hL.2 (i:=i) (by omega)
 refine rC (Ae i0 q) (rD (Arx hN hM i0 q (by omega)) ?_)
 rintro⟨⟨s,k,nn',i'⟩,⟨c1,c2,c3,c4,c5⟩,z2,l2,m2,ch2,b1,b2,b3,b4⟩ ⟨g1,k0,k1,g3,g4⟩
 dsimp only at g1 k0 k1 g3⊢
 simp only[zA] at g3 g4
 obtain⟨rfl,rfl⟩:=g3
 obtain⟨⟨rfl,rfl,rfl,rfl,rfl⟩,rfl,rfl,rfl,rfl,rfl,rfl,rfl,rfl⟩:=g4
 subst g1
 have s2:=Fi hL.2 (i:=k) (by omega)
 rw[Af (n:=i'+1) (by omega) (by omega)]
 refine rC (Ae k0 k1) (rC (Ae s1.1 (by omega)) (rL (.inl _) ⟨⟨rfl,by dsimp only;omega,by dsimp only;omega,rfl,rfl,rfl,by simp only[zP];exact hc,λ y hy=> ?_,rfl⟩,by dsimp only;omega⟩ λ _ _=>rfl))
 rcases yC hy with hy|rfl
 ·exact hx y hy
 ·exact s2
def Kv(k:Nat)(r:List Int):Prop:=r.length=256/\∀x∈r,0<=x/\x<k
theorem Arz(h:DOk c w n t e)(hN:2000000<N){z k:Int}{ch od:List Int}{rows:List (List Int)}{a:List Int×List Int×List Int×List Int}(hc:ch.length=t.length)(hx:∀x∈ch,0<=x/\x<t.length)(ho:SOk t.length od)(k0:0<=k)(k1:k<od.length):Ret (λ R q=>F.vh (R:=R) N N ((k,0),(c,w,n,t,e),z,ch,od,rows,[],a) q) (λ o=>o.1=k/\o.2.1=(c,w,n,t,e)/\o.2.2.2.1=ch/\SOk t.length o.2.2.2.2.1/\od.length<=o.2.2.2.2.1.length/\o.2.2.2.2.2.1=rows/\Kv o.2.2.2.2.1.length o.2.2.2.2.2.2.1/\o.2.2.2.2.2.2.2=a):=by
 have t1:=h.t1
 have cl:=h.cl
 have w0:=h.w0
 refine rO (s:=λ R=>F.io (R:=R) N) (λ y=>y.1.1=k/\0<=y.1.2/\y.1.2<=256/\y.2.1=(c,w,n,t,e)/\y.2.2.2.1=ch/\SOk t.length y.2.2.2.2.1/\od.length<=y.2.2.2.2.1.length/\y.2.2.2.2.2.1=rows/\(y.2.2.2.2.2.2.1.length:Int)=y.1.2/\(∀x∈y.2.2.2.2.2.2.1,0<=x/\x<y.2.2.2.2.1.length)/\y.2.2.2.2.2.2.2=a) (λ y=>(256-y.1.2).toNat) ?_ N _ ⟨rfl,by simp,by simp,rfl,rfl,ho,zY _,rfl,by simp,λ x hx=>absurd hx (by simp),rfl⟩ (by dsimp only;omega)
 rintro⟨⟨k',j⟩,⟨c',w',n',t',e'⟩,z',ch',o,rows',row,a'⟩ ⟨g1,j0,j1,g2,g3,ho',hle,g4,hr,hrx,g5⟩
 dsimp only at g1 j0 j1 g2 g3 ho' hle g4 hr hrx g5
 obtain⟨rfl,rfl,rfl,rfl,rfl⟩:=by simpa only[zA] using g2
 subst g1 g3 g4 g5
 simp only[F.io]
 refine rB (λ q=> ?_) λ q=>rL (.inr _) ⟨rfl,rfl,rfl,ho',hle,rfl,⟨by have:¬j<256:=(by simpa using q);dsimp only;omega,hrx⟩,rfl⟩ λ _ _=>rfl
 have q:j<256:=by simpa using q
 have hol:=ho'.le
 have s1:=Fi ho'.2 (i:=k') (by omega)
 have c1:=Fi h.ci (i:=j) (by omega)
 obtain⟨q1,q2,q3,q4,q5⟩:=h.go s1.1 s1.2 c1.1 (by omega)
 have x1:=Fi hx (i:=zE n' (zE o k'.toNat 0*w'+zE c' j.toNat 0).toNat 0) (by omega)
 have go:Ret (λ R k=>F.we (R:=R) ((c',w',n',t',e'),zE o k'.toNat 0,j) k) (λ r=>r=zE n' (zE o k'.toNat 0*w'+zE c' j.toNat 0).toNat 0):=by
  simp only[F.we]
  rw[q1]
  exact rC (Ae j0 (by omega)) (rC (Ae q2 q3) (rL _ rfl λ _ _=>rfl))
 rw[Af (n:=j+1) (by omega) (by omega)]
 refine rC (Ae k0 (by omega)) (rD go ?_)
 rintro _ rfl
 have fin:∀(o2:List Int) (r:Int),SOk t'.length o2->o.length<=o2.length->0<=r->r<o2.length->RetK (K:=λ R=>(((Int×Int)×DT×Int×List Int×List Int×List (List Int)×List Int×List Int×List Int×List Int×List Int)->Option R)×((Int×DT×Int×List Int×List Int×List (List Int)×List Int×List Int×List Int×List Int×List Int)->Option R)) (aS λ _ d k=>k d) (λ R q=>chk (xS (zW row+zW [r]) (Ar 8))<|q.1 ((k',j+1),(c',w',n',t',e'),z',ch',o2,rows',row++[r],a')) (Sm (λ y=>y.1.1=k'/\0<=y.1.2/\y.1.2<=256/\y.2.1=(c',w',n',t',e')/\y.2.2.2.1=ch'/\SOk t'.length y.2.2.2.2.1/\od.length<=y.2.2.2.2.1.length/\y.2.2.2.2.2.1=rows'/\(y.2.2.2.2.2.2.1.length:Int)=y.1.2/\(∀x∈y.2.2.2.2.2.2.1,0<=x/\x<y.2.2.2.2.1.length)/\y.2.2.2.2.2.2.2=a') (λ y=>(256-y.1.2).toNat) ((k',j),(c',w',n',t',e'),z',ch',o,rows',row,a') (λ o=>o.1=k'/\o.2.1=(c',w',n',t',e')/\o.2.2.2.1=ch'/\SOk t'.length o.2.2.2.2.1/\od.length<=o.2.2.2.2.1.length/\o.2.2.2.2.2.1=rows'/\Kv o.2.2.2.2.1.length o.2.2.2.2.2.2.1/\o.2.2.2.2.2.2.2=a')):=λ o2 r a1 a2 a3 a4=>
  rC (Bg (by simp only[z9,z8];omega) (by omega)) (rL (.inl _) ⟨⟨rfl,by dsimp only;omega,by dsimp only;omega,rfl,rfl,a1,by dsimp only;omega,rfl,by simp only[zB,z9,z8];omega,λ x hx=>by
   rcases List.mem_append.1 hx with hx|hx
   ·have:=hrx x hx;dsimp only;omega
   ·cases List.mem_singleton.1 hx;exact⟨a3,a4⟩,rfl⟩,by dsimp only;omega⟩ λ _ _=>rfl)
 refine rC (Ae q4 (by omega)) (rD (place o _ (by omega) hN) λ v hv=>rB (λ y=> ?_) λ y=> ?_)
 ·have y:v<0:=by simpa using y
  have hs:=ho'.snoc (hv.resolve_right (by omega)).2 x1.1 x1.2
  have hsl:=hs.le
  refine rC (Bg (by simp only[z9,z8];omega) (by omega)) (rD (place _ _ (by omega) hN) λ u hu=> ?_)
  have hu:=hu.resolve_left λ p=>p.2 (by simp)
  exact fin _ u hs (by simp only[zB];omega) hu.1 hu.2.1
 ·have y:¬v<0:=by simpa using y
  refine rD (place o _ (by omega) hN) λ u hu=> ?_
  have hv2:=hv.resolve_left (by omega)
  have hu:=hu.resolve_left λ p=>p.2 hv2.2.2
  exact fin o u ho' (zY _) hu.1 hu.2.1
end
theorem Kv.mono{k m:Nat}{r:List Int}(h:Kv k r)(e:k<=m):Kv m r:=⟨h.1,λ x hx=>by have:=h.2 x hx;omega⟩
section
variable{c n t e:List Int}{w:Int}{N:Nat}
theorem Ary(h:DOk c w n t e)(hN:2000000<N){z s:Int}{ch:List Int}{a:List Int×List Int×List Int×List Int}(hc:ch.length=t.length)(hx:∀x∈ch,0<=x/\x<t.length)(s0:0<=s)(s1:s<t.length):Ret (λ R q=>F.vi (R:=R) N N (0,(c,w,n,t,e),z,ch,[s],[],a) q) (λ o=>o.1=(c,w,n,t,e)/\SOk t.length o.2.2.1/\1<=o.2.2.1.length/\o.2.2.2.1.length=o.2.2.1.length/\(∀r∈o.2.2.2.1,Kv o.2.2.1.length r)/\o.2.2.2.2=a):=by
 have t1:=h.t1
 refine rO (s:=λ R=>F.ip (R:=R) N) (λ y=>0<=y.1/\y.1<=y.2.2.2.2.1.length/\y.2.1=(c,w,n,t,e)/\y.2.2.2.1=ch/\SOk t.length y.2.2.2.2.1/\1<=y.2.2.2.2.1.length/\(y.2.2.2.2.2.1.length:Int)=y.1/\(∀r∈y.2.2.2.2.2.1,Kv y.2.2.2.2.1.length r)/\y.2.2.2.2.2.2=a) (λ y=>((t.length:Int)-y.1).toNat) ?_ N _ ⟨by simp,by simp,rfl,rfl,⟨by simp,λ x hx=>by cases List.mem_singleton.1 hx;exact⟨s0,s1⟩⟩,by simp,by simp,λ r hr=>absurd hr (by simp),rfl⟩ (by dsimp only;omega)
 rintro⟨k,d,z',ch',o,rows,f1,f2,f3,f4⟩ ⟨k0,k1,g1,g2,ho,h1,hr,hrx,g3⟩
 dsimp only at k0 k1 g1 g2 ho h1 hr hrx g3
 subst g1 g2 g3
 simp only[F.ip]
 refine rB (λ q=>rD (Arz h hN hc hx ho k0 (by simpa using q)) ?_) λ q=>rL (.inr _) ⟨rfl,ho,h1,by have:¬k<o.length:=(by simpa using q);dsimp only;omega,hrx,rfl⟩ λ _ _=>rfl
 have q:k<o.length:=by simpa using q
 rintro⟨k',⟨c1,c2,c3,c4,c5⟩,z2,ch2,o2,rows2,row,a1,a2,a3,a4⟩ ⟨g1,g2,g3,ho2,hle,g4,hrow,g5⟩
 dsimp only at g1 g2 g3 ho2 hle g4 hrow g5⊢
 obtain⟨rfl,rfl,rfl,rfl,rfl⟩:=by simpa only[zA] using g2
 obtain⟨rfl,rfl,rfl,rfl⟩:=by simpa only[zA] using g5
 subst g1 g3 g4
 have hol:=ho2.le
 rw[Af (n:=k'+1) (by omega) (by omega)]
 refine rC (Uh (by simp only[z9,z8];omega)) (rL (.inl _) ⟨⟨by dsimp only;omega,by dsimp only;omega,rfl,rfl,ho2,by dsimp only;omega,by simp only[zB,z9,z8];omega,λ r hr2=> ?_,rfl⟩,by dsimp only;omega⟩ λ _ _=>rfl)
 rcases List.mem_append.1 hr2 with hr2|hr2
 ·exact(hrx r hr2).mono hle
 ·cases List.mem_singleton.1 hr2;exact hrow
theorem Anp(hN:2000000<N){K:Nat}{d:DT}{z q ch cls j hd nn k:Int}{sm:Bool}{od hs:List Int}{rows:List (List Int)}{a:List Int×List Int×List Int×List Int×List Int×List Int×List Int×List Int}(hrl:rows.length<=4000)(hr:∀r∈rows,Kv K r)(c0:0<=ch)(c1:ch<256)(h0:0<=hd)(h1:hd<256):Ret (λ R u=>F.ui (R:=R) N N ((ch,cls,j,hd,sm,nn,k,(rows.length:Int),0),d,z,od,rows,q,hs,a) u) (λ o=>(o.1.1,o.1.2.1,o.1.2.2.1,o.1.2.2.2.2)=(ch,cls,j,nn,k)/\o.2=(d,z,od,rows,q,hs,a)):=by
 refine rO (s:=λ R=>F.ey (R:=R) N) (λ y=>(y.1.1,y.1.2.1,y.1.2.2.1,y.1.2.2.2.1)=(ch,cls,j,hd)/\(y.1.2.2.2.2.2.1,y.1.2.2.2.2.2.2.1,y.1.2.2.2.2.2.2.2.1)=(nn,k,(rows.length:Int))/\0<=y.1.2.2.2.2.2.2.2.2/\y.1.2.2.2.2.2.2.2.2<=rows.length/\y.2=(d,z,od,rows,q,hs,a)) (λ y=>((rows.length:Int)-y.1.2.2.2.2.2.2.2.2).toNat) ?_ N _ ⟨rfl,rfl,by simp,by simp,rfl⟩ (by dsimp only;omega)
 rintro⟨⟨ch',cls',j',hd',sm',nn',k',rl,i⟩,d',z',od',rows',q',hs',a'⟩ ⟨g1,g2,i0,i1,g3⟩
 dsimp only at i0 i1
 simp only[zA] at g1 g2 g3
 obtain⟨rfl,rfl,rfl,rfl⟩:=g1
 obtain⟨rfl,rfl,rfl⟩:=g2
 obtain⟨rfl,rfl,rfl,rfl,rfl,rfl,rfl⟩:=g3
 simp only[F.ey]
 refine rB (λ x=> ?_) λ x=>rL (.inr _) ⟨rfl,rfl⟩ λ _ _=>rfl
 have x:i<rows'.length:=by simpa using x
 have row:=(Ahc hr (i:=i) (by omega)).1
 rw[Af (n:=i+1) (by omega) (by omega)]
 refine rC (Ae i0 x) (rC (Ae h0 (by omega)) (rC (Ae c0 (by omega)) (rB (λ _=> ?_) λ _=> ?_)))
 ·exact rL (.inl _) ⟨⟨rfl,rfl,by dsimp only;omega,by dsimp only;omega,rfl⟩,by dsimp only;omega⟩ λ _ _=>rfl
 ·exact rL (.inl _) ⟨⟨rfl,rfl,by dsimp only;omega,by dsimp only;omega,rfl⟩,by dsimp only;omega⟩ λ _ _=>rfl
theorem Ano(hN:2000000<N){K:Nat}{d:DT}{z q ch:Int}{od hs:List Int}{rows:List (List Int)}{a:List Int×List Int×List Int×List Int×List Int×List Int×List Int×List Int}(hrl:rows.length<=4000)(hr:∀r∈rows,Kv K r)(c0:0<=ch)(c1:ch<256)(hhl:hs.length<=256)(hh:∀x∈hs,0<=x/\x<256):Ret (λ R u=>F.uj (R:=R) N N ((ch,-1,(hs.length:Int),0),d,z,od,rows,q,hs,a) u) (λ o=>o.1.1=ch/\(o.1.2=-1\/0<=o.1.2/\o.1.2<hs.length)/\o.2=(d,z,od,rows,q,hs,a)):=by
 refine rO (s:=λ R=>F.fe (R:=R) N) (λ y=>y.1.1=ch/\(y.1.2.1=-1\/0<=y.1.2.1/\y.1.2.1<hs.length)/\y.1.2.2.1=hs.length/\0<=y.1.2.2.2/\y.1.2.2.2<=hs.length/\y.2=(d,z,od,rows,q,hs,a)) (λ y=>((hs.length:Int)-y.1.2.2.2).toNat) ?_ N _ ⟨rfl,.inl rfl,rfl,by simp,by simp,rfl⟩ (by dsimp only;omega)
 rintro⟨⟨ch',cls,nn,k⟩,⟨e1,e2,e3,e4,e5⟩,z',od',rows',q',hs',f1,f2,f3,f4,f5,f6,f7,f8⟩ ⟨g1,hc,g2,k0,k1,g3⟩
 dsimp only at g1 hc g2 k0 k1
 simp only[zA] at g3
 obtain⟨rfl,rfl,rfl,rfl,rfl,rfl,rfl⟩:=g3
 subst g1 g2
 simp only[F.fe]
 refine rB (λ x=> ?_) λ x=>rL (.inr _) ⟨rfl,hc,rfl⟩ λ _ _=>rfl
 have x:k<hs'.length:=by simpa using x
 have hd:=Fi hh (i:=k) (by omega)
 refine rC (Ae k0 x) (rD (Anp hN hrl hr c0 c1 hd.1 hd.2) ?_)
 rintro⟨⟨ch2,cls2,j2,sm,nn2,k2⟩,⟨d1,d2,d3,d4,d5⟩,z2,od2,rows2,q2,hs2,a1,a2,a3,a4,a5,a6,a7,a8⟩ ⟨g1,g2⟩
 simp only[zA] at g1 g2
 obtain⟨rfl,rfl,rfl,rfl,rfl⟩:=g1
 obtain⟨⟨rfl,rfl,rfl,rfl,rfl⟩,rfl,rfl,rfl,rfl,rfl,rfl,rfl,rfl,rfl,rfl,rfl,rfl,rfl⟩:=g2
 dsimp only
 rw[Af (n:=k2+1) (by omega) (by omega)]
 refine rB (λ _=> ?_) λ _=> ?_
 ·exact rL (.inl _) ⟨⟨rfl,.inr ⟨k0,x⟩,rfl,by dsimp only;omega,by dsimp only;omega,rfl⟩,by dsimp only;omega⟩ λ _ _=>rfl
 ·exact rL (.inl _) ⟨⟨rfl,hc,rfl,by dsimp only;omega,by dsimp only;omega,rfl⟩,by dsimp only;omega⟩ λ _ _=>rfl
abbrev S8D:=Int×DT×M8T
theorem Ar0(hN:2000000<N){K:Nat}{d:DT}{z q:Int}{od a1 a2 a3 a4:List Int}{rows:List (List Int)}(hrl:rows.length<=4000)(hr:∀r∈rows,Kv K r):Ret (λ R u=>F.vj (R:=R) N N (0,d,z,od,rows,q,[],a1,a2,a3,a4,[],[],[],[]) u) (λ o=>o.1=d/\o.2.2.1=od/\o.2.2.2.1=rows/\o.2.2.2.2.2.1.length<=256/\(∀x∈o.2.2.2.2.2.1,0<=x/\x<256)/\o.2.2.2.2.2.2.2.2.2.2.1.length=256/\(∀x∈o.2.2.2.2.2.2.2.2.2.2.1,0<=x/\x<o.2.2.2.2.2.1.length)/\o.2.2.2.2.2.2.2.2.2.2.2=([],[],[])):=by
 refine rO (s:=λ R=>F.iq (R:=R) N) (λ y:S8D=>0<=y.1/\y.1<=256/\y.2.1=d/\y.2.2.2.1=od/\y.2.2.2.2.1=rows/\(y.2.2.2.2.2.2.1.length:Int)<=y.1/\(∀x∈y.2.2.2.2.2.2.1,0<=x/\x<256)/\(y.2.2.2.2.2.2.2.2.2.2.2.1.length:Int)=y.1/\(∀x∈y.2.2.2.2.2.2.2.2.2.2.2.1,0<=x/\x<y.2.2.2.2.2.2.1.length)/\y.2.2.2.2.2.2.2.2.2.2.2.2=([],[],[])) (λ y=>(256-y.1).toNat) ?_ N _ ⟨by simp,by simp,rfl,rfl,rfl,by simp,λ x hx=>absurd hx (by simp),by simp,λ x hx=>absurd hx (by simp),rfl⟩ (by dsimp only;omega)
 rintro⟨ch,⟨e1,e2,e3,e4,e5⟩,z',od',rows',q',hs,b1,b2,b3,b4,cls,b5,b6,b7⟩ ⟨c0,c1,g1,g2,g3,hl,hh,hcl,hcx,g4⟩
 dsimp only at c0 c1 g1 g2 g3 hl hh hcl hcx g4
 simp only[zA] at g4
 obtain⟨rfl,rfl,rfl⟩:=g4
 subst g1 g2 g3
 simp only[F.iq]
 refine rB (λ x=>rD (Ano hN hrl hr c0 (by simpa using x) (by omega) hh) ?_) λ x=>rL (.inr _) ⟨rfl,rfl,rfl,by dsimp only;omega,hh,by have:¬ch<256:=(by simpa using x);dsimp only;omega,hcx,rfl⟩ λ _ _=>rfl
 have x:ch<256:=by simpa using x
 rintro⟨⟨ch2,v⟩,⟨d1,d2,d3,d4,d5⟩,z2,od2,rows2,q2,hs2,a1,a2,a3,a4,a5,a6,a7,a8⟩ ⟨g1,hv,g2⟩
 dsimp only at g1 hv
 simp only[zA] at g2
 obtain⟨⟨rfl,rfl,rfl,rfl,rfl⟩,rfl,rfl,rfl,rfl,rfl,rfl,rfl,rfl,rfl,rfl,rfl,rfl,rfl⟩:=g2
 subst g1
 dsimp only
 rw[Af (n:=ch2+1) (by omega) (by omega)]
 refine rB (λ y=>rC (Bg (by simp only[z9,z8];omega) (by omega)) (rC (Bg (by simp only[z9,z8];omega) (by omega)) (rL (.inl _) ⟨⟨by dsimp only;omega,by dsimp only;omega,rfl,rfl,rfl, ?_,λ u hu=> ?_, ?_,λ u hu=> ?_,rfl⟩,by dsimp only;omega⟩ λ _ _=>rfl))) λ y=>rC (Bg (by simp only[z9,z8];omega) (by omega)) (rL (.inl _) ⟨⟨by dsimp only;omega,by dsimp only;omega,rfl,rfl,rfl,by dsimp only;omega,hh, ?_,λ u hu=> ?_,rfl⟩,by dsimp only;omega⟩ λ _ _=>rfl)
 ·simp only[zB,z9,z8];omega
 ·rcases List.mem_append.1 hu with hu|hu
  ·exact hh u hu
  ·cases List.mem_singleton.1 hu;exact⟨c0,x⟩
 ·simp only[zB,z9,z8];omega
 ·simp only[zB,z9,z8]
  rcases List.mem_append.1 hu with hu|hu
  ·have:=hcx u hu;omega
  ·cases List.mem_singleton.1 hu;omega
 ·simp only[zB,z9,z8];omega
 ·have y:¬v<0:=by simpa using y
  rcases List.mem_append.1 hu with hu|hu
  ·exact hcx u hu
  ·cases List.mem_singleton.1 hu;dsimp only;omega
abbrev Ayb:=(Int×Int×Int×Int×Int×Int)×DT×Axh
abbrev Aya:=(Int×Int)×DT×Axh
theorem Anr(hN:2000000<N){K:Nat}{d:DT}{z q s kn k:Int}{hs od a1 a2 a3 a4 cls nx:List Int}{b:List Int×List Int}{rows:List (List Int)}(hr:∀r∈rows,Kv K r)(hh:∀x∈hs,0<=x/\x<256)(hhl:hs.length<=256)(k0:0<=k)(k1:k<rows.length)(hnl:nx.length<=1024000)(hn:∀x∈nx,0<=x/\x<K):Ret (λ R u=>F.um (R:=R) N N ((k,s,kn,k,(hs.length:Int),0),d,z,rows,q,hs,od,a1,a2,a3,a4,cls,nx,b) u) (λ o=>o.1=(s,kn,k)/\o.2.1=d/\o.2.2.2.1=rows/\o.2.2.2.2.1=q/\o.2.2.2.2.2.1=hs/\o.2.2.2.2.2.2.1=od/\o.2.2.2.2.2.2.2.2.2.2.2.1=cls/\o.2.2.2.2.2.2.2.2.2.2.2.2.1.length=nx.length+hs.length/\(∀x∈o.2.2.2.2.2.2.2.2.2.2.2.2.1,0<=x/\x<K)/\o.2.2.2.2.2.2.2.2.2.2.2.2.2=b):=by
 refine rO (s:=λ R=>F.ff (R:=R) N) (λ y:Ayb=>(y.1.1,y.1.2.1,y.1.2.2.1,y.1.2.2.2.1)=(k,s,kn,k)/\y.1.2.2.2.2.1=hs.length/\0<=y.1.2.2.2.2.2/\y.1.2.2.2.2.2<=hs.length/\y.2.1=d/\y.2.2.2.1=rows/\y.2.2.2.2.1=q/\y.2.2.2.2.2.1=hs/\y.2.2.2.2.2.2.1=od/\y.2.2.2.2.2.2.2.2.2.2.2.1=cls/\(y.2.2.2.2.2.2.2.2.2.2.2.2.1.length:Int)=nx.length+y.1.2.2.2.2.2/\(∀x∈y.2.2.2.2.2.2.2.2.2.2.2.2.1,0<=x/\x<K)/\y.2.2.2.2.2.2.2.2.2.2.2.2.2=b) (λ y=>((hs.length:Int)-y.1.2.2.2.2.2).toNat) ?_ N _ ⟨rfl,rfl,by simp,by simp,rfl,rfl,rfl,rfl,rfl,rfl,by simp,hn,rfl⟩ (by dsimp only;omega)
 rintro⟨⟨k',s',kn',k'',hl,j⟩,d',z',rows',q',hs',od',b1,b2,b3,b4,cls',nx',b'⟩ ⟨g1,g2,j0,j1,g3,g4,g5,g6,g7,g8,hl1,hx,g9⟩
 dsimp only at g2 j0 j1 g3 g4 g5 g6 g7 g8 hl1 hx g9
 simp only[zA] at g1
 obtain⟨rfl,rfl,rfl,rfl⟩:=g1
 subst g2 g3 g4 g5 g6 g7 g8 g9
 simp only[F.ff]
 refine rB (λ x=> ?_) λ x=>rL (.inr _) ⟨rfl,rfl,rfl,rfl,rfl,rfl,rfl,by have:¬j<hs'.length:=(by simpa using x);dsimp only;omega,hx,rfl⟩ λ _ _=>rfl
 have x:j<hs'.length:=by simpa using x
 have row:=Ahc hr (i:=k'') (by omega)
 have hd:=Fi hh (i:=j) (by omega)
 have v:=Fi row.2 (i:=zE hs' j.toNat 0) (by rw[row.1];omega)
 rw[Af (n:=j+1) (by omega) (by omega)]
 refine rC (Ae j0 x) (rC (Ae k0 k1) (rC (Ae hd.1 (by rw[row.1];exact hd.2)) (rC (Bg (by simp only[z9,z8];omega) (by omega)) (rL (.inl _) ⟨⟨rfl,rfl,by dsimp only;omega,by dsimp only;omega,rfl,rfl,rfl,rfl,rfl,rfl,by simp only[zB,z9,z8];omega,λ y hy=> ?_,rfl⟩,by dsimp only;omega⟩ λ _ _=>rfl))))
 rcases List.mem_append.1 hy with hy|hy
 ·exact hx y hy
 ·cases List.mem_singleton.1 hy;exact v
theorem Anq(h:DOk c w n t e)(hN:2000000<N){z q:Int}{hs od a1 a2 a3 a4 cls:List Int}{rows:List (List Int)}(hrl:rows.length=od.length)(hr:∀r∈rows,Kv od.length r)(ho:SOk t.length od)(hh:∀x∈hs,0<=x/\x<256)(hhl:hs.length<=256):Ret (λ R u=>F.uo (R:=R) N N (((od.length:Int),0),(c,w,n,t,e),z,rows,q,hs,od,a1,a2,a3,a4,cls,[],[],[]) u) (λ o=>o.2.1=q/\o.2.2.2.2.2.2.1=cls/\(o.2.2.2.2.2.2.2.1.length:Int)=od.length*hs.length/\(∀x∈o.2.2.2.2.2.2.2.1,0<=x/\x<od.length)/\o.2.2.2.2.2.2.2.2.1.length=od.length/\(∀x∈o.2.2.2.2.2.2.2.2.1,-1<=x/\x<=99)/\o.2.2.2.2.2.2.2.2.2.length=od.length/\∀x∈o.2.2.2.2.2.2.2.2.2,-1<=x/\x<=99):=by
 have hol:=ho.le
 have t1:=h.t1
 have el:=h.el
 refine rO (s:=λ R=>F.fg (R:=R) N) (λ y:Aya=>y.1.1=od.length/\0<=y.1.2/\y.1.2<=od.length/\y.2.1=(c,w,n,t,e)/\y.2.2.2.1=rows/\y.2.2.2.2.1=q/\y.2.2.2.2.2.1=hs/\y.2.2.2.2.2.2.1=od/\y.2.2.2.2.2.2.2.2.2.2.2.1=cls/\(y.2.2.2.2.2.2.2.2.2.2.2.2.1.length:Int)=y.1.2*hs.length/\(∀x∈y.2.2.2.2.2.2.2.2.2.2.2.2.1,0<=x/\x<od.length)/\(y.2.2.2.2.2.2.2.2.2.2.2.2.2.1.length:Int)=y.1.2/\(∀x∈y.2.2.2.2.2.2.2.2.2.2.2.2.2.1,-1<=x/\x<=99)/\(y.2.2.2.2.2.2.2.2.2.2.2.2.2.2.length:Int)=y.1.2/\(∀x∈y.2.2.2.2.2.2.2.2.2.2.2.2.2.2,-1<=x/\x<=99)) (λ y=>((od.length:Int)-y.1.2).toNat) ?_ N _ ⟨rfl,by simp,by simp,rfl,rfl,rfl,rfl,rfl,rfl,by simp,λ x hx=>absurd hx (by simp),by simp,λ x hx=>absurd hx (by simp),by simp,λ x hx=>absurd hx (by simp)⟩ (by dsimp only;omega)
 rintro⟨⟨kn,k⟩,⟨c',w',n',t',e'⟩,z',rows',q',hs',od',b1,b2,b3,b4,cls',nx,tg,en⟩ ⟨g1,k0,k1,g2,g3,g4,g5,g6,g7,hnl,hnx,htl,htx,hel,hex⟩
 dsimp only at g1 k0 k1 g2 g3 g4 g5 g6 g7 hnl hnx htl htx hel hex
 obtain⟨rfl,rfl,rfl,rfl,rfl⟩:=by simpa only[zA] using g2
 subst g1 g3 g4 g5 g6 g7
 have ml:k*(hs'.length:Int)<=4000*256:=zN (by omega) (by omega) (by omega) (by omega)
 simp only[F.fg]
 refine rB (λ x=> ?_) λ x=>rL (.inr _) ?_ λ _ _=>rfl
 ·have x:k<od'.length:=by simpa using x
  have s1:=Fi ho.2 (i:=k) (by omega)
  refine rC (Ae k0 x) (rD (Anr hN hr hh hhl k0 (by omega) (by omega) hnx) ?_)
  rintro⟨⟨s,kn,k'⟩,⟨c,w,n,t,e⟩,z2,rows2,q2,hs2,od2,b1,b2,b3,b4,cls2,nx2,tg2,en2⟩ ⟨g1,g2,g3,g4,g5,g6,g7,hl2,hx2,g8⟩
  dsimp only at g2 g3 g4 g5 g6 g7 hl2 hx2 g8⊢
  simp only[zA] at g1 g2 g8
  obtain⟨rfl,rfl,rfl⟩:=g1
  obtain⟨rfl,rfl,rfl,rfl,rfl⟩:=g2
  obtain⟨rfl,rfl⟩:=g8
  subst g3 g4 g5 g6 g7
  have tt:=Fi h.ti (i:=zE od2 k'.toNat 0) (by omega)
  have ee:=Fi h.ei (i:=zE od2 k'.toNat 0) (by omega)
  rw[Af (n:=k'+1) (by omega) (by omega)]
  refine rC (Ae s1.1 (by omega)) (rC (Bg (by simp only[z9,z8];omega) (by omega)) (rC (Ae s1.1 (by omega)) (rC (Bg (by simp only[z9,z8];omega) (by omega)) (rL (.inl _) ⟨⟨rfl,by dsimp only;omega,by dsimp only;omega,rfl,rfl,rfl,rfl,rfl,rfl, ?_,hx2,by simp only[zB,z9,z8];omega,λ y hy=> ?_,by simp only[zB,z9,z8];omega,λ y hy=> ?_⟩,by dsimp only;omega⟩ λ _ _=>rfl))))
  ·dsimp only
   rw[yD,yE]
   omega
  ·rcases List.mem_append.1 hy with hy|hy
   ·exact htx y hy
   ·cases List.mem_singleton.1 hy;exact tt
  ·rcases List.mem_append.1 hy with hy|hy
   ·exact hex y hy
   ·cases List.mem_singleton.1 hy;exact ee
 ·have x:¬k<od'.length:=by simpa using x
  exact⟨rfl,rfl,by dsimp only;rw[hnl,show k=(od'.length:Int) by omega],hnx,by dsimp only;omega,htx,by dsimp only;omega,hex⟩
theorem Ar1(h:DOk c w n t e)(hN:200000000<N):Ret (λ R k=>F.rp (R:=R) N (c,w,n,t,e) k) (λ o=>DOk o.2.1 o.1 o.2.2.1 o.2.2.2.1 o.2.2.2.2/\o.2.2.2.1.length<=t.length):=by
 have t0:=h.t0
 have t1:=h.t1
 have w1:=h.w1
 have w0:=h.w0
 have nl:=h.nl
 have cl:=h.cl
 have el:=h.el
 have m1:=Vr t1 w0 w1
 simp only[F.rp]
 refine rD (Ant (c,w,n,t,e) (by dsimp only;omega) (by dsimp only;omega) (by dsimp only;omega) (by dsimp only;omega) (by dsimp only;omega) (by omega)) λ v hv=> ?_
 rw[hv.2 h]
 refine rB (λ q=>by cases q) λ _=>rD (Aro h (by omega)) λ L hL=> ?_
 obtain⟨hL,hL1⟩:=hL
 refine rD (apart h hN hL hL1) λ m hM=> ?_
 rw[zG]
 refine rC (by simp) (rC (Bg (by omega) (by omega)) (rD (Arw h (by omega) hL hM) ?_))
 rintro⟨⟨c1,c2,c3,c4,c5⟩,z,ch,a1,a2,a3,a4⟩ ⟨g1,hc,hx,g2⟩
 dsimp only at g1 hc hx g2⊢
 simp only[zA] at g1 g2
 obtain⟨rfl,rfl,rfl,rfl,rfl⟩:=g1
 obtain⟨rfl,rfl,rfl,rfl⟩:=g2
 have s1:=Fi hx (i:=0) (by simp;omega)
 refine rC (Ae (by omega) (by omega)) (rD (Ary h (by omega) hc hx s1.1 s1.2) ?_)
 rintro⟨⟨c,w,n,t,e⟩,z,od,rows,a1,a2,a3,a4⟩ ⟨g1,ho,h1,hrl,hr,g2⟩
 dsimp only at g1 ho h1 hrl hr g2⊢
 simp only[zA] at g1 g2
 obtain⟨rfl,rfl,rfl,rfl,rfl⟩:=g1
 obtain⟨rfl,rfl,rfl,rfl⟩:=g2
 have hol:=ho.le
 refine rD (Ar0 (by omega) (by omega) hr) ?_
 rintro⟨⟨c1,c2,c3,c4,c5⟩,z,od2,rows2,q,hs,a1,a2,a3,a4,cls,b1,b2,b3⟩ ⟨g1,g2,g3,hhl,hh,hcl,hcx,g4⟩
 dsimp only at g1 g2 g3 hhl hh hcl hcx g4⊢
 simp only[zA] at g1 g4
 obtain⟨rfl,rfl,rfl,rfl,rfl⟩:=g1
 obtain⟨rfl,rfl,rfl⟩:=g4
 subst g2 g3
 refine rD (Anq h (by omega) hrl hr ho hh hhl) ?_
 rintro⟨z,q,a1,a2,a3,a4,cls2,nx,tg,en⟩ ⟨g1,g2,x1,x2,x3,x4,x5,x6⟩
 dsimp only at g1 g2 x1 x2 x3 x4 x5 x6⊢
 subst g1 g2
 have c0:0<hs.length:=by
  have:=hcx (cls2[0]'(by omega)) (zC _)
  omega
 refine rL _ ⟨⟨hcl,by dsimp only;omega,by dsimp only;omega,by dsimp only;omega,by dsimp only;omega,by dsimp only;omega,by dsimp only;rw[x1,x3],λ x hx=> ?_,λ x hx=> ?_,x4,x6⟩,by dsimp only;omega⟩ λ _ _=>rfl
 ·have:=hcx x hx;dsimp only;omega
 ·have:=x2 x hx;dsimp only;omega
end
abbrev C4D:=(Int×Int×Int×Int×Int×Int)×Int×List Int×Int×List (List Bool)×List Bool×List Int×List Int×List Int×List Int×List C4×List WBr×List Int×List Int×List Int×List Int
abbrev C2D:=(Int×Int×Int×Int)×Int×List Int×Int×List (List Bool)×List Int×List Int×List Int×List Int×List C4×List WBr×List Int×List Int×List Int×List Int
abbrev C0D:=(Int×Int)×Int×List Int×Int×List (List Bool)×List Int×List Int×List Int×List Int×List C4×List WBr×List Int×List Int×List Int×List Int
section
variable{N:Nat}
theorem Aqr(hN:10000000000<N){most k kn hi z wd:Int}{hs:List Int}{sets:List (List Bool)}{nx:List Bool}{K:Nat}{u:List Int×List Int×List Int×List Int×List C4×List WBr×List Int×List Int×List Int×List Int}(hsl:sets.length<=5000)(hS:∀s∈sets,s.length=K)(hK:K<=10000000000)(hnx:nx.length=K):Ret (λ R q=>F.wg (R:=R) N N ((most,k,-1,1,kn,hi),z,hs,wd,sets,nx,u) q) (λ o=>o.1.1=most/\o.1.2.1=k/\(o.1.2.2.1=-1\/0<=o.1.2.2.1/\o.1.2.2.1<sets.length)/\o.1.2.2.2=(kn,hi)/\o.2=(z,hs,wd,sets,nx,u)):=by
 obtain⟨u1,u2,u3,u4,u5,u6,u7,u8,u9,u10⟩:=u
 refine rO (s:=λ R=>F.jy (R:=R) N) (λ y:C4D=>y.1.1=most/\y.1.2.1=k/\y.1.2.2.1=-1/\1<=y.1.2.2.2.1/\y.1.2.2.2.2=(kn,hi)/\y.2=(z,hs,wd,sets,nx,u1,u2,u3,u4,u5,u6,u7,u8,u9,u10)) (λ y=>((sets.length:Int)-y.1.2.2.2.1).toNat) ?_ N _ ⟨rfl,rfl,rfl,by simp,rfl,rfl⟩ (by dsimp only;omega)
 rintro⟨⟨m',k',to,j,kn',hi'⟩,z',hs',wd',sets',nx',v1,v2,v3,v4,v5,v6,v7,v8,v9,v10⟩ ⟨g1,g2,g3,j1,g4,g5⟩
 dsimp only at g1 g2 g3 j1
 simp only[zA] at g4 g5
 obtain⟨rfl,rfl⟩:=g4
 obtain⟨rfl,rfl,rfl,rfl,rfl,rfl,rfl,rfl,rfl,rfl,rfl,rfl,rfl,rfl,rfl⟩:=g5
 subst g1 g2 g3
 simp only[F.jy]
 refine rB (λ x=> ?_) λ x=>rL (.inr _) ⟨rfl,rfl,.inl rfl,rfl,rfl⟩ λ _ _=>rfl
 have x:j<sets'.length:=by simpa using x
 have hj:j.toNat<sets'.length:=by omega
 have hg:(zE sets' j.toNat []).length=nx'.length:=by
  rw[List.getD_eq_getElem?_getD,List.getElem?_eq_getElem hj,hnx];exact hS _ (zC hj)
 rw[Af (n:=j+1) (by omega) (by omega)]
 refine rC (Ae (by omega) x) (rD (same _ _ (by omega) (by omega) (by omega)) λ v _=>rB (λ _=>rL (.inr _) ⟨rfl,rfl,.inr ⟨by dsimp only;omega,x⟩,rfl,rfl⟩ λ _ _=>rfl) λ _=>rL (.inl _) ⟨⟨rfl,rfl,rfl,by dsimp only;omega,rfl,rfl⟩,by dsimp only;omega⟩ λ _ _=>rfl)
theorem Aqq(hN:10000000000<N){o:Whl}(h:Ie o){most k z wd:Int}{hs tg en cls:List Int}{sets:List (List Bool)}{nx u1 u2 u3 u4:List Int}(hhl:hs.length<=256)(hsl:sets.length<=4000)(hS:∀s∈sets,s.length=o.1.length)(k0:0<=k)(k1:k<sets.length)(hnl:nx.length<=1024000)(hn:∀x∈nx,0<=x/\x<sets.length):Ret (λ R q=>F.wh (R:=R) N N ((most,k,(hs.length:Int),0),z,hs,wd,sets,u1,u2,u3,u4,o.1,o.2,cls,nx,tg,en) q) (λ r=>r.1=(most,k)/\r.2.2.1=hs/\r.2.2.2.1=wd/\sets.length<=r.2.2.2.2.1.length/\r.2.2.2.2.1.length<=4300/\(∀s∈r.2.2.2.2.1,s.length=o.1.length)/\(r.2.2.2.2.2.2.2.2.2.1,r.2.2.2.2.2.2.2.2.2.2.1)=o/\r.2.2.2.2.2.2.2.2.2.2.2.1=cls/\r.2.2.2.2.2.2.2.2.2.2.2.2.1.length=nx.length+hs.length/\(∀x∈r.2.2.2.2.2.2.2.2.2.2.2.2.1,0<=x/\x<r.2.2.2.2.1.length)/\r.2.2.2.2.2.2.2.2.2.2.2.2.2=(tg,en)):=by
 obtain⟨ws,bs⟩:=o
 have hwl:=h.l
 refine rO (s:=λ R=>F.jz (R:=R) N) (λ y:C2D=>(y.1.1,y.1.2.1)=(most,k)/\y.1.2.2.1=hs.length/\0<=y.1.2.2.2/\y.1.2.2.2<=hs.length/\y.2.2.1=hs/\y.2.2.2.1=wd/\sets.length<=y.2.2.2.2.1.length/\(y.2.2.2.2.1.length:Int)<=4000+y.1.2.2.2/\(∀s∈y.2.2.2.2.1,s.length=ws.length)/\(y.2.2.2.2.2.2.2.2.2.1,y.2.2.2.2.2.2.2.2.2.2.1)=(ws,bs)/\y.2.2.2.2.2.2.2.2.2.2.2.1=cls/\(y.2.2.2.2.2.2.2.2.2.2.2.2.1.length:Int)=nx.length+y.1.2.2.2/\(∀x∈y.2.2.2.2.2.2.2.2.2.2.2.2.1,0<=x/\x<y.2.2.2.2.1.length)/\y.2.2.2.2.2.2.2.2.2.2.2.2.2=(tg,en)) (λ y=>((hs.length:Int)-y.1.2.2.2).toNat) ?_ N _ ⟨rfl,rfl,by simp,by simp,rfl,rfl,zY _,by dsimp only;omega,hS,rfl,rfl,by simp,hn,rfl⟩ (by dsimp only;omega)
 rintro⟨⟨m',k',hl,i⟩,z',hs',wd',sets',v1,v2,v3,v4,w1,w2,cls',nx',tg',en'⟩ ⟨g1,g2,i0,i1,g3,g4,hle,hs4,hS',g5,g6,hnl',hn',g7⟩
 dsimp only at g2 i0 i1 g3 g4 hle hs4 hS' g6 hnl' hn'
 simp only[zA] at g1 g5 g7
 obtain⟨rfl,rfl⟩:=g1
 obtain⟨rfl,rfl⟩:=g5
 obtain⟨rfl,rfl⟩:=g7
 subst g2 g3 g4 g6
 simp only[F.jz]
 refine rB (λ x=> ?_) λ x=>rL (.inr _) ⟨rfl,rfl,rfl,hle,by dsimp only;omega,hS',rfl,rfl,by have:¬i<hs'.length:=(by simpa using x);dsimp only;omega,hn',rfl⟩ λ _ _=>rfl
 have x:i<hs'.length:=by simpa using x
 have hk:k'.toNat<sets'.length:=by omega
 have hg:(zE sets' k'.toNat []).length=w1.length:=by
  rw[List.getD_eq_getElem?_getD,List.getElem?_eq_getElem hk];exact hS' _ (zC hk)
 refine rC (Ae i0 x) (rC (Ae k0 (by omega)) (rD (after h hg hN _ _) λ nw hnw=>rD (Aqr hN (by omega) hS' hwl hnw) ?_))
 rintro⟨⟨m2,k2,to,kn2,hi2⟩,z2,hs2,wd2,sets2,nx2,a1,a2,a3,a4,a5,a6,a7,a8,a9,a10⟩ ⟨g1,g2,hto,g3,g4⟩
 dsimp only at g1 g2 hto
 simp only[zA] at g3 g4
 obtain⟨rfl,rfl⟩:=g3
 obtain⟨rfl,rfl,rfl,rfl,rfl,rfl,rfl,rfl,rfl,rfl,rfl,rfl,rfl,rfl,rfl⟩:=g4
 subst g1 g2
 dsimp only
 rw[Af (n:=hi2+1) (by omega) (by omega)]
 refine rB (λ y=>rC (Uh (by simp only[z9,z8];omega)) (rC (Bg (by simp only[z9,z8];omega) (by omega)) (rL (.inl _) ⟨⟨rfl,rfl,by dsimp only;omega,by dsimp only;omega,rfl,rfl,by simp only[zB];omega,by simp only[zB,z9,z8];omega,λ s hs=> ?_,rfl,rfl,by simp only[zB,z9,z8];omega,λ v hv=> ?_,rfl⟩,by dsimp only;omega⟩ λ _ _=>rfl))) λ y=>rC (Bg (by simp only[z9,z8];omega) (by omega)) (rL (.inl _) ⟨⟨rfl,rfl,by dsimp only;omega,by dsimp only;omega,rfl,rfl,hle,by dsimp only;omega,hS',rfl,rfl,by simp only[zB,z9,z8];omega,λ v hv=> ?_,rfl⟩,by dsimp only;omega⟩ λ _ _=>rfl)
 ·rcases List.mem_append.1 hs with hs|hs
  ·exact hS' s hs
  ·cases List.mem_singleton.1 hs;exact hnw
 ·simp only[zB,z9,z8]
  rcases List.mem_append.1 hv with hv|hv
  ·have:=hn' v hv;omega
  ·cases List.mem_singleton.1 hv;omega
 ·have y:¬to<0:=by simpa using y
  rcases List.mem_append.1 hv with hv|hv
  ·exact hn' v hv
  ·cases List.mem_singleton.1 hv;dsimp only;omega
theorem Aqs(hN:10000000000<N){rs:List Rul}{most:Int}(h2:∀x∈rs,Eu 2001 8000 x.1):Ret (λ R k=>F.sn (R:=R) N (rs,most) k) (λ o=>o.1.2=0->DOk o.2.1 o.1.1 o.2.2.1 o.2.2.2.1 o.2.2.2.2/\(o.2.2.2.1.length:Int)<=most):=by
  simp only[F.sn]
  refine rD (Eo _ _ _) ?_
  rintro _ rfl
  refine rB (λ _=>rL ((0,1),[],[],[],[]) (λ e=>by cases e) λ _ _=>rfl) λ q=> ?_
  obtain⟨q1,q2⟩:1<=most/\most<=4000:=by simpa using q
  refine rD (Awh rs (by omega) h2) λ v hv=>rB (λ _=>rL ((0,2),[],[],[],[]) (λ e=>by cases e) λ _ _=>rfl) λ e=> ?_
  obtain⟨r1,r2⟩:=hv (by simpa using e)
  refine rD (Aqa (by omega) r1 h2 r2) ?_
  rintro⟨ws,bs⟩ hW
  refine rD (bytes hW (by omega)) ?_
  rintro⟨cls,hs⟩ ⟨hcl,hhl,hcx⟩
  have hwl:=hW.l
  dsimp only at hcl hhl hcx hwl⊢
  rw[zG]
  have L0:=rO (s:=λ R=>F.ka (R:=R) N) (app:=Db) (P:=λ o:(Int×Int×List Int×List Int×List Int×List Int×List Int×List Int×List Int×List Int)⊕(Int×Int×Int×List Int×List Int×List Int×List Int×List Int×List Int×List Int×List Int)=>match o with|.inl o=>o.2.1=hs.length/\o.2.2.2.2.2.2.1=cls/\((o.2.2.2.2.2.2.2.1.length:Int)=o.2.2.2.2.2.2.2.2.1.length*hs.length)/\(∀x∈o.2.2.2.2.2.2.2.1,0<=x/\x<o.2.2.2.2.2.2.2.2.1.length)/\1<=o.2.2.2.2.2.2.2.2.1.length/\(o.2.2.2.2.2.2.2.2.1.length:Int)<=most/\(∀x∈o.2.2.2.2.2.2.2.2.1,-1<=x/\x<=99)/\o.2.2.2.2.2.2.2.2.2.length=o.2.2.2.2.2.2.2.2.1.length/\(∀x∈o.2.2.2.2.2.2.2.2.2,-1<=x/\x<=99)|.inr o=>o.1=3) (λ y:C0D=>y.1.1=most/\0<=y.1.2/\y.1.2<=y.2.2.2.2.1.length/\y.2.2.1=hs/\y.2.2.2.1=hs.length/\1<=y.2.2.2.2.1.length/\(y.2.2.2.2.1.length:Int)<=most/\(∀s∈y.2.2.2.2.1,s.length=ws.length)/\(y.2.2.2.2.2.2.2.2.2.1,y.2.2.2.2.2.2.2.2.2.2.1)=(ws,bs)/\y.2.2.2.2.2.2.2.2.2.2.2.1=cls/\(y.2.2.2.2.2.2.2.2.2.2.2.2.1.length:Int)=y.1.2*hs.length/\(∀x∈y.2.2.2.2.2.2.2.2.2.2.2.2.1,0<=x/\x<y.2.2.2.2.1.length)/\(y.2.2.2.2.2.2.2.2.2.2.2.2.2.1.length:Int)=y.1.2/\(∀x∈y.2.2.2.2.2.2.2.2.2.2.2.2.2.1,-1<=x/\x<=99)/\(y.2.2.2.2.2.2.2.2.2.2.2.2.2.2.length:Int)=y.1.2/\(∀x∈y.2.2.2.2.2.2.2.2.2.2.2.2.2.2,-1<=x/\x<=99)) (λ y=>(4001-y.1.2).toNat) (λ y hy=>by
    obtain⟨⟨m',k⟩,z',hs',wd',sets,v1,v2,v3,v4,w1,w2,cls',nx,tg,en⟩:=y
    obtain⟨g1,k0,k1,g2,g3,s1,s2,hS,g4,g5,hnl,hnx,htl,htx,hel,hex⟩:=hy
    dsimp only at g1 k0 k1 g2 g3 s1 s2 hS g5 hnl hnx htl htx hel hex
    simp only[zA] at g4
    obtain⟨rfl,rfl⟩:=g4
    subst g1 g2 g3 g5
    simp only[F.ka]
    refine rB (λ x=> ?_) λ x=>rL (.inr (.inl (z',(hs'.length:Int),v1,v2,v3,v4,cls',nx,tg,en))) ?_ λ _ _=>rfl
    · have x:k<sets.length:=by simpa using x
      have hk:k.toNat<sets.length:=by omega
      have hg:(zE sets k.toNat []).length=w1.length:=by
        rw[List.getD_eq_getElem?_getD,List.getElem?_eq_getElem hk];exact hS _ (zC hk)
      have ml:k*(hs'.length:Int)<=4000*256:=zN (by omega) (by omega) (by omega) (by omega)
      refine rC (Ae k0 x) (rD (Aeb hW hg (by omega) _ _) λ t1 ht1=>rC (Bg (by simp only[z9,z8];omega) (by omega)) (rC (Ae k0 x) (rD (Aeb hW hg (by omega) _ _) λ t2 ht2=>rC (Bg (by simp only[z9,z8];omega) (by omega)) (rD (Aqq hN hW hhl (by omega) hS k0 x (by omega) hnx) ?_))))
      rintro⟨⟨m2,k2⟩,z2,hs2,wd2,sets2,a1,a2,a3,a4,a5,a6,cls2,nx2,tg2,en2⟩ ⟨g1,g2,g3,hle,hs4,hS2,g4,g5,hnl2,hn2,g6⟩
      dsimp only at g2 g3 hle hs4 hS2 g5 hnl2 hn2⊢
      simp only[zA] at g1 g4 g6
      obtain⟨rfl,rfl⟩:=g1
      obtain⟨rfl,rfl⟩:=g4
      obtain⟨rfl,rfl⟩:=g6
      subst g2 g3 g5
      rw[Af (n:=k2+1) (by omega) (by omega)]
      refine rB (λ y=>rL (.inr (.inr (3,_,_,_,_,_,_,_,_,_,_))) rfl λ _ _=>rfl) λ y=>rL (.inl _) ⟨⟨rfl,by dsimp only;omega,by dsimp only;omega,rfl,rfl,by dsimp only;omega, ?_,hS2,rfl,rfl, ?_,hn2,by simp only[zB,z9,z8];omega,λ v hv=> ?_,by simp only[zB,z9,z8];omega,λ v hv=> ?_⟩,by dsimp only;omega⟩ λ _ _=>rfl
      · have y:¬(sets2.length:Int)>m2:=by simpa using y
        dsimp only;omega
      · dsimp only
        rw[yD,yE]
        omega
      · rcases List.mem_append.1 hv with hv|hv
        · exact htx v hv
        · cases List.mem_singleton.1 hv;exact ht1
      · rcases List.mem_append.1 hv with hv|hv
        · exact hex v hv
        · cases List.mem_singleton.1 hv;exact ht2
    · have x:¬k<sets.length:=by simpa using x
      refine⟨rfl,rfl, ?_,λ v hv=> ?_, ?_, ?_,htx, ?_,hex⟩
      · dsimp only;rw[hnl,htl]
      · have:=hnx v hv;dsimp only;omega
      · dsimp only;omega
      · dsimp only;omega
      · dsimp only;omega) N ((most,0),0,hs,(hs.length:Int),[zU ws.length false],[],[],[],[],ws,bs,cls,[],[],[]) ⟨rfl,by simp,by simp,rfl,rfl,by simp,by dsimp only;simp only[z9,z8];omega,λ s hs=>by cases List.mem_singleton.1 hs;exact zO,rfl,rfl,by simp,λ x hx=>absurd hx (by simp),by simp,λ x hx=>absurd hx (by simp),by simp,λ x hx=>absurd hx (by simp)⟩ (by dsimp only;omega)
  refine rC (by simp) (rC (by rw[xO];simp only[Ar];omega) (rD L0 ?_))
  have c0:0<hs.length:=by
    have:=hcx (cls[0]'(by omega)) (zC _)
    omega
  rintro(⟨z,wd,v1,v2,v3,v4,cls2,nx,tg,en⟩|⟨a,b,z,v1,v2,v3,v4,v5,v6,v7,v8⟩) ho
  · obtain⟨g1,g2,x1,x2,x3,x4,x5,x6,x7⟩:=ho
    dsimp only at g1 g2 x1 x2 x3 x4 x5 x6 x7
    subst g1 g2
    dsimp only[Db]
    have hD:DOk cls2 (hs.length:Int) nx tg en:=⟨hcl,by omega,by omega,x3,by omega,x6,x1,λ x hx=>by have:=hcx x hx;omega,λ x hx=>by have:=x2 x hx;omega,x5,x7⟩
    refine rD (Ar1 hD (by omega)) ?_
    rintro⟨w',c',n',t',e'⟩ ⟨hD',hle⟩
    dsimp only at hle
    exact rL _ (λ _=>⟨hD',by dsimp only;omega⟩) λ _ _=>rfl
  · obtain rfl:a=3:=ho
    exact rL ((b,3),_,_,_,_) (λ e=>by cases e) λ _ _=>rfl
end
abbrev Cu:=List Int×Int×Int
abbrev DbT:=Cu×DT×Int×Int×List Int×List Int×List Int×List Int×List Int×List Int×List Int×List Int
section
variable{N:Nat}{L:List Int}{c n t e:List Int}{w:Int}
theorem Avw(hN:2000000<N){T cp z w2:Int}{cur:Cu}{a1 a2 a3 a4:List Int}(hc:c.length=256):Ret (λ R q=>F.vm (R:=R) N N ((T,cp,0),cur,(c,w,n,t,e),z,w2,a1,a2,a3,a4,[],[],[],[]) q) (λ o=>o.1=(T,cp)/\o.2.1=cur/\o.2.2.1=(c,w,n,t,e)/\o.2.2.2.2.1=w2/\o.2.2.2.2.2.2.2.2.2.1.length=256/\o.2.2.2.2.2.2.2.2.2.2=([],[],[])):=by
 refine rO (s:=λ R=>F.ir (R:=R) N) (λ y:(Int×Int×Int)×DbT=>(y.1.1,y.1.2.1)=(T,cp)/\0<=y.1.2.2/\y.1.2.2<=256/\y.2.1=cur/\y.2.2.1=(c,w,n,t,e)/\y.2.2.2.2.1=w2/\(y.2.2.2.2.2.2.2.2.2.1.length:Int)=y.1.2.2/\y.2.2.2.2.2.2.2.2.2.2=([],[],[])) (λ y=>(256-y.1.2.2).toNat) ?_ N _ ⟨rfl,by simp,by simp,rfl,rfl,rfl,by simp,rfl⟩ (by dsimp only;omega)
 rintro⟨⟨T',cp',j⟩,⟨u1,u2,u3⟩,⟨c',w',n',t',e'⟩,z',w2',b1,b2,b3,b4,b5,b6,b7,b8⟩ ⟨g1,j0,j1,g2,g3,g4,hl,g5⟩
 dsimp only at g1 j0 j1 g2 g3 g4 hl g5
 obtain⟨rfl,rfl,rfl,rfl,rfl⟩:=by simpa only[zA] using g3
 subst g2 g4
 simp only[F.ir]
 refine rB (λ x=> ?_) λ x=>rL (.inr _) ⟨g1,rfl,rfl,rfl,by have:¬j<256:=(by simpa using x);dsimp only;omega,g5⟩ λ _ _=>rfl
 have x:j<256:=by simpa using x
 rw[Af (n:=j+1) (by omega) (by omega)]
 exact rC (Ae j0 (by omega)) (rC (by decide) (rC (Bg (by simp only[z9,z8];omega) (by omega)) (rL (.inl _) ⟨⟨g1,by dsimp only;omega,by dsimp only;omega,rfl,rfl,rfl,by simp only[zB,z9,z8];omega,g5⟩,by dsimp only;omega⟩ λ _ _=>rfl)))
structure DIn(c:List Int)(w:Int)(n t e:List Int):Prop where
 cl:c.length=256
 w0:0<=w
 w1:w<=10000
 t0:1<=t.length
 t1:t.length<=10000
 el:e.length=t.length
 nl:(n.length:Int)=t.length*w
 n0:1<=n.length
 n1:n.length<=10000
theorem DIn.idx(h:DIn c w n t e){s k:Int}(s0:0<=s)(s1:s<t.length)(k0:0<=k)(k1:k<w):Aa .i64 (Aa .i64 (s*w)+k)=s*w+k/\0<=s*w+k/\s*w+k<n.length:=by
 have a:0<=s*w:=yM s0 (by omega)
 have b:(s+1)*w<=t.length*w:=zX (by omega) (by omega)
 rw[yD,yE] at b
 have hn:=h.nl
 have h1:=h.n1
 rw[Af (n:=s*w) (by omega) (by omega),Af (n:=s*w+k) (by omega) (by omega)]
 exact⟨rfl,by omega,by omega⟩
theorem Avy(hL:Src L)(hN:2000000<N)(h:DIn c w n t e){T cp k s z w2:Int}{cur:Cu}{a1 a2 a3 a4 oc on:List Int}{b:List Int×List Int}(hc:Cur L cur)(hcp:cp<=3)(s0:0<=s)(s1:s<t.length)(hon:on.length<=100000):Ret (λ R q=>F.vn (R:=R) N N ((T,cp,k,s,0),cur,(c,w,n,t,e),z,w2,a1,a2,a3,a4,oc,on,b) q) (λ o=>o.1=(T,cp,k,s)/\Cur L o.2.1/\o.2.2.1=(c,w,n,t,e)/\o.2.2.2.2.1=w2/\o.2.2.2.2.2.2.2.2.2.1=oc/\(o.2.2.2.2.2.2.2.2.2.2.1.length:Int)=on.length+2*w/\o.2.2.2.2.2.2.2.2.2.2.2=b):=by
 have w0:=h.w0
 have w1:=h.w1
 refine rO (s:=λ R=>F.iu (R:=R) N) (λ y:(Int×Int×Int×Int×Int)×DbT=>(y.1.1,y.1.2.1,y.1.2.2.1,y.1.2.2.2.1)=(T,cp,k,s)/\0<=y.1.2.2.2.2/\y.1.2.2.2.2<=w/\Cur L y.2.1/\y.2.2.1=(c,w,n,t,e)/\y.2.2.2.2.1=w2/\y.2.2.2.2.2.2.2.2.2.1=oc/\(y.2.2.2.2.2.2.2.2.2.2.1.length:Int)=on.length+2*y.1.2.2.2.2/\y.2.2.2.2.2.2.2.2.2.2.2=b) (λ y=>(w-y.1.2.2.2.2).toNat) ?_ N _ ⟨rfl,by simp,by dsimp only;omega,hc,rfl,rfl,rfl,by simp,rfl⟩ (by dsimp only;omega)
 rintro⟨⟨T',cp',k',s',j⟩,⟨u1,u2,u3⟩,⟨c',w',n',t',e'⟩,z',w2',b1,b2,b3,b4,b5,b6,b7,b8⟩ ⟨g1,j0,j1,hc',g3,g4,g5,hl,g6⟩
 dsimp only at j0 j1 hc' g3 g4 g5 hl g6
 simp only[zA] at g1
 obtain⟨rfl,rfl,rfl,rfl⟩:=g1
 obtain⟨rfl,rfl,rfl,rfl,rfl⟩:=by simpa only[zA] using g3
 subst g4 g5
 simp only[F.iu]
 refine rB (λ x=> ?_) λ x=>rL (.inr _) ⟨rfl,hc',rfl,rfl,rfl,by have:¬j<w':=(by simpa using x);dsimp only;omega,g6⟩ λ _ _=>rfl
 have x:j<w':=by simpa using x
 obtain⟨q1,q2,q3⟩:=h.idx s0 s1 j0 x
 rw[q1,Af (n:=j+1) (by omega) (by omega)]
 refine rC (Ae q2 q3) (rD (Az hL hc' (by omega)) ?_)
 rintro⟨p,v1,v2,v3⟩ ⟨-,-,hc2⟩
 dsimp only at hc2⊢
 refine rD (Az hL hc2 (by omega)) ?_
 rintro⟨p2,v4,v5,v6⟩ ⟨-,-,hc3⟩
 dsimp only at hc3⊢
 exact rC (Bg (by simp only[z9,z8];omega) (by omega)) (rC (Bg (by simp only[zB,z9,z8];omega) (by omega)) (rL (.inl _) ⟨⟨rfl,by dsimp only;omega,by dsimp only;omega,hc3,rfl,rfl,rfl,by simp only[zB,z9,z8];omega,g6⟩,by dsimp only;omega⟩ λ _ _=>rfl))
theorem Avx(hL:Src L)(hN:2000000<N)(h:DIn c w n t e){cp k z w2:Int}{cur:Cu}{a1 a2 a3 a4 oc on ot oe:List Int}(hc:Cur L cur)(hcp:cp<=3)(hon:on.length<=60000)(hot:ot.length<=60000)(hoe:oe.length=ot.length):Ret (λ R q=>F.vo (R:=R) N N (((t.length:Int),cp,k,0),cur,(c,w,n,t,e),z,w2,a1,a2,a3,a4,oc,on,ot,oe) q) (λ o=>o.1=((t.length:Int),cp,k)/\Cur L o.2.1/\o.2.2.1=(c,w,n,t,e)/\o.2.2.2.2.1=w2/\o.2.2.2.2.2.2.2.2.2.1=oc/\(o.2.2.2.2.2.2.2.2.2.2.1.length:Int)=on.length+2*n.length/\o.2.2.2.2.2.2.2.2.2.2.2.1.length=ot.length+t.length/\o.2.2.2.2.2.2.2.2.2.2.2.2.length=oe.length+t.length):=by
 have t1:=h.t1
 have el:=h.el
 have n1:=h.n1
 have nl:=h.nl
 refine rO (s:=λ R=>F.iw (R:=R) N) (λ y:(Int×Int×Int×Int)×DbT=>(y.1.1,y.1.2.1,y.1.2.2.1)=((t.length:Int),cp,k)/\0<=y.1.2.2.2/\y.1.2.2.2<=t.length/\Cur L y.2.1/\y.2.2.1=(c,w,n,t,e)/\y.2.2.2.2.1=w2/\y.2.2.2.2.2.2.2.2.2.1=oc/\(y.2.2.2.2.2.2.2.2.2.2.1.length:Int)=on.length+2*(y.1.2.2.2*w)/\(y.2.2.2.2.2.2.2.2.2.2.2.1.length:Int)=ot.length+y.1.2.2.2/\(y.2.2.2.2.2.2.2.2.2.2.2.2.length:Int)=oe.length+y.1.2.2.2) (λ y=>((t.length:Int)-y.1.2.2.2).toNat) ?_ N _ ⟨rfl,by simp,by simp,hc,rfl,rfl,rfl,by simp,by simp,by simp⟩ (by dsimp only;omega)
 rintro⟨⟨T',cp',k',j⟩,⟨u1,u2,u3⟩,⟨c',w',n',t',e'⟩,z',w2',b1,b2,b3,b4,b5,b6,b7,b8⟩ ⟨g1,j0,j1,hc',g3,g4,g5,hl,hl2,hl3⟩
 dsimp only at j0 j1 hc' g3 g4 g5 hl hl2 hl3
 simp only[zA] at g1
 obtain⟨rfl,rfl,rfl⟩:=g1
 obtain⟨rfl,rfl,rfl,rfl,rfl⟩:=by simpa only[zA] using g3
 subst g4 g5
 have jw:0<=j*w':=yM j0 h.w0
 have jw2:j*w'<=t'.length*w':=zX j1 h.w0
 simp only[F.iw]
 refine rB (λ x=> ?_) λ x=>rL (.inr _) ⟨rfl,hc',rfl,rfl,rfl, ?_, ?_, ?_⟩ λ _ _=>rfl
 ·have x:j<t'.length:=by simpa using x
  refine rD (Avy hL hN h hc' hcp j0 x (by omega)) ?_
  rintro⟨⟨T2,cp2,k2,s2⟩,⟨v1,v2,v3⟩,⟨c,w,n,t,e⟩,z,w2,d1,d2,d3,d4,d5,d6,d7,d8⟩ ⟨y1,hc2,y2,y3,y4,hl4,y5⟩
  dsimp only at hc2 y2 y3 y4 hl4⊢
  simp only[zA] at y1 y2 y5
  obtain⟨rfl,rfl,rfl,rfl⟩:=y1
  obtain⟨rfl,rfl,rfl,rfl,rfl⟩:=y2
  obtain⟨rfl,rfl⟩:=y5
  subst y3 y4
  rw[Af (n:=s2+1) (by omega) (by omega)]
  refine rC (Ae j0 x) (rC (Bg (by simp only[z9,z8];omega) (by omega)) (rC (Ae j0 (by omega)) (rC (Bg (by simp only[z9,z8];omega) (by omega)) (rL (.inl _) ⟨⟨rfl,by dsimp only;omega,by dsimp only;omega,hc2,rfl,rfl,rfl, ?_, ?_, ?_⟩,by dsimp only;omega⟩ λ _ _=>rfl))))
  ·dsimp only
   rw[yD,yE]
   omega
  ·simp only[zB,z9,z8];omega
  ·simp only[zB,z9,z8];omega
 ·have x:¬j<t'.length:=by simpa using x
  dsimp only
  rw[hl,show j=(t'.length:Int) by omega]
  omega
 ·have x:¬j<t'.length:=by simpa using x
  dsimp only;omega
 ·have x:¬j<t'.length:=by simpa using x
  dsimp only;omega
theorem Akh(hL:Src L)(hN:2000000<N)(h:DIn c w n t e){cur:Cu}(hc:Cur L cur):Ret (λ R q=>F.pw (R:=R) N ((c,w,n,t,e),cur) q) (λ o=>Cur L o.2.1/\I8 65536 o):=by
 obtain⟨u1,u2,u3⟩:=cur
 have cl:=h.cl
 have w0:=h.w0
 have w1:=h.w1
 have t0:=h.t0
 have t1:=h.t1
 have el:=h.el
 have nl:=h.nl
 have n0:=h.n0
 have n1:=h.n1
 simp only[F.pw]
 refine rD (Az hL hc (by omega)) ?_
 rintro⟨r,v1,v2,v3⟩ ⟨r0,r1,hc2⟩
 dsimp only at r0 r1 hc2⊢
 rw[Af (n:=2+r) (by omega) (by omega),Af (n:=w*2) (by omega) (by omega)]
 refine rD (Avw hN cl) ?_
 rintro⟨⟨T,cp⟩,⟨x1,x2,x3⟩,⟨c',w',n',t',e'⟩,z,w2,a1,a2,a3,a4,oc,on,ot,oe⟩ ⟨g1,g2,g3,g4,hoc,g5⟩
 dsimp only at g4 hoc⊢
 simp only[zA] at g1 g2 g3 g5
 obtain⟨rfl,rfl⟩:=g1
 obtain⟨rfl,rfl,rfl⟩:=g2
 obtain⟨rfl,rfl,rfl,rfl,rfl⟩:=g3
 obtain⟨rfl,rfl,rfl⟩:=g5
 subst g4
 have L2:=rO (s:=λ R=>F.ix (R:=R) N) (app:=λ _ d k=>k d) (P:=λ o:Cu×Int×Int×List Int×List Int×List Int×List Int×List Int×List Int×List Int×List Int=>Cur L o.1/\o.2.2.1=w'*2/\o.2.2.2.2.2.2.2.1=oc/\(o.2.2.2.2.2.2.2.2.1.length:Int)=(2+r)*(2*n'.length)/\(o.2.2.2.2.2.2.2.2.2.1.length:Int)=(2+r)*t'.length/\o.2.2.2.2.2.2.2.2.2.2.length=o.2.2.2.2.2.2.2.2.2.1.length) (λ y:(Int×Int×Int)×DbT=>(y.1.1,y.1.2.1)=((t'.length:Int),2+r)/\0<=y.1.2.2/\y.1.2.2<=2+r/\Cur L y.2.1/\y.2.2.1=(c',w',n',t',e')/\y.2.2.2.2.1=w'*2/\y.2.2.2.2.2.2.2.2.2.1=oc/\(y.2.2.2.2.2.2.2.2.2.2.1.length:Int)=y.1.2.2*(2*n'.length)/\(y.2.2.2.2.2.2.2.2.2.2.2.1.length:Int)=y.1.2.2*t'.length/\y.2.2.2.2.2.2.2.2.2.2.2.2.length=y.2.2.2.2.2.2.2.2.2.2.2.1.length) (λ y=>(2+r-y.1.2.2).toNat) (λ y hy=>by
  obtain⟨⟨T,cp,k⟩,⟨x1,x2,x3⟩,⟨c,w,n,t,e⟩,z,w2,a1,a2,a3,a4,oc',on,ot,oe⟩:=y
  obtain⟨g1,k0,k1,hc',g2,g3,g4,hl1,hl2,hl3⟩:=hy
  dsimp only at k0 k1 hc' g3 g4 hl1 hl2 hl3
  simp only[zA] at g1 g2
  obtain⟨rfl,rfl⟩:=g1
  obtain⟨rfl,rfl,rfl,rfl,rfl⟩:=g2
  subst g3 g4
  simp only[F.ix]
  refine rB (λ x=> ?_) λ x=>rL (.inr _) ⟨hc',rfl,rfl, ?_, ?_,hl3⟩ λ _ _=>rfl
  ·have x:k<2+r:=by simpa using x
   have m1:k*(2*(n.length:Int))<=2*20000:=zN (by omega) (by omega) (by omega) (by omega)
   have m2:k*(t.length:Int)<=2*10000:=zN (by omega) (by omega) (by omega) (by omega)
   refine rD (Avx hL hN h hc' (by omega) (by omega) (by omega) hl3) ?_
   rintro⟨⟨T,cp,k'⟩,⟨x1,x2,x3⟩,⟨c',w',n',t',e'⟩,z,w2,a1,a2,a3,a4,oc,on2,ot2,oe2⟩ ⟨g1,hc3,g2,g3,g4,hq1,hq2,hq3⟩
   dsimp only at hc3 g3 g4 hq1 hq2 hq3⊢
   simp only[zA] at g1 g2
   obtain⟨rfl,rfl,rfl⟩:=g1
   obtain⟨rfl,rfl,rfl,rfl,rfl⟩:=g2
   subst g3 g4
   rw[Af (n:=k'+1) (by omega) (by omega)]
   refine rL (.inl _) ⟨⟨rfl,by dsimp only;omega,by dsimp only;omega,hc3,rfl,rfl,rfl, ?_, ?_,by dsimp only;omega⟩,by dsimp only;omega⟩ λ _ _=>rfl
   ·dsimp only;rw[yD,yE];omega
   ·dsimp only;rw[yD,yE];omega
  ·have x:¬k<2+r:=by simpa using x
   dsimp only;rw[hl1,show k=2+r by omega]
  ·have x:¬k<2+r:=by simpa using x
   dsimp only;rw[hl2,show k=2+r by omega]) N (((t'.length:Int),2+r,0),(x1,x2,x3),(c',w',n',t',e'),z,w'*2,a1,a2,a3,a4,oc,[],[],[]) ⟨rfl,by simp,by dsimp only;omega,hc2,rfl,rfl,rfl,by simp,by simp,rfl⟩ (by dsimp only;omega)
 refine rD L2 ?_
 rintro⟨⟨x1,x2,x3⟩,z,w2,a1,a2,a3,a4,oc2,on,ot,oe⟩ ⟨hc3,g1,g2,q1,q2,q3⟩
 dsimp only at hc3 g1 g2 q1 q2 q3⊢
 subst g1 g2
 have m1:(2+r)*(2*(n'.length:Int))<=3*20000:=zN (by omega) (by omega) (by omega) (by omega)
 have m2:(2+r)*(t'.length:Int)<=3*10000:=zN (by omega) (by omega) (by omega) (by omega)
 have m3:2*1<=(2+r)*(2*(n'.length:Int)):=zN (by omega) (by omega) (by omega) (by omega)
 have m4:2*1<=(2+r)*(t'.length:Int):=zN (by omega) (by omega) (by omega) (by omega)
 exact rL _ ⟨hc3,by dsimp only;omega,by dsimp only;omega,hoc,by dsimp only;omega,by dsimp only;omega,by dsimp only;omega,by dsimp only;omega,q3,by dsimp only;rw[q1,q2,nl,Int.mul_assoc,Int.mul_left_comm 2,Int.mul_comm 2 w']⟩ λ _ _=>rfl
abbrev DrO:=Int×Cu×List Int×List Int×List Int×List Int
theorem I8.mono{a b:Nat}{o:DrO}(h:I8 a o)(e:a<=b):I8 b o:=by
 obtain⟨h1,h2,h3,h4,h5,h6,h7,h8,h9⟩:=h
 exact⟨h1,by omega,h3,h4,by omega,h6,by omega,h8,h9⟩
theorem I8.din{o:DrO}(h:I8 10000 o):DIn o.2.2.1 o.1 o.2.2.2.1 o.2.2.2.2.1 o.2.2.2.2.2:=by
 obtain⟨h1,h2,h3,h4,h5,h6,h7,h8,h9⟩:=h
 exact⟨h3,h1,h2,h6,h7,h8,h9,h4,h5⟩
theorem Agc(hL:Src L)(hN:10000000000<N){cur:Cu}(hc:Cur L cur):Ret (λ R q=>F.oj (R:=R) N cur q) (λ o=>Cur L o.2.1/\I8 65536 o):=by
 obtain⟨u1,u2,u3⟩:=cur
 simp only[F.oj]
 refine rD (Az hL hc (by omega)) ?_
 rintro⟨how,v1,v2,v3⟩ ⟨-,-,hc2⟩
 dsimp only at hc2⊢
 have j49:∀{cur:Cu} {z p:Int} {b1 b2 b3 b4 c n t e:List Int},Cur L cur->I8 10000 (p,cur,c,n,t,e)->Ret (λ R k=>jn (F.cd (R:=R) N k) (how,cur,z,p,b1,b2,b3,b4,c,n,t,e)) (λ o=>Cur L o.2.1/\I8 65536 o):=by
  rintro⟨x1,x2,x3⟩ z p b1 b2 b3 b4 c n t e hc hd
  simp only[jn,F.cd]
  refine rB (λ _=>rL _ ⟨hc,hd.mono (by omega)⟩ λ _ _=>rfl) λ _=>rB (λ _=>rD (Aff hL (by omega) hc) ?_) λ _=>rD (Akh hL (by omega) hd.din hc) ?_
  ·rintro⟨q1,⟨q2,q3,q4⟩,q5,q6,q7,q8⟩ ⟨y1,y2⟩
   dsimp only at y1⊢
   refine rD (Akh hL (by omega) (y2.mono (b:=10000) (by omega)).din y1) ?_
   rintro⟨q1,⟨q2,q3,q4⟩,q5,q6,q7,q8⟩ ho
   exact rL _ ho λ _ _=>rfl
  ·rintro⟨q1,⟨q2,q3,q4⟩,q5,q6,q7,q8⟩ ho
   exact rL _ ho λ _ _=>rfl
 refine rB (λ _=>rD (Aff hL (by omega) hc2) ?_) λ _=>rD (Aig hL (by omega) hc2 (by omega) (by omega) (by omega)) ?_
 ·rintro⟨q1,⟨q2,q3,q4⟩,q5,q6,q7,q8⟩ ⟨y1,y2⟩
  exact rL _ ⟨y1,y2.mono (by omega)⟩ λ _ _=>rfl
 ·rintro⟨rs,x1,x2,x3⟩ ⟨hc3,hr⟩
  dsimp only at hc3⊢
  have raw:RetK (K:=λ R=>DrO->Option R) (λ _ d k=>k d) (λ R k=>F.dw (R:=R) N (x1,x2,x3) λ x=>jn (F.cd N k) (how,x.2.1,0,x.1,[],[],[],[],x.2.2.1,x.2.2.2.1,x.2.2.2.2.1,x.2.2.2.2.2)) (λ o=>Cur L o.2.1/\I8 65536 o):=by
   refine rD (Aff hL (by omega) hc3) ?_
   rintro⟨q1,cu,q5,q6,q7,q8⟩ ⟨y1,y2⟩
   exact j49 y1 (y2.mono (by omega))
  refine rD (Aqs hN hr.2) ?_
  rintro⟨⟨w,code⟩,c,n,t,e⟩ ho
  dsimp only at ho⊢
  refine rB (λ _=>raw) λ x=>rB (λ _=>raw) λ y=> ?_
  have x:code=0:=by simpa using x
  have y:¬w>100:=by simpa using y
  obtain⟨hD,ht⟩:=ho x
  have w0:=hD.w0
  have t0:=hD.t0
  have el:=hD.el
  have nl:=hD.nl
  have m1:(t.length:Int)*w<=90*100:=zN ht (by omega) (by omega) (by omega)
  have m2:(1:Int)*1<=(t.length:Int)*w:=zN (by omega) w0 (by omega) (by omega)
  exact j49 hc3 ⟨by dsimp only;omega,by dsimp only;omega,hD.cl,by dsimp only;omega,by dsimp only;omega,t0,by dsimp only;omega,el,nl⟩
end
section
variable{N:Nat}{L:List Int}
abbrev FuT:=Cu×Int×Int×List Int×List Int×List Int×List Int×List Int×List Int×List Int×List Int
theorem Aq2(hN:2000000<N){m z w:Int}{cur:Cu}{a1 a2 a3 a4 b1 b2 b3:List Int}:Ret (λ R q=>F.ur (R:=R) N N ((m,0),cur,z,w,a1,a2,a3,a4,[],b1,b2,b3) q) (λ o=>o.1=m/\o.2.1=cur/\o.2.2.2.1=w/\o.2.2.2.2.2.2.2.2.1.length=256/\o.2.2.2.2.2.2.2.2.2=(b1,b2,b3)):=by
 refine rO (s:=λ R=>F.fh (R:=R) N) (λ y:(Int×Int)×FuT=>y.1.1=m/\0<=y.1.2/\y.1.2<=256/\y.2.1=cur/\y.2.2.2.1=w/\(y.2.2.2.2.2.2.2.2.1.length:Int)=y.1.2/\y.2.2.2.2.2.2.2.2.2=(b1,b2,b3)) (λ y=>(256-y.1.2).toNat) ?_ N _ ⟨rfl,by simp,by simp,rfl,rfl,by simp,rfl⟩ (by dsimp only;omega)
 rintro⟨⟨m',j⟩,⟨u1,u2,u3⟩,z',w',c1,c2,c3,c4,c5,c6,c7,c8⟩ ⟨g1,j0,j1,g2,g3,hl,g4⟩
 dsimp only at g1 j0 j1 g2 g3 hl g4
 subst g1 g2 g3
 simp only[F.fh]
 refine rB (λ x=> ?_) λ x=>rL (.inr _) ⟨rfl,rfl,rfl,by have:¬j<256:=(by simpa using x);dsimp only;omega,g4⟩ λ _ _=>rfl
 have x:j<256:=by simpa using x
 rw[Af (n:=j+1) (by omega) (by omega)]
 exact rC (Bg (by simp only[z9,z8];omega) (by omega)) (rL (.inl _) ⟨⟨rfl,by dsimp only;omega,by dsimp only;omega,rfl,rfl,by simp only[zB,z9,z8];omega,g4⟩,by dsimp only;omega⟩ λ _ _=>rfl)
abbrev FuK(w:Int)(cl:List Int)(o:FuT):Prop:=o.2.2.1=w/\o.2.2.2.2.2.2.2.1=cl
theorem Aq3(hN:2000000<N){m v s z w:Int}{cur:Cu}{a1 a2 a3 a4 cl nx tg en:List Int}(hn:nx.length<=100000):Ret (λ R q=>F.ut (R:=R) N N ((m,v,s,0),cur,z,w,a1,a2,a3,a4,cl,nx,tg,en) q) (λ o=>o.1=(m,v,s)/\o.2.1=cur/\FuK w cl o.2/\o.2.2.2.2.2.2.2.2.2.1.length=nx.length+256/\o.2.2.2.2.2.2.2.2.2.2=(tg,en)):=by
 refine rO (s:=λ R=>F.fj (R:=R) N) (λ y:(Int×Int×Int×Int)×FuT=>(y.1.1,y.1.2.1,y.1.2.2.1)=(m,v,s)/\0<=y.1.2.2.2/\y.1.2.2.2<=256/\y.2.1=cur/\FuK w cl y.2/\(y.2.2.2.2.2.2.2.2.2.1.length:Int)=nx.length+y.1.2.2.2/\y.2.2.2.2.2.2.2.2.2.2=(tg,en)) (λ y=>(256-y.1.2.2.2).toNat) ?_ N _ ⟨rfl,by simp,by simp,rfl,⟨rfl,rfl⟩,by simp,rfl⟩ (by dsimp only;omega)
 rintro⟨⟨m',v',s',j⟩,⟨u1,u2,u3⟩,z',w',c1,c2,c3,c4,c5,c6,c7,c8⟩ ⟨g1,j0,j1,g2,g3,hl,g4⟩
 dsimp only at j0 j1 g2 hl g4
 simp only[zA] at g1
 obtain⟨rfl,rfl,rfl⟩:=g1
 obtain⟨g5,g6⟩:=g3
 dsimp only at g5 g6
 subst g2 g5 g6
 simp only[F.fj]
 refine rB (λ x=> ?_) λ x=>rL (.inr _) ⟨rfl,rfl,⟨rfl,rfl⟩,by have:¬j<256:=(by simpa using x);dsimp only;omega,g4⟩ λ _ _=>rfl
 have x:j<256:=by simpa using x
 have j34:∀(p:Int) (b:Bool),RetK (K:=λ R=>(((Int×Int×Int×Int)×FuT)->Option R)×(((Int×Int×Int)×FuT)->Option R)) (aS λ _ d k=>k d) (λ R k=>jn (F.aw (R:=R) N k.1 k.2) ((m',v',s',j,p,b),(u1,u2,u3),z',w',c1,c2,c3,c4,c5,c6,c7,c8)) (Sm (λ y:(Int×Int×Int×Int)×FuT=>(y.1.1,y.1.2.1,y.1.2.2.1)=(m',v',s')/\0<=y.1.2.2.2/\y.1.2.2.2<=256/\y.2.1=(u1,u2,u3)/\FuK w' c5 y.2/\(y.2.2.2.2.2.2.2.2.2.1.length:Int)=nx.length+y.1.2.2.2/\y.2.2.2.2.2.2.2.2.2.2=(tg,en)) (λ y=>(256-y.1.2.2.2).toNat) ((m',v',s',j),(u1,u2,u3),z',w',c1,c2,c3,c4,c5,c6,c7,c8) (λ o=>o.1=(m',v',s')/\o.2.1=(u1,u2,u3)/\FuK w' c5 o.2/\o.2.2.2.2.2.2.2.2.2.1.length=nx.length+256/\o.2.2.2.2.2.2.2.2.2.2=(tg,en))):=by
  intro p b
  simp only[jn,F.aw]
  rw[Af (n:=j+1) (by omega) (by omega)]
  refine rB (λ _=> ?_) λ _=> ?_
  all_goals exact rC (Bg (by simp only[z9,z8];omega) (by omega)) (rL (.inl _) ⟨⟨rfl,by dsimp only;omega,by dsimp only;omega,rfl,⟨rfl,rfl⟩,by simp only[zB,z9,z8];omega,g4⟩,by dsimp only;omega⟩ λ _ _=>rfl)
 exact rB (λ _=>rB (λ _=>rB (λ _=>j34 _ _) λ _=>j34 _ _) λ _=>j34 _ _) λ _=>rB (λ _=>rB (λ _=>j34 _ _) λ _=>j34 _ _) λ _=>j34 _ _
theorem Aq1(hL:Src L)(hN:2000000<N){cur:Cu}(hc:Cur L cur):Ret (λ R q=>F.qv (R:=R) N cur q) (λ o=>o.1=256/\o.2.2.1.length=256/\o.2.2.2.1.length<=76800/\o.2.2.2.2.1.length<=300/\o.2.2.2.2.2.length<=300):=by
 obtain⟨u1,u2,u3⟩:=cur
 simp only[F.qv]
 refine rD (Aq2 hN) ?_
 rintro⟨m,⟨v1,v2,v3⟩,z,w,a1,a2,a3,a4,cl,nx,tg,en⟩ ⟨g1,g2,g3,hcl,g4⟩
 dsimp only at g1 g2 g3 hcl⊢
 simp only[zA] at g2 g4
 obtain⟨rfl,rfl,rfl⟩:=g2
 obtain⟨rfl,rfl,rfl⟩:=g4
 subst g1 g3
 refine rD (Az hL hc (by omega)) ?_
 rintro⟨r,v1,v2,v3⟩-
 dsimp only
 have L2:=rO (s:=λ R=>F.fm (R:=R) N) (app:=λ _ d k=>k d) (P:=λ o:FuT=>o.2.2.1=256/\o.2.2.2.2.2.2.2.1=cl/\o.2.2.2.2.2.2.2.2.1.length<=76800/\o.2.2.2.2.2.2.2.2.2.1.length<=300/\o.2.2.2.2.2.2.2.2.2.2.length<=300) (λ y:(Int×Int×Int)×FuT=>y.1.1=300/\0<=y.1.2.2/\y.1.2.2<=300/\y.2.2.2.1=256/\y.2.2.2.2.2.2.2.2.1=cl/\(y.2.2.2.2.2.2.2.2.2.1.length:Int)=256*y.1.2.2/\(y.2.2.2.2.2.2.2.2.2.2.1.length:Int)=y.1.2.2/\(y.2.2.2.2.2.2.2.2.2.2.2.length:Int)=y.1.2.2) (λ y=>(300-y.1.2.2).toNat) (λ y hy=>by
  obtain⟨⟨m,v,s⟩,⟨x1,x2,x3⟩,z,w,a1,a2,a3,a4,c5,c6,c7,c8⟩:=y
  obtain⟨g1,s0,s1,g2,g3,h1,h2,h3⟩:=hy
  dsimp only at g1 s0 s1 g2 g3 h1 h2 h3
  subst g1 g2 g3
  simp only[F.fm]
  refine rB (λ x=>rD (Aq3 hN (by omega)) ?_) λ x=>rL (.inr _) ⟨rfl,rfl,by dsimp only;omega,by dsimp only;omega,by dsimp only;omega⟩ λ _ _=>rfl
  have x:s<300:=by simpa using x
  rintro⟨⟨m,v',s'⟩,⟨x1,x2,x3⟩,z,w,a1,a2,a3,a4,d5,d6,d7,d8⟩ ⟨g1,-,g3,h4,g4⟩
  dsimp only[FuK] at g3 h4⊢
  simp only[zA] at g1 g4
  obtain⟨rfl,rfl,rfl⟩:=g1
  obtain⟨rfl,rfl⟩:=g4
  rw[Af (n:=s'+1) (by omega) (by omega)]
  exact rC (Bg (by simp only[z9,z8];omega) (by omega)) (rC (by decide) (rC (Bg (by simp only[z9,z8];omega) (by omega)) (rL (.inl _) ⟨⟨rfl,by dsimp only;omega,by dsimp only;omega,g3.1,g3.2,by dsimp only;omega,by simp only[zB,z9,z8];omega,by simp only[zB,z9,z8];omega⟩,by dsimp only;omega⟩ λ _ _=>rfl)))) N ((300,Aa .i64 (Aa .i64 (74+r)-1),0),(v1,v2,v3),z,256,a1,a2,a3,a4,cl,[],[],[]) ⟨rfl,by simp,by simp,rfl,rfl,by simp,by simp,by simp⟩ (by dsimp only;omega)
 refine rD L2 ?_
 rintro⟨⟨x1,x2,x3⟩,z,w,a1,a2,a3,a4,c5,c6,c7,c8⟩ ⟨g1,g2,h1,h2,h3⟩
 dsimp only at g1 g2 h1 h2 h3
 subst g1 g2
 exact rL _ ⟨rfl,hcl,h1,h2,h3⟩ λ _ _=>rfl
theorem Akl(hL:Src L)(hN:10000000000<N):Ret (λ R q=>F.ma (R:=R) N L q) (λ o=>-1000000<=o.1/\o.1<=1000000/\o.2.1.length<=100000/\o.2.2.1.length<=100000/\o.2.2.2.1.length<=100000/\o.2.2.2.2.length<=100000):=by
 simp only[F.ma]
 have fin:∀{o:DrO},I8 65536 o->-1000000<=o.1/\o.1<=1000000/\o.2.2.1.length<=100000/\o.2.2.2.1.length<=100000/\o.2.2.2.2.1.length<=100000/\o.2.2.2.2.2.length<=100000:=λ h=>by
  obtain⟨h1,h2,h3,h4,h5,h6,h7,h8,-⟩:=h
  omega
 refine rD (Akf hL (c:=(L,0,0)) ⟨rfl,by simp,by simp⟩) ?_
 rintro⟨r,v1,v2,v3⟩ ⟨-,-,hc⟩
 dsimp only at hc⊢
 refine rB (λ _=>rD (Agc hL hN hc) ?_) λ _=>rB (λ _=>rD (Az hL hc (by omega)) ?_) λ _=>rD (Agc hL hN hc) ?_
 ·rintro⟨q1,⟨q2,q3,q4⟩,q5,q6,q7,q8⟩ ⟨y1,y2⟩
  refine rD (Anw hL (by omega) y1 y2) ?_
  rintro⟨q1,⟨⟨q2,q3,q4⟩,q5,q6,q7,q8⟩,q9,q10,q11,q12⟩ ⟨-,h1,h2,h3,h4,h5,h6⟩
  dsimp only at h1 h2 h3 h4 h5 h6
  exact rL _ ⟨by dsimp only;omega,by dsimp only;omega,by dsimp only;omega,by dsimp only;omega,by dsimp only;omega,by dsimp only;omega⟩ λ _ _=>rfl
 ·rintro⟨p,q2,q3,q4⟩ ⟨-,-,hc2⟩
  dsimp only at hc2⊢
  refine rB (λ _=>rD (Aq1 hL (by omega) hc2) ?_) λ _=>rD (Avq hL (by omega) hc2) ?_
  ·rintro⟨q1,⟨q2,q3,q4⟩,q5,q6,q7,q8⟩ ⟨h1,h2,h3,h4,h5⟩
   dsimp only at h1 h2 h3 h4 h5
   exact rL _ ⟨by dsimp only;omega,by dsimp only;omega,by dsimp only;omega,by dsimp only;omega,by dsimp only;omega,by dsimp only;omega⟩ λ _ _=>rfl
  ·rintro⟨q1,⟨q2,q3,q4⟩,q5,q6,q7,q8⟩ ⟨y1,y2⟩
   exact rL _ (fin (y2.mono (by omega))) λ _ _=>rfl
 ·rintro⟨q1,⟨q2,q3,q4⟩,q5,q6,q7,q8⟩ ⟨y1,y2⟩
  exact rL _ (fin y2) λ _ _=>rfl
end
theorem Ang{α:Type}{P:List α->Prop}(h0:P [])(h1:∀l x,P l->P (l++[x]))(l:List α):P l:=by
 have:∀m:List α,P m.reverse:=by
  intro m
  induction m with
  | nil=>exact h0
  | cons a m ih=>rw[List.reverse_cons];exact h1 _ _ ih
 have h:=this l.reverse
 rwa[List.reverse_reverse] at h
theorem Ww{α β:Type}(f:α->β)(l:List α){i:Nat}(h:i<l.length):(l.take (i+1)).map f=(l.take i).map f++[f l[i]]:=by
 rw[zH (i:=i) h,List.map_append]
 rfl
theorem Pq:∀(l:List (Int×Int)),(∀p∈l,0<=p.1)->(l=[]/\l.foldl Cd (-1,0)=(-1,0))\/(l.foldl Cd (-1,0)∈l/\∀p∈l,p.2<(l.foldl Cd (-1,0)).2\/(p.2=(l.foldl Cd (-1,0)).2/\(l.foldl Cd (-1,0)).1<=p.1)):=by
 intro l
 induction l using Ang with
 | h0=>intro _;exact .inl ⟨rfl,rfl⟩
 | h1 l p ih=>
  intro h
  right
  rw[yH,List.foldl_cons,List.foldl_nil]
  have hl:∀q∈l,0<=q.1:=λ q hq=>h q (List.mem_append.2 (.inl hq))
  rcases ih hl with⟨rfl,h2⟩|⟨h1,h2⟩
  ·rw[h2]
   simp[Cd]
  ·generalize l.foldl Cd (-1,0)=b at h1 h2
   have hb:=hl b h1
   unfold Cd
   cases hc:(decide (b.1<0)||(decide (p.2>b.2)||(decide (p.2=b.2)&&decide (p.1<b.1))))<;>simp only[cond_true,cond_false]
   ·simp only[yX,Bool.and_eq_false_iff,decide_eq_false_iff_not] at hc
    refine⟨List.mem_append.2 (.inl h1),λ q hq=> ?_⟩
    rcases List.mem_append.1 hq with hq|hq
    ·exact h2 q hq
    ·have:q=p:=by simpa using hq
     subst this
     omega
   ·simp only[xL,zR,decide_eq_true_eq] at hc
    refine⟨List.mem_append.2 (.inr (by simp)),λ q hq=> ?_⟩
    rcases List.mem_append.1 hq with hq|hq
    ·have:=h2 q hq
     omega
    ·have:q=p:=by simpa using hq
     subst this
     omega
theorem Zc(l l':List (Int×Int))(h:∀p∈l,0<=p.1)(he:∀p,p∈l<->p∈l'):l.foldl Cd (-1,0)=l'.foldl Cd (-1,0):=by
 have h':∀p∈l',0<=p.1:=λ p hp=>h p ((he p).2 hp)
 rcases Pq l h with⟨rfl,h2⟩|⟨h1,h2⟩
 ·have:l'=[]:=by
   cases l' with
   | nil=>rfl
   | cons p r=>exact absurd ((he p).2 (by simp)) (by simp)
  rw[this]
 ·rcases Pq l' h' with⟨rfl,k2⟩|⟨k1,k2⟩
  ·exact absurd ((he _).1 h1) (by simp)
  ·have a:=h2 _ ((he _).2 k1)
   have b:=k2 _ ((he _).1 h1)
   refine Prod.ext ?_ ?_<;>omega
def cnt(x:Int)(l:List Int):Int:=(l.count x:Int)
theorem Am2(k z:Int):∀(l:List (Int×Int)),De eqI k z l=((l.find? λ p=>p.1==k).map (·.2)).getD z
 | []=>rfl
 | (a,x)::r=>by
  simp only[De,List.find?]
  by_cases h:k=a
  ·subst h;simp[eqI]
  ·have h1:eqI k a=false:=by simp[eqI,h]
   have h2:(a==k)=false:=by simp;exact λ e=>h e.symm
   rw[h1,h2]
   exact Am2 k z r
def D1(l:List Int):List (Int×Int):=l.foldl (λ m x=>Ii eqI x (De eqI x 0 m+1) m) []
theorem R1(k v:Int):∀(l:List (Int×Int)) (q:Int),(∃p∈Ii eqI k v l,p.1=q)<->q=k\/∃p∈l,p.1=q
 | [],q=>by simp[Ii];exact eq_comm
 | (a,x)::r,q=>by
  simp only[Ii]
  by_cases h:k=a
  ·subst h
   rw[show eqI k k=true by simp[eqI]]
   simp only[cond_true,yN]
   constructor
   ·rintro⟨p,rfl|hp,rfl⟩
    ·exact .inl rfl
    ·exact .inr ⟨p,.inr hp,rfl⟩
   ·rintro(rfl|⟨p,rfl|hp,rfl⟩)
    ·exact⟨_,.inl rfl,rfl⟩
    ·exact⟨_,.inl rfl,rfl⟩
    ·exact⟨p,.inr hp,rfl⟩
  ·rw[show eqI k a=false by simp[eqI,h]]
   simp only[cond_false,yN]
   have ih:=R1 k v r q
   constructor
   ·rintro⟨p,rfl|hp,rfl⟩
    ·exact .inr ⟨_,.inl rfl,rfl⟩
    ·rcases ih.1 ⟨p,hp,rfl⟩ with h|⟨p',h1,h2⟩
     ·exact .inl h
     ·exact .inr ⟨p',.inr h1,h2⟩
   ·rintro(rfl|⟨p,rfl|hp,rfl⟩)
    ·obtain⟨p,h1,h2⟩:=ih.2 (.inl rfl)
     exact⟨p,.inr h1,h2⟩
    ·exact⟨_,.inl rfl,rfl⟩
    ·obtain⟨p',h1,h2⟩:=ih.2 (.inr ⟨p,hp,rfl⟩)
     exact⟨p',.inr h1,h2⟩
theorem S3(k v:Int)(hk:0<=k):∀(l:List (Int×Int)),C2 l=true->C2 (Ii eqI k v l)=true
 | [],_=>by simp[Ii,C2,hk]
 | (a,x)::r,h=>by
  simp only[C2,zR,yI,decide_eq_true_eq,yJ] at h
  obtain⟨⟨h0,h1⟩,h2⟩:=h
  simp only[Ii]
  by_cases e:k=a
  ·subst e
   rw[show eqI k k=true by simp[eqI]]
   simp only[cond_true,C2,zR,yI,decide_eq_true_eq,yJ]
   exact⟨⟨h0,h1⟩,h2⟩
  ·rw[show eqI k a=false by simp[eqI,e]]
   simp only[cond_false,C2,zR,yI,decide_eq_true_eq,yJ]
   refine⟨⟨h0,λ p hp hpa=> ?_⟩,S3 k v hk r h2⟩
   rcases(R1 k v r p.1).1 ⟨p,hp,rfl⟩ with h|⟨p',q1,q2⟩
   ·exact e (h.symm.trans (by simpa using hpa))
   ·exact h1 p' q1 (by rw[q2];exact hpa)
theorem Yb(k v z q:Int):∀(l:List (Int×Int)),De eqI q z (Ii eqI k v l)=if q=k then v else De eqI q z l
 | []=>by
  simp only[Ii,De]
  by_cases h:q=k
  ·rw[show eqI q k=true by simp[eqI,h],if_pos h];rfl
  ·rw[show eqI q k=false by simp[eqI,h],if_neg h];rfl
 | (a,x)::r=>by
  simp only[Ii]
  by_cases e:k=a
  ·subst e
   rw[show eqI k k=true by simp[eqI]]
   simp only[cond_true,De]
   by_cases h:q=k
   ·rw[show eqI q k=true by simp[eqI,h],if_pos h];rfl
   ·rw[show eqI q k=false by simp[eqI,h],if_neg h];rfl
  ·rw[show eqI k a=false by simp[eqI,e]]
   simp only[cond_false,De]
   by_cases h:q=a
   ·subst h
    rw[show eqI q q=true by simp[eqI],if_neg (λ e':q=k=>e e'.symm)];rfl
   ·rw[show eqI q a=false by simp[eqI,h]]
    simp only[cond_false]
    exact Yb k v z q r
theorem Ox:∀(l:List (Int×Int)),C2 l=true->∀p∈l,De eqI p.1 0 l=p.2
 | [],_,p,hp=>by simp at hp
 | (a,x)::r,h,p,hp=>by
  simp only[C2,zR,yI,decide_eq_true_eq,yJ] at h
  obtain⟨⟨h0,h1⟩,h2⟩:=h
  rcases List.mem_cons.1 hp with rfl|hp
  ·simp[De,eqI]
  ·simp only[De]
   have:p.1≠a:=λ e=>h1 p hp (by simpa using e)
   rw[show eqI p.1 a=false by simp[eqI,this]]
   exact Ox r h2 p hp
theorem Acm(q z:Int):∀(l:List (Int×Int)),(∀p∈l,p.1≠q)->De eqI q z l=z
 | [],_=>rfl
 | (a,x)::r,h=>by
  simp only[De]
  rw[show eqI q a=false from by
   have:=h (a,x) (by simp)
   simp only[eqI,beq_eq_false_iff_ne]
   exact λ e=>this e.symm]
  exact Acm q z r λ p hp=>h p (by simp[hp])
theorem Rj(l:List Int)(h0:∀x∈l,0<=x):C2 (D1 l)=true/\(∀q,De eqI q 0 (D1 l)=cnt q l)/\∀q,(∃p∈D1 l,p.1=q)<->q∈l:=by
 induction l using Ang with
 | h0=>exact⟨rfl,λ q=>rfl,λ q=>by simp[D1]⟩
 | h1 l x ih=>
  obtain⟨i1,i2,i3⟩:=ih λ y hy=>h0 y (by simp[hy])
  have e:D1 (l++[x])=Ii eqI x (De eqI x 0 (D1 l)+1) (D1 l):=by simp[D1,yH]
  rw[e]
  refine⟨S3 _ _ (h0 x (by simp)) _ i1,λ q=> ?_,λ q=> ?_⟩
  ·rw[Yb,i2,i2]
   simp only[cnt,xC,yY]
   by_cases h:q=x
   ·subst h;simp
   ·rw[if_neg h]
    have:(x==q)=false:=by simpa using λ e:x=q=>h e.symm
    simp[this]
  ·rw[R1,i3]
   simp only[xM,List.mem_singleton]
   exact or_comm
def B8(l:List Int):Int:=((l.map λ x=>(x,cnt x l)).foldl Cd (-1,0)).1
theorem Abc(l:List Int)(h0:∀x∈l,0<=x):Sk (D1 l)=B8 l:=by
 obtain⟨i1,i2,i3⟩:=Rj l h0
 unfold Sk B8
 rw[Zc (D1 l) (l.map λ x=>(x,cnt x l))]
 ·intro p hp
  exact h0 _ ((i3 p.1).1 ⟨p,hp,rfl⟩)
 ·intro p
  rw[List.mem_map]
  constructor
  ·intro hp
   exact⟨p.1,(i3 p.1).1 ⟨p,hp,rfl⟩,by rw[<-i2,Ox _ i1 p hp]⟩
  ·rintro⟨x,hx,rfl⟩
   obtain⟨p,hp,hpx⟩:=(i3 x).2 hx
   have:=Ox _ i1 p hp
   rw[hpx,i2] at this
   have:p=(x,cnt x l):=Prod.ext hpx this.symm
   rw[<-this]
   exact hp
theorem Akb(x:Int)(l:List Int):0<=cnt x l/\cnt x l<=l.length:=by
 have:=yW (a:=x) (l:=l)
 unfold cnt
 omega
theorem Aqp{R:Type}(N:Nat)(l:List Int)(h0:∀x∈l,0<=x)(hl:l.length<=256)(b:Int)(k:Int->List (Int×Int)->Option R):∀(d m i:Nat),i+d=l.length->d<m->
  F.du N m b l (l.length:Int) (i:Int) (D1 (l.take i)) k=k b (D1 l):=by
 intro d
 induction d with
 | zero=>
  intro m i hi hm
  obtain⟨m,rfl⟩:∃z,m=z+1:=⟨m-1,by omega⟩
  simp only[chk,F.du,F.lw,zD]
  rw[if_neg (by omega),zI (by omega)]
 | succ d ih=>
  intro m i hi hm
  obtain⟨m,rfl⟩:∃z,m=z+1:=⟨m-1,by omega⟩
  simp only[chk,F.du,F.lw,zD]
  rw[if_pos (by omega),Ae (by omega) (by omega),Af (n:=(i:Int)+1) (by omega) (by omega)]
  simp only[cond_true,zG]
  simp only[A8 l (show i<l.length by omega)]
  have hc:=(Rj (l.take i) λ x hx=>h0 x (zZ hx)).2.1 l[i]
  have hb:=Akb l[i] (l.take i)
  have hlen:(l.take i).length<=256:=by rw[zJ];omega
  rw[Af (by rw[hc];omega) (by rw[hc];omega)]
  have e:Ii eqI l[i] (De eqI l[i] 0 (D1 (l.take i))+1) (D1 (l.take i))=D1 (l.take (i+1)):=by
   unfold D1
   rw[zH (i:=i) (by omega),yH]
   rfl
  rw[e]
  have:=ih m (i+1) (by omega) (by omega)
  rw[show((i+1:Nat):Int)=(i:Int)+1 by omega] at this
  exact this
theorem Nr{R:Type}(N:Nat)(l:List Int)(h0:∀x∈l,0<=x)(hl:l.length<=256)(hN:1048576<N)(k:Int->Option R):F.qy N l k=k (B8 l):=by
 simp only[chk,F.qy]
 have:=Aqp (R:=R) N l h0 hl (-1) (λ y7 y8=>F.kb N N y7 y8 (zW y8) (xT (zW y8)) 0 λ y14=>k y14) l.length N 0 (by omega) (by omega)
 rw[show D1 (l.take 0)=[] from rfl] at this
 refine this.trans ?_
 obtain⟨N,rfl⟩:∃z,N=z+1:=⟨N-1,by omega⟩
 simp only[chk,F.kb,F.sy]
 have hk:Oh (-1) (D1 l) (zW (D1 l)) (xT (zW (D1 l))) 0=true:=by
  simp[Oh,(Rj l h0).1]
 rw[hk,cond_true,Abc l h0]
def Hx(l:List Int)(i:Nat):Int×Int:=((l.take i).map λ x=>(x,cnt x l)).foldl Cd (-1,0)
theorem Ah6(l:List Int)(h0:∀x∈l,0<=x)(i:Nat):(Hx l i=(-1,0))\/(0<=(Hx l i).1):=by
 rcases Pq ((l.take i).map λ x=>(x,cnt x l)) (by
  intro p hp
  obtain⟨x,hx,rfl⟩:=List.mem_map.1 hp
  exact h0 x (zZ hx)) with⟨_,h⟩|⟨h,_⟩
 ·exact .inl h
 ·right
  obtain⟨x,hx,hxe⟩:=List.mem_map.1 h
  unfold Hx
  rw[<-hxe]
  exact h0 x (zZ hx)
def Dc(row:List Int)(df:Int):Nat->Nat->List Int
 | 0,_=>[]
 | d+1,i=>bif zE row i 0 !=df then(i:Int)::Dc row df d (i+1) else Dc row df d (i+1)
theorem Hs(row:List Int)(df:Int):∀(d i:Nat),∀c∈Dc row df d i,(i:Int)<=c/\c<i+d
 | 0,_,c,h=>by simp[Dc] at h
 | d+1,i,c,h=>by
  simp only[Dc] at h
  cases hc:(zE row i 0 !=df)<;>rw[hc] at h<;>simp only[cond_true,cond_false] at h
  ·have:=Hs row df d (i+1) c h;omega
  ·rcases List.mem_cons.1 h with rfl|h
   ·omega
   ·have:=Hs row df d (i+1) c h;omega
theorem Vv(row:List Int)(df:Int):∀(d i:Nat),(Dc row df d i).length<=d
 | 0,_=>by simp[Dc]
 | d+1,i=>by
  simp only[Dc]
  have:=Vv row df d (i+1)
  cases(zE row i 0 !=df)<;>simp only[cond_true,cond_false,z9]<;>omega
theorem S5(row:List Int)(df:Int):∀(d i:Nat),(Dc row df d i).Pairwise (·<·)
 | 0,_=>by simp[Dc]
 | d+1,i=>by
  simp only[Dc]
  have h:=S5 row df d (i+1)
  cases(zE row i 0 !=df)<;>simp only[cond_true,cond_false]
  ·exact h
  ·refine List.pairwise_cons.2 ⟨λ c hc=> ?_,h⟩
   have:=Hs row df d (i+1) c hc
   omega
def F3(ck:List Int)(k:Int):Bool:=decide ((ck.length:Int)<=k)||zE ck k.toNat 0==-1
def E4(ck odd:List Int)(k:Int):Bool:=odd.all λ c=>F3 ck (k+c)
def Gu(ck odd:List Int):Nat->Nat->Nat
 | 0,k=>k
 | d+1,k=>bif E4 ck odd k then k else Gu ck odd d (k+1)
theorem Aag(ck odd:List Int):∀(d k:Nat),Gu ck odd d k<=k+d
 | 0,k=>zY _
 | d+1,k=>by
  simp only[Gu]
  have:=Aag ck odd d (k+1)
  cases E4 ck odd k<;>simp only[cond_true,cond_false]<;>omega
theorem Yp(ck odd:List Int):∀(j d k:Nat),(∀i,k<=i->i<k+j->E4 ck odd i=false)->Gu ck odd (j+d) k=Gu ck odd d (k+j)
 | 0,d,k,_=>by rw[xB,Nat.add_zero]
 | j+1,d,k,h=>by
  rw[show j+1+d=(j+d)+1 by omega]
  simp only[Gu]
  rw[h k (zY _) (by omega),cond_false,Yp ck odd j d (k+1) λ i h1 h2=>h i (by omega) (by omega)]
  congr 1
  omega
theorem U9{ck odd:List Int}(ho:∀c∈odd,0<=c){k:Int}(hk:(ck.length:Int)<=k):E4 ck odd k=true:=by
 unfold E4
 rw[List.all_eq_true]
 intro c hc
 have:=ho c hc
 unfold F3
 rw[decide_eq_true (by omega),yQ]
def ext(l:List Int)(n:Nat)(v:Int):List Int:=l++zU (n-l.length) v
theorem Hb(l:List Int)(n:Nat)(v:Int):(ext l n v).length=max l.length n:=by
 simp only[ext,zB,zO]
 omega
theorem Zi{l:List Int}{n:Nat}(v:Int)(h:n<=l.length):ext l n v=l:=by
 simp only[ext,Nat.sub_eq_zero_of_le h,List.replicate_zero,yF]
theorem P5{l:List Int}{n:Nat}(v:Int)(h:l.length<n):ext (l++[v]) n v=ext l n v:=by
 simp only[ext,zB,zF,zM]
 rw[show n-l.length=(n-(l.length+1))+1 by omega,List.replicate_succ]
 rfl
def O5(k:Nat)(row:List Int)(s:Int)(p:List Int×List Int)(c:Int):List Int×List Int:=
 ((ext p.1 (k+c.toNat+1) 0).set (k+c.toNat) (zE row c.toNat 0),(ext p.2 (k+c.toNat+1) (-1)).set (k+c.toNat) s)
def Ia(k:Nat)(row:List Int)(s:Int)(odd:List Int)(p:List Int×List Int):List Int×List Int:=odd.foldl (O5 k row s) p
structure Iv(n:Nat)(p:List Int×List Int):Prop where
 len:p.1.length=p.2.length
 size:p.2.length<=60000
 low:∀x∈p.2,-1<=x
theorem O6{k:Nat}{row:List Int}{s:Int}{p:List Int×List Int}{c:Int}(hs:0<=s)(hk:(k:Int)+c<60000)(h0:0<=c)(h:Iv 0 p):Iv 0 (O5 k row s p c):=by
 refine⟨?_, ?_, ?_⟩
 ·simp only[O5,zP,Hb,h.len]
 ·simp only[O5,zP,Hb]
  have:=h.size
  omega
 ·intro x hx
  rcases yC hx with hx|rfl
  ·simp only[ext,xM,List.mem_replicate] at hx
   rcases hx with hx|⟨_,rfl⟩
   ·exact h.low x hx
   ·omega
  ·omega
theorem Lu{k:Nat}{row:List Int}{s:Int}(hs:0<=s):∀{odd:List Int} {p:List Int×List Int},(∀c∈odd,0<=c/\(k:Int)+c<60000)->Iv 0 p->Iv 0 (Ia k row s odd p)
 | [],_,_,h=>h
 | c::odd,p,ho,h=>by
  have hc:=ho c (by simp)
  exact Lu (odd:=odd) hs (λ d hd=>ho d (by simp[hd])) (O6 hs hc.2 hc.1 h)
def H6(ck:List Int)(j:Nat):Prop:=j<ck.length/\0<=zE ck j 0
theorem Afd{k:Nat}{row:List Int}{s:Int}{p:List Int×List Int}{c:Int}(hs:0<=s){j:Nat}(h:H6 p.2 j):H6 (O5 k row s p c).2 j:=by
 obtain⟨h1,h2⟩:=h
 refine⟨by simp only[O5,zP,Hb];omega, ?_⟩
 simp only[O5]
 have hl:j<(ext p.2 (k+c.toNat+1) (-1)).length:=by rw[Hb];omega
 rw[List.getD_eq_getElem?_getD,List.getElem?_set]
 by_cases e:k+c.toNat=j
 ·rw[if_pos e,if_pos (by omega)]
  exact hs
 ·rw[if_neg e,<-List.getD_eq_getElem?_getD]
  have:zE (ext p.2 (k+c.toNat+1) (-1)) j 0=zE p.2 j 0:=by
   simp only[ext,List.getD_eq_getElem?_getD,List.getElem?_append_left h1]
  rw[this]
  exact h2
theorem S7{k:Nat}{row:List Int}{s:Int}(hs:0<=s):∀{odd:List Int} {p:List Int×List Int} {j:Nat},H6 p.2 j->H6 (Ia k row s odd p).2 j
 | [],_,_,h=>h
 | _::odd,_,_,h=>S7 (odd:=odd) hs (Afd hs h)
theorem V7{ck:List Int}(hlow:∀x∈ck,-1<=x)(j:Nat):F3 ck j=false<->H6 ck j:=by
 simp only[F3,H6,zG,yX,decide_eq_false_iff_not]
 by_cases h:j<ck.length
 ·rw[A8 ck h]
  have:=hlow ck[j] (zC h)
  by_cases h2:0<=ck[j]
  ·have e:(ck[j]==-1)=false:=by simp;omega
   exact⟨λ _=>⟨h,h2⟩,λ _=>⟨by omega,e⟩⟩
  ·have e:(ck[j]==-1)=true:=by simp;omega
   exact⟨λ k=>(by rw[e] at k;cases k.2),λ k=>(h2 k.2).elim⟩
 ·exact⟨λ k=>(k.1 (by omega)).elim,λ k=>(h k.1).elim⟩
theorem Xq{ck odd:List Int}{k:Int}{i:Nat}(h:i<odd.length):E4 ck (odd.drop i) k=(F3 ck (k+odd[i])&&E4 ck (odd.drop (i+1)) k):=by
 simp only[E4]
 rw[zT h,List.all_cons]
abbrev I4:=List Int×List Int×(List Int×List Int)
def Cr(row:List Int)(s:Nat)(st:I4):Option I4:=
 if Dc row (B8 row) row.length 0=[] then some (st.1++[0],st.2.1++[B8 row],st.2.2)
 else if∀c∈Dc row (B8 row) row.length 0,(Gu st.2.2.2 (Dc row (B8 row) row.length 0) st.2.2.2.length 0:Int)+c<60000 then
  some (st.1++[(Gu st.2.2.2 (Dc row (B8 row) row.length 0) st.2.2.2.length 0:Int)],st.2.1++[B8 row],Ia (Gu st.2.2.2 (Dc row (B8 row) row.length 0) st.2.2.2.length 0) row s (Dc row (B8 row) row.length 0) st.2.2)
 else none
def Cq(rows:Nat->List Int):Nat->Nat->I4->Option I4
 | 0,_,st=>some st
 | d+1,s,st=>match Cr (rows s) s st with
  | some st'=>Cq rows d (s+1) st'
  | none=>none
def Bq(n:List Int)(w s:Nat):List Int:=(n.take ((s+1)*w)).drop (s*w)
theorem R8{n:List Int}{w s t:Nat}(hn:n.length=t*w)(hs:s<t):(Bq n w s).length=w:=by
 have:(s+1)*w<=t*w:=yK w hs
 have e:(s+1)*w=s*w+w:=by rw[xF,xG]
 simp only[Bq,yP,zJ]
 omega
theorem R9{n:List Int}{w s:Nat}{x:Int}(h:x∈Bq n w s):x∈n:=zZ (yZ h)
theorem Hd{row:List Int}{s:Nat}{st st':I4}(h:Cr row s st=some st')(hs:Iv 0 st.2.2):Iv 0 st'.2.2:=by
 unfold Cr at h
 split at h
 ·cases h;exact hs
 ·split at h
  ·rename_i hc
   cases h
   exact Lu (by omega) (λ c hc'=>⟨by have:=Hs _ _ _ _ c hc';omega,hc c hc'⟩) hs
  ·cases h
theorem Ij{row:List Int}{s:Nat}{st st':I4}(h:Cr row s st=some st'):st'.1.length=st.1.length+1/\st'.2.1.length=st.2.1.length+1:=by
 unfold Cr at h
 split at h
 ·cases h;simp
 ·split at h
  ·cases h;simp
  ·cases h
theorem Afs:Iv 0 ([],[]):=⟨rfl,by simp,by simp⟩
theorem Ac5{l:List Int}(h:l.Pairwise (·<·))(hp:0<l.length):∀c∈l,c<=l[l.length-1]:=by
 intro c hc
 obtain⟨i,hi,rfl⟩:=yL hc
 by_cases e:i=l.length-1
 ·subst e;exact Int.le_refl _
 ·have:=List.pairwise_iff_getElem.1 h i (l.length-1) hi (by omega) (by omega)
  omega
theorem Z2(rows:Nat->List Int):∀(d s:Nat) (st st':I4),Cq rows d s st=some st'->Iv 0 st.2.2->Iv 0 st'.2.2/\st'.1.length=st.1.length+d/\st'.2.1.length=st.2.1.length+d
 | 0,s,st,st',h,hS=>by
  simp only[Cq,xD] at h
  subst h
  exact⟨hS,rfl,rfl⟩
 | d+1,s,st,st',h,hS=>by
  simp only[Cq] at h
  split at h
  ·rename_i st1 hp
   have hl:=Ij hp
   obtain⟨k1,k2,k3⟩:=Z2 rows d (s+1) st1 st' h (Hd hp hS)
   exact⟨k1,by omega,by omega⟩
  ·cases h
section
variable{R:Type}{N:Nat}
theorem sc{d m:Nat}(h:d<m):∃z,m=z+1:=⟨m-1,by omega⟩
theorem up1(i:Nat):((i+1:Nat):Int)=(i:Int)+1:=by omega
theorem Gz{n:Nat}(h:n<=4000000):xS n (Ar 8)=true:=Bg (by omega) (by omega)
theorem Av0(l:List Int)(hl:l.length<=256){a c:List Int}{b t x u v:Int}{k}:∀(d m i:Nat),i+d=l.length->d<m->
  F.nv (R:=R) N m (a,b,t,x,cnt x (l.take i),c,u,v,l,(l.length:Int),(i:Int)) k=k (a,b,t,x,cnt x l,c,u,v):=by
 intro d
 induction d with
 | zero=>
  intro m i hi hm
  obtain⟨m,rfl⟩:=sc hm
  simp only[F.nv,lp,F.ft,zD]
  rw[if_neg (by omega),zI (by omega)]
 | succ d ih=>
  intro m i hi hm
  obtain⟨m,rfl⟩:=sc hm
  simp only[F.nv,lp,F.ft,zD,chk]
  have hb:=Akb x (l.take i)
  have hlen:(l.take i).length<=256:=by rw[zJ];omega
  rw[if_pos (by omega),Ae (by omega) (by omega),Af (n:=(i:Int)+1) (by omega) (by omega),Af (n:=cnt x (l.take i)+1) (by omega) (by omega)]
  simp only[cond_true,zG]
  simp only[A8 l (show i<l.length by omega)]
  have:=ih m (i+1) (by omega) (by omega)
  rw[up1] at this
  have e:cnt x (l.take (i+1))=if x=l[i] then cnt x (l.take i)+1 else cnt x (l.take i):=by
   rw[zH (i:=i) (by omega)]
   simp only[cnt,xC,yY]
   by_cases h:x=l[i]
   ·simp[h]
   ·rw[if_neg h]
    have:(l[i]==x)=false:=by simpa using λ e:l[i]=x=>h e.symm
    simp[this]
  rw[e] at this
  by_cases h:x=l[i]
  ·rw[if_pos h] at this
   rw[show(x==l[i])=true by simpa using h,cond_true]
   exact this
  ·rw[if_neg h] at this
   rw[show(x==l[i])=false by simpa using h,cond_false]
   exact this
theorem Avz(l:List Int)(h0:∀x∈l,0<=x)(hl:l.length<=256)(hN:2000000<N){k}:∀(d m i:Nat),i+d=l.length->d<m->
  F.ny (R:=R) N m (l,(Hx l i).1,(Hx l i).2,l,(l.length:Int),(i:Int)) k=k (B8 l):=by
 intro d
 induction d with
 | zero=>
  intro m i hi hm
  obtain⟨m,rfl⟩:=sc hm
  simp only[F.ny,lp,F.fu,zD]
  rw[if_neg (by omega)]
  simp only[Hx,B8]
  rw[zI (by omega)]
 | succ d ih=>
  intro m i hi hm
  obtain⟨m,rfl⟩:=sc hm
  simp only[F.ny,lp,F.fu,zD,chk]
  rw[if_pos (by omega),Ae (by omega) (by omega)]
  simp only[cond_true,zG]
  simp only[A8 l (show i<l.length by omega)]
  have h2:=λ k'=>Av0 (R:=R) (N:=N) l hl (a:=l) (b:=(Hx l i).1) (t:=(Hx l i).2) (x:=l[i]) (c:=l) (u:=(l.length:Int)) (v:=(i:Int)) (k:=k') l.length N 0 (by omega) (by omega)
  simp only[show cnt l[i] (yS 0 l)=0 from rfl,show((0:Nat):Int)=0 from rfl] at h2
  rw[h2]
  dsimp only
  rw[Af (n:=(i:Int)+1) (by omega) (by omega)]
  have ih':=ih m (i+1) (by omega) (by omega)
  rw[up1] at ih'
  have e:Hx l (i+1)=Cd (Hx l i) (l[i],cnt l[i] l):=by
   unfold Hx
   rw[Ww _ l (by omega),yH]
   rfl
  have hpos:0<cnt l[i] l:=by
   unfold cnt
   have:0<l.count l[i]:=List.count_pos_iff.2 (zC _)
   omega
  have hbt:=Ah6 l h0 i
  generalize Hx l i=bt at e hbt⊢
  generalize cnt l[i] l=c at e hpos⊢
  have hx:=h0 l[i] (zC _)
  generalize l[i]=x at e hx⊢
  rw[e] at ih'
  unfold Cd at ih'
  simp only at ih'
  by_cases g1:c>bt.2
  ·rw[if_pos g1]
   rw[show(decide (bt.1<0)||(decide (c>bt.2)||(decide (c=bt.2)&&decide (x<bt.1))))=true by simp[g1]] at ih'
   exact ih'
  ·rw[if_neg g1]
   have hb0:¬bt.1<0:=by
    rcases hbt with h|h
    ·rw[h] at g1;simp at g1;omega
    ·omega
   by_cases g2:c=bt.2
   ·rw[show(c==bt.2)=true by simpa using g2,cond_true]
    by_cases g3:x<bt.1
    ·rw[if_pos g3]
     rw[show(decide (bt.1<0)||(decide (c>bt.2)||(decide (c=bt.2)&&decide (x<bt.1))))=true by simp[g2,g3]] at ih'
     exact ih'
    ·rw[if_neg g3]
     rw[show(decide (bt.1<0)||(decide (c>bt.2)||(decide (c=bt.2)&&decide (x<bt.1))))=false by simp[g1,g3,hb0]] at ih'
     exact ih'
   ·rw[show(c==bt.2)=false by simpa using g2,cond_false]
    rw[show(decide (bt.1<0)||(decide (c>bt.2)||(decide (c=bt.2)&&decide (x<bt.1))))=false by simp[g1,g2,hb0]] at ih'
    exact ih'
theorem Ac6(l:List Int)(h0:∀x∈l,0<=x)(hl:l.length<=256)(hN:2000000<N)(k):F.qw (R:=R) N l k=k (B8 l):=by
 simp only[F.qw]
 exact Avz l h0 hl hN l.length N 0 (by omega) (by omega)
theorem Ans(ck:List Int)(k:Int)(h0:0<=k)(c):F.tc (R:=R) (ck,k) c=c (F3 ck k):=by
 simp only[F.tc,F3,zD,chk]
 by_cases h:(ck.length:Int)<=k
 ·rw[if_pos (by omega),decide_eq_true h,yQ]
 ·rw[if_neg (by omega),Ae h0 (by omega),decide_eq_false h,xR,cond_true]
abbrev L5:=List Int×Int×List Int×List Int×List Int
abbrev L13:=List Int×List Int×List Int×List Int×List Int×List Int×List Int×List Int×List Int×List Int×List Int×List Int×List Int
theorem Ar3(row:List Int)(df:Int)(hl:row.length<=256){x31 x34 x35 x44 x45:Int}{x32 a:List Int}{q:L5}{r:L13}{k}:∀(d m i:Nat) (acc:List Int),i+d=row.length->d<m->acc.length<=i->
  F.so (R:=R) N m ((x31,x32,df,x34,x35,row,(row.length:Int),(i:Int)),q,x44,x45,acc,a,r) k=k ((x31,x32,x34,x35),q,x44,x45,acc++Dc row df d i,a,r):=by
 obtain⟨q1,q2,q3,q4,q5⟩:=q
 obtain⟨r1,r2,r3,r4,r5,r6,r7,r8,r9,r10,r11,r12,r13⟩:=r
 intro d
 induction d with
 | zero=>
  intro m i acc hi hm ha
  obtain⟨m,rfl⟩:=sc hm
  simp only[F.so,lp,F.om,zD]
  rw[if_neg (by omega)]
  simp[Dc]
 | succ d ih=>
  intro m i acc hi hm ha
  obtain⟨m,rfl⟩:=sc hm
  simp only[F.so,lp,F.om,zD,chk,zF]
  rw[if_pos (by omega),Ae (by omega) (by omega),Af (n:=(i:Int)+1) (by omega) (by omega),Gz (n:=acc.length+1) (by omega)]
  simp only[cond_true,zG,Dc]
  cases hc:(zE row i 0 !=df)
  ·have:=ih m (i+1) acc (by omega) (by omega) (by omega)
   rw[up1] at this
   exact this
  ·have:=ih m (i+1) (acc++[(i:Int)]) (by omega) (by omega) (by simp;omega)
   rw[up1,zM] at this
   exact this
section
variable{a1 a2 a3 a4 a5 a6 a7 a8 a9 b1 b2 b3 b4:List Int}{q:L5}{x y z w:Int}{g:List Int}
theorem Ahi(odd ck:List Int)(k:Nat)(hk:k<=60000)(hl:odd.length<=256)(ho:∀c∈odd,0<=c/\c<256){x0:Int}{u v:Int}{e}:∀(d m i:Nat),i+d=odd.length->d<m->
  F.sq (R:=R) N m ((x0,g,(k:Int),true,u,v,(odd.length:Int),(i:Int)),q,x,y,odd,a1,a2,a3,a4,a5,a6,a7,a8,a9,b1,b2,b3,b4,ck) e=e ((x0,g,(k:Int),E4 ck (odd.drop i) k,u,v),q,x,y,odd,a1,a2,a3,a4,a5,a6,a7,a8,a9,b1,b2,b3,b4,ck):=by
 obtain⟨q1,q2,q3,q4,q5⟩:=q
 intro d
 induction d with
 | zero=>
  intro m i hi hm
  obtain⟨m,rfl⟩:=sc hm
  simp only[F.sq,lp,F.oo,zD]
  rw[if_neg (by omega),zS (by omega)]
  rfl
 | succ d ih=>
  intro m i hi hm
  obtain⟨m,rfl⟩:=sc hm
  simp only[F.sq,lp,F.oo,zD,chk]
  rw[if_pos (by omega),Ae (by omega) (by omega),Af (n:=(i:Int)+1) (by omega) (by omega)]
  simp only[cond_true,zG]
  simp only[A8 odd (show i<odd.length by omega)]
  have hc:=ho odd[i] (zC _)
  rw[Af (by omega) (by omega),Ans _ _ (by omega),Xq (by omega)]
  cases hf:F3 ck (k+odd[i])
  ·simp
  ·have:=ih m (i+1) (by omega) (by omega)
   rw[up1] at this
   exact this
theorem Ar4(hN:2000000<N)(odd ck:List Int)(hl:odd.length<=256)(ho:∀c∈odd,0<=c/\c<256)(hck:ck.length<=60000){x0:Int}{u v:Int}{e}:∀(d m k:Nat),k+d=ck.length->d+1<m->
  F.oq (R:=R) N m ((x0,g,(k:Int),false,u,v),q,x,y,odd,a1,a2,a3,a4,a5,a6,a7,a8,a9,b1,b2,b3,b4,ck) e=e ((x0,g,((Gu ck odd d k:Nat):Int),u,v),q,x,y,odd,a1,a2,a3,a4,a5,a6,a7,a8,a9,b1,b2,b3,b4,ck):=by
 have stop:∀(m:Nat) (k:Int),0<m->F.oq (R:=R) N m ((x0,g,k,true,u,v),q,x,y,odd,a1,a2,a3,a4,a5,a6,a7,a8,a9,b1,b2,b3,b4,ck) e=e ((x0,g,k,u,v),q,x,y,odd,a1,a2,a3,a4,a5,a6,a7,a8,a9,b1,b2,b3,b4,ck):=by
  intro m k hm
  obtain⟨m,rfl⟩:=sc hm
  obtain⟨q1,q2,q3,q4,q5⟩:=q
  simp only[F.oq,lp,F.km,yO,cond_false]
 intro d
 induction d with
 | zero=>
  intro m k hk hm
  obtain⟨m,rfl⟩:=sc hm
  have h6:=λ e=>Ahi (R:=R) (N:=N) (q:=q) (g:=g) (x:=x) (y:=y) (a1:=a1) (a2:=a2) (a3:=a3) (a4:=a4) (a5:=a5) (a6:=a6) (a7:=a7) (a8:=a8) (a9:=a9) (b1:=b1) (b2:=b2) (b3:=b3) (b4:=b4) odd ck k (by omega) hl ho (x0:=x0) (u:=u) (v:=v) (e:=e) odd.length N 0 (by omega) (by omega)
  simp only[zK] at h6
  have st:=stop m k (by omega)
  obtain⟨q1,q2,q3,q4,q5⟩:=q
  simp only[F.oq,lp,F.km,yT,cond_true]
  rw[h6,zV,U9 (λ c hc=>(ho c hc).1) (by omega)]
  simp only[yO,cond_false,Gu]
  exact st
 | succ d ih=>
  intro m k hk hm
  obtain⟨m,rfl⟩:=sc hm
  have h6:=λ e=>Ahi (R:=R) (N:=N) (q:=q) (g:=g) (x:=x) (y:=y) (a1:=a1) (a2:=a2) (a3:=a3) (a4:=a4) (a5:=a5) (a6:=a6) (a7:=a7) (a8:=a8) (a9:=a9) (b1:=b1) (b2:=b2) (b3:=b3) (b4:=b4) odd ck k (by omega) hl ho (x0:=x0) (u:=u) (v:=v) (e:=e) odd.length N 0 (by omega) (by omega)
  simp only[zK] at h6
  have st:=stop m k (by omega)
  have ih':=ih m (k+1) (by omega) (by omega)
  obtain⟨q1,q2,q3,q4,q5⟩:=q
  simp only[F.oq,lp,F.km,yT,cond_true]
  rw[h6,zV]
  simp only[Gu]
  cases hf:E4 ck odd k
  ·simp only[yT,cond_true,cond_false]
   rw[Af (by omega) (by omega)]
   rw[up1] at ih'
   exact ih'
  ·simp only[yO,cond_false,cond_true]
   exact st
theorem Anv(n:Nat)(hn:n<=60000)(k c:Int)(hkc:k+c+1=n)(h0:0<=k+c){x0 x1 x2 x3 x4:Int}{e}:∀(d m:Nat) (nx ck:List Int),n-ck.length=d->d<m->nx.length=ck.length->ck.length<=60000->
  F.rt (R:=R) N m ((x0,g,k,c,x1,x2,x3,x4),q,x,y,a1,a2,a3,a4,a5,a6,a7,a8,a9,b1,b2,b3,b4,nx,ck) e=e ((x0,g,k,c,x1,x2,x3,x4),q,x,y,a1,a2,a3,a4,a5,a6,a7,a8,a9,b1,b2,b3,b4,ext nx n 0,ext ck n (-1)):=by
 obtain⟨q1,q2,q3,q4,q5⟩:=q
 intro d
 induction d with
 | zero=>
  intro m nx ck hd hm hl hs
  obtain⟨m,rfl⟩:=sc hm
  simp only[F.rt,lp,F.my,zD]
  rw[Af (by omega) (by omega),if_neg (by omega),Zi _ (by omega),Zi _ (by omega)]
 | succ d ih=>
  intro m nx ck hd hm hl hs
  obtain⟨m,rfl⟩:=sc hm
  have ih':=ih m (nx++[0]) (ck++[-1]) (by simp;omega) (by omega) (by simp[hl]) (by simp;omega)
  rw[P5 _ (by omega),P5 _ (by omega)] at ih'
  simp only[F.rt,lp,F.my,zD,chk,zF]
  rw[Af (by omega) (by omega),if_pos (by omega),Gz (n:=nx.length+1) (by omega),Gz (n:=ck.length+1) (by omega)]
  simp only[cond_true]
  exact ih'
theorem Ar5(hN:2000000<N)(row odd:List Int)(k:Nat)(hk:k<=60000)(hrow:row.length<=256)(hl:odd.length<=256)(ho:∀c∈odd,0<=c/\c<row.length)(s:Int)(hs:0<=s){u v:Int}{e1 e2}{r:Option R}(hq2:∀a1 a2 a3 a4 a5 a6 a7,e2 ((2,u,v),q,0,y,[],[],[],[],[],[],[],a1,a2,a3,a4,a5,a6,a7)=r):∀(d m i:Nat) (p:List Int×List Int),i+d=odd.length->d<m->Iv 0 p->
  F.sr (R:=R) N m ((s,row,(k:Int),u,v,(odd.length:Int),(i:Int)),q,x,y,odd,a1,a2,a3,a4,a5,a6,a7,a8,a9,b1,b2,b3,p.1,p.2) (e1,e2)=
   if(∀c∈odd.drop i,(k:Int)+c<60000) then e1 ((u,v),q,x,y,a1,a2,a3,a4,a5,a6,a7,a8,a9,b1,b2,b3,Ia k row s (odd.drop i) p) else r:=by
 intro d
 induction d with
 | zero=>
  intro m i p hi hm hp
  obtain⟨m,rfl⟩:=sc hm
  obtain⟨q1,q2,q3,q4,q5⟩:=q
  simp only[F.sr,lp,F.ou,zD]
  rw[if_neg (by omega),zS (by omega),if_pos (by simp)]
  rfl
 | succ d ih=>
  intro m i p hi hm hp
  obtain⟨m,rfl⟩:=sc hm
  have hil:i<odd.length:=by omega
  have hc:=ho odd[i] (zC _)
  rw[zT hil]
  have ih':=λ p=>ih m (i+1) p (by omega) (by omega)
  rw[up1] at ih'
  have h10:=λ n hn c h1 h2 e hp1=>Anv (R:=R) (N:=N) (q:=q) (g:=row) (x:=x) (y:=y) (a1:=odd) (a2:=a1) (a3:=a2) (a4:=a3) (a5:=a4) (a6:=a5) (a7:=a6) (a8:=a7) (a9:=a8) (b1:=a9) (b2:=b1) (b3:=b2) (b4:=b3) (x0:=s) (x1:=u) (x2:=v) (x3:=(odd.length:Int)) (x4:=(i:Int)) (e:=e) n hn (k:Int) c h1 h2 (n-p.2.length) N p.1 p.2 rfl hp1 hp.len hp.size
  obtain⟨q1,q2,q3,q4,q5⟩:=q
  simp only[F.sr,lp,F.ou,zD,chk]
  rw[if_pos (by omega),Ae (by omega) (by omega)]
  simp only[cond_true,zG]
  simp only[A8 odd hil]
  generalize odd[i]=c at hc⊢
  rw[Af (by omega) (by omega)]
  by_cases hbig:(k:Int)+c>=60000
  ·rw[if_pos hbig,if_neg (by intro h;have:=h c (by simp);omega)]
   exact hq2 ..
  ·rw[if_neg hbig]
   rw[h10 (k+c.toNat+1) (by omega) c (by omega) (by omega) _ (by omega)]
   dsimp only
   rw[Af (n:=(i:Int)+1) (by omega) (by omega),Af (n:=(k:Int)+c) (by omega) (by omega),Ae (by omega) (by omega),Ae (by omega) (by rw[Hb];have:=hp.len;omega),Ae (by omega) (by rw[Hb];omega)]
   simp only[cond_true]
   have e:((k:Int)+c).toNat=k+c.toNat:=by omega
   rw[e]
   refine(ih' (O5 k row s p c) (O6 hs (by omega) hc.1 hp)).trans ?_
   by_cases hr:∀c'∈odd.drop (i+1),(k:Int)+c'<60000
   ·rw[if_pos hr,if_pos (by intro c' hc';rcases List.mem_cons.1 hc' with rfl|h;omega;exact hr c' h)]
    rfl
   ·rw[if_neg hr,if_neg λ h=>hr λ c' hc'=>h c' (by simp[hc'])]
end
theorem Ahb{n:List Int}{t w s:Nat}(hn:n.length=t*w)(ht:t<=4000)(hw:w<=256)(hs:s<t):Aa .i64 ((s:Int)*(w:Int))=((s*w:Nat):Int)/\Aa .i64 (Aa .i64 ((s:Int)+1)*(w:Int))=(((s+1)*w:Nat):Int)/\(decide (0<=(((s+1)*w:Nat):Int))&&decide ((((s+1)*w:Nat):Int)<=(n.length:Int)))=true/\(decide (0<=((s*w:Nat):Int))&&decide (((s*w:Nat):Int)<=(((s+1)*w:Nat):Int)))=true:=by
 have b1:s*w<=4000*256:=yU (by omega) hw
 have b2:(s+1)*w<=t*w:=yK w hs
 have b3:t*w<=4000*256:=yU ht hw
 have b4:(s+1)*w=s*w+w:=by rw[xF,xG]
 refine⟨?_, ?_, ?_, ?_⟩
 ·rw[<-zQ,Af (by omega) (by omega)]
 ·rw[Af (n:=(s:Int)+1) (by omega) (by omega),show(s:Int)+1=((s+1:Nat):Int) by omega,<-zQ,Af (by omega) (by omega)]
 all_goals rw[zR,decide_eq_true_eq,decide_eq_true_eq];omega
theorem Zz{l:List Int}(h:¬l=[]):0<l.length:=by
 cases l with
 | nil=>exact(h rfl).elim
 | cons=>simp
abbrev Aw9(s:Option I4)(w:Int):Int:=match s with|some _=>0|none=>w
theorem Ar2(hN:2000000<N)(t:Nat)(ht:t<=4000)(w:Nat)(hw:w<=256)(c n tg e:List Int)(hn:n.length=t*w)(hlow:∀x∈n,0<=x){a1 a2 a3 a4 a5 a6 a7 cl tg2 en2:List Int}{y:Int}{e1 e2}{r:Option I4->Option R}(hq1:∀st,e1 (0,y,a1,a2,a3,a4,a5,a6,a7,cl,st.1,st.2.1,tg2,en2,st.2.2)=r (some st))
  (hq2:∀a1 a2 a3 a4 a5 a6 a7,e2 (2,0,y,[],[],[],[],[],[],[],a1,a2,a3,a4,a5,a6,a7)=r none):∀(d m s:Nat) (st:I4),s+d=t->d<m->Iv 0 st.2.2->st.1.length<=s->st.2.1.length<=s->
  F.qk (R:=R) N m (((t:Int),(s:Int)),(c,(w:Int),n,tg,e),0,y,a1,a2,a3,a4,a5,a6,a7,cl,st.1,st.2.1,tg2,en2,st.2.2.1,st.2.2.2) (e1,e2)=r (Cq (Bq n w) d s st):=by
 intro d
 induction d with
 | zero=>
  intro m s st hs hm hS h1 h2
  obtain⟨m,rfl⟩:=sc hm
  simp only[F.qk,lp,F.ov,zD]
  rw[if_neg (by omega)]
  exact hq1 ..
 | succ d ih=>
  intro m s st hs hm hS h1 h2
  obtain⟨m,rfl⟩:=sc hm
  have hst:s<t:=by omega
  simp only[F.qk,lp,F.ov,zD,chk]
  obtain⟨k1,k2,k3,k4⟩:=Ahb hn ht hw hst
  rw[if_pos (by omega),k1,k2,k3,k4]
  simp only[cond_true,zG]
  rw[show xE (s*w) (yS ((s+1)*w) n)=Bq n w s from rfl]
  have hrl:=R8 hn hst
  have hr0:∀x∈Bq n w s,0<=x:=λ x hx=>hlow x (R9 hx)
  simp only[Cq]
  generalize Bq n w s=row at hrl hr0⊢
  rw[Ac6 row hr0 (by omega) hN]
  simp only[zF]
  rw[Gz (n:=st.2.1.length+1) (by omega)]
  simp only[cond_true]
  have hl2:=λ q=>Ar3 (R:=R) (N:=N) row (B8 row) (by omega) (x31:=s) (x32:=row) (x34:=t) (x35:=s) (q:=(c,(w:Int),n,tg,e)) (x44:=0) (x45:=y) (a:=a1) (r:=(a2,a3,a4,a5,a6,a7,cl,st.1,st.2.1++[B8 row],tg2,en2,st.2.2)) (k:=q) row.length N 0 [] (by omega) (by omega) (by simp)
  simp only[zK,xN] at hl2
  refine(hl2 _).trans ?_
  dsimp only
  have step:∀st':I4,Cr row s st=some st'->F.qk (R:=R) N m (((t:Int),Aa .i64 ((s:Int)+1)),(c,(w:Int),n,tg,e),0,y,a1,a2,a3,a4,a5,a6,a7,cl,st'.1,st'.2.1,tg2,en2,st'.2.2.1,st'.2.2.2) (e1,e2)=r (Cq (Bq n w) d (s+1) st'):=by
   intro st' hp
   have hl:=Ij hp
   have:=ih m (s+1) st' (by omega) (by omega) (Hd hp hS) (by omega) (by omega)
   rw[up1] at this
   rw[Af (n:=(s:Int)+1) (by omega) (by omega)]
   exact this
  have ho:=Hs row (B8 row) row.length 0
  have hol:=Vv row (B8 row) row.length 0
  by_cases ho0:Dc row (B8 row) row.length 0=[]
  ·have hp:Cr row s st=some (st.1++[0],st.2.1++[B8 row],st.2.2):=by unfold Cr;rw[if_pos ho0]
   rw[hp,ho0]
   simp only[z8,zK,beq_self_eq_true,cond_true]
   rw[Gz (n:=st.1.length+1) (by omega)]
   exact step _ hp
  ·have hpos:=Zz ho0
   rw[show(((Dc row (B8 row) row.length 0).length:Int)==0)=false by simp;omega]
   simp only[cond_false]
   have hsz:=hS.size
   have hk:=Aag st.2.2.2 (Dc row (B8 row) row.length 0) st.2.2.2.length 0
   have hpk:Cr row s st=if∀c∈Dc row (B8 row) row.length 0,(Gu st.2.2.2 (Dc row (B8 row) row.length 0) st.2.2.2.length 0:Int)+c<60000 then
     some (st.1++[(Gu st.2.2.2 (Dc row (B8 row) row.length 0) st.2.2.2.length 0:Int)],st.2.1++[B8 row],Ia (Gu st.2.2.2 (Dc row (B8 row) row.length 0) st.2.2.2.length 0) row s (Dc row (B8 row) row.length 0) st.2.2) else none:=by
    rw[Cr,if_neg ho0]
   have hl4:=λ q=>Ar4 (R:=R) hN (Dc row (B8 row) row.length 0) st.2.2.2 (by omega) (λ c hc=>by have:=ho c hc;omega) hsz (x0:=s) (g:=row) (u:=t) (v:=s) (q:=(c,(w:Int),n,tg,e)) (x:=0) (y:=y) (a1:=a1) (a2:=a2) (a3:=a3) (a4:=a4) (a5:=a5) (a6:=a6) (a7:=a7) (a8:=cl) (a9:=st.1) (b1:=st.2.1++[B8 row]) (b2:=tg2) (b3:=en2) (b4:=st.2.2.1) (e:=q) st.2.2.2.length N 0 (by omega) (by omega)
   simp only[zK] at hl4
   refine(hl4 _).trans ?_
   dsimp only[zF]
   rw[Gz (n:=st.1.length+1) (by omega)]
   simp only[cond_true]
   generalize Gu st.2.2.2 (Dc row (B8 row) row.length 0) st.2.2.2.length 0=k at hk hpk⊢
   generalize Dc row (B8 row) row.length 0=odd at*
   have hl8:=λ e1 e2 r hq=>Ar5 (R:=R) hN row odd k (by omega) (by omega) (by omega) (λ c hc=>by have:=ho c hc;omega) s (by omega) (u:=t) (v:=s) (q:=(c,(w:Int),n,tg,e)) (x:=0) (y:=y) (a1:=a1) (a2:=a2) (a3:=a3) (a4:=a4) (a5:=a5) (a6:=a6) (a7:=a7) (a8:=cl) (a9:=st.1++[(k:Int)]) (b1:=st.2.1++[B8 row]) (b2:=tg2) (b3:=en2) (e1:=e1) (e2:=e2) (r:=r) hq odd.length N 0 st.2.2 (by omega) (by omega) hS
   simp only[zK,zV] at hl8
   refine(hl8 _ _ (r none) (λ _ _ _ _ _ _ _=>hq2 ..)).trans ?_
   by_cases hc:∀c∈odd,(k:Int)+c<60000
   ·rw[if_pos hc] at hpk⊢
    rw[hpk]
    exact step _ hpk
   ·rw[if_neg hc] at hpk⊢
    rw[hpk]
end
open Classical in
noncomputable def whyOf(d:DT):Int:=if Kb d then Aw9 (Cq (Bq d.2.2.1 d.2.1.toNat) d.2.2.2.1.length 0 ([],[],[],[])) 2 else 1
theorem Anu(d:DT){N:Nat}(hc:d.1.length<=1048576)(hn:d.2.2.1.length<=1048576)(ht:d.2.2.2.1.length<=1048576)(he:d.2.2.2.2.length<=1048576)(hw:-9223372036854775807<=d.2.1/\d.2.1<=9223372036854775807)(hN:2000000<N):Ret (λ R q=>F.tu (R:=R) N d q) (λ o=>o.1.2=whyOf d):=by
  have hk:=Ant d hc hn ht he hw hN
  obtain⟨c,w,n,t,e⟩:=d
  simp only[F.tu]
  refine rD hk ?_
  intro b hb
  refine rB (λ h=>rL _ ?_ λ _ _=>rfl) λ h=> ?_
  · have hn:¬Kb (c,w,n,t,e):=λ g=>by rw[hb.2 g] at h;cases h
    exact(if_neg hn).symm
  · have hd:Kb (c,w,n,t,e):=hb.1 (by simpa using h)
    have g:=hd
    dsimp only[Kb] at g
    obtain⟨g1,g2,g3,g4,g5,g6,g7,g8,g9,-,-⟩:=g
    dsimp only at hc hn ht he
    refine rC (Gz (by simp only[z8];omega)) (rC (Gz (by simp only[z8];omega)) (rC (Gz (by simp only[z8];omega)) ?_))
    obtain⟨w,rfl⟩:∃v:Nat,w=v:=⟨w.toNat,by omega⟩
    have hnl:n.length=t.length*w:=by rw[<-zQ] at g7;omega
    have hy:whyOf (c,(w:Int),n,t,e)=Aw9 (Cq (Bq n w) t.length 0 ([],[],[],[])) 2:=if_pos hd
    refine rL (match Cq (Bq n w) t.length 0 ([],[],[],[]) with|some st=>((w,0),c,st.1,st.2.1,t,e,st.2.2)|none=>((0,2),[],[],[],[],[],[],[])) ?_ λ R k=>Ar2 (r:=λ z=>k (match z with|some st=>((w,0),c,st.1,st.2.1,t,e,st.2.2)|none=>((0,2),[],[],[],[],[],[],[]))) hN t.length g5 w (by omega) c n t e hnl (λ x hx=>(g9 x hx).1) (λ _=>rfl) (λ _ _ _ _ _ _ _=>rfl) t.length N 0 ([],[],[],[]) (by omega) (by omega) Afs (by simp) (by simp)
    rw[hy]
    cases Cq (Bq n w) t.length 0 ([],[],[],[])<;>rfl
theorem Zq(l:List Int)(lo hi:Int){N:Nat}(hl:l.length<=4000000)(hN:10000000<N):Ret (λ R k=>F.lf (R:=R) N (l,lo,hi) k) (λ o=>o=true<->∀x∈l,lo<=x/\x<=hi):=by
  simp only[F.lf,F.py,F.rx]
  have L0:=rO (s:=λ R=>F.ce (R:=R) N) (app:=Db) (P:=λ o:(Int×Int)⊕(Int×Int×Int)=>match o with|.inl _=>∀x∈l,lo<=x/\x<=hi|.inr b=>0<=b.1/\¬∀x∈l,lo<=x/\x<=hi) (λ y:(List Int×Int×Int)×Int×Int=>y.1.1=l/\y.1.2.1=l.length/\0<=y.1.2.2/\y.1.2.2<=l.length/\y.2=(lo,hi)/\∀x∈l.take y.1.2.2.toNat,lo<=x/\x<=hi) (λ y=>((l.length:Int)-y.1.2.2).toNat) (λ y hy=>by
    obtain⟨⟨l',n,j⟩,a,b⟩:=y
    obtain⟨g1,g2,j0,j1,g3,hd⟩:=hy
    dsimp only at g1 g2 j0 j1 hd
    simp only[zA] at g3
    obtain⟨rfl,rfl⟩:=g3
    subst g1 g2
    simp only[F.ce]
    refine rB (λ h=> ?_) λ h=>rL (.inr (.inl (a,b))) (by have:¬j<l'.length:=(by simpa using h);rw[show j.toNat=l'.length by omega,yA] at hd;exact hd) λ _ _=>rfl
    have h:j<l'.length:=by simpa using h
    have hj:j.toNat<l'.length:=by omega
    rw[A8 l' hj,Af (n:=j+1) (by omega) (by omega)]
    refine rC (Ae j0 h) ?_
    have B:Ret (λ R k=>F.qx (R:=R) (l'[j.toNat],a,b) k) (λ o=>o=true<->¬(a<=l'[j.toNat]/\l'[j.toNat]<=b)):=by
      simp only[F.qx]
      refine rB (λ e=>rL true ⟨λ _=> ?_,λ _=>rfl⟩ λ _ _=>rfl) λ e=>rL _ ?_ λ _ _=>rfl
      · have:l'[j.toNat]<a:=by simpa using e
        omega
      · have:¬l'[j.toNat]<a:=by simpa using e
        rw[decide_eq_true_eq]
        omega
    refine rD B λ o ho=>rB (λ e=>rL (.inr (.inr (j,a,b))) ⟨j0,λ q=>ho.1 e (q _ (zC hj))⟩ λ _ _=>rfl) λ e=>rL (.inl _) ⟨⟨rfl,rfl,by dsimp only;omega,by dsimp only;omega,rfl,λ x hx=> ?_⟩,by dsimp only;omega⟩ λ _ _=>rfl
    dsimp only at hx
    rw[show(j+1).toNat=j.toNat+1 by omega,zH hj] at hx
    rcases List.mem_append.1 hx with hx|hx
    · exact hd x hx
    · cases List.mem_singleton.1 hx
      exact Classical.byContradiction λ q=>by rw[ho.2 q] at e;cases e) N ((l,(l.length:Int),0),lo,hi) ⟨rfl,rfl,by simp,by simp,rfl,λ x hx=>absurd hx (by simp)⟩ (by dsimp only;omega)
  refine rD L0 ?_
  rintro(⟨a,b⟩|⟨i,a,b⟩) ho
  · exact rL true ⟨λ _=>ho,λ _=>rfl⟩ λ _ _=>rfl
  · obtain⟨h,ho⟩:=ho
    dsimp only at h
    exact rL (!decide (i>=0)) ⟨λ q=>(by rw[decide_eq_true h] at q;cases q),λ q=>absurd q ho⟩ λ _ _=>rfl
theorem Aml(d:DT){N:Nat}(hc:d.1.length<=1048576)(hn:d.2.2.1.length<=1048576)(ht:d.2.2.2.1.length<=1048576)(he:d.2.2.2.2.length<=1048576)(hw:-9223372036854775807<=d.2.1/\d.2.1<=9223372036854775807)(hN:10000000<N):Ret (λ R k=>F.kh (R:=R) N d k) (λ o=>o=true<->Kb d):=by
 obtain⟨c,w,n,t,e⟩:=d
 dsimp only at hc hn ht he hw
 have no:¬DOk c w n t e->Ret (λ R k=>k false) (λ o=>o=true<->Kb (c,w,n,t,e)):=λ h=>rL false ⟨λ h=>(by cases h),λ q=>absurd q h⟩ λ _ _=>rfl
 have j4:∀q:Bool,(q=true->¬DOk c w n t e)->(q=false->c.length=256/\1<=w/\w<=256/\1<=t.length/\t.length<=4000/\e.length=t.length/\(n.length:Int)=t.length*w)->Ret (λ R k=>jn (F.bh (R:=R) N k) (((t.length:Int),q),c,w,n,t,e)) (λ o=>o=true<->Kb (c,w,n,t,e)):=λ q h1 h2=>by
  simp only[jn,F.bh]
  rw[Af (n:=w-1) (by omega) (by omega),Af (n:=(t.length:Int)-1) (by omega) (by omega)]
  refine rB (λ h=>no (h1 h)) λ h=>rD (Zq c _ _ (by omega) hN) λ v1 q1=>rB (λ e1=>rD (Zq n _ _ (by omega) hN) λ v2 q2=>rB (λ e2=>rD (Zq t _ _ (by omega) hN) λ v3 q3=>rB (λ e3=>rD (Zq e _ _ (by omega) hN) λ v4 q4=>rL _ ⟨λ e4=> ?_,λ g=>q4.2 g.ei⟩ λ _ _=>rfl) λ e3=>no λ g=> ?_) λ e2=>no λ g=> ?_) λ e1=>no λ g=> ?_
  ·obtain⟨x1,x2,x3,x4,x5,x6,x7⟩:=h2 h
   exact⟨x1,x2,x3,x4,x5,x6,x7,q1.1 e1,q2.1 e2,q3.1 e3,q4.1 e4⟩
  ·rw[q3.2 g.ti] at e3;cases e3
  ·rw[q2.2 g.ni] at e2;cases e2
  ·rw[q1.2 g.ci] at e1;cases e1
 have bad:¬DOk c w n t e->Ret (λ R k=>jn (F.bh (R:=R) N k) (((t.length:Int),true),c,w,n,t,e)) (λ o=>o=true<->Kb (c,w,n,t,e)):=λ h=>j4 true (λ _=>h) λ h=>(by cases h)
 simp only[F.kh]
 refine rB (λ h=>bad λ g=>by simp[g.cl] at h) λ h1=>rB (λ h=>bad λ g=>by have:=g.w0;simp only[decide_eq_true_eq] at h;omega) λ h2=>rB (λ h=>bad λ g=>by have:=g.w1;simp only[decide_eq_true_eq] at h;omega) λ h3=>rB (λ h=>bad λ g=>by have:=g.t0;simp only[decide_eq_true_eq] at h;omega) λ h4=>rB (λ h=>bad λ g=>by have:=g.t1;simp only[decide_eq_true_eq] at h;omega) λ h5=>rB (λ h=>bad λ g=>by simp[g.el] at h) λ h6=> ?_
 simp only[decide_eq_false_iff_not] at h2 h3 h4 h5
 have:=Vr (t:=t.length) (w:=w) (by omega) (by omega) (by omega)
 rw[Af (n:=(t.length:Int)*w) (by omega) (by omega)]
 refine j4 _ (λ q g=>by simp[g.nl] at q) λ q=> ?_
 have h1:(c.length:Int)=256:=by simpa using h1
 have h6:(e.length:Int)=t.length:=by simpa using h6
 exact⟨by omega,by omega,by omega,by omega,by omega,by omega,by simpa using q⟩
section
variable{R:Type}{N:Nat}
abbrev L6:=List Int×List Int×List Int×List Int×List Int×List Int
abbrev L7:=List Int×L6
theorem Awc(row:List Int)(df:Int)(hl:row.length<=256){x13:Int}{x14:List Int}{p:Int×Int}{r:L7}{k}:∀(d m i:Nat) (acc:List Int),i+d=row.length->d<m->acc.length<=i->
  F.mz (R:=R) N m ((x13,x14,df,row,(row.length:Int),(i:Int)),p,acc,r) k=k ((x13,x14),p,acc++Dc row df d i,r):=by
 obtain⟨p1,p2⟩:=p
 obtain⟨r1,r2,r3,r4,r5,r6,r7⟩:=r
 intro d
 induction d with
 | zero=>
  intro m i acc hi hm ha
  obtain⟨m,rfl⟩:=sc hm
  simp only[F.mz,lp,F.cz,zD]
  rw[if_neg (by omega)]
  simp[Dc]
 | succ d ih=>
  intro m i acc hi hm ha
  obtain⟨m,rfl⟩:=sc hm
  simp only[F.mz,lp,F.cz,zD,chk,zF]
  rw[if_pos (by omega),Ae (by omega) (by omega),Af (n:=(i:Int)+1) (by omega) (by omega),Gz (n:=acc.length+1) (by omega)]
  simp only[cond_true,zG,Dc]
  cases hc:(zE row i 0 !=df)
  ·have:=ih m (i+1) acc (by omega) (by omega) (by omega)
   rw[up1] at this
   exact this
  ·have:=ih m (i+1) (acc++[(i:Int)]) (by omega) (by omega) (by simp;omega)
   rw[up1,zM] at this
   exact this
section
variable{a1 a2 a3 a4 a5 a6:List Int}{W f:Int}{ck:List Int}(hlow:∀x∈ck,-1<=x)
include hlow
theorem Mx(k:Int)(h0:0<=k)(c):F.al (R:=R) ((a1,W,a2,a3,a4,a5,a6,ck,f),k) c=c (!F3 ck k):=by
 simp only[F.al,F3,zD,chk]
 by_cases h:k<(ck.length:Int)
 ·rw[if_pos h,Ae h0 h,show decide ((ck.length:Int)<=k)=false from decide_eq_false (by omega),xR,cond_true]
  have hk:k.toNat<ck.length:=by omega
  rw[A8 ck hk]
  have:=hlow _ (zC hk)
  by_cases h2:ck[k.toNat]=-1
  ·rw[h2];rfl
  ·have e:(ck[k.toNat]==-1)=false:=by simpa using h2
   rw[e,decide_eq_true (by omega)]
   rfl
 ·rw[if_neg h,decide_eq_true (by omega),yQ]
  rfl
theorem Aqx(odd:List Int)(k:Nat)(hk:k<=60000)(hl:odd.length<=256)(ho:∀c∈odd,0<=c/\c<256)(c:Bool->Option R):∀(d m i:Nat),i+d=odd.length->d<m->
  F.lx (R:=R) N m ((a1,W,a2,a3,a4,a5,a6,ck,f),(k:Int),odd,(odd.length:Int),(i:Int)) (λ _=>c true,λ b=>c b)=c (E4 ck (odd.drop i) k):=by
 intro d
 induction d with
 | zero=>
  intro m i hi hm
  obtain⟨m,rfl⟩:=sc hm
  simp only[F.lx,lp,F.cf,zD]
  rw[if_neg (by omega),zS (by omega)]
  rfl
 | succ d ih=>
  intro m i hi hm
  obtain⟨m,rfl⟩:=sc hm
  simp only[F.lx,lp,F.cf,zD,chk]
  rw[if_pos (by omega),Ae (by omega) (by omega),Af (n:=(i:Int)+1) (by omega) (by omega)]
  simp only[cond_true,zG]
  simp only[A8 odd (show i<odd.length by omega)]
  have hc:=ho odd[i] (zC _)
  rw[Af (by omega) (by omega),Mx hlow _ (by omega),Xq (by omega)]
  cases hf:F3 ck (k+odd[i])
  ·simp
  ·have:=ih m (i+1) (by omega) (by omega)
   rw[up1] at this
   exact this
theorem Ab9(hN:2000000<N)(odd:List Int)(k:Nat)(hk:k<=60000)(hl:odd.length<=256)(ho:∀c∈odd,0<=c/\c<256)(c):
  F.pi (R:=R) N ((a1,W,a2,a3,a4,a5,a6,ck,f),(k:Int),odd) c=c (E4 ck odd k):=by
 simp only[F.pi]
 exact Aqx hlow odd k hk hl ho c odd.length N 0 (by omega) (by omega)
theorem Awd(hN:2000000<N)(odd:List Int)(hl:odd.length<=256)(ho:∀c∈odd,0<=c/\c<256)(hck:ck.length<=60000){s:Int}{row:List Int}{q}:∀(d m k:Nat),k+d=ck.length->d<m->
  F.na (R:=R) N m ((s,row,(k:Int)),(W,f),odd,a1,a2,a3,a4,a5,a6,ck) q=q ((s,row,((Gu ck odd d k:Nat):Int)),(W,f),odd,a1,a2,a3,a4,a5,a6,ck):=by
 intro d
 induction d with
 | zero=>
  intro m k hk hm
  obtain⟨m,rfl⟩:=sc hm
  simp only[F.na,lp,F.da]
  rw[Ab9 hlow hN odd k (by omega) hl ho,U9 (λ c hc=>(ho c hc).1) (by omega)]
  rfl
 | succ d ih=>
  intro m k hk hm
  obtain⟨m,rfl⟩:=sc hm
  simp only[F.na,lp,F.da]
  rw[Ab9 hlow hN odd k (by omega) hl ho,Af (by omega) (by omega)]
  simp only[Gu]
  cases hf:E4 ck odd k
  ·have:=ih m (k+1) (by omega) (by omega)
   rw[up1] at this
   exact this
  ·rfl
theorem Amv(hck:ck.length<=60000)(x:Int):∀(d f:Nat),f+d=ck.length->(∀j,j<f->H6 ck j)->
  ∃f':Nat,f'<=ck.length/\(∀j,j<f'->H6 ck j)/\∀(R:Type) (m:Nat),d<m->∀q,
   F.iz (R:=R) N m (x,(W,(f:Int)),a1,a2,a3,a4,a5,a6,ck) q=q (x,(W,(f':Int)),a1,a2,a3,a4,a5,a6,ck):=by
 intro d
 induction d with
 | zero=>
  intro f hf ht
  refine⟨f,by omega,ht,λ R m hm q=> ?_⟩
  obtain⟨m,rfl⟩:=sc hm
  simp only[F.iz,lp,F.bi]
  rw[show F.al (R:=R)=F.al from rfl,Mx hlow _ (by omega)]
  rw[show F3 ck (f:Int)=true by unfold F3;rw[decide_eq_true (by omega),yQ]]
  rfl
 | succ d ih=>
  intro f hf ht
  cases hfr:F3 ck (f:Int)
  ·have htk:=(V7 hlow f).1 hfr
   obtain⟨f',h1,h2,h3⟩:=ih (f+1) (by omega) λ j hj=>by
    by_cases e:j=f
    ·subst e;exact htk
    ·exact ht j (by omega)
   refine⟨f',h1,h2,λ R m hm q=> ?_⟩
   obtain⟨m,rfl⟩:=sc hm
   simp only[F.iz,lp,F.bi]
   rw[show F.al (R:=R)=F.al from rfl,Mx hlow _ (by omega),hfr,Af (by omega) (by omega)]
   have:=h3 R m (by omega) q
   rw[up1] at this
   exact this
  ·refine⟨f,by omega,ht,λ R m hm q=> ?_⟩
   obtain⟨m,rfl⟩:=sc hm
   simp only[F.iz,lp,F.bi]
   rw[show F.al (R:=R)=F.al from rfl,Mx hlow _ (by omega),hfr]
   rfl
end
section
variable{a1 a2 a3 a4 a5 a6:List Int}{p:Int×Int}{g:List Int}
theorem Awe(n:Nat)(hn:n<=60000)(k c:Int)(hkc:k+c+1=n)(h0:0<=k+c){x0 x1 x2:Int}{q}:∀(d m:Nat) (nx ck:List Int),n-ck.length=d->d<m->nx.length=ck.length->ck.length<=60000->
  F.nh (R:=R) N m ((x0,g,k,c,x1,x2),p,a1,a2,a3,a4,a5,a6,nx,ck) q=q ((x0,g,k,c,x1,x2),p,a1,a2,a3,a4,a5,a6,ext nx n 0,ext ck n (-1)):=by
 obtain⟨p1,p2⟩:=p
 intro d
 induction d with
 | zero=>
  intro m nx ck hd hm hl hs
  obtain⟨m,rfl⟩:=sc hm
  simp only[F.nh,lp,F.dg,zD]
  rw[Af (by omega) (by omega),if_neg (by omega),Zi _ (by omega),Zi _ (by omega)]
 | succ d ih=>
  intro m nx ck hd hm hl hs
  obtain⟨m,rfl⟩:=sc hm
  have ih':=ih m (nx++[0]) (ck++[-1]) (by simp;omega) (by omega) (by simp[hl]) (by simp;omega)
  rw[P5 _ (by omega),P5 _ (by omega)] at ih'
  simp only[F.nh,lp,F.dg,zD,chk,zF]
  rw[Af (by omega) (by omega),if_pos (by omega),Gz (n:=nx.length+1) (by omega),Gz (n:=ck.length+1) (by omega)]
  exact ih'
theorem Amu(hN:2000000<N)(row odd:List Int)(k:Nat)(hk:k<=60000)(hrow:row.length<=256)(hl:odd.length<=256)(ho:∀c∈odd,0<=c/\c<row.length)(hfit:∀c∈odd,(k:Int)+c<60000)(s:Int)(hs:0<=s){q}:∀(d m i:Nat) (sl:List Int×List Int),i+d=odd.length->d<m->Iv 0 sl->
  F.nj (R:=R) N m ((s,row,(k:Int),(odd.length:Int),(i:Int)),p,odd,a1,a2,a3,a4,a5,sl) q=q ((k:Int),p,a1,a2,a3,a4,a5,Ia k row s (odd.drop i) sl):=by
 intro d
 induction d with
 | zero=>
  intro m i sl hi hm hp
  obtain⟨m,rfl⟩:=sc hm
  obtain⟨p1,p2⟩:=p
  obtain⟨nx,ck⟩:=sl
  simp only[F.nj,lp,F.dh,zD]
  rw[if_neg (by omega),zS (by omega)]
  rfl
 | succ d ih=>
  intro m i sl hi hm hp
  obtain⟨m,rfl⟩:=sc hm
  have hil:i<odd.length:=by omega
  have hc:=ho odd[i] (zC _)
  have hb:=hfit odd[i] (zC _)
  rw[zT hil]
  have ih':=λ sl=>ih m (i+1) sl (by omega) (by omega)
  rw[up1] at ih'
  have h6:=λ n hn c h1 h2 q hp1=>Awe (R:=R) (N:=N) (p:=p) (g:=row) (a1:=odd) (a2:=a1) (a3:=a2) (a4:=a3) (a5:=a4) (a6:=a5) (x0:=s) (x1:=(odd.length:Int)) (x2:=(i:Int)) (q:=q) n hn (k:Int) c h1 h2 (n-sl.2.length) N sl.1 sl.2 rfl hp1 hp.len hp.size
  have hsl:=hp.len
  obtain⟨p1,p2⟩:=p
  obtain⟨nx,ck⟩:=sl
  dsimp only at hsl h6
  simp only[F.nj,lp,F.dh,zD,chk]
  rw[if_pos (by omega),Ae (by omega) (by omega)]
  simp only[cond_true,zG]
  simp only[A8 odd hil]
  generalize odd[i]=c at hc hb⊢
  rw[h6 (k+c.toNat+1) (by omega) c (by omega) (by omega) _ (by omega)]
  dsimp only
  rw[Af (n:=(i:Int)+1) (by omega) (by omega),Af (n:=(k:Int)+c) (by omega) (by omega),Ae (by omega) (by rw[Hb];omega),Ae (by omega) (by omega),Ae (by omega) (by rw[Hb];omega)]
  simp only[cond_true]
  rw[show((k:Int)+c).toNat=k+c.toNat by omega]
  exact ih' (O5 k row s (nx,ck) c) (O6 hs (by omega) hc.1 hp)
end
theorem Aq8(hN:2000000<N)(row:List Int)(hr0:∀x∈row,0<=x)(hrow:row.length<=256)(s:Nat)(st:I4)(hS:Iv 0 st.2.2)(h1:st.1.length<=4000)(h2:st.2.1.length<=4000)(f:Nat)(hf:f<=st.2.2.2.length)(htk:∀j,j<f->H6 st.2.2.2 j)(W:Int)(c t e:List Int):
  match Cr row s st with
  | some st'=>∃f':Nat,f'<=st'.2.2.2.length/\(∀j,j<f'->H6 st'.2.2.2 j)/\∀R k,
    F.di (R:=R) N (((s:Int),row),(W,(f:Int)),c,st.1,st.2.1,t,e,st.2.2) k=k (true,(W,(f':Int)),c,st'.1,st'.2.1,t,e,st'.2.2)
  | none=>∀R k,F.di (R:=R) N (((s:Int),row),(W,(f:Int)),c,st.1,st.2.1,t,e,st.2.2) k=k (false,(W,(f:Int)),c,st.1,st.2.1++[B8 row],t,e,st.2.2):=by
 obtain⟨ba,de,nx,ck⟩:=st
 dsimp only at h1 h2 hf htk hS
 have hsz:=hS.size
 have hlow:=hS.low
 dsimp only at hsz hlow
 have ho:=Hs row (B8 row) row.length 0
 have hol:=Vv row (B8 row) row.length 0
 have hsrt:=S5 row (B8 row) row.length 0
 have h0:=λ R q=>Awc (R:=R) (N:=N) row (B8 row) hrow (x13:=s) (x14:=row) (p:=(W,(f:Int))) (r:=(c,ba,de++[B8 row],t,e,nx,ck)) (k:=q) row.length N 0 [] (by omega) (by omega) (by simp)
 simp only[zK,xN] at h0
 by_cases ho0:Dc row (B8 row) row.length 0=[]
 ·have hp:Cr row s (ba,de,nx,ck)=some (ba++[0],de++[B8 row],nx,ck):=by unfold Cr;rw[if_pos ho0]
  rw[hp]
  obtain⟨f',k1,k2,k3⟩:=Amv (N:=N) (ck:=ck) hlow hsz (W:=W) (a1:=c) (a2:=ba) (a3:=de++[B8 row]) (a4:=t) (a5:=e) (a6:=nx) 0 (ck.length-f) f (by omega) htk
  refine⟨f',k1,k2,λ R k=> ?_⟩
  simp only[F.di,chk]
  rw[Nr N row hr0 hrow (by omega)]
  simp only[zF]
  rw[Gz (n:=de.length+1) (by omega),cond_true]
  refine(h0 R _).trans ?_
  rw[ho0]
  simp only[z8,zK]
  rw[show decide ((0:Int)>0)=false from rfl,cond_false]
  have h4:=λ q=>Amu (R:=R) hN row [] 0 (by omega) hrow (by simp) (by simp) (by simp) (s:Int) (by omega) (p:=(W,(f:Int))) (a1:=c) (a2:=ba) (a3:=de++[B8 row]) (a4:=t) (a5:=e) (q:=q) 0 N 0 (nx,ck) rfl (by omega) hS
  simp only[zK,z8,List.drop_nil] at h4
  simp only[jn,F.fv,z8,zK]
  refine(h4 _).trans ((k3 R N (by omega) _).trans ?_)
  simp only[chk,zF]
  rw[Gz (n:=ba.length+1) (by omega)]
  rfl
 ·have hpos:=Zz ho0
  have hk:=Aag ck (Dc row (B8 row) row.length 0) ck.length 0
  have hpk:Cr row s (ba,de,nx,ck)=if∀c∈Dc row (B8 row) row.length 0,(Gu ck (Dc row (B8 row) row.length 0) ck.length 0:Int)+c<60000 then
    some (ba++[(Gu ck (Dc row (B8 row) row.length 0) ck.length 0:Int)],de++[B8 row],Ia (Gu ck (Dc row (B8 row) row.length 0) ck.length 0) row s (Dc row (B8 row) row.length 0) (nx,ck)) else none:=by
   rw[Cr,if_neg ho0]
  generalize hod:Dc row (B8 row) row.length 0=odd at*
  have ho':∀c∈odd,0<=c/\c<256:=λ c hc=>by have:=ho c hc;omega
  have hfst:=ho' odd[0] (zC _)
  have hb0:∃b0:Nat,b0<=ck.length/\(bif decide (Aa .i64 ((f:Int)-odd[0])>0) then Aa .i64 ((f:Int)-odd[0]) else 0)=(b0:Int)/\Gu ck odd (ck.length-b0) b0=Gu ck odd ck.length 0:=by
   rw[Af (by omega) (by omega)]
   refine⟨((f:Int)-odd[0]).toNat,by omega, ?_, ?_⟩
   ·rw[zD];split<;>omega
   ·have:=Yp ck odd ((f:Int)-odd[0]).toNat (ck.length-((f:Int)-odd[0]).toNat) 0 (by
     intro i hi1 hi2
     have hti:=htk (i+odd[0].toNat) (by omega)
     have hfree:=(V7 hlow (i+odd[0].toNat)).2 hti
     unfold E4
     rw[List.all_eq_false]
     refine⟨odd[0],zC _, ?_⟩
     rw[show(i:Int)+odd[0]=((i+odd[0].toNat:Nat):Int) by omega,hfree]
     simp)
    rw[xB] at this
    rw[<-this]
    congr 1
    omega
  obtain⟨b0,hb0l,hb0e,hb0s⟩:=hb0
  have hlast:=Ac5 hsrt hpos
  have hla:=ho' odd[odd.length-1] (zC _)
  have go:∀R k,F.di (R:=R) N (((s:Int),row),(W,(f:Int)),c,ba,de,t,e,nx,ck) k=bif decide (((Gu ck odd ck.length 0:Nat):Int)+odd[odd.length-1]>=60000) then k (false,(W,(f:Int)),c,ba,de++[B8 row],t,e,nx,ck) else F.fv N k (((s:Int),row,((Gu ck odd ck.length 0:Nat):Int)),(W,(f:Int)),odd,c,ba,de++[B8 row],t,e,nx,ck):=λ R k=>by
   simp only[F.di,chk]
   rw[Nr N row hr0 hrow (by omega)]
   simp only[zF]
   rw[Gz (n:=de.length+1) (by omega),cond_true]
   refine(h0 R _).trans ?_
   dsimp only
   rw[decide_eq_true (show(odd.length:Int)>0 by omega),Ae (by omega) (by omega)]
   simp only[cond_true,show zL 0=0 from rfl]
   simp only[A8 odd hpos]
   rw[hb0e]
   refine(Awd (R:=R) hlow hN odd (by omega) ho' hsz (ck.length-b0) N b0 (by omega) (by omega)).trans ?_
   rw[hb0s]
   dsimp only
   rw[Af (n:=(odd.length:Int)-1) (by omega) (by omega),Ae (by omega) (by omega),show((odd.length:Int)-1).toNat=odd.length-1 by omega]
   simp only[cond_true]
   simp only[A8 odd (show odd.length-1<odd.length by omega)]
   rw[Af (by omega) (by omega)]
   rfl
  generalize hsr:Gu ck odd ck.length 0=kk at*
  by_cases hc:∀c∈odd,(kk:Int)+c<60000
  ·rw[if_pos hc] at hpk
   rw[hpk]
   have hpS:=Lu (k:=kk) (row:=row) (s:=(s:Int)) (by omega) (odd:=odd) (p:=(nx,ck)) (λ c h=>⟨(ho' c h).1,hc c h⟩) hS
   have hpT:∀j,j<f->H6 (Ia kk row (s:Int) odd (nx,ck)).2 j:=λ j hj=>S7 (by omega) (htk j hj)
   have hfl:f<=(Ia kk row (s:Int) odd (nx,ck)).2.length:=by
    by_cases h0:f=0
    ·omega
    ·have:=(hpT (f-1) (by omega)).1
     omega
   obtain⟨f',k1,k2,k3⟩:=Amv (N:=N) hpS.low hpS.size (W:=W) (a1:=c) (a2:=ba) (a3:=de++[B8 row]) (a4:=t) (a5:=e) (a6:=(Ia kk row (s:Int) odd (nx,ck)).1) (kk:Int) ((Ia kk row (s:Int) odd (nx,ck)).2.length-f) f (by omega) hpT
   refine⟨f',k1,k2,λ R k=>(go R k).trans ?_⟩
   have h:=hc odd[odd.length-1] (zC _)
   rw[zD,if_neg (by omega)]
   have h4:=λ q=>Amu (R:=R) hN row odd kk (by omega) hrow (by omega) (λ c h=>by have:=ho c h;omega) hc (s:Int) (by omega) (p:=(W,(f:Int))) (a1:=c) (a2:=ba) (a3:=de++[B8 row]) (a4:=t) (a5:=e) (q:=q) odd.length N 0 (nx,ck) (by omega) (by omega) hS
   simp only[zK,zV] at h4
   simp only[F.fv]
   have hs8:=hpS.size
   refine(h4 _).trans ((k3 R N (by omega) _).trans ?_)
   simp only[chk,zF]
   rw[Gz (n:=ba.length+1) (by omega)]
   rfl
  ·rw[if_neg hc] at hpk
   rw[hpk]
   refine λ R k=>(go R k).trans ?_
   rw[zD,if_pos]
   apply Classical.byContradiction
   intro hn
   exact hc λ c h=>by have:=hlast c h;omega
theorem Ara(hN:2000000<N)(t:Nat)(ht:t<=4000)(w:Nat)(hw:w<=256)(c n tg e:List Int)(hn:n.length=t*w)(hlow:∀x∈n,0<=x){a1 a2 a3 a4 a5 a6 a7:List Int}
  {e1 e2} {r:Option I4->Option R} (hq1:∀f st,e1 (0,((w:Int),f),a1,a2,a3,a4,a5,a6,a7,c,st.1,st.2.1,tg,e,st.2.2)=r (some st))
  (hq2:∀f b1 b2 b3 b4 b5 b6 b7,e2 (2,0,((w:Int),f),[],[],[],[],[],[],[],b1,b2,b3,b4,b5,b6,b7)=r none):∀(d m s:Nat) (st:I4) (f:Nat),s+d=t->d<m->Iv 0 st.2.2->st.1.length<=s->st.2.1.length<=s->f<=st.2.2.2.length->(∀j,j<f->H6 st.2.2.2 j)->
  F.su (R:=R) N m (((t:Int),(s:Int)),(c,(w:Int),n,tg,e),0,((w:Int),(f:Int)),a1,a2,a3,a4,a5,a6,a7,c,st.1,st.2.1,tg,e,st.2.2) (e1,e2)=r (Cq (Bq n w) d s st):=by
 intro d
 induction d with
 | zero=>
  intro m s st f hs hm hS h1 h2 hf htk
  obtain⟨m,rfl⟩:=sc hm
  obtain⟨ba,de,nx,ck⟩:=st
  simp only[F.su,lp,F.ow,zD]
  rw[if_neg (by omega)]
  exact hq1 _ (ba,de,nx,ck)
 | succ d ih=>
  intro m s st f hs hm hS h1 h2 hf htk
  obtain⟨m,rfl⟩:=sc hm
  have hst:s<t:=by omega
  have hrl:=R8 hn hst
  have hlay:=Aq8 hN (Bq n w s) (λ x hx=>hlow x (R9 hx)) (by omega) s st hS (by omega) (by omega) f hf htk (w:Int) c tg e
  simp only[Cq]
  have hgo:=λ st' (hp:Cr (Bq n w s) s st=some st') f'=>ih m (s+1) st' f' (by omega) (by omega) (Hd hp hS) (by have:=Ij hp;omega) (by have:=Ij hp;omega)
  obtain⟨k1,k2,k3,k4⟩:=Ahb hn ht hw hst
  rw[up1] at hgo
  obtain⟨ba,de,nx,ck⟩:=st
  simp only[F.su,lp,F.ow,zD,chk]
  rw[if_pos (by omega),k1,k2,k3,k4]
  simp only[cond_true,zG]
  rw[show xE (s*w) (yS ((s+1)*w) n)=Bq n w s from rfl]
  cases hp:Cr (Bq n w s) s (ba,de,nx,ck) with
  | none=>
   rw[hp] at hlay
   exact(hlay R _).trans (hq2 ..)
  | some st'=>
   rw[hp] at hlay
   obtain⟨f',k1,k2,k3⟩:=hlay
   refine(k3 R _).trans ?_
   rw[Af (n:=(s:Int)+1) (by omega) (by omega)]
   exact hgo st' hp f' k1 k2
end
abbrev Vx(d:DT):Option I4:=Cq (Bq d.2.2.1 d.2.1.toNat) d.2.2.2.1.length 0 ([],[],[],[])
abbrev TT:=List Int×Int×List Int×List Int×List Int×List Int×List Int×List Int
theorem Amm(d:DT){N:Nat}(hc:d.1.length<=1048576)(hn:d.2.2.1.length<=1048576)(ht:d.2.2.2.1.length<=1048576)(he:d.2.2.2.2.length<=1048576)(hw:-9223372036854775807<=d.2.1/\d.2.1<=9223372036854775807)(hN:10000000<N):Ret (λ R q=>F.tx (R:=R) N d q) (λ o=>o.1.2=whyOf d/\(o.1.2=0->Kb d/\∃st,Vx d=some st/\o=((d.2.1,0),d.1,st.1,st.2.1,d.2.2.2.1,d.2.2.2.2,st.2.2))):=by
  have hk:=Aml d hc hn ht he hw hN
  obtain⟨c,w,n,t,e⟩:=d
  simp only[F.tx]
  refine rD hk ?_
  intro b hb
  refine rB (λ h=>rL _ ⟨?_,λ h=>by cases h⟩ λ _ _=>rfl) λ h=> ?_
  · have hn:¬Kb (c,w,n,t,e):=λ g=>by rw[hb.2 g] at h;cases h
    exact(if_neg hn).symm
  · have hd:Kb (c,w,n,t,e):=hb.1 (by simpa using h)
    have g:=hd
    dsimp only[Kb] at g
    obtain⟨g1,g2,g3,g4,g5,g6,g7,g8,g9,-,-⟩:=g
    dsimp only at hc hn ht he
    refine rC (Gz (by simp only[z8];omega)) (rC (Gz (by simp only[z8];omega)) (rC (Gz (by simp only[z8];omega)) ?_))
    obtain⟨w,rfl⟩:∃v:Nat,w=v:=⟨w.toNat,by omega⟩
    have hnl:n.length=t.length*w:=by rw[<-zQ] at g7;omega
    have hy:whyOf (c,(w:Int),n,t,e)=Aw9 (Cq (Bq n w) t.length 0 ([],[],[],[])) 2:=if_pos hd
    refine rL (match Cq (Bq n w) t.length 0 ([],[],[],[]) with|some st=>((w,0),c,st.1,st.2.1,t,e,st.2.2)|none=>((0,2),[],[],[],[],[],[],[])) ?_ λ R k=>Ara (r:=λ z=>k (match z with|some st=>((w,0),c,st.1,st.2.1,t,e,st.2.2)|none=>((0,2),[],[],[],[],[],[],[]))) (by omega) t.length g5 w (by omega) c n t e hnl (λ x hx=>(g9 x hx).1) (λ _ _=>rfl) (λ _ _ _ _ _ _ _ _=>rfl) t.length N 0 ([],[],[],[]) 0 (by omega) (by omega) Afs (by simp) (by simp) (by simp) (by intro j hj;omega)
    rw[hy]
    dsimp only[Vx]
    rw[show(w:Int).toNat=w from rfl]
    cases Cq (Bq n w) t.length 0 ([],[],[],[]) with
    | none=>exact⟨rfl,λ h=>by cases h⟩
    | some st=>exact⟨rfl,λ _=>⟨hd,st,rfl,rfl⟩⟩
theorem Aby(l:List Int)(n:Nat)(v:Int)(j:Nat):(ext l n v).getD j v=l.getD j v:=by
 simp only[ext,List.getD_eq_getElem?_getD,List.getElem?_append]
 split
 ·rfl
 ·rename_i h
  rw[List.getElem?_eq_none (l:=l) (by omega),List.getElem?_replicate]
  split<;>rfl
theorem Anm(l:List Int){i:Nat}(j:Nat)(x v:Int)(h:i<l.length):(l.set i x).getD j v=if j=i then x else l.getD j v:=by
 simp only[List.getD_eq_getElem?_getD,List.getElem?_set]
 by_cases e:i=j
 ·subst e;simp[h]
 ·rw[if_neg e,if_neg λ q=>e q.symm]
section
variable{k:Nat}{row:List Int}{s:Int}
theorem Agw:∀(odd:List Int) (p:List Int×List Int) (j:Nat),(Ia k row s odd p).2.getD j (-1)=(open Classical in if∃c∈odd,j=k+c.toNat then s else p.2.getD j (-1))
 | [],p,j=>by simp[Ia]
 | c::odd,p,j=>by
  refine(Agw odd (O5 k row s p c) j).trans ?_
  rw[show(O5 k row s p c).2.getD j (-1)=if j=k+c.toNat then s else p.2.getD j (-1) by
   rw[O5,Anm _ _ _ _ (by rw[Hb];omega),Aby]]
  by_cases h1:∃c∈odd,j=k+c.toNat
  ·rw[if_pos h1,if_pos (by obtain⟨d,h,e⟩:=h1;exact⟨d,by simp[h],e⟩)]
  ·rw[if_neg h1]
   by_cases h2:j=k+c.toNat
   ·rw[if_pos h2,if_pos ⟨c,by simp,h2⟩]
   ·rw[if_neg h2,if_neg]
    rintro⟨d,h,e⟩
    rcases List.mem_cons.1 h with rfl|h
    ·exact h2 e
    ·exact h1 ⟨d,h,e⟩
theorem Agx:∀(odd:List Int) (p:List Int×List Int) (j:Nat),(Ia k row s odd p).1.getD j 0=(open Classical in if∃c∈odd,j=k+c.toNat then row.getD (j-k) 0 else p.1.getD j 0)
 | [],p,j=>by simp[Ia]
 | c::odd,p,j=>by
  refine(Agx odd (O5 k row s p c) j).trans ?_
  rw[show(O5 k row s p c).1.getD j 0=if j=k+c.toNat then row.getD c.toNat 0 else p.1.getD j 0 by
   rw[O5,Anm _ _ _ _ (by rw[Hb];omega),Aby]]
  by_cases h1:∃c∈odd,j=k+c.toNat
  ·rw[if_pos h1,if_pos (by obtain⟨d,h,e⟩:=h1;exact⟨d,by simp[h],e⟩)]
  ·rw[if_neg h1]
   by_cases h2:j=k+c.toNat
   ·rw[if_pos h2,if_pos ⟨c,by simp,h2⟩,show j-k=c.toNat by omega]
   ·rw[if_neg h2,if_neg]
    rintro⟨d,h,e⟩
    rcases List.mem_cons.1 h with rfl|h
    ·exact h2 e
    ·exact h1 ⟨d,h,e⟩
end
theorem Acs(row:List Int)(df:Int)(c:Nat):∀(d i:Nat),i<=c->c<i+d->row.getD c 0≠df->(c:Int)∈Dc row df d i
 | 0,i,h1,h2,_=>by omega
 | d+1,i,h1,h2,h=>by
  simp only[Dc]
  by_cases e:c=i
  ·subst e
   rw[show(row.getD c 0 !=df)=true by simpa using h]
   exact xA
  ·have:=Acs row df c d (i+1) (by omega) (by omega) h
   cases(row.getD i 0 !=df)
   ·exact this
   ·exact yV _ this
theorem Z0(row:List Int)(df:Int)(c:Nat):∀(d i:Nat),(c:Int)∈Dc row df d i->row.getD c 0≠df
 | 0,i,h=>by simp[Dc] at h
 | d+1,i,h=>by
  simp only[Dc] at h
  cases e:(row.getD i 0 !=df)<;>rw[e] at h
  ·exact Z0 row df c d (i+1) h
  ·rcases List.mem_cons.1 h with h|h
   ·have:c=i:=by omega
    subst this
    simpa using e
   ·exact Z0 row df c d (i+1) h
theorem Yo{ck odd:List Int}(ho:∀c∈odd,0<=c):∀(d k:Nat),ck.length<=k+d->E4 ck odd (Gu ck odd d k:Nat)=true
 | 0,k,h=>U9 ho (by simp only[Gu];omega)
 | d+1,k,h=>by
  simp only[Gu]
  cases e:E4 ck odd k
  ·exact Yo ho d (k+1) (by omega)
  ·exact e
theorem Akc{l:List Int}(h0:∀x∈l,0<=x)(h:0<l.length):B8 l∈l:=by
 rcases Pq (l.map λ x=>(x,cnt x l)) (λ p hp=>by obtain⟨x,hx,rfl⟩:=List.mem_map.1 hp;exact h0 x hx) with⟨e,_⟩|⟨e,_⟩
 ·rw[List.map_eq_nil_iff] at e;subst e;simp at h
 ·obtain⟨x,hx,e⟩:=List.mem_map.1 e
  unfold B8
  rw[<-e]
  exact hx
abbrev Tm(row:List Int):=Dc row (B8 row) row.length 0
theorem Z3{row:List Int}{s:Nat}{st st':I4}(h:Cr row s st=some st'):∃k:Nat,k<60000/\(∀c∈Tm row,(k:Int)+c<60000)/\E4 st.2.2.2 (Tm row) k=true/\st'=(st.1++[(k:Int)],st.2.1++[B8 row],Ia k row s (Tm row) st.2.2):=by
 have ho:=Hs row (B8 row) row.length 0
 unfold Cr at h
 split at h
 ·rename_i e
  cases h
  exact⟨0,by omega,by rw[Tm,e];simp,by rw[Tm,e];rfl,by rw[Tm,e];rfl⟩
 ·split at h
  ·rename_i e hc
   cases h
   have hp:=Zz e
   have h1:=hc _ (zC hp)
   have h2:=ho _ (zC hp)
   exact⟨_,by omega,hc,Yo (λ c h=>by have:=ho c h;omega) _ _ (by omega),rfl⟩
  ·cases h
def Aii(st:I4)(r col:Nat):Int:=if st.2.2.2.getD ((st.1.getD r 0).toNat+col) (-1)=r then st.2.2.1.getD ((st.1.getD r 0).toNat+col) 0 else st.2.1.getD r 0
structure Good(n w:Nat)(rows:Nat->List Int)(s:Nat)(st:I4):Prop where
 sl:Iv 0 st.2.2
 l1:st.1.length=s
 l2:st.2.1.length=s
 b:∀x∈st.1,0<=x/\x<=59999
 d:∀x∈st.2.1,0<=x/\x<=n-1
 c:∀j,-1<=st.2.2.2.getD j (-1)/\st.2.2.2.getD j (-1)<s
 x:∀j,0<=st.2.2.1.getD j 0/\st.2.2.1.getD j 0<=n-1
 z:∀j,st.2.2.2.getD j (-1)=-1->st.2.2.1.getD j 0=0
 go:∀r<s,∀col<w,Aii st r col=(rows r).getD col 0
theorem Aa1(l:List Int)(v:Int){i:Nat}(h:i<l.length):(l++[v]).getD i 0=l.getD i 0:=by
 simp only[List.getD_eq_getElem?_getD,List.getElem?_append_left h]
theorem W8(l:List Int)(v:Int):(l++[v]).getD l.length 0=v:=by
 simp[List.getD_eq_getElem?_getD]
theorem Z4{n w:Nat}{rows:Nat->List Int}{s:Nat}{st st':I4}(h:Cr (rows s) s st=some st')(hw:0<w)(hl:(rows s).length=w)(hr:∀x∈rows s,0<=x/\x<=n-1)(g:Good n w rows s st):Good n w rows (s+1) st':=by
 have hS:=Hd h g.sl
 obtain⟨k,hk,hc,hf,rfl⟩:=Z3 h
 have ho:=Hs (rows s) (B8 (rows s)) (rows s).length 0
 have hne:=λ c=>Z0 (rows s) (B8 (rows s)) c (rows s).length 0
 have hiff:=λ c=>Acs (rows s) (B8 (rows s)) c (rows s).length 0
 have hcm:=hr _ (Akc (λ x h=>(hr x h).1) (by omega))
 have hfr:∀c∈Tm (rows s),st.2.2.2.getD (k+c.toNat) (-1)=-1:=λ c hc=>by
  have h1:=List.all_eq_true.1 hf c hc
  have h2:=ho c hc
  unfold F3 at h1
  rw[show((k:Int)+c).toNat=k+c.toNat by omega] at h1
  rw[xL,decide_eq_true_eq] at h1
  simp only[List.getD_eq_getElem?_getD] at h1⊢
  by_cases e:st.2.2.2.length<=k+c.toNat
  ·rw[List.getElem?_eq_none e];rfl
  ·rcases h1 with h1|h1
   ·omega
   ·rw[List.getElem?_eq_getElem (by omega)] at h1⊢
    simpa using h1
 have hrow:∀j,0<=(rows s).getD j 0/\(rows s).getD j 0<=n-1:=λ j=>by
  by_cases e:j<(rows s).length
  ·rw[A8 _ e];exact hr _ (zC e)
  ·rw[List.getD_eq_getElem?_getD,List.getElem?_eq_none (by omega)]
   simp only[xH]
   omega
 have cl:=Agw (k:=k) (row:=rows s) (s:=s) (Tm (rows s)) st.2.2
 have xl:=Agx (k:=k) (row:=rows s) (s:=s) (Tm (rows s)) st.2.2
 refine⟨hS,by simp[g.l1],by simp[g.l2],λ x hx=> ?_,λ x hx=> ?_,λ j=> ?_,λ j=> ?_,λ j hj=> ?_,λ r hr2 col hcol=> ?_⟩
 ·rcases List.mem_append.1 hx with hx|hx
  ·exact g.b x hx
  ·cases List.mem_singleton.1 hx;omega
 ·rcases List.mem_append.1 hx with hx|hx
  ·exact g.d x hx
  ·cases List.mem_singleton.1 hx;exact hcm
 ·have:=g.c j
  dsimp only
  rw[cl]
  split<;>omega
 ·have:=g.x j
  dsimp only
  rw[xl]
  split
  ·exact hrow _
  ·exact this
 ·dsimp only at hj⊢
  rw[cl] at hj
  rw[xl]
  split at hj
  ·omega
  ·rename_i e
   rw[if_neg e]
   exact g.z j hj
 ·simp only[Aii]
  rw[cl,xl]
  by_cases e:r=s
  ·subst e
   rw[<-g.l1,W8,show(st.2.1++[B8 (rows st.1.length)]).getD st.1.length 0=B8 (rows st.1.length) by rw[g.l1,<-g.l2];exact W8 ..,g.l1,zG]
   by_cases hd:(rows r).getD col 0=B8 (rows r)
   ·have hno:¬∃c∈Tm (rows r),k+col=k+c.toNat:=by
     rintro⟨c,h1,h2⟩
     have h3:=ho c h1
     have h4:c=(col:Int):=by omega
     subst h4
     exact hne col h1 hd
    rw[if_neg hno,if_neg hno,if_neg (by have:=g.c (k+col);omega),hd]
   ·have hyes:∃c∈Tm (rows r),k+col=k+c.toNat:=⟨col,hiff col (by omega) (by omega) hd,by simp⟩
    rw[if_pos hyes,if_pos rfl,if_pos hyes,Nat.add_sub_cancel_left]
  ·have hrs:r<s:=by omega
   have:=g.go r hrs col hcol
   rw[Aii] at this
   rw[Aa1 _ _ (by rw[g.l1];exact hrs),Aa1 _ _ (by rw[g.l2];exact hrs)]
   by_cases hd:∃c∈Tm (rows s),(st.1.getD r 0).toNat+col=k+c.toNat
   ·rw[if_pos hd,if_neg (by omega)]
    obtain⟨c,h1,h2⟩:=hd
    have h3:=hfr c h1
    rw[<-h2] at h3
    rw[h3,if_neg (by omega)] at this
    exact this
   ·rw[if_neg hd,if_neg hd]
    exact this
theorem Qp{n w:Nat}{rows:Nat->List Int}(hw:0<w)(hl:∀s<n,(rows s).length=w)(hr:∀s<n,∀x∈rows s,0<=x/\x<=n-1):∀(d s:Nat) (st st':I4),s+d=n->Cq rows d s st=some st'->Good n w rows s st->Good n w rows n st'
 | 0,s,st,st',hs,h,g=>by
  simp only[Cq,xD] at h
  subst h
  obtain rfl:s=n:=by omega
  exact g
 | d+1,s,st,st',hs,h,g=>by
  simp only[Cq] at h
  split at h
  ·rename_i st1 hp
   exact Qp hw hl hr d (s+1) st1 st' (by omega) h (Z4 hp hw (hl s (by omega)) (hr s (by omega)) g)
  ·cases h
theorem Axr{n w:Nat}{rows:Nat->List Int}(hn:1<=n):Good n w rows 0 ([],[],[],[]):=⟨Afs,rfl,rfl,by simp,by simp,λ j=>by simp,λ j=>by simp;omega,λ j _=>by simp,λ r h=>by omega⟩
theorem Acv{d:DT}(hd:Kb d){st:I4}(h:Vx d=some st):Good d.2.2.2.1.length d.2.1.toNat (Bq d.2.2.1 d.2.1.toNat) d.2.2.2.1.length st:=by
 obtain⟨c,w,n,t,e⟩:=d
 obtain⟨g1,g2,g3,g4,g5,g6,g7,g8,g9,-,-⟩:=hd
 dsimp only at g1 g2 g3 g4 g5 g6 g7 g8 g9 h⊢
 obtain⟨w,rfl⟩:∃v:Nat,w=v:=⟨w.toNat,by omega⟩
 have hnl:n.length=t.length*w:=by rw[<-zQ] at g7;omega
 exact Qp (by omega) (λ s hs=>R8 hnl hs) (λ s hs x hx=>by have:=g9 x (R9 hx);omega) t.length 0 _ st (by omega) h (Axr g4)
section
variable{K:Type->Type}{O:Type}{app:∀R,O->K R->Option R}{m m':∀R,K R->Option R}{P:O->Prop}
theorem RetK.no{c:Bool}(h:c=false)(hm:RetK app m' P):RetK app (λ R k=>bif c then m R k else m' R k) P:=rB (λ e=>by rw[h] at e;cases e) λ _=>hm
theorem RetK.yes{c:Bool}(h:c=true)(hm:RetK app m P):RetK app (λ R k=>bif c then m R k else m' R k) P:=rB (λ _=>hm) λ e=>by rw[h] at e;cases e
end
theorem Aqu: @F.kh= @F.kh:=rfl
theorem Ahk: @F.qi= @F.lg:=rfl
structure TOk(cl:List Int)(w:Int)(b df tg en nx ck:List Int):Prop where
 d:DOk cl w (zU (tg.length*w.toNat) 0) tg en
 bl:b.length=tg.length
 dl:df.length=tg.length
 nk:nx.length=ck.length
 nz:ck.length<=60000
 b:∀x∈b,0<=x/\x<=59999
 df:∀x∈df,0<=x/\x<=tg.length-1
 c:∀x∈ck,-1<=x/\x<=tg.length-1
 x:∀x∈nx,0<=x/\x<=tg.length-1
 z:∀j:Nat,j<ck.length->ck.getD j 0=-1->nx.getD j 0=0
theorem Rs{l:List Int}{j:Nat}(a b:Int)(h:j<l.length):l.getD j a=l.getD j b:=by
 simp[List.getD_eq_getElem?_getD,h]
theorem I2{cl:List Int}{w:Int}{n t e:List Int}(hd:Kb (cl,w,n,t,e)){st:I4}(g:Good t.length w.toNat (Bq n w.toNat) t.length st):TOk cl w st.1 st.2.1 t e st.2.2.1 st.2.2.2:=by
 obtain⟨g1,g2,g3,g4,g5,g6,g7,g8,g9,g10,g11⟩:=hd
 dsimp only at g1 g2 g3 g4 g5 g6 g7 g8 g9 g10 g11
 refine⟨⟨g1,g2,g3,g4,g5,g6, ?_,g8,λ x hx=> ?_,g10,g11⟩,g.l1,g.l2,g.sl.len,g.sl.size,g.b,g.d,λ x hx=> ?_,λ x hx=> ?_,λ j hj h=> ?_⟩
 ·rw[zO,zQ,Int.toNat_of_nonneg (by omega)]
 ·rw[yG hx]
  omega
 ·obtain⟨i,hi,rfl⟩:=yL hx
  have:=g.c i
  rw[Rs _ 0 hi,A8 _ hi] at this
  omega
 ·obtain⟨i,hi,rfl⟩:=yL hx
  have:=g.x i
  rw[A8 _ hi] at this
  exact this
 ·exact g.z j (by rw[Rs _ 0 hj];exact h)
section
variable{N:Nat}{cl b df tg en nx ck:List Int}{w:Int}(h:TOk cl w b df tg en nx ck)(hN:10000000<N)
include h hN
theorem Awx:RetK (K:=λ _=>_×_) Db (λ R q=>F.sv (R:=R) N N (((tg.length:Int),(tg.length:Int),0),cl,w,b,df,tg,en,nx,ck) q) (λ o=>o=.inl ((tg.length:Int),cl,w,b,df,tg,en,nx,ck)):=by
 have hd:=h.d.t1
 refine rO (s:=λ R=>F.bm (R:=R) N) (app:=Db) (λ y:(Int×Int×Int)×TT=>y.1.1=tg.length/\y.1.2.1=tg.length/\0<=y.1.2.2/\y.1.2.2<=tg.length/\y.2=(cl,w,b,df,tg,en,nx,ck)) (λ y=>((tg.length:Int)-y.1.2.2).toNat) (λ y hy=> ?_) N _ ⟨rfl,rfl,by simp,by simp,rfl⟩ (by dsimp only;omega)
 obtain⟨⟨n,n',j⟩,y⟩:=y
 obtain⟨g1,g2,j0,j1,g3⟩:=hy
 dsimp only at g1 g2 j0 j1 g3
 subst g1 g2 g3
 simp only[F.bm]
 refine rB (λ x=> ?_) λ x=>rL (.inr (.inl _)) rfl λ _ _=>rfl
 have x:j<tg.length:=by simpa using x
 have hb:j.toNat<b.length:=by rw[h.bl];omega
 have hf:j.toNat<df.length:=by rw[h.dl];omega
 rw[Af (n:=j+1) (by omega) (by omega),A8 b hb,A8 df hf]
 have q1:=h.b _ (zC hb)
 have q2:=h.df _ (zC hf)
 refine rC (Ae j0 (by omega)) (RetK.no (by simp;omega) (rC (Ae j0 (by omega)) (RetK.no (by simp;omega) (rC (Ae j0 (by omega)) (RetK.no (by simp;omega) (rC (Ae j0 (by omega)) (RetK.no (by simp;omega) (rL (.inl _) ⟨⟨rfl,rfl,by dsimp only;omega,by dsimp only;omega,rfl⟩,by dsimp only;omega⟩ λ _ _=>rfl))))))))
theorem Awy:RetK (K:=λ _=>_×_) Db (λ R q=>F.sw (R:=R) N N (((tg.length:Int),ck,(ck.length:Int),0),cl,w,b,df,tg,en,nx,ck) q) (λ o=>o=.inl ()):=by
 have hz:=h.nz
 have hk:=h.nk
 have hd:=h.d.t1
 refine rO (s:=λ R=>F.bn (R:=R) N) (app:=Db) (λ y:(Int×List Int×Int×Int)×TT=>y.1.1=tg.length/\y.1.2.1=ck/\y.1.2.2.1=ck.length/\0<=y.1.2.2.2/\y.1.2.2.2<=ck.length/\y.2=(cl,w,b,df,tg,en,nx,ck)) (λ y=>((ck.length:Int)-y.1.2.2.2).toNat) (λ y hy=> ?_) N _ ⟨rfl,rfl,rfl,by simp,by simp,rfl⟩ (by dsimp only;omega)
 obtain⟨⟨n,c',n',j⟩,y⟩:=y
 obtain⟨g1,g2,g4,j0,j1,g3⟩:=hy
 dsimp only at g1 g2 g4 j0 j1 g3
 subst g1 g2 g4 g3
 simp only[F.bn]
 refine rB (λ x=> ?_) λ x=>rL (.inr (.inl ())) rfl λ _ _=>rfl
 have x:j<c'.length:=by simpa using x
 have hb:j.toNat<c'.length:=by omega
 have hf:j.toNat<nx.length:=by omega
 have q3:=h.z j.toNat hb
 rw[A8 c' hb,A8 nx hf] at q3
 rw[Af (n:=j+1) (by omega) (by omega),A8 c' hb,A8 nx hf]
 have q1:=h.c _ (zC hb)
 have q2:=h.x _ (zC hf)
 have go:RetK (K:=λ R=>(((Int×List Int×Int×Int)×TT->Option R)×(Unit->Option R)×(Bool->Option R))) (aS Db) (λ R q=>q.1 ((((tg.length:Int),c',(c'.length:Int),j+1),cl,w,b,df,tg,en,nx,c'))) (Sm (λ y:(Int×List Int×Int×Int)×TT=>y.1.1=tg.length/\y.1.2.1=c'/\y.1.2.2.1=c'.length/\0<=y.1.2.2.2/\y.1.2.2.2<=c'.length/\y.2=(cl,w,b,df,tg,en,nx,c')) (λ y=>((c'.length:Int)-y.1.2.2.2).toNat) (((tg.length:Int),c',(c'.length:Int),j),cl,w,b,df,tg,en,nx,c') (λ o=>o=Sum.inl ())):=rL (.inl _) ⟨⟨rfl,rfl,rfl,by dsimp only;omega,by dsimp only;omega,rfl⟩,by dsimp only;omega⟩ λ _ _=>rfl
 refine rC (Ae j0 (by omega)) (RetK.no (by simp;omega) (RetK.no (by simp;omega) (rC (Ae j0 (by omega)) (RetK.no (by simp;omega) (rC (Ae j0 (by omega)) (RetK.no (by simp;omega) ?_))))))
 exact rB (λ x=>rC (Ae j0 (by omega)) (RetK.no (by simpa using q3 (by simpa using x)) go)) λ _=>go
theorem M6:Ret (λ R q=>F.lg (R:=R) N (cl,w,b,df,tg,en,nx,ck) q) (λ o=>o=true):=by
 have g1:=h.d.w0
 have g2:=h.d.w1
 have g3:=h.d.t0
 have g4:=h.d.t1
 have h1:=h.bl
 have h2:=h.dl
 have h3:=h.nk
 have h4:=h.nz
 have hm:=Vr g4 g1 g2
 have e:((tg.length:Int)*w).toNat=tg.length*w.toNat:=by rw[Int.toNat_mul (by omega) (by omega)];rfl
 simp only[F.lg]
 refine RetK.no (by simp;omega) (RetK.no (by simp;omega) ?_)
 rw[decide_eq_false (show¬(nx.length:Int)>60000 by omega)]
 simp only[jn,F.qh]
 rw[h1]
 refine RetK.no rfl (RetK.no (by simp;omega) (RetK.no (by simp;omega) (RetK.no (by simp;omega) (RetK.no (by simp;omega) ?_))))
 rw[show((tg.length:Int) !=tg.length)=false by simp]
 simp only[F.fx]
 rw[Af (n:=(tg.length:Int)*w) (by omega) (by omega),e,Aqu]
 refine RetK.no rfl (rC (by simp;omega) (rC (Gz (by omega)) (rD (Aml (cl,w,zU (tg.length*w.toNat) 0,tg,en) (by have:=h.d.cl;dsimp only;omega) (by dsimp only;rw[zO];omega) (by dsimp only;omega) (by have:=h.d.el;dsimp only;omega) (by dsimp only;omega) hN) λ o ho=> ?_)))
 rw[ho.2 h.d]
 refine RetK.no rfl (rD (Awx h hN) ?_)
 rintro _ rfl
 refine rD (Awy h hN) ?_
 rintro _ rfl
 exact rL true rfl λ _ _=>rfl
theorem Amz{s c:Int}(hs:0<=s/\s<tg.length)(hc:0<=c/\c<=255):Ret (λ R q=>F.tf (R:=R) N ((cl,w,b,df,tg,en,nx,ck),s,c) q) (λ o=>o=Aii (b,df,nx,ck) s.toNat (cl.getD c.toNat 0).toNat):=by
 have h1:=h.bl
 have h2:=h.dl
 have h3:=h.nk
 have h4:=h.nz
 have h5:=h.d.cl
 have h6:=h.d.w1
 have hb:s.toNat<b.length:=by omega
 have hcl:c.toNat<cl.length:=by omega
 have q1:=h.b _ (zC hb)
 have q2:=h.d.ci _ (zC hcl)
 simp only[F.tf]
 rw[Ahk]
 refine rD (M6 h hN) ?_
 rintro _ rfl
 refine RetK.no rfl (RetK.no (by simp;omega) (RetK.no (by simp;omega) (RetK.no (by simp;omega) ?_)))
 rw[decide_eq_false (show¬c>255 by omega)]
 simp only[jn,F.kq]
 refine RetK.no rfl ?_
 simp only[F.sx,Aii]
 rw[A8 b hb,A8 cl hcl,Af (by omega) (by omega)]
 refine rC (Ae hs.1 (by omega)) (rC (Ae hc.1 (by omega)) ?_)
 have e:(b[s.toNat]+cl[c.toNat]).toNat=b[s.toNat].toNat+cl[c.toNat].toNat:=by omega
 rw[e]
 refine rB (λ x=> ?_) λ x=>rC (Ae hs.1 (by omega)) (rL _ ?_ λ _ _=>rfl)
 ·have x:b[s.toNat]+cl[c.toNat]<ck.length:=by simpa using x
  have hk:b[s.toNat].toNat+cl[c.toNat].toNat<ck.length:=by omega
  rw[Rs (-1) 0 hk,A8 ck hk]
  refine rC (Ae (by omega) (by omega)) (rB (λ y=>rC (Ae (by omega) (by omega)) (rL _ ?_ λ _ _=>rfl)) λ y=>rC (Ae hs.1 (by omega)) (rL _ ?_ λ _ _=>rfl))
  ·have y:=(beq_iff_eq (α:=Int)).1 y
   rw[if_pos (by omega)]
  ·have y:=beq_eq_false_iff_ne.1 y
   rw[if_neg (by omega)]
 ·have x:¬b[s.toNat]+cl[c.toNat]<ck.length:=by simpa using x
  rw[if_neg]
  rw[List.getD_eq_getElem?_getD,List.getElem?_eq_none (by omega)]
  simp only[xH]
  omega
end
theorem Aao(n:Int):Aa .u8 n=n%256:=by
 simp only[Aa,IntKind.wrap,IntKind.signed,IntKind.bits,Bool.false_and,cond_false,Bool.false_eq_true,if_false]
 rfl
def b2(v:Int):List Int:=[v/256%256,v%256]
def H5(l:List Int):Prop:=∀x∈l,0<=x/\x<=255
theorem H5.append{a b:List Int}(h:H5 a)(k:H5 b):H5 (a++b):=λ x hx=>(List.mem_append.1 hx).elim (h x) (k x)
theorem E1(v:Int):H5 (b2 v):=λ x hx=>by
 simp only[b2,yN,xI,or_false] at hx
 omega
def Dy(f:Nat->List Int)(n:Nat):Nat->List Int
 | 0=>[]
 | d+1=>f (n-(d+1))++Dy f n d
theorem Km(f:Nat->List Int){n i:Nat}(h:i<n):Dy f n (n-i)=f i++Dy f n (n-(i+1)):=by
 rw[show n-i=(n-(i+1))+1 by omega]
 simp only[Dy]
 rw[show n-(n-(i+1)+1)=i by omega]
theorem M4{f:Nat->List Int}{m:Nat}(n:Nat)(h:∀i,(f i).length=m):∀d,(Dy f n d).length=m*d
 | 0=>rfl
 | d+1=>by simp only[Dy,zB,h,M4 n h d,Nat.mul_succ];omega
theorem Lz{f:Nat->List Int}(n:Nat)(h:∀i,H5 (f i)):∀d,H5 (Dy f n d)
 | 0=>by simp[Dy,H5]
 | d+1=>(h _).append (Lz n h d)
def stB(b df tg en:List Int)(i:Nat):List Int:=b2 (b.getD i 0)++(b2 (df.getD i 0)++(b2 (tg.getD i 0)++b2 (en.getD i 0)))
def slB(nx ck:List Int)(i:Nat):List Int:=b2 (nx.getD i 0)++b2 (ck.getD i 0)
def C5(cl:List Int)(w:Int)(b df tg en nx ck:List Int):List Int:=[88,68,70,49]++(b2 b.length++(b2 w++(b2 nx.length++(cl++(Dy (stB b df tg en) b.length b.length++Dy (slB nx ck) nx.length nx.length)))))
section
variable{R:Type}{N:Nat}
theorem Aw0(vs:List Int)(hv:vs.length<=4){k}:∀(d m i:Nat) (out:List Int),i+d=vs.length->d<m->out.length+2*d<=4000000->F.np (R:=R) N m ((vs,(vs.length:Int),(i:Int)),out) k=k (out++(vs.drop i).flatMap b2):=by
 intro d
 induction d with
 | zero=>
  intro m i out hi hn ho
  obtain⟨m,rfl⟩:=sc hn
  simp only[F.np,lp,F.dj,zD]
  rw[if_neg (by omega),zS (by omega)]
  simp
 | succ d ih=>
  intro m i out hi hn ho
  obtain⟨m,rfl⟩:=sc hn
  simp only[F.np,lp,F.dj,chk]
  rw[decide_eq_true (show(i:Int)<(vs.length:Int) by omega),Ae (by omega) (by omega),Af (n:=(i:Int)+1) (by omega) (by omega),Bg (by simp only[z9,z8];omega) (by omega)]
  simp only[cond_true,zG,show decide (0<=8)=true from rfl]
  have:=ih m (i+1) (out++[Aa .u8 (Int.fdiv (zE vs i (0:Int)) (2^min (zL 8) 64)),Aa .u8 (zE vs i (0:Int))]) (by omega) (by omega) (by simp only[zB,z9,z8];omega)
  rw[up1] at this
  refine this.trans ?_
  rw[zT (show i<vs.length by omega),List.flatMap_cons,zM,A8 vs (show i<vs.length by omega),Aao,Aao]
  rw[show((2:Int)^min (zL 8) 64)=256 from rfl,show Int.fdiv vs[i] 256=vs[i]/256 from Int.fdiv_eq_ediv_of_nonneg _ (by omega)]
  rfl
theorem T4(vs out:List Int)(hv:vs.length<=4)(ho:out.length+8<=4000000)(hN:10000000<N)(k):F.dk (R:=R) N (vs,out) k=k (out++vs.flatMap b2):=by
 simp only[F.dk]
 exact Aw0 vs hv vs.length N 0 out (by omega) (by omega) (by omega)
theorem Awr{a b:Int}(ha:0<=a/\a<=255)(hb:0<=b/\b<=255):Aa .i64 ((BitVec.ofInt 64 (Aa .i64 (Aa .i64 a*2^min (zL 8) 64))|||BitVec.ofInt 64 (Aa .i64 b)).toNat:Int)=a*256+b:=by
 obtain⟨x,rfl⟩:=yR ha.1
 obtain⟨y,rfl⟩:=yR hb.1
 have e:((2:Int)^min (zL 8) 64)=256:=rfl
 rw[Af (n:=(x:Int)) (by omega) (by omega),e,Af (n:=(x:Int)*256) (by omega) (by omega),Af (n:=(y:Int)) (by omega) (by omega)]
 have h1:BitVec.ofInt 64 ((x:Int)*256)=BitVec.ofNat 64 (x*256):=by
  rw[show((x:Int)*256)=((x*256:Nat):Int) by omega,BitVec.ofInt_natCast]
 have h2:BitVec.ofInt 64 (y:Int)=BitVec.ofNat 64 y:=BitVec.ofInt_natCast ..
 rw[h1,h2,BitVec.toNat_or,BitVec.toNat_ofNat,BitVec.toNat_ofNat,xJ (by omega),xJ (by omega)]
 have h3:x*256|||y=x*256+y:=by
  have:=Nat.two_pow_add_eq_or_of_lt (i:=8) (b:=y) (by omega) x
  rw[Nat.mul_comm,<-this]
 rw[h3,Af (by omega) (by omega)]
 omega
section
variable{v:Int}{r c b d t e n q:List Int}{x:Int}
theorem Kr:(decide (0<=2)&&decide ((2:Int)<=((b2 v++r).length:Int)))=true/\inB 0 (b2 v++r).length=true/\inB 1 (b2 v++r).length=true:=by
 have:(b2 v++r).length=r.length+2:=rfl
 rw[this]
 exact⟨by simp;omega,Ae (by omega) (by omega),Ae (by omega) (by omega)⟩
theorem Afx:Aa .i64 ((BitVec.ofInt 64 (Aa .i64 (Aa .i64 (zE (b2 v++r) (zL 0) 0)*2^min (zL 8) 64))|||BitVec.ofInt 64 (Aa .i64 (zE (b2 v++r) (zL 1) 0))).toNat:Int)=v%65536:=by
 rw[show zE (b2 v++r) (zL 0) 0=v/256%256 from rfl,show zE (b2 v++r) (zL 1) 0=v%256 from rfl,Awr (by omega) (by omega)]
 omega
theorem Aaj:yS ((b2 v++r).length-zL 2) (xE (zL 2) (b2 v++r))=r:=by
 rw[zI (by simp)]
 rfl
theorem Amn{k}:F.pj (R:=R) (x,b2 v++r) k=k (v%65536,x,r,[],[],[],[],[],[],[]):=by
 simp only[F.pj,chk]
 rw[Kr.1,Kr.2.1,Kr.2.2,Afx,Aaj]
 rfl
theorem Io{k}:F.am (R:=R) (x,b2 v++r,c,b,d,t,e,n,q) k=k (v%65536,(x,c,b,d,t,e,n,q),r):=by
 simp only[F.am,chk]
 rw[Kr.1,Kr.2.1,Kr.2.2,Afx,Aaj]
 rfl
theorem Aik{k}:F.ly (R:=R) (b2 v++r) k=k (v%65536,r):=by
 simp only[F.ly,chk]
 rw[Kr.1,Kr.2.1,Kr.2.2,Afx,Aaj]
 rfl
theorem Ot(h:-1<=v/\v<=65534){k}:F.ay (R:=R) (x,b2 v++r,c,b,d,t,e,n,q) k=k (v,(x,c,b,d,t,e,n,q),r):=by
 simp only[F.ay]
 rw[Io]
 by_cases g:v=-1
 ·subst g;rfl
 ·rw[show(v%65536==65535)=false by simp;omega,show v%65536=v by omega]
  rfl
end
end
theorem Aq9(l:List Int)(hb:H5 l)(hl:l.length<=4000000){N:Nat}(hN:10000000<N):Ret (λ R q=>F.ry (R:=R) N l q) (λ o=>0<=o/\o<=65535):=by
 simp only[F.ry]
 refine rD (rO (s:=λ R=>F.px (R:=R) N) (app:=λ _ d k=>k d) (P:=λ o:Int=>0<=o) (λ y:Int×List Int×Int×Int=>0<=y.1/\y.1<=255*y.2.2.2/\y.2.1=l/\y.2.2.1=l.length/\0<=y.2.2.2/\y.2.2.2<=l.length) (λ y=>((l.length:Int)-y.2.2.2).toNat) ?_ N (0,l,(l.length:Int),0) ⟨by simp,by simp,rfl,rfl,by simp,by simp⟩ (by dsimp only;omega)) ?_
 ·rintro⟨s,l',n,j⟩ ⟨s0,s1,g1,g2,j0,j1⟩
  dsimp only at s0 s1 g1 g2 j0 j1
  subst g1 g2
  simp only[F.px]
  refine rB (λ x=> ?_) λ x=>rL (.inr _) s0 λ _ _=>rfl
  have x:j<l'.length:=by simpa using x
  have hj:j.toNat<l'.length:=by omega
  have h:=hb _ (zC hj)
  rw[A8 l' hj,Af (n:=l'[j.toNat]) (by omega) (by omega),Af (n:=s+l'[j.toNat]) (by omega) (by omega),Af (n:=j+1) (by omega) (by omega)]
  exact rC (Ae j0 x) (rL (.inl _) ⟨⟨by dsimp only;omega,by dsimp only;omega,rfl,rfl,by dsimp only;omega,by dsimp only;omega⟩,by dsimp only;omega⟩ λ _ _=>rfl)
 ·intro s hs
  refine rC rfl (rL _ ?_ λ _ _=>rfl)
  rw[yB hs]
  omega
section
variable{N:Nat}{cl b df tg en nx ck:List Int}{w:Int}(h:TOk cl w b df tg en nx ck)(hN:10000000<N)
theorem Aah(i:Nat):(stB b df tg en i).length=8:=rfl
theorem Ahf(i:Nat):(slB nx ck i).length=4:=rfl
theorem Ajb(i:Nat):H5 (stB b df tg en i):=(E1 _).append ((E1 _).append ((E1 _).append (E1 _)))
theorem Ai9(i:Nat):H5 (slB nx ck i):=(E1 _).append (E1 _)
include h
theorem Aa6:(C5 cl w b df tg en nx ck).length=266+8*b.length+4*nx.length:=by
 have:=h.d.cl
 simp only[C5,zB,M4 _ (Aah (b:=b) (df:=df) (tg:=tg) (en:=en)),M4 _ (Ahf (nx:=nx) (ck:=ck)),z9,z8,b2]
 omega
theorem Uj:H5 (C5 cl w b df tg en nx ck):=by
 have h1:=h.d.w1
 exact H5.append (λ x hx=>by simp only[yN,xI,or_false] at hx;omega) ((E1 _).append ((E1 _).append ((E1 _).append (H5.append (λ x hx=>by have:=h.d.ci x hx;omega) ((Lz _ Ajb _).append (Lz _ Ai9 _))))))
include hN
theorem Av2{out:List Int}(ho:out.length<=1000):Ret (λ R q=>F.wx (R:=R) N N ((cl,(cl.length:Int),0),(cl,w,b,df,tg,en,nx,ck),out) q) (λ o=>o=((cl,w,b,df,tg,en,nx,ck),out++cl)):=by
 have h5:=h.d.cl
 have h6:=h.d.w1
 refine rO (s:=λ R=>F.lh (R:=R) N) (app:=λ _ d k=>k d) (λ y:(List Int×Int×Int)×TT×List Int=>y.1.1=cl/\y.1.2.1=cl.length/\0<=y.1.2.2/\y.1.2.2<=cl.length/\y.2=((cl,w,b,df,tg,en,nx,ck),out++cl.take y.1.2.2.toNat)) (λ y=>((cl.length:Int)-y.1.2.2).toNat) (λ y hy=> ?_) N _ ⟨rfl,rfl,by simp,by simp,by simp⟩ (by dsimp only;omega)
 obtain⟨⟨n,n',j⟩,y⟩:=y
 obtain⟨g1,g2,j0,j1,g3⟩:=hy
 dsimp only at g1 g2 j0 j1 g3
 subst g1 g2 g3
 simp only[F.lh]
 refine rB (λ x=> ?_) λ x=>rL (.inr _) (by have:¬j<n.length:=(by simpa using x);rw[zI (by omega)];rfl) λ _ _=>rfl
 have x:j<n.length:=by simpa using x
 have hj:j.toNat<n.length:=by omega
 have q1:=h.d.ci _ (zC hj)
 rw[Af (n:=j+1) (by omega) (by omega),A8 n hj,Aao,show n[j.toNat]%256=n[j.toNat] by omega]
 refine rC (Ae j0 x) (rC (Bg (by simp only[zB,zJ,zF];omega) (by omega)) (rL (.inl _) ⟨⟨rfl,rfl,by dsimp only;omega,by dsimp only;omega, ?_⟩,by dsimp only;omega⟩ λ _ _=>rfl))
 dsimp only
 rw[show(j+1).toNat=j.toNat+1 by omega,zH hj,zM]
theorem Av3{out:List Int}(ho:out.length<=1000):Ret (λ R q=>F.wy (R:=R) N N (((b.length:Int),0),(cl,w,b,df,tg,en,nx,ck),out) q) (λ o=>o=((cl,w,b,df,tg,en,nx,ck),out++Dy (stB b df tg en) b.length b.length)):=by
 have h1:=h.bl
 have h2:=h.dl
 have h4:=h.d.el
 have h5:=h.d.t1
 refine rO (s:=λ R=>F.li (R:=R) N) (app:=λ _ d k=>k d) (λ y:(Int×Int)×TT×List Int=>y.1.1=b.length/\0<=y.1.2/\y.1.2<=b.length/\y.2.1=(cl,w,b,df,tg,en,nx,ck)/\(y.2.2.length:Int)=out.length+8*y.1.2/\y.2.2++Dy (stB b df tg en) b.length (b.length-y.1.2.toNat)=out++Dy (stB b df tg en) b.length b.length) (λ y=>((b.length:Int)-y.1.2).toNat) (λ y hy=> ?_) N _ ⟨rfl,by simp,by simp,rfl,by simp,rfl⟩ (by dsimp only;omega)
 obtain⟨⟨n,j⟩,y,r⟩:=y
 obtain⟨g1,j0,j1,g3,hr,g4⟩:=hy
 dsimp only at g1 j0 j1 g3 hr g4
 subst g1 g3
 simp only[F.li]
 refine rB (λ x=> ?_) λ x=>rL (.inr _) (by have:¬j<b.length:=(by simpa using x);rw[show b.length-j.toNat=0 by omega] at g4;simp only[Dy,yF] at g4;rw[g4];rfl) λ _ _=>rfl
 have x:j<b.length:=by simpa using x
 rw[Af (n:=j+1) (by omega) (by omega)]
 refine rC (Ae j0 (by omega)) (rC (Ae j0 (by omega)) (rC (Ae j0 (by omega)) (rC (Ae j0 (by omega)) (rL (.inl (((b.length:Int),j+1),(cl,w,b,df,tg,en,nx,ck),r++stB b df tg en j.toNat)) ⟨⟨rfl,by dsimp only;omega,by dsimp only;omega,rfl,by simp only[zB,Aah];omega, ?_⟩,by dsimp only;omega⟩ λ R k=> ?_))))
 ·dsimp only
  rw[Km _ (show j.toNat<b.length by omega)] at g4
  rw[show(j+1).toNat=j.toNat+1 by omega,zM,g4]
 ·exact T4 _ r (by simp) (by omega) hN _
theorem Av4{out:List Int}(ho:out.length<=40000):Ret (λ R q=>F.wz (R:=R) N N (((nx.length:Int),0),(cl,w,b,df,tg,en,nx,ck),out) q) (λ o=>o=out++Dy (slB nx ck) nx.length nx.length):=by
 have h1:=h.nk
 have h2:=h.nz
 refine rO (s:=λ R=>F.lj (R:=R) N) (app:=λ _ d k=>k d) (λ y:(Int×Int)×TT×List Int=>y.1.1=nx.length/\0<=y.1.2/\y.1.2<=nx.length/\y.2.1=(cl,w,b,df,tg,en,nx,ck)/\(y.2.2.length:Int)=out.length+4*y.1.2/\y.2.2++Dy (slB nx ck) nx.length (nx.length-y.1.2.toNat)=out++Dy (slB nx ck) nx.length nx.length) (λ y=>((nx.length:Int)-y.1.2).toNat) (λ y hy=> ?_) N _ ⟨rfl,by simp,by simp,rfl,by simp,rfl⟩ (by dsimp only;omega)
 obtain⟨⟨n,j⟩,y,r⟩:=y
 obtain⟨g1,j0,j1,g3,hr,g4⟩:=hy
 dsimp only at g1 j0 j1 g3 hr g4
 subst g1 g3
 simp only[F.lj]
 refine rB (λ x=> ?_) λ x=>rL (.inr _) (by have:¬j<nx.length:=(by simpa using x);rw[show nx.length-j.toNat=0 by omega] at g4;simp only[Dy,yF] at g4;rw[g4];rfl) λ _ _=>rfl
 have x:j<nx.length:=by simpa using x
 rw[Af (n:=j+1) (by omega) (by omega)]
 refine rC (Ae j0 (by omega)) (rC (Ae j0 (by omega)) (rL (.inl (((nx.length:Int),j+1),(cl,w,b,df,tg,en,nx,ck),r++slB nx ck j.toNat)) ⟨⟨rfl,by dsimp only;omega,by dsimp only;omega,rfl,by simp only[zB,Ahf];omega, ?_⟩,by dsimp only;omega⟩ λ R k=> ?_))
 ·dsimp only
  rw[Km _ (show j.toNat<nx.length by omega)] at g4
  rw[show(j+1).toNat=j.toNat+1 by omega,zM,g4]
 ·exact T4 _ r (by simp) (by omega) hN _
theorem Al9:∃σ:Int,0<=σ/\σ<=65535/\(∀R k,F.ry (R:=R) N (C5 cl w b df tg en nx ck) k=k σ)/\∀R k,F.rh (R:=R) N (cl,w,b,df,tg,en,nx,ck) k=k (B2 (C5 cl w b df tg en nx ck++b2 σ)):=by
 have hb:=Uj h
 have hl:=Aa6 h
 have h1:=h.bl
 have h2:=h.nk
 have h3:=h.nz
 have h4:=h.d.t1
 have h5:=h.d.cl
 obtain⟨σ,hσ,eσ⟩:=Aq9 _ hb (by omega) hN
 refine⟨σ,hσ.1,hσ.2,eσ,λ R k=> ?_⟩
 obtain⟨_,rfl,et⟩:=M6 h hN
 obtain⟨_,rfl,e0⟩:=Av2 h hN (out:=[88,68,70,49]++(b2 b.length++(b2 w++b2 nx.length))) (by simp[b2])
 obtain⟨_,rfl,e2⟩:=Av3 h hN (out:=[88,68,70,49]++(b2 b.length++(b2 w++b2 nx.length))++cl) (by simp[b2];omega)
 obtain⟨_,rfl,e4⟩:=Av4 h hN (out:=[88,68,70,49]++(b2 b.length++(b2 w++b2 nx.length))++cl++Dy (stB b df tg en) b.length b.length) (by simp[b2,M4 _ (Aah (b:=b) (df:=df) (tg:=tg) (en:=en))];omega)
 simp only[F.rh]
 rw[Ahk]
 refine(et R _).trans ?_
 simp only[yO,cond_false,chk]
 rw[show Bj [88,68,70,49]=[88,68,70,49] from rfl,Bg (by simp) (by omega),cond_true,T4 _ _ (by simp) (by simp) hN]
 refine(e0 R _).trans ((e2 R _).trans ((e4 R _).trans ?_))
 have e:[88,68,70,49]++(b2 b.length++(b2 w++b2 nx.length))++cl++Dy (stB b df tg en) b.length b.length++Dy (slB nx ck) nx.length nx.length=C5 cl w b df tg en nx ck:=by
  simp only[C5,zM]
 rw[e]
 refine(eσ R _).trans ?_
 dsimp only
 rw[T4 _ _ (by simp) (by omega) hN]
 rfl
end
theorem Zs{l:List Int}(h:H5 l):Bj (B2 l)=l:=by
 simp only[Bj,B2,List.map_map]
 refine(List.map_congr_left (g:=id) λ x hx=> ?_).trans (List.map_id l)
 have:=h x hx
 simp only[Function.comp_apply,UInt8.toNat_ofNat',id]
 omega
theorem Ar8(l:List Int):(B2 l).length=l.length:=by simp[B2]
theorem An2(l:List Int)(n:Nat):(B2 l).take n=B2 (l.take n):=by simp[B2,List.map_take]
theorem Ac9(l:List Int)(n:Nat):(B2 l).drop n=B2 (l.drop n):=by simp[B2,List.map_drop]
theorem Yc{R:Type}(c:Int)(k0:Int->Option R)(k1:Unit->Option R){b:Bool}(h:b=true):F.dy (b,c) (k0,k1)=k1 ():=by subst h;rfl
theorem Avp{n:Nat}(h:n<=4000000):xS n big=true:=by
 rw[xO]
 simp only[big]
 omega
theorem J7{l:List Int}{j:Nat}(h:j<l.length):l.take j++[l.getD j 0]=l.take (j+1):=by
 rw[zH h,A8 l h]
theorem Aki{l r:List Int}(h:l.length=256):(decide (0<=256)&&decide ((256:Int)<=((l++r).length:Int)))=true/\yS ((l++r).length-zL 256) (xE (zL 256) (l++r))=r:=by
 constructor
 ·simp;omega
 ·rw[show zL 256=l.length from h.symm,xQ,zI (by rw[zB];omega)]
section
variable{N:Nat}{cl b df tg en nx ck:List Int}{w:Int}(h:TOk cl w b df tg en nx ck)
include h
theorem Axw{R:Type}{n m x:Int}{rest b0 d0 t0 e0 n0 c0:List Int}{k}:∀(d z i:Nat),i+d=256->d<z->
  F.dm (R:=R) N z ((n,m,(0,256),256,(i:Int)),x,cl++rest,cl.take i,b0,d0,t0,e0,n0,c0) k=k ((n,m),x,cl++rest,cl,b0,d0,t0,e0,n0,c0):=by
 have h5:=h.d.cl
 have h6:=h.d.w1
 intro d
 induction d with
 | zero=>
  intro z i hi hz
  obtain⟨z,rfl⟩:=sc hz
  simp only[F.dm,lp,F.az,zD]
  rw[if_neg (by omega),zI (by omega)]
 | succ d ih=>
  intro z i hi hz
  obtain⟨z,rfl⟩:=sc hz
  have hj:i<cl.length:=by omega
  have q:=h.d.ci _ (zC hj)
  simp only[F.dm,lp,F.az,zD,chk]
  rw[if_pos (by omega),Ae (by omega) (by omega),Gz (by simp only[zJ,zF];omega),Af (n:=(i:Int)+1) (by omega) (by omega)]
  have e:zE (cl++rest) (0+zL (i:Int)) 0=cl[i]:=by
   rw[zG,xB,List.getD_eq_getElem?_getD,List.getElem?_append_left hj,List.getElem?_eq_getElem hj]
   rfl
  rw[e,Af (n:=cl[i]) (by omega) (by omega),<-zH hj]
  have:=ih z (i+1) (by omega) (by omega)
  rw[up1] at this
  exact this
theorem Axx{R:Type}{m x:Int}{rest n0 c0:List Int}{k}:∀(d z i:Nat),i+d=b.length->d<z->
  F.dn (R:=R) N z ((m,(b.length:Int),(i:Int)),x,Dy (stB b df tg en) b.length (b.length-i)++rest,cl,b.take i,df.take i,tg.take i,en.take i,n0,c0) k=k (m,x,rest,cl,b,df,tg,en,n0,c0):=by
 have h1:=h.bl
 have h2:=h.dl
 have h3:=h.d.el
 have h4:=h.d.t1
 intro d
 induction d with
 | zero=>
  intro z i hi hz
  obtain⟨z,rfl⟩:=sc hz
  simp only[F.dn,lp,F.bb,zD]
  rw[if_neg (by omega),zI (l:=b) (by omega),zI (l:=df) (by omega),zI (l:=tg) (by omega),zI (l:=en) (by omega),show b.length-i=0 by omega]
  rfl
 | succ d ih=>
  intro z i hi hz
  obtain⟨z,rfl⟩:=sc hz
  have a1:i<b.length:=by omega
  have a2:i<df.length:=by omega
  have a3:i<tg.length:=by omega
  have a4:i<en.length:=by omega
  have q1:=h.b _ (zC a1)
  have q2:=h.df _ (zC a2)
  have q3:=h.d.ti _ (zC a3)
  have q4:=h.d.ei _ (zC a4)
  rw[<-A8] at q1 q2 q3 q4
  have ih':=ih z (i+1) (by omega) (by omega)
  rw[up1,<-J7 a1,<-J7 a2,<-J7 a3,<-J7 a4] at ih'
  simp only[F.dn,lp,F.bb,zD,chk]
  rw[if_pos (by omega),Km _ a1]
  simp only[stB,zM]
  rw[Io]
  dsimp only
  rw[Gz (by simp only[zJ,zF];omega),cond_true,Io]
  dsimp only
  rw[Gz (by simp only[zJ,zF];omega),cond_true,Ot (by omega)]
  dsimp only
  rw[Gz (by simp only[zJ,zF];omega),cond_true,Ot (by omega)]
  dsimp only
  rw[Gz (by simp only[zJ,zF];omega),cond_true,Af (n:=(i:Int)+1) (by omega) (by omega),show b.getD i 0%65536=b.getD i 0 by omega,show df.getD i 0%65536=df.getD i 0 by omega]
  exact ih'
theorem Axy{R:Type}{x:Int}{rest:List Int}{k}:∀(d z i:Nat),i+d=nx.length->d<z->
  F.dp (R:=R) N z (((nx.length:Int),(i:Int)),x,Dy (slB nx ck) nx.length (nx.length-i)++rest,cl,b,df,tg,en,nx.take i,ck.take i) k=k (x,rest,cl,b,df,tg,en,nx,ck):=by
 have h1:=h.nk
 have h2:=h.nz
 have h4:=h.d.t1
 intro d
 induction d with
 | zero=>
  intro z i hi hz
  obtain⟨z,rfl⟩:=sc hz
  simp only[F.dp,lp,F.bc,zD]
  rw[if_neg (by omega),zI (l:=nx) (by omega),zI (l:=ck) (by omega),show nx.length-i=0 by omega]
  rfl
 | succ d ih=>
  intro z i hi hz
  obtain⟨z,rfl⟩:=sc hz
  have a1:i<nx.length:=by omega
  have a2:i<ck.length:=by omega
  have q1:=h.x _ (zC a1)
  have q2:=h.c _ (zC a2)
  rw[<-A8] at q1 q2
  have ih':=ih z (i+1) (by omega) (by omega)
  rw[up1,<-J7 a1,<-J7 a2] at ih'
  simp only[F.dp,lp,F.bc,zD,chk]
  rw[if_pos (by omega),Km _ a1]
  simp only[slB,zM]
  rw[Io]
  dsimp only
  rw[Gz (by simp only[zJ,zF];omega),cond_true,Ot (by omega)]
  dsimp only
  rw[Gz (by simp only[zJ,zF];omega),cond_true,Af (n:=(i:Int)+1) (by omega) (by omega),show nx.getD i 0%65536=nx.getD i 0 by omega]
  exact ih'
variable(hN:10000000<N)
include hN
theorem Awi{σ:Int}(s0:0<=σ)(s1:σ<=65535)(hσ:∀R k,F.ry (R:=R) N (C5 cl w b df tg en nx ck) k=k σ){R:Type}{k}:F.ua (R:=R) N (B2 (C5 cl w b df tg en nx ck++b2 σ)) k=k w 0 cl b df tg en nx ck:=by
 have hb:=Uj h
 have hl:=Aa6 h
 have h1:=h.bl
 have h2:=h.nk
 have h3:=h.nz
 have h4:=h.d.t1
 have h5:=h.d.cl
 have h6:=h.d.t0
 have h7:=h.d.w0
 have h8:=h.d.w1
 have hB:H5 (C5 cl w b df tg en nx ck++b2 σ):=hb.append (E1 _)
 have hL:(C5 cl w b df tg en nx ck++b2 σ).length=268+8*b.length+4*nx.length:=by rw[zB,hl];simp only[b2,z9,z8];omega
 have d4:(C5 cl w b df tg en nx ck++b2 σ).drop 4=b2 b.length++(b2 w++(b2 nx.length++(cl++(Dy (stB b df tg en) b.length b.length++(Dy (slB nx ck) nx.length nx.length++b2 σ))))):=by
  simp only[C5,zM]
  rfl
 have t4:(B2 (C5 cl w b df tg en nx ck++b2 σ)).take 4=[88,68,70,49]:=rfl
 have dz:(C5 cl w b df tg en nx ck++b2 σ).drop (C5 cl w b df tg en nx ck).length=b2 σ++[]:=by rw[xQ,yF]
 have tz:(C5 cl w b df tg en nx ck++b2 σ).take (C5 cl w b df tg en nx ck).length=C5 cl w b df tg en nx ck:=List.take_left ..
 have len:(B2 (C5 cl w b df tg en nx ck++b2 σ)).length=268+8*b.length+4*nx.length:=by rw[Ar8,hL]
 have l2:(C5 cl w b df tg en nx ck).length=(B2 (C5 cl w b df tg en nx ck++b2 σ)).length-2:=by omega
 rw[l2] at dz tz
 have r2:Aa .i64 (((B2 (C5 cl w b df tg en nx ck++b2 σ)).length:Int)-2)=(((B2 (C5 cl w b df tg en nx ck++b2 σ)).length-2:Nat):Int):=by rw[Af (by omega) (by omega)];omega
 have hs4:=(show Bj ((B2 (C5 cl w b df tg en nx ck++b2 σ)).drop 4)=(C5 cl w b df tg en nx ck++b2 σ).drop 4 by rw[Ac9];exact Zs λ x hx=>hB x (yZ hx)).trans d4
 have hsz:Bj ((B2 (C5 cl w b df tg en nx ck++b2 σ)).drop ((B2 (C5 cl w b df tg en nx ck++b2 σ)).length-2))=b2 σ++[]:=by rw[Ac9,dz,yF,Zs (E1 _)]
 have hst:Bj ((B2 (C5 cl w b df tg en nx ck++b2 σ)).take ((B2 (C5 cl w b df tg en nx ck++b2 σ)).length-2))=C5 cl w b df tg en nx ck:=by rw[An2,tz,Zs hb]
 have l0:=λ k=>Axw (R:=R) (N:=N) h (n:=b.length) (m:=nx.length) (x:=w) (rest:=Dy (stB b df tg en) b.length b.length++(Dy (slB nx ck) nx.length nx.length++b2 σ)) (b0:=[]) (d0:=[]) (t0:=[]) (e0:=[]) (n0:=[]) (c0:=[]) (k:=k) 256 N 0 rfl (by omega)
 have l2':=λ k=>Axx (R:=R) (N:=N) h (m:=nx.length) (x:=w) (rest:=Dy (slB nx ck) nx.length nx.length++b2 σ) (n0:=[]) (c0:=[]) (k:=k) b.length N 0 (by omega) (by omega)
 have l4':=λ k=>Axy (R:=R) (N:=N) h (x:=w) (rest:=b2 σ) (k:=k) nx.length N 0 (by omega) (by omega)
 obtain⟨_,rfl,et⟩:=M6 h hN
 generalize B2 (C5 cl w b df tg en nx ck++b2 σ)=s at*
 simp only[Nat.sub_zero,zK,List.take_zero] at l0 l2' l4'
 have c4:(decide (0<=4)&&decide ((4:Int)<=(s.length:Int)))=true:=by simp;omega
 have c2:(decide (0<=Aa .i64 ((s.length:Int)-2))&&decide (Aa .i64 ((s.length:Int)-2)<=(s.length:Int)))=true:=by rw[r2];simp
 simp only[F.ua,F.oy,chk]
 rw[Yc _ _ _ (decide_eq_true (by omega)),c4,cond_true,Yc _ _ _ (by rw[show zL 4=4 from rfl,zV,t4];rfl),cond_true,yA,Avp (by rw[yP];omega),cond_true,show zL 4=4 from rfl,hs4,Amn]
 dsimp only
 rw[Io]
 dsimp only
 rw[Io]
 dsimp only
 rw[show(b.length:Int)%65536=b.length by omega,show(nx.length:Int)%65536=nx.length by omega,show w%65536=w by omega,decide_eq_true (show(b.length:Int)>=1 by omega),decide_eq_true (show(b.length:Int)<=4000 by omega),decide_eq_true (show w>=1 by omega),decide_eq_true (show w<=256 by omega)]
 simp only[cond_true]
 rw[Yc _ _ _ (decide_eq_true (by omega))]
 simp only[jn,F.au,chk]
 rw[Yc _ _ _ (by rw[Af (n:=8*(b.length:Int)) (by omega) (by omega),Af (n:=268+8*(b.length:Int)) (by omega) (by omega),Af (n:=4*(nx.length:Int)) (by omega) (by omega),Af (by omega) (by omega),len];simp),c2,cond_true,yA,Avp (by rw[yP];omega),cond_true,r2,zG,hsz,Aik]
 dsimp only
 rw[cond_true,Avp (by rw[zV,zJ];omega),cond_true,zV,hst]
 refine(hσ _ _).trans ?_
 rw[Yc _ _ _ (by rw[show σ%65536=σ by omega];exact beq_self_eq_true σ),(Aki h5).1,cond_true]
 refine(l0 _).trans ?_
 dsimp only
 rw[(Aki h5).1,cond_true,(Aki h5).2]
 refine(l2' _).trans ((l4' _).trans ((et R _).trans ?_))
 exact Yc _ _ _ rfl
end
theorem RetK.eq{K:Type->Type}{O:Type}{app:∀R,O->K R->Option R}{m m':∀R,K R->Option R}{P:O->Prop}(h:∀R k,m R k=m' R k)(hm:RetK app m' P):RetK app m P:=by
 obtain⟨o,ho,e⟩:=hm
 exact⟨o,ho,λ R k=>(h R k).trans (e R k)⟩
theorem Gq(l:List Int){N:Nat}(hl:l.length<=4000000)(hN:10000000<N):Ret (λ R q=>F.ai (R:=R) N (l,l) q) (λ o=>o=true):=by
 simp only[F.ai]
 refine RetK.no (by simp) (rD (rO (s:=λ R=>F.bd (R:=R) N) (app:=Db) (P:=λ o:Unit⊕Bool=>o=.inl ()) (λ y:List Int×List Int×Int×Int=>y.1=l/\y.2.1=l/\y.2.2.1=l.length/\0<=y.2.2.2/\y.2.2.2<=l.length) (λ y=>((l.length:Int)-y.2.2.2).toNat) ?_ N (l,l,(l.length:Int),0) ⟨rfl,rfl,rfl,by simp,by simp⟩ (by dsimp only;omega)) ?_)
 ·rintro⟨a,b,n,j⟩ ⟨g1,g2,g3,j0,j1⟩
  dsimp only at g1 g2 g3 j0 j1
  subst g1 g2 g3
  simp only[F.bd]
  refine rB (λ x=> ?_) λ x=>rL (.inr (.inl ())) rfl λ _ _=>rfl
  have x:j<b.length:=by simpa using x
  rw[Af (n:=j+1) (by omega) (by omega)]
  exact rC (Ae j0 x) (rC (Ae j0 x) (RetK.no (by simp) (rL (.inl _) ⟨⟨rfl,rfl,rfl,by dsimp only;omega,by dsimp only;omega⟩,by dsimp only;omega⟩ λ _ _=>rfl)))
 ·rintro _ rfl
  exact rL true rfl λ _ _=>rfl
theorem Anj: @F.ai= @F.ai:=rfl
theorem Ai5{n:List Int}{w s t col:Nat}(hn:n.length=t*w)(hs:s<t)(hc:col<w):s*w+col<n.length/\(Bq n w s).getD col 0=n.getD (s*w+col) 0:=by
 have h1:(s+1)*w<=t*w:=yK w hs
 have h2:(s+1)*w=s*w+w:=by rw[xF,xG]
 refine⟨by omega, ?_⟩
 simp only[Bq,List.getD_eq_getElem?_getD,List.getElem?_drop]
 rw[List.getElem?_take_of_lt (by omega)]
section
variable{N:Nat}{more:List Int}(hm:∀x∈more,0<=x/\x<=255)
theorem Aui(hm:∀x∈more,0<=x/\x<=255){s:Int}(s0:0<=s):Ret (λ R q=>F.uw (R:=R) N (more,s,256) q) (λ o=>0<=o/\o<=255):=by
 simp only[F.uw,jn,F.uc]
 refine rB (λ _=>RetK.yes rfl (rL 0 (by simp) λ _ _=>rfl)) λ h=>RetK.no rfl ?_
 have hl:0<(more.length:Int):=by
  have:¬(more.length:Int)=0:=by simpa using h
  omega
 have e0:=Int.emod_nonneg s (show(more.length:Int)≠0 by omega)
 have e1:=Int.emod_lt_of_pos s hl
 have hi:(s%(more.length:Int)).toNat<more.length:=by omega
 have q:=hm _ (zC hi)
 rw[yB s0,A8 more hi,Af (n:=more[_]) (by omega) (by omega),yB q.1]
 exact rC (by rw[h];rfl) (rC (Ae e0 e1) (rC rfl (rL _ (by omega) λ _ _=>rfl)))
variable{cl n tg en b df nx ck:List Int}{w:Int}(hd:Kb (cl,w,n,tg,en))(g:Good tg.length w.toNat (Bq n w.toNat) tg.length (b,df,nx,ck))(hN:10000000<N)
include hd g
theorem Aew{s c:Int}(hs:0<=s/\s<tg.length)(hc:0<=c/\c<=255):inB (Aa .i64 ((Aa .i64 (s*w))+(zE cl (zL c) 0))) n.length=true/\Aii (b,df,nx,ck) s.toNat (zE cl c.toNat 0).toNat=zE n (zL (Aa .i64 ((Aa .i64 (s*w))+zE cl (zL c) 0))) 0:=by
 obtain⟨g1,g2,g3,g4,g5,g6,g7,g8,g9,-,-⟩:=hd
 dsimp only at g1 g2 g3 g4 g5 g6 g7 g8 g9
 obtain⟨w,rfl⟩:∃v:Nat,w=v:=⟨w.toNat,by omega⟩
 obtain⟨s,rfl⟩:∃v:Nat,s=v:=⟨s.toNat,by omega⟩
 have hci:c.toNat<cl.length:=by omega
 have q:=g8 _ (zC hci)
 rw[A8 cl hci]
 obtain⟨col,hcol⟩:∃v:Nat,cl[c.toNat]=v:=⟨cl[c.toNat].toNat,by omega⟩
 rw[hcol] at q⊢
 have hnl:n.length=tg.length*w:=by rw[<-zQ] at g7;omega
 have hst:s<tg.length:=by omega
 have hr:=Ai5 hnl hst (show col<w by omega)
 have hb:tg.length*w<=4000*256:=yU g5 (by omega)
 have hgo:=g.go s hst col (by dsimp only[zG];omega)
 rw[zG] at hgo⊢
 rw[<-zQ,Af (n:=((s*w:Nat):Int)) (by omega) (by omega),Af (by omega) (by omega)]
 refine⟨Ae (by omega) (by omega), ?_⟩
 rw[show(((s*w:Nat):Int)+(col:Int)).toNat=s*w+col by omega]
 exact hgo.trans hr.2
include hm hN
abbrev Tl(w:Int)(cl n tg en b df nx ck:List Int):=(w,w,cl,n,tg,en,cl,b,df,tg,en,nx,ck)
theorem Awb{stp s:Int}(hs:0<=s/\s<tg.length):RetK (K:=λ _=>_×_) Db (λ R q=>F.wi (R:=R) N N ((more,(tg.length:Int),stp,s,0),Tl w cl n tg en b df nx ck) q) (λ o=>o=.inl ((more,(tg.length:Int),stp,s),Tl w cl n tg en b df nx ck)):=by
 have ht:=I2 hd g
 have h5:=ht.d.cl
 refine rO (s:=λ R=>F.kc (R:=R) N) (app:=Db) (λ y=>y.1.1=more/\y.1.2.1=tg.length/\y.1.2.2.1=stp/\y.1.2.2.2.1=s/\0<=y.1.2.2.2.2/\y.1.2.2.2.2<=4/\y.2=Tl w cl n tg en b df nx ck) (λ y=>(4-y.1.2.2.2.2).toNat) (λ y hy=> ?_) N _ ⟨rfl,rfl,rfl,rfl,by simp,by simp,rfl⟩ (by dsimp only;omega)
 obtain⟨⟨m',n',p',s',j⟩,y⟩:=y
 obtain⟨g1,g2,g3,g4,j0,j1,g5⟩:=hy
 dsimp only at g1 g2 g3 g4 j0 j1 g5
 subst g1 g2 g3 g4 g5
 simp only[F.kc]
 refine rB (λ x=> ?_) λ x=>rL (.inr (.inl _)) rfl λ _ _=>rfl
 have x:j<4:=by simpa using x
 have go:∀c:Int,0<=c/\c<=255->RetK (K:=λ R=>((_->Option R)×(_->Option R)×(_->Option R))) (aS Db) (λ R q=>jn (F.oa (R:=R) N q.1 (q.2.1,q.2.2)) ((m',(tg.length:Int),p',s',j,c),Tl w cl n tg en b df nx ck)) (Sm (λ y=>y.1.1=m'/\y.1.2.1=tg.length/\y.1.2.2.1=p'/\y.1.2.2.2.1=s'/\0<=y.1.2.2.2.2/\y.1.2.2.2.2<=4/\y.2=Tl w cl n tg en b df nx ck) (λ y=>(4-y.1.2.2.2.2).toNat) ((m',(tg.length:Int),p',s',j),Tl w cl n tg en b df nx ck) (λ o=>o=Sum.inl ((m',(tg.length:Int),p',s'),Tl w cl n tg en b df nx ck))):=λ c hc=>by
  have hi:=Aew hd g hs hc
  simp only[jn,F.oa]
  refine rD (Amz ht hN hs hc) ?_
  rintro _ rfl
  rw[Af (n:=j+1) (by omega) (by omega),hi.2]
  exact rC (Ae hc.1 (by omega)) (rC hi.1 (RetK.no (by simp) (rL (.inl _) ⟨⟨rfl,rfl,rfl,rfl,by dsimp only;omega,by dsimp only;omega,rfl⟩,by dsimp only;omega⟩ λ _ _=>rfl)))
 refine rB (λ _=>rD (Aui hm hs.1) go) λ _=>go _ ?_
 rw[Af (n:=97+j) (by omega) (by omega)]
 omega
theorem Amt{stp:Int}(hp:1<=stp/\stp<=1000):RetK (K:=λ _=>_×_) Db (λ R q=>F.nr (R:=R) N N ((more,(tg.length:Int),stp,0),Tl w cl n tg en b df nx ck) q) (λ o=>o=.inl ()):=by
 have h4:=(I2 hd g).d.t1
 refine rO (s:=λ R=>F.ke (R:=R) N) (app:=Db) (λ y=>y.1.1=more/\y.1.2.1=tg.length/\y.1.2.2.1=stp/\0<=y.1.2.2.2/\y.1.2.2.2<=10000/\y.2=Tl w cl n tg en b df nx ck) (λ y=>(10000-y.1.2.2.2).toNat) (λ y hy=> ?_) N _ ⟨rfl,rfl,rfl,by simp,by simp,rfl⟩ (by dsimp only;omega)
 obtain⟨⟨m',n',p',s⟩,y⟩:=y
 obtain⟨g1,g2,g3,j0,j1,g5⟩:=hy
 dsimp only at g1 g2 g3 j0 j1 g5
 subst g1 g2 g3 g5
 simp only[F.ke]
 refine rB (λ x=>rD (Awb hm hd g hN ⟨j0,by simpa using x⟩) ?_) λ x=>rL (.inr (.inl ())) rfl λ _ _=>rfl
 have x:s<tg.length:=by simpa using x
 rintro _ rfl
 dsimp only[Db]
 rw[Af (n:=s+p') (by omega) (by omega)]
 exact rL (.inl _) ⟨⟨rfl,rfl,rfl,by dsimp only;omega,by dsimp only;omega,rfl⟩,by dsimp only;omega⟩ λ _ _=>rfl
theorem Arh:Ret (λ R q=>jn (F.ga (R:=R) N q) ((more,false),Tl w cl n tg en b df nx ck)) (λ o=>o=true):=by
 have h4:=(I2 hd g).d.t1
 simp only[jn,F.ga]
 refine RetK.no rfl (rB (λ x=>rC rfl (rD (Amt hm hd g hN ?_) ?_)) λ x=>rD (Amt hm hd g hN (by omega)) ?_)
 ·have x:(tg.length:Int)>60:=by simpa using x
  rw[Int.tdiv_eq_ediv_of_nonneg (by omega),Af (by omega) (by omega)]
  omega
 all_goals
  rintro _ rfl
  exact rL true rfl λ _ _=>rfl
theorem Arg:Ret (λ R q=>jn (F.pk (R:=R) N q) ((more,0,0),w,w,cl,n,tg,en,cl,b,df,tg,en,nx,ck)) (λ o=>o=true):=by
 have ht:=I2 hd g
 dsimp only at ht
 have h1:=ht.bl
 have h2:=ht.dl
 have h3:=ht.nk
 have h4:=ht.nz
 have h5:=ht.d.cl
 have h6:=ht.d.t1
 have h7:=ht.d.el
 obtain⟨σ,s0,s1,es,ee⟩:=Al9 ht hN
 have sT:Ret (λ R q=>F.nq (R:=R) N ((cl,w,b,df,tg,en,nx,ck),cl,w,b,df,tg,en,nx,ck) q) (λ o=>o=true):=by
  simp only[F.nq]
  refine RetK.yes (by simp) (rD (Gq cl (by omega) hN) ?_)
  rintro _ rfl
  refine RetK.yes rfl (rD (Gq b (by omega) hN) ?_)
  rintro _ rfl
  refine RetK.yes rfl (rD (Gq df (by omega) hN) ?_)
  rintro _ rfl
  refine RetK.yes rfl (rD (Gq tg (by omega) hN) ?_)
  rintro _ rfl
  refine RetK.yes rfl (rD (Gq en (by omega) hN) ?_)
  rintro _ rfl
  refine RetK.yes rfl (rD (Gq nx (by omega) hN) ?_)
  rintro _ rfl
  refine RetK.yes rfl (rD (Gq ck (by omega) hN) ?_)
  rintro _ rfl
  exact rL true rfl λ _ _=>rfl
 simp only[jn,F.pk]
 refine RetK.no rfl (RetK.no rfl (rD (M6 ht hN) ?_))
 rintro _ rfl
 refine RetK.no rfl (RetK.eq (λ R k=>(ee R _).trans (Awi ht hN s0 s1 es)) ?_)
 simp only[F.vp]
 refine RetK.no rfl (rD sT ?_)
 rintro _ rfl
 rw[Anj]
 refine RetK.no rfl (rD (Gq tg (by omega) hN) ?_)
 rintro _ rfl
 refine RetK.no rfl (rD (Gq en (by omega) hN) ?_)
 rintro _ rfl
 exact Arh hm hd g hN
end
theorem law{L more:List Int}(hL:Src L)(hm:∀x∈more,0<=x/\x<=255){N:Nat}(hN:10000000000<N):Ret (λ R q=>jn (F.jd (R:=R) N q) (L,more,false)) (λ o=>o=true):=by
 simp only[jn,F.jd]
 obtain⟨⟨w,cl,n,tg,en⟩,⟨w0,w1,l1,l2,l3,l4⟩,ed⟩:=Akl hL hN
 dsimp only at w0 w1 l1 l2 l3 l4
 refine RetK.no rfl (RetK.eq (λ R k=>ed R _) (rD (Anu (cl,w,n,tg,en) (by dsimp only;omega) (by dsimp only;omega) (by dsimp only;omega) (by dsimp only;omega) (by dsimp only;omega) (by omega)) ?_))
 rintro⟨⟨x1,z⟩,x2,x3,x4,x5,x6,x7,x8⟩ hz
 dsimp only at hz
 simp only[F.wj]
 refine RetK.eq (λ R k=>ed R _) (rD (Amm (cl,w,n,tg,en) (by dsimp only;omega) (by dsimp only;omega) (by dsimp only;omega) (by dsimp only;omega) (by dsimp only;omega) (by omega)) ?_)
 rintro⟨⟨y1,z'⟩,y2,y3,y4,y5,y6,y7,y8⟩ ⟨hz',hp⟩
 dsimp only at hz' hp
 rw[<-hz] at hz'
 subst hz'
 by_cases h0:z'=0
 ·subst h0
  obtain⟨hd,⟨b,df,nx,ck⟩,hs,e⟩:=hp rfl
  simp only[zA] at e
  obtain⟨⟨rfl,-⟩,rfl,rfl,rfl,rfl,rfl,rfl,rfl⟩:=e
  exact Arg hm hd (Acv hd hs) (by omega)
 ·simp only[jn,F.pk]
  exact RetK.no (by simp) (RetK.yes (by simpa using h0) (rL true rfl λ _ _=>rfl))
theorem Aga{n:Int}(h:(Lit.int .u8 n).wf=true):0<=n/\n<256:=by
 simp[Lit.wf,IntKind.min,IntKind.max,IntKind.signed,IntKind.bits] at h
 omega
theorem FnImage:∀(a0:Ki.den (.lst (.int .u8))),∀(a1:Ki.den (.lst (.int .u8))),Fit (.lst (.int .u8)) a0->Fit (.lst (.int .u8)) a1->∃N,F.vq N (a0,a1) (λ b=>some b)=some true:=by
 intro a0 a1 h0 h1
 obtain⟨N,hN⟩:∃N,10000000000<N:=⟨10000000001,by omega⟩
 refine⟨N, ?_⟩
 have no:∀l m:List Int,jn (F.jd N λ b=>some b) (l,m,true)=some true:=λ l m=>by simp only[jn,F.jd];rfl
 simp only[F.vq]
 cases e:decide ((zW (α:=Int) a0:Int)>1048576)
 ·cases e2:decide ((zW (α:=Int) a1:Int)>1048576)
  ·have e:¬(zW (α:=Int) a0:Int)>1048576:=by simpa using e
   obtain⟨o,ho,es⟩:=law (L:=a0) (more:=a1) (N:=N) ⟨by omega,λ x hx=>Aga (h0.2 x hx)⟩ (λ x hx=>by have:=Aga (h1.2 x hx);omega) hN
   subst ho
   exact es _ some
  ·exact no _ _
 ·exact no _ _
end Go.Proofs.Ytlnfickaejikoaa.fnImage.Pure
