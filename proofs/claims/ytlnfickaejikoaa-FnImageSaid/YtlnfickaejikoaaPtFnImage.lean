/- The plain law of FnImage. -/
import Derived.Test.YtlnfickaejikoaaFdFnImage
open List renaming length_cons->z8,length_nil->z9,length_append->zA,length_set->zC,length_take->zD,length_drop->zE,getElem_mem->zF,take_length->zG,take_succ_eq_append_getElem->zH,length_replicate->zI,map_append->zK,getD->zL,take_append_drop->zM,take_of_length_le->zO,map_cons->zP,flatten_append->zQ,foldl_cons->zR,drop_zero->zT,foldl_append->zV,length->zW,take_append_of_le_length->zX,replicate->zZ,mem_cons->yA,append_assoc->yB,take_add_one->yC,take->yD,cons_append->yE,foldl->yF,map_nil->yG,take_take->yL,mem_of_mem_take->yM,map->yN,flatten_cons->yP,not_mem_nil->yR,flatten_nil->yT,idxOf_cons->yV,nil_append->yX,append_nil->yY,sum_append->yZ,take_drop->xB
open Prod.mk renaming injEq->zB
open Int renaming toNat_natCast->zJ,le_trans->yH,toNat->yK,tmod_lt_of_pos->yO,le_refl->yS,tmod_nonneg->yW,mul_le_mul->xA
open Nat renaming ble_eq->zN,zero_le->zS,mul_le_mul->zU,ble->zY,succ_mul->yI,min_eq_left->yJ,not_lt_zero->yU,mul_assoc->xD,le_refl->xE
open Bool renaming and_eq_true->yQ,true_and->xC
namespace Go.Proofs.Ytlnfickaejikoaa.fnImage.Pure
open Go.Ev Go.Proofs.Ytlnfickaejikoaa.fnImage
set_option linter.unusedVariables false
set_option linter.unusedSimpArgs false
theorem Af{n:Int}(h0:-9223372036854775808<=n)(h1:n<=9223372036854775807):Aa .i64 n=n:=by
 simp only[Aa,IntKind.wrap,IntKind.signed,IntKind.bits,xC]
 split<;>rename_i h<;>simp only[ge_iff_le,decide_eq_true_eq] at h<;>omega
theorem Ae{i:Int}{n:Nat}(h0:0<=i)(h1:i<n):inB i n=true:=by
 simp only[inB,yQ,decide_eq_true_eq];exact⟨h0,h1⟩
theorem A8(l:List Int){i:Nat}(h:i<l.length):zL l i (0:Int)=l[i]:=by simp[List.getD_eq_getElem?_getD,h]
def RetK{K:Type->Type}{O:Type}(app:∀R,O->K R->Option R)(m:∀R,K R->Option R)(P:O->Prop):Prop:=∃o,P o/\∀R k,m R k=app R o k
abbrev Ret{D:Type}(m:∀R:Type,(D->Option R)->Option R)(P:D->Prop):Prop:=RetK (K:=λ R=>D->Option R) (λ _ d k=>k d) m P
section
variable{K:Type->Type}{O:Type}{app:∀R,O->K R->Option R}{m m':∀R,K R->Option R}{P Q:O->Prop}
theorem rC{c:Bool}(h:c=true)(hm:RetK app m P):RetK app (λ R k=>chk c (m R k)) P:=by subst h;exact hm
theorem rB{c:Bool}(h1:c=true->RetK app m P)(h2:c=false->RetK app m' P):RetK app (λ R k=>bif c then m R k else m' R k) P:=by
 cases c
 ·exact h2 rfl
 ·exact h1 rfl
theorem rD{K':Type->Type}{O':Type}{app':∀R,O'->K' R->Option R}{f:∀R,K' R->Option R}{P':O'->Prop}(hf:RetK app' f P'){κ:∀R,K R->K' R}(h:∀o,P' o->RetK app (λ R k=>app' R o (κ R k)) P):RetK app (λ R k=>f R (κ R k)) P:=by
 obtain⟨o,ho,e⟩:=hf
 obtain⟨q,hq,e2⟩:=h o ho
 exact⟨q,hq,λ R k=>(e R _).trans (e2 R k)⟩
theorem rL(o:O)(h:P o)(e:∀R k,m R k=app R o k):RetK app m P:=⟨o,h,e⟩
theorem RetK.mono(h:RetK app m P)(hp:∀o,P o->Q o):RetK app m Q:=by
 obtain⟨o,ho,e⟩:=h
 exact⟨o,hp o ho,e⟩
def aS{D:Type}(app:∀R,O->K R->Option R):∀R,D⊕O->((D->Option R)×K R)->Option R
 | _,.inl d,k=>k.1 d
 | R,.inr o,k=>app R o k.2
def Sm{D:Type}(I:D->Prop)(μ:D->Nat)(d:D)(P:O->Prop):D⊕O->Prop
 | .inl d'=>I d'/\μ d'<μ d
 | .inr o=>P o
theorem rO{D:Type}{s:∀R,D->(D->Option R)->K R->Option R}(I:D->Prop)(μ:D->Nat)
  (step:∀d,I d->RetK (K:=λ R=>(D->Option R)×K R) (aS app) (λ R k=>s R d k.1 k.2) (Sm I μ d P)):∀n d,I d->μ d<n->RetK app (λ R k=>lp (s R) n d k) P
 | 0,_,_,h=>absurd h (yU _)
 | n+1,d,hI,h=>by
  obtain⟨o,ho,e⟩:=step d hI
  cases o with
  | inl d'=>
   obtain⟨q,hq,e2⟩:=rO I μ step n d' ho.1 (by have:=ho.2;omega)
   exact⟨q,hq,λ R k=>(e R (λ x=>lp (s R) n x k,k)).trans (e2 R k)⟩
  | inr q=>exact⟨q,ho,λ R k=>e R (λ x=>lp (s R) n x k,k)⟩
end
def Db{D E:Type}:∀R:Type,D⊕E->((D->Option R)×(E->Option R))->Option R
 | _,.inl d,k=>k.1 d
 | _,.inr d,k=>k.2 d
abbrev Aqi{D E:Type}(m:∀R:Type,((D->Option R)×(E->Option R))->Option R)(P:D⊕E->Prop):Prop:=RetK (K:=λ R=>(D->Option R)×(E->Option R)) Db m P
theorem rR{D:Type}{K:Type->Type}{O:Type}{app:∀R,O->K R->Option R}{s:∀R,(D->K R->Option R)->D->K R->Option R}(I:D->Prop)(P:D->O->Prop)(μ:D->Nat)
  (step:∀(f:∀R,D->K R->Option R) d,I d->(∀d',I d'->μ d'<μ d->RetK app (λ R k=>f R d' k) (P d'))->RetK app (λ R k=>s R (f R) d k) (P d)):∀n d,I d->μ d<n->RetK app (λ R k=>rc (s R) n d k) (P d)
 | 0,_,_,h=>absurd h (yU _)
 | n+1,d,hI,h=>step (λ R=>rc (s R) n) d hI λ d' h1 h2=>rR I P μ step n d' h1 (by omega)
section reps
variable{α β γ:Type} [DecidableEq β] [DecidableEq γ]
def Arr(f:α->β)(acc:List α)(x:α):List α:=if f x∈acc.map f then acc else acc++[x]
def reps(f:α->β)(l:List α):List α:=l.foldl (Arr f) []
theorem Amk{f:α->β}{g:α->γ}{x:α}:∀{r:List α},(∀y∈r,f y=f x<->g y=g x)->(r.map f).idxOf (f x)=(r.map g).idxOf (g x)
 | [],_=>rfl
 | y::r,h=>by
  simp only[zP,yV]
  have h1:=h y (by simp)
  have ih:=Amk (x:=x) (r:=r) λ z hz=>h z (by simp[hz])
  by_cases e:f y=f x
  ·rw[show(f y==f x)=true by simpa using e,show(g y==g x)=true by simpa using h1.1 e]
   rfl
  ·rw[show(f y==f x)=false by simpa using e,show(g y==g x)=false by simpa using λ k=>e (h1.2 k),ih]
end reps
section names
variable{α:Type} [DecidableEq α]
def nm:Nat->List α->List (α×Int)
 | _,[]=>[]
 | i,x::r=>(x,(i:Int))::nm (i+1) r
omit [DecidableEq α] in
theorem Awo:∀(i:Nat) (l:List α),(nm i l).length=l.length
 | _,[]=>rfl
 | i,_::r=>by simp[nm,Awo (i+1) r]
theorem Awn{e:α->α->Bool}(he:∀a b,e a b=decide (a=b))(x:α):∀(i:Nat) (l:List α),I6 e x (nm i l)=decide (x∈l)
 | _,[]=>by simp[nm,I6]
 | i,a::r=>by
  simp only[nm,I6,he,Awn he x (i+1) r]
  by_cases h:x=a
  ·simp[h]
  ·simp[h]
theorem Awm{e:α->α->Bool}(he:∀a b,e a b=decide (a=b))(x:α)(z:Int):∀(i:Nat) (l:List α),x∈l->De e x z (nm i l)=((i+l.idxOf x:Nat):Int)
 | _,[],h=>by simp at h
 | i,a::r,h=>by
  simp only[nm,De,he,yV]
  by_cases h1:x=a
  ·subst h1;simp
  ·have h2:x∈r:=by simpa[h1] using h
   rw[decide_eq_false h1,cond_false,Awm he x z (i+1) r h2,show(a==x)=false by simpa using λ e=>h1 e.symm]
   simp only[cond_false]
   congr 1
   omega
theorem Awp{e:α->α->Bool}(he:∀a b,e a b=decide (a=b))(x:α):∀(i:Nat) (l:List α),x∉l->Ii e x ((i+l.length:Nat):Int) (nm i l)=nm i (l++[x])
 | i,[],_=>by simp[nm,Ii]
 | i,a::r,h=>by
  simp only[yA,not_or] at h
  simp only[nm,Ii,he,decide_eq_false h.1,cond_false,yE,z8]
  have:=Awp he x (i+1) r h.2
  rw[show i+1+r.length=i+(r.length+1) by omega] at this
  rw[this]
end names
section bfs
variable{α β:Type} [DecidableEq α] [DecidableEq β]
def Bz(l:List α)(x:α):List α:=if x∈l then l else l++[x]
def dd(l:List α):List α:=l.foldl Bz []
def bfs(succ:α->List α):Nat->Nat->List α->List α
 | 0,_,l=>l
 | d+1,i,l=>match l[i]? with
  | some x=>bfs succ d (i+1) ((succ x).foldl Bz l)
  | none=>l
theorem Ad9{l:List α}{x y:α}:y∈Bz l x<->y∈l\/y=x:=by
 unfold Bz
 split
 ·rename_i h
  exact⟨.inl,λ k=>k.elim id (λ e=>e▸h)⟩
 ·simp
theorem Ga{y:α}:∀{m l:List α},y∈m.foldl Bz l<->y∈l\/y∈m
 | [],l=>by simp
 | x::m,l=>by
  rw[zR,Ga,Ad9,yA,or_assoc]
theorem Za{l:List α}{x:α}(h:l.Nodup):(Bz l x).Nodup:=by
 unfold Bz
 split
 ·exact h
 ·rename_i hx
  rw[List.nodup_append]
  exact⟨h,by simp,λ a ha b hb=>by simp at hb;subst hb;exact λ e=>hx (e▸ha)⟩
theorem Nq:∀{m l:List α},l.Nodup->(m.foldl Bz l).Nodup
 | [],_,h=>h
 | _::m,_,h=>Nq (m:=m) (Za h)
theorem Aea(l:List α)(x:α):∃r,Bz l x=l++r:=by
 unfold Bz
 split
 ·exact⟨[],by simp⟩
 ·exact⟨[x],rfl⟩
theorem E5:∀(m l:List α),∃r,m.foldl Bz l=l++r
 | [],l=>⟨[],by simp⟩
 | x::m,l=>by
  obtain⟨r,hr⟩:=Aea l x
  obtain⟨s,hs⟩:=E5 m (Bz l x)
  exact⟨r++s,by rw[zR,hs,hr,yB]⟩
theorem Vb:∀{m l:List α},(∀x∈m,x∈l)->m.foldl Bz l=l
 | [],_,_=>rfl
 | x::m,l,h=>by
  rw[zR,show Bz l x=l from if_pos (h x (by simp))]
  exact Vb λ y hy=>h y (by simp[hy])
theorem T0(l:List α)(x:α):dd (l++[x])=Bz (dd l) x:=by simp[dd,zV]
theorem Ael{l:List α}{x:α}:x∈dd l<->x∈l:=by simp[dd,Ga]
theorem Agb(B:α->β):∀(m l:List α),dd ((m.foldl Bz l).map B)=(m.map B).foldl Bz (dd (l.map B))
 | [],_=>rfl
 | x::m,l=>by
  rw[zR,Agb B m,zP,zR]
  congr 1
  unfold Bz
  split
  ·rename_i h
   rw[if_pos]
   rw[Ael]
   exact List.mem_map.2 ⟨x,h,rfl⟩
  ·rw[zK,zP,yG,T0]
   rfl
theorem Xa{succ:α->List α}{succ':β->List β}{B:α->β}{S:α->Prop}(hS:∀x,S x->∀y∈succ x,S y)(hB:∀x,S x->succ' (B x)=(succ x).map B):
  ∀(d d' i j:Nat) (l:List α) (q:List β),(∀x∈l,S x)->q=dd (l.map B)->j=(dd ((l.take i).map B)).length->(∃r,q=dd ((l.take i).map B)++r)->(∀x∈l.take i,∀y∈succ' (B x),y∈q)->
   (bfs succ d i l).length<=i+d->i<=l.length->(dd ((bfs succ d i l).map B)).length<=j+d'->bfs succ' d' j q=dd ((bfs succ d i l).map B)
 | 0,d',i,j,l,q,hl,hq,hj,hp,hc,hd,hi,hd'=>by
  simp only[bfs] at hd hd'⊢
  have e:l.take i=l:=zO (by omega)
  rw[e] at hj
  cases d' with
  | zero=>simp only[bfs];exact hq
  | succ d'=>
   have:q[j]?=none:=by rw[hq,hj];simp
   simp only[bfs,this]
   exact hq
 | d+1,d',i,j,l,q,hl,hq,hj,hp,hc,hd,hi,hd'=>by
  simp only[bfs] at hd hd'⊢
  cases hx:l[i]? with
  | none=>
   rw[hx] at hd hd'
   simp only at hd hd'⊢
   have hlen:l.length<=i:=by simpa using hx
   have e:l.take i=l:=zO hlen
   rw[e] at hj
   cases d' with
   | zero=>simp only[bfs];exact hq
   | succ d'=>
    have:q[j]?=none:=by rw[hq,hj];simp
    simp only[bfs,this]
    exact hq
  | some x=>
   rw[hx] at hd hd'
   simp only at hd hd'⊢
   have hlt:i<l.length:=(List.getElem?_eq_some_iff.1 hx).1
   have hxl:x∈l:=List.mem_of_getElem? hx
   have hSx:=hl x hxl
   obtain⟨r,hr⟩:=E5 (succ x) l
   have ht:(l++r).take (i+1)=l.take i++[x]:=by
    rw[zX (by omega),yC,hx]
    rfl
   have htd:dd (((l++r).take (i+1)).map B)=Bz (dd ((l.take i).map B)) (B x):=by
    rw[ht,zK,zP,yG,T0]
   have hl':∀y∈(succ x).foldl Bz l,S y:=by
    intro y hy
    rcases Ga.1 hy with h|h
    ·exact hl y h
    ·exact hS x hSx y h
   have hq':(succ' (B x)).foldl Bz q=dd (((succ x).foldl Bz l).map B):=by rw[Agb,hB x hSx,hq]
   obtain⟨r0,hr0⟩:=hp
   by_cases hk:B x∈dd ((l.take i).map B)
   ·
    have hk':∃z∈l.take i,B z=B x:=by
     rw[Ael] at hk
     obtain⟨z,h1,h2⟩:=List.mem_map.1 hk
     exact⟨z,h1,h2⟩
    obtain⟨z,hz,hzx⟩:=hk'
    have hsame:(succ' (B x)).foldl Bz q=q:=Vb λ y hy=>hc z hz y (hzx▸hy)
    rw[hsame] at hq'
    refine Xa hS hB d d' (i+1) j _ q hl' hq' ?_ ?_ ?_ (by omega) ?_ hd'
    ·rw[hr,htd,Bz,if_pos hk];exact hj
    ·rw[hr,htd,Bz,if_pos hk];exact⟨r0,hr0⟩
    ·rw[hr,ht]
     intro y hy
     rcases List.mem_append.1 hy with hy|hy
     ·exact hc y hy
     ·have:y=x:=by simpa using hy
      subst this
      intro u hu
      exact hc z hz u (hzx▸hu)
    ·rw[hr];simp;omega
   ·have hin:B x∈q:=by rw[hq,Ael];exact List.mem_map.2 ⟨x,hxl,rfl⟩
    have hqj:q[j]?=some (B x):=by
     obtain⟨r1,hr1⟩:∃r1,q=Bz (dd ((l.take i).map B)) (B x)++r1:=by
      have e1:l=(l.take i++[x])++l.drop (i+1):=by
       have:=zM (i+1) l
       rw[yC,hx] at this
       exact this.symm
      have e2:q=dd (((l.take i++[x])++l.drop (i+1)).map B):=by rw[<-e1];exact hq
      rw[zK,dd,zV] at e2
      obtain⟨r1,h1⟩:=E5 ((l.drop (i+1)).map B) (yF Bz [] ((l.take i++[x]).map B))
      refine⟨r1,e2.trans (h1.trans ?_)⟩
      rw[zK,zP,yG]
      rw[show yF Bz [] (yN B (yD i l)++[B x])=dd (yN B (yD i l)++[B x]) from rfl,T0]
     rw[hr1,Bz,if_neg hk,hj]
     simp
    cases d' with
    | zero=>
     exfalso
     have h1:(dd ((l.take i).map B)).length<q.length:=by
      rw[<-hj];exact(List.getElem?_eq_some_iff.1 hqj).1
     have h2:q.length<=(dd (yN B (bfs succ d (i+1) ((succ x).foldl Bz l)))).length:=by
      obtain⟨s,hs⟩:=bfs_pre succ d (i+1) ((succ x).foldl Bz l)
      rw[hs,hr,hq,yB,zK,dd,dd,zV]
      obtain⟨s2,hs2⟩:=E5 ((r++s).map B) (yF Bz [] (l.map B))
      rw[hs2];simp
     omega
    | succ d'=>
     simp only[bfs,hqj]
     refine Xa hS hB d d' (i+1) (j+1) _ _ hl' hq' ?_ ?_ ?_ (by omega) ?_ (by omega)
     ·rw[hr,htd,Bz,if_neg hk];simp[hj]
     ·rw[hr,htd]
      have e2:(succ' (B x)).foldl Bz q=dd ((l++r).map B):=by rw[hq',hr]
      rw[e2]
      have e1:l++r=(l.take i++[x])++(l++r).drop (i+1):=by
       rw[<-ht];exact(zM (i+1) (l++r)).symm
      rw[e1,zK,dd,zV]
      obtain⟨r1,h1⟩:=E5 (((l++r).drop (i+1)).map B) (yF Bz [] ((l.take i++[x]).map B))
      refine⟨r1,h1.trans ?_⟩
      rw[zK,zP,yG]
      rw[show yF Bz [] (yN B (yD i l)++[B x])=dd (yN B (yD i l)++[B x]) from rfl,T0]
     ·rw[hr,ht]
      intro y hy u hu
      rw[Ga]
      rcases List.mem_append.1 hy with hy|hy
      ·exact .inl (hc y hy u hu)
      ·have:y=x:=by simpa using hy
       subst this
       exact .inr hu
     ·rw[hr];simp;omega
 where bfs_pre (succ:α->List α):∀(d i:Nat) (l:List α),∃r,bfs succ d i l=l++r
  | 0,_,l=>⟨[],by simp[bfs]⟩
  | d+1,i,l=>by
   simp only[bfs]
   cases l[i]? with
   | none=>exact⟨[],by simp⟩
   | some x=>
    obtain⟨r,hr⟩:=bfs_pre succ d (i+1) ((succ x).foldl Bz l)
    obtain⟨s,hs⟩:=E5 (succ x) l
    exact⟨s++r,by simp only;rw[hr,hs,yB]⟩
inductive Rch (succ:α->List α) (x0:α):α->Prop
 | base:Rch succ x0 x0
 | step {x y:α}:Rch succ x0 x->y∈succ x->Rch succ x0 y
theorem Ah8{succ:α->List α}{x0:α}:∀(d i:Nat) (l:List α),(∀x∈l,Rch succ x0 x)->∀x∈bfs succ d i l,Rch succ x0 x
 | 0,_,_,h=>h
 | d+1,i,l,h=>by
  simp only[bfs]
  cases hx:l[i]? with
  | none=>exact h
  | some x=>
   refine Ah8 d (i+1) _ λ y hy=> ?_
   rcases Ga.1 hy with hy|hy
   ·exact h y hy
   ·exact .step (h x (List.mem_of_getElem? hx)) hy
theorem Ah7{succ:α->List α}:∀(d i:Nat) (l:List α),l.Nodup->(bfs succ d i l).Nodup
 | 0,_,_,h=>h
 | d+1,i,l,h=>by
  simp only[bfs]
  cases l[i]? with
  | none=>exact h
  | some x=>exact Ah7 d (i+1) _ (Nq h)
theorem Aed{succ:α->List α}:∀(d i:Nat) (l:List α),(∀x∈l.take i,∀y∈succ x,y∈l)->(bfs succ d i l).length<i+d->∀x∈bfs succ d i l,∀y∈succ x,y∈bfs succ d i l
 | 0,i,l,h,hd=>by
  simp only[bfs] at hd⊢
  rwa[zO (by omega)] at h
 | d+1,i,l,h,hd=>by
  simp only[bfs] at hd⊢
  cases hx:l[i]? with
  | none=>
   have:l.length<=i:=by simpa using hx
   simp only
   rwa[zO this] at h
  | some x=>
   rw[hx] at hd
   simp only at hd⊢
   obtain⟨r,hr⟩:=E5 (succ x) l
   have hlt:i<l.length:=(List.getElem?_eq_some_iff.1 hx).1
   refine Aed d (i+1) _ ?_ (by omega)
   intro z hz y hy
   rw[Ga]
   rw[hr,zX (by omega),yC,hx] at hz
   rcases List.mem_append.1 hz with hz|hz
   ·exact .inl (h z hz y hy)
   ·have:z=x:=by simpa using hz
    subst this
    exact .inr hy
end bfs
theorem Am5{l:List Nat}(h:l.Nodup){T:Nat}(hT:∀x∈l,x<T):l.length<=T:=by
 have:=h.length_le_of_subset (l₂:=List.range T) λ x hx=>List.mem_range.2 (hT x hx)
 simpa using this
structure Src(L:List Int):Prop where
 len:L.length<=1048576
 byte:∀x∈L,0<=x/\x<256
def Cur(L:List Int)(c:List Int×Int×Int):Prop:=c.1=L/\0<=c.2.1/\c.2.1<=(L.length:Int)
theorem Rk{L:List Int}(hL:Src L){c:List Int×Int×Int}(h:Cur L c):Ret (λ R k=>F.ja (R:=R) c k) (λ o=>0<=o.1/\o.1<256/\Cur L o.2/\o.2.2.2=c.2.2):=by
 obtain⟨c,p,w⟩:=c
 obtain⟨rfl,h1,h2⟩:=h
 simp only at h1 h2 hL
 have hl:=hL.len
 simp only[F.ja]
 refine rB (λ h=>rL (0,c,p,w) ⟨by simp,by simp,⟨rfl,h1,h2⟩,rfl⟩ (λ _ _=>rfl)) λ h=> ?_
 have h3:p<c.length:=by simpa using h
 rw[Af (n:=p+1) (by omega) (by omega),show p+1-1=p by omega,Af (n:=p) (by omega) (by omega)]
 refine rC (Ae (by omega) (by omega)) ?_
 have hb:=hL.byte (c.getD p.toNat 0) (by rw[A8 c (by omega)];exact zF _)
 rw[Af (by omega) (by omega)]
 exact rL (_,c,p+1,w) ⟨hb.1,hb.2,⟨rfl,by simp only;omega,by simp only;omega⟩,rfl⟩ λ _ _=>rfl
theorem Fb{L:List Int}(hL:Src L){n:Int}{c:List Int×Int×Int}(h:Cur L c)(hn:n<=65536):Ret (λ R k=>F.aa (R:=R) (n,c) k) (λ o=>0<=o.1/\(o.1<n\/o.1=0)/\Cur L o.2/\o.2.2.2=c.2.2):=by
 obtain⟨c,p,w⟩:=c
 simp only[F.aa]
 refine rB (λ h1=>rL (0,c,p,w) ⟨by simp,by simp,h,rfl⟩ (λ _ _=>rfl)) λ h1=>rB (λ h2=> ?_) λ h2=> ?_
 ·have h1:1<n:=by simpa using h1
  refine rD (Rk hL h) ?_
  rintro⟨r,c1,p1,w1⟩ ⟨a1,a2,a3,a4⟩
  refine rC (by simp;omega) (rL (_,c1,p1,w1) ⟨yW _ a1,.inl (yO _ (by omega)),a3,a4⟩ λ _ _=>rfl)
 ·have h1:1<n:=by simpa using h1
  refine rD (Rk hL h) ?_
  rintro⟨r,c1,p1,w1⟩ ⟨a1,a2,a3,a4⟩
  refine rD (Rk hL a3) ?_
  rintro⟨r2,c2,p2,w2⟩ ⟨b1,b2,b3,b4⟩
  simp only at a1 a2 b1 b2
  refine rC (by simp;omega) ?_
  rw[Af (n:=r*256) (by omega) (by omega),Af (n:=r*256+r2) (by omega) (by omega)]
  exact rL (_,c2,p2,w2) ⟨yW _ (by omega),.inl (yO _ (by omega)),b3,b4.trans a4⟩ λ _ _=>rfl
theorem Az{L:List Int}(hL:Src L){n:Int}{c:List Int×Int×Int}(h:Cur L c)(hn:n<=65536):Ret (λ R k=>F.aa (R:=R) (n,c) k) (λ o=>0<=o.1/\(o.1<n\/o.1=0)/\Cur L o.2):=(Fb hL h hn).mono λ _ h=>⟨h.1,h.2.1,h.2.2.1⟩
theorem Akf{L:List Int}(hL:Src L){c:List Int×Int×Int}(h:Cur L c):Ret (λ R k=>F.pz (R:=R) c k) (λ o=>0<=o.1/\o.1<=2/\Cur L o.2):=by
 obtain⟨c,p,w⟩:=c
 simp only[F.pz]
 refine rD (Az hL h (by omega)) ?_
 rintro⟨r,c1,p1,w1⟩ ⟨a1,a2,a3⟩
 refine rB (λ _=>rL (2,c1,p1,w1) ⟨by simp,by simp,a3⟩ λ _ _=>rfl) λ _=>rB (λ _=>rL (1,c1,p1,w1) ⟨by simp,by simp,a3⟩ λ _ _=>rfl) λ _=>rB (λ _=>rL (1,c1,p1,w1) ⟨by simp,by simp,a3⟩ λ _ _=>rfl) λ _=>rL (0,c1,p1,w1) ⟨by simp,by simp,a3⟩ λ _ _=>rfl
theorem Bg{a n:Nat}(h:a<=4000000000000)(hn:n<=8):zY a (Ar n)=true:=by
 rw[zN]
 simp only[Ar]
 have:70368744177664/9<=70368744177664/(n+1):=Nat.div_le_div_left (by omega) (by omega)
 omega
theorem H8{a:Nat}(h:a<=1000000000000):zY a (Ar 56)=true:=by
 rw[zN]
 simp only[Ar]
 omega
theorem Af8{a:Nat}(h:a<=1000000000000):zY a (Ar 32)=true:=by
 rw[zN]
 simp only[Ar]
 omega
theorem Ai1{L:List Int}(hL:Src L){N:Nat}(hN:1000<N){a n x:Int}{c:List Int×Int×Int}{l1 l2 l3 l4 l5 l6 l7:List Int}(hc:Cur L c)(hn:n<=65536)(h5:l5.length=256):
  Ret (λ R k=>F.ux (R:=R) N N ((a,0),c,x,n,l1,l2,l3,l4,l5,l6,l7,l7) k) (λ o=>o.1=a/\Cur L o.2.1/\o.2.2.1=x/\o.2.2.2.1=n/\o.2.2.2.2.2.2.2.2.1.length=256/\o.2.2.2.2.2.2.2.2.2=(l6,l7,l7)):=by
 refine rO (s:=λ R=>F.gi (R:=R) N) (λ d=>0<=d.1.2/\d.1.2<=6/\d.1.1=a/\Cur L d.2.1/\d.2.2.1=x/\d.2.2.2.1=n/\d.2.2.2.2.2.2.2.2.1.length=256/\d.2.2.2.2.2.2.2.2.2=(l6,l7,l7)) (λ d=>(6-d.1.2).toNat) ?_ N _ ⟨by simp,by simp,rfl,hc,rfl,rfl,h5,rfl⟩ (by simp;omega)
 rintro⟨⟨e1,i⟩,⟨c1,p,w⟩,e3,e4,y1,y2,y3,y4,y5,y6,y7,y8⟩ ⟨i0,i1,rfl,hc,rfl,rfl,h5,he⟩
 simp only at i0 i1 hc h5 he
 simp only[F.gi]
 refine rB (λ h=> ?_) λ h=>rL (.inr _) ⟨rfl,hc,rfl,rfl,h5,he⟩ λ _ _=>rfl
 have h:i<6:=by simpa using h
 refine rD (Az hL hc hn) ?_
 rintro⟨r,c2,p2,w2⟩ ⟨a1,a2,a3⟩
 rw[Af (n:=97+i) (by omega) (by omega),Af (n:=i+1) (by omega) (by omega)]
 refine rC (Ae (by omega) (by omega)) ?_
 exact rL (.inl _) ⟨⟨by simp only;omega,by simp only;omega,rfl,a3,rfl,rfl,by simp only[zC];exact h5,he⟩,by simp only;omega⟩ λ _ _=>rfl
theorem Ai2{L:List Int}(hL:Src L){N:Nat}(hN:1000<N){q s x n:Int}{c:List Int×Int×Int}{l1 l2 l3 l4 l5 l6 l7 l8:List Int}(hc:Cur L c)(hq:q<=65536)(n0:0<=n)(hn:n<=10)(h6:l6.length<=1000):
  Ret (λ R k=>F.uy (R:=R) N N ((q,s,0),c,x,n,l1,l2,l3,l4,l5,l6,l7,l8) k) (λ o=>o.1=(q,s)/\Cur L o.2.1/\o.2.2.1=x/\o.2.2.2.1=n/\o.2.2.2.2.2.2.2.2.1=l5/\(o.2.2.2.2.2.2.2.2.2.1.length:Int)=l6.length+n/\o.2.2.2.2.2.2.2.2.2.2=(l7,l8)):=by
 refine rO (s:=λ R=>F.gj (R:=R) N) (λ d=>0<=d.1.2.2/\d.1.2.2<=n/\d.1.1=q/\d.1.2.1=s/\Cur L d.2.1/\d.2.2.1=x/\d.2.2.2.1=n/\d.2.2.2.2.2.2.2.2.1=l5/\(d.2.2.2.2.2.2.2.2.2.1.length:Int)=l6.length+d.1.2.2/\d.2.2.2.2.2.2.2.2.2.2=(l7,l8)) (λ d=>(n-d.1.2.2).toNat) ?_ N _ ⟨by simp,by simp[n0],rfl,rfl,hc,rfl,rfl,rfl,by simp,rfl⟩ (by simp;omega)
 rintro⟨⟨e1,e2,i⟩,⟨c1,p,w⟩,e3,e4,y1,y2,y3,y4,y5,y6,y7,y8⟩ ⟨i0,i1,rfl,rfl,hc,rfl,rfl,rfl,h6',he⟩
 simp only at i0 i1 hc h6' he hq n0 hn
 simp only[F.gj]
 refine rB (λ h=> ?_) λ h=>rL (.inr _) ⟨rfl,hc,rfl,rfl,rfl,by have h:=of_decide_eq_false h;simp only;omega,he⟩ λ _ _=>rfl
 have h:i<e4:=by simpa using h
 refine rD (Az hL hc hq) ?_
 rintro⟨r,c2,p2,w2⟩ ⟨a1,a2,a3⟩
 rw[Af (n:=i+1) (by omega) (by omega)]
 refine rC (Bg (by simp only[z8,z9];omega) (by omega)) ?_
 exact rL (.inl _) ⟨⟨by simp only;omega,by simp only;omega,rfl,rfl,a3,rfl,rfl,rfl,by simp only[zA,z8,z9];omega,he⟩,by simp only;omega⟩ λ _ _=>rfl
theorem Yg{L:List Int}(hL:Src L){N:Nat}(hN:1000<N){q x n:Int}{c:List Int×Int×Int}{l1 l2 l3 l4 l5:List Int}(hc:Cur L c)(q0:0<=q)(hq:q<=20)(n0:1<=n)(hn:n<=10):
  Ret (λ R k=>F.ru (R:=R) N N ((q,0),c,x,n,l1,l2,l3,l4,l5,[],[],[]) k) (λ o=>Cur L o.1/\o.2.2.1=n/\o.2.2.2.2.2.2.2.1=l5/\o.2.2.2.2.2.2.2.2.1.length<=200/\q<=(o.2.2.2.2.2.2.2.2.1.length:Int)/\(o.2.2.2.2.2.2.2.2.2.1.length:Int)=q/\(o.2.2.2.2.2.2.2.2.2.2.length:Int)=q/\(o.2.2.2.2.2.2.2.2.1.length:Int)=q*n):=by
 refine rO (s:=λ R=>F.gk (R:=R) N) (λ d=>0<=d.1.2/\d.1.2<=q/\d.1.1=q/\Cur L d.2.1/\d.2.2.2.1=n/\d.2.2.2.2.2.2.2.2.1=l5/\(d.2.2.2.2.2.2.2.2.2.1.length:Int)<=10*d.1.2/\d.1.2<=(d.2.2.2.2.2.2.2.2.2.1.length:Int)/\(d.2.2.2.2.2.2.2.2.2.2.1.length:Int)=d.1.2/\(d.2.2.2.2.2.2.2.2.2.2.2.length:Int)=d.1.2/\(d.2.2.2.2.2.2.2.2.2.1.length:Int)=d.1.2*n) (λ d=>(q-d.1.2).toNat) ?_ N _ ⟨by simp,by simp[q0],rfl,hc,rfl,rfl,by simp,by simp,by simp,by simp,by simp⟩ (by simp;omega)
 rintro⟨⟨e1,i⟩,c1,e3,e4,y1,y2,y3,y4,y5,y6,y7,y8⟩ ⟨i0,i1,rfl,hc,rfl,rfl,h6,h6b,h7,h8,h9⟩
 simp only at i0 i1 hc h6 h6b h7 h8 h9 q0 hq n0 hn
 obtain⟨c1,p,w⟩:=c1
 simp only[F.gk]
 refine rB (λ h=> ?_) λ h=>rL (.inr _) ⟨hc,rfl,rfl,by have h:=of_decide_eq_false h;simp only;omega,by have h:=of_decide_eq_false h;simp only;omega,by have h:=of_decide_eq_false h;simp only;omega,by have h:=of_decide_eq_false h;simp only;omega,by have h:=of_decide_eq_false h;simp only;rw[h9,show i=e1 by omega]⟩ λ _ _=>rfl
 have h:i<e1:=by simpa using h
 refine rD (Ai2 hL hN hc (by omega) (by omega) hn (by omega)) ?_
 rintro⟨⟨z1,z2⟩,⟨c2,p2,w2⟩,f3,f4,y1',y2',y3',y4',y5',y6',y7',y8'⟩ ⟨g1,g2,g3,g4,g5,g6,g7⟩
 simp only[zB] at g1 g2 g3 g4 g5 g6 g7
 obtain⟨rfl,rfl⟩:=g1
 obtain⟨rfl,rfl⟩:=g7
 subst g4 g5
 refine rD (Az hL g2 (by omega)) ?_
 rintro⟨r,c3,p3,w3⟩ ⟨a1,a2,a3⟩
 have key:∀t,RetK (K:=λ R=>(_->Option R)×(_->Option R)) (aS λ _ d k=>k d) (λ R k=>jn (F.mb (R:=R) N k.1 k.2) ((z1,z2,t),(c3,p3,w3),f3,f4,y1',y2',y3',y4',y5',y6',y7',y8'))
   (Sm (λ d=>0<=d.1.2/\d.1.2<=z1/\d.1.1=z1/\Cur L d.2.1/\d.2.2.2.1=f4/\d.2.2.2.2.2.2.2.2.1=y5'/\(d.2.2.2.2.2.2.2.2.2.1.length:Int)<=10*d.1.2/\d.1.2<=(d.2.2.2.2.2.2.2.2.2.1.length:Int)/\(d.2.2.2.2.2.2.2.2.2.2.1.length:Int)=d.1.2/\(d.2.2.2.2.2.2.2.2.2.2.2.length:Int)=d.1.2/\(d.2.2.2.2.2.2.2.2.2.1.length:Int)=d.1.2*f4) (λ d=>(z1-d.1.2).toNat) ((z1,z2),(c1,p,w),e3,f4,y1,y2,y3,y4,y5',y6,y7',y8') (λ o=>Cur L o.1/\o.2.2.1=f4/\o.2.2.2.2.2.2.2.1=y5'/\o.2.2.2.2.2.2.2.2.1.length<=200/\z1<=(o.2.2.2.2.2.2.2.2.1.length:Int)/\(o.2.2.2.2.2.2.2.2.2.1.length:Int)=z1/\(o.2.2.2.2.2.2.2.2.2.2.length:Int)=z1/\(o.2.2.2.2.2.2.2.2.1.length:Int)=z1*f4)):=by
  intro t
  simp only[jn,F.mb]
  refine rC (Bg (by simp only[z8,z9];omega) (by omega)) ?_
  refine rD (Az hL a3 (by omega)) ?_
  rintro⟨r4,c4,p4,w4⟩ ⟨b1,b2,b3⟩
  rw[Af (n:=z2+1) (by omega) (by omega)]
  have e9:(z2+1)*f4=z2*f4+f4:=by rw[Int.add_mul,Int.one_mul]
  refine rB (λ _=> ?_) λ _=> ?_
  ·refine rD (Az hL b3 (by omega)) ?_
   rintro⟨r5,c5,p5,w5⟩ ⟨d1,d2,d3⟩
   refine rC (Bg (by simp only[z8,z9];omega) (by omega)) ?_
   exact rL (.inl _) ⟨⟨by simp only;omega,by simp only;omega,rfl,d3,rfl,rfl,by simp only;omega,by simp only;omega,by simp only[zA,z8,z9];omega,by simp only[zA,z8,z9];omega,by simp only;omega⟩,by simp only;omega⟩ λ _ _=>rfl
  ·refine rC (Bg (by simp only[z8,z9];omega) (by omega)) ?_
   exact rL (.inl _) ⟨⟨by simp only;omega,by simp only;omega,rfl,b3,rfl,rfl,by simp only;omega,by simp only;omega,by simp only[zA,z8,z9];omega,by simp only[zA,z8,z9];omega,by simp only;omega⟩,by simp only;omega⟩ λ _ _=>rfl
 exact rB (λ _=>key _) λ _=>key _
def I8(b:Nat)(o:Int×(List Int×Int×Int)×List Int×List Int×List Int×List Int):Prop:=0<=o.1/\o.1<=b/\o.2.2.1.length=256/\1<=o.2.2.2.1.length/\o.2.2.2.1.length<=b/\1<=o.2.2.2.2.1.length/\o.2.2.2.2.1.length<=b/\o.2.2.2.2.2.length=o.2.2.2.2.1.length/\(o.2.2.2.1.length:Int)=o.2.2.2.2.1.length*o.1
theorem Aff{L:List Int}(hL:Src L){N:Nat}(hN:1000<N){c:List Int×Int×Int}(hc:Cur L c):Ret (λ R k=>F.dw (R:=R) N c k) (λ o=>Cur L o.2.1/\I8 256 o):=by
 obtain⟨c,p,w⟩:=c
 simp only[F.dw]
 refine rD (Az hL hc (by omega)) ?_
 rintro⟨r,c1,p1,w1⟩ ⟨a1,a2,a3⟩
 refine rD (Az hL a3 (by omega)) ?_
 rintro⟨r2,c2,p2,w2⟩ ⟨b1,b2,b3⟩
 dsimp only at a1 a2 b1 b2⊢
 rw[Af (n:=2+r) (by omega) (by omega),Af (n:=2+r2) (by omega) (by omega)]
 refine rC (by decide) (rC (by decide) ?_)
 refine rD (Ai1 hL hN b3 (by omega) (zI)) ?_
 rintro⟨z1,⟨c3,p3,w3⟩,f3,f4,y1,y2,y3,y4,y5,y6,y7,y8⟩ ⟨g1,g2,g3,g4,g5,g6⟩
 simp only[zB] at g1 g2 g3 g4 g5 g6
 obtain⟨rfl,rfl,rfl⟩:=g6
 subst g1 g3 g4
 dsimp only
 refine rD (Az hL g2 (by omega)) ?_
 rintro⟨r5,c5,p5,w5⟩ ⟨d1,d2,d3⟩
 refine rB (λ _=> ?_) λ _=> ?_
 ·refine rD (Az hL d3 (by omega)) ?_
  rintro⟨r6,c6,p6,w6⟩ ⟨e1,e2,e3⟩
  refine rD (Az hL e3 (by omega)) ?_
  rintro⟨r7,c7,p7,w7⟩ ⟨h1,h2,h3⟩
  dsimp only at e1 e2⊢
  refine rC (Ae e1 (by omega)) ?_
  refine rD (Yg hL hN h3 (by omega) (by omega) (by omega) (by omega)) ?_
  rintro⟨⟨c8,p8,w8⟩,v1,v2,v3,v4,v5,v6,v7,v8,v9,v10⟩ ⟨i1,i2,i3,i4,i4b,i5,i6,i7⟩
  simp only at i2 i3 i4 i4b i5 i6 i7
  subst i2 i3
  exact rL _ ⟨i1,by simp only;omega,by simp only;omega,by simp only[zC];omega,by simp only;omega,by simp only;omega,by simp only;omega,by simp only;omega,by simp only;omega,by simp only;rw[i7,i5]⟩ λ _ _=>rfl
 ·refine rD (Yg hL hN d3 (by omega) (by omega) (by omega) (by omega)) ?_
  rintro⟨⟨c8,p8,w8⟩,v1,v2,v3,v4,v5,v6,v7,v8,v9,v10⟩ ⟨i1,i2,i3,i4,i4b,i5,i6,i7⟩
  simp only at i2 i3 i4 i4b i5 i6 i7
  subst i2 i3
  exact rL _ ⟨i1,by simp only;omega,by simp only;omega,by simp only;omega,by simp only;omega,by simp only;omega,by simp only;omega,by simp only;omega,by simp only;omega,by simp only;rw[i7,i5]⟩ λ _ _=>rfl
abbrev Bx:=Int×List (Int×Int)×Int×Int×Int
structure Cn(x:Bx):Prop where
 k0:0<=x.1
 k1:x.1<=5
 rl:x.2.1.length<=256
 re:∀r∈x.2.1,0<=r.1/\r.1<=255/\0<=r.2/\r.2<=255
 l0:-1<=x.2.2.1
 l1:x.2.2.1<=1048576
 h0:-1<=x.2.2.2.1
 h1:x.2.2.2.1<=1048576
 m0:0<=x.2.2.2.2
 m1:x.2.2.2.2<=1048576
def Ce(b:Nat)(l:List Bx):Prop:=l.length<=b/\∀x∈l,Cn x
theorem Ce.app{b:Nat}{l:List Bx}{x:Bx}(h:Ce b l)(hx:Cn x):Ce (b+1) (l++[x]):=by
 refine⟨by simp only[zA,z8,z9];have:=h.1;omega,λ y hy=> ?_⟩
 rcases List.mem_append.1 hy with h1|h1
 ·exact h.2 y h1
 ·cases List.mem_singleton.1 h1;exact hx
theorem Cl{k l h m:Int}(k0:0<=k)(k1:k<=5)(l0:-1<=l)(l1:l<=1048576)(h0:-1<=h)(h1:h<=1048576)(m0:0<=m)(m1:m<=1048576):Cn (k,[],l,h,m):=
 ⟨k0,k1,by simp,by simp,l0,l1,h0,h1,m0,m1⟩
theorem Vu{k a b l h m:Int}(k0:0<=k)(k1:k<=5)(a0:0<=a)(a1:a<=255)(b0:0<=b)(b1:b<=255)(l0:-1<=l)(l1:l<=1048576)(h0:-1<=h)(h1:h<=1048576)(m0:0<=m)(m1:m<=1048576):Cn (k,[(a,b)],l,h,m):=
 ⟨k0,k1,by simp,by intro r hr;cases List.mem_singleton.1 hr;exact⟨a0,a1,b0,b1⟩,l0,l1,h0,h1,m0,m1⟩
theorem ge2{o:Int}(h:decide (o>=2)=true):1<=o:=by
 have:o>=2:=by simpa using h
 omega
abbrev Alt:=Bool×Bool×List Bx
abbrev Ub:=(Int×Int×Int×Int)×(List Int×Int×Int)×Int×List Bx×List Alt
def Jw(L:List Int)(t i:Int)(z:Int)(S:Ub⊕((Int×Int)×(List Int×Int×Int)×Int×List Bx×List Alt)->Prop):Prop:=
 ∀o m c ns,0<=o->o<=i+1->0<=m->m<=i+1->Cur L c->Ce (i.toNat+1) ns->S (.inl ((o,m,t,i+1),c,z,ns,[]))
section
variable{L:List Int}{N:Nat}{o m t i z:Int}{c:List Int×Int×Int}{ns:List Bx}{S:Ub⊕((Int×Int)×(List Int×Int×Int)×Int×List Bx×List Alt)->Prop}
theorem Amj(hL:Src L)(good:Jw L t i z S)(o0:0<=o)(o1:o<=i)(m0:0<=m)(m1:m<=i)(hi:i<=100)(hc:Cur L c)(hn:Ce i.toNat ns)(b:Bool):
  RetK (K:=λ R=>(Ub->Option R)×(_->Option R)) (aS λ _ d k=>k d) (λ R k=>jn (F.lm (R:=R) N k.1 k.2) ((o,m,t,i,b),c,z,ns,[])) S:=by
 obtain⟨c1,p,w⟩:=c
 simp only[jn,F.lm]
 have hl:=hn.1
 rw[Af (n:=m+1) (by omega) (by omega),Af (n:=i+1) (by omega) (by omega),Af (n:=o+1) (by omega) (by omega)]
 refine rB (λ _=> ?_) λ _=> ?_
 ·refine rC (H8 (by simp only[z8,z9];omega)) ?_
  exact rL (.inl _) (good _ _ _ _ (by omega) (by omega) (by omega) (by omega) hc (hn.app (Cl (by omega) (by omega) (by omega) (by omega) (by omega) (by omega) (by omega) (by omega)))) λ _ _=>rfl
 ·refine rD (Az hL hc (by omega)) ?_
  rintro⟨r,c2,p2,w2⟩ ⟨a1,a2,a3⟩
  dsimp only at a1 a2 a3⊢
  refine rD (Az hL a3 (by omega)) ?_
  rintro⟨r3,c3,p3,w3⟩ ⟨b1,b2,b3⟩
  dsimp only at b1 b2 b3⊢
  refine rC (H8 (by simp only[z8,z9];omega)) ?_
  rw[Af (n:=97+r) (by omega) (by omega),Af (n:=97+r+r3) (by omega) (by omega)]
  exact rL (.inl _) (good _ _ _ _ (by omega) (by omega) (by omega) (by omega) b3 (hn.app (Vu (by omega) (by omega) (by omega) (by omega) (by omega) (by omega) (by omega) (by omega) (by omega) (by omega) (by omega) (by omega)))) λ _ _=>rfl
theorem Ami(hL:Src L)(good:Jw L t i z S)(o0:0<=o)(o1:o<=i)(m0:0<=m)(m1:m<=i)(hi:i<=100)(hc:Cur L c)(hn:Ce i.toNat ns)(q:Int)(b:Bool):
  RetK (K:=λ R=>(Ub->Option R)×(_->Option R)) (aS λ _ d k=>k d) (λ R k=>jn (F.ln (R:=R) N k.1 k.2) ((o,m,t,i,q,b),c,z,ns,[])) S:=by
 obtain⟨c1,p,w⟩:=c
 have hl:=hn.1
 have J:=λ b=>Amj (N:=N) hL good o0 o1 m0 m1 hi hc hn b
 simp only[jn,F.ln]
 rw[Af (n:=i+1) (by omega) (by omega)]
 refine rB (λ _=> ?_) λ _=>rB (λ _=>J _) λ _=>J _
 refine rD (Az hL hc (by omega)) ?_
 rintro⟨r,c2,p2,w2⟩ ⟨a1,a2,a3⟩
 dsimp only at a1 a2 a3⊢
 refine rC (H8 (by simp only[z8,z9];omega)) ?_
 exact rL (.inl _) (good _ _ _ _ (by omega) (by omega) (by omega) (by omega) a3 (hn.app (Cl (by omega) (by omega) (by omega) (by omega) (by omega) (by omega) (by omega) (by omega)))) λ _ _=>rfl
theorem Amh(hL:Src L)(good:Jw L t i z S)(o0:0<=o)(o1:o<=i)(m0:0<=m)(m1:m<=i)(hi:i<=100)(hc:Cur L c)(hn:Ce i.toNat ns)(q:Int)(b:Bool):
  RetK (K:=λ R=>(Ub->Option R)×(_->Option R)) (aS λ _ d k=>k d) (λ R k=>jn (F.lq (R:=R) N k.1 k.2) ((o,m,t,i,q,b),c,z,ns,[])) S:=by
 obtain⟨c1,p,w⟩:=c
 have hl:=hn.1
 have J:=λ q b=>Ami (N:=N) hL good o0 o1 m0 m1 hi hc hn q b
 simp only[jn,F.lq]
 rw[Af (n:=i+1) (by omega) (by omega)]
 refine rB (λ _=> ?_) λ _=>rB (λ _=>J _ _) λ _=>J _ _
 refine rD (Az hL hc (by omega)) ?_
 rintro⟨r,c2,p2,w2⟩ ⟨a1,a2,a3⟩
 dsimp only at a1 a2 a3⊢
 refine rD (Az hL a3 (by omega)) ?_
 rintro⟨r3,c3,p3,w3⟩ ⟨b1,b2,b3⟩
 dsimp only at b1 b2 b3⊢
 refine rC (H8 (by simp only[z8,z9];omega)) ?_
 rw[Af (n:=r+r3) (by omega) (by omega)]
 exact rL (.inl _) (good _ _ _ _ (by omega) (by omega) (by omega) (by omega) b3 (hn.app (Cl (by omega) (by omega) (by omega) (by omega) (by omega) (by omega) (by omega) (by omega)))) λ _ _=>rfl
theorem Ab8{b:Bool}(hL:Src L)(good:Jw L t i z S)(o0:0<=o)(o1:o<=i)(ob:b=true->1<=o)(m0:0<=m)(m1:m<=i)(hi:i<=100)(hc:Cur L c)(hn:Ce i.toNat ns)(q:Int):
  RetK (K:=λ R=>(Ub->Option R)×(_->Option R)) (aS λ _ d k=>k d) (λ R k=>jn (F.lr (R:=R) N k.1 k.2) ((o,m,t,i,q,b),c,z,ns,[])) S:=by
 obtain⟨c1,p,w⟩:=c
 have hl:=hn.1
 have J:=λ q b=>Amh (N:=N) hL good o0 o1 m0 m1 hi hc hn q b
 simp only[jn,F.lr]
 rw[Af (n:=i+1) (by omega) (by omega),Af (n:=o-1) (by omega) (by omega)]
 refine rB (λ h=> ?_) λ _=>rB (λ _=>J _ _) λ _=>J _ _
 have:=ob h
 refine rC (H8 (by simp only[z8,z9];omega)) ?_
 exact rL (.inl _) (good _ _ _ _ (by omega) (by omega) (by omega) (by omega) hc (hn.app (Cl (by omega) (by omega) (by omega) (by omega) (by omega) (by omega) (by omega) (by omega)))) λ _ _=>rfl
theorem Ab7{b:Bool}(hL:Src L)(good:Jw L t i z S)(o0:0<=o)(o1:o<=i)(ob:b=true->1<=o)(m0:0<=m)(m1:m<=i)(hi:i<=100)(hc:Cur L c)(hn:Ce i.toNat ns)(q:Int):
  RetK (K:=λ R=>(Ub->Option R)×(_->Option R)) (aS λ _ d k=>k d) (λ R k=>jn (F.lu (R:=R) N k.1 k.2) ((o,m,t,i,q,b),c,z,ns,[])) S:=by
 obtain⟨c1,p,w⟩:=c
 have hl:=hn.1
 simp only[jn,F.lu]
 rw[Af (n:=i+1) (by omega) (by omega),Af (n:=o-1) (by omega) (by omega)]
 refine rB (λ h=> ?_) λ _=>rB (λ h=>Ab8 (N:=N) hL good o0 o1 (λ _=>ge2 h) m0 m1 hi hc hn _) λ _=>Ab8 (N:=N) hL good o0 o1 (λ h=>by cases h) m0 m1 hi hc hn _
 have:=ob h
 refine rC (H8 (by simp only[z8,z9];omega)) ?_
 exact rL (.inl _) (good _ _ _ _ (by omega) (by omega) (by omega) (by omega) hc (hn.app (Cl (by omega) (by omega) (by omega) (by omega) (by omega) (by omega) (by omega) (by omega)))) λ _ _=>rfl
end
theorem Aq6{L:List Int}(hL:Src L){N:Nat}(hN:1000<N){t z:Int}{c:List Int×Int×Int}(hc:Cur L c)(t0:0<=t)(ht:t<=50):
  Ret (λ R k=>F.th (R:=R) N N ((0,0,t,0),c,z,[],[]) k) (λ d=>0<=d.1.1/\d.1.1<=t/\0<=d.1.2/\d.1.2<=t/\Cur L d.2.1/\Ce t.toNat d.2.2.2.1/\d.2.2.2.2=[]):=by
 refine rO (s:=λ R=>F.cg (R:=R) N) (λ d=>0<=d.1.1/\d.1.1<=d.1.2.2.2/\0<=d.1.2.1/\d.1.2.1<=d.1.2.2.2/\d.1.2.2.1=t/\d.1.2.2.2<=t/\Cur L d.2.1/\d.2.2.1=z/\Ce d.1.2.2.2.toNat d.2.2.2.1/\d.2.2.2.2=[]) (λ d=>(t-d.1.2.2.2).toNat) ?_ N _ ⟨by simp,by simp,by simp,by simp,rfl,t0,hc,rfl,⟨by simp,by simp⟩,rfl⟩ (by simp;omega)
 rintro⟨⟨o,m,t',i⟩,⟨c1,p,w⟩,z',ns,as⟩ ⟨o0,o1,m0,m1,g1,it,hc,g2,hn,g3⟩
 dsimp only at o0 o1 m0 m1 g1 it hc g2 hn g3
 subst g1 g2 g3
 simp only[F.cg]
 refine rB (λ h=> ?_) λ h=>rL (.inr _) ⟨o0,by dsimp only;omega,m0,by dsimp only;omega,hc,⟨by have:=hn.1;dsimp only;omega,hn.2⟩,rfl⟩ λ _ _=>rfl
 have h:i<t':=by simpa using h
 refine rD (Az hL hc (by omega)) ?_
 rintro⟨r,c2,p2,w2⟩ ⟨a1,a2,a3⟩
 dsimp only at a1 a2 a3⊢
 have good:Jw L t' i z' (Sm (λ d=>0<=d.1.1/\d.1.1<=d.1.2.2.2/\0<=d.1.2.1/\d.1.2.1<=d.1.2.2.2/\d.1.2.2.1=t'/\d.1.2.2.2<=t'/\Cur L d.2.1/\d.2.2.1=z'/\Ce d.1.2.2.2.toNat d.2.2.2.1/\d.2.2.2.2=[]) (λ d=>(t'-d.1.2.2.2).toNat) ((o,m,t',i),(c1,p,w),z',ns,[]) (λ d=>0<=d.1.1/\d.1.1<=t'/\0<=d.1.2/\d.1.2<=t'/\Cur L d.2.1/\Ce t'.toNat d.2.2.2.1/\d.2.2.2.2=[])):=by
  intro o' m' c' ns' x1 x2 x3 x4 x5 x6
  exact⟨⟨x1,x2,x3,x4,rfl,by dsimp only;omega,x5,rfl,by rw[show(i+1).toNat=i.toNat+1 by omega];exact x6,rfl⟩,by dsimp only;omega⟩
 exact rB (λ h=>Ab7 (N:=N) hL good o0 o1 (λ _=>ge2 h) m0 m1 (by omega) a3 hn _) λ _=>Ab7 (N:=N) hL good o0 o1 (λ h=>by cases h) m0 m1 (by omega) a3 hn _
theorem Ce.mono{a b:Nat}{l:List Bx}(h:Ce a l)(hab:a<=b):Ce b l:=⟨Nat.le_trans h.1 hab,h.2⟩
def Eu(a n:Nat)(l:List Alt):Prop:=l.length<=a/\∀x∈l,Ce n x.2.2
theorem Aq7{L:List Int}(hL:Src L){N:Nat}(hN:1000<N){o m z:Int}{c:List Int×Int×Int}{ns:List Bx}{as:List Alt}(hc:Cur L c)(o0:0<=o)(o1:o<=12)(hn:Ce 12 ns):
  Ret (λ R k=>F.tj (R:=R) N N ((o,m),c,z,ns,as) k) (λ d=>d.1.2=m/\Cur L d.2.1/\Ce 60 d.2.2.2.1/\d.2.2.2.2=as):=by
 refine rO (s:=λ R=>F.cj (R:=R) N) (λ d=>0<=d.1.1/\d.1.1<=12/\d.1.2=m/\Cur L d.2.1/\Ce (60-d.1.1.toNat) d.2.2.2.1/\d.2.2.2.2=as) (λ d=>d.1.1.toNat) ?_ N _ ⟨o0,o1,rfl,hc,hn.mono (by dsimp only;omega),rfl⟩ (by dsimp only;omega)
 rintro⟨⟨o,m'⟩,⟨c1,p,w⟩,z',ns,as'⟩ ⟨o0,o1,g1,hc,hn,g2⟩
 dsimp only at o0 o1 g1 hc hn g2
 subst g1 g2
 have hl:=hn.1
 simp only[F.cj]
 refine rB (λ h=> ?_) λ h=>rL (.inr _) ⟨rfl,hc,hn.mono (by omega),rfl⟩ λ _ _=>rfl
 have h:o>1:=by simpa using h
 refine rD (Az hL hc (by omega)) ?_
 rintro⟨r,c2,p2,w2⟩ ⟨a1,a2,a3⟩
 dsimp only at a1 a2 a3⊢
 rw[Af (n:=o-1) (by omega) (by omega)]
 have ok:∀k:Int,0<=k->k<=5->Ce (60-(o-1).toNat) (ns++[(k,[],0,0,0)]):=λ k k0 k1=>(hn.app (Cl k0 k1 (by omega) (by omega) (by omega) (by omega) (by omega) (by omega))).mono (by omega)
 refine rB (λ _=> ?_) λ _=> ?_
 ·refine rC (H8 (by simp only[z8,z9];omega)) ?_
  exact rL (.inl _) ⟨⟨by dsimp only;omega,by dsimp only;omega,rfl,a3,ok 3 (by omega) (by omega),rfl⟩,by dsimp only;omega⟩ λ _ _=>rfl
 ·refine rC (H8 (by simp only[z8,z9];omega)) ?_
  exact rL (.inl _) ⟨⟨by dsimp only;omega,by dsimp only;omega,rfl,a3,ok 2 (by omega) (by omega),rfl⟩,by dsimp only;omega⟩ λ _ _=>rfl
theorem Xv{L:List Int}(hL:Src L){N:Nat}{m z:Int}{c:List Int×Int×Int}{ns:List Bx}(hc:Cur L c)(hn:Ce 61 ns):
  Ret (λ R k=>jn (F.kf (R:=R) N k) (m,c,z,ns,[])) (λ o=>o.1=m/\Cur L o.2.1/\Eu 2 61 o.2.2):=by
 obtain⟨c,p,w⟩:=c
 simp only[jn,F.kf]
 refine rD (Az hL hc (by omega)) ?_
 rintro⟨r,c2,p2,w2⟩ ⟨a1,a2,a3⟩
 dsimp only at a1 a2 a3⊢
 refine rD (Az hL a3 (by omega)) ?_
 rintro⟨r3,c3,p3,w3⟩ ⟨b1,b2,b3⟩
 dsimp only at b1 b2 b3⊢
 refine rC (Af8 (by simp)) ?_
 refine rD (Az hL b3 (by omega)) ?_
 rintro⟨r4,c4,p4,w4⟩ ⟨d1,d2,d3⟩
 dsimp only at d1 d2 d3⊢
 refine rB (λ _=> ?_) λ _=> ?_
 ·refine rC (Af8 (by simp)) ?_
  refine rL (_,_,_) ⟨rfl,d3,by simp,λ x hx=> ?_⟩ λ _ _=>rfl
  simp only[yX,yE,yA,yR,or_false] at hx
  rcases hx with rfl|rfl
  ·exact hn
  ·refine⟨by simp,λ y hy=> ?_⟩
   cases List.mem_singleton.1 hy
   exact Vu (by omega) (by omega) (by omega) (by omega) (by omega) (by omega) (by omega) (by omega) (by omega) (by omega) (by omega) (by omega)
 ·refine rL (_,_,_) ⟨rfl,d3,by simp,λ x hx=> ?_⟩ λ _ _=>rfl
  simp only[yX,yA,yR,or_false] at hx
  subst hx
  exact hn
theorem Amg{L:List Int}(hL:Src L){N:Nat}(hN:1000<N){c:List Int×Int×Int}(hc:Cur L c):Ret (λ R k=>F.qa (R:=R) N c k) (λ o=>0<=o.1/\o.1<=12/\Cur L o.2.1/\Eu 2 61 o.2.2):=by
 obtain⟨c,p,w⟩:=c
 simp only[F.qa]
 refine rD (Az hL hc (by omega)) ?_
 rintro⟨r,c1,p1,w1⟩ ⟨a1,a2,a3⟩
 dsimp only at a1 a2 a3⊢
 rw[Af (n:=1+r) (by omega) (by omega)]
 refine rD (Aq6 hL hN a3 (by omega) (by omega)) ?_
 rintro⟨⟨o,m⟩,⟨c2,p2,w2⟩,z,ns,as⟩ ⟨o0,o1,m0,m1,hc2,hn,g⟩
 dsimp only at o0 o1 m0 m1 hc2 hn g⊢
 subst g
 refine rD (Aq7 hL hN hc2 o0 (by omega) (hn.mono (by omega))) ?_
 rintro⟨⟨o',m'⟩,⟨c3,p3,w3⟩,z',ns',as⟩ ⟨e1,hc3,hn3,g⟩
 dsimp only at e1 hc3 hn3 g⊢
 subst e1 g
 refine rB (λ _=> ?_) λ _=> ?_
 ·refine rC (H8 (by have:=hn3.1;simp only[z8,z9];omega)) ?_
  exact(Xv hL hc3 (hn3.app (Cl (by omega) (by omega) (by omega) (by omega) (by omega) (by omega) (by omega) (by omega)))).mono λ o h=>⟨by rw[h.1];exact m0,by rw[h.1];omega,h.2⟩
 ·exact(Xv hL hc3 (hn3.mono (by omega))).mono λ o h=>⟨by rw[h.1];exact m0,by rw[h.1];omega,h.2⟩
def ar(k:Int):Int:=if k=2\/k=3 then 2 else if k=4\/k=5 then 1 else 0
theorem Ajy(a:Int):Ret (λ R k=>F.oh (R:=R) a k) (λ o=>o=ar a):=by
 simp only[F.oh]
 refine rB (λ h=> ?_) λ h2=>rB (λ h=> ?_) λ h3=>rB (λ h=> ?_) λ h4=>rB (λ h=> ?_) λ h5=> ?_
 ·exact rL 2 (by simp only[beq_iff_eq] at h;simp[ar,h]) λ _ _=>rfl
 ·exact rL 2 (by simp only[beq_iff_eq] at h;simp[ar,h]) λ _ _=>rfl
 ·exact rL 1 (by simp only[beq_iff_eq] at h;simp[ar,h]) λ _ _=>rfl
 ·exact rL 1 (by simp only[beq_iff_eq] at h;simp[ar,h]) λ _ _=>rfl
 ·refine rL 0 ?_ λ _ _=>rfl
  simp only[beq_eq_false_iff_ne,ne_eq] at h2 h3 h4 h5
  simp[ar,h2,h3,h4,h5]
abbrev nd(ns:List Bx)(i:Nat):Bx:=zL ns i ((0:Int),(([]:List (Int×Int)),((0:Int),((0:Int),(0:Int)))))
structure I9(ns:List Bx)(l r:List Int)(i:Nat):Prop where
 ll:l.length=i
 rl:r.length=i
 one:∀j,j<i->1<=ar (nd ns j).1->0<=l.getD j 0/\l.getD j 0<j
 two:∀j,j<i->ar (nd ns j).1=2->0<=r.getD j 0/\r.getD j 0<j
theorem Sx(l:List Int)(x:Int){j:Nat}(h:j<l.length):(l++[x]).getD j 0=l.getD j 0:=by
 simp only[List.getD_eq_getElem?_getD]
 rw[List.getElem?_append_left h]
theorem Sw(l:List Int)(x:Int):(l++[x]).getD l.length 0=x:=by
 simp only[List.getD_eq_getElem?_getD]
 rw[List.getElem?_append_right (xE _)]
 simp
theorem I9.step{ns:List Bx}{l r:List Int}{i:Nat}{a b:Int}(h:I9 ns l r i)(h1:1<=ar (nd ns i).1->0<=a/\a<i)(h2:ar (nd ns i).1=2->0<=b/\b<i):I9 ns (l++[a]) (r++[b]) (i+1):=by
 refine⟨by simp[h.ll],by simp[h.rl],λ j hj hr=> ?_,λ j hj hr=> ?_⟩
 ·by_cases e:j<i
  ·rw[Sx _ _ (by rw[h.ll];exact e)]
   have:=h.one j e hr
   omega
  ·obtain rfl:j=i:=by omega
   have e2:=Sw l a
   rw[h.ll] at e2
   rw[e2]
   have:=h1 hr
   omega
 ·by_cases e:j<i
  ·rw[Sx _ _ (by rw[h.rl];exact e)]
   have:=h.two j e hr
   omega
  ·obtain rfl:j=i:=by omega
   have e2:=Sw r b
   rw[h.rl] at e2
   rw[e2]
   have:=h2 hr
   omega
def Fw(i:Nat)(s:List Int):Prop:=s.length<=i/\∀x∈s,0<=x/\x<i
theorem Fw.push{i:Nat}{s:List Int}(h:Fw i s):Fw (i+1) (s++[(i:Int)]):=by
 refine⟨by simp only[zA,z8,z9];have:=h.1;omega,λ x hx=> ?_⟩
 rcases List.mem_append.1 hx with h1|h1
 ·have:=h.2 x h1;omega
 ·cases List.mem_singleton.1 h1;omega
theorem Fw.take{i:Nat}{s:List Int}(h:Fw i s)(n:Nat):Fw i (s.take n):=⟨by have:=h.1;simp only[zD];omega,λ x hx=>h.2 x (yM hx)⟩
theorem Fw.get{i:Nat}{s:List Int}(h:Fw i s){j:Nat}(hj:j<s.length):0<=s.getD j 0/\s.getD j 0<i:=by
 rw[A8 s hj]
 exact h.2 _ (zF _)
abbrev Uc:=List Int×List Int×List Int
abbrev Ajn:=(List Bx×Int×Int)×Uc
def Aug(ns:List Bx)(d:Ajn):Prop:=d.1.1=ns/\d.1.2.1=(ns.length:Int)/\0<=d.1.2.2/\d.1.2.2<=ns.length/\I9 ns d.2.1 d.2.2.1 d.1.2.2.toNat/\Fw d.1.2.2.toNat d.2.2.2
def Auh(ns:List Bx):Uc⊕(Bool×Uc)->Prop
 | .inl d=>I9 ns d.1 d.2.1 ns.length/\d.2.2.length<=ns.length
 | .inr d=>d.1=false
theorem Acd{ns:List Bx}{N:Nat}{i a b:Int}{l r s:List Int}{x2:List (Int×Int)}{x3 x4 x5:Int}{S:Ajn⊕(Uc⊕(Bool×Uc))->Prop}(hs:ns.length<=1000000)(i0:0<=i)(i1:i<ns.length)(hk:I9 ns l r i.toNat)(hst:Fw i.toNat s)
  (good:∀l' r' s',I9 ns l' r' (i.toNat+1)->Fw (i.toNat+1) s'->S (.inl ((ns,(ns.length:Int),i+1),l',r',s'))) (h1:1<=ar (nd ns i.toNat).1->1<=s.length) (h2:ar (nd ns i.toNat).1=2->0<=b/\b<i.toNat):
  RetK (K:=λ R=>(Ajn->Option R)×((Uc->Option R)×((Bool×Uc)->Option R))) (aS Db) (λ R k=>jn (F.qb (R:=R) N k.1 k.2) ((i,a,b,ns,(ns.length:Int),i),l,r,s,(nd ns i.toNat).1,x2,x3,x4,x5)) S:=by
 have q1:=hk.ll
 have q2:=hk.rl
 have q3:=hst.1
 simp only[jn,F.qb]
 refine rD (Ajy _) ?_
 rintro v hv
 subst hv
 dsimp only
 rw[Af (n:=i+1) (by omega) (by omega)]
 refine rB (λ h=> ?_) λ h=> ?_
 ·have h:1<=ar (nd ns i.toNat).1:=by simpa using h
  have hs1:=h1 h
  rw[Af (n:=(s.length:Int)-1) (by omega) (by omega)]
  refine rC (Ae (by omega) (by omega)) (rC (by simp;omega) (rC (Bg (by simp only[z8,z9];omega) (by omega)) (rC (Bg (by simp only[z8,z9];omega) (by omega)) (rC (Bg (by simp only[z8,z9,zD,zE];omega) (by omega)) ?_))))
  refine rL (.inl _) (good _ _ _ (hk.step (λ _=>hst.get (by omega)) h2) ?_) λ _ _=>rfl
  rw[zT,show i=((i.toNat:Nat):Int) by omega,zJ]
  exact(hst.take _).push
 ·have h:¬1<=ar (nd ns i.toNat).1:=by simpa using h
  refine rC (Bg (by simp only[z8,z9];omega) (by omega)) (rC (Bg (by simp only[z8,z9];omega) (by omega)) (rC (Bg (by simp only[z8,z9];omega) (by omega)) ?_))
  refine rL (.inl _) (good _ _ _ (hk.step (λ e=>absurd e h) (λ e=>absurd (by omega) h)) ?_) λ _ _=>rfl
  rw[show i=((i.toNat:Nat):Int) by omega,zJ]
  exact hst.push
theorem Are(ns:List Bx){N:Nat}(hs:ns.length<=1000000)(hN:ns.length<N):Aqi (λ R k=>F.wo (R:=R) N N ((ns,(ns.length:Int),0),[],[],[]) k) (Auh ns):=by
 refine rO (s:=λ R=>F.bq (R:=R) N) (Aug ns) (λ d=>((ns.length:Int)-d.1.2.2).toNat) ?_ N _ ⟨rfl,rfl,by simp,by simp,⟨by simp,by simp,by simp,by simp⟩,⟨by simp,by simp⟩⟩ (by dsimp only;omega)
 rintro⟨⟨ns',n,i⟩,l,r,s⟩ ⟨g1,g2,i0,i1,hk,hst⟩
 dsimp only at g1 g2 i0 i1 hk hst
 subst g1 g2
 simp only[F.bq]
 have good:∀l' r' s',I9 ns' l' r' (i.toNat+1)->Fw (i.toNat+1) s'->i<ns'.length->Sm (Aug ns') (λ d=>((ns'.length:Int)-d.1.2.2).toNat) ((ns',(ns'.length:Int),i),l,r,s) (Auh ns') (.inl ((ns',(ns'.length:Int),i+1),l',r',s')):=by
  intro l' r' s' a1 a2 a3
  rw[show i.toNat+1=(i+1).toNat by omega] at a1 a2
  exact⟨⟨rfl,rfl,by dsimp only;omega,by dsimp only;omega,a1,a2⟩,by dsimp only;omega⟩
 have q3:=hst.1
 refine rB (λ h=> ?_) λ h=> ?_
 ·have h:i<ns'.length:=by simpa using h
  refine rC (Ae i0 h) (rD (Ajy _) ?_)
  rintro v hv
  subst hv
  dsimp only
  refine rB (λ _=>rL (.inr (.inr (false,l,r,s))) rfl λ _ _=>rfl) λ hl=>rD (Ajy _) ?_
  have hl:¬(s.length:Int)<ar (nd ns' i.toNat).1:=by simpa using hl
  rintro v hv
  subst hv
  dsimp only
  refine rB (λ h2=> ?_) λ h2=> ?_
  ·have h2:ar (nd ns' i.toNat).1=2:=by simpa using h2
   rw[Af (n:=(s.length:Int)-1) (by omega) (by omega)]
   refine rC (Ae (by omega) (by omega)) (rC (by simp;omega) ?_)
   rw[zT]
   exact Acd hs i0 h hk (hst.take _) (λ l' r' s' a1 a2=>good l' r' s' a1 a2 h) (λ _=>by simp only[zD];omega) λ _=>by have:=hst.get (j:=((s.length:Int)-1).toNat) (by omega);exact this
  ·have h2:¬ar (nd ns' i.toNat).1=2:=by simpa using h2
   exact Acd hs i0 h hk hst (λ l' r' s' a1 a2=>good l' r' s' a1 a2 h) (λ _=>by omega) λ e=>absurd e h2
 ·have h:¬i<(ns'.length:Int):=by simpa using h
  refine rL (.inr (.inl _)) ⟨?_,by dsimp only;omega⟩ λ _ _=>rfl
  rw[show ns'.length=i.toNat by omega]
  exact hk
theorem kids(ns:List Bx){N:Nat}(hs:ns.length<=1000000)(hN:ns.length<N):Ret (λ R k=>F.ao (R:=R) N ns k) (λ o=>o.1=true->I9 ns o.2.1 o.2.2 ns.length/\ns≠[]):=by
 simp only[F.ao]
 refine rD (Are ns hs hN) ?_
 rintro(⟨l,r,s⟩|⟨b,l,r,s⟩) h
 ·refine rL (_,_,_) (λ e=>⟨h.1, ?_⟩) λ _ _=>rfl
  rintro rfl
  have h2:=h.2
  have e:(s.length:Int)=1:=by simpa using e
  simp only[z9] at h2
  omega
 ·refine rL (_,_,_) (λ e=> ?_) λ _ _=>rfl
  have h:b=false:=h
  rw[h] at e
  cases e
def cp(x:Bx):Int:=if x.2.2.2.1=-1 then Aa .i64 (x.2.2.1+1) else if x.2.2.2.1<1 then 1 else x.2.2.2.1
theorem Avv(x:Bx):Ret (λ R k=>F.pm (R:=R) x k) (λ o=>o=cp x):=by
 obtain⟨a,b,c,d,e⟩:=x
 simp only[F.pm,cp]
 refine rB (λ h=>rL _ ?_ λ _ _=>rfl) λ h=>rB (λ h2=>rL _ ?_ λ _ _=>rfl) λ h2=>rL _ ?_ λ _ _=>rfl
 ·rw[if_pos (beq_iff_eq.1 h)]
 ·rw[if_neg (beq_eq_false_iff_ne.1 h),if_pos (by simpa using h2)]
 ·rw[if_neg (beq_eq_false_iff_ne.1 h),if_neg (by simpa using h2)]
def Nf(x:Bx):Prop:=1<=x.1/\x.1<=5/\0<=x.2.2.1/\x.2.2.1<=255/\-1<=x.2.2.2.1/\x.2.2.2.1<=255
def NOk(ns:List Bx):Prop:=∀i:Nat,i<ns.length->Nf (nd ns i)
theorem Abd{x:Bx}(h:Nf x):1<=cp x/\cp x<=256:=by
 obtain⟨-,-,h1,h2,h3,h4⟩:=h
 unfold cp
 rw[Af (n:=x.2.2.1+1) (by omega) (by omega)]
 split
 ·omega
 ·split<;>omega
structure Ayc(ns:List Bx)(l r w:List Int)(j:Nat):Prop where
 lo:1<=w.getD j 0
 hi:w.getD j 0<=2001
 two:(nd ns j).1=2\/(nd ns j).1=3->w.getD j 0=2001\/w.getD (l.getD j 0).toNat 0+w.getD (r.getD j 0).toNat 0<=w.getD j 0
 rep:(nd ns j).1=4->w.getD j 0=2001\/w.getD (l.getD j 0).toNat 0*cp (nd ns j)<=w.getD j 0
 grp:(nd ns j).1=5->w.getD j 0=2001\/w.getD (l.getD j 0).toNat 0<=w.getD j 0
def Rf(ns:List Bx)(l r w:List Int)(i:Nat):Prop:=∀j,j<i->Ayc ns l r w j
theorem Qu(w:List Int)(x:Int){i j:Nat}:(w.set i x).getD j 0=if i=j/\i<w.length then x else w.getD j 0:=by
 simp only[List.getD_eq_getElem?_getD,List.getElem?_set]
 by_cases h:i=j
 ·subst h
  by_cases h2:i<w.length
  ·simp[h2]
  ·simp[h2]
 ·simp[h]
theorem Rf.step{ns:List Bx}{l r w:List Int}{i:Nat}(hk:I9 ns l r ns.length)(hi:i<ns.length)(hw:w.length=ns.length)(h:Rf ns l r w i){v:Int}(v1:1<=v)(h2:(nd ns i).1=2\/(nd ns i).1=3->w.getD (l.getD i 0).toNat 0+w.getD (r.getD i 0).toNat 0<=v)(h4:(nd ns i).1=4->w.getD (l.getD i 0).toNat 0*cp (nd ns i)<=v)(h5:(nd ns i).1=5->w.getD (l.getD i 0).toNat 0<=v)(w':List Int)(hw':∀j,j<i->w'.getD j 0=w.getD j 0)(hv:w'.getD i 0=if v>2000 then 2001 else v):Rf ns l r w' (i+1):=by
 have hl:∀j,j<ns.length->1<=ar (nd ns j).1->(l.getD j 0).toNat<j:=λ j hj e=>by have:=hk.one j hj e;omega
 have hr:∀j,j<ns.length->ar (nd ns j).1=2->(r.getD j 0).toNat<j:=λ j hj e=>by have:=hk.two j hj e;omega
 have a2:∀k:Int,k=2\/k=3->ar k=2:=λ k e=>by rcases e with e|e<;>rw[e]<;>rfl
 intro j hj
 by_cases ij:j=i
 ·subst ij
  refine⟨by rw[hv];split<;>omega,by rw[hv];split<;>omega,λ e=> ?_,λ e=> ?_,λ e=> ?_⟩
  ·have:=h2 e
   rw[hv,hw' _ (hl j hi (by rw[a2 _ e];decide)),hw' _ (hr j hi (a2 _ e))]
   split<;>omega
  ·have:=h4 e
   rw[hv,hw' _ (hl j hi (by rw[e];decide))]
   split<;>omega
  ·have:=h5 e
   rw[hv,hw' _ (hl j hi (by rw[e];decide))]
   split<;>omega
 ·have hj:j<i:=by omega
  obtain⟨q1,q2,q3,q4,q5⟩:=h j hj
  refine⟨by rw[hw' j hj];exact q1,by rw[hw' j hj];exact q2,λ e=> ?_,λ e=> ?_,λ e=> ?_⟩
  ·have x1:=hl j (by omega) (by rw[a2 _ e];decide)
   have x2:=hr j (by omega) (a2 _ e)
   rw[hw' j hj,hw' _ (by omega),hw' _ (by omega)]
   exact q3 e
  ·have x1:=hl j (by omega) (by rw[e];decide)
   rw[hw' j hj,hw' _ (by omega)]
   exact q4 e
  ·have x1:=hl j (by omega) (by rw[e];decide)
   rw[hw' j hj,hw' _ (by omega)]
   exact q5 e
abbrev WtD:=(List Bx×List Bx×Int×Int)×List Int×List Int×List Int
section
variable{ns:List Bx}{N:Nat}{i:Int}{l r w:List Int}{S:WtD⊕(List Bx×List Int)->Prop}
theorem Axe(hs:ns.length<=1000000)(i0:0<=i)(i1:i<ns.length){w0:List Int}{v:Int}(e0:w=w0.set i.toNat v)(good:∀w',w'.length=ns.length->((∀j,j<i.toNat->w'.getD j 0=w0.getD j 0)/\w'.getD i.toNat 0=if v>2000 then 2001 else v)->S (.inl ((ns,ns,(ns.length:Int),i+1),l,r,w')))(hw:w.length=ns.length):
  RetK (K:=λ R=>(WtD->Option R)×((List Bx×List Int)->Option R)) (aS λ _ d k=>k d) (λ R k=>jn (F.ah (R:=R) N k.1 k.2) ((ns,i,ns,(ns.length:Int),i),l,r,w)) S:=by
 simp only[jn,F.ah]
 rw[Af (n:=i+1) (by omega) (by omega)]
 have hw0:w0.length=ns.length:=by rw[e0,zC] at hw;exact hw
 have hv:w.getD i.toNat 0=v:=by rw[e0,Qu,if_pos ⟨rfl,by omega⟩]
 have hj:∀j,j<i.toNat->w.getD j 0=w0.getD j 0:=λ j hj=>by rw[e0,Qu,if_neg (by omega)]
 rw[hv]
 refine rC (Ae i0 (by omega)) (rB (λ h=>rC (Ae i0 (by omega)) (rL (.inl _) (good _ (by simp only[zC];exact hw) ⟨λ j q=>by rw[Qu,if_neg (by omega)];exact hj j q,by rw[Qu,if_pos ⟨rfl,by omega⟩,if_pos (by simpa using h)]⟩) λ _ _=>rfl)) λ h=>rL (.inl _) (good _ hw ⟨hj,by rw[hv,if_neg (by simpa using h)]⟩) λ _ _=>rfl)
end
theorem Ax4(ns:List Bx){N:Nat}(hs:ns.length<=1000000)(hN:ns.length<N){l r w:List Int}(hk:I9 ns l r ns.length)(hw:w.length=ns.length):
  Ret (λ R k=>F.uz (R:=R) N N ((ns,ns,(ns.length:Int),0),l,r,w) k) (λ o=>o.1=ns/\o.2.length=ns.length/\(NOk ns->Rf ns l r o.2 ns.length)):=by
 refine rO (s:=λ R=>F.be (R:=R) N) (λ d=>d.1.1=ns/\d.1.2.1=ns/\d.1.2.2.1=(ns.length:Int)/\0<=d.1.2.2.2/\d.1.2.2.2<=ns.length/\d.2.1=l/\d.2.2.1=r/\d.2.2.2.length=ns.length/\(NOk ns->Rf ns l r d.2.2.2 d.1.2.2.2.toNat)) (λ d=>((ns.length:Int)-d.1.2.2.2).toNat) ?_ N _ ⟨rfl,rfl,rfl,by simp,by simp,rfl,rfl,hw,λ _ j hj=>absurd hj (by simp)⟩ (by dsimp only;omega)
 rintro⟨⟨ns',ns2,n,i⟩,l',r',w⟩ ⟨g1,g2,g3,i0,i1,g4,g5,hw,hW⟩
 dsimp only at g1 g2 g3 i0 i1 g4 g5 hw hW
 subst g1 g2 g3 g4 g5
 simp only[F.be]
 refine rB (λ h=> ?_) λ h=>rL (.inr (_,_)) ⟨rfl,hw,λ q=>by rw[show ns2.length=i.toNat by have:¬i<ns2.length:=(by simpa using h);omega];exact hW q⟩ λ _ _=>rfl
 have h:i<ns2.length:=by simpa using h
 refine rC (Ae i0 h) ?_
 have q1:=hk.ll
 have q2:=hk.rl
 have good:∀w':List Int,w'.length=ns2.length->(NOk ns2->Rf ns2 l' r' w' (i.toNat+1))->Sm (λ d:WtD=>d.1.1=ns2/\d.1.2.1=ns2/\d.1.2.2.1=(ns2.length:Int)/\0<=d.1.2.2.2/\d.1.2.2.2<=ns2.length/\d.2.1=l'/\d.2.2.1=r'/\d.2.2.2.length=ns2.length/\(NOk ns2->Rf ns2 l' r' d.2.2.2 d.1.2.2.2.toNat)) (λ d=>((ns2.length:Int)-d.1.2.2.2).toNat) ((ns2,ns2,(ns2.length:Int),i),l',r',w) (λ o:List Bx×List Int=>o.1=ns2/\o.2.length=ns2.length/\(NOk ns2->Rf ns2 l' r' o.2 ns2.length)) (.inl ((ns2,ns2,(ns2.length:Int),i+1),l',r',w')):=
  λ w' e q=>⟨⟨rfl,rfl,rfl,by dsimp only;omega,by dsimp only;omega,rfl,rfl,e,λ x=>by dsimp only;rw[show(i+1).toNat=i.toNat+1 by omega];exact q x⟩,by dsimp only;omega⟩
 have J:=λ(v:Int) (q:NOk ns2->Rf ns2 l' r' w i.toNat->1<=v/\((nd ns2 i.toNat).1=2\/(nd ns2 i.toNat).1=3->w.getD (l'.getD i.toNat 0).toNat 0+w.getD (r'.getD i.toNat 0).toNat 0<=v)/\((nd ns2 i.toNat).1=4->w.getD (l'.getD i.toNat 0).toNat 0*cp (nd ns2 i.toNat)<=v)/\((nd ns2 i.toNat).1=5->w.getD (l'.getD i.toNat 0).toNat 0<=v))=>Axe (N:=N) (w:=w.set i.toNat v) hs i0 h rfl (λ w' e x=>good w' e λ y=>by have z:=q y (hW y);exact(hW y).step hk (by omega) hw z.1 z.2.1 z.2.2.1 z.2.2.2 w' x.1 x.2) (by simp only[zC];exact hw)
 have wl:Rf ns2 l' r' w i.toNat->1<=ar (nd ns2 i.toNat).1->1<=w.getD (l'.getD i.toNat 0).toNat 0/\w.getD (l'.getD i.toNat 0).toNat 0<=2001:=λ x e=>by have:=hk.one i.toNat (by omega) e;have y:=x (l'.getD i.toNat 0).toNat (by omega);exact⟨y.lo,y.hi⟩
 have wr:Rf ns2 l' r' w i.toNat->ar (nd ns2 i.toNat).1=2->1<=w.getD (r'.getD i.toNat 0).toNat 0/\w.getD (r'.getD i.toNat 0).toNat 0<=2001:=λ x e=>by have:=hk.two i.toNat (by omega) e;have y:=x (r'.getD i.toNat 0).toNat (by omega);exact⟨y.lo,y.hi⟩
 have L1:1<=ar (nd ns2 i.toNat).1->inB (l'.getD i.toNat 0) w.length=true:=λ e=>by have:=hk.one i.toNat (by omega) e;exact Ae this.1 (by omega)
 have L2:ar (nd ns2 i.toNat).1=2->inB (r'.getD i.toNat 0) w.length=true:=λ e=>by have:=hk.two i.toNat (by omega) e;exact Ae this.1 (by omega)
 have two:ar (nd ns2 i.toNat).1=2->RetK (K:=λ R=>(WtD->Option R)×((List Bx×List Int)->Option R)) (aS λ _ d k=>k d) (λ R k=>chk (inB i l'.length)<|chk (inB (l'.getD i.toNat 0) w.length)<|chk (inB i r'.length)<|chk (inB (r'.getD i.toNat 0) w.length)<|chk (inB i w.length)<|jn (F.ah (R:=R) N k.1 k.2) ((ns2,i,ns2,(ns2.length:Int),i),l',r',List.set w i.toNat (Aa .i64 (w.getD (l'.getD i.toNat 0).toNat 0+w.getD (r'.getD i.toNat 0).toNat 0)))) _:=
  λ e=>rC (Ae i0 (by omega)) (rC (L1 (by omega)) (rC (Ae i0 (by omega)) (rC (L2 e) (rC (Ae i0 (by omega)) (J _ λ _ x=>by
   have x1:=wl x (by omega)
   have x2:=wr x e
   rw[Af (by omega) (by omega)]
   refine⟨by omega,λ _=>yS _,λ y=> ?_,λ y=> ?_⟩<;>rw[y] at e<;>exact absurd e (by decide))))))
 refine rB (λ h1=>rC (Ae i0 (by omega)) (J 1 λ _ _=> ?_)) λ h1=>rB (λ h2=> ?_) λ h2=> ?_
 ·have h1:(nd ns2 i.toNat).1=1:=by simpa using h1
  rw[h1]
  exact⟨by decide,λ y=>by omega,λ y=>by omega,λ y=>by omega⟩
 ·have h2:(nd ns2 i.toNat).1=2:=by simpa using h2
  refine rB (λ _=>two (by rw[h2];decide)) λ h3=>absurd (show((nd ns2 i.toNat).1==2)=true by rw[h2];rfl) (by rw[show((nd ns2 i.toNat).1==2)=false from h3];decide)
 ·refine rB (λ h3=>two (by rw[show(nd ns2 i.toNat).1=3 from by simpa using h3];decide)) λ h3=>rB (λ h4=> ?_) λ h4=>rB (λ h5=> ?_) λ h5=> ?_
  ·have h4:(nd ns2 i.toNat).1=4:=by simpa using h4
   refine rC (Ae i0 (by omega)) (rC (L1 (by rw[h4];decide)) (rD (Avv _) ?_))
   rintro _ rfl
   refine rC (Ae i0 (by omega)) (J _ λ y x=> ?_)
   have x1:=wl x (by rw[h4];decide)
   have x2:=Abd (y i.toNat (by omega))
   have x3:1*1<=w.getD (l'.getD i.toNat 0).toNat 0*cp (nd ns2 i.toNat):=xA x1.1 x2.1 (by decide) (by omega)
   have x4:w.getD (l'.getD i.toNat 0).toNat 0*cp (nd ns2 i.toNat)<=2001*256:=xA x1.2 x2.2 (by omega) (by decide)
   show 1<=Aa .i64 (w.getD (l'.getD i.toNat 0).toNat 0*cp (nd ns2 i.toNat))/\_
   rw[Af (n:=w.getD (l'.getD i.toNat 0).toNat 0*cp (nd ns2 i.toNat)) (by omega) (by omega),h4]
   exact⟨by omega,λ y=>by omega,λ _=>yS _,λ y=>by omega⟩
  ·have h5:(nd ns2 i.toNat).1=5:=by simpa using h5
   refine rC (Ae i0 (by omega)) (rC (L1 (by rw[h5];decide)) (rC (Ae i0 (by omega)) (J _ λ y x=> ?_)))
   have x1:=wl x (by rw[h5];decide)
   rw[h5]
   exact⟨by omega,λ y=>by omega,λ y=>by omega,λ _=>yS _⟩
  ·have n1:¬(nd ns2 i.toNat).1=1:=by simpa using h1
   have n2:¬(nd ns2 i.toNat).1=2:=by simpa using h2
   have n3:¬(nd ns2 i.toNat).1=3:=by simpa using h3
   have n4:¬(nd ns2 i.toNat).1=4:=by simpa using h4
   have n5:¬(nd ns2 i.toNat).1=5:=by simpa using h5
   have bad:¬NOk ns2:=λ y=>by obtain⟨y1,y2,-⟩:=y i.toNat (by omega);omega
   simp only[jn,F.ah]
   rw[Af (n:=i+1) (by omega) (by omega)]
   exact rC (Ae i0 (by omega)) (rB (λ _=>rC (Ae i0 (by omega)) (rL (.inl _) (good _ (by simp only[zC];exact hw) λ y=>absurd y bad) λ _ _=>rfl)) λ _=>rL (.inl _) (good _ hw λ y=>absurd y bad) λ _ _=>rfl)
structure BW(N:Nat)(ns:List Bx)(l r W:List Int):Prop where
 kids:∀R (k:Bool×List Int×List Int->Option R),F.ao N ns k=k (true,l,r)
 ok:I9 ns l r ns.length
 ne:ns≠[]
 wt:NOk ns->Rf ns l r W ns.length
theorem Aw8(ns:List Bx){N:Nat}(hs:ns.length<=1000000)(hN:ns.length<N):Ret (λ R k=>F.pp (R:=R) N ns k) (λ o=>(∃l r,∀R (k:Bool×List Int×List Int->Option R),F.ao N ns k=k (true,l,r))->∃l r W,BW N ns l r W/\W.getD (ns.length-1) 0=o):=by
 simp only[F.pp]
 obtain⟨⟨b,l,r⟩,h,hk⟩:=kids ns hs hN
 refine rD (app':=λ _ d k=>k d) (P':=λ o=>o=(b,l,r)) ⟨_,rfl,hk⟩ ?_
 rintro _ rfl
 cases b
 ·refine rL 0 (λ⟨l2,r2,h2⟩=> ?_) λ _ _=>rfl
  have:=(hk _ some).symm.trans (h2 _ some)
  cases this
 ·obtain⟨hko,hne⟩:=h rfl
  have hp:0<ns.length:=List.length_pos_iff.2 hne
  dsimp only
  refine rB (λ e=>absurd e (by decide)) λ _=>rC (by simp) (rC (Bg (by omega) (by omega)) (rD (Ax4 ns hs hN hko (by simp)) ?_))
  rintro⟨ns',w⟩ ⟨g1,g2,g3⟩
  dsimp only at g1 g2 g3⊢
  subst g1
  rw[Af (by omega) (by omega)]
  exact rC (Ae (by omega) (by omega)) (rL _ (λ _=>⟨l,r,w,⟨hk,hko,hne,g3⟩,by congr 1;omega⟩) λ _ _=>rfl)
def Ti(N:Nat)(v:Int)(as:List Alt):Prop:=∀x∈as,∃l r W,BW N x.2.2 l r W/\NOk x.2.2/\W.getD (x.2.2.length-1) 0<=v
theorem Ko(as:List Alt)(m:Int){N:Nat}(ha:as.length<=1000000)(hn:∀x∈as,x.2.2.length<=1000000)(hN:1000000<N):Ret (λ R k=>F.ak (R:=R) N (as,m) k) (λ o=>(∀x∈as,NOk x.2.2/\∃l r,∀R (k:Bool×List Int×List Int->Option R),F.ao N x.2.2 k=k (true,l,r))->Ti N o as):=by
 simp only[F.ak]
 have:=rO (s:=λ R=>F.ap (R:=R) N) (app:=λ _ d k=>k d) (P:=λ o=>(∀x∈as,NOk x.2.2/\∃l r,∀R (k:Bool×List Int×List Int->Option R),F.ao N x.2.2 k=k (true,l,r))->Ti N o as) (λ d=>d.2.1=as/\d.2.2.1=(as.length:Int)/\0<=d.2.2.2/\d.2.2.2<=as.length/\((∀x∈as,NOk x.2.2/\∃l r,∀R (k:Bool×List Int×List Int->Option R),F.ao N x.2.2 k=k (true,l,r))->0<=d.1/\d.1<=2001*d.2.2.2/\Ti N d.1 (as.take d.2.2.2.toNat))) (λ d=>((as.length:Int)-d.2.2.2).toNat) (λ d hd=>by
  obtain⟨a,as',n,i⟩:=d
  obtain⟨g1,g2,i0,i1,hB⟩:=hd
  dsimp only at g1 g2 i0 i1 hB
  subst g1 g2
  simp only[F.ap]
  refine rB (λ h=> ?_) λ h=>rL (.inr _) (λ q=> ?_) λ _ _=>rfl
  ·have h:i<as'.length:=by simpa using h
   refine rC (Ae i0 h) ?_
   have hi:i.toNat<as'.length:=by omega
   have hg:as'.getD i.toNat (false,zr0)=as'[i.toNat]:=by rw[List.getD_eq_getElem?_getD,List.getElem?_eq_getElem hi];rfl
   have hm:=zF hi
   have hl:=hn _ hm
   rw[hg]
   refine rD (Aw8 _ (N:=N) hl (by omega)) λ v hv=> ?_
   rw[Af (n:=i+1) (by omega) (by omega)]
   refine rL (.inl _) ⟨⟨rfl,rfl,by dsimp only;omega,by dsimp only;omega,λ q=> ?_⟩,by dsimp only;omega⟩ λ _ _=>rfl
   obtain⟨a0,a1,hb⟩:=hB q
   obtain⟨l,r,W,bw,e⟩:=hv (q _ hm).2
   have hne:=List.length_pos_iff.2 bw.ne
   have w1:=bw.wt (q _ hm).1 (as'[i.toNat].2.2.length-1) (by omega)
   have w2:=w1.lo
   have w3:=w1.hi
   rw[e] at w2 w3
   dsimp only
   rw[Af (n:=a+v) (by omega) (by omega),show(i+1).toNat=i.toNat+1 by omega,zH hi]
   refine⟨by omega,by omega,λ x hx=> ?_⟩
   rcases List.mem_append.1 hx with hx|hx
   ·obtain⟨l,r,W,x1,x2,x3⟩:=hb x hx
    exact⟨l,r,W,x1,x2,by omega⟩
   ·cases List.mem_singleton.1 hx
    exact⟨l,r,W,bw,(q _ hm).1,by omega⟩
  ·have h:¬i<as'.length:=by simpa using h
   have:=(hB q).2.2
   rw[show i.toNat=as'.length by omega,zG] at this
   exact this) N (0,as,(as.length:Int),0) ⟨rfl,rfl,by simp,by simp,λ _=>⟨by simp,by simp,λ x hx=>absurd hx (by simp)⟩⟩ (by dsimp only;omega)
 exact rD this λ o ho=>rL o ho λ _ _=>rfl
abbrev Jv:=List UInt8×List Int×Int×Int
def Gy(L:List Int)(w:Int)(o:Jv):Prop:=Cur L o.2/\0<=o.2.2.2/\o.2.2.2<w/\(o.1.length:Int)<40*(w-o.2.2.2)
theorem gt1{u:Int}(h:decide (u>0)=true):1<=u:=by
 have:u>0:=by simpa using h
 omega
theorem Fx{a:Nat}(h:a<=1000000000000):zY a big=true:=by
 rw[zN]
 simp only[big]
 omega
theorem Akk{L:List Int}(hL:Src L){c:List Int×Int×Int}(hc:Cur L c):Ret (λ R k=>F.qd (R:=R) c k) (λ o=>o.1.length<=26/\Cur L o.2/\o.2.2.2=c.2.2):=by
 obtain⟨c,p,w⟩:=c
 simp only[F.qd]
 refine rD (Fb hL hc (by simp)) ?_
 rintro⟨r,c1,p1,w1⟩ ⟨a1,a2,a3,a4⟩
 dsimp only at a1 a2 a3 a4⊢
 have a2:r<24:=by simp only[z8,z9] at a2;omega
 refine rC (Ae a1 (by simp only[z8,z9];omega)) (rL (_,c1,p1,w1) ⟨?_,a3,a4⟩ λ _ _=>rfl)
 have h:∀n,n<24->(zL [[97],[98],[99],[97],[98],[97,98],[91,97,98,93],[46],[91,94,97,93],[91,97,45,99,93],[91,98,45,93],[91,91,58,100,105,103,105,116,58,93,93],[49],[92,46],[91,93,97,93],[91,94,91,58,97,108,112,104,97,58,93,98,93],[91,91,58,120,100,105,103,105,116,58,93,45,93],[91,97,45,99,98,45,102,93],[45],[125],[91,94,93,45,97,93],[92,92],[91,91,58,117,112,112,101,114,58,93,91,58,115,112,97,99,101,58,93,120,93],[91,92,93]] n ([]:List UInt8)).length<=26:=by decide
 exact h r.toNat (by omega)
theorem Abf{L:List Int}(hL:Src L){c:List Int×Int×Int}(hc:Cur L c):Ret (λ R k=>F.me (R:=R) c k) (λ o=>o.1.length<=6/\Cur L o.2/\o.2.2.2=c.2.2):=by
 obtain⟨c,p,w⟩:=c
 simp only[F.me]
 refine rD (Fb hL hc (by simp)) ?_
 rintro⟨r,c1,p1,w1⟩ ⟨a1,a2,a3,a4⟩
 dsimp only at a1 a2 a3 a4⊢
 have a2:r<16:=by simp only[z8,z9] at a2;omega
 refine rC (Ae a1 (by simp only[z8,z9];omega)) (rL (_,c1,p1,w1) ⟨?_,a3,a4⟩ λ _ _=>rfl)
 have h:∀n,n<16->(zL [[],[],[],[42],[43],[63],[123,50,125],[123,49,44,50,125],[123,48,44,50,125],[123,50,44,125],[123,48,125],[42],[63],[123,49,44,51,125],[123,48,44,125],[123,48,51,125]] n ([]:List UInt8)).length<=6:=by decide
 exact h r.toNat (by omega)
section
variable{L:List Int}{N:Nat}{f:∀R:Type,(Int×List Int×Int×Int)->(Jv->Option R)->Option R}{d:Int}
theorem Akj(hL:Src L)(hN:1000<N)(hf:∀c,Cur L c->1<=c.2.2->c.2.2<=1000->Ret (λ R k=>f R (d,c) k) (Gy L c.2.2)){c:List Int×Int×Int}(hc:Cur L c)(w0:1<=c.2.2)(w1:c.2.2<=1000):
  Ret (λ R k=>F.qc (R:=R) N (f R) (d,c) k) (Gy L c.2.2):=by
 obtain⟨c0,p0,v⟩:=c
 dsimp only at w0 w1
 simp only[F.qc]
 refine rD (hf (c0,p0,v) hc w0 w1) ?_
 rintro⟨t,c1,p1,u⟩ ⟨a1,a2,a3,a4⟩
 dsimp only at a1 a2 a3 a4⊢
 have:=rO (s:=λ R=>F.cn (R:=R) N (f R)) (app:=λ _ d k=>k d) (P:=Gy L v) (λ x=>x.1.1=d/\Gy L v (x.1.2,x.2)) (λ x=>x.2.2.2.toNat) (λ x hx=>by
  obtain⟨⟨d',t⟩,c,p,u⟩:=x
  obtain⟨g1,b1,b2,b3,b4⟩:=hx
  dsimp only at g1 b1 b2 b3 b4
  subst g1
  have J:∀b c' p',(b=true->1<=u)->Cur L (c',p',u)->RetK (K:=λ R=>((Int×List UInt8)×List Int×Int×Int->Option R)×(Jv->Option R)) (aS λ _ d k=>k d) (λ R k=>jn (F.mc (R:=R) N (f R) k.1 k.2) ((d',t,b),c',p',u)) (Sm (λ x:(Int×List UInt8)×List Int×Int×Int=>x.1.1=d'/\Gy L v (x.1.2,x.2)) (λ x=>x.2.2.2.toNat) ((d',t),c,p,u) (Gy L v)):=by
   intro b c' p' hb hc'
   simp only[jn,F.mc]
   refine rB (λ h=> ?_) λ _=>rL (.inr (t,c',p',u)) ⟨hc',b2,b3,b4⟩ λ _ _=>rfl
   have hu:=hb h
   refine rD (hf (c',p',u) hc' hu (by dsimp only;omega)) ?_
   rintro⟨t2,c2,p2,u2⟩ ⟨e1,e2,e3,e4⟩
   dsimp only at e1 e2 e3 e4⊢
   refine rC (Fx (by simp only[z8,z9];omega)) (rC (Fx (by simp only[zA,z8,z9];omega)) ?_)
   exact rL (.inl _) ⟨⟨rfl,e1,e2,by dsimp only;omega,by simp only[zA,z8,z9];omega⟩,by dsimp only;omega⟩ λ _ _=>rfl
  simp only[F.cn]
  refine rB (λ h=> ?_) λ _=>J false c p (λ h=>by cases h) b1
  have h:0<u:=by simpa using h
  refine rD (Fb hL b1 (by omega)) ?_
  rintro⟨r,c2,p2,w2⟩ ⟨e1,e2,e3,e4⟩
  dsimp only at e1 e2 e3 e4⊢
  subst e4
  exact J _ _ _ (λ _=>by omega) e3) N ((d,t),c1,p1,u) ⟨rfl,a1,a2,a3,a4⟩ (by dsimp only;omega)
 refine rD this ?_
 rintro⟨t',c',p',u'⟩ h
 exact rL (_,_,_,_) h λ _ _=>rfl
end
abbrev Ajl:=(Int×List UInt8×Int×Int)×List Int×Int×Int
section
variable{L:List Int}{N:Nat}{f:∀R:Type,(Int×List Int×Int×Int)->(Jv->Option R)->Option R}{d n i u:Int}{t:List UInt8}{c:List Int}{p:Int}{S:Ajl⊕Jv->Prop}
theorem Aql(hL:Src L)(hN:1000<N)(hf:d<3->∀c,Cur L c->1<=c.2.2->c.2.2<=1000->Ret (λ R k=>f R (d+1,c) k) (Gy L c.2.2))(d0:0<=d)(d1:d<=3)(i0:0<=i)(i1:i<=10)(ht:t.length<=100000)(u0:0<=u)(u1:u<=1000)(hc:Cur L (c,p,u))
  (good:∀t' c',Cur L c'->0<=c'.2.2->c'.2.2<=u->(t'.length:Int)<t.length+40*(u+1-c'.2.2)->S (.inl ((d,t',n,i+1),c'))) (b:Bool) (hb:b=true->d<3/\1<=u):
  RetK (K:=λ R=>(Ajl->Option R)×(Jv->Option R)) (aS λ _ d k=>k d) (λ R k=>jn (F.gl (R:=R) N (f R) k.1 k.2) ((d,t,n,i,b),c,p,u)) S:=by
 simp only[jn,F.gl]
 rw[Af (n:=d+1) (by omega) (by omega),Af (n:=i+1) (by omega) (by omega)]
 refine rB (λ h=> ?_) λ _=> ?_
 ·obtain⟨h1,h2⟩:=hb h
  refine rD (Akj hL hN (hf h1) hc h2 u1) ?_
  rintro⟨t2,c2,p2,u2⟩ ⟨e1,e2,e3,e4⟩
  dsimp only at e1 e2 e3 e4⊢
  refine rC (Fx (by simp only[z8,z9];omega)) (rC (Fx (by simp only[zA,z8,z9];omega)) (rC (Fx (by simp only[zA,z8,z9];omega)) (rD (Abf hL e1) ?_)))
  rintro⟨t3,c3,p3,u3⟩ ⟨f1,f2,f3⟩
  dsimp only at f1 f2 f3⊢
  subst f3
  refine rC (Fx (by simp only[zA,z8,z9];omega)) (rL (.inl _) (good _ _ f2 e2 (by dsimp only;omega) ?_) λ _ _=>rfl)
  simp only[zA,z8,z9]
  omega
 ·refine rD (Akk hL hc) ?_
  rintro⟨t2,c2,p2,u2⟩ ⟨e1,e2,e3⟩
  dsimp only at e1 e2 e3⊢
  subst e3
  refine rC (Fx (by omega)) (rD (Abf hL e2) ?_)
  rintro⟨t3,c3,p3,u3⟩ ⟨f1,f2,f3⟩
  dsimp only at f1 f2 f3⊢
  subst f3
  refine rC (Fx (by simp only[zA];omega)) (rL (.inl _) (good _ _ f2 u0 (by dsimp only;omega) ?_) λ _ _=>rfl)
  simp only[zA]
  omega
theorem Ajt(hL:Src L)(hN:1000<N)(hf:d<3->∀c,Cur L c->1<=c.2.2->c.2.2<=1000->Ret (λ R k=>f R (d+1,c) k) (Gy L c.2.2))(d0:0<=d)(d1:d<=3)(i0:0<=i)(i1:i<=10)(ht:t.length<=100000)(u1:u<=1000)(hc:Cur L (c,p,u))
  (good:∀t' c',Cur L c'->0<=c'.2.2->c'.2.2<u->(t'.length:Int)<t.length+40*(u-c'.2.2)->S (.inl ((d,t',n,i+1),c'))) (b:Bool) (hb:b=true->1<=u) (out:b=false->S (.inr (t,c,p,u))):
  RetK (K:=λ R=>(Ajl->Option R)×(Jv->Option R)) (aS λ _ d k=>k d) (λ R k=>jn (F.dq (R:=R) N (f R) k.1 k.2) ((d,t,n,i,b),c,p,u)) S:=by
 simp only[jn,F.dq]
 refine rB (λ h=> ?_) λ h=>rL (.inr _) (out h) λ _ _=>rfl
 have hu:=hb h
 rw[Af (n:=u-1) (by omega) (by omega)]
 have J:∀c' p' b,Cur L (c',p',u-1)->(b=true->d<3/\1<=u-1)->_:=λ c' p' b h1 h2=>Aql (N:=N) (f:=f) (n:=n) (S:=S) hL hN hf d0 d1 i0 i1 ht (by omega) (by omega) h1 (λ t' c' x1 x2 x3 x4=>good t' c' x1 x2 (by omega) (by omega)) b h2
 have hc':Cur L (c,p,u-1):=hc
 refine rB (λ h3=>rB (λ h4=> ?_) λ _=>J _ _ false hc' λ h=>by cases h) λ _=>J _ _ false hc' λ h=>by cases h
 have h3:d<3:=by simpa using h3
 have h4:0<u-1:=by simpa using h4
 refine rD (Fb hL hc' (by omega)) ?_
 rintro⟨r,c2,p2,w2⟩ ⟨e1,e2,e3,e4⟩
 dsimp only at e1 e2 e3 e4⊢
 subst e4
 exact J _ _ _ e3 λ _=>⟨h3,by omega⟩
end
theorem Aqw{L:List Int}(hL:Src L){N:Nat}(hN:1000<N){d:Int}(d0:0<=d)(d1:d<=3){c:List Int×Int×Int}(hc:Cur L c)(w0:1<=c.2.2)(w1:c.2.2<=1000):Ret (λ R k=>F.kj (R:=R) N N (d,c) k) (Gy L c.2.2):=by
 refine rR (D:=Int×List Int×Int×Int) (K:=λ R=>Jv->Option R) (s:=λ R=>F.oz (R:=R) N) (λ x=>0<=x.1/\x.1<=3/\Cur L x.2/\1<=x.2.2.2/\x.2.2.2<=1000) (λ x=>Gy L x.2.2.2) (λ x=>(3-x.1).toNat) ?_ N (d,c) ⟨d0,d1,hc,w0,w1⟩ (by dsimp only;omega)
 rintro f ⟨d,c,p,v⟩ ⟨d0,d1,hc,w0,w1⟩ hr
 dsimp only at d0 d1 hc w0 w1 hr⊢
 have hf:d<3->∀c,Cur L c->1<=c.2.2->c.2.2<=1000->Ret (λ R k=>f R (d+1,c) k) (Gy L c.2.2):=λ h c h1 h2 h3=>hr (d+1,c) ⟨by dsimp only;omega,by dsimp only;omega,h1,h2,h3⟩ (by dsimp only;omega)
 simp only[F.oz]
 refine rD (Fb hL hc (by omega)) ?_
 rintro⟨r,c2,p2,w2⟩ ⟨e1,e2,e3,e4⟩
 dsimp only at e1 e2 e3 e4⊢
 subst e4
 rw[Af (n:=1+r) (by omega) (by omega)]
 have:=rO (s:=λ R=>F.ec (R:=R) N (f R)) (app:=λ _ d k=>k d) (P:=Gy L w2) (λ x:Ajl=>x.1.1=d/\x.1.2.2.1=1+r/\0<=x.1.2.2.2/\x.1.2.2.2<=1+r/\Cur L x.2/\((x.1.2.2.2=0/\x.2.2.2=w2/\x.1.2.1.length=0)\/(1<=x.1.2.2.2/\0<=x.2.2.2/\x.2.2.2<w2/\(x.1.2.1.length:Int)<40*(w2-x.2.2.2)))) (λ x=>(1+r-x.1.2.2.2).toNat) (λ x hx=>by
  obtain⟨⟨d',t,n,i⟩,c,p,u⟩:=x
  obtain⟨g1,g2,i0,i1,h1,h2⟩:=hx
  dsimp only at g1 g2 i0 i1 h1 h2
  subst g1 g2
  have hu:u<=1000:=by omega
  have ht:t.length<=100000:=by omega
  have good:i<1+r->∀t' c',Cur L c'->0<=c'.2.2->c'.2.2<u->(t'.length:Int)<t.length+40*(u-c'.2.2)->Sm (λ x:Ajl=>x.1.1=d'/\x.1.2.2.1=1+r/\0<=x.1.2.2.2/\x.1.2.2.2<=1+r/\Cur L x.2/\((x.1.2.2.2=0/\x.2.2.2=w2/\x.1.2.1.length=0)\/(1<=x.1.2.2.2/\0<=x.2.2.2/\x.2.2.2<w2/\(x.1.2.1.length:Int)<40*(w2-x.2.2.2)))) (λ x=>(1+r-x.1.2.2.2).toNat) ((d',t,1+r,i),c,p,u) (Gy L w2) (.inl ((d',t',1+r,i+1),c')):=by
   intro hi t' c' x1 x2 x3 x4
   exact⟨⟨rfl,rfl,by dsimp only;omega,by dsimp only;omega,x1,.inr ⟨by dsimp only;omega,x2,by dsimp only;omega,by dsimp only;omega⟩⟩,by dsimp only;omega⟩
  simp only[F.ec]
  refine rB (λ h=> ?_) λ h=> ?_
  ·have h:i<1+r:=by simpa using h
   refine rB (λ hi=> ?_) λ hi=> ?_
   ·have hi:i=0:=by simpa using hi
    exact Ajt hL hN hf d0 d1 i0 (by omega) ht hu h1 (good h) true (λ _=>by omega) (λ e=>by cases e)
   ·have hi:¬i=0:=by simpa using hi
    exact Ajt hL hN hf d0 d1 i0 (by omega) ht hu h1 (good h) _ gt1 (λ e=>⟨h1,by dsimp only;omega,by dsimp only;omega,by dsimp only;omega⟩)
  ·have h:¬i<1+r:=by simpa using h
   simp only[jn,F.dq]
   exact rL (.inr (t,c,p,u)) ⟨h1,by dsimp only;omega,by dsimp only;omega,by dsimp only;omega⟩ λ _ _=>rfl) N ((d,[],1+r,0),c2,p2,w2) ⟨rfl,rfl,by simp,by dsimp only;omega,e3,.inl ⟨rfl,rfl,rfl⟩⟩ (by dsimp only;omega)
 refine rD this ?_
 rintro⟨t',c',p',u'⟩ h
 exact rL (_,_,_,_) h λ _ _=>rfl
abbrev Aat:=(List UInt8×Int)×List Int×Int×Int
abbrev Aqg:=Jv⊕((List UInt8×List UInt8)×List Int×Int×Int)
section
variable{L:List Int}{N:Nat}{j u w:Int}{t:List UInt8}{c:List Int}{p:Int}{S:Aat⊕Aqg->Prop}
def Pk(L:List Int)(w j:Int)(S:Aat⊕Aqg->Prop):Prop:=
 (∀t' c',Cur L c'->1<=c'.2.2->c'.2.2<=w->(t'.length:Int)<=40*(w-c'.2.2)+3*(j+1)->S (.inl ((t',j+1),c')))/\(∀t' c',Cur L c'->t'.length<=50000->S (.inr (.inr ((t',t'),c'))))
theorem Ag3(hL:Src L)(j0:0<=j)(j1:j<4)(w1:w<=1000)(hc:Cur L (c,p,u))(u0:0<=u)(u1:u<=w)(ht:(t.length:Int)<=40*(w-u)+3*(j+1))(good:Pk L w j S):
  RetK (K:=λ R=>(Aat->Option R)×((Jv->Option R)×(((List UInt8×List UInt8)×List Int×Int×Int)->Option R))) (aS Db) (λ R k=>jn (F.gb (R:=R) N k.1 (k.2.1,k.2.2)) ((t,j),c,p,u)) S:=by
 simp only[jn,F.gb]
 rw[Af (n:=j+1) (by omega) (by omega)]
 refine rB (λ h=>rL (.inr (.inr _)) (good.2 _ _ hc (by omega)) λ _ _=>rfl) λ h=> ?_
 have h:¬u<=0:=by simpa using h
 refine rD (Fb hL hc (by omega)) ?_
 rintro⟨r,c2,p2,w2⟩ ⟨e1,e2,e3,e4⟩
 dsimp only at e1 e2 e3 e4⊢
 subst e4
 exact rB (λ _=>rL (.inr (.inr _)) (good.2 _ _ e3 (by omega)) λ _ _=>rfl) λ _=>rL (.inl _) (good.1 _ _ e3 (by dsimp only;omega) u1 ht) λ _ _=>rfl
theorem Z5(hL:Src L)(j0:0<=j)(j1:j<4)(w1:w<=1000)(hc:Cur L (c,p,u))(u0:0<=u)(u1:u<=w)(ht:(t.length:Int)<=40*(w-u)+3*j+2)(good:Pk L w j S)(b:Bool):
  RetK (K:=λ R=>(Aat->Option R)×((Jv->Option R)×(((List UInt8×List UInt8)×List Int×Int×Int)->Option R))) (aS Db) (λ R k=>jn (F.bp (R:=R) N k.1 (k.2.1,k.2.2)) ((t,j,b),c,p,u)) S:=by
 simp only[jn,F.bp]
 refine rB (λ _=>rC (Fx (by simp only[z8,z9];omega)) ?_) λ _=>Ag3 hL j0 j1 w1 hc u0 u1 (by omega) good
 exact Ag3 hL j0 j1 w1 hc u0 u1 (by simp only[zA,z8,z9];omega) good
theorem Ag2(hL:Src L)(hN:1000<N)(j0:0<=j)(j1:j<4)(w1:w<=1000)(hc:Cur L (c,p,u))(u0:1<=u)(u1:u<=w)(ht:(t.length:Int)<=40*(w-u)+3*j+2)(good:Pk L w j S)(q:Int):
  RetK (K:=λ R=>(Aat->Option R)×((Jv->Option R)×(((List UInt8×List UInt8)×List Int×Int×Int)->Option R))) (aS Db) (λ R k=>jn (F.gc (R:=R) N k.1 (k.2.1,k.2.2)) ((t,j,q),c,p,u)) S:=by
 simp only[jn,F.gc]
 refine rD (Aqw hL hN (by omega) (by omega) hc u0 (by dsimp only;omega)) ?_
 rintro⟨t2,c2,p2,u2⟩ ⟨e1,e2,e3,e4⟩
 dsimp only at e1 e2 e3 e4⊢
 have hl:((t++t2).length:Int)<=40*(w-u2)+3*j+2:=by simp only[zA];omega
 refine rC (Fx (by omega)) (rB (λ _=>Z5 hL j0 j1 w1 e1 e2 (by omega) hl good _) λ _=>rB (λ _=>rD (Fb hL e1 (by omega)) ?_) λ _=>Z5 hL j0 j1 w1 e1 e2 (by omega) hl good _)
 rintro⟨r,c3,p3,w3⟩ ⟨f1,f2,f3,f4⟩
 dsimp only at f1 f2 f3 f4⊢
 subst f4
 exact Z5 hL j0 j1 w1 f3 e2 (by omega) hl good _
theorem Ag1(hL:Src L)(hN:1000<N)(j0:0<=j)(j1:j<4)(w1:w<=1000)(hc:Cur L (c,p,u))(u0:1<=u)(u1:u<=w)(ht:(t.length:Int)<=40*(w-u)+3*j+1)(good:Pk L w j S):
  RetK (K:=λ R=>(Aat->Option R)×((Jv->Option R)×(((List UInt8×List UInt8)×List Int×Int×Int)->Option R))) (aS Db) (λ R k=>jn (F.gg (R:=R) N k.1 (k.2.1,k.2.2)) ((t,j),c,p,u)) S:=by
 simp only[jn,F.gg]
 refine rD (Fb hL hc (by omega)) ?_
 rintro⟨r,c3,p3,w3⟩ ⟨f1,f2,f3,f4⟩
 dsimp only at f1 f2 f3 f4⊢
 subst f4
 refine rB (λ _=>rC (Fx (by simp only[z8,z9];omega)) ?_) λ _=>Ag2 hL hN j0 j1 w1 f3 u0 u1 (by omega) good _
 exact Ag2 hL hN j0 j1 w1 f3 u0 u1 (by simp only[zA,z8,z9];omega) good _
end
theorem Abe{L:List Int}(hL:Src L){N:Nat}(hN:1000<N){w:Int}{c:List Int×Int×Int}(hc:Cur L c)(w0:1<=w)(w1:w<=1000):Ret (λ R k=>F.mf (R:=R) N (w,c) k) (λ o=>o.1.length<=50000/\Cur L o.2):=by
  obtain⟨c,p,v⟩:=c
  have hc:Cur L (c,p,w):=hc
  simp only[F.mf]
  have:=rO (s:=λ R=>F.bj (R:=R) N) (app:=Db) (P:=λ o:Aqg=>match o with|.inl o=>o.1.length<=50000/\Cur L o.2|.inr o=>o.1.1.length<=50000/\Cur L o.2) (λ x:Aat=>0<=x.1.2/\x.1.2<=4/\Cur L x.2/\1<=x.2.2.2/\x.2.2.2<=w/\(x.1.1.length:Int)<=40*(w-x.2.2.2)+3*x.1.2) (λ x=>(4-x.1.2).toNat) (λ x hx=>by
    obtain⟨⟨t,j⟩,c,p,u⟩:=x
    obtain⟨j0,j1,h1,u0,u1,ht⟩:=hx
    dsimp only at j0 j1 h1 u0 u1 ht
    simp only[F.bj]
    refine rB (λ h=> ?_) λ h=>rL (.inr (.inl (t,c,p,u))) ⟨by dsimp only;omega,h1⟩ λ _ _=>rfl
    have h:j<4:=by simpa using h
    have good:Pk L w j (Sm (λ x:Aat=>0<=x.1.2/\x.1.2<=4/\Cur L x.2/\1<=x.2.2.2/\x.2.2.2<=w/\(x.1.1.length:Int)<=40*(w-x.2.2.2)+3*x.1.2) (λ x=>(4-x.1.2).toNat) ((t,j),c,p,u) (λ o:Aqg=>match o with|.inl o=>o.1.length<=50000/\Cur L o.2|.inr o=>o.1.1.length<=50000/\Cur L o.2)):=
      ⟨λ t' c' x1 x2 x3 x4=>⟨⟨by dsimp only;omega,by dsimp only;omega,x1,x2,x3,x4⟩,by dsimp only;omega⟩,λ t' c' x1 x2=>⟨x2,x1⟩⟩
    refine rB (λ _=>rC (Fx (by simp only[z8,z9];omega)) ?_) λ _=>Ag1 hL hN j0 h w1 h1 u0 u1 (by omega) good
    exact Ag1 hL hN j0 h w1 h1 u0 u1 (by simp only[zA,z8,z9];omega) good) N (([],0),c,p,w) ⟨by simp,by simp,hc,w0,by dsimp only;omega,by simp⟩ (by dsimp only;omega)
  refine rD this ?_
  rintro(⟨t,c',p',u'⟩|⟨⟨t,t2⟩,c',p',u'⟩) h
  · exact rL (_,_,_,_) h λ _ _=>rfl
  · exact rL (_,_,_,_) h λ _ _=>rfl
theorem Gj(t:List UInt8)(i:Int):0<=Aq t i/\Aq t i<=255:=by
 unfold Aq
 have:=UInt8.toNat_lt (t.getD i.toNat 0)
 omega
theorem Eo(a b c:Int):Ret (λ R k=>F.af (R:=R) (a,b,c) k) (λ o=>o=(decide (b<=a)&&decide (a<=c))):=by
 simp only[F.af]
 exact rB (λ h=>rL _ (by rw[h,xC]) λ _ _=>rfl) λ h=>rL _ (by rw[h,Bool.false_and]) λ _ _=>rfl
theorem Ace(t:List UInt8)(i:Int)(ht:t.length<=1000000):Ret (λ R k=>F.dx (R:=R) (t,i) k) (λ o=>-1<=o/\o<=255/\(0<=o->0<=i/\i<t.length)):=by
 simp only[F.dx]
 have hb:=Gj t i
 refine rB (λ _=>rL (-1) ⟨by omega,by omega,λ h=>by omega⟩ λ _ _=>rfl) λ h1=>rB (λ _=>rL (-1) ⟨by omega,by omega,λ h=>by omega⟩ λ _ _=>rfl) λ h2=> ?_
 have h1:¬i<0:=by simpa using h1
 have h2:i<t.length:=by simpa using h2
 rw[Af (by omega) (by omega)]
 exact rC (Ae (by omega) h2) (rL _ ⟨by omega,by omega,λ _=>⟨by omega,h2⟩⟩ λ _ _=>rfl)
theorem Arb(t:List UInt8)(i:Int):Ret (λ R k=>F.qm (R:=R) (t,i) k) (λ _=>True):=by
 simp only[F.qm]
 refine rD (Eo _ _ _) λ a _=> ?_
 refine rD (Eo _ _ _) λ b _=> ?_
 refine rD (Eo _ _ _) λ c _=> ?_
 repeat' first
  | exact rL _ trivial λ _ _=>rfl
  | refine rB (λ _=> ?_) λ _=> ?_
  | refine rD (Eo _ _ _) λ _ _=> ?_
theorem Vm{N:Nat}(hN:1000<N){a b:Int}(a0:0<=a)(b1:b<=255):Ret (λ R k=>F.aj (R:=R) N (a,b) k) (λ o=>o.length=256):=by
 simp only[F.aj]
 have:=rO (s:=λ R=>F.jf (R:=R) N) (app:=λ _ d k=>k d) (P:=λ o:List Bool=>o.length=256) (λ x:(Int×Int)×List Bool=>x.1.1=b/\0<=x.1.2/\x.2.length=256) (λ x=>(256-x.1.2).toNat) (λ x hx=>by
  obtain⟨⟨b',i⟩,l⟩:=x
  obtain⟨g1,i0,hl⟩:=hx
  dsimp only at g1 i0 hl
  subst g1
  simp only[F.jf]
  refine rB (λ h=> ?_) λ _=>rL (.inr l) hl λ _ _=>rfl
  have h:i<=b':=by simpa using h
  rw[Af (n:=i+1) (by omega) (by omega)]
  refine rC (Ae i0 (by omega)) (rL (.inl _) ⟨⟨rfl,by dsimp only;omega,by simp only[zC];exact hl⟩,by dsimp only;omega⟩ λ _ _=>rfl)) N ((b,a),zZ (yK 256) false) ⟨rfl,a0,zI⟩ (by dsimp only;omega)
 exact rC (by decide) (rC (by decide) (rD this λ o ho=>rL o ho λ _ _=>rfl))
theorem count(t:List UInt8){N:Nat}(hN:1000<N):Ret (λ R k=>F.oi (R:=R) N t k) (λ o=>o<=255):=by
  simp only[F.oi]
  refine rB (λ _=>rL (-1) (by omega) λ _ _=>rfl) λ _=>rB (λ _=>rL (-1) (by omega) λ _ _=>rfl) λ h=> ?_
  have h:¬3<(t.length:Int):=by simpa using h
  have:=rO (s:=λ R=>F.je (R:=R) N) (app:=Db) (P:=λ o:Int⊕(Int×Int)=>match o with|.inl _=>True|.inr o=>o.1=-1) (λ x:List UInt8×Int×Int=>x.1=t/\0<=x.2.2/\x.2.2<=t.length) (λ x=>((t.length:Int)-x.2.2).toNat) (λ x hx=>by
    obtain⟨t',a,i⟩:=x
    obtain⟨g1,i0,i1⟩:=hx
    dsimp only at g1 i0 i1
    subst g1
    simp only[F.je]
    refine rB (λ h=> ?_) λ _=>rL (.inr (.inl a)) trivial λ _ _=>rfl
    have h:i<t'.length:=by simpa using h
    refine rC (Ae i0 h) (rD (Eo _ _ _) λ v _=> ?_)
    refine rB (λ _=>rL (.inr (.inr (-1,a))) rfl λ _ _=>rfl) λ _=>rC (Ae i0 h) ?_
    rw[Af (n:=i+1) (by omega) (by omega)]
    exact rL (.inl _) ⟨⟨rfl,by dsimp only;omega,by dsimp only;omega⟩,by dsimp only;omega⟩ λ _ _=>rfl) N (t,0,0) ⟨rfl,by simp,by simp⟩ (by dsimp only;omega)
  refine rD this ?_
  rintro(v|⟨v,w⟩) hv
  · exact rB (λ _=>rL (-1) (by omega) λ _ _=>rfl) λ h=>rL v (by simpa using h) λ _ _=>rfl
  · have hv:v=-1:=hv
    exact rL v (by omega) λ _ _=>rfl
theorem Amq(t:List UInt8){i:Int}{N:Nat}(ht:t.length<=1000000)(hN:2000000<N)(i0:0<=i)(i1:i<t.length)(hb:Aq t i≠125):Ret (λ R k=>F.bo (R:=R) N (t,i) k) (λ o=>0<=o.1/\o.1<=255/\-1<=o.2.1/\o.2.1<=255/\(o.2.2=-1\/(i<o.2.2/\o.2.2<=t.length))):=by
 simp only[F.bo]
 have L0:=rO (s:=λ R=>F.co (R:=R) N) (app:=λ _ d k=>k d) (P:=λ o:List UInt8×Int×Int=>o.1=t/\o.2.1=i/\i<o.2.2/\o.2.2<=t.length) (λ x:List UInt8×Int×Int=>x.1=t/\x.2.1=i/\i<=x.2.2/\x.2.2<=t.length) (λ x=>((t.length:Int)-x.2.2).toNat) (λ x hx=>by
  obtain⟨t',a,j⟩:=x
  obtain⟨g1,g2,j0,j1⟩:=hx
  dsimp only at g1 g2 j0 j1
  subst g1 g2
  simp only[F.co]
  refine rB (λ h=> ?_) λ h=>rL (.inr (t',a,j)) ⟨rfl,rfl,by have:¬j<(t'.length:Int):=(by simpa using h);dsimp only;omega,j1⟩ λ _ _=>rfl
  have h:j<t'.length:=by simpa using h
  rw[Af (n:=j+1) (by omega) (by omega)]
  refine rC (Ae (by omega) h) (rB (λ _=>rL (.inl _) ⟨⟨rfl,rfl,by dsimp only;omega,by dsimp only;omega⟩,by dsimp only;omega⟩ λ _ _=>rfl) λ hq=>rL (.inr (t',a,j)) ⟨rfl,rfl, ?_,by dsimp only;omega⟩ λ _ _=>rfl)
  have hq:Aq t' j=125:=by simpa using hq
  have:a≠j:=λ e=>hb (e▸hq)
  dsimp only
  omega) N (t,i,i) ⟨rfl,rfl,by simp,by dsimp only;omega⟩ (by dsimp only;omega)
 refine rD L0 ?_
 rintro⟨t',a,j⟩ ⟨g1,g2,j0,j1⟩
 dsimp only at g1 g2 j0 j1⊢
 subst g1 g2
 refine rB (λ _=>rL (0,0,-1) ⟨by simp,by simp,by simp,by simp,.inl rfl⟩ λ _ _=>rfl) λ h=> ?_
 have h:¬j=t'.length:=by simpa using h
 rw[Af (n:=a+1) (by omega) (by omega)]
 refine rC (by simp;omega) (rC (by simp;omega) ?_)
 have hl:(List.drop (a+1).toNat (yD j.toNat t')).length<=1000000:=by simp only[zE,zD];omega
 generalize List.drop (a+1).toNat (yD j.toNat t')=u at hl
 rw[Af (n:=(u.length:Int)-1) (by omega) (by omega)]
 have L2:=rO (s:=λ R=>F.cq (R:=R) N) (app:=λ _ d k=>k d) (P:=λ o:Int×List UInt8×Int=>o.1=j/\o.2.1=u/\o.2.2<u.length/\-1<=o.2.2) (λ x:Int×List UInt8×Int×Int=>x.1=j/\x.2.1=u/\x.2.2.1<u.length/\-1<=x.2.2.1/\x.2.2.2<u.length/\-1<=x.2.2.2) (λ x=>(x.2.2.2+1).toNat) (λ x hx=>by
  obtain⟨j',u',v,q⟩:=x
  obtain⟨g1,g2,v1,v0,q1,q0⟩:=hx
  dsimp only at g1 g2 v1 v0 q1 q0
  subst g1 g2
  simp only[F.cq]
  refine rB (λ h=> ?_) λ h=>rL (.inr (j',u',v)) ⟨rfl,rfl,v1,v0⟩ λ _ _=>rfl
  have h:0<=q:=by simpa using h
  rw[Af (n:=q-1) (by omega) (by omega)]
  exact rC (Ae h q1) (rB (λ _=>rL (.inl _) ⟨⟨rfl,rfl,q1,by dsimp only;omega,by dsimp only;omega,by dsimp only;omega⟩,by dsimp only;omega⟩ λ _ _=>rfl) λ _=>rL (.inl _) ⟨⟨rfl,rfl,v1,v0,by dsimp only;omega,by dsimp only;omega⟩,by dsimp only;omega⟩ λ _ _=>rfl)) N (j,u,-1,(u.length:Int)-1) ⟨rfl,rfl,by dsimp only;omega,by dsimp only;omega,by dsimp only;omega,by dsimp only;omega⟩ (by dsimp only;omega)
 refine rD L2 ?_
 rintro⟨j',u',v⟩ ⟨g1,g2,v1,v0⟩
 dsimp only at g1 g2 v1 v0⊢
 subst g1 g2
 have bad:RetK (K:=λ R=>(Int×Int×Int)->Option R) (λ _ d k=>k d) (λ R k=>k (0,0,-1)) (λ o=>0<=o.1/\o.1<=255/\-1<=o.2.1/\o.2.1<=255/\(o.2.2=-1\/(a<o.2.2/\o.2.2<=t'.length))):=rL (0,0,-1) ⟨by simp,by simp,by simp,by simp,.inl rfl⟩ λ _ _=>rfl
 rw[Af (n:=j'+1) (by omega) (by omega),Af (n:=v+1) (by omega) (by omega),Af (n:=(u'.length:Int)-1) (by omega) (by omega)]
 refine rB (λ _=>rD (count u' (by omega)) λ r hr=>rB (λ _=>bad) λ h2=> ?_) λ h1=> ?_
 ·have h2:¬r<0:=by simpa using h2
  exact rL (r,r,j'+1) ⟨by dsimp only;omega,hr,by dsimp only;omega,hr,.inr ⟨by dsimp only;omega,by dsimp only;omega⟩⟩ λ _ _=>rfl
 ·have h1:¬v<0:=by simpa using h1
  refine rC (by simp;omega) (rD (count _ (by omega)) λ r hr=>rB (λ _=>bad) λ h2=>rB (λ _=> ?_) λ h3=> ?_)
  ·have h2:¬r<0:=by simpa using h2
   exact rL (r,-1,j'+1) ⟨by dsimp only;omega,hr,by dsimp only;omega,by dsimp only;omega,.inr ⟨by dsimp only;omega,by dsimp only;omega⟩⟩ λ _ _=>rfl
  ·have h2:¬r<0:=by simpa using h2
   refine rC (by simp;omega) (rD (count _ (by omega)) λ r2 hr2=>rB (λ _=>bad) λ h4=> ?_)
   have h4:¬r2<r:=by simpa using h4
   exact rL (r,r2,j'+1) ⟨by dsimp only;omega,hr,by dsimp only;omega,hr2,.inr ⟨by dsimp only;omega,by dsimp only;omega⟩⟩ λ _ _=>rfl
abbrev BrD:=(List UInt8×Int×Bool×Int)×List Bool
abbrev BrO:=List Bool⊕(Int×List Bool)
abbrev BrK(R:Type):=(BrD->Option R)×((List Bool->Option R)×((Int×List Bool)->Option R))
structure Q8(s:List UInt8)(ng:Bool)(st i0 i:Int)(S:BrD⊕BrO->Prop):Prop where
 go:∀i' l,i<i'->i'<=s.length->l.length=256->S (.inl ((s,i',ng,st),l))
 ret:∀v l,l.length=256->(v=-1\/(i0<v/\v<=s.length))->S (.inr (.inr (v,l)))
section
variable{s:List UInt8}{N:Nat}{i i0 st q:Int}{ng:Bool}{l:List Bool}{S:BrD⊕BrO->Prop}
theorem Avt(hN:1000<N){x:Int}(a:List UInt8)(b:Int)(c:Bool)(d:Int)(lo:Int)(h0:0<=lo)(hx:x<=255)(hl:l.length=256):Ret (λ R k=>F.tn (R:=R) N N ((a,b,c,d,x,lo),l) k) (λ o=>o.1=(a,b,c,d)/\o.2.length=256):=by
 refine rO (s:=λ R=>F.ct (R:=R) N) (λ y:(List UInt8×Int×Bool×Int×Int×Int)×List Bool=>y.1.1=a/\y.1.2.1=b/\y.1.2.2.1=c/\y.1.2.2.2.1=d/\y.1.2.2.2.2.1=x/\0<=y.1.2.2.2.2.2/\y.2.length=256) (λ y=>(256-y.1.2.2.2.2.2).toNat) ?_ N _ ⟨rfl,rfl,rfl,rfl,rfl,h0,hl⟩ (by dsimp only;omega)
 rintro⟨⟨a',b',c',d',x',j⟩,l⟩ ⟨g1,g2,g3,g4,g5,j0,hl⟩
 dsimp only at g1 g2 g3 g4 g5 j0 hl
 subst g1 g2 g3 g4 g5
 simp only[F.ct]
 refine rB (λ h=> ?_) λ _=>rL (.inr ((a',b',c',d'),l)) ⟨rfl,hl⟩ λ _ _=>rfl
 have h:j<=x':=by simpa using h
 rw[Af (n:=j+1) (by omega) (by omega)]
 exact rC (Ae j0 (by omega)) (rL (.inl _) ⟨⟨rfl,rfl,rfl,rfl,rfl,by dsimp only;omega,by simp only[zC];exact hl⟩,by dsimp only;omega⟩ λ _ _=>rfl)
theorem Af9(hN:1000<N){j lo hi:Int}(hs:s.length<=1000000)(good:Q8 s ng st i0 i S)(i1:0<=i)(hj:i<=j)(hj2:j<s.length)(h0:0<=lo)(hx:hi<=255)(hl:l.length=256):
  RetK (K:=BrK) (aS Db) (λ R k=>jn (F.eo (R:=R) N k.1 (k.2.1,k.2.2)) ((s,j,ng,st,lo,hi),l)) S:=by
 simp only[jn,F.eo]
 refine rD (Avt hN _ _ _ _ _ h0 hx hl) ?_
 rintro⟨⟨a,b,c,d⟩,l2⟩ ⟨g,hl2⟩
 dsimp only at g hl2⊢
 obtain⟨rfl,rfl,rfl,rfl⟩:=by simpa only[zB] using g
 rw[Af (n:=b+1) (by omega) (by omega)]
 exact rL (.inl _) (good.go _ _ (by omega) (by omega) hl2) λ _ _=>rfl
theorem Aef(hN:1000<N){lo hi:Int}(hs:s.length<=1000000)(good:Q8 s ng st i0 i S)(i1:0<=i)(i2:i<s.length)(h0:0<=lo)(hx:hi<=255)(hl:l.length=256)(q1:q<=255)(b:Bool)(hb:b=true->i+2<s.length):
  RetK (K:=BrK) (aS Db) (λ R k=>jn (F.gn (R:=R) N k.1 (k.2.1,k.2.2)) ((s,i,ng,st,lo,hi,q,b),l)) S:=by
 simp only[jn,F.gn]
 rw[Af (n:=i+3) (by omega) (by omega),Af (n:=i+2) (by omega) (by omega)]
 have bad:RetK (K:=BrK) (aS Db) (λ R k=>k.2.2 (-1,l)) S:=rL (.inr (.inr (-1,l))) (good.ret _ _ hl (.inl rfl)) λ _ _=>rfl
 refine rB (λ h=> ?_) λ _=>Af9 hN hs good i1 (by omega) i2 h0 hx hl
 have h2:=hb h
 have J:=Af9 (hi:=q) hN hs good i1 (j:=i+2) (by omega) h2 h0 q1 hl
 refine rD (Ace _ _ hs) λ r _=> ?_
 exact rB (λ _=>rB (λ _=>bad) λ _=>rB (λ _=>bad) λ _=>rB (λ _=>bad) λ _=>rB (λ _=>bad) λ _=>J) λ _=>rB (λ _=>bad) λ _=>J
theorem Axl(hN:2000000<N)(hs:s.length<=1000000){j:Int}(j0:0<=j)(j1:j<=s.length)(i:Int)(ng:Bool)(st:Int)(hl:l.length=256):Ret (λ R k=>F.ue (R:=R) N N ((s,i,ng,st,j),l) k) (λ o=>o.1.1=s/\o.1.2.1=i/\o.1.2.2.1=ng/\o.1.2.2.2.1=st/\j<=o.1.2.2.2.2/\o.1.2.2.2.2<=s.length/\o.2.length=256):=by
 refine rO (s:=λ R=>F.eg (R:=R) N) (λ y:(List UInt8×Int×Bool×Int×Int)×List Bool=>y.1.1=s/\y.1.2.1=i/\y.1.2.2.1=ng/\y.1.2.2.2.1=st/\j<=y.1.2.2.2.2/\y.1.2.2.2.2<=s.length/\y.2.length=256) (λ y=>((s.length:Int)-y.1.2.2.2.2).toNat) ?_ N _ ⟨rfl,rfl,rfl,rfl,by simp,j1,hl⟩ (by dsimp only;omega)
 rintro⟨⟨a,b,c,d,e⟩,l⟩ ⟨g1,g2,g3,g4,e0,e1,hl⟩
 dsimp only at g1 g2 g3 g4 e0 e1 hl
 subst g1 g2 g3 g4
 simp only[F.eg]
 rw[Af (n:=e+1) (by omega) (by omega)]
 refine rB (λ h=> ?_) λ _=>rL (.inr ((a,b,c,d,e),l)) ⟨rfl,rfl,rfl,rfl,e0,e1,hl⟩ λ _ _=>rfl
 have h:e+1<a.length:=by simpa using h
 exact rC (Ae (by omega) (by omega)) (rB (λ _=>rC (Ae (by omega) h) (rB (λ _=>rL (.inl _) ⟨⟨rfl,rfl,rfl,rfl,by dsimp only;omega,by dsimp only;omega,hl⟩,by dsimp only;omega⟩ λ _ _=>rfl) λ _=>rL (.inr ((a,b,c,d,e),l)) ⟨rfl,rfl,rfl,rfl,e0,e1,hl⟩ λ _ _=>rfl)) λ _=>rL (.inl _) ⟨⟨rfl,rfl,rfl,rfl,by dsimp only;omega,by dsimp only;omega,hl⟩,by dsimp only;omega⟩ λ _ _=>rfl)
theorem Axm(hN:2000000<N)(a:List UInt8)(b:Bool)(c d:Int)(e:List UInt8)(x:List (List UInt8))(hx:x.length<=100)(hl:l.length=256):Ret (λ R k=>F.uf (R:=R) N N ((a,b,c,d,e,false,(x.length:Int),0),l,x) k) (λ o=>o.1.1=a/\o.1.2.1=b/\o.1.2.2.1=c/\o.1.2.2.2.1=d/\o.1.2.2.2.2.1=e/\o.2=l):=by
 refine rO (s:=λ R=>F.eh (R:=R) N) (λ y:(List UInt8×Bool×Int×Int×List UInt8×Bool×Int×Int)×List Bool×List (List UInt8)=>y.1.1=a/\y.1.2.1=b/\y.1.2.2.1=c/\y.1.2.2.2.1=d/\y.1.2.2.2.2.1=e/\y.1.2.2.2.2.2.2.1=(x.length:Int)/\0<=y.1.2.2.2.2.2.2.2/\y.1.2.2.2.2.2.2.2<=x.length/\y.2.1=l/\y.2.2=x) (λ y=>((x.length:Int)-y.1.2.2.2.2.2.2.2).toNat) ?_ N _ ⟨rfl,rfl,rfl,rfl,rfl,rfl,by simp,by simp,rfl,rfl⟩ (by dsimp only;omega)
 rintro⟨⟨a,b,c,d,e,f,n,j⟩,l,x⟩ ⟨g1,g2,g3,g4,g5,g6,j0,j1,g7,g8⟩
 dsimp only at g1 g2 g3 g4 g5 g6 j0 j1 g7 g8
 subst g1 g2 g3 g4 g5 g6 g7 g8
 simp only[F.eh]
 refine rB (λ h=> ?_) λ _=>rL (.inr ((a,b,c,d,e,f),l)) ⟨rfl,rfl,rfl,rfl,rfl,rfl⟩ λ _ _=>rfl
 have h:j<x.length:=by simpa using h
 rw[Af (n:=j+1) (by omega) (by omega)]
 exact rC (Ae j0 h) (rB (λ _=>rL (.inl _) ⟨⟨rfl,rfl,rfl,rfl,rfl,rfl,by dsimp only;omega,by dsimp only;omega,rfl,rfl⟩,by dsimp only;omega⟩ λ _ _=>rfl) λ _=>rL (.inl _) ⟨⟨rfl,rfl,rfl,rfl,rfl,rfl,by dsimp only;omega,by dsimp only;omega,rfl,rfl⟩,by dsimp only;omega⟩ λ _ _=>rfl)
theorem Axn(hN:2000000<N)(a:List UInt8)(b:Bool)(c d:Int)(e:List UInt8)(hl:l.length=256):Ret (λ R k=>F.ug (R:=R) N N ((a,b,c,d,e,0),l) k) (λ o=>o.1=(a,b,c,d)/\o.2.length=256):=by
 refine rO (s:=λ R=>F.ej (R:=R) N) (λ y:(List UInt8×Bool×Int×Int×List UInt8×Int)×List Bool=>y.1.1=a/\y.1.2.1=b/\y.1.2.2.1=c/\y.1.2.2.2.1=d/\0<=y.1.2.2.2.2.2/\y.2.length=256) (λ y=>(256-y.1.2.2.2.2.2).toNat) ?_ N _ ⟨rfl,rfl,rfl,rfl,by simp,hl⟩ (by dsimp only;omega)
 rintro⟨⟨a,b,c,d,e,j⟩,l⟩ ⟨g1,g2,g3,g4,j0,hl⟩
 dsimp only at g1 g2 g3 g4 j0 hl
 subst g1 g2 g3 g4
 simp only[F.ej]
 refine rB (λ h=> ?_) λ _=>rL (.inr ((a,b,c,d),l)) ⟨rfl,hl⟩ λ _ _=>rfl
 have h:j<256:=by simpa using h
 rw[Af (n:=j+1) (by omega) (by omega)]
 refine rD (Arb _ _) λ r _=> ?_
 exact rB (λ _=>rC (Ae j0 (by omega)) (rL (.inl _) ⟨⟨rfl,rfl,rfl,rfl,by dsimp only;omega,by simp only[zC];exact hl⟩,by dsimp only;omega⟩ λ _ _=>rfl)) λ _=>rL (.inl _) ⟨⟨rfl,rfl,rfl,rfl,by dsimp only;omega,hl⟩,by dsimp only;omega⟩ λ _ _=>rfl
theorem Axk(hN:2000000<N)(a:Int)(hl:l.length=256):Ret (λ R k=>F.ud (R:=R) N N ((a,0),l) k) (λ o=>o.1=a/\o.2.length=256):=by
 refine rO (s:=λ R=>F.ef (R:=R) N) (λ y:(Int×Int)×List Bool=>y.1.1=a/\0<=y.1.2/\y.2.length=256) (λ y=>(256-y.1.2).toNat) ?_ N _ ⟨rfl,by simp,hl⟩ (by dsimp only;omega)
 rintro⟨⟨a,j⟩,l⟩ ⟨g1,j0,hl⟩
 dsimp only at g1 j0 hl
 subst g1
 simp only[F.ef]
 refine rB (λ h=> ?_) λ _=>rL (.inr (a,l)) ⟨rfl,hl⟩ λ _ _=>rfl
 have h:j<256:=by simpa using h
 rw[Af (n:=j+1) (by omega) (by omega)]
 exact rC (Ae j0 (by omega)) (rC (Ae j0 (by omega)) (rL (.inl _) ⟨⟨rfl,by dsimp only;omega,by simp only[zC];exact hl⟩,by dsimp only;omega⟩ λ _ _=>rfl))
theorem Aj5(hN:2000000<N)(hs:s.length<=1000000)(good:Q8 s ng st i0 i S)(i1:0<=i)(i2:i<s.length)(hl:l.length=256)(b:Bool)(hb:b=true->i+1<s.length):
  RetK (K:=BrK) (aS Db) (λ R k=>jn (F.mg (R:=R) N k.1 (k.2.1,k.2.2)) ((s,i,ng,st,q,b),l)) S:=by
 simp only[jn,F.mg]
 have hby:=Gj s i
 refine rB (λ h=> ?_) λ _=> ?_
 ·have h2:=hb h
  rw[Af (n:=i+2) (by omega) (by omega)]
  refine rD (Axl hN hs (by omega) (by omega) i ng st hl) ?_
  rintro⟨⟨a,b,c,d,e⟩,l2⟩ ⟨g1,g2,g3,g4,e0,e1,hl2⟩
  dsimp only at g1 g2 g3 g4 e0 e1 hl2⊢
  subst g1 g2 g3 g4
  refine rB (λ _=>rL (.inr (.inr (-1,l2))) (good.ret _ _ hl2 (.inl rfl)) λ _ _=>rfl) λ h3=> ?_
  have h3:¬(a.length:Int)<=Aa .i64 (e+1):=by simpa using h3
  rw[Af (n:=e+1) (by omega) (by omega)] at h3
  rw[Af (n:=b+2) (by omega) (by omega)]
  refine rC (by simp;omega) (rC (by simp;omega) ?_)
  simp only[F.qz]
  refine rD (Axm hN _ _ _ _ _ [[97,108,112,104,97],[100,105,103,105,116],[97,108,110,117,109],[117,112,112,101,114],[108,111,119,101,114],[115,112,97,99,101],[98,108,97,110,107],[112,117,110,99,116],[120,100,105,103,105,116]] (by simp) hl2) ?_
  rintro⟨⟨a',b',c',d',e',f'⟩,l3⟩ ⟨g1,g2,g3,g4,g5,g6⟩
  dsimp only at g1 g2 g3 g4 g5 g6⊢
  subst g1 g2 g3 g4 g5 g6
  refine rB (λ _=>rL (.inr (.inr (-1,l3))) (good.ret _ _ hl2 (.inl rfl)) λ _ _=>rfl) λ _=>rD (Axn hN _ _ _ _ _ hl2) ?_
  rintro⟨⟨a'',b'',c'',d''⟩,l4⟩ ⟨g,hl4⟩
  dsimp only at g hl4⊢
  obtain⟨rfl,rfl,rfl,rfl⟩:=by simpa only[zB] using g
  rw[Af (n:=d''+2) (by omega) (by omega)]
  exact rL (.inl _) (good.go _ _ (by omega) (by omega) hl4) λ _ _=>rfl
 ·rw[Af (n:=i+2) (by omega) (by omega),Af (n:=Aq s i) (by omega) (by omega)]
  refine rC (Ae i1 i2) (rD (Ace _ _ hs) λ r hr=> ?_)
  refine rB (λ _=>rB (λ h=>Aef (by omega) hs good i1 i2 hby.1 hby.2 hl hr.2.1 _ λ _=>(hr.2.2 (by simpa using h)).2) λ _=>Aef (by omega) hs good i1 i2 hby.1 hby.2 hl hr.2.1 false λ h=>by cases h) λ _=>Aef (by omega) hs good i1 i2 hby.1 hby.2 hl hr.2.1 false λ h=>by cases h
theorem Aee(hN:2000000<N)(hs:s.length<=1000000)(good:Q8 s ng st i0 i S)(i1:0<=i)(i2:i<s.length)(hl:l.length=256)(hq:0<=q->i+1<s.length)(b:Bool):
  RetK (K:=BrK) (aS Db) (λ R k=>jn (F.gp (R:=R) N k.1 (k.2.1,k.2.2)) ((s,i,ng,st,q,b),l)) S:=by
 simp only[jn,F.gp]
 refine rB (λ _=>rL (.inr (.inr (-1,l))) (good.ret _ _ hl (.inl rfl)) λ _ _=>rfl) λ _=>rC (Ae i1 i2) (rB (λ _=>Aj5 hN hs good i1 i2 hl _ λ h=> ?_) λ _=>Aj5 hN hs good i1 i2 hl false λ h=>by cases h)
 have h:q=58:=by simpa using h
 exact hq (by omega)
theorem Aj4(hN:2000000<N)(hs:s.length<=1000000)(good:Q8 s ng st i0 i S)(i1:0<=i)(hi:i0<i)(i2:i<s.length)(hl:l.length=256)(b:Bool):
  RetK (K:=BrK) (aS Db) (λ R k=>jn (F.mh (R:=R) N k.1 (k.2.1,k.2.2)) ((s,i,ng,st,b),l)) S:=by
 simp only[jn,F.mh]
 rw[Af (n:=i+1) (by omega) (by omega)]
 refine rB (λ _=>rB (λ _=>rD (Axk hN _ hl) ?_) λ _=>rL (.inr (.inr (i+1,l))) (good.ret _ _ hl (.inr ⟨by omega,by omega⟩)) λ _ _=>rfl) λ _=> ?_
 ·rintro⟨a,l2⟩ ⟨g,hl2⟩
  dsimp only at g hl2⊢
  subst g
  rw[Af (n:=a+1) (by omega) (by omega)]
  exact rL (.inr (.inr (a+1,l2))) (good.ret _ _ hl2 (.inr ⟨by omega,by omega⟩)) λ _ _=>rfl
 ·refine rD (Ace _ _ hs) λ r hr=>rC (Ae i1 i2) ?_
  have hq:0<=r->i+1<s.length:=λ h=>(hr.2.2 h).2
  exact rB (λ _=>rB (λ _=>Aee hN hs good i1 i2 hl hq _) λ _=>Aee hN hs good i1 i2 hl hq _) λ _=>Aee hN hs good i1 i2 hl hq _
theorem Asw(hN:2000000<N)(hs:s.length<=1000000)(h0:0<=i0)(hi:i0<i)(i2:i<=s.length)(hl:l.length=256):Aqi (λ R k=>F.ra (R:=R) N N ((s,i,ng,st),l) k) (λ o=>match o with|.inl o=>o.length=256|.inr o=>o.2.length=256/\(o.1=-1\/(i0<o.1/\o.1<=s.length))):=by
  refine rO (s:=λ R=>F.er (R:=R) N) (λ y:BrD=>y.1.1=s/\i0<y.1.2.1/\y.1.2.1<=s.length/\y.1.2.2.1=ng/\y.1.2.2.2=st/\y.2.length=256) (λ y=>((s.length:Int)-y.1.2.1).toNat) ?_ N _ ⟨rfl,hi,i2,rfl,rfl,hl⟩ (by dsimp only;omega)
  rintro⟨⟨a,j,b,c⟩,l⟩ ⟨g1,j0,j1,g2,g3,hl⟩
  dsimp only at g1 j0 j1 g2 g3 hl
  subst g1 g2 g3
  simp only[F.er]
  refine rB (λ h=> ?_) λ _=>rL (.inr (.inl l)) hl λ _ _=>rfl
  have h:j<a.length:=by simpa using h
  have good:Q8 a b c i0 j (Sm (λ y:BrD=>y.1.1=a/\i0<y.1.2.1/\y.1.2.1<=a.length/\y.1.2.2.1=b/\y.1.2.2.2=c/\y.2.length=256) (λ y=>((a.length:Int)-y.1.2.1).toNat) ((a,j,b,c),l) (λ o:BrO=>match o with|.inl o=>o.length=256|.inr o=>o.2.length=256/\(o.1=-1\/(i0<o.1/\o.1<=a.length)))):=
    ⟨λ i' l' x1 x2 x3=>⟨⟨rfl,by dsimp only;omega,x2,rfl,rfl,x3⟩,by dsimp only;omega⟩,λ v l' x1 x2=>⟨x1,x2⟩⟩
  exact rC (Ae (by omega) h) (rB (λ _=>Aj4 hN hs good (by omega) j0 h hl _) λ _=>Aj4 hN hs good (by omega) j0 h hl _)
end
theorem Aqn(s:List UInt8){i:Int}{N:Nat}(hs:s.length<=1000000)(hN:2000000<N)(i0:0<=i)(i1:i<s.length):Ret (λ R k=>F.br (R:=R) N (s,i) k) (λ o=>o.2.length=256/\(o.1=-1\/(i<o.1/\o.1<=s.length))):=by
 simp only[F.br]
 rw[Af (n:=i+1) (by omega) (by omega),Af (n:=i+1+1) (by omega) (by omega)]
 refine rC (by decide) (rC (by decide) (rD (Ace _ _ hs) λ r hr=>rB (λ h=> ?_) λ _=> ?_))
 ·have h:r=94:=by simpa using h
  have:=(hr.2.2 (by omega)).2
  refine rD (Asw hN hs i0 (by omega) (by omega) zI) ?_
  rintro(l|⟨v,l⟩) hl
  ·exact rL (-1,l) ⟨hl,.inl rfl⟩ λ _ _=>rfl
  ·exact rL (v,l) hl λ _ _=>rfl
 ·refine rD (Asw hN hs i0 (by omega) (by omega) zI) ?_
  rintro(l|⟨v,l⟩) hl
  ·exact rL (-1,l) ⟨hl,.inl rfl⟩ λ _ _=>rfl
  ·exact rL (v,l) hl λ _ _=>rfl
abbrev Tok:=Int×Int×List Bool×Int×Int
structure H7(t:Tok):Prop where
 set:t.1=97->t.2.2.1.length=256
 a0:-1<=t.2.2.2.1
 a1:t.2.2.2.1<=1000001
 b0:-1<=t.2.2.2.2
 b1:t.2.2.2.2<=1000001
 kd:t.1=97\/t.1=40\/t.1=41\/t.1=124\/t.1=114\/t.1=94\/t.1=36
 gr:t.1=40->0<=t.2.2.2.1
abbrev Ajo:=(List UInt8×Int×Int)×List Tok
abbrev Avk:=List Tok⊕((Int×Int)×List Tok)
abbrev Avj(R:Type):=(Ajo->Option R)×((List Tok->Option R)×(((Int×Int)×List Tok)->Option R))
structure Y5(s:List UInt8)(d i:Int)(ts:List Tok)(S:Ajo⊕Avk->Prop):Prop where
 go:∀d' i' t,0<=d'->d'<=d+1->i<i'->i'<=s.length->H7 t->S (.inl ((s,d',i'),ts++[t]))
 ret:∀v,0<=v->v<=10->S (.inr (.inr ((v,i),ts)))
theorem Ail(x:Int){N:Nat}(hN:1000<N):Ret (λ R k=>F.bf (R:=R) N x k) (λ o=>o=true->0<=x):=by
  simp only[F.bf]
  generalize hl:([92,94,46,91,93,36,40,41,124,42,43,63,123,125]:List UInt8)=l
  have hn:l.length=14:=by rw[<-hl];rfl
  have:=rO (s:=λ R=>F.bu (R:=R) N) (app:=Db) (P:=λ o:Unit⊕Bool=>match o with|.inl _=>True|.inr b=>b=true->0<=x) (λ y:Int×List UInt8×Int=>y.1=x/\y.2.1=l/\0<=y.2.2) (λ y=>(14-y.2.2).toNat) (λ y hy=>by
    obtain⟨x',l',i⟩:=y
    obtain⟨g1,g2,i0⟩:=hy
    dsimp only at g1 g2 i0
    subst g1 g2
    have hb:=Gj l' i
    simp only[F.bu]
    refine rB (λ h=> ?_) λ _=>rL (.inr (.inl ())) trivial λ _ _=>rfl
    have h:i<l'.length:=by simpa using h
    rw[Af (n:=Aq l' i) (by omega) (by omega),Af (n:=i+1) (by omega) (by omega)]
    refine rC (Ae i0 h) (rB (λ hq=>rL (.inr (.inr true)) (λ _=> ?_) λ _ _=>rfl) λ _=>rL (.inl _) ⟨⟨rfl,rfl,by dsimp only;omega⟩,by dsimp only;omega⟩ λ _ _=>rfl)
    have hq:Aq l' i=x':=by simpa using hq
    omega) N (x,l,0) ⟨rfl,rfl,by simp⟩ (by dsimp only;omega)
  refine rD this ?_
  rintro(_|b) h
  · exact rL false (λ h=>by cases h) λ _ _=>rfl
  · exact rL b h λ _ _=>rfl
section
variable{s:List UInt8}{N:Nat}{i d:Int}{ts:List Tok}{S:Ajo⊕Avk->Prop}
theorem Ih(good:Y5 s d i ts S)(hts:ts.length<=1000000){d' i' k a b:Int}{p:Int}{set:List Bool}(d0:0<=d')(d1:d'<=d+1)(h1:i<i')(h2:i'<=s.length)(ht:H7 (k,p,set,a,b)):
  RetK (K:=Avj) (aS Db) (λ R k0=>jn (F.ae (R:=R) N k0.1 (k0.2.1,k0.2.2)) ((s,d',i'),ts,(k,p,a,b),set)) S:=by
 simp only[jn,F.ae]
 exact rC (H8 (by simp only[z8,z9];omega)) (rL (.inl _) (good.go _ _ _ d0 d1 h1 h2 ht) λ _ _=>rfl)
theorem Amx(hN:2000000<N)(hs:s.length<=1000000)(good:Y5 s d i ts S)(hts:ts.length<=1000000)(i0:0<=i)(i1:i<s.length)(d0:0<=d)(d1:d<=1000000):
    RetK (K:=Avj) (aS Db) (λ R k=>
      bif(Aq s i)==40 then
       jn (F.ae (R:=R) N k.1 (k.2.1,k.2.2)) ((s,Aa .i64 (d+1),Aa .i64 (i+1)),ts,(Aq s i,i,Aa .i64 (d+1),0),([]:List Bool))
      else
       bif(Aq s i)==42 then
        jn (F.ae N k.1 (k.2.1,k.2.2)) ((s,d,Aa .i64 (i+1)),ts,(114,i,0,(-1)),([]:List Bool))
       else
        bif(Aq s i)==43 then
         jn (F.ae N k.1 (k.2.1,k.2.2)) ((s,d,Aa .i64 (i+1)),ts,(114,i,1,(-1)),([]:List Bool))
        else
         bif(Aq s i)==63 then
          jn (F.ae N k.1 (k.2.1,k.2.2)) ((s,d,Aa .i64 (i+1)),ts,(114,i,0,1),([]:List Bool))
         else
          bif(Aq s i)==123 then
           F.bo N (s,i) λ(r234,r235,r236)=>
           bif decide (r236<0) then
            k.2.2 ((4,i),ts)
           else
            jn (F.ae N k.1 (k.2.1,k.2.2)) ((s,d,r236),ts,(114,i,r234,r235),([]:List Bool))
          else
           bif(Aq s i)==91 then
            F.br N (s,i) λ(r237,r238)=>
            bif decide (r237<0) then
             k.2.2 ((3,i),ts)
            else
             jn (F.ae N k.1 (k.2.1,k.2.2)) ((s,d,r237),ts,(97,i,0,0),r238)
           else
            bif(Aq s i)==46 then
             F.aj N (0,255) λ r239=>
             jn (F.ae N k.1 (k.2.1,k.2.2)) ((s,d,Aa .i64 (i+1)),ts,(97,i,0,0),r239)
            else
             bif(Aq s i)==92 then
              F.dx (s,Aa .i64 (i+1)) λ r240=>
              F.bf N r240 λ r241=>
              bif !r241 then
               k.2.2 ((2,i),ts)
              else
               F.aj N (r240,r240) λ r242=>
               jn (F.ae N k.1 (k.2.1,k.2.2)) ((s,d,Aa .i64 (i+2)),ts,(97,i,0,0),r242)
             else
              F.aj N (Aa .i64 (Aq s i),Aa .i64 (Aq s i)) λ r243=>
              jn (F.ae N k.1 (k.2.1,k.2.2)) ((s,d,Aa .i64 (i+1)),ts,(97,i,0,0),r243)) S:=by
  have hb:=Gj s i
  rw[Af (n:=d+1) (by omega) (by omega),Af (n:=i+1) (by omega) (by omega),Af (n:=i+2) (by omega) (by omega),Af (n:=Aq s i) (by omega) (by omega)]
  have rep:∀a b:Int,-1<=a->a<=255->-1<=b->b<=255->H7 (114,i,[],a,b):=λ a b h1 h2 h3 h4=>⟨λ h=>by simp at h,h1,by dsimp only;omega,h3,by dsimp only;omega,by simp,λ h=>by simp at h⟩
  have one:∀l:List Bool,l.length=256->H7 (97,i,l,0,0):=λ l h=>⟨λ _=>h,by simp,by simp,by simp,by simp,by simp,λ h=>by simp at h⟩
  refine rB (λ h=>Ih good hts (by omega) (by omega) (by omega) (by omega) ⟨λ h2=> ?_,by dsimp only;omega,by dsimp only;omega,by simp,by simp,.inr (.inl (by simpa using h)),λ _=>by dsimp only;omega⟩) λ _=>
    rB (λ _=>Ih good hts d0 (by omega) (by omega) (by omega) (rep _ _ (by omega) (by omega) (by omega) (by omega))) λ _=>
    rB (λ _=>Ih good hts d0 (by omega) (by omega) (by omega) (rep _ _ (by omega) (by omega) (by omega) (by omega))) λ _=>
    rB (λ _=>Ih good hts d0 (by omega) (by omega) (by omega) (rep _ _ (by omega) (by omega) (by omega) (by omega))) λ _=>
    rB (λ h=>rD (Amq s hs hN i0 i1 ?_) ?_) λ _=>rB (λ _=>rD (Aqn s hs hN i0 i1) ?_) λ _=>rB (λ _=>rD (Vm (by omega) (by omega) (by omega)) λ l hl=>Ih good hts d0 (by omega) (by omega) (by omega) (one l hl)) λ _=>
    rB (λ _=>rD (Ace _ _ hs) λ r hr=>rD (Ail r (by omega)) λ b hsp=>rB (λ _=>rL (.inr (.inr _)) (good.ret 2 (by omega) (by omega)) λ _ _=>rfl) λ hb2=> ?_) λ _=>rD (Vm (by omega) hb.1 hb.2) λ l hl=>Ih good hts d0 (by omega) (by omega) (by omega) (one l hl)
  · have h:Aq s i=40:=by simpa using h
    have h2:Aq s i=97:=h2
    omega
  · have h:Aq s i=123:=by simpa using h
    omega
  · rintro⟨a,b,e⟩ ⟨q1,q2,q3,q4,q5⟩
    dsimp only at q1 q2 q3 q4 q5⊢
    refine rB (λ _=>rL (.inr (.inr _)) (good.ret 4 (by omega) (by omega)) λ _ _=>rfl) λ h=> ?_
    have h:¬e<0:=by simpa using h
    exact Ih good hts d0 (by omega) (by omega) (by omega) (rep _ _ (by omega) q2 q3 q4)
  · rintro⟨e,l⟩ ⟨q1,q2⟩
    dsimp only at q1 q2⊢
    refine rB (λ _=>rL (.inr (.inr _)) (good.ret 3 (by omega) (by omega)) λ _ _=>rfl) λ h=> ?_
    have h:¬e<0:=by simpa using h
    exact Ih good hts d0 (by omega) (by omega) (by omega) (one l q1)
  · have h:b=true:=by simpa using hb2
    have h0:=hsp h
    have:=(hr.2.2 h0).2
    exact rD (Vm (by omega) h0 hr.2.1) λ l hl=>Ih good hts d0 (by omega) (by omega) (by omega) (one l hl)
end
theorem Awg(s:List UInt8){N:Nat}(hs:s.length<=1000000)(hN:2000000<N):Aqi (λ R k=>F.xd (R:=R) N N ((s,0,0),[]) k) (λ o=>match o with|.inl o=>o.length<=s.length/\∀t∈o,H7 t|.inr o=>0<=o.1.1/\o.1.1<=10/\0<=o.1.2/\o.1.2<=s.length/\o.2.length<=s.length/\∀t∈o.2,H7 t):=by
  refine rO (s:=λ R=>F.mi (R:=R) N) (λ y:Ajo=>y.1.1=s/\0<=y.1.2.1/\y.1.2.1<=y.1.2.2/\y.1.2.2<=s.length/\(y.2.length:Int)<=y.1.2.2/\∀t∈y.2,H7 t) (λ y=>((s.length:Int)-y.1.2.2).toNat) ?_ N _ ⟨rfl,by simp,by simp,by simp,by simp,by simp⟩ (by dsimp only;omega)
  rintro⟨⟨a,d,i⟩,ts⟩ ⟨g1,d0,d1,i1,hl,ht⟩
  dsimp only at g1 d0 d1 i1 hl ht
  subst g1
  have good:Y5 a d i ts (Sm (λ y:Ajo=>y.1.1=a/\0<=y.1.2.1/\y.1.2.1<=y.1.2.2/\y.1.2.2<=a.length/\(y.2.length:Int)<=y.1.2.2/\∀t∈y.2,H7 t) (λ y=>((a.length:Int)-y.1.2.2).toNat) ((a,d,i),ts) (λ o:Avk=>match o with|.inl o=>o.length<=a.length/\∀t∈o,H7 t|.inr o=>0<=o.1.1/\o.1.1<=10/\0<=o.1.2/\o.1.2<=a.length/\o.2.length<=a.length/\∀t∈o.2,H7 t)):=
    ⟨λ d' i' t x0 x1 x2 x3 x4=>⟨⟨rfl,x0,by dsimp only;omega,x3,by simp only[zA,z8,z9];omega,λ y hy=>by
      rcases List.mem_append.1 hy with h|h
      · exact ht y h
      · cases List.mem_singleton.1 h;exact x4⟩,by dsimp only;omega⟩,λ v x0 x1=>⟨x0,x1,by dsimp only;omega,i1,by dsimp only;omega,ht⟩⟩
  simp only[F.mi]
  refine rB (λ h=> ?_) λ _=>rL (.inr (.inl ts)) ⟨by omega,ht⟩ λ _ _=>rfl
  have h:i<a.length:=by simpa using h
  have hb:=Gj a i
  have rest:=Amx (N:=N) hN hs good (by omega) (by omega) h d0 (by omega)
  have sign:(Aq a i=94\/Aq a i=36\/Aq a i=41\/Aq a i=124)->RetK (K:=Avj) (aS Db) (λ R k=>chk (zY (zW ts+zW [(Aq a i,(i,(([]:List Bool),((0:Int),(0:Int)))))]) (Ar 56))<|k.1 ((a,d,Aa .i64 (i+1)),ts++[(Aq a i,(i,(([]:List Bool),(0,0))))])) _:=λ hne=>
    rC (H8 (by simp only[z8,z9];omega)) (by
      rw[Af (n:=i+1) (by omega) (by omega)]
      exact rL (.inl _) (good.go d (i+1) _ d0 (by omega) (by omega) (by omega) ⟨λ e=>absurd (show Aq a i=97 from e) (by omega),by simp,by simp,by simp,by simp,by dsimp only;omega,λ e=>absurd (show Aq a i=40 from e) (by omega)⟩) λ _ _=>rfl)
  have ne:∀c:Int,(c=94\/c=36\/c=41\/c=124)->(Aq a i==c)=true->(Aq a i=94\/Aq a i=36\/Aq a i=41\/Aq a i=124):=λ c hc h=>by
    rw[show Aq a i=c by simpa using h];exact hc
  refine rC (Ae (by omega) h) ?_
  exact rB (λ e=>rB (λ _=>sign (ne 94 (by omega) e)) λ _=>rest) λ _=>rB (λ e=>rB (λ _=>sign (ne 36 (by omega) e)) λ _=>rest) λ _=>rB (λ e=>rB (λ _=>sign (ne 41 (by omega) e)) λ _=>rest) λ _=>rB (λ e=>sign (ne 124 (by omega) e)) λ _=>rest
theorem lex(s:List UInt8){N:Nat}(hs:s.length<=1000000)(hN:2000000<N):Ret (λ R k=>F.uv (R:=R) N s k) (λ o=>o.1.length<=s.length/\(∀t∈o.1,H7 t)/\0<=o.2.1/\o.2.1<=10/\0<=o.2.2/\o.2.2<=s.length):=by
 simp only[F.uv]
 refine rD (Awg s hs hN) ?_
 rintro(l|⟨⟨a,b⟩,l⟩) h
 ·exact rL (l,0,0) ⟨h.1,h.2,by simp,by simp,by simp,by simp⟩ λ _ _=>rfl
 ·exact rL (l,a,b) ⟨h.2.2.2.2.1,h.2.2.2.2.2,h.1,h.2.1,h.2.2.1,h.2.2.2.1⟩ λ _ _=>rfl
abbrev tk0:Tok:=((0:Int),((0:Int),(([]:List Bool),((0:Int),(0:Int)))))
def knd(ts:List Tok)(i:Int):Int:=if i<0\/(ts.length:Int)<=i then 46 else(ts.getD i.toNat tk0).1
theorem Arf(ts:List Tok)(i:Int):Ret (λ R k=>F.nt (R:=R) (ts,i) k) (λ o=>o=knd ts i):=by
 simp only[F.nt]
 refine rB (λ h=>rL 46 ?_ λ _ _=>rfl) λ h1=>rB (λ h=>rL 46 ?_ λ _ _=>rfl) λ h2=> ?_
 ·have h:i<0:=by simpa using h
  simp[knd,h]
 ·have h:(ts.length:Int)<=i:=by simpa using h
  simp[knd,h]
 ·have h1:¬i<0:=by simpa using h1
  have h2:¬(ts.length:Int)<=i:=by simpa using h2
  refine rC (Ae (by omega) (by omega)) (rL _ ?_ λ _ _=>rfl)
  rw[knd,if_neg (by omega)]
def dv(t:Tok):Int:=(if t.1=40 then 1 else 0)-(if t.1=41 then 1 else 0)
def dep:List Tok->Int
 | []=>0
 | t::r=>dv t+dep r
theorem T1:∀(a b:List Tok),dep (a++b)=dep a+dep b
 | [],b=>by simp[dep]
 | t::a,b=>by simp only[yE,dep,T1 a b];omega
theorem Ako(t:Tok):-1<=dv t/\dv t<=1:=by
 unfold dv
 split<;>split<;>omega
theorem Xg:∀(a:List Tok),-(a.length:Int)<=dep a/\dep a<=a.length
 | []=>by simp[dep]
 | t::a=>by
  have:=Xg a
  have:=Ako t
  simp only[dep,z8]
  omega
theorem Un(ts:List Tok){i:Nat}(h:i<ts.length):dep (ts.take (i+1))=dep (ts.take i)+dv (ts.getD i tk0):=by
 rw[zH h,T1]
 simp only[dep,List.getD_eq_getElem?_getD,List.getElem?_eq_getElem h,Option.getD_some]
 omega
theorem depth(ts:List Tok){n:Int}{N:Nat}(hs:ts.length<=1000000)(hN:2000000<N)(hn:n<=ts.length):Ret (λ R k=>F.gq (R:=R) N (ts,n) k) (λ o=>o=dep (ts.take n.toNat)):=by
 simp only[F.gq]
 have:=rO (s:=λ R=>F.jg (R:=R) N) (app:=λ _ d k=>k d) (P:=λ o:Int=>o=dep (ts.take n.toNat)) (λ y:List Tok×Int×Int×Int=>y.1=ts/\y.2.1=n/\0<=y.2.2.2/\(y.2.2.2<=n\/y.2.2.2=0)/\y.2.2.1=dep (ts.take y.2.2.2.toNat)) (λ y=>(n-y.2.2.2).toNat) (λ y hy=>by
  obtain⟨ts',n',a,i⟩:=y
  obtain⟨g1,g2,i0,i1,ha⟩:=hy
  dsimp only at g1 g2 i0 i1 ha
  subst g1 g2
  simp only[F.jg]
  refine rB (λ h=> ?_) λ h=>rL (.inr a) ?_ λ _ _=>rfl
  ·have h:i<n':=by simpa using h
   have hr:=Xg (ts'.take i.toNat)
   simp only[zD] at hr
   have e:=Un ts' (i:=i.toNat) (by omega)
   rw[show i.toNat+1=(i+1).toNat by omega,<-ha] at e
   rw[<-ha] at hr
   have j35:∀a',a'-(if(ts'.getD i.toNat tk0).1=41 then 1 else 0)=dep (ts'.take (i+1).toNat)->-2000000<=a'->a'<=2000000->RetK (K:=λ R=>((List Tok×Int×Int×Int)->Option R)×(Int->Option R)) (aS λ _ d k=>k d) (λ R k=>jn (F.pc (R:=R) N k.1 k.2) (ts',n',a',i)) (Sm (λ y:List Tok×Int×Int×Int=>y.1=ts'/\y.2.1=n'/\0<=y.2.2.2/\(y.2.2.2<=n'\/y.2.2.2=0)/\y.2.2.1=dep (ts'.take y.2.2.2.toNat)) (λ y=>(n'-y.2.2.2).toNat) (ts',n',a,i) (λ o:Int=>o=dep (ts'.take n'.toNat))):=by
    intro a' q b0 b1
    simp only[jn,F.pc]
    rw[Af (n:=i+1) (by omega) (by omega),Af (n:=a'-1) (by omega) (by omega)]
    refine rC (Ae i0 (by omega)) (rB (λ h4=>rL (.inl _) ⟨⟨rfl,rfl,by dsimp only;omega,.inl (by dsimp only;omega), ?_⟩,by dsimp only;omega⟩ λ _ _=>rfl) λ h4=>rL (.inl _) ⟨⟨rfl,rfl,by dsimp only;omega,.inl (by dsimp only;omega), ?_⟩,by dsimp only;omega⟩ λ _ _=>rfl)
    ·have h4:(ts'.getD i.toNat tk0).1=41:=beq_iff_eq.1 h4
     rw[if_pos h4] at q
     exact q
    ·have h4:¬(ts'.getD i.toNat tk0).1=41:=beq_eq_false_iff_ne.1 h4
     rw[if_neg h4] at q
     dsimp only
     omega
   refine rC (Ae i0 (by omega)) (rB (λ h4=> ?_) λ h4=> ?_)
   ·have h4:(ts'.getD i.toNat tk0).1=40:=beq_iff_eq.1 h4
    rw[Af (n:=a+1) (by omega) (by omega)]
    refine j35 _ ?_ (by omega) (by omega)
    rw[e,dv,if_pos h4]
    omega
   ·have h4:¬(ts'.getD i.toNat tk0).1=40:=beq_eq_false_iff_ne.1 h4
    refine j35 _ ?_ (by omega) (by omega)
    rw[e,dv,if_neg h4]
    omega
  ·have h:¬i<n':=by simpa using h
   exact show a=dep (ts'.take n'.toNat) by rw[ha,show i.toNat=n'.toNat by omega]) N (ts,n,0,0) ⟨rfl,rfl,by simp,.inr rfl,by simp[dep]⟩ (by dsimp only;omega)
 exact rD this λ o ho=>rL o ho λ _ _=>rfl
structure NoF(ts:List Tok)(i:Int):Prop where
 cl:knd ts i=41->dep (ts.take i.toNat)≠0
 bar:knd ts i=124->i≠0/\knd ts (i-1)≠40/\knd ts (i-1)≠124/\knd ts (i-1)≠94
 rep:knd ts i=114->knd ts (i-1)=97\/knd ts (i-1)=41
 bol:knd ts i=94->dep (ts.take i.toNat)=0/\(i=0\/knd ts (i-1)=124)
 eol:knd ts i=36->dep (ts.take i.toNat)=0/\(i+1=ts.length\/knd ts (i+1)=124)/\i≠0/\knd ts (i-1)≠40/\knd ts (i-1)≠124/\knd ts (i-1)≠94
theorem P6(ts:List Tok){i:Int}{N:Nat}(hs:ts.length<=1000000)(i0:0<=i)(i1:i<ts.length)(e:Bool)(he:e=false->i≠0/\knd ts (i-1)≠40/\knd ts (i-1)≠124/\knd ts (i-1)≠94):Ret (λ R k=>jn (F.jb (R:=R) N k) (ts,i,knd ts (i-1),knd ts (i+1),dep (ts.take i.toNat),e)) (λ o=>0<=o/\o<=9/\(o=0->NoF ts i)):=by
 have hk:(ts.getD i.toNat zr5).1=knd ts i:=by rw[knd,if_neg (by omega)]
 simp only[jn,F.jb,hk]
 rw[Af (n:=i+1) (by omega) (by omega)]
 have bad:∀v:Int,1<=v->v<=9->0<=v/\v<=9/\(v=0->NoF ts i):=λ v h0 h1=>⟨by omega,h1,λ h=>by omega⟩
 refine rC (Ae i0 i1) ?_
 repeat' first
  | exact rL _ (bad _ (by decide) (by decide)) λ _ _=>rfl
  | refine rL _ ⟨by decide,by decide,λ _=> ?_⟩ λ _ _=>rfl
  | refine rC (Ae i0 i1) ?_
  | refine rB (λ _=> ?_) λ _=> ?_
 all_goals simp_all
 all_goals constructor<;>simp_all<;>omega
theorem Axp(ts:List Tok){i:Int}{N:Nat}(hs:ts.length<=1000000)(hN:2000000<N)(i0:0<=i)(i1:i<ts.length):Ret (λ R k=>F.sa (R:=R) N (ts,i) k) (λ o=>0<=o/\o<=9/\(o=0->NoF ts i)):=by
 simp only[F.sa]
 rw[Af (n:=i-1) (by omega) (by omega),Af (n:=i+1) (by omega) (by omega)]
 refine rD (Arf _ _) ?_
 rintro _ rfl
 refine rD (Arf _ _) ?_
 rintro _ rfl
 refine rD (depth ts hs hN (by omega)) ?_
 rintro _ rfl
 refine rB (λ _=>P6 ts hs i0 i1 _ (λ h=>by cases h)) λ h1=>rB (λ _=>P6 ts hs i0 i1 _ (λ h=>by cases h)) λ h2=>rB (λ _=>P6 ts hs i0 i1 _ (λ h=>by cases h)) λ h3=>P6 ts hs i0 i1 _ λ h4=> ?_
 exact⟨by simpa using h1,by simpa using h2,by simpa using h3,by simpa using h4⟩
def W5(l:List (Int×Int)):Prop:=∀r∈l,0<=r.1/\r.1<=255/\0<=r.2/\r.2<=255
abbrev RgD:=(List Bool×Int)×List (Int×Int)
def rgI(s:List Bool)(y:RgD):Prop:=y.1.1=s/\0<=y.1.2/\y.1.2<=256/\(y.2.length:Int)<=y.1.2/\W5 y.2/\(0<y.1.2->s.getD (y.1.2-1).toNat false=true->1<=y.2.length)
theorem Aws(s:List Bool){N:Nat}(hs:s.length=256)(hN:1000<N):Ret (λ R k=>F.ri (R:=R) N s k) (λ o=>o.length<=256/\W5 o):=by
 simp only[F.ri]
 have:=rO (s:=λ R=>F.gt (R:=R) N) (app:=λ _ d k=>k d) (P:=λ o:List (Int×Int)=>o.length<=256/\W5 o) (rgI s) (λ y=>(256-y.1.2).toNat) (λ y hy=>by
  obtain⟨⟨s',i⟩,l⟩:=y
  obtain⟨g1,i0,i1,hl,hr,hp⟩:=hy
  dsimp only at g1 i0 i1 hl hr hp
  subst g1
  simp only[F.gt]
  refine rB (λ h=> ?_) λ h=>rL (.inr l) ⟨by omega,hr⟩ λ _ _=>rfl
  have h:i<256:=by simpa using h
  have good:∀l',(l'.length:Int)<=i+1->W5 l'->(s'.getD i.toNat false=true->1<=l'.length)->Sm (rgI s') (λ y=>(256-y.1.2).toNat) ((s',i),l) (λ o:List (Int×Int)=>o.length<=256/\W5 o) (.inl ((s',i+1),l')):=by
   intro l' x1 x2 x3
   exact⟨⟨rfl,by dsimp only;omega,by dsimp only;omega,x1,x2,λ _ hq=>x3 (by rw[show(i+1-1).toNat=i.toNat by omega] at hq;exact hq)⟩,by dsimp only;omega⟩
  have j12:∀b,(b=true->1<=l.length)->RetK (K:=λ R=>(RgD->Option R)×((List (Int×Int))->Option R)) (aS λ _ d k=>k d) (λ R k=>jn (F.nu (R:=R) N k.1 k.2) ((s',i,b),l)) (Sm (rgI s') (λ y=>(256-y.1.2).toNat) ((s',i),l) (λ o:List (Int×Int)=>o.length<=256/\W5 o)):=by
   intro b hb
   simp only[jn,F.nu]
   rw[Af (n:=i+1) (by omega) (by omega),Af (n:=(l.length:Int)-1) (by omega) (by omega)]
   refine rB (λ h2=> ?_) λ _=> ?_
   ·have h2:=hb h2
    refine rC (Ae (by omega) (by omega)) (rL (.inl _) (good _ (by simp only[zC];omega) (λ r hr2=> ?_) λ _=>by simp only[zC];exact h2) λ _ _=>rfl)
    rcases List.mem_or_eq_of_mem_set hr2 with h3|h3
    ·exact hr r h3
    ·rw[h3]
     have hq:((l.length:Int)-1).toNat<l.length:=by omega
     have hm:=hr _ (zF hq)
     refine⟨?_, ?_,by dsimp only;omega,by dsimp only;omega⟩
     ·dsimp only
      rw[List.getD_eq_getElem?_getD,List.getElem?_eq_getElem hq]
      exact hm.1
     ·dsimp only
      rw[List.getD_eq_getElem?_getD,List.getElem?_eq_getElem hq]
      exact hm.2.1
   ·refine rC (by rw[zN];simp only[Ar,z8,z9];omega) (rL (.inl _) (good _ (by simp only[zA,z8,z9];omega) (λ r hr2=> ?_) λ _=>by simp only[zA,z8,z9];omega) λ _ _=>rfl)
    rcases List.mem_append.1 hr2 with h3|h3
    ·exact hr r h3
    ·cases List.mem_singleton.1 h3
     exact⟨by dsimp only;omega,by dsimp only;omega,by dsimp only;omega,by dsimp only;omega⟩
  refine rC (Ae i0 (by omega)) (rB (λ hb=> ?_) λ hb=> ?_)
  ·rw[Af (n:=i+1) (by omega) (by omega)]
   have hb:s'.getD i.toNat false=false:=by simpa using hb
   exact rL (.inl _) (good l (by omega) hr (λ e=>by rw[hb] at e;cases e)) λ _ _=>rfl
  ·rw[Af (n:=i-1) (by omega) (by omega)]
   exact rB (λ h2=>rC (Ae (by have:0<i:=(by simpa using h2);omega) (by omega)) (j12 _ (hp (by simpa using h2)))) λ _=>j12 false (λ e=>by cases e)) N ((s,0),[]) ⟨rfl,by simp,by simp,by simp,(λ _ h=>absurd h (by simp)),(λ h=>absurd h (by simp))⟩ (by dsimp only;omega)
 exact rD this λ o ho=>rL o ho λ _ _=>rfl
theorem Xr{α:Type}(l:List (List α)){j:Nat}(h:j<l.length):(l.take (j+1)).flatten=(l.take j).flatten++l.getD j []:=by
 rw[zH h,zQ,List.getD_eq_getElem?_getD,List.getElem?_eq_getElem h]
 simp
theorem Zk{α:Type}(l:List (List α))(j:Nat):(l.take j).flatten.length<=l.flatten.length:=by
 conv=>rhs;rw[<-zM j l]
 rw[zQ,zA]
 omega
theorem join(ps:List (List Bx))(op:Int){N:Nat}(hs:ps.length<=1000000)(hf:ps.flatten.length<=100000000)(hN:1000000<N)(o0:0<=op)(o1:op<=5)(hn:∀x∈ps.flatten,Cn x):
  Ret (λ R k=>F.rg (R:=R) N (ps,op) k) (λ o=>o.length<=ps.flatten.length+ps.length/\∀x∈o,Cn x):=by
 simp only[F.rg]
 have L0:=rO (s:=λ R=>F.kr (R:=R) N) (app:=λ _ d k=>k d) (P:=λ o:(List (List Bx)×Int)×List Bx=>o.1=(ps,op)/\o.2=ps.flatten) (λ y:(List (List Bx)×Int×List (List Bx)×Int×Int)×List Bx=>y.1.1=ps/\y.1.2.1=op/\y.1.2.2.1=ps/\y.1.2.2.2.1=(ps.length:Int)/\0<=y.1.2.2.2.2/\y.1.2.2.2.2<=ps.length/\y.2=(ps.take y.1.2.2.2.2.toNat).flatten) (λ y=>((ps.length:Int)-y.1.2.2.2.2).toNat) (λ y hy=>by
  obtain⟨⟨a,b,c,n,j⟩,l⟩:=y
  obtain⟨g1,g2,g3,g4,j0,j1,g5⟩:=hy
  dsimp only at g1 g2 g3 g4 j0 j1 g5
  subst g1 g2 g3 g4
  have hl:=Zk c j.toNat
  rw[<-g5] at hl
  simp only[F.kr]
  refine rB (λ h=> ?_) λ h=>rL (.inr ((c,b),l)) ⟨rfl, ?_⟩ λ _ _=>rfl
  ·have h:j<c.length:=by simpa using h
   have e:=Xr c (j:=j.toNat) (by omega)
   have hl2:=Zk c (j.toNat+1)
   rw[<-g5] at e
   rw[e,zA] at hl2
   rw[Af (n:=j+1) (by omega) (by omega)]
   refine rC (Ae j0 h) (rC (H8 (by omega)) (rL (.inl _) ⟨⟨rfl,rfl,rfl,rfl,by dsimp only;omega,by dsimp only;omega, ?_⟩,by dsimp only;omega⟩ λ _ _=>rfl))
   dsimp only
   rw[show(j+1).toNat=j.toNat+1 by omega]
   exact e.symm
  ·have h:¬j<c.length:=by simpa using h
   dsimp only
   rw[g5,show j.toNat=c.length by omega,zG]) N ((ps,op,ps,(ps.length:Int),0),[]) ⟨rfl,rfl,rfl,rfl,by simp,by simp,by simp⟩ (by dsimp only;omega)
 refine rD L0 ?_
 rintro⟨⟨a,b⟩,l⟩ ⟨g1,g2⟩
 obtain⟨rfl,rfl⟩:=by simpa only[zB] using g1
 dsimp only at g2⊢
 subst g2
 have L2:=rO (s:=λ R=>F.kw (R:=R) N) (app:=λ _ d k=>k d) (P:=λ o:List Bx=>o.length<=a.flatten.length+a.length/\∀x∈o,Cn x) (λ y:(List (List Bx)×Int×Int)×List Bx=>y.1.1=a/\y.1.2.1=b/\1<=y.1.2.2/\(y.1.2.2<=a.length\/y.1.2.2=1)/\(y.2.length:Int)+1<=a.flatten.length+y.1.2.2/\∀x∈y.2,Cn x) (λ y=>((a.length:Int)-y.1.2.2).toNat) (λ y hy=>by
  obtain⟨⟨a',b',j⟩,l⟩:=y
  obtain⟨g1,g2,j0,j1,hl,hx⟩:=hy
  dsimp only at g1 g2 j0 j1 hl hx
  subst g1 g2
  simp only[F.kw]
  refine rB (λ h=> ?_) λ h=>rL (.inr l) ⟨by omega,hx⟩ λ _ _=>rfl
  have h:j<a'.length:=by simpa using h
  rw[Af (n:=j+1) (by omega) (by omega)]
  refine rC (H8 (by simp only[z8,z9];omega)) (rL (.inl _) ⟨⟨rfl,rfl,by dsimp only;omega,.inl (by dsimp only;omega),by simp only[zA,z8,z9];omega,λ x hx2=> ?_⟩,by dsimp only;omega⟩ λ _ _=>rfl)
  rcases List.mem_append.1 hx2 with h3|h3
  ·exact hx x h3
  ·cases List.mem_singleton.1 h3
   exact Cl o0 o1 (by omega) (by omega) (by omega) (by omega) (by omega) (by omega)) N ((a,b,1),a.flatten) ⟨rfl,rfl,by simp,.inr rfl,by dsimp only;omega,hn⟩ (by dsimp only;omega)
 exact rD L2 λ o ho=>rL o ho λ _ _=>rfl
def Pm(ts:List Tok)(i:Nat):Prop:=∀n,i<n->n<=ts.length->dep ((ts.drop i).take (n-i))≠0
theorem Ap4(ts:List Tok){i:Int}{N:Nat}(hs:ts.length<=1000000)(hN:2000000<N)(i0:0<=i)(i1:i<ts.length):Ret (λ R k=>F.qe (R:=R) N (ts,i) k) (λ o=>o=true<->Pm ts i.toNat):=by
  simp only[F.qe]
  rw[Af (n:=i+1) (by omega) (by omega)]
  have L0:=rO (s:=λ R=>F.cw (R:=R) N) (app:=Db) (P:=λ o:Unit⊕Bool=>match o with|.inl _=>Pm ts i.toNat|.inr b=>b=false/\¬Pm ts i.toNat) (λ y:List Tok×Int×Int=>y.1=ts/\y.2.1=i/\i<y.2.2/\y.2.2<=ts.length+1/\∀n:Nat,i.toNat<n->(n:Int)<y.2.2->dep ((ts.drop i.toNat).take (n-i.toNat))≠0) (λ y=>((ts.length:Int)+1-y.2.2).toNat) (λ y hy=>by
    obtain⟨ts',i',j⟩:=y
    obtain⟨g1,g2,j0,j1,hd⟩:=hy
    dsimp only at g1 g2 j0 j1 hd
    subst g1 g2
    simp only[F.cw]
    refine rB (λ h=> ?_) λ h=>rL (.inr (.inl ())) ?_ λ _ _=>rfl
    · have h:j<=ts'.length:=by simpa using h
      rw[Af (n:=j-i') (by omega) (by omega),Af (n:=j+1) (by omega) (by omega),zG]
      refine rC (by simp;omega) (rD (depth (ts'.drop i'.toNat) (by simp only[zE];omega) hN (by simp only[zE];omega)) λ v hv=>rB (λ h2=>rL (.inr (.inr false)) ⟨rfl,λ hu=> ?_⟩ λ _ _=>rfl) λ h2=>rL (.inl _) ⟨⟨rfl,rfl,by dsimp only;omega,by dsimp only;omega,λ n n0 n1=> ?_⟩,by dsimp only;omega⟩ λ _ _=>rfl)
      · have h2:v=0:=by simpa using h2
        refine hu j.toNat (by omega) (by omega) ?_
        rw[<-h2,hv]
        congr 2
        omega
      · have h2:¬v=0:=by simpa using h2
        dsimp only at n1
        by_cases e:(n:Int)<j
        · exact hd n n0 e
        · rw[hv] at h2
          rw[show n-i'.toNat=(j-i').toNat by omega]
          exact h2
    · have h:¬j<=ts'.length:=by simpa using h
      exact λ n n0 n1=>hd n n0 (by omega)) N (ts,i,i+1) ⟨rfl,rfl,by dsimp only;omega,by dsimp only;omega,λ n n0 n1=>by dsimp only at n1;omega⟩ (by dsimp only;omega)
  refine rD L0 ?_
  rintro(_|b) h
  · exact rL true ⟨λ _=>h,λ _=>rfl⟩ λ _ _=>rfl
  · exact rL b ⟨λ e=>absurd e (by rw[h.1];decide),λ e=>absurd e h.2⟩ λ _ _=>rfl
theorem J1(ts:List Tok){a b i:Nat}(h:a+i<=b):dep (((ts.take b).drop a).take i)=dep (ts.take (a+i))-dep (ts.take a):=by
 rw[xB,yL,yJ h]
 have:=T1 ((ts.take (a+i)).take a) ((ts.take (a+i)).drop a)
 rw[zM,yL,yJ (by omega)] at this
 omega
theorem G2(ts:List Tok){a b i:Nat}(hb:b<=ts.length)(h:a+i<b):knd ((ts.take b).drop a) i=knd ts ((a+i:Nat):Int):=by
 rw[knd,knd,if_neg (by simp only[zE,zD];omega),if_neg (by omega)]
 simp only[List.getD_eq_getElem?_getD,zJ,List.getElem?_drop]
 rw[List.getElem?_take_of_lt h]
structure Avl(ts p:List Tok)(a b:Nat):Prop where
 ab:a<=b
 bl:b<=ts.length
 e:p=(ts.take b).drop a
 za:dep (ts.take a)=0
 zb:dep (ts.take b)=0
 pa:a=0\/knd ts (a-1:Int)=124
 pb:b=ts.length\/knd ts b=124
 nb:∀i:Nat,a<=i->i<b->knd ts i=124->dep (ts.take i)≠0
def Aqf(ts p:List Tok):Prop:=∃a b:Nat,Avl ts p a b
def spI(ts:List Tok)(y:(List Tok×Int×Int)×List (List Tok)):Prop:=
 y.1.1=ts/\0<=y.1.2.1/\y.1.2.1<=y.1.2.2/\y.1.2.2<=ts.length/\dep (ts.take y.1.2.1.toNat)=0/\(∀p∈y.2,Aqf ts p)/\((y.2.flatten.length:Int)+y.2.length<=y.1.2.1)/\(y.1.2.1=0\/knd ts (y.1.2.1-1)=124)/\∀i:Nat,y.1.2.1<=i->(i:Int)<y.1.2.2->knd ts i=124->dep (ts.take i)≠0
theorem An6(ts:List Tok){N:Nat}(hs:ts.length<=1000000)(hN:2000000<N)(hz:dep ts=0):Ret (λ R k=>F.qj (R:=R) N ts k) (λ o=>1<=o.length/\o.flatten.length+o.length<=ts.length+1/\∀p∈o,Aqf ts p):=by
 simp only[F.qj]
 have L0:=rO (s:=λ R=>F.jh (R:=R) N) (app:=λ _ d k=>k d) (P:=λ o:(List Tok×Int)×List (List Tok)=>spI ts ((o.1.1,o.1.2,(ts.length:Int)),o.2)) (spI ts) (λ y=>((ts.length:Int)-y.1.2.2).toNat) (λ y hy=>by
  obtain⟨⟨ts',a,j⟩,out⟩:=y
  obtain⟨g1,a0,a1,j1,hd,hp,hf,hb0,hnb⟩:=hy
  dsimp only at g1 a0 a1 j1 hd hp hf hb0 hnb
  subst g1
  simp only[F.jh]
  refine rB (λ h=> ?_) λ h=>rL (.inr ((ts',a),out)) ⟨rfl,a0,by dsimp only;omega,by simp,hd,hp,hf,hb0,λ i x y=>hnb i x (by dsimp only at y;have:¬j<ts'.length:=(by simpa using h);omega)⟩ λ _ _=>rfl
  have h:j<ts'.length:=by simpa using h
  have hcj:((j.toNat:Nat):Int)=j:=by omega
  have j12:∀b,(b=true->dep (ts'.take j.toNat)=0/\dep (ts'.take (j.toNat+1))=0/\knd ts' j=124)->(b=false->knd ts' j=124->dep (ts'.take j.toNat)≠0)->RetK (K:=λ R=>(((List Tok×Int×Int)×List (List Tok))->Option R)×(((List Tok×Int)×List (List Tok))->Option R)) (aS λ _ d k=>k d) (λ R k=>jn (F.pd (R:=R) N k.1 k.2) ((ts',a,j,b),out)) (Sm (spI ts') (λ y=>((ts'.length:Int)-y.1.2.2).toNat) ((ts',a,j),out) (λ o:(List Tok×Int)×List (List Tok)=>spI ts' ((o.1.1,o.1.2,(ts'.length:Int)),o.2))):=by
   intro b hb hb2
   simp only[jn,F.pd]
   rw[Af (n:=j+1) (by omega) (by omega)]
   refine rB (λ e=> ?_) λ e=>rL (.inl _) ⟨⟨rfl,a0,by dsimp only;omega,by dsimp only;omega,hd,hp,hf,hb0,λ i x y=>by
    dsimp only at y
    by_cases ij:(i:Int)=j
    ·rw[ij,show i=j.toNat by omega];exact hb2 e
    ·exact hnb i x (by omega)⟩,by dsimp only;omega⟩ λ _ _=>rfl
   obtain⟨b1,b2,b3⟩:=hb e
   have hn:(j+1).toNat=j.toNat+1:=by omega
   refine rC (by simp;omega) (rC (by simp;omega) (rC (by rw[zN];simp only[Ar,z8,z9];omega) (rL (.inl _) ⟨⟨rfl,by dsimp only;omega,by simp,by dsimp only;omega,by dsimp only;rw[hn];exact b2,λ p hpm=> ?_, ?_,.inr (by dsimp only;rw[show j+1-1=j by omega];exact b3),λ i x y=>by dsimp only at x y;omega⟩,by dsimp only;omega⟩ λ _ _=>rfl)))
   ·rcases List.mem_append.1 hpm with h3|h3
    ·exact hp p h3
    ·cases List.mem_singleton.1 h3
     exact⟨a.toNat,j.toNat,by omega,by omega,rfl,hd,b1,hb0.imp (by omega) (λ h=>by rw[show((a.toNat:Nat):Int)=a by omega];exact h),.inr (by rw[hcj];exact b3),λ i x y=>hnb i (by omega) (by omega)⟩
   ·simp only[zQ,zA,yP,yT,yY,zE,zD,z8,z9]
    omega
  refine rC (Ae (by omega) h) (rB (λ e=> ?_) λ e=>j12 false (λ e=>by cases e) λ _ q=>absurd (show(ts'.getD j.toNat tk0).1=124 by rw[knd,if_neg (by omega)] at q;exact q) (beq_eq_false_iff_ne.1 e))
  have e:(ts'.getD j.toNat tk0).1=124:=beq_iff_eq.1 e
  refine rD (depth ts' hs hN (by omega)) λ v hv=>j12 _ (λ hz=> ?_) λ hz _=>by rw[<-hv];simpa using hz
  have hz:v=0:=by simpa using hz
  have hs:=Un ts' (i:=j.toNat) (by omega)
  rw[<-hv,hz,dv,e] at hs
  exact⟨by rw[<-hv];exact hz,by rw[hs];decide,by rw[knd,if_neg (by omega)];exact e⟩) N ((ts,0,0),[]) ⟨rfl,by simp,by simp,by simp,by simp[dep],λ p h=>absurd h (by simp),by simp,.inl rfl,λ i x y=>by dsimp only at x y;omega⟩ (by dsimp only;omega)
 refine rD L0 ?_
 rintro⟨⟨a,j⟩,out⟩ ⟨g1,a0,a1,_,hd,hp,hf,hb0,hnb⟩
 dsimp only at g1 a0 a1 hd hp hf hb0 hnb⊢
 subst g1
 refine rC (by simp;omega) (rC (by rw[zN];simp only[Ar,z8,z9];omega) (rL _ ⟨by simp, ?_,λ p hpm=> ?_⟩ λ _ _=>rfl))
 ·simp only[zQ,zA,yP,yT,yY,zE,zD,z8,z9]
  omega
 ·rcases List.mem_append.1 hpm with h3|h3
  ·exact hp p h3
  ·cases List.mem_singleton.1 h3
   exact⟨j.toNat,a.length,by omega,by omega,rfl,hd,by rw[zG];exact hz,hb0.imp (by omega) (λ h=>by rw[show((j.toNat:Nat):Int)=j by omega];exact h),.inl rfl,λ i x y=>hnb i (by omega) (by omega)⟩
theorem Pr(l:List Int)(h:l.length<=1000000):Ret (λ R k=>F.cy (R:=R) l k) (λ o=>o=l):=by
 simp only[F.cy]
 exact rC (Bg (by simp only[z9];omega) (by omega)) (rL _ (by simp) λ _ _=>rfl)
theorem Anw{L:List Int}(hL:Src L){b:Nat}(hb:b<=65536){x:Int×(List Int×Int×Int)×List Int×List Int×List Int×List Int}(hc:Cur L x.2.1)(hd:I8 b x):
  Ret (λ R k=>F.qg (R:=R) x k) (λ o=>Cur L o.2.1.1/\-1<=o.1/\o.1<=b+1/\o.2.2.1.length<=256/\o.2.2.2.1.length<=b/\o.2.2.2.2.1.length<=b/\o.2.2.2.2.2.length<=b+1):=by
 obtain⟨n,⟨c,p,w⟩,cl,nx,tg,en⟩:=x
 obtain⟨d0,d1,d2,d3,d4,d5,d6,d7,-⟩:=hd
 dsimp only at hc d0 d1 d2 d3 d4 d5 d6 d7
 simp only[F.qg]
 refine rD (Pr _ (by omega)) ?_
 rintro cl rfl
 refine rD (Pr _ (by omega)) ?_
 rintro nx rfl
 refine rD (Pr _ (by omega)) ?_
 rintro tg rfl
 refine rD (Pr _ (by omega)) ?_
 rintro en rfl
 refine rD (Az hL hc (by omega)) ?_
 rintro⟨r,c1,p1,w1⟩ ⟨a1,a2,a3⟩
 dsimp only at a1 a2 a3⊢
 have fin:∀(n':Int) (c':List Int×Int×Int) (cl' nx' tg' en':List Int),Cur L c'->-1<=n'->n'<=b+1->cl'.length<=256->nx'.length<=b->tg'.length<=b->en'.length<=b+1->Ret (λ R (k:(Int×((List Int×Int×Int)×List Int×List Int×List Int×List Int)×List Int×List Int×List Int×List Int)->Option R)=>k (n',(c',cl,nx,tg,en),cl',nx',tg',en')) (λ o=>Cur L o.2.1.1/\-1<=o.1/\o.1<=b+1/\o.2.2.1.length<=256/\o.2.2.2.1.length<=b/\o.2.2.2.2.1.length<=b/\o.2.2.2.2.2.length<=b+1):=
  λ n' c' cl' nx' tg' en' x1 x2 x3 x4 x5 x6 x7=>rL _ ⟨x1,x2,x3,x4,x5,x6,x7⟩ λ _ _=>rfl
 refine rB (λ _=>rD (Az hL a3 (by omega)) ?_) λ _=>rB (λ _=>rC (by simp;omega) (fin _ _ _ _ _ _ a3 (by omega) (by omega) (by simp only[zD,zE];omega) (by omega) (by omega) (by omega))) λ _=>rB (λ _=>rD (Az hL a3 (by omega)) ?_) λ _=>rB (λ _=>rD (Az hL a3 (by omega)) ?_) λ _=>rB (λ _=>rD (Az hL a3 (by omega)) ?_) λ _=>rB (λ _=>rD (Az hL a3 (by omega)) ?_) λ _=>rB (λ _=>rC (Bg (by simp only[z8,z9];omega) (by omega)) (fin _ _ _ _ _ _ a3 (by omega) (by omega) (by omega) (by omega) (by omega) (by simp only[zA,z8,z9];omega))) λ _=>rB (λ _=> ?_) λ _=>rB (λ _=>rD (Az hL a3 (by omega)) ?_) λ _=>fin _ _ _ _ _ _ a3 (by omega) (by omega) (by omega) (by omega) (by omega) (by omega)
 ·rintro⟨r2,c2⟩ ⟨b1,b2,b3⟩
  refine rD (Az hL b3 (by omega)) ?_
  rintro⟨r3,c3⟩ ⟨e1,e2,e3⟩
  dsimp only at b1 b2 b3 e1 e2 e3⊢
  exact rC (Ae b1 (by omega)) (fin _ _ _ _ _ _ e3 (by omega) (by omega) (by simp only[zC];omega) (by omega) (by omega) (by omega))
 ·rintro⟨r2,c2⟩ ⟨b1,b2,b3⟩
  dsimp only at b1 b2 b3⊢
  rw[Af (n:=r2-1) (by omega) (by omega),Af (n:=n+(r2-1)) (by omega) (by omega)]
  exact fin _ _ _ _ _ _ b3 (by omega) (by omega) (by omega) (by omega) (by omega) (by omega)
 ·rintro⟨r2,c2⟩ ⟨b1,b2,b3⟩
  refine rD (Az hL b3 (by omega)) ?_
  rintro⟨r3,c3⟩ ⟨e1,e2,e3⟩
  dsimp only at b1 b2 b3 e1 e2 e3⊢
  exact rC (Ae b1 (by omega)) (fin _ _ _ _ _ _ e3 (by omega) (by omega) (by omega) (by simp only[zC];omega) (by omega) (by omega))
 ·rintro⟨r2,c2⟩ ⟨b1,b2,b3⟩
  refine rD (Az hL b3 (by omega)) ?_
  rintro⟨r3,c3⟩ ⟨e1,e2,e3⟩
  dsimp only at b1 b2 b3 e1 e2 e3⊢
  exact rC (Ae b1 (by omega)) (fin _ _ _ _ _ _ e3 (by omega) (by omega) (by omega) (by omega) (by simp only[zC];omega) (by omega))
 ·rintro⟨r2,c2⟩ ⟨b1,b2,b3⟩
  refine rD (Az hL b3 (by omega)) ?_
  rintro⟨r3,c3⟩ ⟨e1,e2,e3⟩
  dsimp only at b1 b2 b3 e1 e2 e3⊢
  exact rC (Ae b1 (by omega)) (fin _ _ _ _ _ _ e3 (by omega) (by omega) (by omega) (by omega) (by omega) (by simp only[zC];omega))
 ·rw[Af (by omega) (by omega)]
  exact rC (by simp;omega) (fin _ _ _ _ _ _ a3 (by omega) (by omega) (by omega) (by simp only[zD,zE];omega) (by omega) (by omega))
 ·rintro⟨r2,c2⟩ ⟨b1,b2,b3⟩
  dsimp only at b1 b2 b3⊢
  exact rC (Ae b1 (by omega)) (fin _ _ _ _ _ _ b3 (by omega) (by omega) (by omega) (by simp only[zC];omega) (by omega) (by omega))
theorem Avq{L:List Int}(hL:Src L){N:Nat}(hN:1000<N){c:List Int×Int×Int}(hc:Cur L c):Ret (λ R k=>F.rq (R:=R) N c k) (λ o=>Cur L o.2.1/\I8 5000 o):=by
 obtain⟨c,p,w⟩:=c
 simp only[F.rq]
 refine rD (Az hL hc (by omega)) ?_
 rintro⟨r,c1,p1,w1⟩ ⟨a1,a2,a3⟩
 dsimp only at a1 a2 a3⊢
 rw[Af (n:=4000+r) (by omega) (by omega)]
 have nn:decide (0<=4000+r)=true:=decide_eq_true (by omega)
 have nb:zY (yK (4000+r)) (Ar 8)=true:=Bg (by omega) (by omega)
 refine rC (by decide) (rC (by decide) (rC nn (rC nb (rC nn (rC nb (rC nn (rC nb ?_)))))))
 generalize hr:zZ (yK (4000+r)) (0:Int)=z
 have hz:z.length=(4000+r).toNat:=by rw[<-hr,zI]
 generalize hq:zZ (yK 256) (0:Int)=cl
 have hcl:cl.length=256:=by rw[<-hq,zI];rfl
 have L0:=rO (s:=λ R=>F.iy (R:=R) N) (app:=λ _ d k=>k d) (P:=λ o:(List Int×Int×Int)×Int×Int×List Int×List Int×List Int×List Int×List Int×List Int×List Int×List Int=>Cur L o.1/\o.2.2.1=1/\o.2.2.2.2.2.2.2.1=cl/\o.2.2.2.2.2.2.2.2.1.length=(4000+r).toNat/\o.2.2.2.2.2.2.2.2.2=(z,z)) (λ y:Int×(List Int×Int×Int)×Int×Int×List Int×List Int×List Int×List Int×List Int×List Int×List Int×List Int=>0<=y.1/\Cur L y.2.1/\y.2.2.2.1=1/\y.2.2.2.2.2.2.2.2.1=cl/\y.2.2.2.2.2.2.2.2.2.1.length=(4000+r).toNat/\y.2.2.2.2.2.2.2.2.2.2=(z,z)) (λ y=>(5-y.1).toNat) (λ y hy=>by
  obtain⟨i,⟨c2,p2,w2⟩,x1,x2,x3,x4,x5,x6,x7,x8,x9,x10⟩:=y
  obtain⟨i0,hc,g1,g2,g3,g4⟩:=hy
  dsimp only at i0 hc g1 g2 g3 g4
  simp only[F.iy]
  refine rB (λ h=> ?_) λ h=>rL (.inr _) ⟨hc,g1,g2,g3,g4⟩ λ _ _=>rfl
  have h:i<5:=by simpa using h
  refine rD (Az hL hc (by omega)) ?_
  rintro⟨r3,c3,p3,w3⟩ ⟨b1,b2,b3⟩
  dsimp only at b1 b2 b3⊢
  rw[Af (n:=i+1) (by omega) (by omega)]
  exact rC (by decide) (rC (Ae i0 (by omega)) (rL (.inl _) ⟨⟨by dsimp only;omega,b3,g1,g2,by simp only[zC];exact g3,g4⟩,by dsimp only;omega⟩ λ _ _=>rfl))) N (0,(c1,p1,w1),0,1,[],[],[],[],cl,z,z,z) ⟨by simp,a3,rfl,rfl,hz,rfl⟩ (by dsimp only;omega)
 refine rD L0 ?_
 rintro⟨⟨c2,p2,w2⟩,x1,x2,x3,x4,x5,x6,x7,x8,x9,x10⟩ ⟨hc2,g1,g2,g3,g4⟩
 dsimp only at hc2 g1 g2 g3 g4⊢
 obtain⟨rfl,rfl⟩:=by simpa only[zB] using g4
 subst g1 g2
 refine rD (Az hL hc2 (by omega)) ?_
 rintro⟨r3,c3,p3,w3⟩ ⟨b1,b2,b3⟩
 dsimp only at b1 b2 b3⊢
 exact rC (Ae b1 (by omega)) (rL _ ⟨b3,by simp,by simp,by dsimp only;omega,by dsimp only;omega,by dsimp only;omega,by simp only[zC];omega,by simp only[zC];omega,by simp only[zC],by simp only[zC];omega⟩ λ _ _=>rfl)
structure AltsT(ts:List Tok):Prop where
 tok:∀t∈ts,H7 t
 ge:∀i:Nat,i<=ts.length->0<=dep (ts.take i)
 z:dep ts=0
 kd:∀i:Nat,i<ts.length->knd ts i≠94/\knd ts i≠36
 rep:∀i:Nat,i<ts.length->knd ts i=114->i≠0/\(knd ts (i-1:Int)=97\/knd ts (i-1:Int)=41)
structure Y9(ts:List Tok):Prop extends AltsT ts where
 nb:∀i:Nat,i<ts.length->knd ts i=124->dep (ts.take i)≠0
theorem Ob{ts:List Tok}{a b:Nat}(ht:∀t∈ts,H7 t)(hab:a<=b)(hb:b<=ts.length)(hz:dep (ts.take b)=dep (ts.take a))(hg:∀i:Nat,a<=i->i<=b->dep (ts.take a)<=dep (ts.take i))(hk:∀i:Nat,a<=i->i<b->knd ts i≠94/\knd ts i≠36)(hr:∀i:Nat,a<=i->i<b->knd ts i=114->i≠a/\(knd ts (i-1:Int)=97\/knd ts (i-1:Int)=41)):AltsT ((ts.take b).drop a):=by
 have hl:((ts.take b).drop a).length=b-a:=by simp only[zE,zD];omega
 refine⟨λ t h=>ht t (yM (List.mem_of_mem_drop h)),λ i hi=> ?_, ?_,λ i hi=> ?_,λ i hi h=> ?_⟩
 ·rw[J1 ts (by omega)]
  have:=hg (a+i) (by omega) (by omega)
  omega
 ·have:=J1 ts (a:=a) (b:=b) (i:=b-a) (by omega)
  rw[<-hl,zG,hl,show a+(b-a)=b by omega] at this
  omega
 ·rw[G2 ts hb (by omega)]
  exact hk _ (by omega) (by omega)
 ·rw[G2 ts hb (by omega)] at h
  obtain⟨q1,q2⟩:=hr _ (by omega) (by omega) h
  refine⟨by omega, ?_⟩
  have e:((i:Int)-1)=((i-1:Nat):Int):=by omega
  rw[e,G2 ts hb (by omega),show((a+(i-1):Nat):Int)=((a+i:Nat):Int)-1 by omega]
  exact q2
theorem Ac3{ts p:List Tok}(h:AltsT ts)(hp:Aqf ts p):Y9 p/\p.length<=ts.length:=by
 obtain⟨a,b,q⟩:=hp
 obtain⟨ab,bl,rfl,za,zb,pa,pb,nb⟩:=q
 have hl:((ts.take b).drop a).length=b-a:=by simp only[zE,zD];omega
 refine⟨⟨Ob h.tok ab bl (by omega) (λ i _ hi=>by rw[za];exact h.ge i (by omega)) (λ i _ hi=>h.kd i (by omega)) λ i ia ib e=> ?_,λ i hi e=> ?_⟩,by omega⟩
 ·obtain⟨q1,q2⟩:=h.rep i (by omega) e
  refine⟨λ ea=> ?_,q2⟩
  subst ea
  rcases pa with pa|pa
  ·exact q1 pa
  ·rw[pa] at q2;omega
 ·rw[J1 ts (by omega),za]
  rw[G2 ts bl (by omega)] at e
  have:=nb (a+i) (by omega) (by omega) e
  omega
theorem Lb(ts:List Tok){i:Nat}(h:i<ts.length):dep (ts.take (i+1))=dep (ts.take i)+((if knd ts i=40 then 1 else 0)-(if knd ts i=41 then 1 else 0)):=by
 rw[Un ts h,dv,show knd ts i=(ts.getD i tk0).1 by rw[knd,if_neg (by omega),zJ]]
theorem Aa0{ts:List Tok}(h:AltsT ts){k e:Nat}(h2:k+2<=e)(he:e<=ts.length)(hk:knd ts k=40)(z0:dep (ts.take k)=0)(z1:dep (ts.take e)=0)(hp:∀i:Nat,k<i->i<e->1<=dep (ts.take i)):AltsT ((ts.take (e-1)).drop (k+1)):=by
 have d1:dep (ts.take (k+1))=1:=by rw[Lb ts (by omega),hk,z0];decide
 have d2:dep (ts.take (e-1))=1:=by
  have:=Lb ts (i:=e-1) (by omega)
  rw[show e-1+1=e by omega,z1] at this
  have:=hp (e-1) (by omega) (by omega)
  have:(if knd ts (e-1:Nat)=40 then(1:Int) else 0)-(if knd ts (e-1:Nat)=41 then 1 else 0)>=-1:=by split<;>split<;>omega
  omega
 refine Ob h.tok (by omega) (by omega) (by omega) (λ i i0 i1=> ?_) (λ i _ i1=>h.kd i (by omega)) λ i i0 i1 q=> ?_
 ·have:=hp i (by omega) (by omega)
  omega
 ·obtain⟨q1,q2⟩:=h.rep i (by omega) q
  refine⟨λ ei=> ?_,q2⟩
  subst ei
  rw[show((k+1:Nat):Int)-1=(k:Nat) by omega,hk] at q2
  omega
abbrev SqD:=(List Tok×Int)×List (List Bx)
def sqI(ts:List Tok)(y:SqD):Prop:=y.1.1=ts/\0<=y.1.2/\y.1.2<=ts.length/\dep (ts.take y.1.2.toNat)=0/\knd ts y.1.2≠114/\((y.2.flatten.length:Int)+y.2.length<=4*y.1.2)/\∀x∈y.2.flatten,Cn x
theorem Mu{α:Type}(l:List (List α))(f:List α):(l++[f]).flatten=l.flatten++f:=by simp
theorem Uh{a:Nat}(h:a<=1000000000000):zY a (Ar 24)=true:=by
 rw[zN,Ar]
 omega
section
variable{ts:List Tok}{N:Nat}{f:∀R,List Tok->(List Bx->Option R)->Option R}{P:List (List Bx)->Prop}
theorem An3(h:∀t∈ts,H7 t){k:Int}(k0:0<=k)(k1:k<ts.length):H7 (ts.getD k.toNat tk0)/\knd ts k=(ts.getD k.toNat tk0).1:=by
 refine⟨?_,by rw[knd,if_neg (by omega)]⟩
 rw[List.getD_eq_getElem?_getD,List.getElem?_eq_getElem (show k.toNat<ts.length by omega)]
 exact h _ (zF _)
theorem Oz{fs:List (List Bx)}{g:List Bx}(hx:∀x∈fs.flatten,Cn x)(hx2:∀x∈g,Cn x):∀x∈(fs++[g]).flatten,Cn x:=λ x h=>by
 rw[Mu] at h
 exact(List.mem_append.1 h).elim (hx x) (hx2 x)
theorem R3{g:List Bx}{y:Bx}(hx2:∀x∈g,Cn x)(hy:Cn y):∀x∈g++[y],Cn x:=λ x h=>by
 rcases List.mem_append.1 h with h|h
 ·exact hx2 x h
 ·cases List.mem_singleton.1 h;exact hy
theorem Anz(h:Y9 ts)(hl:ts.length<=2000){k k':Int}{fs:List (List Bx)}{g:List Bx}(k0:0<=k)(kk:k<k')(k1:k'<=ts.length)(z:dep (ts.take k'.toNat)=0)(hf:(fs.flatten.length:Int)+fs.length<=4*k)(hf2:(g.length:Int)+1<=4*(k'-k))(hx:∀x∈fs.flatten,Cn x)(hx2:∀x∈g,Cn x):
  RetK (K:=λ R=>(SqD->Option R)×(List (List Bx)->Option R)) (aS λ _ d k=>k d) (λ R c=>jn (F.qn (R:=R) N (f R) c.1 c.2) ((ts,k'),fs,g)) (Sm (sqI ts) (λ y=>((ts.length:Int)-y.1.2).toNat) ((ts,k),fs) P):=by
 simp only[jn,F.qn]
 refine rD (Arf _ _) ?_
 rintro _ rfl
 have hN0:k'.toNat=k':=by omega
 refine rB (λ e=> ?_) λ e=> ?_
 ·have e:knd ts k'=114:=beq_iff_eq.1 e
  have k2:k'<ts.length:=by
   by_cases q:k'<ts.length
   ·exact q
   ·rw[knd,if_pos (by omega)] at e;omega
  have ht:=(An3 h.tok (by omega) k2).1
  have hd:=Lb ts (i:=k'.toNat) (by omega)
  rw[hN0,e,z] at hd
  rw[Af (n:=k'+1) (by omega) (by omega)]
  refine rC (Ae (by omega) k2) (rC (Ae (by omega) k2) (rC (H8 (by simp only[z8,z9];omega)) (rC (Uh (by simp only[z8,z9];omega)) (rL (.inl _) ⟨⟨rfl,by dsimp only;omega,by dsimp only;omega,by dsimp only;rw[show(k'+1).toNat=k'.toNat+1 by omega,hd];decide,λ q=> ?_, ?_,Oz hx (R3 hx2 (Cl (by omega) (by omega) ht.a0 (yH ht.a1 (by decide)) ht.b0 (yH ht.b1 (by decide)) (by omega) (by omega)))⟩,by dsimp only;omega⟩ λ _ _=>rfl))))
  ·dsimp only at q
   by_cases k3:k'+1<ts.length
   ·have:=(h.rep (k'+1).toNat (by omega) (by rw[show(((k'+1).toNat:Nat):Int)=k'+1 by omega];exact q)).2
    rw[show(((k'+1).toNat:Nat):Int)-1=k' by omega,e] at this
    omega
   ·rw[knd,if_pos (by omega)] at q;omega
  ·simp only[Mu,zA,z8,z9]
   omega
 ·have e:¬knd ts k'=114:=beq_eq_false_iff_ne.1 e
  refine rC (Uh (by simp only[z8,z9];omega)) (rL (.inl _) ⟨⟨rfl,by dsimp only;omega,k1,z,e, ?_,Oz hx hx2⟩,by dsimp only;omega⟩ λ _ _=>rfl)
  simp only[Mu,zA,z8,z9]
  omega
theorem Ar6(h:AltsT ts)(hl:ts.length<=2000)(hN:2000000<N){k:Int}{fs:List (List Bx)}(k0:0<=k)(k1:k<ts.length)(hk:knd ts k=40)(z:dep (ts.take k.toNat)=0):
  Ret (λ R c=>F.xe (R:=R) N (f R) N ((ts,k,Aa .i64 (k+1)),fs) c) (λ o=>o.1.1=ts/\o.1.2.1=k/\o.2=fs/\k+2<=o.1.2.2/\o.1.2.2<=ts.length/\dep (ts.take o.1.2.2.toNat)=0/\∀i:Nat,k<i->(i:Int)<o.1.2.2->1<=dep (ts.take i)):=by
 have d1:=Lb ts (i:=k.toNat) (by omega)
 rw[show((k.toNat:Nat):Int)=k by omega,hk,z] at d1
 have d1:dep (ts.take (k.toNat+1))=1:=d1
 rw[Af (n:=k+1) (by omega) (by omega)]
 refine rO (s:=λ R=>F.mj (R:=R) N (f R)) (λ y:(List Tok×Int×Int)×List (List Bx)=>y.1.1=ts/\y.1.2.1=k/\y.2=fs/\k+1<=y.1.2.2/\y.1.2.2<=ts.length/\∀i:Nat,k<i->(i:Int)<y.1.2.2->1<=dep (ts.take i)) (λ y=>((ts.length:Int)-y.1.2.2).toNat) ?_ N _ ⟨rfl,rfl,rfl,by simp,by dsimp only;omega,λ i i0 i1=>by dsimp only at i1;omega⟩ (by dsimp only;omega)
 rintro⟨⟨ts',k',e⟩,fs'⟩ ⟨g1,g2,g3,e0,e1,hp⟩
 dsimp only at g1 g2 g3 e0 e1 hp
 subst g1 g2 g3
 simp only[F.mj]
 rw[Af (n:=e-k') (by omega) (by omega),Af (n:=e+1) (by omega) (by omega)]
 refine rC (by simp;omega) (rD (depth _ (by simp only[zE,zD];omega) hN (by simp only[zE,zD];omega)) ?_)
 rintro _ rfl
 rw[J1 ts' (by omega),z,show k'.toNat+(e-k').toNat=e.toNat by omega]
 have hg:=h.ge e.toNat (by omega)
 refine rB (λ q=> ?_) λ q=> ?_
 ·have q:0<dep (ts'.take e.toNat)-0:=by simpa using q
  have en:e≠ts'.length:=λ en=>by
   rw[show e.toNat=ts'.length by omega,zG,h.z] at q
   omega
  refine rL (.inl _) ⟨⟨rfl,rfl,rfl,by dsimp only;omega,by dsimp only;omega,λ i i0 i1=> ?_⟩,by dsimp only;omega⟩ λ _ _=>rfl
  dsimp only at i1
  by_cases ie:(i:Int)=e
  ·rw[show i=e.toNat by omega];omega
  ·exact hp i i0 (by omega)
 ·have q:¬0<dep (ts'.take e.toNat)-0:=by simpa using q
  refine rL (.inr _) ⟨rfl,rfl,rfl, ?_,e1,by dsimp only;omega,hp⟩ λ _ _=>rfl
  dsimp only
  by_cases ek:e=k'+1
  ·rw[show e.toNat=k'.toNat+1 by omega,d1] at q
   omega
  ·omega
theorem Anx(hN:2000000<N){k e:Int}{fs:List (List Bx)}{ps:List (List Tok)}(hps:ps.flatten.length+ps.length<=3000)(rec:∀p∈ps,Ret (λ R c=>f R p c) λ o=>o.length<=4*p.length/\∀x∈o,Cn x):
  Ret (λ R c=>F.xf (R:=R) N (f R) N ((ts,k,e,(ps.length:Int),0),fs,[],ps) c) (λ o=>o.1=(ts,k,e)/\o.2.1=fs/\o.2.2.length=ps.length/\o.2.2.flatten.length<=4*ps.flatten.length/\∀x∈o.2.2.flatten,Cn x):=by
 refine rO (s:=λ R=>F.mq (R:=R) N (f R)) (λ y:(List Tok×Int×Int×Int×Int)×List (List Bx)×List (List Bx)×List (List Tok)=>(y.1.1,y.1.2.1,y.1.2.2.1)=(ts,k,e)/\y.1.2.2.2.1=ps.length/\0<=y.1.2.2.2.2/\y.1.2.2.2.2<=ps.length/\y.2.1=fs/\y.2.2.2=ps/\(y.2.2.1.length:Int)=y.1.2.2.2.2/\y.2.2.1.flatten.length<=4*(ps.take y.1.2.2.2.2.toNat).flatten.length/\∀x∈y.2.2.1.flatten,Cn x) (λ y=>((ps.length:Int)-y.1.2.2.2.2).toNat) ?_ N _ ⟨rfl,rfl,by simp,by simp,rfl,rfl,by simp,by simp,by simp⟩ (by dsimp only;omega)
 rintro⟨⟨ts',k',e',n,j⟩,fs',ins,ps'⟩ ⟨g1,g2,j0,j1,g3,g4,hl,hf,hx⟩
 dsimp only at g1 g2 j0 j1 g3 g4 hl hf hx
 subst g2 g3 g4
 simp only[F.mq]
 have hfl:=Zk ps' j.toNat
 refine rB (λ h=> ?_) λ h=> ?_
 ·have h:j<ps'.length:=by simpa using h
  have hm:ps'.getD j.toNat []∈ps':=by
   rw[List.getD_eq_getElem?_getD,List.getElem?_eq_getElem (show j.toNat<ps'.length by omega)]
   exact zF _
  rw[Af (n:=j+1) (by omega) (by omega)]
  refine rC (Ae j0 h) (rD (rec _ hm) λ r hr=>rC (Uh (by simp only[z8,z9];omega)) (rL (.inl _) ⟨⟨g1,rfl,by dsimp only;omega,by dsimp only;omega,rfl,rfl,by simp only[zA,z8,z9];omega, ?_,Oz hx hr.2⟩,by dsimp only;omega⟩ λ _ _=>rfl))
  dsimp only
  rw[show(j+1).toNat=j.toNat+1 by omega,Xr ps' (by omega),Mu,zA,zA]
  have:=hr.1
  omega
 ·have h:¬j<ps'.length:=by simpa using h
  rw[show j.toNat=ps'.length by omega,zG] at hf
  exact rL (.inr _) ⟨g1,rfl,by dsimp only;omega,hf,hx⟩ λ _ _=>rfl
end
theorem seq{N:Nat}(hN:2000000<N):∀n ts,(Y9 ts/\ts.length<=2000)->ts.length<n->Ret (λ R c=>F.pe (R:=R) N n ts c) λ o=>o.length<=4*ts.length/\∀x∈o,Cn x:=by
 refine rR (s:=λ R=>F.sb (R:=R) N) (app:=λ _ d k=>k d) (λ ts=>Y9 ts/\ts.length<=2000) (λ ts o=>o.length<=4*ts.length/\∀x∈o,Cn x) (λ ts=>ts.length) λ f ts hI rec=> ?_
 obtain⟨hS,hl⟩:=hI
 have L0:=rO (s:=λ R=>F.mr (R:=R) N (f R)) (app:=λ _ d k=>k d) (P:=λ o:List (List Bx)=>o.flatten.length+o.length<=4*ts.length/\∀x∈o.flatten,Cn x) (sqI ts) (λ y=>((ts.length:Int)-y.1.2).toNat) (λ y hy=>by
  obtain⟨⟨ts',k⟩,fs⟩:=y
  obtain⟨g1,k0,k1,z,hne,hf,hx⟩:=hy
  dsimp only at g1 k0 k1 z hne hf hx
  subst g1
  simp only[F.mr]
  refine rB (λ h=> ?_) λ h=>rL (.inr fs) ⟨by omega,hx⟩ λ _ _=>rfl
  have h:k<ts'.length:=by simpa using h
  obtain⟨ht,hk⟩:=An3 hS.tok k0 h
  refine rC (Ae k0 h) (rB (λ e=> ?_) λ e=> ?_)
  ·have e:knd ts' k=40:=by rw[hk];exact beq_iff_eq.1 e
   refine rD (Ar6 hS.toAltsT hl hN k0 h e z) ?_
   rintro⟨⟨a,b,e2⟩,fs2⟩ ⟨g1,g2,g3,e0,e1,z2,hp⟩
   dsimp only at g1 g2 g3 e0 e1 z2 hp⊢
   subst g1 g2 g3
   have hin:=Aa0 hS.toAltsT (k:=b.toNat) (e:=e2.toNat) (by omega) (by omega) (by rw[show((b.toNat:Nat):Int)=b by omega];exact e) z z2 (λ i i0 i1=>hp i (by omega) (by omega))
   rw[Af (n:=e2-1) (by omega) (by omega),Af (n:=b+1) (by omega) (by omega),show(e2-1).toNat=e2.toNat-1 by omega,show(b+1).toNat=b.toNat+1 by omega]
   have hsl:((a.take (e2.toNat-1)).drop (b.toNat+1)).length=e2.toNat-b.toNat-2:=by simp only[zE,zD];omega
   refine rC (by simp;omega) (rC (by simp;omega) (rD (An6 _ (by omega) hN hin.z) λ ps hps=> ?_))
   obtain⟨p1,p2,p3⟩:=hps
   rw[hsl] at p2
   refine rD (Anx hN (by omega) λ p hpm=>rec p ?_ ?_) ?_
   ·have:=Ac3 hin (p3 p hpm)
    exact⟨this.1,by omega⟩
   ·have:=(Ac3 hin (p3 p hpm)).2
    omega
   rintro⟨⟨x1,x2,x3⟩,fs3,ins⟩ ⟨g1,g2,q1,q2,q3⟩
   dsimp only at g1 g2 q1 q2 q3⊢
   obtain⟨rfl,rfl,rfl⟩:=by simpa only[zB] using g1
   subst g2
   refine rD (join ins 3 (by omega) (by omega) (by omega) (by omega) (by omega) q3) λ r hr=> ?_
   have:=hr.1
   have hgr:=ht.gr (by rw[<-hk];exact e)
   exact rC (Ae k0 h) (rC (H8 (by simp only[z8,z9];omega)) (Anz hS hl k0 (by omega) e1 z2 hf (by simp only[zA,z8,z9];omega) hx (R3 hr.2 (Cl (by omega) (by omega) (by omega) (by omega) (by omega) (by omega) hgr (yH ht.a1 (by decide))))))
  ·have e:¬knd ts' k=40:=by rw[hk];exact beq_eq_false_iff_ne.1 e
   have hd:=Lb ts' (i:=k.toNat) (by omega)
   have hg:=hS.ge (k.toNat+1) (by omega)
   have hkd:=hS.kd k.toNat (by omega)
   have hnb:=hS.nb k.toNat (by omega)
   rw[show((k.toNat:Nat):Int)=k by omega] at hd hkd hnb
   rw[z,if_neg e] at hd
   have h41:knd ts' k≠41:=λ q=>by rw[if_pos q] at hd;omega
   rw[if_neg h41] at hd
   have h97:knd ts' k=97:=by
    have h124:knd ts' k≠124:=λ q=>hnb q z
    have:=ht.kd
    rw[<-hk] at this
    omega
   rw[Af (n:=k+1) (by omega) (by omega)]
   refine rC (Ae k0 h) (rD (Aws _ (ht.set (by rw[<-hk];exact h97)) (by omega)) λ r hr=>rC (H8 (by simp only[z8,z9];omega)) (Anz hS hl k0 (by omega) (by omega) (by rw[show(k+1).toNat=k.toNat+1 by omega,hd];decide) hf (by simp only[zA,z8,z9];omega) hx (R3 (λ _ h=>absurd h (by simp)) ⟨by simp,by simp,hr.1,hr.2,by simp,by simp,by simp,by simp,by simp,by simp⟩)))) N ((ts,0),[]) ⟨rfl,by simp,by simp,by simp[dep],λ q=>by
   dsimp only at q
   by_cases h0:0<ts.length
   ·exact(hS.rep 0 h0 q).1 rfl
   ·rw[knd,if_pos (by omega)] at q;omega,by simp,by simp⟩ (by dsimp only;omega)
 simp only[F.sb]
 refine rD L0 λ fs hfs=>rD (join fs 2 (by omega) (by omega) (by omega) (by omega) (by omega) hfs.2) λ r hr=>rL r ⟨?_,hr.2⟩ λ _ _=>rfl
 have:=hr.1
 omega
structure Ajq(ts:List Tok):Prop where
 tok:∀t∈ts,H7 t
 nf:∀i:Nat,i<ts.length->NoF ts i
theorem Ajq.ge{ts:List Tok}(h:Ajq ts):∀i:Nat,i<=ts.length->0<=dep (ts.take i)
 | 0,_=>by simp[dep]
 | i+1,hi=>by
  have:=h.ge i (by omega)
  rw[Lb ts (by omega)]
  by_cases e:knd ts i=41
  ·have:=(h.nf i (by omega)).cl e
   rw[zJ] at this
   rw[e]
   simp
   omega
  ·rw[if_neg e]
   split<;>omega
theorem Akg(ts:List Tok){i n:Nat}(h:i<=n):dep ((ts.drop i).take (n-i))=dep (ts.take n)-dep (ts.take i):=by
 have:=List.take_add (l:=ts) (i:=i) (j:=n-i)
 rw[show i+(n-i)=n by omega] at this
 rw[this,T1]
 omega
theorem Adw{ts:List Tok}(hg:∀i:Nat,i<=ts.length->0<=dep (ts.take i))(hd:0<dep ts):∃i:Nat,i<ts.length/\knd ts i=40/\Pm ts i:=by
 have key:∀m:Nat,m<=ts.length->(∀i:Nat,m<=i->i<=ts.length->dep (ts.take i)≠0)->∃k:Nat,k<m/\dep (ts.take k)=0/\∀i:Nat,k<i->i<=ts.length->dep (ts.take i)≠0:=by
  intro m
  induction m with
  | zero=>intro _ h;exact absurd (by simp[dep]) (h 0 (by omega) (by omega))
  | succ m ih=>
   intro hm h
   by_cases e:dep (ts.take m)=0
   ·exact⟨m,by omega,e,λ i h1 h2=>h i (by omega) h2⟩
   ·obtain⟨k,k1,k2,k3⟩:=ih (by omega) λ i h1 h2=>by
     by_cases hi:i=m
     ·rw[hi];exact e
     ·exact h i (by omega) h2
    exact⟨k,by omega,k2,k3⟩
 obtain⟨k,k1,k2,k3⟩:=key ts.length (by omega) λ i h1 h2=>by
  rw[show i=ts.length by omega,zG];omega
 have e:=Lb ts k1
 have h1:=hg (k+1) (by omega)
 have h2:=k3 (k+1) (by omega) (by omega)
 refine⟨k,k1, ?_,λ n h3 h4=> ?_⟩
 ·by_cases q:knd ts k=40
  ·exact q
  ·rw[if_neg q] at e
   split at e<;>omega
 ·rw[Akg ts (by omega),k2]
  have:=k3 n h3 h4
  omega
theorem An4{ts p:List Tok}(h:Ajq ts)(hz:dep ts=0)(h0:0<ts.length)(hl:knd ts (ts.length-1:Int)≠40/\knd ts (ts.length-1:Int)≠124/\knd ts (ts.length-1:Int)≠94)(hp:Aqf ts p):
  1<=p.length/\p.length<=ts.length/\∀w,(knd p 0=94/\w=p.drop 1\/knd p 0≠94/\w=p)->1<=w.length/\(knd w (w.length-1:Int)=36->Y9 (w.take (w.length-1)))/\(knd w (w.length-1:Int)≠36->Y9 w):=by
 obtain⟨a,b,ab,bl,rfl,za,zb,pa,pb,nb⟩:=hp
 have hlen:∀a b:Nat,b<=ts.length->((ts.take b).drop a).length=b-a:=λ a b h=>by simp only[zE,zD];omega
 have bar:∀i:Nat,i<ts.length->knd ts i=124->i≠0/\knd ts (i-1:Int)≠40/\knd ts (i-1:Int)≠124/\knd ts (i-1:Int)≠94:=λ i hi e=>by
  have:=(h.nf i hi).bar e
  exact⟨by omega,this.2⟩
 have Ln:∀i:Nat,i<ts.length->(knd ts i=124\/knd ts i=94\/knd ts i=36)->dep (ts.take (i+1))=dep (ts.take i):=λ i hi e=>by
  rw[Lb ts hi]
  rcases e with e|e|e<;>rw[e]<;>simp
 have lt:a<b:=by
  by_cases e:a=b
  ·subst e
   rcases pb with pb|pb
   ·subst pb
    rcases pa with pa|pa
    ·omega
    ·exact absurd pa hl.2.1
   ·have hb:a<ts.length:=by
     by_cases q:a<ts.length
     ·exact q
     ·rw[knd,if_pos (by omega)] at pb;omega
    have:=bar a hb pb
    rcases pa with pa|pa
    ·exact absurd pa this.1
    ·exact absurd pa this.2.2.1
  ·omega
 have bol:∀i:Nat,a<=i->i<b->knd ts i=94->i=a:=λ i h1 h2 e=>by
  obtain⟨q1,q2⟩:=(h.nf i (by omega)).bol e
  by_cases ia:i=a
  ·exact ia
  ·rw[show((i:Nat):Int)-1=((i-1:Nat):Int) by omega] at q2
   have q2:knd ts (i-1:Nat)=124:=q2.resolve_left (by omega)
   have:=Ln (i-1) (by omega) (.inl q2)
   rw[show i-1+1=i by omega] at this
   exact absurd (by rw[<-this];exact q1) (nb (i-1) (by omega) (by omega) q2)
 have eol:∀i:Nat,a<=i->i<b->knd ts i=36->i+1=b:=λ i h1 h2 e=>by
  obtain⟨q1,q2,_⟩:=(h.nf i (by omega)).eol e
  by_cases ib:i+1=b
  ·exact ib
  ·have q2:knd ts (i+1:Nat)=124:=q2.resolve_left (by omega)
   have:=Ln i (by omega) (.inr (.inr e))
   exact absurd (by rw[this];exact q1) (nb (i+1) (by omega) (by omega) q2)
 have kp:knd ((ts.take b).drop a) 0=knd ts a:=G2 ts bl (i:=0) (by omega)
 refine⟨by rw[hlen a b bl];omega,by rw[hlen a b bl];omega,λ w hw=> ?_⟩
 have st:∃a':Nat,w=(ts.take b).drop a'/\a<=a'/\a'<b/\dep (ts.take a')=0/\(∀i:Nat,a'<=i->i<b->knd ts i≠94)/\(knd ts (a'-1:Int)≠97/\knd ts (a'-1:Int)≠41):=by
  rcases hw with⟨e,rfl⟩|⟨e,rfl⟩
  ·rw[kp] at e
   refine⟨a+1,by rw[List.drop_drop],by omega, ?_,by rw[Ln a (by omega) (.inr (.inl e))];exact za,λ i h1 h2 q=>by have:=bol i (by omega) h2 q;omega,by rw[show((a+1:Nat):Int)-1=a by omega,e];omega⟩
   by_cases q:a+1=b
   ·rcases pb with pb|pb
    ·exact absurd (by rw[show((ts.length:Nat):Int)-1=a by omega];exact e) hl.2.2
    ·have hb:b<ts.length:=by
      by_cases q:b<ts.length
      ·exact q
      ·rw[knd,if_pos (by omega)] at pb;omega
     exact absurd (by rw[show((b:Nat):Int)-1=a by omega];exact e) (bar b hb pb).2.2.2
   ·omega
  ·rw[kp] at e
   refine⟨a,rfl,by omega,lt,za,λ i h1 h2 q=> ?_, ?_⟩
   ·have:=bol i h1 h2 q
    subst this
    exact e q
   ·rcases pa with pa|pa
    ·rw[pa];simp[knd]
    ·rw[pa];omega
 obtain⟨a',rfl,h1,h2,z,h94,hpre⟩:=st
 have seqT:∀b':Nat,a'<=b'->b'<=b->dep (ts.take b')=0->(∀i:Nat,a'<=i->i<b'->knd ts i≠36)->Y9 ((ts.take b').drop a'):=λ b' q1 q2 q3 q4=>
  ⟨Ob h.tok q1 (by omega) (by omega) (λ i _ hi=>by rw[z];exact h.ge i (by omega)) (λ i i0 i1=>⟨h94 i i0 (by omega),q4 i i0 i1⟩) λ i i0 i1 e=>by
   have:=(h.nf i (by omega)).rep e
   refine⟨λ ia=> ?_,this⟩
   subst ia
   omega,λ i hi e=>by
   rw[hlen _ _ (by omega)] at hi
   rw[J1 ts (by omega),z]
   rw[G2 ts (by omega) (by omega)] at e
   have:=nb (a'+i) (by omega) (by omega) e
   omega⟩
 have kl:knd ((ts.take b).drop a') ((((ts.take b).drop a').length:Int)-1)=knd ts (b-1:Nat):=by
  rw[hlen a' b bl,show((b-a':Nat):Int)-1=((b-a'-1:Nat):Int) by omega,G2 ts bl (by omega),show a'+(b-a'-1)=b-1 by omega]
 rw[kl,hlen a' b bl]
 refine⟨by omega,λ e=> ?_,λ e=>seqT b (by omega) (by omega) zb λ i i0 i1 q=> ?_⟩
 ·rw[xB,yL,yJ (by omega),show a'+(b-a'-1)=b-1 by omega]
  have:=Ln (b-1) (by omega) (.inr (.inr e))
  rw[show b-1+1=b by omega] at this
  exact seqT (b-1) (by omega) (by omega) (by omega) λ i i0 i1 q=>by have:=eol i (by omega) (by omega) q;omega
 ·have:=eol i (by omega) i1 q
  exact e (by rw[show b-1=i by omega];exact q)
abbrev PsD:=(Int×Int)×Int×Int×List (List Tok)×List Alt×List Alt
abbrev PsO:=Int×Int×List Alt×List Alt
def psI(g:Int)(ps:List (List Tok))(y:PsD):Prop:=y.1.1=ps.length/\0<=y.1.2/\y.1.2<=ps.length/\y.2.2.1=g/\y.2.2.2.1=ps/\(y.2.2.2.2.2.length:Int)=y.1.2/\∀x∈y.2.2.2.2.2,Ce 8000 x.2.2
theorem Vy{N:Nat}(hN:2000000<N){g u j:Int}{ps:List (List Tok)}{as bs:List Alt}{ns:List Bx}{w:List Tok}{b:Bool}{P:PsO->Prop}(hps:ps.length<=2001)(j0:0<=j)(j1:j<ps.length)(ha:(as.length:Int)=j)(hx:∀x∈as,Ce 8000 x.2.2)(h1:1<=w.length)(h2:w.length<=2000)(hs:knd w (w.length-1:Int)=36->Y9 (w.take (w.length-1)))(hs2:knd w (w.length-1:Int)≠36->Y9 w):
  RetK (K:=λ R=>(PsD->Option R)×(PsO->Option R)) (aS λ _ d k=>k d) (λ R k=>jn (F.mt (R:=R) N k.1 k.2) ((w,(ps.length:Int),j),u,g,(b,false),ps,bs,as,ns)) (Sm (psI g ps) (λ y=>((ps.length:Int)-y.1.2).toNat) (((ps.length:Int),j),u,g,ps,bs,as) P):=by
 simp only[jn,F.mt]
 rw[Af (n:=(w.length:Int)-1) (by omega) (by omega),Af (n:=j+1) (by omega) (by omega)]
 have hk:(w.getD ((w.length:Int)-1).toNat zr5).1=knd w (w.length-1:Int):=by rw[knd,if_neg (by omega)]
 have fin:∀(c:Bool) (r:List Bx),(r.length<=8000/\∀x∈r,Cn x)->RetK (K:=λ R=>(PsD->Option R)×(PsO->Option R)) (aS λ _ d k=>k d) (λ R k=>chk (zY (zW as+zW [(b,(c,r))]) (Ar 32))<|k.1 (((ps.length:Int),j+1),u,g,ps,bs,as++[(b,(c,r))])) (Sm (psI g ps) (λ y=>((ps.length:Int)-y.1.2).toNat) (((ps.length:Int),j),u,g,ps,bs,as) P):=λ c r hr=>
  rC (Af8 (by simp only[z8,z9];omega)) (rL (.inl _) ⟨⟨rfl,by dsimp only;omega,by dsimp only;omega,rfl,rfl,by simp only[zA,z8,z9];omega,λ x h=>by
   rcases List.mem_append.1 h with h|h
   ·exact hx x h
   ·cases List.mem_singleton.1 h;exact hr⟩,by dsimp only;omega⟩ λ _ _=>rfl)
 refine rC (Ae (by omega) (by omega)) (rB (λ e=> ?_) λ e=> ?_)
 ·have e:knd w (w.length-1:Int)=36:=by rw[<-hk];exact beq_iff_eq.1 e
  have hq:=hs e
  rw[show w.length-1=((w.length:Int)-1).toNat by omega] at hq
  refine rC (by simp;omega) (rD (seq hN N _ ⟨hq,by simp only[zT,zD];omega⟩ (by simp only[zT,zD];omega)) λ r hr=>fin true r ⟨?_,hr.2⟩)
  have:=hr.1
  simp only[zT,zD] at this
  omega
 ·have e:¬knd w (w.length-1:Int)=36:=by rw[<-hk];exact beq_eq_false_iff_ne.1 e
  refine rD (seq hN N _ ⟨hs2 e,h2⟩ (by omega)) λ r hr=>fin false r ⟨?_,hr.2⟩
  have:=hr.1
  omega
def Ad5(o:(Int×Int×Int)×List Alt):Prop:=Eu 2001 8000 o.2/\0<=o.1.1/\o.1.1<=2000
theorem G6(a b:Int):Ad5 ((0,a,b),[]):=⟨⟨by simp,λ x h=>absurd h (by simp)⟩,by simp,by simp⟩
theorem M2{N:Nat}(hN:2000000<N){s:List UInt8}{ts:List Tok}{b:Bool}{z:Int}{as:List Alt}(hl:ts.length<=2000)(h:Ajq ts)(hb:b=false->0<ts.length/\knd ts (ts.length-1:Int)≠40/\knd ts (ts.length-1:Int)≠124/\knd ts (ts.length-1:Int)≠94):
  Ret (λ R k=>jn (F.dr (R:=R) N k) ((s,ts,b),z,as)) Ad5:=by
 simp only[jn,F.dr]
 refine rB (λ _=>rL _ (G6 _ _) λ _ _=>rfl) λ e=> ?_
 obtain⟨h0,hlast⟩:=hb e
 refine rD (depth ts (by omega) hN (by omega)) ?_
 rintro _ rfl
 rw[zJ,zG]
 refine rB (λ hd=> ?_) λ hd=> ?_
 ·have hd:dep ts>0:=by simpa using hd
  obtain⟨u,u1,u2,u3⟩:=Adw h.ge hd
  rw[Af (n:=(ts.length:Int)-1) (by omega) (by omega)]
  have L2:=rO (s:=λ R=>F.gv (R:=R) N) (app:=λ _ d k=>k d) (P:=λ o:(List Tok×Int)×Int×List Alt=>o.1.1=ts/\0<=o.1.2/\o.1.2<ts.length) (λ y:(List Tok×Int)×Int×List Alt=>y.1.1=ts/\u<=y.1.2/\y.1.2<ts.length) (λ y=>y.1.2.toNat) (λ y hy=>by
   obtain⟨⟨ts',k⟩,x,a⟩:=y
   obtain⟨g1,k0,k1⟩:=hy
   dsimp only at g1 k0 k1
   subst g1
   simp only[F.gv]
   rw[Af (n:=k-1) (by omega) (by omega)]
   have hk:(ts'.getD k.toNat zr5).1=knd ts' k:=by rw[knd,if_neg (by omega)]
   rw[hk]
   have nxt:k≠u->Sm (λ y:(List Tok×Int)×Int×List Alt=>y.1.1=ts'/\u<=y.1.2/\y.1.2<ts'.length) (λ y=>y.1.2.toNat) ((ts',k),x,a) (λ o:(List Tok×Int)×Int×List Alt=>o.1.1=ts'/\0<=o.1.2/\o.1.2<ts'.length) (.inl ((ts',k-1),x,a)):=λ q=>⟨⟨rfl,by dsimp only;omega,by dsimp only;omega⟩,by dsimp only;omega⟩
   refine rC (Ae (by omega) k1) (rB (λ e=>rD (Ap4 ts' (by omega) hN (by omega) k1) λ r hr=>rB (λ q=>rL (.inl _) (nxt λ ku=> ?_) λ _ _=>rfl) λ q=>rL (.inr _) ⟨rfl,by dsimp only;omega,k1⟩ λ _ _=>rfl) λ e=>rL (.inl _) (nxt λ ku=> ?_) λ _ _=>rfl)
   ·rw[ku,zJ] at hr
    rw[hr.2 u3] at q
    cases q
   ·rw[ku] at e
    exact absurd u2 (beq_eq_false_iff_ne.1 e)) N ((ts,(ts.length:Int)-1),z,as) ⟨rfl,by dsimp only;omega,by dsimp only;omega⟩ (by dsimp only;omega)
  refine rD L2 ?_
  rintro⟨⟨ts',k⟩,x,a⟩ ⟨g1,k0,k1⟩
  dsimp only at g1 k0 k1⊢
  subst g1
  exact rC (Ae k0 k1) (rL _ (G6 _ _) λ _ _=>rfl)
 ·have hd:¬dep ts>0:=by simpa using hd
  have hz:dep ts=0:=by
   have:=h.ge ts.length (by omega)
   rw[zG] at this
   omega
  have L4:=rO (s:=λ R=>F.gw (R:=R) N) (app:=λ _ d k=>k d) (P:=λ o:List Tok×Int×Int×List Alt×List Alt=>o.1=ts/\0<=o.2.2.1/\o.2.2.1<=2000/\o.2.2.2.2=[]) (λ y:(List Tok×List Tok×Int×Int)×Int×Int×List Alt×List Alt=>y.1.1=ts/\y.1.2.1=ts/\y.1.2.2.1=ts.length/\0<=y.1.2.2.2/\y.1.2.2.2<=ts.length/\0<=y.2.2.1/\y.2.2.1<=y.1.2.2.2/\y.2.2.2.2=[]) (λ y=>((ts.length:Int)-y.1.2.2.2).toNat) (λ y hy=>by
   obtain⟨⟨t1,t2,n,j⟩,x,g,a,a2⟩:=y
   obtain⟨g1,g2,g3,j0,j1,q0,q1,g4⟩:=hy
   dsimp only at g1 g2 g3 j0 j1 q0 q1 g4
   subst g1 g2 g3 g4
   simp only[F.gw]
   refine rB (λ e=> ?_) λ e=>rL (.inr _) ⟨rfl,q0,by dsimp only;omega,rfl⟩ λ _ _=>rfl
   have e:j<t2.length:=by simpa using e
   rw[Af (n:=j+1) (by omega) (by omega),Af (n:=g+1) (by omega) (by omega)]
   exact rC (Ae j0 e) (rB (λ _=>rL (.inl _) ⟨⟨rfl,rfl,rfl,by dsimp only;omega,by dsimp only;omega,by dsimp only;omega,by dsimp only;omega,rfl⟩,by dsimp only;omega⟩ λ _ _=>rfl) λ _=>rL (.inl _) ⟨⟨rfl,rfl,rfl,by dsimp only;omega,by dsimp only;omega,q0,by dsimp only;omega,rfl⟩,by dsimp only;omega⟩ λ _ _=>rfl)) N ((ts,ts,(ts.length:Int),0),z,0,as,[]) ⟨rfl,rfl,rfl,by simp,by simp,by simp,by simp,rfl⟩ (by dsimp only;omega)
  refine rD L4 ?_
  rintro⟨t1,x,g,a,a2⟩ ⟨g1,q0,q1,g4⟩
  dsimp only at g1 q0 q1 g4⊢
  subst g1 g4
  refine rD (An6 t1 (by omega) hN hz) ?_
  rintro ps ⟨-,p2,p3⟩
  have L6:=rO (s:=λ R=>F.gx (R:=R) N) (app:=λ _ d k=>k d) (P:=λ o:PsO=>o.2.1=g/\Eu 2001 8000 o.2.2.2) (psI g ps) (λ y=>((ps.length:Int)-y.1.2).toNat) (λ y hy=>by
   obtain⟨⟨n,j⟩,u,g',ps',bs,as'⟩:=y
   obtain⟨g1,j0,j1,g2,g3,ha,hx⟩:=hy
   dsimp only at g1 j0 j1 g2 g3 ha hx
   subst g1 g2 g3
   simp only[F.gx]
   refine rB (λ e=> ?_) λ e=>rL (.inr _) ⟨rfl,by dsimp only;omega,hx⟩ λ _ _=>rfl
   have e:j<ps'.length:=by simpa using e
   have hm:ps'.getD j.toNat []∈ps':=by
    rw[List.getD_eq_getElem?_getD,List.getElem?_eq_getElem (show j.toNat<ps'.length by omega)]
    exact zF _
   obtain⟨t0,t1',tw⟩:=An4 h hz h0 hlast (p3 _ hm)
   have hk:(zL (ps'.getD j.toNat []) (yK 0) zr5).1=knd (ps'.getD j.toNat []) 0:=by rw[knd,if_neg (by omega)]
   rw[hk,zG]
   refine rC (Ae j0 e) (rC (Ae (by omega) (by omega)) (rB (λ q=>rC (by simp only[yQ,decide_eq_true_eq];omega) ?_) λ q=> ?_))
   ·have tq:=tw _ (.inl ⟨beq_iff_eq.1 q,rfl⟩)
    exact Vy hN (by omega) j0 e ha hx tq.1 (by simp only[zE];omega) tq.2.1 tq.2.2
   ·have tq:=tw _ (.inr ⟨beq_eq_false_iff_ne.1 q,rfl⟩)
    exact Vy hN (by omega) j0 e ha hx tq.1 (by omega) tq.2.1 tq.2.2) N (((ps.length:Int),0),x,g,ps,a,[]) ⟨rfl,by simp,by simp,rfl,rfl,by simp,by simp⟩ (by dsimp only;omega)
  refine rD L6 ?_
  rintro⟨x,g',a,a2⟩ ⟨g1,hA⟩
  dsimp only at g1 hA⊢
  subst g1
  exact rD (Ko a2 g' (by have:=hA.1;omega) (λ x hx=>by have:=(hA.2 x hx).1;omega) (by omega)) λ v _=>rB (λ _=>rL _ (G6 _ _) λ _ _=>rfl) λ _=>rL _ ⟨hA,q0,q1⟩ λ _ _=>rfl
theorem Am8(s:List UInt8){N:Nat}(hN:2000000<N):Ret (λ R k=>F.lz (R:=R) N s k) Ad5:=by
  simp only[F.lz]
  refine rB (λ _=>rL _ (G6 _ _) λ _ _=>rfl) λ hs=> ?_
  have hs:¬(s.length:Int)>2000:=by simpa using hs
  refine rD (lex s (by omega) hN) ?_
  rintro⟨ts,c,p⟩ ⟨hl,ht,-,-,-,-⟩
  dsimp only at hl ht⊢
  refine rB (λ _=>rL _ (G6 _ _) λ _ _=>rfl) λ _=> ?_
  have L0:=rO (s:=λ R=>F.gu (R:=R) N) (app:=Db) (P:=λ o:(((List UInt8×List Tok)×Int×List Alt)⊕((List UInt8×Int×Int×List Tok)×Int×List Alt))=>match o with|.inl o=>o.1.2=ts/\Ajq ts|.inr o=>o.2.1=0/\o.2.2=[]) (λ y:(List UInt8×List Tok×Int×Int)×Int×List Alt=>y.1.2.1=ts/\y.1.2.2.1=ts.length/\0<=y.1.2.2.2/\y.1.2.2.2<=ts.length/\(∀i:Nat,(i:Int)<y.1.2.2.2->NoF ts i)/\y.2=(0,[])) (λ y=>((ts.length:Int)-y.1.2.2.2).toNat) (λ y hy=>by
    obtain⟨⟨s',t',n,j⟩,g,a⟩:=y
    obtain⟨g1,g2,j0,j1,hn,g3⟩:=hy
    dsimp only at g1 g2 j0 j1 hn g3
    obtain⟨rfl,rfl⟩:=by simpa only[zB] using g3
    subst g1 g2
    simp only[F.gu]
    refine rB (λ e=> ?_) λ e=>rL (.inr (.inl _)) ⟨rfl,ht,λ i hi=>hn i (by have:¬j<t'.length:=(by simpa using e);omega)⟩ λ _ _=>rfl
    have e:j<t'.length:=by simpa using e
    rw[Af (n:=j+1) (by omega) (by omega)]
    refine rD (Axp t' (by omega) hN j0 e) λ v hv=>rB (λ _=>rC (Ae j0 e) (rL (.inr (.inr _)) ⟨rfl,rfl⟩ λ _ _=>rfl)) λ q=>rL (.inl _) ⟨⟨rfl,rfl,by dsimp only;omega,by dsimp only;omega,λ i hi=> ?_,rfl⟩,by dsimp only;omega⟩ λ _ _=>rfl
    have q:v=0:=by simpa using q
    dsimp only at hi
    by_cases ij:(i:Int)=j
    · rw[ij];exact hv.2.2 q
    · exact hn i (by omega)) N ((s,ts,(ts.length:Int),0),0,[]) ⟨rfl,rfl,by simp,by simp,λ i hi=>by dsimp only at hi;omega,rfl⟩ (by dsimp only;omega)
  refine rD L0 ?_
  rintro(⟨⟨s',t'⟩,g,a⟩|⟨⟨s',v,p',t'⟩,g,a⟩) ho
  · obtain⟨g1,hT⟩:=ho
    dsimp only at g1⊢
    subst g1
    dsimp only[Db]
    rw[Af (n:=(t'.length:Int)-1) (by omega) (by omega)]
    refine rD (Arf _ _) ?_
    rintro _ rfl
    exact rB (λ _=>M2 hN (by omega) hT λ h=>by cases h) λ e0=>rB (λ _=>M2 hN (by omega) hT λ h=>by cases h) λ e1=>rB (λ _=>M2 hN (by omega) hT λ h=>by cases h) λ e2=>M2 hN (by omega) hT λ e3=>⟨by have:¬(t'.length:Int)=0:=(by simpa using e0);omega,beq_eq_false_iff_ne.1 e1,beq_eq_false_iff_ne.1 e2,beq_eq_false_iff_ne.1 e3⟩
  · obtain⟨g1,g2⟩:=ho
    dsimp only at g1 g2
    subst g1 g2
    exact rL _ (G6 _ _) λ _ _=>rfl
abbrev Rul:=List Alt×Int
theorem Akm{L:List Int}(hL:Src L){N:Nat}(hN:2000000<N){w:Int}{c:List Int×Int×Int}(hc:Cur L c)(w0:1<=w)(w1:w<=1000):Ret (λ R k=>F.qf (R:=R) N (w,c) k) (λ o=>Cur L o.2.1/\Eu 2001 8000 o.2.2/\0<=o.1/\o.1<=2000):=by
 obtain⟨a,b,d⟩:=c
 simp only[F.qf]
 refine rD (Abe hL (by omega) hc w0 w1) ?_
 rintro⟨s,a,b,d⟩ ⟨-,h2⟩
 dsimp only at h2⊢
 refine rD (Am8 s hN) ?_
 rintro⟨⟨g,v,p⟩,as⟩ ho
 refine rB (λ _=>rD (Am8 _ hN) ?_) λ _=>rL _ ⟨h2,ho.1,ho.2⟩ λ _ _=>rfl
 rintro⟨⟨g,v,p⟩,as⟩ ho
 exact rL _ ⟨h2,ho.1,ho.2⟩ λ _ _=>rfl
def Ad6(n:Nat)(l:List Rul):Prop:=l.length<=n/\∀x∈l,Eu 2001 8000 x.1
theorem Aig{L:List Int}(hL:Src L){N:Nat}(hN:2000000<N){m w:Int}{c:List Int×Int×Int}(hc:Cur L c)(m1:m<=1000)(w0:1<=w)(w1:w<=1000):Ret (λ R k=>F.pf (R:=R) N ((m,w),c) k) (λ o=>Cur L o.2/\Ad6 1001 o.1):=by
 obtain⟨a,b,d⟩:=c
 simp only[F.pf]
 refine rD (Az hL hc (by omega)) ?_
 rintro⟨r,a,b,d⟩ ⟨r0,r1,hc⟩
 dsimp only at r0 r1 hc⊢
 rw[Af (n:=1+r) (by omega) (by omega)]
 have L0:=rO (s:=λ R=>F.bx (R:=R) N) (app:=λ _ d k=>k d) (P:=λ o:(List Int×Int×Int)×List Rul=>Cur L o.1/\Ad6 1001 o.2) (λ y:(Int×Int×Int)×(List Int×Int×Int)×List Rul=>y.1.1=w/\y.1.2.1=1+r/\0<=y.1.2.2/\y.1.2.2<=1+r/\Cur L y.2.1/\(y.2.2.length:Int)<=y.1.2.2/\∀x∈y.2.2,Eu 2001 8000 x.1) (λ y=>(1+r-y.1.2.2).toNat) (λ y hy=>by
  obtain⟨⟨w',n,j⟩,⟨a,b,d⟩,l⟩:=y
  obtain⟨g1,g2,j0,j1,hc,hl,hx⟩:=hy
  dsimp only at g1 g2 j0 j1 hc hl hx
  subst g1 g2
  simp only[F.bx]
  refine rB (λ e=> ?_) λ e=>rL (.inr _) ⟨hc,by dsimp only;omega,hx⟩ λ _ _=>rfl
  have e:j<1+r:=by simpa using e
  rw[Af (n:=j+1) (by omega) (by omega)]
  have put:∀{c:List Int×Int×Int} {as:List Alt} {g:Int},Cur L c->Eu 2001 8000 as->RetK (K:=λ R=>(((Int×Int×Int)×(List Int×Int×Int)×List Rul)->Option R)×(((List Int×Int×Int)×List Rul)->Option R)) (aS λ _ d k=>k d) (λ R k=>chk (zY (zW l+zW [(as,g)]) (Ar 32))<|k.1 ((w',1+r,j+1),c,l++[(as,g)])) (Sm (λ y:(Int×Int×Int)×(List Int×Int×Int)×List Rul=>y.1.1=w'/\y.1.2.1=1+r/\0<=y.1.2.2/\y.1.2.2<=1+r/\Cur L y.2.1/\(y.2.2.length:Int)<=y.1.2.2/\∀x∈y.2.2,Eu 2001 8000 x.1) (λ y=>(1+r-y.1.2.2).toNat) ((w',1+r,j),(a,b,d),l) (λ o:(List Int×Int×Int)×List Rul=>Cur L o.1/\Ad6 1001 o.2)):=λ hc ha=>
   rC (Af8 (by simp only[z8,z9];omega)) (rL (.inl _) ⟨⟨rfl,rfl,by dsimp only;omega,by dsimp only;omega,hc,by simp only[zA,z8,z9];omega,λ x h=>by
    rcases List.mem_append.1 h with h|h
    ·exact hx x h
    ·cases List.mem_singleton.1 h;exact ha⟩,by dsimp only;omega⟩ λ _ _=>rfl)
  have wt:∀{as:List Alt} (g:Int),Eu 2001 8000 as->Ret (λ R k=>F.ak (R:=R) N (as,g) k) (λ _=>True):=λ{as} g ha=>(Ko as g (by have:=ha.1;omega) (λ x hx=>by have:=(ha.2 x hx).1;omega) (by omega)).mono λ _ _=>trivial
  refine rD (Az hL hc (by omega)) ?_
  rintro⟨p,a1,b1,d1⟩ ⟨-,-,hc1⟩
  dsimp only at hc1⊢
  refine rB (λ _=>rD (Amg hL (by omega) hc1) ?_) λ _=>rD (Akm hL hN hc1 w0 w1) ?_
  ·rintro⟨g,⟨a2,b2,d2⟩,as⟩ ⟨-,-,hc2,ha⟩
   dsimp only at hc2 ha⊢
   have ha:Eu 2001 8000 as:=⟨by have:=ha.1;omega,λ x hx=>(ha.2 x hx).mono (by omega)⟩
   exact rD (wt g ha) λ v _=>rB (λ _=>put hc2 ha) λ _=>rL (.inl _) ⟨⟨rfl,rfl,by dsimp only;omega,by dsimp only;omega,hc2,by dsimp only;omega,hx⟩,by dsimp only;omega⟩ λ _ _=>rfl
  ·rintro⟨g,⟨a2,b2,d2⟩,as⟩ ⟨hc2,ha,-,-⟩
   dsimp only at hc2 ha⊢
   refine rD (wt g ha) λ v _=>rB (λ _=>rD (Am8 _ hN) ?_) λ _=>put hc2 ha
   rintro⟨⟨g,v,p⟩,as⟩ ho
   exact put hc2 ho.1) N ((w,1+r,0),(a,b,d),[]) ⟨rfl,rfl,by simp,by dsimp only;omega,hc,by simp,λ x h=>absurd h (by simp)⟩ (by dsimp only;omega)
 refine rD L0 ?_
 rintro⟨⟨a,b,d⟩,l⟩ ho
 exact rL _ ho λ _ _=>rfl
theorem kv1{R:Type}(N:Nat): @F.ao R N=F.ao N:=rfl
theorem rv1{R:Type}(N:Nat): @F.ak R N=F.ak N:=rfl
abbrev NkD:=(List (Int×Int)×Int×Int)×Bx
theorem Aiv(y:Bx)(s:List (Int×Int)){N:Nat}(hy:y.2.1=s)(hs:s.length<=1000)(hN:2000000<N):Aqi (λ R k=>F.va (R:=R) N N ((s,(s.length:Int),0),y) k) (λ _=>True):=by
 refine rO (s:=λ R=>F.gy (R:=R) N) (λ y:NkD=>y.1.1=s/\y.1.2.1=s.length/\0<=y.1.2.2/\y.1.2.2<=s.length/\y.2.2.1=s) (λ y=>((s.length:Int)-y.1.2.2).toNat) ?_ N _ ⟨rfl,rfl,by simp,by simp,hy⟩ (by dsimp only;omega)
 rintro⟨⟨s',n,j⟩,a,b,c,d,e⟩ ⟨g1,g2,j0,j1,g3⟩
 dsimp only at g1 g2 j0 j1 g3
 subst g1 g2 g3
 simp only[F.gy]
 refine rB (λ h=> ?_) λ _=>rL (.inr (.inl ())) trivial λ _ _=>rfl
 have h:j<b.length:=by simpa using h
 have j34:∀(q:Bool) (u v:Int),RetK (K:=λ R=>(NkD->Option R)×((Unit->Option R)×(Bool->Option R))) (aS Db) (λ R k=>jn (F.ji (R:=R) N k.1 (k.2.1,k.2.2)) ((j,b,(b.length:Int),j,q),(a,b,c,d,e),u,v)) (Sm (λ y:NkD=>y.1.1=b/\y.1.2.1=b.length/\0<=y.1.2.2/\y.1.2.2<=b.length/\y.2.2.1=b) (λ y=>((b.length:Int)-y.1.2.2).toNat) ((b,(b.length:Int),j),a,b,c,d,e) (λ _=>True)):=by
  intro q u v
  simp only[jn,F.ji]
  rw[Af (n:=j+1) (by omega) (by omega),Af (n:=j-1) (by omega) (by omega)]
  have nxt:Sm (λ y:NkD=>y.1.1=b/\y.1.2.1=b.length/\0<=y.1.2.2/\y.1.2.2<=b.length/\y.2.2.1=b) (λ y=>((b.length:Int)-y.1.2.2).toNat) ((b,(b.length:Int),j),a,b,c,d,e) (λ _:Unit⊕Bool=>True) (.inl ((b,(b.length:Int),j+1),a,b,c,d,e)):=⟨⟨rfl,rfl,by dsimp only;omega,by dsimp only;omega,rfl⟩,by dsimp only;omega⟩
  refine rB (λ _=>rL (.inr (.inr false)) trivial λ _ _=>rfl) λ _=>rB (λ x=>rC (Ae ?_ (by omega)) (rB (λ _=>rL (.inr (.inr false)) trivial λ _ _=>rfl) λ _=>rL (.inl _) nxt λ _ _=>rfl)) λ _=>rL (.inl _) nxt λ _ _=>rfl
  have x:j>0:=by simpa using x
  omega
 exact rC (Ae j0 h) (rB (λ _=>j34 _ _ _) λ _=>rB (λ _=>j34 _ _ _) λ _=>j34 _ _ _)
theorem Awq(x:Bx){N:Nat}(hs:x.2.1.length<=1000)(hN:2000000<N):Ret (λ R k=>F.rj (R:=R) N x k) (λ o=>o=true->Nf x):=by
 obtain⟨a,s,b,c,d⟩:=x
 have no:Ret (λ R k=>k false) (λ o=>o=true->Nf (a,s,b,c,d)):=rL false (λ e=>by cases e) λ _ _=>rfl
 have j65:Nf (a,s,b,c,d)->Ret (λ R k=>jn (F.jj (R:=R) N k) (a,s,b,c,d)) (λ o=>o=true->Nf (a,s,b,c,d)):=λ h=>by
  simp only[jn,F.jj]
  refine rD (Aiv _ s rfl hs hN) ?_
  rintro(_|v)-
  ·exact rL true (λ _=>h) λ _ _=>rfl
  ·exact rL v (λ _=>h) λ _ _=>rfl
 have j10:1<=a->a<=5->∀q,Ret (λ R k=>jn (F.dt (R:=R) N k) (q,a,s,b,c,d)) (λ o=>o=true->Nf (a,s,b,c,d)):=λ h1 h2 q=>by
  simp only[jn,F.dt]
  refine rB (λ _=>no) λ _=>rB (λ _=>rB (λ _=>no) λ x=>rB (λ _=>no) λ y=>j65 ?_) λ _=>rD (Eo _ _ _) ?_
  ·have x:b=0:=by simpa using x
   have y:c=0:=by simpa using y
   exact⟨h1,h2,by dsimp only;omega,by dsimp only;omega,by dsimp only;omega,by dsimp only;omega⟩
  ·rintro _ rfl
   refine rB (λ _=>no) λ x=> ?_
   obtain⟨x1,x2⟩:0<=b/\b<=255:=by simpa using x
   refine rB (λ _=>rD (Eo _ _ _) ?_) λ y=>j65 ?_
   ·rintro _ rfl
    refine rB (λ _=>no) λ y=>j65 ?_
    obtain⟨y1,y2⟩:b<=c/\c<=255:=by simpa using y
    exact⟨h1,h2,x1,x2,by dsimp only;omega,y2⟩
   ·have y:c=-1:=by simpa using y
    exact⟨h1,h2,x1,x2,by dsimp only;omega,by dsimp only;omega⟩
 simp only[F.rj]
 have j2:∀q,(q=false->1<=a/\a<=5)->Ret (λ R k=>jn (F.pg (R:=R) N k) (q,a,s,b,c,d)) (λ o=>o=true->Nf (a,s,b,c,d)):=λ q hq=>by
  simp only[jn,F.pg]
  refine rB (λ _=>no) λ x=> ?_
  obtain⟨h1,h2⟩:=hq x
  exact rB (λ _=>rB (λ _=>no) λ _=>rB (λ _=>j10 h1 h2 _) λ _=>j10 h1 h2 _) λ _=>rB (λ _=>j10 h1 h2 _) λ _=>j10 h1 h2 _
 refine rB (λ _=>j2 _ λ e=>by cases e) λ x=>j2 _ λ y=> ?_
 have x:¬a<1:=by simpa using x
 have y:¬a>5:=by simpa using y
 omega
def Ast(N:Nat)(ns:List Bx):Prop:=∃l r,∀R (k:Bool×List Int×List Int->Option R),F.ao N ns k=k (true,l,r)
abbrev R4D:=(List Alt×Int×Int×List Bx×Int×Int)×(List Alt×Int)×List Int
abbrev R2D:=(List Alt×Int×Int)×(List Alt×Int)×List Int
abbrev RxO:=Bool×(List Alt×Int)×List Int
theorem Ai7{N:Nat}(hN:2000000<N){as:List Alt}{n j:Int}{ns:List Bx}{rl:List Alt×Int}{gs:List Int}(hl:ns.length<=8000)(hx:∀x∈ns,Cn x)(hg:gs.length<=100000000):
    RetK (K:=λ R=>((R2D->Option R)×((Bool×List Alt×Int×Int)×(List Alt×Int)×List Int->Option R))) Db (λ R k=>F.wu (R:=R) N N ((as,n,j,ns,(ns.length:Int),0),rl,gs) k) (λ o=>match o with|.inl o=>o.1=(as,n,j)/\o.2.1=rl/\o.2.2.length<=gs.length+ns.length/\NOk ns|.inr o=>o.1.1=false):=by
  refine rO (s:=λ R=>F.ky (R:=R) N) (λ y:R4D=>(y.1.1,y.1.2.1,y.1.2.2.1)=(as,n,j)/\y.1.2.2.2.1=ns/\y.1.2.2.2.2.1=ns.length/\0<=y.1.2.2.2.2.2/\y.1.2.2.2.2.2<=ns.length/\y.2.1=rl/\(y.2.2.length:Int)<=gs.length+y.1.2.2.2.2.2/\∀i:Nat,(i:Int)<y.1.2.2.2.2.2->Nf (nd ns i)) (λ y=>((ns.length:Int)-y.1.2.2.2.2.2).toNat) ?_ N _ ⟨rfl,rfl,rfl,by simp,by simp,rfl,by simp,λ i hi=>by dsimp only at hi;omega⟩ (by dsimp only;omega)
  rintro⟨⟨a,n',j',ns',m,i⟩,⟨r1,r2⟩,g⟩ ⟨g1,g2,g3,i0,i1,g4,hgl,hn⟩
  dsimp only at g1 g2 g3 i0 i1 g4 hgl hn
  subst g2 g3
  simp only[F.ky]
  refine rB (λ h=> ?_) λ h=>rL (.inr (.inl _)) ⟨g1,g4,by dsimp only;omega,λ k hk=>hn k (by have:¬i<ns'.length:=(by simpa using h);omega)⟩ λ _ _=>rfl
  have h:i<ns'.length:=by simpa using h
  have hi:i.toNat<ns'.length:=by omega
  have hm:Cn (nd ns' i.toNat):=by
    rw[nd,List.getD_eq_getElem?_getD,List.getElem?_eq_getElem hi]
    exact hx _ (zF hi)
  rw[Af (n:=i+1) (by omega) (by omega)]
  refine rC (Ae i0 h) (rD (Awq (nd ns' i.toNat) (by have:=hm.rl;omega) hN) λ v hv=>rB (λ _=>rL (.inr (.inr ((false,_,_,_),_,_))) rfl λ _ _=>rfl) λ e=> ?_)
  have hf:∀k:Nat,(k:Int)<i+1->Nf (nd ns' k):=λ k hk=>by
    by_cases q:(k:Int)<i
    · exact hn k q
    · rw[show k=i.toNat by omega]
      exact hv (by simpa using e)
  exact rB (λ _=>rC (Bg (by simp only[z8,z9];omega) (by omega)) (rL (.inl _) ⟨⟨g1,rfl,rfl,by dsimp only;omega,by dsimp only;omega,g4,by simp only[zA,z8,z9];omega,hf⟩,by dsimp only;omega⟩ λ _ _=>rfl)) λ _=>rL (.inl _) ⟨⟨g1,rfl,rfl,by dsimp only;omega,by dsimp only;omega,g4,by dsimp only;omega,hf⟩,by dsimp only;omega⟩ λ _ _=>rfl
theorem Ai6{N:Nat}(hN:2000000<N){as:List Alt}{m:Int}(ha:Eu 2001 8000 as):
    RetK (K:=λ R=>((((List Alt×Int)×List Int)->Option R)×(RxO->Option R))) Db (λ R k=>F.wv (R:=R) N N ((as,(as.length:Int),0),(as,m),[]) k) (λ o=>match o with|.inl o=>o.1=(as,m)/\o.2.length<=100000000/\∀x∈as,NOk x.2.2/\Ast N x.2.2|.inr o=>o.1=false):=by
  have hal:=ha.1
  refine rO (s:=λ R=>F.kz (R:=R) N) (λ y:R2D=>y.1.1=as/\y.1.2.1=as.length/\0<=y.1.2.2/\y.1.2.2<=as.length/\y.2.1=(as,m)/\(y.2.2.length:Int)<=8000*y.1.2.2/\∀x∈as.take y.1.2.2.toNat,NOk x.2.2/\Ast N x.2.2) (λ y=>((as.length:Int)-y.1.2.2).toNat) ?_ N _ ⟨rfl,rfl,by simp,by simp,rfl,by simp,λ x hx=>absurd hx (by simp)⟩ (by dsimp only;omega)
  rintro⟨⟨as',n,j⟩,⟨r1,r2⟩,g⟩ ⟨g1,g2,j0,j1,g3,hg,hd⟩
  dsimp only at g1 g2 j0 j1 g3 hg hd
  subst g1 g2
  simp only[F.kz,kv1]
  refine rB (λ h=> ?_) λ h=>rL (.inr (.inl _)) ⟨g3,by dsimp only;omega,by have:¬j<as'.length:=(by simpa using h);rw[show j.toNat=as'.length by omega,zG] at hd;exact hd⟩ λ _ _=>rfl
  have h:j<as'.length:=by simpa using h
  have hj:j.toNat<as'.length:=by omega
  have hgd:as'.getD j.toNat (false,zr0)=as'[j.toNat]:=by rw[List.getD_eq_getElem?_getD,List.getElem?_eq_getElem hj];rfl
  have hm:=ha.2 _ (zF hj)
  have hml:=hm.1
  rw[hgd]
  obtain⟨⟨b,l,r⟩,-,hk⟩:=kids as'[j.toNat].2.2 (N:=N) (by omega) (by omega)
  refine rC (Ae j0 h) (rD (app':=λ _ d k=>k d) (P':=λ o=>o=(b,l,r)) ⟨_,rfl,hk⟩ ?_)
  rintro _ rfl
  refine rB (λ _=>rL (.inr (.inr (false,_,_))) rfl λ _ _=>rfl) λ e=> ?_
  have e:b=true:=by simpa using e
  subst e
  refine rD (Ai7 hN (by omega) hm.2 (by omega)) ?_
  rintro(⟨⟨a,n',j'⟩,⟨r1',r2'⟩,g'⟩|⟨⟨b,a,n',j'⟩,⟨r1',r2'⟩,g'⟩) ho
  · obtain⟨q1,q2,q3,q4⟩:=ho
    dsimp only at q1 q2 q3
    obtain⟨rfl,rfl,rfl⟩:=by simpa only[zB] using q1
    obtain⟨rfl,rfl⟩:=by simpa only[zB] using q2
    dsimp only[Db]
    rw[Af (n:=j'+1) (by omega) (by omega)]
    refine rL (.inl _) ⟨⟨rfl,rfl,by dsimp only;omega,by dsimp only;omega,g3,by dsimp only;omega,λ x hx=> ?_⟩,by dsimp only;omega⟩ λ _ _=>rfl
    dsimp only at hx
    rw[show(j'+1).toNat=j'.toNat+1 by omega,zH hj] at hx
    rcases List.mem_append.1 hx with hx|hx
    · exact hd x hx
    · cases List.mem_singleton.1 hx
      exact⟨q4,l,r,hk⟩
  · exact rL (.inr (.inr (b,_,_))) ho λ _ _=>rfl
theorem Ai8{N:Nat}(hN:200000000<N){g:Int}{rl:List Alt×Int}{gs:List Int}(hg:gs.length<=100000000):Ret (λ R k=>F.ww (R:=R) N N ((g,0,(gs.length:Int),0),rl,gs) k) (λ o=>o.1.1=g/\o.2=(rl,gs)):=by
 refine rO (s:=λ R=>F.la (R:=R) N) (λ y:(Int×Int×Int×Int)×(List Alt×Int)×List Int=>y.1.1=g/\y.1.2.2.1=gs.length/\0<=y.1.2.2.2/\y.1.2.2.2<=gs.length/\y.2.1=rl/\y.2.2=gs) (λ y=>((gs.length:Int)-y.1.2.2.2).toNat) ?_ N _ ⟨rfl,rfl,by simp,by simp,rfl,rfl⟩ (by dsimp only;omega)
 rintro⟨⟨g',t,n,j⟩,⟨r1,r2⟩,gs'⟩ ⟨g1,g2,j0,j1,g3,g4⟩
 dsimp only at g1 g2 j0 j1 g3 g4
 subst g1 g2 g3 g4
 simp only[F.la]
 refine rB (λ h=> ?_) λ h=>rL (.inr _) ⟨rfl,rfl⟩ λ _ _=>rfl
 have h:j<gs'.length:=by simpa using h
 rw[Af (n:=j+1) (by omega) (by omega)]
 exact rC (Ae j0 h) (rB (λ _=>rL (.inl _) ⟨⟨rfl,rfl,by dsimp only;omega,by dsimp only;omega,rfl,rfl⟩,by dsimp only;omega⟩ λ _ _=>rfl) λ _=>rL (.inl _) ⟨⟨rfl,rfl,by dsimp only;omega,by dsimp only;omega,rfl,rfl⟩,by dsimp only;omega⟩ λ _ _=>rfl)
def tot(as:List Alt):Nat:=(as.map λ x=>x.2.2.length).sum
theorem V9(as:List Alt){j:Nat}(h:j<as.length):tot (as.take (j+1))=tot (as.take j)+as[j].2.2.length:=by
 rw[zH h,tot,zK,yZ]
 rfl
theorem An5{as:List Alt}(h:∀x∈as,x.2.2.length<=8000):∀j,j<=as.length->tot (as.take j)<=8000*j
 | 0,_=>by simp[tot]
 | j+1,hj=>by
  have:=An5 h j (by omega)
  have:=h _ (zF (show j<as.length by omega))
  rw[V9 as (by omega)]
  omega
theorem Awu(as:List Alt)(m:Int){N:Nat}(hN:200000000<N)(ha:Eu 2001 8000 as):Ret (λ R k=>F.ta (R:=R) N (as,m) k) (λ o=>o=true->Ti N 2000 as/\tot as<=5000):=by
  have hal:=ha.1
  have no:Ret (λ R k=>k false) (λ o=>o=true->Ti N 2000 as/\tot as<=5000):=rL false (λ e=>by cases e) λ _ _=>rfl
  have j2:∀q,(q=false->0<=m/\m<=500)->Ret (λ R k=>jn (F.qo (R:=R) N k) (q,as,m)) (λ o=>o=true->Ti N 2000 as/\tot as<=5000):=λ q hq=>by
    simp only[jn,F.qo,rv1]
    refine rB (λ _=>no) λ e=> ?_
    obtain⟨m0,m1⟩:=hq e
    have L0:=rO (s:=λ R=>F.kx (R:=R) N) (app:=λ _ d k=>k d) (P:=λ o:Int×(List Alt×Int)×List Int=>o.2=((as,m),[])/\o.1=tot as) (λ y:(Int×List Alt×Int×Int)×(List Alt×Int)×List Int=>y.1.2.1=as/\y.1.2.2.1=as.length/\0<=y.1.2.2.2/\y.1.2.2.2<=as.length/\y.2=((as,m),[])/\y.1.1=tot (as.take y.1.2.2.2.toNat)) (λ y=>((as.length:Int)-y.1.2.2.2).toNat) (λ y hy=>by
      obtain⟨⟨c,a,n,j⟩,⟨r1,r2⟩,g⟩:=y
      obtain⟨g1,g2,j0,j1,g3,g4⟩:=hy
      dsimp only at g1 g2 j0 j1 g3 g4
      subst g1 g2
      simp only[F.kx]
      refine rB (λ h=> ?_) λ h=>rL (.inr (c,(r1,r2),g)) ⟨g3,by have:¬j<a.length:=(by simpa using h);rw[show j.toNat=a.length by omega,zG] at g4;exact g4⟩ λ _ _=>rfl
      have h:j<a.length:=by simpa using h
      rw[Af (n:=j+1) (by omega) (by omega)]
      have hj:j.toNat<a.length:=by omega
      have t1:=V9 a hj
      have t2:=An5 (λ x hx=>(ha.2 x hx).1) (j.toNat+1) (by omega)
      have hgd:a.getD j.toNat (false,zr0)=a[j.toNat]:=by rw[List.getD_eq_getElem?_getD,List.getElem?_eq_getElem hj];rfl
      rw[hgd,Af (n:=c+_) (by omega) (by omega)]
      exact rC (Ae j0 h) (rL (.inl _) ⟨⟨rfl,rfl,by dsimp only;omega,by dsimp only;omega,g3,by dsimp only;rw[show(j+1).toNat=j.toNat+1 by omega];omega⟩,by dsimp only;omega⟩ λ _ _=>rfl)) N ((0,as,(as.length:Int),0),(as,m),[]) ⟨rfl,rfl,by simp,by simp,rfl,by simp[tot]⟩ (by dsimp only;omega)
    refine rD L0 ?_
    rintro⟨c,⟨r1,r2⟩,g⟩ ⟨g3,g4⟩
    dsimp only at g4
    obtain⟨⟨rfl,rfl⟩,rfl⟩:=by simpa only[zB] using g3
    refine rB (λ _=>no) λ h5=>rD (Ai6 (by omega) ha) ?_
    have h5:¬c>5000:=by simpa using h5
    rintro(⟨⟨r1',r2'⟩,gs⟩|⟨b,⟨r1',r2'⟩,gs⟩) ho
    · obtain⟨q1,q2,q3⟩:=ho
      dsimp only at q1 q2
      obtain⟨rfl,rfl⟩:=by simpa only[zB] using q1
      dsimp only[Db]
      refine rB (λ _=>no) λ _=> ?_
      have L6:=rO (s:=λ R=>F.lb (R:=R) N) (app:=Db) (P:=λ o:(List Alt×Int)⊕(Bool×List Alt×Int)=>match o with|.inl o=>o=(r1',r2')|.inr o=>o.1=false) (λ y:Int×(List Alt×Int)×List Int=>1<=y.1/\y.1<=r2'+1/\y.2=((r1',r2'),gs)) (λ y=>(r2'+1-y.1).toNat) (λ y hy=>by
        obtain⟨j,⟨a,b⟩,g⟩:=y
        obtain⟨j0,j1,g3⟩:=hy
        dsimp only at j0 j1 g3
        obtain⟨⟨rfl,rfl⟩,rfl⟩:=by simpa only[zB] using g3
        simp only[F.lb]
        refine rB (λ h=>rD (Ai8 hN q2) ?_) λ h=>rL (.inr (.inl _)) rfl λ _ _=>rfl
        have h:j<=b:=by simpa using h
        rintro⟨⟨x,y⟩,⟨a',b'⟩,g'⟩ ⟨h1,h2⟩
        dsimp only at h1 h2⊢
        obtain⟨⟨rfl,rfl⟩,rfl⟩:=by simpa only[zB] using h2
        subst h1
        rw[Af (n:=x+1) (by omega) (by omega)]
        exact rB (λ _=>rL (.inr (.inr (false,_,_))) rfl λ _ _=>rfl) λ _=>rL (.inl _) ⟨⟨by dsimp only;omega,by dsimp only;omega,rfl⟩,by dsimp only;omega⟩ λ _ _=>rfl) N (1,(r1',r2'),gs) ⟨by simp,by dsimp only;omega,rfl⟩ (by dsimp only;omega)
      refine rD L6 ?_
      rintro(⟨a,b⟩|⟨q,a,b⟩) ho
      · obtain⟨rfl,rfl⟩:=by simpa only[zB] using(show(a,b)=(r1',r2') from ho)
        dsimp only[Db]
        refine rD (Ko a b (by omega) (λ x hx=>by have:=(ha.2 x hx).1;omega) (by omega)) λ v hv=>rL _ (λ e=> ?_) λ _ _=>rfl
        have e:v<=2000:=by simpa using e
        refine⟨λ x hx=> ?_,by omega⟩
        obtain⟨l,r,W,w1,w2,w3⟩:=hv q3 x hx
        exact⟨l,r,W,w1,w2,by omega⟩
      · obtain rfl:q=false:=ho
        exact no
    · obtain rfl:b=false:=ho
      exact no
  simp only[F.ta]
  refine rD (Eo _ _ _) ?_
  rintro _ rfl
  refine rB (λ _=>j2 _ λ e=>by cases e) λ _=>rD (Eo _ _ _) ?_
  rintro _ rfl
  exact j2 _ λ e=>by simpa using e
theorem Awh(l:List Rul){N:Nat}(hN:200000000<N)(hl:∀x∈l,Eu 2001 8000 x.1):Ret (λ R k=>F.rk (R:=R) N l k) (λ o=>o=true->l.length<=100/\∀x∈l,Ti N 2000 x.1/\tot x.1<=5000):=by
  simp only[F.rk]
  have no:Ret (λ R k=>k false) (λ o=>o=true->l.length<=100/\∀x∈l,Ti N 2000 x.1/\tot x.1<=5000):=rL false (λ e=>by cases e) λ _ _=>rfl
  refine rB (λ _=>no) λ h100=> ?_
  have h100:¬(l.length:Int)>100:=by simpa using h100
  have L0:=rO (s:=λ R=>F.gz (R:=R) N) (app:=Db) (P:=λ o:Int⊕(Bool×Int)=>match o with|.inl _=>∀x∈l,Ti N 2000 x.1/\tot x.1<=5000|.inr o=>o.1=false) (λ y:Int×List Rul×Int×Int=>y.2.1=l/\y.2.2.1=l.length/\0<=y.2.2.2/\y.2.2.2<=l.length/\∀x∈l.take y.2.2.2.toNat,Ti N 2000 x.1/\tot x.1<=5000) (λ y=>((l.length:Int)-y.2.2.2).toNat) (λ y hy=>by
    obtain⟨a,l',n,j⟩:=y
    obtain⟨g1,g2,j0,j1,hd⟩:=hy
    dsimp only at g1 g2 j0 j1 hd
    subst g1 g2
    simp only[F.gz,rv1]
    refine rB (λ h=> ?_) λ h=>rL (.inr (.inl _)) (by have:¬j<l'.length:=(by simpa using h);rw[show j.toNat=l'.length by omega,zG] at hd;exact hd) λ _ _=>rfl
    have h:j<l'.length:=by simpa using h
    have hj:j.toNat<l'.length:=by omega
    have hgd:l'.getD j.toNat zr6=l'[j.toNat]:=by rw[List.getD_eq_getElem?_getD,List.getElem?_eq_getElem hj];rfl
    have hm:=hl _ (zF hj)
    have hml:=hm.1
    rw[hgd,Af (n:=j+1) (by omega) (by omega)]
    refine rC (Ae j0 h) (rD (Awu _ _ hN hm) λ v hv=>rB (λ _=>rL (.inr (.inr (false,_))) rfl λ _ _=>rfl) λ e=>rD (Ko l'[j.toNat].1 l'[j.toNat].2 (N:=N) (by omega) (λ x hx=>by have:=(hm.2 x hx).1;omega) (by omega)) λ w _=>rL (.inl _) ⟨⟨rfl,rfl,by dsimp only;omega,by dsimp only;omega,λ x hx=> ?_⟩,by dsimp only;omega⟩ λ _ _=>rfl)
    dsimp only at hx
    rw[show(j+1).toNat=j.toNat+1 by omega,zH hj] at hx
    rcases List.mem_append.1 hx with hx|hx
    · exact hd x hx
    · cases List.mem_singleton.1 hx
      exact hv (by simpa using e)) N (0,l,(l.length:Int),0) ⟨rfl,rfl,by simp,by simp,λ x hx=>absurd hx (by simp)⟩ (by dsimp only;omega)
  refine rD L0 ?_
  rintro(v|⟨b,v⟩) ho
  · exact rL _ (λ _=>⟨by omega,ho⟩) λ _ _=>rfl
  · obtain rfl:b=false:=ho
    exact no
abbrev C4:=Int×Int×Int×List (Int×Int)
abbrev WBr:=Int×Bool×Bool×Int
abbrev WO:=Int×List C4×List WBr
abbrev wnd(ws:List C4)(i:Nat):C4:=zL ws i ((0:Int),((0:Int),((0:Int),([]:List (Int×Int)))))
structure WAt(x:C4)(i:Nat):Prop where
 two:x.1=113\/x.1=111->0<=x.2.1/\x.2.1<i/\0<=x.2.2.1/\x.2.2.1<i
 one:x.1=42->0<=x.2.1/\x.2.1<i
 st:x.2.2.2.length<=256
def WN(ws:List C4):Prop:=∀i,i<ws.length->WAt (wnd ws i) i
theorem WN.app{ws:List C4}{x:C4}(h:WN ws)(hx:WAt x ws.length):WN (ws++[x]):=by
 intro i hi
 simp only[zA,z8,z9] at hi
 by_cases q:i<ws.length
 ·have:=h i q
  rw[wnd,List.getD_eq_getElem?_getD,List.getElem?_append_left q]
  rw[wnd,List.getD_eq_getElem?_getD] at this
  exact this
 ·obtain rfl:i=ws.length:=by omega
  rw[wnd,List.getD_eq_getElem?_getD,List.getElem?_append_right (xE _)]
  simpa using hx
structure Wr(ws:List C4)(bs:List WBr)(C:Nat)(o:WO):Prop where
 i0:0<=o.1
 i1:o.1<o.2.1.length
 wn:WN o.2.1
 le:ws.length<=o.2.1.length
 mo:o.2.1.length<=ws.length+C
 bs:o.2.2=bs
theorem Ady(x:C4)(ws:List C4)(bs:List WBr)(h:ws.length<=1000000000000):Ret (λ R k=>F.ag (R:=R) (x,ws,bs) k) (λ o=>o=((ws.length:Int),ws++[x],bs)):=by
 obtain⟨a,b,c,d⟩:=x
 simp only[F.ag]
 refine rC (by rw[zN];simp only[Ar,z8,z9];omega) (rL _ ?_ λ _ _=>rfl)
 simp only[zA,z8,z9]
 rw[Af (by omega) (by omega),show((ws.length+(0+1):Nat):Int)-1=ws.length by omega]
abbrev WT:=List Bx×List Int×List Int×List UInt8
abbrev WD:=(WT×Int)×List C4×List WBr
abbrev CD:=(WT×Int×Int×Int)×List C4×List WBr
def bnd(C:Nat)(mn mx:Int):Nat:=if mx=-1 then(mn.toNat+1)*(C+4) else mx.toNat*(C+4)+1
theorem Aa5(C:Nat)(mn:Int):bnd C mn (-1)=(mn.toNat+1)*(C+4):=rfl
theorem Aj1{C:Nat}{mn:Int}(h:0<mn):bnd C mn (-1)=bnd C (mn-1) (-1)+(C+4):=by
 rw[Aa5,Aa5,show mn.toNat+1=((mn-1).toNat+1)+1 by omega,yI ((mn-1).toNat+1)]
theorem Aj2{C:Nat}{mn mn' mx:Int}(h:0<mx):bnd C mn mx=bnd C mn' (mx-1)+(C+4):=by
 have e:mx.toNat=(mx-1).toNat+1:=by omega
 rw[bnd,bnd,if_neg (by omega),if_neg (by omega),e,yI]
 omega
theorem Asp{N:Nat}{t:WT}{i:Int}{C:Nat}{f:∀R,WD->(WO->Option R)->Option R}(hf:∀ws bs,WN ws->ws.length+C<=1000000000000->Ret (λ R k=>f R ((t,i),ws,bs) k) (Wr ws bs C)):∀n (d:CD),(d.1.1=t/\d.1.2.1=i/\0<=d.1.2.2.1/\d.1.2.2.1<=255/\-1<=d.1.2.2.2/\d.1.2.2.2<=255/\WN d.2.1/\d.2.1.length+bnd C d.1.2.2.1 d.1.2.2.2<=1000000000000)->(d.1.2.2.1+d.1.2.2.2+1).toNat<n->Ret (λ R k=>F.aq (R:=R) N (f R) n d k) (Wr d.2.1 d.2.2 (bnd C d.1.2.2.1 d.1.2.2.2)):=by
 refine rR (s:=λ R=>F.jc (R:=R) N (f R)) (app:=λ _ d k=>k d) _ (λ(d:CD) o=>Wr d.2.1 d.2.2 (bnd C d.1.2.2.1 d.1.2.2.2) o) (λ d=>(d.1.2.2.1+d.1.2.2.2+1).toNat) λ g d hI rec=> ?_
 obtain⟨⟨⟨a,b,c,e⟩,i',mn,mx⟩,ws,bs⟩:=d
 obtain⟨g1,g2,n0,n1,x0,x1,hw,hlen⟩:=hI
 dsimp only at g1 g2 n0 n1 x0 x1 hw hlen rec⊢
 subst g1 g2
 have j81:∀rest:Int,-1<=rest->rest<=255->(mn=0->0<=rest)->(∀m:Int,(0<mn/\m=mn-1\/mn=0/\m=0)->(m+rest+1).toNat<(mn+mx+1).toNat/\bnd C mn mx=bnd C m rest+(C+4))->Ret (λ R k=>jn (F.eb (R:=R) N (f R) (g R) k) ((i',mn,rest),(a,b,c,e),ws,bs)) (Wr ws bs (bnd C mn mx)):=by
  intro rest r0 r1 rm hm
  simp only[jn,F.eb]
  rw[Af (n:=mn-1) (by omega) (by omega)]
  refine rB (λ h=> ?_) λ h=> ?_
  ·have h:0<mn:=by simpa using h
   obtain⟨m1,m2⟩:=hm (mn-1) (.inl ⟨h,rfl⟩)
   refine rD (hf ws bs hw (by omega)) ?_
   rintro⟨p,ws1,bs1⟩ ⟨p0,p1,p2,p3,p4,p5⟩
   dsimp only at p0 p1 p2 p3 p4 p5⊢
   subst p5
   refine rD (rec (((a,b,c,e),i',mn-1,rest),ws1,bs1) ⟨rfl,rfl,by dsimp only;omega,by dsimp only;omega,r0,r1,p2,by dsimp only;omega⟩ m1) ?_
   rintro⟨q,ws2,bs2⟩ ⟨q0,q1,q2,q3,q4,q5⟩
   dsimp only at q0 q1 q2 q3 q4 q5⊢
   subst q5
   refine rD (Ady _ ws2 bs2 (by omega)) ?_
   rintro _ rfl
   refine rL _ ⟨by dsimp only;omega,by dsimp only;simp only[zA,z8,z9];omega,q2.app ⟨λ _=>⟨p0,by dsimp only;omega,q0,q1⟩,λ e=>(by cases e),zS _⟩, ?_, ?_,rfl⟩ λ _ _=>rfl<;>simp only[zA,z8,z9]<;>omega
  ·have h:mn=0:=by have:¬0<mn:=(by simpa using h);omega
   obtain⟨m1,m2⟩:=hm 0 (.inr ⟨h,rfl⟩)
   refine rD (hf ws bs hw (by omega)) ?_
   rintro⟨p,ws1,bs1⟩ ⟨p0,p1,p2,p3,p4,p5⟩
   dsimp only at p0 p1 p2 p3 p4 p5⊢
   subst p5
   refine rD (rec (((a,b,c,e),i',0,rest),ws1,bs1) ⟨rfl,rfl,by dsimp only;omega,by dsimp only;omega,r0,r1,p2,by dsimp only;omega⟩ m1) ?_
   rintro⟨q,ws2,bs2⟩ ⟨q0,q1,q2,q3,q4,q5⟩
   dsimp only at q0 q1 q2 q3 q4 q5⊢
   subst q5
   refine rD (Ady _ ws2 bs2 (by omega)) ?_
   rintro _ rfl
   have w1:WN (ws2++[((113:Int),p,q,([]:List (Int×Int)))]):=q2.app ⟨λ _=>⟨p0,by dsimp only;omega,q0,q1⟩,λ e=>(by cases e),zS _⟩
   have w2:=w1.app (x:=((101:Int),(0:Int),(0:Int),([]:List (Int×Int)))) ⟨λ e=>(by rcases e with e|e<;>cases e),λ e=>(by cases e),zS _⟩
   dsimp only
   refine rD (Ady _ _ bs2 (by simp only[zA,z8,z9];omega)) ?_
   rintro _ rfl
   dsimp only
   refine rD (Ady _ _ bs2 (by simp only[zA,z8,z9];omega)) ?_
   rintro _ rfl
   refine rL _ ⟨by dsimp only;omega, ?_,w2.app ⟨λ _=>⟨by dsimp only;omega, ?_,by dsimp only;omega, ?_⟩,λ e=>(by cases e),zS _⟩, ?_, ?_,rfl⟩ λ _ _=>rfl<;>simp only[zA,z8,z9]<;>omega
 have j2:∀q:Bool,(q=true->mn=0/\mx=-1)->(q=false->mn=0->mx≠-1)->Ret (λ R k=>jn (F.gh (R:=R) N (f R) (g R) k) ((i',mn,mx,q),(a,b,c,e),ws,bs)) (Wr ws bs (bnd C mn mx)):=by
  intro q h1 h2
  simp only[jn,F.gh]
  refine rB (λ h=> ?_) λ h=>rB (λ h3=> ?_) λ h3=>rB (λ h4=> ?_) λ h4=> ?_
  ·obtain⟨rfl,rfl⟩:=h1 h
   have hb:bnd C 0 (-1)=C+4:=by simp[bnd]
   rw[hb] at hlen⊢
   refine rD (hf ws bs hw (by omega)) ?_
   rintro⟨p,ws1,bs1⟩ ⟨p0,p1,p2,p3,p4,p5⟩
   dsimp only at p0 p1 p2 p3 p4 p5⊢
   subst p5
   refine rD (Ady _ ws1 bs1 (by omega)) ?_
   rintro _ rfl
   refine rL _ ⟨by dsimp only;omega, ?_,p2.app ⟨λ e=>(by rcases e with e|e<;>cases e),λ _=>⟨p0,p1⟩,zS _⟩, ?_, ?_,rfl⟩ λ _ _=>rfl<;>simp only[zA,z8,z9]<;>omega
  ·have h3:mx=0:=by simpa using h3
   subst h3
   have hb:bnd C mn 0=1:=by simp[bnd]
   rw[hb] at hlen⊢
   refine rD (Ady _ ws bs (by omega)) ?_
   rintro _ rfl
   refine rL _ ⟨by dsimp only;omega, ?_,hw.app ⟨λ e=>(by rcases e with e|e<;>cases e),λ e=>(by cases e),zS _⟩, ?_, ?_,rfl⟩ λ _ _=>rfl<;>simp only[zA,z8,z9]<;>omega
  ·have h4:0<mx:=by simpa using h4
   rw[Af (n:=mx-1) (by omega) (by omega)]
   exact j81 (mx-1) (by omega) (by omega) (λ _=>by omega) λ m hm=>⟨by omega,Aj2 h4⟩
  ·have h3:mx≠0:=by simpa using h3
   have h4:¬0<mx:=by simpa using h4
   obtain rfl:mx=-1:=by omega
   have hne:=h2 h
   exact j81 (-1) (by omega) (by omega) (λ e=>absurd rfl (hne e)) λ m hm=>by
    obtain⟨hm2,rfl⟩:0<mn/\m=mn-1:=by omega
    exact⟨by omega,Aj1 hm2⟩
 simp only[F.jc]
 refine rB (λ h=>j2 _ (λ e=>⟨by simpa using h,by simpa using e⟩) λ e _=>by simpa using e) λ h=>j2 false (λ e=>by cases e) λ _ e=>absurd e (by simpa using h)
structure Bud(ns:List Bx)(l r:List Int)(Q:Nat->Prop)(b:Nat->Nat):Prop where
 one:∀j,j<ns.length->Q j->1<=b j/\b j<=1000000000
 two:∀j,j<ns.length->Q j->(nd ns j).1=2\/(nd ns j).1=3->Q (l.getD j 0).toNat/\Q (r.getD j 0).toNat/\b (l.getD j 0).toNat+b (r.getD j 0).toNat+1<=b j
 rep:∀j,j<ns.length->Q j->(nd ns j).1=4->Q (l.getD j 0).toNat/\(b (l.getD j 0).toNat+4)*(cp (nd ns j)).toNat+1<=b j
 grp:∀j,j<ns.length->Q j->(nd ns j).1=5->Q (l.getD j 0).toNat/\b (l.getD j 0).toNat<=b j
theorem Ax3{ns:List Bx}{l r:List Int}{s:List UInt8}{Q:Nat->Prop}{b:Nat->Nat}{N:Nat}(hN:2000000<N)(hk:I9 ns l r ns.length)(hn:NOk ns)(hst:∀j,j<ns.length->(nd ns j).2.1.length<=256)(hB:Bud ns l r Q b):∀n (d:WD),(d.1.1=(ns,l,r,s)/\0<=d.1.2/\d.1.2<ns.length/\Q d.1.2.toNat/\WN d.2.1/\d.2.1.length+b d.1.2.toNat<=1000000000000)->d.1.2.toNat<n->Ret (λ R k=>F.bz (R:=R) N n d k) (Wr d.2.1 d.2.2 (b d.1.2.toNat)):=by
 refine rR (s:=λ R=>F.kg (R:=R) N) (app:=λ _ d k=>k d) _ (λ(d:WD) o=>Wr d.2.1 d.2.2 (b d.1.2.toNat) o) (λ d=>d.1.2.toNat) λ g d hI rec=> ?_
 obtain⟨⟨⟨ns',l',r',s'⟩,i⟩,ws,bs⟩:=d
 obtain⟨g1,i0,i1,hQ,hw,hlen⟩:=hI
 dsimp only at g1 i0 i1 hQ hw hlen rec⊢
 obtain⟨rfl,rfl,rfl,rfl⟩:=by simpa only[zB] using g1
 have q1:=hk.ll
 have q2:=hk.rl
 have hi:i.toNat<ns'.length:=by omega
 have hf:=hn i.toNat hi
 obtain⟨b1,b2⟩:=hB.one _ hi hQ
 simp only[F.kg]
 have child:∀(j:Int) (ws1:List C4),0<=j->j<i.toNat->Q j.toNat->WN ws1->ws1.length+b j.toNat<=1000000000000->Ret (λ R k=>g R (((ns',l',r',s'),j),ws1,bs) k) (Wr ws1 bs (b j.toNat)):=λ j ws1 h1 h2 h3 h4 h5=>rec (((ns',l',r',s'),j),ws1,bs) ⟨rfl,h1,by dsimp only;omega,h3,h4,h5⟩ (by dsimp only;omega)
 have two:∀v:Int,v=113\/v=111->((nd ns' i.toNat).1=2\/(nd ns' i.toNat).1=3)->Ret (λ R k=>chk (inB i l'.length)<|g R (((ns',l',r',s'),l'.getD i.toNat 0),ws,bs) λ x=>chk (inB i r'.length)<|g R (((ns',l',r',s'),r'.getD i.toNat 0),x.2.1,x.2.2) λ y=>F.ag ((v,x.1,y.1,[]),y.2.1,y.2.2) k) (Wr ws bs (b i.toNat)):=by
  intro v hv h
  have ha:ar (nd ns' i.toNat).1=2:=by rcases h with h|h<;>rw[h]<;>rfl
  have k1:=hk.one _ hi (by omega)
  have k2:=hk.two _ hi ha
  obtain⟨c1,c2,c3⟩:=hB.two _ hi hQ h
  refine rC (Ae i0 (by omega)) (rD (child _ ws k1.1 k1.2 c1 hw (by omega)) ?_)
  rintro⟨p,ws1,bs1⟩ ⟨p0,p1,p2,p3,p4,p5⟩
  dsimp only at p0 p1 p2 p3 p4 p5⊢
  subst p5
  refine rC (Ae i0 (by omega)) (rD (child _ ws1 k2.1 k2.2 c2 p2 (by omega)) ?_)
  rintro⟨q,ws2,bs2⟩ ⟨q0,q1,q2,q3,q4,q5⟩
  dsimp only at q0 q1 q2 q3 q4 q5⊢
  subst q5
  refine(Ady _ ws2 bs2 (by omega)).mono ?_
  rintro _ rfl
  refine⟨by dsimp only;omega, ?_,q2.app ⟨λ _=>⟨p0,by dsimp only;omega,q0,q1⟩,λ e=>(by have e:v=42:=e;omega),zS _⟩, ?_, ?_,rfl⟩<;>simp only[zA,z8,z9]<;>omega
 have rep:(nd ns' i.toNat).1=4->Ret (λ R k=>chk (inB i l'.length)<|F.aq N (g R) N (((ns',l',r',s'),l'.getD i.toNat 0,(nd ns' i.toNat).2.2.1,(nd ns' i.toNat).2.2.2.1),ws,bs) k) (Wr ws bs (b i.toNat)):=by
  intro h
  have k1:=hk.one _ hi (by rw[h];decide)
  obtain⟨c1,c2⟩:=hB.rep _ hi hQ h
  obtain⟨-,-,f1,f2,f3,f4⟩:=hf
  have hb:bnd (b (l'.getD i.toNat 0).toNat) (nd ns' i.toNat).2.2.1 (nd ns' i.toNat).2.2.2.1<=(b (l'.getD i.toNat 0).toNat+4)*(cp (nd ns' i.toNat)).toNat+1:=by
   rw[bnd,cp,Af (n:=(nd ns' i.toNat).2.2.1+1) (by omega) (by omega),Nat.mul_comm (b (l'.getD i.toNat 0).toNat+4)]
   split
   ·rw[show((nd ns' i.toNat).2.2.1+1).toNat=(nd ns' i.toNat).2.2.1.toNat+1 by omega]
    omega
   ·split
    ·rw[show(nd ns' i.toNat).2.2.2.1.toNat=0 by omega]
     omega
    ·omega
  refine rC (Ae i0 (by omega)) ((Asp (C:=b (l'.getD i.toNat 0).toNat) (λ ws1 bs1 h1 h2=> ?_) N (((ns',l',r',s'),l'.getD i.toNat 0,(nd ns' i.toNat).2.2.1,(nd ns' i.toNat).2.2.2.1),ws,bs) ⟨rfl,rfl,f1,f2,f3,f4,hw,by dsimp only;omega⟩ (by dsimp only;omega)).mono λ o ho=>⟨ho.i0,ho.i1,ho.wn,ho.le,by have:=ho.mo;dsimp only at this;omega,ho.bs⟩)
  exact rec (((ns',l',r',s'),l'.getD i.toNat 0),ws1,bs1) ⟨rfl,k1.1,by dsimp only;omega,c1,h1,h2⟩ (by dsimp only;omega)
 have grp:(nd ns' i.toNat).1=5->Ret (λ R k=>chk (inB i l'.length)<|g R (((ns',l',r',s'),l'.getD i.toNat 0),ws,bs) k) (Wr ws bs (b i.toNat)):=by
  intro h
  have k1:=hk.one _ hi (by rw[h];decide)
  obtain⟨c1,c2⟩:=hB.grp _ hi hQ h
  exact rC (Ae i0 (by omega)) ((child _ ws k1.1 k1.2 c1 hw (by omega)).mono λ o ho=>⟨ho.i0,ho.i1,ho.wn,ho.le,by have:=ho.mo;omega,ho.bs⟩)
 obtain⟨f1,f2,-⟩:=hf
 refine rC (Ae i0 i1) (rB (λ h=> ?_) λ h1=>rB (λ h2=>rB (λ _=> ?_) λ h3=>absurd h2 (by rw[show((nd ns' i.toNat).1==2)=false from h3];decide)) λ h2=>rB (λ h3=> ?_) λ h3=>rB (λ h4=> ?_) λ h4=> ?_)
 ·refine rD (Ady _ ws bs (by omega)) ?_
  rintro _ rfl
  refine rL _ ⟨by dsimp only;omega, ?_,hw.app ⟨λ e=>(by rcases e with e|e<;>cases e),λ e=>(by cases e),hst _ hi⟩, ?_, ?_,rfl⟩ λ _ _=>rfl<;>simp only[zA,z8,z9]<;>omega
 ·obtain⟨o,ho,e⟩:=two 113 (.inl rfl) (.inl (beq_iff_eq.1 h2))
  refine rL o ho λ R k=> ?_
  rw[show((nd ns' i.toNat).1==2)=true from h2]
  exact e R k
 ·obtain⟨o,ho,e⟩:=two 111 (.inr rfl) (.inr (beq_iff_eq.1 h3))
  refine rL o ho λ R k=> ?_
  rw[show((nd ns' i.toNat).1==2)=false from h2]
  exact e R k
 ·exact rD (rep (beq_iff_eq.1 h4)) λ o ho=>rL o ho λ _ _=>rfl
 ·have h1:¬(nd ns' i.toNat).1=1:=beq_eq_false_iff_ne.1 h1
  have h2:¬(nd ns' i.toNat).1=2:=beq_eq_false_iff_ne.1 h2
  have h3:¬(nd ns' i.toNat).1=3:=beq_eq_false_iff_ne.1 h3
  have h4:¬(nd ns' i.toNat).1=4:=beq_eq_false_iff_ne.1 h4
  exact rD (grp (by omega)) λ o ho=>rL o ho λ _ _=>rfl
theorem Avu{ns:List Bx}{l r W:List Int}(hl:ns.length<=8000)(hk:I9 ns l r ns.length)(hn:NOk ns)(hW:Rf ns l r W ns.length):Bud ns l r (λ j=>j<ns.length/\W.getD j 0<=2000) (λ j=>5*((j+1)*(W.getD j 0).toNat)):=by
 have up:∀{i j:Nat} {w:Nat},i<j->(i+1)*w<=j*w:=λ h=>Nat.mul_le_mul_right _ h
 refine⟨λ j hj hq=> ?_,λ j hj hq e=> ?_,λ j hj hq e=> ?_,λ j hj hq e=> ?_⟩
 ·have w1:=(hW j hj).lo
  have:1*1<=(j+1)*(W.getD j 0).toNat:=zU (by omega) (by omega)
  have:(j+1)*(W.getD j 0).toNat<=8000*2000:=zU (by omega) (by omega)
  omega
 ·have ha:ar (nd ns j).1=2:=by rcases e with h|h<;>rw[h]<;>rfl
  have k1:=hk.one j hj (by omega)
  have k2:=hk.two j hj ha
  have w0:=hW j hj
  have w1:=hW (l.getD j 0).toNat (by omega)
  have w2:=hW (r.getD j 0).toNat (by omega)
  have w3:=(w0.two e).resolve_left (by omega)
  have x1:=w1.lo
  have x2:=w2.lo
  refine⟨⟨by omega,by omega⟩,⟨by omega,by omega⟩, ?_⟩
  have y1:=up (i:=(l.getD j 0).toNat) (j:=j) (w:=(W.getD (l.getD j 0).toNat 0).toNat) (by omega)
  have y2:=up (i:=(r.getD j 0).toNat) (j:=j) (w:=(W.getD (r.getD j 0).toNat 0).toNat) (by omega)
  have y3:j*((W.getD (l.getD j 0).toNat 0).toNat+(W.getD (r.getD j 0).toNat 0).toNat)<=j*(W.getD j 0).toNat:=Nat.mul_le_mul_left _ (by omega)
  rw[Nat.mul_add] at y3
  rw[yI j]
  omega
 ·have k1:=hk.one j hj (by rw[e];decide)
  have c1:=Abd (hn j hj)
  have w0:=hW j hj
  have w1:=hW (l.getD j 0).toNat (by omega)
  have w3:=(w0.rep e).resolve_left (by omega)
  have x1:=w1.lo
  have x2:W.getD (l.getD j 0).toNat 0*1<=W.getD (l.getD j 0).toNat 0*cp (nd ns j):=Int.mul_le_mul_of_nonneg_left c1.1 (by omega)
  have x3:1*cp (nd ns j)<=W.getD (l.getD j 0).toNat 0*cp (nd ns j):=Int.mul_le_mul_of_nonneg_right x1 (by omega)
  refine⟨⟨by omega,by omega⟩, ?_⟩
  have y0:(W.getD (l.getD j 0).toNat 0).toNat*(cp (nd ns j)).toNat<=(W.getD j 0).toNat:=by
   have e1:((W.getD (l.getD j 0).toNat 0).toNat:Int)=W.getD (l.getD j 0).toNat 0:=by omega
   have e2:((cp (nd ns j)).toNat:Int)=cp (nd ns j):=by omega
   have:(((W.getD (l.getD j 0).toNat 0).toNat*(cp (nd ns j)).toNat:Nat):Int)<=W.getD j 0:=by rw[Int.natCast_mul,e1,e2];exact w3
   omega
  have y1:((l.getD j 0).toNat+1)*((W.getD (l.getD j 0).toNat 0).toNat*(cp (nd ns j)).toNat)<=j*(W.getD j 0).toNat:=zU (by omega) y0
  rw[Nat.add_mul,xD 5,xD ((l.getD j 0).toNat+1),yI j]
  omega
 ·have k1:=hk.one j hj (by rw[e];decide)
  have w0:=hW j hj
  have w1:=hW (l.getD j 0).toNat (by omega)
  have w3:=(w0.grp e).resolve_left (by omega)
  have x1:=w1.lo
  refine⟨⟨by omega,by omega⟩, ?_⟩
  have:((l.getD j 0).toNat+1)*(W.getD (l.getD j 0).toNat 0).toNat<=(j+1)*(W.getD j 0).toNat:=zU (by omega) (by omega)
  omega
def Aap(n:Nat)(bs:List WBr):Prop:=∀b∈bs,0<=b.1/\b.1<=99/\0<=b.2.2.2/\b.2.2.2<n
theorem Aap.mono{n m:Nat}{bs:List WBr}(h:Aap n bs)(e:n<=m):Aap m bs:=λ b hb=>by have:=h b hb;omega
abbrev W2D:=(Int×List Rul×Int×Int×List Alt×Int×Int)×List C4×List WBr×List C4×List WBr
abbrev W0D:=(List Rul×Int×Int)×List C4×List WBr×List C4×List WBr
theorem Aqb{N:Nat}(hN:200000000<N){i n z:Int}{rs:List Rul}{as:List Alt}{w0 ws:List C4}{b0 bs:List WBr}(i0:0<=i)(i1:i<=99)(ha:Eu 2001 8000 as)(hb:Ti N 2000 as)(ht:tot as<=5000)(hw:WN ws)(hl:ws.length<=10000000000)(hbs:Aap ws.length bs)(hbl:bs.length<=1000000):
  Ret (λ R k=>F.vt (R:=R) N N ((i,rs,n,z,as,(as.length:Int),0),w0,b0,ws,bs) k) (λ o=>o.1=(rs,n,z)/\WN o.2.2.2.1/\o.2.2.2.1.length<=ws.length+50000000/\Aap o.2.2.2.1.length o.2.2.2.2/\o.2.2.2.2.length<=bs.length+2001):=by
 have hal:=ha.1
 refine rO (s:=λ R=>F.jk (R:=R) N) (λ y:W2D=>y.1.1=i/\(y.1.2.1,y.1.2.2.1,y.1.2.2.2.1)=(rs,n,z)/\y.1.2.2.2.2.1=as/\y.1.2.2.2.2.2.1=as.length/\0<=y.1.2.2.2.2.2.2/\y.1.2.2.2.2.2.2<=as.length/\WN y.2.2.2.1/\y.2.2.2.1.length<=ws.length+10000*tot (as.take y.1.2.2.2.2.2.2.toNat)/\Aap y.2.2.2.1.length y.2.2.2.2/\(y.2.2.2.2.length:Int)<=bs.length+y.1.2.2.2.2.2.2) (λ y=>((as.length:Int)-y.1.2.2.2.2.2.2).toNat) ?_ N _ ⟨rfl,rfl,rfl,rfl,by simp,by simp,hw,by simp,hbs,by simp⟩ (by dsimp only;omega)
 rintro⟨⟨i',rs',n',z',as',m,j⟩,u1,u2,ws',bs'⟩ ⟨g1,g2,g3,g4,j0,j1,hw',hl',hb',hbl'⟩
 dsimp only at g1 g2 g3 g4 j0 j1 hw' hl' hb' hbl'
 subst g1 g3 g4
 simp only[F.jk]
 have tl:∀q,q<=as'.length->tot (as'.take q)<=tot as':=λ q hq=>by
  have:=congrArg tot (zM q as')
  rw[tot,zK,yZ] at this
  rw[tot]
  omega
 refine rB (λ h=> ?_) λ h=>rL (.inr _) ⟨g2,hw',by have:=tl j.toNat (by omega);dsimp only;omega,hb',by dsimp only;omega⟩ λ _ _=>rfl
 have h:j<as'.length:=by simpa using h
 have hj:j.toNat<as'.length:=by omega
 have hgd:as'.getD j.toNat (false,zr0)=as'[j.toNat]:=by rw[List.getD_eq_getElem?_getD,List.getElem?_eq_getElem hj];rfl
 have hm:=zF hj
 have hml:=(ha.2 _ hm).1
 obtain⟨l,r,W,bw,nok,hW⟩:=hb _ hm
 have hne:=List.length_pos_iff.2 bw.ne
 have t1:=V9 as' hj
 have t2:=tl (j.toNat+1) (by omega)
 rw[hgd,Af (n:=j+1) (by omega) (by omega),Af (n:=(as'[j.toNat].2.2.length:Int)-1) (by omega) (by omega)]
 refine rC (Ae j0 h) (rD (app':=λ _ d k=>k d) (P':=λ o=>o=((as'[j.toNat].2.2,([]:List UInt8)),l,r)) ⟨_,rfl,λ R k=> ?_⟩ ?_)
 ·simp only[F.vb,kv1]
  exact bw.kids R _
 rintro _ rfl
 have hst:∀q,q<as'[j.toNat].2.2.length->(nd as'[j.toNat].2.2 q).2.1.length<=256:=λ q hq=>by
  rw[nd,List.getD_eq_getElem?_getD,List.getElem?_eq_getElem hq]
  exact((ha.2 _ hm).2 _ (zF hq)).rl
 have hbud:=Avu hml bw.ok nok (bw.wt nok)
 have e1:((as'[j.toNat].2.2.length:Int)-1).toNat=as'[j.toNat].2.2.length-1:=by omega
 have hq:5*((as'[j.toNat].2.2.length-1+1)*(W.getD (as'[j.toNat].2.2.length-1) 0).toNat)<=10000*as'[j.toNat].2.2.length:=by
  have:(as'[j.toNat].2.2.length-1+1)*(W.getD (as'[j.toNat].2.2.length-1) 0).toNat<=as'[j.toNat].2.2.length*2000:=zU (by omega) (by omega)
  omega
 refine rD (Ax3 (by omega) bw.ok nok hst hbud N (((as'[j.toNat].2.2,l,r,([]:List UInt8)),(as'[j.toNat].2.2.length:Int)-1),ws',bs') ⟨rfl,by dsimp only;omega,by dsimp only;omega,by dsimp only;rw[e1];exact⟨by omega,hW⟩,hw',by dsimp only;rw[e1];omega⟩ (by dsimp only;omega)) ?_
 rintro⟨p,ws1,bs1⟩ ⟨p0,p1,p2,p3,p4,p5⟩
 dsimp only at p0 p1 p2 p3 p4 p5⊢
 rw[e1] at p4
 subst p5
 refine rC (Uh (by simp only[z8,z9];omega)) (rL (.inl _) ⟨⟨rfl,g2,rfl,rfl,by dsimp only;omega,by dsimp only;omega,p2,by dsimp only;rw[show(j+1).toNat=j.toNat+1 by omega];omega,λ x hx=> ?_,by simp only[zA,z8,z9];omega⟩,by dsimp only;omega⟩ λ _ _=>rfl)
 rcases List.mem_append.1 hx with hx|hx
 ·exact hb'.mono p3 x hx
 ·cases List.mem_singleton.1 hx
  exact⟨i0,i1,p0,p1⟩
structure Ie(o:List C4×List WBr):Prop where
 wn:WN o.1
 l:o.1.length<=10000000000
 bs:Aap o.1.length o.2
 bl:o.2.length<=1000000
theorem Aqa{N:Nat}(hN:200000000<N){rs:List Rul}(h1:rs.length<=100)(h2:∀x∈rs,Eu 2001 8000 x.1)(h3:∀x∈rs,Ti N 2000 x.1/\tot x.1<=5000):Ret (λ R k=>F.sd (R:=R) N rs k) Ie:=by
 simp only[F.sd]
 have L0:=rO (s:=λ R=>F.jl (R:=R) N) (app:=λ _ d k=>k d) (P:=λ o:List C4×List WBr×List C4×List WBr=>Ie (o.2.2.1,o.2.2.2)) (λ y:W0D=>y.1.1=rs/\y.1.2.1=rs.length/\0<=y.1.2.2/\y.1.2.2<=rs.length/\WN y.2.2.2.1/\(y.2.2.2.1.length:Int)<=50000000*y.1.2.2/\Aap y.2.2.2.1.length y.2.2.2.2/\(y.2.2.2.2.length:Int)<=2001*y.1.2.2) (λ y=>((rs.length:Int)-y.1.2.2).toNat) (λ y hy=>by
  obtain⟨⟨rs',n,j⟩,u1,u2,ws,bs⟩:=y
  obtain⟨g1,g2,j0,j1,hw,hl,hb,hbl⟩:=hy
  dsimp only at g1 g2 j0 j1 hw hl hb hbl
  subst g1 g2
  simp only[F.jl]
  refine rB (λ h=> ?_) λ h=>rL (.inr (u1,u2,ws,bs)) ⟨hw,by dsimp only;omega,hb,by dsimp only;omega⟩ λ _ _=>rfl
  have h:j<rs'.length:=by simpa using h
  have hj:j.toNat<rs'.length:=by omega
  have hgd:rs'.getD j.toNat zr6=rs'[j.toNat]:=by rw[List.getD_eq_getElem?_getD,List.getElem?_eq_getElem hj];rfl
  have hm:=zF hj
  rw[hgd]
  refine rC (Ae j0 h) (rD (Aqb hN j0 (by omega) (h2 _ hm) (h3 _ hm).1 (h3 _ hm).2 hw (by omega) hb (by omega)) ?_)
  rintro⟨⟨a,b,c⟩,u1',u2',ws1,bs1⟩ ⟨q1,q2,q3,q4,q5⟩
  dsimp only at q1 q2 q3 q4 q5⊢
  obtain⟨rfl,rfl,rfl⟩:=by simpa only[zB] using q1
  rw[Af (n:=c+1) (by omega) (by omega)]
  exact rL (.inl _) ⟨⟨rfl,rfl,by dsimp only;omega,by dsimp only;omega,q2,by dsimp only;omega,q4,by dsimp only;omega⟩,by dsimp only;omega⟩ λ _ _=>rfl) N ((rs,(rs.length:Int),0),[],[],[],[]) ⟨rfl,rfl,by simp,by simp,λ i hi=>absurd hi (by simp),by simp,λ b hb=>absurd hb (by simp),by simp⟩ (by dsimp only;omega)
 refine rD L0 ?_
 rintro⟨u1,u2,ws,bs⟩ ho
 exact rL _ ho λ _ _=>rfl
theorem has(s:List (Int×Int))(c:Int){N:Nat}(hs:s.length<=256)(hN:2000000<N):Ret (λ R k=>F.qp (R:=R) N (s,c) k) (λ _=>True):=by
 simp only[F.qp]
 have L0:=rO (s:=λ R=>F.mu (R:=R) N) (app:=Db) (P:=λ _:Unit⊕Bool=>True) (λ y:Int×List (Int×Int)×Int×Int=>y.2.1=s/\y.2.2.1=s.length/\0<=y.2.2.2/\y.2.2.2<=s.length) (λ y=>((s.length:Int)-y.2.2.2).toNat) (λ y hy=>by
  obtain⟨a,s',n,j⟩:=y
  obtain⟨g1,g2,j0,j1⟩:=hy
  dsimp only at g1 g2 j0 j1
  subst g1 g2
  simp only[F.mu]
  refine rB (λ h=> ?_) λ h=>rL (.inr (.inl ())) trivial λ _ _=>rfl
  have h:j<s'.length:=by simpa using h
  rw[Af (n:=j+1) (by omega) (by omega)]
  exact rC (Ae j0 h) (rD (Eo _ _ _) λ v _=>rB (λ _=>rL (.inr (.inr true)) trivial λ _ _=>rfl) λ _=>rL (.inl _) ⟨⟨rfl,rfl,by dsimp only;omega,by dsimp only;omega⟩,by dsimp only;omega⟩ λ _ _=>rfl)) N (c,s,(s.length:Int),0) ⟨rfl,rfl,by simp,by simp⟩ (by dsimp only;omega)
 refine rD L0 ?_
 rintro(_|b)-
 ·exact rL false trivial λ _ _=>rfl
 ·exact rL b trivial λ _ _=>rfl
theorem Q4{ws:List C4}(h:WN ws){i:Int}(i0:0<=i)(i1:i<ws.length):WAt (wnd ws i.toNat) i.toNat:=h _ (by omega)
abbrev Whl:=List C4×List WBr
theorem Akp{ws:List C4}{bs:List WBr}(h:WN ws){N:Nat}:∀n (d:Whl×Int),(d.1=(ws,bs)/\0<=d.2/\d.2<ws.length)->d.2.toNat<n->Ret (λ R k=>F.an (R:=R) N n d k) λ _=>True:=by
 refine rR (s:=λ R=>F.qq (R:=R) N) (app:=λ _ d k=>k d) _ (λ _ _=>True) (λ d=>d.2.toNat) λ g d hI rec=> ?_
 obtain⟨⟨a,b⟩,i⟩:=d
 obtain⟨g1,i0,i1⟩:=hI
 dsimp only at g1 i0 i1 rec⊢
 obtain⟨rfl,rfl⟩:=by simpa only[zB] using g1
 have w:=Q4 h i0 i1
 simp only[F.qq]
 have call:∀j:Int,0<=j->j<i.toNat->Ret (λ R k=>g R ((a,b),j) k) λ _=>True:=λ j j0 j1=>rec ((a,b),j) ⟨rfl,j0,by dsimp only;omega⟩ (by dsimp only;omega)
 refine rC (Ae i0 i1) (rB (λ _=>rL _ trivial λ _ _=>rfl) λ _=>rB (λ e=> ?_) λ _=>rB (λ e=> ?_) λ _=>rL _ trivial λ _ _=>rfl)
 ·obtain⟨h1,h2,h3,h4⟩:=w.two (.inl (beq_iff_eq.1 e))
  exact rD (call _ h1 h2) λ _ _=>rB (λ _=>rD (call _ h3 h4) λ _ _=>rL _ trivial λ _ _=>rfl) λ _=>rL _ trivial λ _ _=>rfl
 ·obtain⟨h1,h2,h3,h4⟩:=w.two (.inr (beq_iff_eq.1 e))
  exact rD (call _ h1 h2) λ _ _=>rB (λ _=>rL _ trivial λ _ _=>rfl) λ _=>rD (call _ h3 h4) λ _ _=>rL _ trivial λ _ _=>rfl
theorem Aue{ws:List C4}{bs:List WBr}{ms:List Bool}(h:WN ws)(hm:ms.length=ws.length){N:Nat}(hN:ws.length<N):∀n (d:Whl×Int×List Bool),(d.1=(ws,bs)/\0<=d.2.1/\d.2.1<ws.length/\d.2.2=ms)->d.2.1.toNat<n->Ret (λ R k=>F.bg (R:=R) N n d k) λ _=>True:=by
 refine rR (s:=λ R=>F.qr (R:=R) N) (app:=λ _ d k=>k d) _ (λ _ _=>True) (λ d=>d.2.1.toNat) λ g d hI rec=> ?_
 obtain⟨⟨a,b⟩,i,m⟩:=d
 obtain⟨g1,i0,i1,g2⟩:=hI
 dsimp only at g1 i0 i1 g2 rec⊢
 obtain⟨rfl,rfl⟩:=by simpa only[zB] using g1
 subst g2
 have w:=Q4 h i0 i1
 simp only[F.qr]
 have call:∀j:Int,0<=j->j<i.toNat->Ret (λ R k=>g R ((a,b),j,m) k) λ _=>True:=λ j j0 j1=>rec ((a,b),j,m) ⟨rfl,j0,by dsimp only;omega,rfl⟩ (by dsimp only;omega)
 have emp:∀j:Int,0<=j->j<i.toNat->Ret (λ R k=>F.an (R:=R) N N ((a,b),j) k) λ _=>True:=λ j j0 j1=>Akp h N ((a,b),j) ⟨rfl,j0,by dsimp only;omega⟩ (by dsimp only;omega)
 have fin:∀c:Bool,Ret (λ R k=>k c) λ _=>True:=λ c=>rL c trivial λ _ _=>rfl
 refine rC (Ae i0 i1) (rB (λ _=>rC (Ae i0 (by omega)) (fin _)) λ _=>rB (λ e=> ?_) λ _=>rB (λ e=> ?_) λ _=>rB (λ e=> ?_) λ _=>fin _)
 ·obtain⟨h1,h2,h3,h4⟩:=w.two (.inl (beq_iff_eq.1 e))
  exact rD (call _ h3 h4) λ _ _=>rB (λ _=>fin _) λ _=>rD (call _ h1 h2) λ _ _=>rB (λ _=>rD (emp _ h3 h4) λ _ _=>fin _) λ _=>fin _
 ·obtain⟨h1,h2,h3,h4⟩:=w.two (.inr (beq_iff_eq.1 e))
  exact rD (call _ h1 h2) λ _ _=>rB (λ _=>fin _) λ _=>rD (call _ h3 h4) λ _ _=>fin _
 ·obtain⟨h1,h2⟩:=w.one (beq_iff_eq.1 e)
  exact rD (call _ h1 h2) λ _ _=>fin _
theorem shift{ws:List C4}{bs:List WBr}{ms:List Bool}{c:Int}(h:WN ws)(hm:ms.length=ws.length){N:Nat}(hN:ws.length<N)(hN2:2000000<N):∀n (d:(Whl×Int×Bool×List Bool×Int)×List Bool),(d.1.1=(ws,bs)/\0<=d.1.2.1/\d.1.2.1<ws.length/\d.1.2.2.2=(ms,c)/\d.2.length=ws.length)->d.1.2.1.toNat<n->Ret (λ R k=>F.lc (R:=R) N n d k) λ o=>o.length=ws.length:=by
 refine rR (s:=λ R=>F.qt (R:=R) N) (app:=λ _ d k=>k d) _ (λ _ o=>o.length=ws.length) (λ d=>d.1.2.1.toNat) λ g d hI rec=> ?_
 obtain⟨⟨⟨a,b⟩,i,q,m,c'⟩,out⟩:=d
 obtain⟨g1,i0,i1,g2,ho⟩:=hI
 dsimp only at g1 i0 i1 g2 ho rec⊢
 obtain⟨rfl,rfl⟩:=by simpa only[zB] using g1
 obtain⟨rfl,rfl⟩:=by simpa only[zB] using g2
 have w:=Q4 h i0 i1
 simp only[F.qt]
 have call:∀(j:Int) (q:Bool) (out:List Bool),0<=j->j<i.toNat->out.length=a.length->Ret (λ R k=>g R (((a,b),j,q,m,c'),out) k) λ o=>o.length=a.length:=λ j q out j0 j1 ho=>rec (((a,b),j,q,m,c'),out) ⟨rfl,j0,by dsimp only;omega,rfl,ho⟩ (by dsimp only;omega)
 have emp:∀j:Int,0<=j->j<i.toNat->Ret (λ R k=>F.an (R:=R) N N ((a,b),j) k) λ _=>True:=λ j j0 j1=>Akp h N ((a,b),j) ⟨rfl,j0,by dsimp only;omega⟩ (by dsimp only;omega)
 have fnl:∀j:Int,0<=j->j<i.toNat->Ret (λ R k=>F.bg (R:=R) N N ((a,b),j,m) k) λ _=>True:=λ j j0 j1=>Aue h hm hN N ((a,b),j,m) ⟨rfl,j0,by dsimp only;omega,rfl⟩ (by dsimp only;omega)
 have fin:∀o:List Bool,o.length=a.length->Ret (λ R k=>k o) λ o=>o.length=a.length:=λ o ho=>rL o ho λ _ _=>rfl
 refine rC (Ae i0 i1) (rB (λ _=>rB (λ _=>rD (has _ _ w.st hN2) λ _ _=>rB (λ _=>rC (Ae i0 (by omega)) (fin _ (by simp only[zC];exact ho))) λ _=>fin _ ho) λ _=>fin _ ho) λ _=>rB (λ e=> ?_) λ _=>rB (λ e=> ?_) λ _=>rB (λ e=> ?_) λ _=>fin _ ho)
 ·obtain⟨h1,h2,h3,h4⟩:=w.two (.inl (beq_iff_eq.1 e))
  exact rD (call _ _ _ h1 h2 ho) λ o1 ho1=>rB (λ _=>rD (emp _ h1 h2) λ _ _=>rB (λ _=>rD (call _ _ _ h3 h4 ho1) λ o2 ho2=>fin o2 ho2) λ _=>rD (fnl _ h1 h2) λ _ _=>rD (call _ _ _ h3 h4 ho1) λ o2 ho2=>fin o2 ho2) λ _=>rD (fnl _ h1 h2) λ _ _=>rD (call _ _ _ h3 h4 ho1) λ o2 ho2=>fin o2 ho2
 ·obtain⟨h1,h2,h3,h4⟩:=w.two (.inr (beq_iff_eq.1 e))
  exact rD (call _ _ _ h1 h2 ho) λ o1 ho1=>rD (call _ _ _ h3 h4 ho1) λ o2 ho2=>fin o2 ho2
 ·obtain⟨h1,h2⟩:=w.one (beq_iff_eq.1 e)
  exact rB (λ _=>rD (call _ _ _ h1 h2 ho) λ o2 ho2=>fin o2 ho2) λ _=>rD (fnl _ h1 h2) λ _ _=>rD (call _ _ _ h1 h2 ho) λ o2 ho2=>fin o2 ho2
section
variable{o:Whl}{N:Nat}{ms:List Bool}
theorem Asv(h:Ie o){j:Int}(j0:0<=j)(j1:j<o.2.length):0<=(zL o.2 j.toNat ((0:Int),zr8)).1/\(zL o.2 j.toNat ((0:Int),zr8)).1<=99/\0<=(zL o.2 j.toNat ((0:Int),zr8)).2.2.2/\(zL o.2 j.toNat ((0:Int),zr8)).2.2.2<o.1.length:=by
 have hj:j.toNat<o.2.length:=by omega
 have:=h.bs _ (zF hj)
 rw[List.getD_eq_getElem?_getD,List.getElem?_eq_getElem hj]
 exact this
theorem after(h:Ie o)(hm:ms.length=o.1.length)(hN:10000000000<N)(b:Bool)(c:Int):Ret (λ R k=>F.si (R:=R) N (o,b,ms,c) k) λ r=>r.length=o.1.length:=by
 obtain⟨ws,bs⟩:=o
 have hl:=h.l
 have hbl:=h.bl
 dsimp only at hm hl hbl
 simp only[F.si]
 have L0:=rO (s:=λ R=>F.jq (R:=R) N) (app:=λ _ d k=>k d) (P:=λ r:List Bool=>r.length=ws.length) (λ y:(Bool×List Bool×Int×List WBr×Int×Int)×Whl×List Bool=>y.1.2.1=ms/\y.1.2.2.2.1=bs/\y.1.2.2.2.2.1=bs.length/\0<=y.1.2.2.2.2.2/\y.1.2.2.2.2.2<=bs.length/\y.2.1=(ws,bs)/\y.2.2.length=ws.length) (λ y=>((bs.length:Int)-y.1.2.2.2.2.2).toNat) (λ y hy=>by
  obtain⟨⟨b,ms',c,bs',n,j⟩,⟨w1,w2⟩,out⟩:=y
  obtain⟨g1,g2,g3,j0,j1,g4,ho⟩:=hy
  dsimp only at g1 g2 g3 j0 j1 g4 ho
  subst g1 g2 g3
  obtain⟨rfl,rfl⟩:=by simpa only[zB] using g4
  simp only[F.jq]
  refine rB (λ e=> ?_) λ e=>rL (.inr _) ho λ _ _=>rfl
  have e:j<w2.length:=by simpa using e
  obtain⟨-,-,t0,t1⟩:=Asv h j0 e
  dsimp only at t0 t1
  rw[Af (n:=j+1) (by omega) (by omega)]
  have call:∀q:Bool,Ret (λ R k=>F.lc (R:=R) N N (((w1,w2),(zL w2 j.toNat ((0:Int),zr8)).2.2.2,q,ms',c),out) k) λ o=>o.length=w1.length:=λ q=>shift h.wn hm (by dsimp only;omega) (by omega) N (((w1,w2),(zL w2 j.toNat ((0:Int),zr8)).2.2.2,q,ms',c),out) ⟨rfl,t0,t1,rfl,ho⟩ (by dsimp only;omega)
  exact rC (Ae j0 e) (rB (λ _=>rD (call _) λ r hr=>rL (.inl _) ⟨⟨rfl,rfl,rfl,by dsimp only;omega,by dsimp only;omega,rfl,hr⟩,by dsimp only;omega⟩ λ _ _=>rfl) λ _=>rD (call _) λ r hr=>rL (.inl _) ⟨⟨rfl,rfl,rfl,by dsimp only;omega,by dsimp only;omega,rfl,hr⟩,by dsimp only;omega⟩ λ _ _=>rfl)) N ((b,ms,c,bs,(bs.length:Int),0),(ws,bs),zZ ws.length false) ⟨rfl,rfl,rfl,by simp,by simp,rfl,zI⟩ (by dsimp only;omega)
 rw[hm,zJ]
 exact rC (by simp) (rC (by rw[zN];simp only[Ar];omega) (rD L0 λ r hr=>rL r hr λ _ _=>rfl))
abbrev AnD:=(Bool×List Bool×Bool×Int×List WBr×Int×Int)×List C4×List WBr
theorem Aeb(h:Ie o)(hm:ms.length=o.1.length)(hN:10000000000<N)(b e:Bool):Ret (λ R k=>F.pq (R:=R) N (o,b,ms,e) k) λ r=>-1<=r/\r<=99:=by
 obtain⟨ws,bs⟩:=o
 have hl:=h.l
 have hbl:=h.bl
 dsimp only at hm hl hbl
 simp only[F.pq]
 have L0:=rO (s:=λ R=>F.ic (R:=R) N) (app:=λ _ d k=>k d) (P:=λ r:Int=>-1<=r/\r<=99) (λ y:AnD=>y.1.2.1=ms/\(-1<=y.1.2.2.2.1/\y.1.2.2.2.1<=99)/\y.1.2.2.2.2.1=bs/\y.1.2.2.2.2.2.1=bs.length/\0<=y.1.2.2.2.2.2.2/\y.1.2.2.2.2.2.2<=bs.length/\y.2=(ws,bs)) (λ y=>((bs.length:Int)-y.1.2.2.2.2.2.2).toNat) (λ y hy=>by
  obtain⟨⟨b,ms',ee,z,bs',n,j⟩,w1,w2⟩:=y
  obtain⟨g1,hz,g2,g3,j0,j1,g4⟩:=hy
  dsimp only at g1 hz g2 g3 j0 j1 g4
  subst g1 g2 g3
  obtain⟨rfl,rfl⟩:=by simpa only[zB] using g4
  simp only[F.ic]
  refine rB (λ e=> ?_) λ e=>rL (.inr _) hz λ _ _=>rfl
  have e:j<w2.length:=by simpa using e
  obtain⟨t2,t3,t0,t1⟩:=Asv h j0 e
  dsimp only at t0 t1 t2 t3
  rw[Af (n:=j+1) (by omega) (by omega)]
  have fnl:=Aue (ws:=w1) (bs:=w2) (ms:=ms') (N:=N) h.wn hm (by omega) N ((w1,w2),(zL w2 j.toNat ((0:Int),zr8)).2.2.2,ms') ⟨rfl,t0,t1,rfl⟩ (by dsimp only;omega)
  have emp:=Akp (ws:=w1) (bs:=w2) (N:=N) h.wn N ((w1,w2),(zL w2 j.toNat ((0:Int),zr8)).2.2.2) ⟨rfl,t0,t1⟩ (by dsimp only;omega)
  have nxt:∀z':Int,-1<=z'->z'<=99->Sm (λ y:AnD=>y.1.2.1=ms'/\(-1<=y.1.2.2.2.1/\y.1.2.2.2.1<=99)/\y.1.2.2.2.2.1=w2/\y.1.2.2.2.2.2.1=w2.length/\0<=y.1.2.2.2.2.2.2/\y.1.2.2.2.2.2.2<=w2.length/\y.2=(w1,w2)) (λ y=>((w2.length:Int)-y.1.2.2.2.2.2.2).toNat) ((b,ms',ee,z,w2,(w2.length:Int),j),w1,w2) (λ r:Int=>-1<=r/\r<=99) (.inl ((b,ms',ee,z',w2,(w2.length:Int),j+1),w1,w2)):=λ z' h1 h2=>⟨⟨rfl,⟨h1,h2⟩,rfl,rfl,by dsimp only;omega,by dsimp only;omega,rfl⟩,by dsimp only;omega⟩
  refine rC (Ae j0 e) ?_
  repeat' first
   | exact rL (.inl _) (nxt z hz.1 hz.2) λ _ _=>rfl
   | exact rL (.inl _) (nxt _ (yH (by decide) t2) t3) λ _ _=>rfl
   | refine rD fnl λ _ _=> ?_
   | refine rD emp λ _ _=> ?_
   | refine rB (λ _=> ?_) λ _=> ?_) N ((b,ms,e,-1,bs,(bs.length:Int),0),ws,bs) ⟨rfl,by dsimp only;omega,rfl,rfl,by simp,by simp,rfl⟩ (by dsimp only;omega)
 exact rD L0 λ r hr=>rL r hr λ _ _=>rfl
end
theorem same(x y:List Bool){N:Nat}(h:x.length<=y.length)(hN:x.length<N)(hl:x.length<=1000000000000):Ret (λ R k=>F.tb (R:=R) N (x,y) k) λ _=>True:=by
 simp only[F.tb]
 have L0:=rO (s:=λ R=>F.ld (R:=R) N) (app:=Db) (P:=λ _:Unit⊕Bool=>True) (λ d:List Bool×List Bool×Int×Int=>d.1=x/\d.2.1=y/\d.2.2.1=x.length/\0<=d.2.2.2/\d.2.2.2<=x.length) (λ d=>((x.length:Int)-d.2.2.2).toNat) (λ d hd=>by
  obtain⟨x',y',n,j⟩:=d
  obtain⟨g1,g2,g3,j0,j1⟩:=hd
  dsimp only at g1 g2 g3 j0 j1
  subst g1 g2 g3
  simp only[F.ld]
  refine rB (λ e=> ?_) λ e=>rL (.inr (.inl ())) trivial λ _ _=>rfl
  have e:j<x'.length:=by simpa using e
  rw[Af (n:=j+1) (by omega) (by omega)]
  exact rC (Ae j0 e) (rC (Ae j0 (by omega)) (rB (λ _=>rL (.inr (.inr false)) trivial λ _ _=>rfl) λ _=>rL (.inl _) ⟨⟨rfl,rfl,rfl,by dsimp only;omega,by dsimp only;omega⟩,by dsimp only;omega⟩ λ _ _=>rfl))) N (x,y,(x.length:Int),0) ⟨rfl,rfl,rfl,by simp,by simp⟩ (by dsimp only;omega)
 refine rD L0 ?_
 rintro(_|b)-
 ·exact rL true trivial λ _ _=>rfl
 ·exact rL b trivial λ _ _=>rfl
abbrev B4D:=(Int×Int×Int×Int×Bool×Int×Int×List C4×Int×Int)×Whl×List Int×List Int
abbrev B2D:=(Int×Int×Int×Int)×Whl×List Int×List Int
theorem Aj9{N:Nat}{o:Whl}(h:Ie o)(hN:10000000000<N){a b c d e f:Int}{q:Bool}{cs hs:List Int}:Ret (λ R k=>F.vu (R:=R) N N ((a,b,c,d,q,e,f,o.1,(o.1.length:Int),0),o,cs,hs) k) (λ r=>(r.1.1,r.1.2.1,r.1.2.2.1,r.1.2.2.2.2)=(a,b,c,e,f)/\r.2=(o,cs,hs)):=by
 have hl:=h.l
 refine rO (s:=λ R=>F.jm (R:=R) N) (λ y:B4D=>(y.1.1,y.1.2.1,y.1.2.2.1,y.1.2.2.2.2.2.1,y.1.2.2.2.2.2.2.1)=(a,b,c,e,f)/\y.1.2.2.2.2.2.2.2.1=o.1/\y.1.2.2.2.2.2.2.2.2.1=o.1.length/\0<=y.1.2.2.2.2.2.2.2.2.2/\y.1.2.2.2.2.2.2.2.2.2<=o.1.length/\y.2=(o,cs,hs)) (λ y=>((o.1.length:Int)-y.1.2.2.2.2.2.2.2.2.2).toNat) ?_ N _ ⟨rfl,rfl,rfl,by simp,by simp,rfl⟩ (by dsimp only;omega)
 rintro⟨⟨a',b',c',d',q',e',f',ws,n,j⟩,⟨w1,w2⟩,cs',hs'⟩ ⟨g1,g2,g3,j0,j1,g4⟩
 dsimp only at g1 g2 g3 j0 j1 g4
 subst g2 g3
 simp only[F.jm]
 refine rB (λ x=> ?_) λ x=>rL (.inr _) ⟨g1,g4⟩ λ _ _=>rfl
 have x:j<o.1.length:=by simpa using x
 have w:=Q4 h.wn j0 x
 rw[Af (n:=j+1) (by omega) (by omega)]
 refine rC (Ae j0 x) (rB (λ _=>rD (has _ _ w.st (by omega)) λ _ _=>rD (has _ _ w.st (by omega)) λ _ _=>rB (λ _=>rL (.inr _) ⟨g1,g4⟩ λ _ _=>rfl) λ _=>rL (.inl _) ⟨⟨g1,rfl,rfl,by dsimp only;omega,by dsimp only;omega,g4⟩,by dsimp only;omega⟩ λ _ _=>rfl) λ _=>rL (.inl _) ⟨⟨g1,rfl,rfl,by dsimp only;omega,by dsimp only;omega,g4⟩,by dsimp only;omega⟩ λ _ _=>rfl)
theorem Aj8{N:Nat}{o:Whl}(h:Ie o)(hN:10000000000<N){a:Int}{cs hs:List Int}(hh:hs.length<=1000):Ret (λ R k=>F.vy (R:=R) N N ((a,-1,(hs.length:Int),0),o,cs,hs) k) (λ r=>r.1.1=a/\(r.1.2=-1\/0<=r.1.2/\r.1.2<hs.length)/\r.2=(o,cs,hs)):=by
 refine rO (s:=λ R=>F.jo (R:=R) N) (λ y:B2D=>y.1.1=a/\y.1.2.1=-1/\y.1.2.2.1=hs.length/\0<=y.1.2.2.2/\y.1.2.2.2<=hs.length/\y.2=(o,cs,hs)) (λ y=>((hs.length:Int)-y.1.2.2.2).toNat) ?_ N _ ⟨rfl,rfl,rfl,by simp,by simp,rfl⟩ (by dsimp only;omega)
 rintro⟨⟨a',b',n,j⟩,⟨w1,w2⟩,cs',hs'⟩ ⟨g1,g2,g3,j0,j1,g4⟩
 dsimp only at g1 g2 g3 j0 j1 g4
 obtain⟨rfl,rfl,rfl⟩:=by simpa only[zB] using g4
 subst g1 g2 g3
 simp only[F.jo]
 refine rB (λ x=> ?_) λ x=>rL (.inr _) ⟨rfl,.inl rfl,rfl⟩ λ _ _=>rfl
 have x:j<hs'.length:=by simpa using x
 refine rC (Ae j0 x) (rD (Aj9 h hN) ?_)
 rintro⟨⟨r1,r2,r3,r4,r5,r6⟩,⟨r7,r8⟩,r9,r10⟩ ⟨q1,q2⟩
 obtain⟨rfl,rfl,rfl,rfl,rfl⟩:=by simpa only[zB] using q1
 obtain⟨⟨rfl,rfl⟩,rfl,rfl⟩:=by simpa only[zB] using q2
 dsimp only
 rw[Af (n:=r6+1) (by omega) (by omega)]
 exact rB (λ _=>rL (.inr _) ⟨rfl,.inr ⟨j0,x⟩,rfl⟩ λ _ _=>rfl) λ _=>rL (.inl _) ⟨⟨rfl,rfl,rfl,by dsimp only;omega,by dsimp only;omega,rfl⟩,by dsimp only;omega⟩ λ _ _=>rfl
theorem bytes{N:Nat}{o:Whl}(h:Ie o)(hN:10000000000<N):Ret (λ R k=>F.se (R:=R) N o k) (λ r=>r.1.length=256/\r.2.length<=256/\∀x∈r.1,0<=x/\x<r.2.length):=by
 obtain⟨w1,w2⟩:=o
 simp only[F.se]
 have L0:=rO (s:=λ R=>F.jp (R:=R) N) (app:=λ _ d k=>k d) (P:=λ r:List Int×List Int=>r.1.length=256/\r.2.length<=256/\∀x∈r.1,0<=x/\x<r.2.length) (λ y:Int×Whl×List Int×List Int=>0<=y.1/\y.1<=256/\y.2.1=(w1,w2)/\(y.2.2.1.length:Int)=y.1/\(y.2.2.2.length:Int)<=y.1/\∀x∈y.2.2.1,0<=x/\x<y.2.2.2.length) (λ y=>(256-y.1).toNat) (λ y hy=>by
  obtain⟨c,⟨a,b⟩,cs,hs⟩:=y
  obtain⟨c0,c1,g1,hc,hh,hx⟩:=hy
  dsimp only at c0 c1 g1 hc hh hx
  obtain⟨rfl,rfl⟩:=by simpa only[zB] using g1
  simp only[F.jp]
  refine rB (λ x=>rD (Aj8 h hN (by omega)) ?_) λ x=>rL (.inr (cs,hs)) ⟨by have:¬c<256:=(by simpa using x);dsimp only;omega,by dsimp only;omega,hx⟩ λ _ _=>rfl
  have x:c<256:=by simpa using x
  rintro⟨⟨r1,r2⟩,⟨r7,r8⟩,r9,r10⟩ ⟨q1,q2,q3⟩
  dsimp only at q1 q2
  subst q1
  obtain⟨⟨rfl,rfl⟩,rfl,rfl⟩:=by simpa only[zB] using q3
  dsimp only
  rw[Af (n:=r1+1) (by omega) (by omega)]
  refine rB (λ y=>rC (Bg (by simp only[z8,z9];omega) (by omega)) (rC (Bg (by simp only[z8,z9];omega) (by omega)) (rL (.inl _) ⟨⟨by dsimp only;omega,by dsimp only;omega,rfl, ?_, ?_,λ z hz=> ?_⟩,by dsimp only;omega⟩ λ _ _=>rfl))) λ y=>rC (Bg (by simp only[z8,z9];omega) (by omega)) (rL (.inl _) ⟨⟨by dsimp only;omega,by dsimp only;omega,rfl, ?_,by dsimp only;omega,λ z hz=> ?_⟩,by dsimp only;omega⟩ λ _ _=>rfl)
  ·simp only[zA,z8,z9];omega
  ·simp only[zA,z8,z9];omega
  ·simp only[zA,z8,z9]
   rcases List.mem_append.1 hz with hz|hz
   ·have:=hx z hz;omega
   ·cases List.mem_singleton.1 hz;omega
  ·simp only[zA,z8,z9];omega
  ·have y:¬r2<0:=by simpa using y
   rcases List.mem_append.1 hz with hz|hz
   ·exact hx z hz
   ·cases List.mem_singleton.1 hz;dsimp only;omega) N (0,(w1,w2),[],[]) ⟨by simp,by simp,rfl,by simp,by simp,λ x hx=>absurd hx (by simp)⟩ (by dsimp only;omega)
 refine rD L0 ?_
 rintro⟨a,b⟩ ho
 exact rL _ ho λ _ _=>rfl
end Go.Proofs.Ytlnfickaejikoaa.fnImage.Pure
