/- An abstract evaluator of Go code over plain data, and the proof that what it says of a function comes to pass. Part 4. -/
import Derived.Test.YtlnfickaejikoaaEc
import Derived.RangeFuncRecord
import Derived.ChangeArms
import Derived.ChangeShapes
import Derived.WideShapes
import Derived.OpenShut
import Derived.ShutString
import Derived.ChangeOld
import Derived.Carry
import Derived.Laws.IdiomRangeMap
open Bool renaming and_eq_true->z8,or_eq_true->zC,not_eq_true->zG,not_eq_true'->zJ,eq_iff_iff->zK,false_eq_true->yC,or_false->yL,and_false->xC,false_or->xG,and_true->xH
open Nat renaming zero_add->z9,blt_eq->zB,le_refl->zE,beq->zF,testBit->zH,add_zero->zL,lt_trichotomy->zO,eq_of_beq_eq_true->zT,blt->zU,zero_le->zY,le_trans->yG,strongRecOn->yH,lt_of_lt_of_le->yQ,lt_or_ge->yR,add_comm->yS,succ_mul->yU,testBit_or->xA,add_assoc->xF,sub_zero->xK,zero_mul->xL,ble_eq->xM
open Option.some renaming injEq->zA
open Prod.mk renaming injEq->zD
open List renaming mem_append->zI,mem_cons->zM,all_eq_true->zP,mem_singleton->zQ,mem_cons_self->zR,mem_filter->zS,cons_append->zX,eq_nil_iff_forall_not_mem->zZ,range_eq_range'->yA,range->yF,range'->yK,getD_cons_succ->yM,mem_filterMap->yN,zip_cons_cons->yP,mem_map->yT,any_eq_false->yV,foldl_cons->yX,nil_append->yY,nodup_cons->yZ,mem_range->xB,mapM_cons->xD,drop_drop->xE,map_cons->xI,take_add->xJ
open Array renaming replicate->zN,length_toList->zV,filter->yB,toList_setIfInBounds->yD,getElem_mem_toList->yE,toList_replicate->yJ,all_eq_true'->yO
open Option renaming bind_some->zW,map_some->yI,getD_some->yW
set_option linter.unusedVariables false
set_option linter.unusedSimpArgs false
namespace Go.Ev
abbrev B3:=Option (AV×Upd×List Nat)
def Wp(d:Option Nat)(v:AV)(tm:List (Nat×AV)):List (Nat×AV):=
 match d with
 | some d=>put d v tm
 | none=>tm
def B3.val:B3->AV
 | none=>.tup []
 | some (v,_,_)=>v
def B3.upd:B3->Upd
 | none=>[]
 | some (_,u,_)=>u
def effS(o:Oper)(out:B3)(s:St):St:={s with tm:=Wp o.dst out.val s.tm,st:=A6 out.upd s.st}
def sig:List Oper->List B3->(Nat->Bool)->Nat->St->St
 | o::l,out::outs,D,i,s=>sig l outs D (i+1) (if D i then effS o out s else s)
 | _,_,_,_,s=>s
structure SEq(s s':St):Prop where
 tm:∀t,getD .un t s'.tm=getD .un t s.tm
 st:∀b,look b s'.st=look b s.st
 nx:s'.nx=s.nx
 uq:uniq s'.st
theorem If(o:Oper)(out:B3)(s:St)(t:Nat):getD .un t (effS o out s).tm=if o.dst=some t then out.val else getD .un t s.tm:=by
 simp only[effS,Wp]
 cases o.dst with
 | none=>simp
 | some d=>
  simp only[Fs,zA]
  by_cases h:t=d
  ·subst h;simp
  ·simp[h,Ne.symm h]
theorem Fy(o:Oper)(out:B3)(s:St)(hs:uniq s.st)(b:Nat):look b (effS o out s).st=match Dg out.upd b with|some x=>x|none=>look b s.st:=B7 _ _ hs
theorem Ea(o:Oper)(out:B3)(s:St)(hs:uniq s.st):uniq (effS o out s).st:=Cg _ hs
theorem Gs:∀(l:List Oper) (outs:List B3) (D:Nat->Bool) (i:Nat) (s:St),uniq s.st->uniq (sig l outs D i s).st
 | [],_,_,_,_,h=>by simpa[sig] using h
 | _::_,[],_,_,_,h=>by simpa[sig] using h
 | o::l,out::outs,D,i,s,h=>by
  simp only[sig]
  apply Gs
  split
  ·exact Ea _ _ _ h
  ·exact h
theorem Kp:∀(l:List Oper) (outs:List B3) (D:Nat->Bool) (i:Nat) (s:St),(sig l outs D i s).nx=s.nx
 | [],_,_,_,_=>by simp[sig]
 | _::_,[],_,_,_=>by simp[sig]
 | o::l,out::outs,D,i,s=>by
  simp only[sig]
  rw[Kp]
  split<;>rfl
def wT(l:List Oper)(t k:Nat):Prop:=∃o,l[k]?=some o/\o.dst=some t
def wB(outs:List B3)(b k:Nat):Prop:=∃out,outs[k]?=some out/\b∈Bm out.upd
theorem Mb(t:Nat):∀(l:List Oper) (outs:List B3) (D D':Nat->Bool) (i:Nat) (s s':St),(∀k,wT l t k->D (i+k)=D' (i+k))->getD .un t s.tm=getD .un t s'.tm->
  getD .un t (sig l outs D i s).tm=getD .un t (sig l outs D' i s').tm
 | [],_,_,_,_,_,_,_,h=>by simpa[sig] using h
 | _::_,[],_,_,_,_,_,_,h=>by simpa[sig] using h
 | o::l,out::outs,D,D',i,s,s',hD,h=>by
  simp only[sig]
  refine Mb t l outs D D' (i+1) _ _ (λ k hk=> ?_) ?_
  ·obtain⟨o',h1,h2⟩:=hk
   have:=hD (k+1) ⟨o',by simpa using h1,h2⟩
   rwa[show i+(k+1)=i+1+k by omega] at this
  ·by_cases hd:o.dst=some t
   ·have:=hD 0 ⟨o,rfl,hd⟩
    simp only[zL] at this
    rw[this]
    split
    ·rw[If,If,if_pos hd,if_pos hd]
    ·exact h
   ·have e:∀(c:Bool) (s:St),getD .un t (if c=true then effS o out s else s).tm=getD .un t s.tm:=by
     intro c s
     split
     ·rw[If,if_neg hd]
     ·rfl
    rw[e,e];exact h
theorem I0(b:Nat):∀(l:List Oper) (outs:List B3) (D D':Nat->Bool) (i:Nat) (s s':St),uniq s.st->uniq s'.st->(∀k,wB outs b k->D (i+k)=D' (i+k))->look b s.st=look b s'.st->
  look b (sig l outs D i s).st=look b (sig l outs D' i s').st
 | [],_,_,_,_,_,_,_,_,_,h=>by simpa[sig] using h
 | _::_,[],_,_,_,_,_,_,_,_,h=>by simpa[sig] using h
 | o::l,out::outs,D,D',i,s,s',hu,hu',hD,h=>by
  simp only[sig]
  refine I0 b l outs D D' (i+1) _ _ (by split;exact Ea _ _ _ hu;exact hu) (by split;exact Ea _ _ _ hu';exact hu') (λ k hk=> ?_) ?_
  ·obtain⟨o',h1,h2⟩:=hk
   have:=hD (k+1) ⟨o',by simpa using h1,h2⟩
   rwa[show i+(k+1)=i+1+k by omega] at this
  ·by_cases hd:b∈Bm out.upd
   ·have:=hD 0 ⟨out,rfl,hd⟩
    simp only[zL] at this
    rw[this]
    split
    ·rw[Fy _ _ _ hu,Fy _ _ _ hu',h]
    ·exact h
   ·have e:∀(c:Bool) (s:St),uniq s.st->look b (if c=true then effS o out s else s).st=look b s.st:=by
     intro c s hs
     split
     ·rw[Fy _ _ _ hs,Ei hd]
     ·rfl
    rw[e _ _ hu,e _ _ hu'];exact h
def Hw(D:Nat->Bool)(i:Nat)(k:Nat):Bool:=D k||zF k i
theorem Mp{D:Nat->Bool}{i k:Nat}(h:D k=true):Hw D i k=true:=by simp[Hw,h]
theorem W6{D:Nat->Bool}{i:Nat}:Hw D i i=true:=by simp[Hw]
theorem Po{D:Nat->Bool}{i k:Nat}(h:k≠i):Hw D i k=D k:=by simp[Hw,Bd.2 h]
theorem Ahd:∀(l:List Oper) (outs:List B3) (D:Nat->Bool) (j i:Nat) (s:St) (o:Oper) (out:B3),uniq s.st->l[i]?=some o->outs[i]?=some out->D (j+i)=false->
  (∀k t,i<k->D (j+k)=true->o.dst=some t->¬wT l t k)->(∀k b,i<k->D (j+k)=true->b∈Bm out.upd->¬wB outs b k)->
  SEq (sig l outs (Hw D (j+i)) j s) (effS o out (sig l outs D j s))
 | [],_,_,_,_,_,_,_,_,h,_,_,_,_=>by simp at h
 | _::_,[],_,_,_,_,_,_,_,_,h,_,_,_=>by simp at h
 | o0::l,out0::outs,D,j,0,s,o,out,hu,h1,h2,h3,h4,h5=>by
  simp only[List.getElem?_cons_zero,zA] at h1 h2
  subst h1 h2
  simp only[zL] at h3⊢
  simp only[sig]
  rw[if_pos W6,if_neg (by rw[h3];simp)]
  have hk:∀k,Hw D j (j+1+k)=D (j+1+k):=λ k=>Po (by omega)
  refine⟨λ t=> ?_,λ b=> ?_, ?_,Ea _ _ _ (Gs _ _ _ _ _ hu)⟩
  ·rw[If]
   by_cases hd:o0.dst=some t
   ·rw[if_pos hd]
    have:getD .un t (sig l outs (Hw D j) (j+1) (effS o0 out0 s)).tm=getD .un t (sig l outs (λ _=>false) (j+1) (effS o0 out0 s)).tm:=by
     refine Mb t _ _ _ _ _ _ _ (λ k hw=> ?_) rfl
     rw[hk]
     cases e:D (j+1+k)
     ·rfl
     ·exact(h4 (k+1) t (by omega) (by rw[show j+(k+1)=j+1+k by omega];exact e) hd (by obtain⟨o',p,q⟩:=hw;exact⟨o',by simpa using p,q⟩)).elim
    rw[this]
    have hno:∀(l:List Oper) (outs:List B3) (i:Nat) (s:St),sig l outs (λ _=>false) i s=s:=by
     intro l
     induction l with
     | nil=>intro outs i s;simp[sig]
     | cons a l ih=>
      intro outs i s
      cases outs with
      | nil=>simp[sig]
      | cons c outs=>simp[sig,ih]
    rw[hno,If,if_pos hd]
   ·rw[if_neg hd]
    exact Mb t _ _ _ _ _ _ _ (λ k _=>(hk k).symm) (by rw[If,if_neg hd])
  ·rw[Fy _ _ _ (Gs _ _ _ _ _ hu)]
   by_cases hd:b∈Bm out0.upd
   ·have hno:∀(l:List Oper) (outs:List B3) (i:Nat) (s:St),sig l outs (λ _=>false) i s=s:=by
     intro l
     induction l with
     | nil=>intro outs i s;simp[sig]
     | cons a l ih=>
      intro outs i s
      cases outs with
      | nil=>simp[sig]
      | cons c outs=>simp[sig,ih]
    have hz:∀k,wB outs b k->D (j+1+k)=false:=λ k hw=>by
     cases e:D (j+1+k)
     ·rfl
     ·exact(h5 (k+1) b (by omega) (by rw[show j+(k+1)=j+1+k by omega];exact e) hd (by obtain⟨o',p,q⟩:=hw;exact⟨o',by simpa using p,q⟩)).elim
    have e1:look b (sig l outs (Hw D j) (j+1) (effS o0 out0 s)).st=look b (effS o0 out0 s).st:=by
     rw[I0 b l outs _ (λ _=>false) (j+1) _ (effS o0 out0 s) (Ea _ _ _ hu) (Ea _ _ _ hu) (λ k hw=>by rw[hk];exact hz k hw) rfl,hno]
    have e2:look b (sig l outs D (j+1) s).st=look b s.st:=by
     rw[I0 b l outs _ (λ _=>false) (j+1) _ s hu hu (λ k hw=>hz k hw) rfl,hno]
    rw[e1,e2,Fy _ _ _ hu]
   ·rw[Ei hd]
    exact I0 b _ _ _ _ _ _ _ hu (Ea _ _ _ hu) (λ k _=>(hk k).symm) (by rw[Fy _ _ _ hu,Ei hd])
  ·rw[Kp];simp only[effS];rw[Kp]
 | o0::l,out0::outs,D,j,i+1,s,o,out,hu,h1,h2,h3,h4,h5=>by
  simp only[List.getElem?_cons_succ] at h1 h2
  simp only[sig]
  have e:Hw D (j+(i+1)) j=D j:=Po (by omega)
  rw[e]
  have:=Ahd l outs D (j+1) i (if D j=true then effS o0 out0 s else s) o out (by split;exact Ea _ _ _ hu;exact hu) h1 h2 (by rw[show j+1+i=j+(i+1) by omega];exact h3)
   (λ k t hk hD hd hw=>h4 (k+1) t (by omega) (by rw[show j+(k+1)=j+1+k by omega];exact hD) hd (by obtain⟨o',p,q⟩:=hw;exact⟨o',by simpa using p,q⟩))
   (λ k b hk hD hd hw=>h5 (k+1) b (by omega) (by rw[show j+(k+1)=j+1+k by omega];exact hD) hd (by obtain⟨o',p,q⟩:=hw;exact⟨o',by simpa using p,q⟩))
  rw[show j+1+i=j+(i+1) by omega] at this
  exact this
end Go.Ev
namespace Go.Ev
variable{R:Type}{E:Env}{X:Cx}{P:Program}
theorem SEq.refl{s:St}(h:uniq s.st):SEq s s:=⟨λ _=>rfl,λ _=>rfl,rfl,h⟩
theorem SEq.trans{s s' s'':St}(h:SEq s s')(k:SEq s' s''):SEq s s'':=⟨λ t=>(k.tm t).trans (h.tm t),λ b=>(k.st b).trans (h.st b),k.nx.trans h.nx,k.uq⟩
theorem SEq.symm{s s':St}(h:SEq s s')(hs:uniq s.st):SEq s' s:=⟨λ t=>(h.tm t).symm,λ b=>(h.st b).symm,h.nx.symm,hs⟩
theorem SEq.ev{s s':St}(h:SEq s s')(x:Operand):ev s' x=ev s x:=by
 cases x with
 | tmp t=>exact h.tm t
 | _=>rfl
theorem SEq.effS{s s':St}(h:SEq s s')(hs:uniq s.st)(o:Oper)(out:B3):SEq (effS o out s) (effS o out s'):=
 ⟨λ t=>by rw[If,If,h.tm],λ b=>by rw[Fy _ _ _ hs,Fy _ _ _ h.uq,h.st],h.nx,Ea _ _ _ h.uq⟩
theorem SEq.sig{s s':St}(h:SEq s s')(hs:uniq s.st)(l:List Oper)(outs:List B3)(D:Nat->Bool)(i:Nat):SEq (sig l outs D i s) (sig l outs D i s'):=
 ⟨λ t=>Mb t _ _ _ _ _ _ _ (λ _ _=>rfl) (h.tm t),λ b=>I0 b _ _ _ _ _ _ _ h.uq hs (λ _ _=>rfl) (h.st b),by rw[Kp,Kp];exact h.nx,Gs _ _ _ _ _ h.uq⟩
theorem M5:∀(l:List Oper) (outs:List B3) (D:Nat->Bool) (i:Nat) (s:St),sig l outs D (i+1) s=sig l outs (λ k=>D (k+1)) i s
 | [],_,_,_,_=>by simp[sig]
 | _::_,[],_,_,_=>by simp[sig]
 | o::l,out::outs,D,i,s=>by simp only[sig];exact M5 l outs D (i+1) _
theorem Qw:∀(l:List Oper) (outs:List B3) (i:Nat) (s:St),sig l outs (λ _=>false) i s=s
 | [],_,_,_=>by simp[sig]
 | _::_,[],_,_=>by simp[sig]
 | o::l,out::outs,i,s=>by simp only[sig];exact Qw l outs (i+1) s
def Ajm(s:St)(u:Upd)(rd:List Nat):Prop:=∀b o,b<4294967296->G5 (Fp b o)∈rd->slAt o (look b (A6 u s.st))=slAt o (look b s.st)
def Pd(P:Program)(all:List Oper)(nb i:Nat)(o:Oper)(s:St):B3->Prop
 | none=>∃j want d,o.guard=some (j,want)/\(all[j]?).bind (·.dst)=some d/\(getD .un d s.tm=.bool (!want)\/getD .un d s.tm=.tup [])
 | some (v,u,rd)=>(∀j want,o.guard=some (j,want)->∃d,(all[j]?).bind (·.dst)=some d/\getD .un d s.tm=.bool want)/\(∀s',Nc s s' o u rd->Wk P s' o (nb+16*i) v u)
def Y4(s:St):B3->Prop
 | none=>True
 | some (_,u,rd)=>Ajm s u rd
theorem Pd.seq{all:List Oper}{nb i:Nat}{o:Oper}{s s':St}{out:B3}(h:SEq s s')(hf:Pd P all nb i o s out):Pd P all nb i o s' out:=by
 cases out with
 | none=>
  obtain⟨j,want,d,h1,h2,h3⟩:=hf
  exact⟨j,want,d,h1,h2,by rw[h.tm];exact h3⟩
 | some x=>
  obtain⟨v,u,rd⟩:=x
  obtain⟨h1,h2⟩:=hf
  refine⟨λ j want hg=> ?_,λ s'' ha=>h2 s'' ⟨λ x hx=>(ha.ev x hx).trans (h.ev x),λ c hc b o' e=>(ha.pt c hc b o' e).trans (by rw[h.st]),λ b hb=>(ha.rd b hb).trans (h.st b),λ b hb=>(ha.wr b hb).trans (h.st b)⟩⟩
  obtain⟨d,k1,k2⟩:=h1 j want hg
  exact⟨d,k1,by rw[h.tm];exact k2⟩
theorem Y4.seq{s s':St}{out:B3}(h:SEq s s')(hs:uniq s.st)(hk:Y4 s out):Y4 s' out:=by
 cases out with
 | none=>trivial
 | some x=>
  obtain⟨v,u,rd⟩:=x
  intro b o hb hm
  have:=hk b o hb hm
  rw[B7 u b hs] at this
  rw[B7 u b h.uq,h.st]
  exact this
theorem My{s:St}{b:Nat}{ps:List AV}{c:Nat}:∀{l:List (Nat×Nat)},c∈Vk s b ps l->∃o k,c=G5 (Fp b o)/\slAt o (look b s.st)=some k/\look o (F6 0 ps)=some k
 | [],h=>by simp[Vk] at h
 | (o,_)::r,h=>by
  simp only[Vk] at h
  split at h
  ·rename_i k k' h1 h2
   cases e:zF k k'<;>rw[e] at h
   ·exact My h
   ·have:=zT e
    subst this
    rcases List.mem_cons.1 h with rfl|h
    ·exact⟨o,k,rfl,h1,h2⟩
    ·exact My h
  ·exact My h
theorem Acb{s:St}{b o:Nat}(hb:b<4294967296):∀{u:Upd},G5 (Fp b o)∈Hq s u->∃ro v ps,Dg u b=some (some (.cell ro v ps))/\look o (F6 0 ps)=slAt o (look b s.st)
 | [],h=>by simp[Hq] at h
 | (b',x)::r,h=>by
  have rest:G5 (Fp b o)∈Hq s r->∃ro v ps,Dg ((b',x)::r) b=some (some (.cell ro v ps))/\look o (F6 0 ps)=slAt o (look b s.st):=by
   intro h
   obtain⟨ro,v,ps,h1,h2⟩:=Acb hb h
   exact⟨ro,v,ps,by simp only[Dg,h1],h2⟩
  cases x with
  | none=>exact rest (by simpa[Hq] using h)
  | some x=>
   cases x with
   | cell ro v ps=>
    simp only[Hq,zI] at h
    rcases h with h|h
    ·cases e:zU b' 4294967296&& !(H0 b' (Bm r))<;>rw[e] at h
     ·simp at h
     ·simp only[z8,zJ,zB] at e
      obtain⟨o',k,h1,h2,h3⟩:=My h
      have hbb:b=b'/\o=o':=by simp only[G5,Fp] at h1;omega
      obtain⟨rfl,rfl⟩:=hbb
      have hn:Dg r b=none:=by
       cases e2:Dg r b with
       | none=>rfl
       | some y=>exact absurd (Gm.2 (Up r b (by rw[e2];simp))) (by rw[e.2];simp)
      exact⟨ro,v,ps,by simp[Dg,hn],by rw[h3,h2]⟩
    ·exact rest h
   | _=>exact rest (by simpa[Hq] using h)
theorem Ym:∀{l:List Nat},Kq l=true->∀c∈l,c<18446744073709551616
 | [],_,c,h=>by simp at h
 | a::r,h,c,hc=>by
  simp only[Kq,z8,zB] at h
  rcases List.mem_cons.1 hc with rfl|hc
  ·exact h.1
  ·exact Ym h.2 c hc
theorem Aim{s:St}{u:Upd}{rd:List Nat}(hs:uniq s.st)(h:Kq rd=true):Ajm s u (rd++Hq s u):=by
 intro b o hb hm
 rcases List.mem_append.1 hm with hm|hm
 ·have:=Ym h _ hm
  simp only[G5] at this
  omega
 ·obtain⟨ro,v,ps,h1,h2⟩:=Acb hb hm
  rw[B7 u b hs,h1,<-h2]
  rfl
def Cs:Nat->List B3->List Rec
 | _,[]=>[]
 | i,none::r=>Cs (i+1) r
 | i,some (_,u,rd)::r=>(i,rd,Bm u)::Cs (i+1) r
def Ax(j k:Nat):Bool:=zU k j
theorem Hi:Ax 0=λ _=>false:=by funext k;simp only[Ax];rw[<-zG,zB];omega
theorem Sg(j:Nat):(λ k=>Ax (j+1) (k+1))=Ax j:=by
 funext k
 simp only[Ax]
 rw[zK,zB,zB];omega
theorem T7{s:St}(hs:uniq s.st){d:Nat}{v:AV}(h:getD .un d s.tm=v):SEq s {s with tm:=put d v s.tm}:=
 ⟨λ t=>by simp only[Fs];split;(subst_vars;rfl);rfl,λ _=>rfl,rfl,hs⟩
structure Hg(P:Program)(all:List Oper)(nb i:Nat)(l:List Oper)(outs:List B3)(s sf:St):Prop where
 len:outs.length=l.length
 fact:∀j o out,l[j]?=some o->outs[j]?=some out->Pd P all nb (i+j) o (sig l outs (Ax j) 0 s) out
 keep:∀(j:Nat) out,outs[j]?=some out->Y4 (sig l outs (Ax j) 0 s) out
 fin:SEq (sig l outs (λ _=>true) 0 s) sf
theorem Hg.cons{all:List Oper}{nb i:Nat}{o:Oper}{l:List Oper}{out:B3}{outs:List B3}{s s1 sf:St}(hs:uniq s.st)(hf:Pd P all nb i o s out)(hk:Y4 s out)(h1:SEq s s1)(h:Hg P all nb (i+1) l outs (effS o out s1) sf):
  Hg P all nb i (o::l) (out::outs) s sf:=by
 have he:SEq (effS o out s1) (effS o out s):=(h1.symm hs).effS h1.uq _ _
 refine⟨by simp[h.len], ?_, ?_, ?_⟩
 ·intro j o' out' hj hj'
  cases j with
  | zero=>
   simp only[List.getElem?_cons_zero,zA] at hj hj'
   subst hj hj'
   rw[Hi,Qw]
   exact hf
  | succ j=>
   simp only[List.getElem?_cons_succ] at hj hj'
   have:=h.fact j o' out' hj hj'
   rw[show i+(j+1)=i+1+j by omega]
   simp only[sig]
   rw[show Ax (j+1) 0=true by simp only[Ax];rw[zB];omega,if_pos rfl,M5,Sg]
   exact this.seq (he.sig (Ea _ _ _ h1.uq) _ _ _ _)
 ·intro j out' hj
  cases j with
  | zero=>
   simp only[List.getElem?_cons_zero,zA] at hj
   subst hj
   rw[Hi,Qw]
   exact hk
  | succ j=>
   simp only[List.getElem?_cons_succ] at hj
   have:=h.keep j out' hj
   simp only[sig]
   rw[show Ax (j+1) 0=true by simp only[Ax];rw[zB];omega,if_pos rfl,M5,Sg]
   exact this.seq (he.sig (Ea _ _ _ h1.uq) _ _ _ _) (Gs _ _ _ _ _ (Ea _ _ _ h1.uq))
 ·simp only[sig]
  rw[M5]
  exact((he.symm (Ea _ _ _ h1.uq)).sig (Ea _ _ _ hs) _ _ _ _).trans h.fin
def W4(P:Program)(all:List Oper)(nb i:Nat)(o:Oper)(s:St)(t:Nat)(kk:IntKind)(n:Int)(u:Upd)(rd:List Nat):Prop:=
 (∀j want,o.guard=some (j,want)->∃d,(all[j]?).bind (·.dst)=some d/\getD .un d s.tm=.bool want)/\∀s',Nc s s' o u rd->Asr P s' o (nb+16*i) t kk n u
theorem O2{c:Cfg}(hC:Bk P c=true){C:Orc R}(hO:F9 P C){all:List Oper}{nb:Nat}{k:St->List Rec->Option R}{kp:Nat->IntKind->Int->St->List Rec->Bool->Option R}{r:R}:∀{l:List Oper} {i:Nat} {s:St} {rec:List Rec},uniq s.st->Vw c C all nb i l s rec k kp=some r->
    (∃outs sf,k sf (rec++Cs i outs)=some r/\Hg P all nb i l outs s sf)\/
    (∃l1 o l2 outs sf t kk n u rd,l=l1++o::l2/\kp t kk n {sf with st:=A6 u sf.st} (rec++Cs i outs) l2.isEmpty=some r/\Hg P all nb i l1 outs s sf/\W4 P all nb (i+l1.length) o sf t kk n u rd)
  | [],i,s,rec,hs,h=>.inl ⟨[],s,by simpa[Cs,Vw] using h,rfl,by simp,by simp,by simp only[sig];exact .refl hs⟩
  | o::l,i,s,rec,hs,h=>by
    have go:∀{s1:St},SEq s s1->(∀j want,o.guard=some (j,want)->∃d,(all[j]?).bind (·.dst)=some d/\getD .un d s.tm=.bool want)->
        Qo c C s1 o (nb+16*i) (λ v u rd=>match v with
          | .pan t k' n=>kp t k' n {s1 with st:=A6 u s1.st} rec l.isEmpty
          | v=>bif Kq rd then Vw c C all nb (i+1) l {s1 with tm:=(match o.dst with|some d=>put d v s1.tm|none=>s1.tm),st:=A6 u s1.st} (rec++[(i,rd++Hq s1 u,Bm u)]) k kp else none)=some r->
        (∃outs sf,k sf (rec++Cs i outs)=some r/\Hg P all nb i (o::l) outs s sf)\/
        (∃l1 o' l2 outs sf t kk n u rd,o::l=l1++o'::l2/\kp t kk n {sf with st:=A6 u sf.st} (rec++Cs i outs) l2.isEmpty=some r/\Hg P all nb i l1 outs s sf/\W4 P all nb (i+l1.length) o' sf t kk n u rd):=by
      intro s1 h1 hg h
      obtain⟨v,u,rd,h2,h3⟩:=(Aiy hC hO h).out
      have agr:∀s',Nc s s' o u rd->Nc s1 s' o u rd:=λ s' ha=>⟨λ x hx=>(ha.ev x hx).trans (h1.symm hs|>.ev x),λ c hc b o' e=>(ha.pt c hc b o' e).trans (by rw[(h1.symm hs).st]),λ b hb=>(ha.rd b hb).trans (h1.symm hs|>.st b),λ b hb=>(ha.wr b hb).trans (h1.symm hs|>.st b)⟩
      by_cases hp:∃t k' n,v=.pan t k' n
      · obtain⟨t,k',n,rfl⟩:=hp
        refine .inr ⟨[],o,l,[],s1,t,k',n,u,rd,rfl,by simpa[Cs] using h2,⟨rfl,by simp,by simp,by simp only[sig];exact h1⟩,λ j want e=> ?_,λ s' ha=>h3 s' ha⟩
        obtain⟨d,q1,q2⟩:=hg j want e
        exact⟨d,q1,by rw[h1.tm];exact q2⟩
      · have hv:∀t k n,v≠.pan t k n:=λ t k n e=>hp ⟨t,k,n,e⟩
        have h2':(bif Kq rd then Vw c C all nb (i+1) l {s1 with tm:=(match o.dst with|some d=>put d v s1.tm|none=>s1.tm),st:=A6 u s1.st} (rec++[(i,rd++Hq s1 u,Bm u)]) k kp else none)=some r:=by
          cases v<;>first|exact h2|exact(hv _ _ _ rfl).elim
        have hsm:Kq rd=true:=by
          cases e:Kq rd with
          | true=>rfl
          | false=>rw[e] at h2';cases h2'
        rw[hsm] at h2'
        simp only[cond_true] at h2'
        have h3':∀s',Nc s1 s' o u rd->Wk P s' o (nb+16*i) v u:=λ s' ha=>by
          have:=h3 s' ha
          cases v<;>first|exact this|exact(hv _ _ _ rfl).elim
        have hf:Pd P all nb i o s (some (v,u,rd++Hq s1 u)):=⟨hg,λ s' ha=>h3' s' (agr s' ⟨ha.ev,λ c hc=>ha.pt c (List.mem_append.2 (.inl hc)),λ b hb=>ha.rd b (List.mem_append.2 (.inl hb)),ha.wr⟩)⟩
        have hkp:Y4 s (some (v,u,rd++Hq s1 u)):=Y4.seq (out:=some (v,u,rd++Hq s1 u)) (h1.symm hs) h1.uq (Aim h1.uq hsm)
        rcases O2 (l:=l) hC hO (Cg u h1.uq) h2' with⟨outs,sf,k1,k2⟩|⟨l1,o',l2,outs,sf,t,kk,n,u',rd',e,k1,k2,k3⟩
        · exact .inl ⟨some (v,u,rd++Hq s1 u)::outs,sf,by simpa[Cs] using k1,Hg.cons hs hf hkp h1 k2⟩
        · refine .inr ⟨o::l1,o',l2,some (v,u,rd++Hq s1 u)::outs,sf,t,kk,n,u',rd',by rw[e];rfl,by simpa[Cs] using k1,Hg.cons hs hf hkp h1 k2, ?_⟩
          rw[show i+(o::l1).length=i+1+l1.length by simp;omega]
          exact k3
    have off:∀{s1:St},SEq s s1->(∃j want d,o.guard=some (j,want)/\(all[j]?).bind (·.dst)=some d/\(getD .un d s.tm=.bool (!want)\/getD .un d s.tm=.tup []))->
        Vw c C all nb (i+1) l {s1 with tm:=(match o.dst with|some d=>put d (.tup []) s1.tm|none=>s1.tm)} rec k kp=some r->
        (∃outs sf,k sf (rec++Cs i outs)=some r/\Hg P all nb i (o::l) outs s sf)\/
        (∃l1 o' l2 outs sf t kk n u rd,o::l=l1++o'::l2/\kp t kk n {sf with st:=A6 u sf.st} (rec++Cs i outs) l2.isEmpty=some r/\Hg P all nb i l1 outs s sf/\W4 P all nb (i+l1.length) o' sf t kk n u rd):=by
      intro s1 h1 hg h
      rcases O2 (l:=l) hC hO (by exact h1.uq) h with⟨outs,sf,k1,k2⟩|⟨l1,o',l2,outs,sf,t,kk,n,u',rd',e,k1,k2,k3⟩
      · exact .inl ⟨none::outs,sf,by simpa[Cs] using k1,Hg.cons hs hg trivial h1 k2⟩
      · refine .inr ⟨o::l1,o',l2,none::outs,sf,t,kk,n,u',rd',by rw[e];rfl,by simpa[Cs] using k1,Hg.cons hs hg trivial h1 k2, ?_⟩
        rw[show i+(o::l1).length=i+1+l1.length by simp;omega]
        exact k3
    simp only[Vw] at h
    split at h
    · rename_i hg
      exact go (.refl hs) (by intro j want e;rw[hg] at e;cases e) h
    · rename_i j want hg
      split at h
      · cases h
      · rename_i d hd
        have yes:∀{b:Bool},getD .un d s.tm=.bool b->b=want->∀j' want',o.guard=some (j',want')->∃d,(all[j']?).bind (·.dst)=some d/\getD .un d s.tm=.bool want':=by
          intro b hv e j' want' hg'
          rw[hg] at hg'
          cases hg'
          exact⟨d,hd,by rw[hv,e]⟩
        have no:∀{b:Bool},getD .un d s.tm=.bool b->b= !want->∃j want d,o.guard=some (j,want)/\(all[j]?).bind (·.dst)=some d/\(getD .un d s.tm=.bool (!want)\/getD .un d s.tm=.tup []):=
          λ hv e=>⟨j,want,d,hg,hd,.inl (by rw[hv,e])⟩
        split at h
        · rename_i b hv
          cases b<;>cases want<;>simp only[cond_true,cond_false] at h
          · exact go (T7 hs hv) (yes hv rfl) h
          · exact off (T7 hs hv) (no hv rfl) h
          · exact off (T7 hs hv) (no hv rfl) h
          · exact go (T7 hs hv) (yes hv rfl) h
        · rename_i hv
          exact off (.refl hs) ⟨j,want,d,hg,hd,.inr hv⟩ h
        · cases h
end Go.Ev
namespace Go.Ev
variable{R:Type}{E:Env}{X:Cx}{P:Program}
def R0(D:Nat):Deferred:={target:=.collected D,args:= #[]}
def Jx(E:Env)(X:Cx)(ds:List Deferred):Prop:=∃Ds:List Nat,ds=Ds.map R0++E.db/\(E.nm=true->Ds=[])/\Ds.Nodup/\∀D∈Ds,E.w.heap.size<=D/\X.S none D/\X.w.heap[D]?=some (.deferred (some []))
theorem Jx.ext{X':Cx}{ds:List Deferred}(h:Jx E X ds)(hx:Ext X X'):Jx E X' ds:=by
 obtain⟨Ds,h1,h0,h2,h3⟩:=h
 exact⟨Ds,h1,h0,h2,λ D hD=>⟨(h3 D hD).1,(hx.sts _ _ (h3 D hD).2.1).1,(hx.sts _ _ (h3 D hD).2.1).2.trans (h3 D hD).2.2⟩⟩
theorem Jx.same{X':Cx}{ds:List Deferred}(h:Jx E X ds)(hw:X'.w=X.w)(hs:GS X'.S X.S):Jx E X' ds:=by
 obtain⟨Ds,h1,h0,h2,h3⟩:=h
 exact⟨Ds,h1,h0,h2,λ D hD=>⟨(h3 D hD).1,hs.2 _ (h3 D hD).2.1,by rw[hw];exact(h3 D hD).2.2⟩⟩
theorem Jx.nil:Jx E X E.db:=⟨[],rfl,λ _=>rfl,.nil,λ D hD=>by simp at hD⟩
structure Mid(m N:Nat)(X0:Cx)(E:Env)(s0 sD:St)(D:Nat->Bool)(X:Cx)(a:Act):Prop where
 s:X.s=sD
 rel:Rel E X
 tr:Jo X a
 top:∀b,s0.nx<=b->X.cm b≠none->∃k,D k=true/\s0.nx+16*k<=b/\b<s0.nx+16*k+16
 S:GS X.S X0.S
 cmx:∀b cb,b<m->X0.cm b=some cb->∃cb',X.cm b=some cb'/\cb.same cb'
 defers:Jx E X a.defers
 size:a.tmps.size=N
 keep:∀t v,E.kv t=some v->a.tmps.getD t undef=v
def Ik(X:Cx)(s:St):Cx:={X with s:=s}
theorem Acw{a:Act}{d t:Nat}{v:Value}(hd:d<a.tmps.size):(a.put (some d) v).tmps.getD t undef=if d=t then v else a.tmps.getD t undef:=by
 simp only[Act.put]
 by_cases h:d=t
 ·subst h;simp[hd]
 ·rw[if_neg h]
  simp[Array.getElem?_setIfInBounds_ne h]
theorem V3{a:Act}{d:Option Nat}{v:Value}:(a.put d v).tmps.size=a.tmps.size:=by
 cases d<;>simp[Act.put]
theorem V2{a:Act}{d:Option Nat}{v:Value}(hd:∀t,d=some t->t<a.tmps.size)(hk:∀t,d=some t->E.kv t=none)(h:∀t u,E.kv t=some u->a.tmps.getD t undef=u):∀t u,E.kv t=some u->(a.put d v).tmps.getD t undef=u:=by
 intro t u ht
 cases d with
 | none=>exact h t u ht
 | some d=>
  rw[Acw (hd d rfl)]
  by_cases e:d=t
  ·subst e
   rw[hk d rfl] at ht
   cases ht
  ·rw[if_neg e];exact h t u ht
theorem O7{a:Act}{d:Option Nat}{v:Value}:(a.put d v).defers=a.defers:=by
 cases d<;>rfl
theorem Wa{X Y:Cx}{a:Act}{o:Oper}{out:B3}{v:Value}(hT:Jo X a)(hx:Ext X Y)(hv:VRel Y out.val v)(hd:∀d,o.dst=some d->d<a.tmps.size)(hs:∀t,getD .un t Y.s.tm=getD .un t (effS o out X.s).tm):Jo Y (a.put o.dst v):=by
 intro t
 rw[hs,If]
 cases ho:o.dst with
 | none=>
  simp only[reduceCtorEq,if_false]
  exact(hT t).ext hx
 | some d=>
  rw[Acw (hd d ho)]
  by_cases h:d=t
  ·subst h;simpa using hv
  ·rw[if_neg h,if_neg (by simpa using h)]
   exact(hT t).ext hx
variable{ops:Array Oper}{Q:Exit->Act->World->Prop}
theorem Qk{m N:Nat}{X0:Cx}{s0:St}{outs:List B3}{D:Nat->Bool}{a:Act}{i:Nat}{o:Oper}{out:B3}{K:Act->World->Prop}
  (hM:Mid m N X0 E s0 (sig ops.toList outs D 0 s0) D X a) (hu:uniq s0.st) (ho:ops[i]?=some o) (hout:outs[i]?=some out) (hD:D i=false) (hd:∀d,o.dst=some d->d<N) (hk:∀d,o.dst=some d->E.kv d=none)
  (hf:Pd P ops.toList s0.nx i o (sig ops.toList outs D 0 s0) out)
  (h4:∀k t,i<k->D k=true->o.dst=some t->¬wT ops.toList t k) (h5:∀k b,i<k->D k=true->b∈Bm out.upd->¬wB outs b k)
  (hK:∀a' X',Mid m N X0 E s0 (sig ops.toList outs (Hw D i) 0 s0) (Hw D i) X' a'->K a' X'.w):wpOp P ops Q i K a X.w:=by
 have hadd:=Ahd ops.toList outs D 0 i s0 o out hu (by simpa using ho) hout (by simpa using hD) (by simpa using h4) (by simpa using h5)
 rw[z9] at hadd
 have hd':∀d,o.dst=some d->d<a.tmps.size:=λ d h=>by rw[hM.size];exact hd d h
 unfold wpOp
 rw[ho]
 simp only
 cases out with
 | none=>
  obtain⟨j,want,d,g1,g2,g3⟩:=hf
  have hw:Region.wanted o (yielded ops a.tmps)=false:=by
   have hv:=hM.tr d
   rw[hM.s] at hv
   simp only[Region.wanted,g1,yielded]
   have g2':(ops[j]?).bind (·.dst)=some d:=by simpa using g2
   rw[g2']
   simp only[zW]
   rcases g3 with g3|g3
   ·rw[g3] at hv
    generalize hval:a.tmps.getD d undef=vv at hv
    cases hv
    by_cases hlt:d<a.tmps.size
    ·have:a.tmps[d]?=some (.bool (!want)):=by simp[hlt] at hval⊢;exact hval
     rw[this]
     cases want<;>rfl
    ·simp[hlt] at hval
     cases hval
   ·rw[g3] at hv
    generalize hval:a.tmps.getD d undef=vv at hv
    cases hv with
    | tup hvs=>
     cases hvs
     by_cases hlt:d<a.tmps.size
     ·have:a.tmps[d]?=some (.tuple #[]):=by simp[hlt] at hval⊢;exact hval
      rw[this]
      cases want<;>rfl
     ·rw[Array.getElem?_eq_none (Nat.le_of_not_lt hlt)]
      cases want<;>rfl
  rw[hw]
  simp only[yC,if_false]
  have hst:∀b,look b (sig ops.toList outs (Hw D i) 0 s0).st=look b X.s.st:=λ b=>by
   rw[hM.s,<-hadd.st,Fy _ _ _ (Gs _ _ _ _ _ hu)]
   rfl
  have hx:Ext X (Ik X (sig ops.toList outs (Hw D i) 0 s0)):=Ext.seq rfl rfl rfl hst
  refine hK _ (Ik X (sig ops.toList outs (Hw D i) 0 s0)) ⟨rfl,hM.rel.seq rfl rfl rfl hst (Gs _ _ _ _ _ hu), ?_, ?_,hM.S,hM.cmx,by rw[O7];exact hM.defers,by rw[V3];exact hM.size,V2 hd' hk hM.keep⟩
  ·refine Wa (out:=none) hM.tr hx (.tup .nil) hd' λ t=> ?_
   rw[hM.s]
   exact(hadd.tm t).symm
  ·intro b hb hc
   obtain⟨k,k1,k2⟩:=hM.top b hb hc
   exact⟨k,Mp k1,k2⟩
 | some x=>
  obtain⟨v,u,rd⟩:=x
  obtain⟨g1,g2⟩:=hf
  have hw:Region.wanted o (yielded ops a.tmps)=true:=by
   cases hg:o.guard with
   | none=>simp only[Region.wanted,hg]
   | some y=>
    obtain⟨j,want⟩:=y
    obtain⟨d,k1,k2⟩:=g1 j want hg
    have hv:=hM.tr d
    rw[hM.s,k2] at hv
    simp only[Region.wanted,hg,yielded]
    have k1':(ops[j]?).bind (·.dst)=some d:=by simpa using k1
    rw[k1']
    simp only[zW]
    generalize hval:a.tmps.getD d undef=vv at hv
    cases hv
    by_cases hlt:d<a.tmps.size
    ·have:a.tmps[d]?=some (.bool want):=by simp[hlt] at hval⊢;exact hval
     rw[this]
     cases want<;>rfl
    ·simp[hlt] at hval
     cases hval
  rw[hw]
  simp only[if_true]
  left
  refine g2 _ ⟨λ _ _=>rfl,λ _ _ _ _ _=>rfl,λ _ _=>rfl,λ _ _=>rfl⟩ E X a hM.s hM.rel hM.tr ?_ K Q ?_
  ·intro b hb hb'
   cases hc:X.cm b with
   | none=>rfl
   | some cb=>
    obtain⟨k,k1,k2,k3⟩:=hM.top b (by omega) (by rw[hc];simp)
    have:k=i:=by omega
    subst this
    rw[hD] at k1
    cases k1
  ·intro val X' hG
   have hst:∀b,look b (sig ops.toList outs (Hw D i) 0 s0).st=look b X'.s.st:=λ b=>by
    rw[hG.st,hM.s,<-hadd.st]
    rfl
   have hx':Ext X' (Ik X' (sig ops.toList outs (Hw D i) 0 s0)):=Ext.seq rfl rfl rfl hst
   refine hK _ (Ik X' (sig ops.toList outs (Hw D i) 0 s0)) ⟨rfl,hG.rel.seq rfl rfl rfl hst (Gs _ _ _ _ _ hu), ?_, ?_,hG.S.trans hM.S, ?_,by rw[O7];exact(show Jx E X' a.defers from hM.defers.ext hG.ext),by rw[V3];exact hM.size,V2 hd' hk hM.keep⟩
   ·refine Wa (out:=some (v,u,rd)) hM.tr (hG.ext.trans hx') (hG.val.ext hx') hd' λ t=> ?_
    rw[hM.s]
    exact(hadd.tm t).symm
   ·intro b hb hc
    rcases hG.fresh b hc with h|⟨h1,h2⟩
    ·obtain⟨k,k1,k2⟩:=hM.top b hb h
     exact⟨k,Mp k1,k2⟩
    ·exact⟨i,W6,h1,h2⟩
   ·intro b cb hb hc
    obtain⟨cb',k1,k2⟩:=hM.cmx b cb hb hc
    obtain⟨cb2,k3,k4⟩:=hG.ext.cmx b cb' k1
    exact⟨cb2,k3,CB.same_trans k2 k4⟩
structure Inv(m N:Nat)(X0:Cx)(E:Env)(X:Cx)(a:Act):Prop where
 rel:Rel E X
 tr:Jo X a
 top:∀b,X.s.nx<=b->X.cm b=none
 S:GS X.S X0.S
 cmx:∀b cb,b<m->X0.cm b=some cb->∃cb',X.cm b=some cb'/\cb.same cb'
 defers:Jx E X a.defers
 size:a.tmps.size=N
 keep:∀t v,E.kv t=some v->a.tmps.getD t undef=v
theorem Inv.mid{m N:Nat}{X0:Cx}{a:Act}(h:Inv m N X0 E X a)(outs:List B3)(ops:Array Oper):Mid m N X0 E X.s (sig ops.toList outs (Ax 0) 0 X.s) (Ax 0) X a:=by
 rw[Hi,Qw]
 exact⟨rfl,h.rel,h.tr,λ b hb hc=>(hc (h.top b hb)).elim,h.S,h.cmx,h.defers,h.size,h.keep⟩
theorem Mid.done{m N:Nat}{X0:Cx}{s0 sf:St}{outs:List B3}{D:Nat->Bool}{a:Act}(h:Mid m N X0 E s0 (sig ops.toList outs D 0 s0) D X a)(hu:uniq s0.st)(hf:SEq (sig ops.toList outs (λ _=>true) 0 s0) sf)(hlen:outs.length=ops.size)
  (hall:∀k,k<ops.size->D k=true) (hD:∀k,D k=true->k<ops.size):∃X',X'.w=X.w/\X'.s={sf with nx:=s0.nx+16*ops.size}/\Inv m N X0 E X' a:=by
 have h1:SEq (sig ops.toList outs D 0 s0) (sig ops.toList outs (λ _=>true) 0 s0):=by
  refine⟨λ t=> ?_,λ b=> ?_,by rw[Kp,Kp],Gs _ _ _ _ _ hu⟩
  ·refine Mb t _ _ _ _ _ _ _ (λ k hk=> ?_) rfl
   obtain⟨o,k1,_⟩:=hk
   have:=(List.getElem?_eq_some_iff.1 k1).1
   rw[z9,hall k (by simpa using this)]
  ·refine I0 b _ _ _ _ _ _ _ hu hu (λ k hk=> ?_) rfl
   obtain⟨o,k1,_⟩:=hk
   have:=(List.getElem?_eq_some_iff.1 k1).1
   rw[z9,hall k (by omega)]
 have h2:=h1.trans hf
 have hst:∀b,look b ({sf with nx:=s0.nx+16*ops.size}:St).st=look b X.s.st:=λ b=>by rw[h.s];exact h2.st b
 have hx:Ext X (Ik X {sf with nx:=s0.nx+16*ops.size}):=Ext.seq rfl rfl rfl hst
 refine⟨Ik X {sf with nx:=s0.nx+16*ops.size},rfl,rfl,h.rel.seq rfl rfl rfl hst h2.uq, ?_, ?_,h.S,h.cmx,h.defers,h.size,h.keep⟩
 ·intro t
  have:=(h.tr t).ext hx
  rw[h.s,<-h2.tm] at this
  exact this
 ·intro b hb
  cases hc:(Ik X {sf with nx:=s0.nx+16*ops.size}).cm b with
  | none=>rfl
  | some cb=>
   have hb':s0.nx+16*ops.size<=b:=hb
   obtain⟨k,k1,k2,k3⟩:=h.top b (by omega) (by rw[show X.cm b=some cb from hc];simp)
   have:=hD k k1
   omega
def Oi(N:Nat)(ops:List Oper):Bool:=ops.all λ o=>match o.dst with
 | some d=>zU d N
 | none=>true
theorem Mr{N:Nat}{ops:List Oper}(h:Oi N ops=true){i:Nat}{o:Oper}(ho:ops[i]?=some o){d:Nat}(hd:o.dst=some d):d<N:=by
 unfold Oi at h
 rw[zP] at h
 have:=h o (List.mem_of_getElem? ho)
 rw[hd] at this
 simpa[zB] using this
theorem Sf(i:Nat):Hw (Ax i) i=Ax (i+1):=by
 funext k
 simp only[Hw,Ax]
 rw[zK,zC,zB,zB,beq_true]
 omega
theorem Anl{m N:Nat}{X0:Cx}{s0 sf:St}{outs:List B3}(hu:uniq s0.st)(hF:Hg P ops.toList s0.nx 0 ops.toList outs s0 sf)(hN:Oi N ops.toList=true)(hkv:∀o∈ops.toList,∀d,o.dst=some d->E.kv d=none)
  (hQ:∀X' a,X'.s={sf with nx:=s0.nx+16*ops.size}->Inv m N X0 E X' a->Q .normal a X'.w):
  ∀(n i:Nat) (X:Cx) (a:Act),i+n=ops.size->Mid m N X0 E s0 (sig ops.toList outs (Ax i) 0 s0) (Ax i) X a->wpOps P ops Q (yK i n) a X.w
 | 0,i,X,a,hn,hM=>by
  simp only[yK,wpOps]
  obtain⟨X',h1,h2,h3⟩:=hM.done hu hF.fin (by rw[hF.len];simp) (λ k hk=>by simp only[Ax];rw[zB];omega) (λ k hk=>by simp only[Ax] at hk;rw[zB] at hk;omega)
  rw[<-h1]
  exact hQ X' a h2 h3
 | n+1,i,X,a,hn,hM=>by
  rw[List.range'_succ,wpOps_cons]
  have hlt:i<ops.size:=by omega
  have hlt':i<outs.length:=by rw[hF.len];simpa using hlt
  have ho:ops[i]?=some ops[i]:=by simp[hlt]
  have hout:outs[i]?=some outs[i]:=by simp[hlt']
  have hfact:=hF.fact i ops[i] outs[i] (by simp) hout
  rw[z9] at hfact
  have hbi:Ax i i=false:=by simp only[Ax];rw[<-zG,zB];omega
  have hbk:∀k,i<k->Ax i k≠true:=λ k hk=>by simp only[Ax];rw[ne_eq,zB];omega
  refine Qk hM hu ho hout hbi (λ d hd=>Mr (i:=i) hN (by rw[Array.getElem?_toList];exact ho) hd) (hkv _ (by simp)) hfact (λ k t hk h=>(hbk k hk h).elim) (λ k b hk h=>(hbk k hk h).elim) λ a' X' hM'=> ?_
  rw[Sf] at hM'
  exact Anl hu hF hN hkv hQ n (i+1) X' a' (by omega) hM'
theorem Aji{a:Act}{i:Nat}{o:Oper}{s:St}(hT:Jo X a)(hs:X.s=s)(hg:∀j want,o.guard=some (j,want)->∃d,(ops.toList[j]?).bind (·.dst)=some d/\getD .un d s.tm=.bool want):Region.wanted o (yielded ops a.tmps)=true:=by
 cases hgd:o.guard with
 | none=>simp only[Region.wanted,hgd]
 | some y=>
  obtain⟨j,want⟩:=y
  obtain⟨d,k1,k2⟩:=hg j want hgd
  have hv:=hT d
  rw[hs,k2] at hv
  simp only[Region.wanted,hgd,yielded]
  have k1':(ops[j]?).bind (·.dst)=some d:=by simpa using k1
  rw[k1']
  simp only[zW]
  generalize hval:a.tmps.getD d undef=vv at hv
  cases hv
  by_cases hlt:d<a.tmps.size
  ·have:a.tmps[d]?=some (.bool want):=by simp[hlt] at hval⊢;exact hval
   rw[this]
   cases want<;>rfl
  ·simp[hlt] at hval
   cases hval
theorem Agy{m N:Nat}{X0:Cx}{s0 sf:St}{outs:List B3}{D:Nat->Bool}{a:Act}{i:Nat}{o:Oper}{t:Nat}{kk:IntKind}{n:Int}{u:Upd}{rd:List Nat}
  (hM:Mid m N X0 E s0 (sig ops.toList outs D 0 s0) D X a) (hu:uniq s0.st) (ho:ops[i]?=some o) (hD:D i=false) (hlt:∀k,D k=true->k<ops.size) (hs:SEq (sig ops.toList outs D 0 s0) sf)
  (hf:W4 P ops.toList s0.nx i o sf t kk n u rd) (hQ:∀X' a',X'.s={sf with st:=A6 u sf.st,nx:=s0.nx+16*ops.size}->Inv m N X0 E X' a'->Q (.panic (Lt t kk n)) a' X'.w):
  ∀K,wpOp P ops Q i K a X.w:=by
 intro K
 have hi:i<ops.size:=(Array.getElem?_eq_some_iff.1 ho).1
 have hX:SEq X.s sf:=by rw[hM.s];exact hs
 have hX':=hX.symm (by rw[hM.s];exact Gs _ _ _ _ _ hu)
 have hw:Region.wanted o (yielded ops a.tmps)=true:=Aji (i:=i) hM.tr rfl λ j want e=>by
  obtain⟨d,q1,q2⟩:=hf.1 j want e
  exact⟨d,q1,by rw[hX'.tm];exact q2⟩
 unfold wpOp
 rw[ho]
 simp only
 rw[hw]
 simp only[if_true]
 left
 refine hf.2 X.s ⟨λ x _=>hX'.ev x,λ c _ b o _=>by rw[hX'.st],λ b _=>hX'.st b,λ b _=>hX'.st b⟩ E X a rfl hM.rel hM.tr ?_ K Q ?_
 ·intro b hb hb'
  cases hc:X.cm b with
  | none=>rfl
  | some cb=>
   obtain⟨k,k1,k2,k3⟩:=hM.top b (by omega) (by rw[hc];simp)
   have:k=i:=by omega
   subst this
   rw[hD] at k1
   cases k1
 ·intro val X' hG
  have hst:∀b,look b ({sf with st:=A6 u sf.st,nx:=s0.nx+16*ops.size}:St).st=look b X'.s.st:=λ b=>by
   rw[hG.st]
   simp only
   rw[B7 _ _ hX.uq,B7 _ _ hX'.uq,hX.st]
  have hx':Ext X' (Ik X' {sf with st:=A6 u sf.st,nx:=s0.nx+16*ops.size}):=Ext.seq rfl rfl rfl hst
  refine hQ (Ik X' {sf with st:=A6 u sf.st,nx:=s0.nx+16*ops.size}) a rfl ⟨hG.rel.seq rfl rfl rfl hst (Cg _ hX.uq), ?_, ?_,hG.S.trans hM.S, ?_,hM.defers.ext (hG.ext.trans hx'),hM.size,hM.keep⟩
  ·intro t'
   have:=((hM.tr t').ext hG.ext).ext hx'
   rw[<-hX.tm] at this
   exact this
  ·intro b hb
   have hb:s0.nx+16*ops.size<=b:=hb
   cases hc:(Ik X' {sf with st:=A6 u sf.st,nx:=s0.nx+16*ops.size}).cm b with
   | none=>rfl
   | some cb=>
    rcases hG.fresh b (by rw[show X'.cm b=some cb from hc];simp) with h|⟨h1,h2⟩
    ·obtain⟨k,k1,k2,k3⟩:=hM.top b (by omega) h
     have:=hlt k k1
     omega
    ·omega
  ·intro b cb hb hc
   obtain⟨cb',k1,k2⟩:=hM.cmx b cb hb hc
   obtain⟨cb2,k3,k4⟩:=hG.ext.cmx b cb' k1
   exact⟨cb2,k3,CB.same_trans k2 k4⟩
theorem Aae:∀{l1 l2:List Oper} {outs:List B3} {D:Nat->Bool} {i:Nat} {s:St},outs.length=l1.length->sig (l1++l2) outs D i s=sig l1 outs D i s
 | [],l2,[],_,_,_,_=>by cases l2<;>simp[sig]
 | [],_,_::_,_,_,_,h=>by simp at h
 | _::_,_,[],_,_,_,h=>by simp at h
 | o::l1,l2,out::outs,D,i,s,h=>by
  simp only[zX,sig]
  exact Aae (by simpa using h)
theorem Ahe{l:List Oper}{outs:List B3}{D:Nat->Bool}{s:St}(hu:uniq s.st)(hlen:outs.length=l.length)(hD:∀k,k<l.length->D k=true):SEq (sig l outs D 0 s) (sig l outs (λ _=>true) 0 s):=by
 refine⟨λ t=> ?_,λ b=> ?_,by rw[Kp,Kp],Gs _ _ _ _ _ hu⟩
 ·refine Mb t _ _ _ _ _ _ _ (λ k hk=> ?_) rfl
  obtain⟨o,k1,_⟩:=hk
  rw[z9,hD k (List.getElem?_eq_some_iff.1 k1).1]
 ·refine I0 b _ _ _ _ _ _ _ hu hu (λ k hk=> ?_) rfl
  obtain⟨o,k1,_⟩:=hk
  rw[z9,hD k (by have:=(List.getElem?_eq_some_iff.1 k1).1;omega)]
theorem Arv{m N:Nat}{X0:Cx}{s0 sf:St}{outs:List B3}{l1 l2:List Oper}{o:Oper}{t:Nat}{kk:IntKind}{n:Int}{u:Upd}{rd:List Nat}(hu:uniq s0.st)(hl:ops.toList=l1++o::l2)(hF:Hg P ops.toList s0.nx 0 l1 outs s0 sf)(hN:Oi N ops.toList=true)(hkv:∀o∈ops.toList,∀d,o.dst=some d->E.kv d=none)
  (hf:W4 P ops.toList s0.nx l1.length o sf t kk n u rd) (hQ:∀X' a',X'.s={sf with st:=A6 u sf.st,nx:=s0.nx+16*ops.size}->Inv m N X0 E X' a'->Q (.panic (Lt t kk n)) a' X'.w):
  ∀(d i:Nat) (X:Cx) (a:Act),i+d=l1.length->Mid m N X0 E s0 (sig ops.toList outs (Ax i) 0 s0) (Ax i) X a->wpOps P ops Q (yK i (ops.size-i)) a X.w:=by
 have hsz:ops.size=l1.length+(l2.length+1):=by rw[<-zV,hl];simp
 have hpre:∀D,sig ops.toList outs D 0 s0=sig l1 outs D 0 s0:=λ D=>by rw[hl];exact Aae hF.len
 intro d
 induction d with
 | zero=>
  intro i X a hd hM
  have hi:i=l1.length:=by omega
  subst hi
  obtain⟨q,hq⟩:∃q,ops.size-l1.length=q+1:=⟨l2.length,by omega⟩
  rw[hq,List.range'_succ,wpOps_cons]
  have ho:ops[l1.length]?=some o:=by rw[<-Array.getElem?_toList,hl];simp
  have hb:Ax l1.length l1.length=false:=by simp only[Ax];rw[<-zG,zB];omega
  refine Agy hM hu ho hb (λ k hk=>by simp only[Ax] at hk;rw[zB] at hk;omega) ?_ hf hQ _
  rw[hpre]
  refine(Ahe hu hF.len λ k h1=> ?_).trans hF.fin
  simp only[Ax];rw[zB];omega
 | succ d ih=>
  intro i X a hd hM
  have hlt:i<l1.length:=by omega
  obtain⟨q,hq⟩:∃q,ops.size-i=q+1:=⟨ops.size-i-1,by omega⟩
  rw[hq,List.range'_succ,wpOps_cons]
  have hlt':i<outs.length:=by rw[hF.len];exact hlt
  have ho:ops[i]?=some l1[i]:=by rw[<-Array.getElem?_toList,hl,List.getElem?_append_left hlt];simp[hlt]
  have hout:outs[i]?=some outs[i]:=by simp[hlt']
  have hfact:=hF.fact i l1[i] outs[i] (by simp[hlt]) hout
  rw[z9,<-hpre] at hfact
  have hbi:Ax i i=false:=by simp only[Ax];rw[<-zG,zB];omega
  have hbk:∀k,i<k->Ax i k≠true:=λ k hk=>by simp only[Ax];rw[ne_eq,zB];omega
  refine Qk hM hu ho hout hbi (λ d hd=>Mr (i:=i) hN (by rw[Array.getElem?_toList];exact ho) hd) (hkv _ (List.mem_of_getElem? (by rw[Array.getElem?_toList];exact ho))) hfact (λ k t hk h=>(hbk k hk h).elim) (λ k b hk h=>(hbk k hk h).elim) λ a' X' hM'=> ?_
  rw[Sf] at hM'
  rw[show q=ops.size-(i+1) by omega]
  exact ih (i+1) X' a' (by omega) hM'
end Go.Ev
namespace Go.Ev
variable{R:Type}{E:Env}{X:Cx}{P:Program}
def R6(all:List Oper)(o:Oper):List Nat:=
  (o.op.operands.toList.filterMap λ|.tmp t=>some t|_=>none)++
  (match o.guard with
   | some (j,_)=>(match(all[j]?).bind (·.dst) with|some d=>[d]|none=>[])
   | none=>[])
def Kz(all:List Oper)(x y:Oper):Bool:=
  match x.dst with
  | some d=>H0 d (R6 all y)||(match y.dst with|some e=>zF e d|none=>false)
  | none=>false
def Qy(all:List Oper)(pr:List Nat):List (Nat×Oper)->Bool
 | []=>true
 | x::r=>r.all (λ y=> !(Kz all x.2 y.2||Kz all y.2 x.2)||zH (pr.getD y.1 0) x.1)&&Qy all pr r
def Pp:List (Nat×Oper)->Bool
 | []=>true
 | x::r=>(binds x.2).all (λ j=>zU j x.1)&&Pp r
def Uo(all:List Oper):Bool:=Pp (D2 0 all)&&Qy all (Dl all []) (D2 0 all)
theorem Ack{α:Type}:∀{l:List α} {n i:Nat} {x:α},l[i]?=some x->(n+i,x)∈D2 n l
 | [],_,_,_,h=>by simp at h
 | y::l,n,0,x,h=>by simp at h;subst h;simp[D2]
 | y::l,n,i+1,x,h=>by
  simp only[D2,zM]
  right
  have:=Ack (n:=n+1) (l:=l) (i:=i) (by simpa using h)
  rwa[show n+1+i=n+(i+1) by omega] at this
theorem Pa{all:List Oper}{pr:List Nat}:∀{l:List Oper} {n i j:Nat} {x y:Oper},Qy all pr (D2 n l)=true->i<j->l[i]?=some x->l[j]?=some y->(Kz all x y=true\/Kz all y x=true)->zH (pr.getD (n+j) 0) (n+i)=true
 | [],_,_,_,_,_,_,_,h,_,_=>by simp at h
 | z::l,n,0,j+1,x,y,h,hij,hx,hy,ht=>by
  simp only[List.getElem?_cons_zero,zA] at hx
  subst hx
  simp only[D2,Qy,z8,zP] at h
  have:=h.1 _ (Ack (n:=n+1) (l:=l) (i:=j) (by simpa using hy))
  simp only[zC,zJ] at this
  rw[show n+1+j=n+(j+1) by omega] at this
  rcases this with h1|h1
  ·rw[Bool.or_eq_false_iff] at h1
   rcases ht with ht|ht
   ·rw[h1.1] at ht;cases ht
   ·rw[h1.2] at ht;cases ht
  ·exact h1
 | z::l,n,i+1,j+1,x,y,h,hij,hx,hy,ht=>by
  simp only[D2,Qy,z8] at h
  have:=Pa (n:=n+1) h.2 (by omega:i<j) (by simpa using hx) (by simpa using hy) ht
  rwa[show n+1+j=n+(j+1) by omega,show n+1+i=n+(i+1) by omega] at this
 | z::l,n,0,0,x,y,h,hij,hx,hy,ht=>by omega
 | z::l,n,i+1,0,x,y,h,hij,hx,hy,ht=>by omega
theorem Oc:∀{l:List Oper} {n i:Nat} {x:Oper},Pp (D2 n l)=true->l[i]?=some x->∀j∈binds x,j<n+i
 | [],_,_,_,_,h,_,_=>by simp at h
 | z::l,n,0,x,h,hx,j,hj=>by
  simp only[List.getElem?_cons_zero,zA] at hx
  subst hx
  simp only[D2,Pp,z8,zP] at h
  have:=h.1 j hj
  rw[zB] at this
  omega
 | z::l,n,i+1,x,h,hx,j,hj=>by
  simp only[D2,Pp,z8] at h
  have:=Oc (n:=n+1) h.2 (by simpa using hx:l[i]?=some x) j hj
  omega
theorem Acl:∀{outs:List B3} {n i:Nat} {v:AV} {u:Upd} {rd:List Nat},outs[i]?=some (some (v,u,rd))->(n+i,rd,Bm u)∈Cs n outs
 | [],_,_,_,_,_,h=>by simp at h
 | o::l,n,0,v,u,rd,h=>by
  simp only[List.getElem?_cons_zero,zA] at h
  subst h
  simp[Cs]
 | o::l,n,i+1,v,u,rd,h=>by
  have:=Acl (n:=n+1) (outs:=l) (i:=i) (by simpa using h)
  rw[show n+1+i=n+(i+1) by omega] at this
  cases o with
  | none=>simpa[Cs] using this
  | some x=>obtain⟨v',u',rd'⟩:=x;simp only[Cs,zM];exact .inr this
theorem Dd{pr:List Nat}:∀{outs:List B3} {n i j:Nat} {v v':AV} {u u':Upd} {rd rd':List Nat},Gp pr (Cs n outs)=true->i<j->outs[i]?=some (some (v,u,rd))->outs[j]?=some (some (v',u',rd'))->
  Je (n+i,rd,Bm u) (n+j,rd',Bm u')=true->zH (pr.getD (n+j) 0) (n+i)=true
 | [],_,_,_,_,_,_,_,_,_,_,_,h,_,_=>by simp at h
 | o::l,n,0,j+1,v,v',u,u',rd,rd',h,hij,hx,hy,hc=>by
  simp only[List.getElem?_cons_zero,zA] at hx
  subst hx
  simp only[Cs,Gp,z8,zP] at h
  have hm:=Acl (n:=n+1) (outs:=l) (i:=j) (by simpa using hy)
  rw[show n+1+j=n+(j+1) by omega] at hm
  have:=h.1 _ hm
  simp only[zC,zJ] at this
  rcases this with h1|h1
  ·rw[zL] at hc;rw[hc] at h1;cases h1
  ·exact h1
 | o::l,n,i+1,j+1,v,v',u,u',rd,rd',h,hij,hx,hy,hc=>by
  have h':Gp pr (Cs (n+1) l)=true:=by
   cases o with
   | none=>simpa[Cs] using h
   | some x=>obtain⟨a,b,c⟩:=x;simp only[Cs,Gp,z8] at h;exact h.2
  have:=Dd (n:=n+1) h' (by omega:i<j) (by simpa using hx) (by simpa using hy) (by rw[show n+1+j=n+(j+1) by omega,show n+1+i=n+(i+1) by omega];exact hc)
  rwa[show n+1+j=n+(j+1) by omega,show n+1+i=n+(i+1) by omega] at this
 | o::l,n,0,0,_,_,_,_,_,_,h,hij,_,_,_=>by omega
 | o::l,n,i+1,0,_,_,_,_,_,_,h,hij,_,_,_=>by omega
theorem Abz(acc:List Nat)(k:Nat):∀(bs:List Nat) (x:Nat),zH (bs.foldl (λ x j=>x|||2^j|||acc.getD j 0) x) k=true->zH x k=true\/∃j∈bs,k=j\/zH (acc.getD j 0) k=true
 | [],x,h=>.inl h
 | b::bs,x,h=>by
  simp only[yX] at h
  rcases Abz acc k bs _ h with h1|⟨j,hj,h1⟩
  ·rw[xA,xA,zC,zC,Nat.testBit_two_pow] at h1
   rcases h1 with(h1|h1)|h1
   ·exact .inl h1
   ·exact .inr ⟨b,by simp,.inl (by simpa using h1:b=k).symm⟩
   ·exact .inr ⟨b,by simp,.inr h1⟩
  ·exact .inr ⟨j,by simp[hj],h1⟩
theorem O4:∀(l:List Oper) (acc:List Nat),(∀j,j<acc.length->(Dl l acc).getD j 0=acc.getD j 0)
 | [],acc=>λ _ _=>rfl
 | o::r,acc=>by
  intro j hj
  simp only[Dl]
  rw[O4 r _ j (by simp;omega)]
  simp[List.getD_eq_getElem?_getD,List.getElem?_append_left hj]
theorem Yf:∀{l:List Oper} {acc:List Nat} {i:Nat} {o:Oper},l[i]?=some o->∀k,zH ((Dl l acc).getD (acc.length+i) 0) k=true->∃j∈binds o,k=j\/(j<acc.length+i/\zH ((Dl l acc).getD j 0) k=true)
 | [],_,_,_,h,_,_=>by simp at h
 | z::l,acc,0,o,h,k,hk=>by
  simp only[List.getElem?_cons_zero,zA] at h
  subst h
  simp only[Dl,zL] at hk⊢
  rw[O4 l _ _ (by simp)] at hk
  have e:(acc++[(binds z).foldl (λ x j=>x|||2^j|||acc.getD j 0) 0]).getD acc.length 0=(binds z).foldl (λ x j=>x|||2^j|||acc.getD j 0) 0:=by
   simp[List.getD_eq_getElem?_getD]
  rw[e] at hk
  rcases Abz acc k _ _ hk with h1|⟨j,hj,h1⟩
  ·simp at h1
  ·refine⟨j,hj,h1.imp id λ h2=> ?_⟩
   have hlt:j<acc.length:=by
    rcases yR j acc.length with h|h
    ·exact h
    ·rw[List.getD_eq_getElem?_getD,List.getElem?_eq_none h] at h2
     simp at h2
   refine⟨hlt, ?_⟩
   rw[O4 l _ j (by simp;omega)]
   rw[List.getD_eq_getElem?_getD,List.getElem?_append_left hlt,<-List.getD_eq_getElem?_getD]
   exact h2
 | z::l,acc,i+1,o,h,k,hk=>by
  simp only[Dl] at hk⊢
  have:=Yf (l:=l) (acc:=acc++[(binds z).foldl (λ x j=>x|||2^j|||acc.getD j 0) 0]) (i:=i) (o:=o) (by simpa using h) k (by simpa[xF,yS 1 i] using hk)
  simpa[xF,yS 1 i] using this
def Y3(all:List Oper)(D:Nat->Bool):Prop:=∀i o,all[i]?=some o->D i=true->∀j∈binds o,D j=true
theorem D8{all:List Oper}{D:Nat->Bool}(hC:Y3 all D):∀{i:Nat} {o:Oper},all[i]?=some o->(∀j∈binds o,D j=true)->∀k,zH ((Dl all []).getD i 0) k=true->D k=true:=by
 intro i
 induction i using yH with
 | _ i ih=>
  intro o ho hb k hk
  have:=Yf (acc:=[]) ho k (by simpa using hk)
  obtain⟨j,hj,h1⟩:=this
  rcases h1 with rfl|⟨h1,h2⟩
  ·exact hb _ hj
  ·simp at h1
   have hlt:j<all.length:=by
    have:=(List.getElem?_eq_some_iff.1 ho).1
    omega
   have hj':all[j]?=some all[j]:=by simp[hlt]
   exact ih j h1 hj' (hC j _ hj' (hb j hj)) k h2
theorem Pd.move{all:List Oper}{nb i:Nat}{o:Oper}{s s':St}{out:B3}(ht:∀t∈R6 all o,getD .un t s'.tm=getD .un t s.tm)(hb:∀v u rd,out=some (v,u,rd)->∀b,b∈rd\/b∈Bm u->look b s'.st=look b s.st)
  (hpt:∀v u rd,out=some (v,u,rd)->∀c∈rd,∀b o,Wo c=some (b,o)->slAt o (look b s'.st)=slAt o (look b s.st))
  (hf:Pd P all nb i o s out):Pd P all nb i o s' out:=by
 have hg:∀j want d,o.guard=some (j,want)->(all[j]?).bind (·.dst)=some d->d∈R6 all o:=by
  intro j want d h1 h2
  simp[R6,h1,h2]
 cases out with
 | none=>
  obtain⟨j,want,d,h1,h2,h3⟩:=hf
  exact⟨j,want,d,h1,h2,by rw[ht d (hg j want d h1 h2)];exact h3⟩
 | some x=>
  obtain⟨v,u,rd⟩:=x
  obtain⟨h1,h2⟩:=hf
  refine⟨λ j want hgd=> ?_,λ s'' ha=>h2 s'' ⟨λ x hx=>(ha.ev x hx).trans ?_,λ c hc b o' e=>(ha.pt c hc b o' e).trans (hpt v u rd rfl c hc b o' e),λ b hb'=>(ha.rd b hb').trans (hb v u rd rfl b (.inl hb')),λ b hb'=>(ha.wr b hb').trans (hb v u rd rfl b (.inr hb'))⟩⟩
  ·obtain⟨d,k1,k2⟩:=h1 j want hgd
   exact⟨d,k1,by rw[ht d (hg j want d hgd k1)];exact k2⟩
  ·cases x with
   | tmp t=>exact ht t (by simp only[R6,zI,yN];exact .inl ⟨.tmp t,by simpa using hx,rfl⟩)
   | _=>rfl
theorem Ks{all:List Oper}{x y:Oper}{t:Nat}(h:x.dst=some t)(h':t∈R6 all y):Kz all x y=true:=by
 simp only[Kz,h,zC];exact .inl (Gm.2 h')
theorem Yr{all:List Oper}{x y:Oper}{t:Nat}(h:x.dst=some t)(h':y.dst=some t):Kz all x y=true:=by
 simp[Kz,h,h']
def Tk:List Bool->Nat
 | []=>0
 | b::r=>(if b then 0 else 1)+Tk r
theorem Ul:∀{l:List Bool} {i:Nat},l[i]?=some false->Tk (l.set i true)+1=Tk l
 | [],i,h=>by simp at h
 | b::r,0,h=>by simp at h;subst h;simp[Tk];omega
 | b::r,i+1,h=>by
  simp only[List.getElem?_cons_succ] at h
  simp only[List.set_cons_succ,Tk]
  have:=Ul h
  omega
theorem Ri:∀{l:List Bool},Tk l=0->∀i:Nat,l[i]?≠some false
 | [],_,i=>by simp
 | b::r,h,0=>by
  simp only[Tk] at h
  cases b
  ·simp at h
  ·simp
 | b::r,h,i+1=>by
  simp only[Tk] at h
  simpa using Ri (l:=r) (by omega) i
variable{ops:Array Oper}{Q:Exit->Act->World->Prop}
def dof(listed:Array Bool)(k:Nat):Bool:=listed.getD k false
theorem Ip{listed:Array Bool}{i:Nat}:i∈Region.ready .any ops listed<->i<ops.size/\listed.getD i true=false/\∃o,ops[i]?=some o/\∀j∈binds o,listed.getD j false=true:=by
 simp only[Region.ready,zS,xB,z8,zJ]
 constructor
 ·rintro⟨h1,h2,h3⟩
  refine⟨h1,h2,ops[i],by simp[h1], ?_⟩
  have ho:ops[i]?=some ops[i]:=by simp[h1]
  rw[ho] at h3
  simp only[yI,yW,yO] at h3
  intro j hj
  simp only[binds,yT,zS] at hj
  obtain⟨e,⟨he,hb⟩,rfl⟩:=hj
  have:=h3 e (by simpa using he)
  simpa[hb] using this
 ·rintro⟨h1,h2,o,ho,h3⟩
  refine⟨h1,h2, ?_⟩
  rw[ho]
  simp only[yI,yW,yO]
  intro e he
  cases hb:Region.binds .any e
  ·simp
  ·simp only[Bool.not_true,xG]
   exact h3 e.on (by simp only[binds,yT,zS];exact⟨e,⟨by simpa using he,hb⟩,rfl⟩)
def Vj(outs:List B3)(b o k:Nat):Prop:=∃v u rd,outs[k]?=some (some (v,u,rd))/\G5 (Fp b o)∈rd
theorem V5:∀{l:List Oper} {outs:List B3} {D:Nat->Bool} {i n:Nat} {s:St} {o:Oper} {out:B3},uniq s.st->l[n]?=some o->outs[n]?=some out->D (i+n)=true->(∀k,n<k->D (i+k)=false)->
  sig l outs D i s=effS o out (sig l outs (λ k=>D k&&zU k (i+n)) i s)
 | [],_,_,_,_,_,_,_,_,h,_,_,_=>by simp at h
 | _::_,[],_,_,_,_,_,_,_,_,h,_,_=>by simp at h
 | o0::l,out0::outs,D,i,0,s,o,out,hu,h1,h2,h3,h4=>by
  simp only[List.getElem?_cons_zero,zA] at h1 h2
  subst h1 h2
  rw[zL] at h3
  have none:∀(l:List Oper) (outs:List B3) (i:Nat) (D:Nat->Bool) (s:St),(∀k,D (i+k)=false)->sig l outs D i s=s:=by
   intro l
   induction l with
   | nil=>intro outs i D s _;simp[sig]
   | cons a l ih=>
    intro outs i D s h
    cases outs with
    | nil=>simp[sig]
    | cons c outs=>
     simp only[sig]
     rw[if_neg (by have:=h 0;rw[zL] at this;rw[this];simp)]
     exact ih _ _ _ _ λ k=>by rw[show i+1+k=i+(k+1) by omega];exact h (k+1)
  simp only[sig]
  rw[if_pos h3,none _ _ _ _ _ λ k=>by rw[show i+1+k=i+(k+1) by omega];exact h4 (k+1) (by omega)]
  rw[if_neg (by simp[zB]),none _ _ _ _ _ λ k=> ?_]
  have e:zU (i+1+k) (i+0)=false:=by rw[<-zG,zB];omega
  rw[e,xC]
 | o0::l,out0::outs,D,i,n+1,s,o,out,hu,h1,h2,h3,h4=>by
  simp only[List.getElem?_cons_succ] at h1 h2
  simp only[sig]
  have e:(D i&&zU i (i+(n+1)))=D i:=by
   have:zU i (i+(n+1))=true:=by rw[zB];omega
   rw[this,xH]
  simp only[e]
  have:=V5 (l:=l) (outs:=outs) (D:=D) (i:=i+1) (n:=n) (s:=if D i=true then effS o0 out0 s else s) (by split;exact Ea _ _ _ hu;exact hu) h1 h2 (by rw[show i+1+n=i+(n+1) by omega];exact h3)
   (λ k hk=>by rw[show i+1+k=i+(k+1) by omega];exact h4 (k+1) (by omega))
  rw[this,show i+1+n=i+(n+1) by omega]
theorem Z6{l:List Oper}{outs:List B3}{s:St}(hu:uniq s.st)(hlen:outs.length=l.length)(hk:∀(j:Nat) out,outs[j]?=some out->Y4 (sig l outs (Ax j) 0 s) out){b o:Nat}(hb:b<4294967296){D:Nat->Bool}:∀n,n<=l.length->(∀k,k<n->wB outs b k->D k=true\/Vj outs b o k)->
  slAt o (look b (sig l outs (λ k=>D k&&Ax n k) 0 s).st)=slAt o (look b (sig l outs (Ax n) 0 s).st)
 | 0,_,_=>by
  have:(λ k=>D k&&Ax 0 k)=Ax 0:=by funext k;rw[Hi];simp
  rw[this]
 | n+1,hn,h=>by
  have ih:=Z6 hu hlen hk hb (D:=D) n (by omega) λ k hk=>h k (by omega)
  have hol:l[n]?=some l[n]:=by simp[show n<l.length by omega]
  have hou:outs[n]?=some outs[n]:=by simp[show n<outs.length by omega]
  have hbs:∀k,Ax (n+1) k=(Ax n k||zF k n):=by
   intro k
   simp only[Ax]
   rw[zK,zC,zB,zB,beq_true]
   omega
  have hbn:Ax n n=false:=by simp only[Ax];rw[<-zG,zB];omega
  have hafter:∀k,n<k->Ax (n+1) k=false:=λ k hk=>by simp only[Ax];rw[<-zG,zB];omega
  have hat:Ax (n+1) n=true:=by simp only[Ax];rw[zB];omega
  have e2:sig l outs (Ax (n+1)) 0 s=effS l[n] outs[n] (sig l outs (Ax n) 0 s):=by
   rw[V5 hu hol hou (by rw[z9];exact hat) (λ k hk=>by rw[z9];exact hafter k hk)]
   congr 2
   funext k
   rw[z9]
   simp only[Ax]
   rw[zK,z8,zB,zB]
   omega
  have e1:D n=true->sig l outs (λ k=>D k&&Ax (n+1) k) 0 s=effS l[n] outs[n] (sig l outs (λ k=>D k&&Ax n k) 0 s):=by
   intro hD
   rw[V5 hu hol hou (by rw[z9,hD,hat];rfl) (λ k hk=>by rw[z9,hafter k hk,xC])]
   congr 2
   funext k
   rw[z9]
   simp only[Ax]
   rw[zK]
   simp only[z8,zB]
   exact⟨λ h=>⟨h.1.1,h.2⟩,λ h=>⟨⟨h.1,by omega⟩,h.2⟩⟩
  have e0:¬wB outs b n\/D n=false->look b (sig l outs (λ k=>D k&&Ax (n+1) k) 0 s).st=look b (sig l outs (λ k=>D k&&Ax n k) 0 s).st:=by
   intro hh
   refine I0 b _ _ _ _ _ _ _ hu hu (λ k hw=> ?_) rfl
   rw[z9,hbs]
   by_cases hkn:k=n
   ·subst hkn
    rcases hh with hh|hh
    ·exact(hh hw).elim
    ·rw[hh];rfl
   ·rw[Bd.2 hkn,yL]
  by_cases hw:wB outs b n
  ·cases hD:D n with
   | true=>
    rw[e1 hD,e2,Fy _ _ _ (Gs _ _ _ _ _ hu),Fy _ _ _ (Gs _ _ _ _ _ hu)]
    cases hE:Dg outs[n].upd b with
    | some x=>rfl
    | none=>exact ih
   | false=>
    rw[e0 (.inr hD),ih,e2]
    rcases h n (by omega) hw with h1|⟨v,u,rd,h1,h2⟩
    ·rw[hD] at h1;cases h1
    ·have h3:=hk n _ hou
     rw[hou,zA] at h1
     rw[h1] at h3⊢
     exact(h3 b o hb h2).symm
  ·rw[e0 (.inl hw),ih,e2,Fy _ _ _ (Gs _ _ _ _ _ hu)]
   have:Dg outs[n].upd b=none:=Ei λ hm=>hw ⟨_,hou,hm⟩
   rw[this]
theorem Ag5{l:List Oper}{outs:List B3}{s:St}(hu:uniq s.st)(hlen:outs.length=l.length)(hk:∀(j:Nat) out,outs[j]?=some out->Y4 (sig l outs (Ax j) 0 s) out){b o i:Nat}(hb:b<4294967296)(hi:i<=l.length){D:Nat->Bool}
  (hA:∀k,wB outs b k->Vj outs b o k\/D k=Ax i k) (hB:∀k k',k'<k->wB outs b k->wB outs b k'->D k=true->D k'=true):
  slAt o (look b (sig l outs D 0 s).st)=slAt o (look b (sig l outs (Ax i) 0 s).st):=by
 have hlt:∀k,wB outs b k->k<l.length:=λ k hw=>by
  obtain⟨out,h,_⟩:=hw
  rw[<-hlen];exact(List.getElem?_eq_some_iff.1 h).1
 have hM:∃M,i<=M/\M<=l.length/\(∀k,i<=k->k<M->wB outs b k->Vj outs b o k)/\(∀k,M<=k->wB outs b k->D k=false):=by
  have hle:∀n,i+n<=l.length->(∃M,i<=M/\M<=l.length/\(∀k,i<=k->k<M->wB outs b k->Vj outs b o k)/\(∀k,M<=k->wB outs b k->D k=false))\/(∀k,i<=k->k<i+n->wB outs b k->Vj outs b o k):=by
   intro n
   induction n with
   | zero=>intro _;exact .inr λ k h1 h2=>by omega
   | succ n ih=>
    intro hn
    rcases ih (by omega) with h|h
    ·exact .inl h
    ·by_cases hx:wB outs b (i+n)->Vj outs b o (i+n)
     ·refine .inr λ k h1 h2 hw=> ?_
      by_cases e:k=i+n
      ·subst e;exact hx hw
      ·exact h k h1 (by omega) hw
     ·have hw:wB outs b (i+n):=Classical.byContradiction λ h=>hx λ h'=>(h h').elim
      have hnk:¬Vj outs b o (i+n):=λ h=>hx λ _=>h
      have hDn:D (i+n)=false:=by
       rcases hA _ hw with h|h
       ·exact(hnk h).elim
       ·rw[h];simp only[Ax];rw[<-zG,zB];omega
      refine .inl ⟨i+n,by omega,by omega,λ k h1 h2 hw'=>h k h1 h2 hw',λ k h1 hw'=> ?_⟩
      by_cases e:k=i+n
      ·subst e;exact hDn
      ·cases eD:D k with
       | false=>rfl
       | true=>
        have:=hB k (i+n) (by omega) hw' hw eD
        rw[hDn] at this
        cases this
  rcases hle (l.length-i) (by omega) with h|h
  ·exact h
  ·exact⟨l.length,hi,zE _,λ k h1 h2=>h k h1 (by omega),λ k h1 hw=>by have:=hlt k hw;omega⟩
 obtain⟨M,h1,h2,h3,h4⟩:=hM
 have p1:=Z6 hu hlen hk hb (o:=o) (D:=D) M h2 λ k hkM hw=>by
  by_cases hki:i<=k
  ·exact .inr (h3 k hki hkM hw)
  ·rcases hA k hw with h|h
   ·exact .inr h
   ·refine .inl ?_
    rw[h];simp only[Ax];rw[zB];omega
 have p2:=Z6 hu hlen hk hb (o:=o) (D:=Ax i) M h2 λ k hkM hw=>by
  by_cases hki:i<=k
  ·exact .inr (h3 k hki hkM hw)
  ·refine .inl ?_
   simp only[Ax];rw[zB];omega
 have q1:look b (sig l outs (λ k=>D k&&Ax M k) 0 s).st=look b (sig l outs D 0 s).st:=by
  refine I0 b _ _ _ _ _ _ _ hu hu (λ k hw=> ?_) rfl
  rw[z9]
  by_cases hkM:M<=k
  ·rw[h4 k hkM hw];rfl
  ·have:Ax M k=true:=by simp only[Ax];rw[zB];omega
   rw[this,xH]
 have q2:(λ k=>Ax i k&&Ax M k)=Ax i:=by
  funext k
  simp only[Ax]
  rw[zK,z8,zB,zB]
  omega
 rw[q2] at p2
 rw[<-q1,p1,p2]
theorem Qq{w r:Rec}{b o c:Nat}(hc:c∈r.2.1)(hp:Wo c=some (b,o))(hw:b∈w.2.2)(hk:G5 (Fp b o)∉w.2.1):Ag4 w r=true:=by
 simp only[Ag4,List.any_eq_true]
 refine⟨c,hc, ?_⟩
 have e:c=Fp b o/\b<4294967296:=by
  unfold Wo at hp
  cases e:zF (c/4294967296) 0<;>rw[e] at hp<;>simp at hp
  have:=Bd.1 e
  simp only[Fp]
  omega
 simp only[hp,z8,zJ]
 refine⟨Gm.2 hw, ?_⟩
 cases e2:H0 (G5 c) w.2.1
 ·rfl
 ·exact(hk (by rw[<-e.1];exact Gm.1 e2)).elim
theorem Avn{m N:Nat}{X0:Cx}{s0 sf:St}{outs:List B3}(hu:uniq s0.st)(hF:Hg P ops.toList s0.nx 0 ops.toList outs s0 sf)(hN:Oi N ops.toList=true)(hkv:∀o∈ops.toList,∀d,o.dst=some d->E.kv d=none)(hd:Uo ops.toList=true)(hp:Gp (Dl ops.toList []) (Cs 0 outs)=true)
  (hQ:∀X' a,X'.s={sf with nx:=s0.nx+16*ops.size}->Inv m N X0 E X' a->Q .normal a X'.w):
  ∀(fuel:Nat) (listed:Array Bool) (X:Cx) (a:Act),listed.size=ops.size->Tk listed.toList=fuel->Y3 ops.toList (dof listed)->Mid m N X0 E s0 (sig ops.toList outs (dof listed) 0 s0) (dof listed) X a->wpAny P .any ops Q fuel listed a X.w:=by
 simp only[Uo,z8] at hd
 obtain⟨hb,ht⟩:=hd
 have fin:∀(listed:Array Bool) (X:Cx) (a:Act),listed.size=ops.size->(∀i:Nat,listed.toList[i]?≠some false)->Mid m N X0 E s0 (sig ops.toList outs (dof listed) 0 s0) (dof listed) X a->Q .normal a X.w:=by
  intro listed X a hsz hall hM
  have h1:∀k,k<ops.size->dof listed k=true:=by
   intro k hk
   have:=hall k
   simp only[dof]
   cases e:listed.getD k false
   ·exfalso
    apply this
    simp[hsz,hk] at e⊢
    exact e
   ·rfl
  have h2:∀k,dof listed k=true->k<ops.size:=by
   intro k hk
   rcases yR k ops.size with h|h
   ·exact h
   ·simp[dof,show¬k<listed.size by omega] at hk
  obtain⟨X',k1,k2,k3⟩:=hM.done hu hF.fin (by rw[hF.len];simp) h1 h2
  rw[<-k1]
  exact hQ X' a k2 k3
 intro fuel
 induction fuel with
 | zero=>
  intro listed X a hsz hcnt hC hM
  have hall:=Ri hcnt
  refine⟨?_,fin listed X a hsz hall hM⟩
  rw[zZ]
  intro i hi
  obtain⟨h1,h2,_⟩:=Ip.1 hi
  refine hall i ?_
  simp[hsz,h1] at h2⊢
  exact h2
 | succ fuel ih=>
  intro listed X a hsz hcnt hC hM
  refine⟨?_, ?_⟩
  ·intro hr
   refine fin listed X a hsz ?_ hM
   intro i
   induction i using yH with
   | _ i ihi=>
    intro hi
    have hlt:=(List.getElem?_eq_some_iff.1 hi).1
    have hlt':i<ops.size:=by rw[<-hsz];simpa using hlt
    have:i∈Region.ready .any ops listed:=by
     refine Ip.2 ⟨hlt', ?_,ops[i],by simp[hlt'], ?_⟩
     ·simp at hlt;simp[hlt] at hi⊢;exact hi
     ·intro j hj
      have hji:=Oc hb (i:=i) (x:=ops[i]) (by simp[hlt']) j hj
      rw[z9] at hji
      have:=ihi j hji
      have hjs:j<listed.size:=by omega
      cases e:listed.getD j false
      ·exfalso
       apply this
       simp[hjs] at e⊢
       exact e
      ·rfl
    rw[hr] at this
    simp at this
  ·intro i hi
   obtain⟨h1,h2,o,ho,h3⟩:=Ip.1 hi
   have hlt':i<outs.length:=by rw[hF.len];simpa using h1
   have hout:outs[i]?=some outs[i]:=by simp[hlt']
   have ho':ops.toList[i]?=some o:=by rw[Array.getElem?_toList];exact ho
   have hfact:=hF.fact i o outs[i] ho' hout
   rw[z9] at hfact
   have hDi:dof listed i=false:=by
    simp[hsz,h1] at h2
    simp[dof,hsz,h1,h2]
   have pri:∀k,zH ((Dl ops.toList []).getD i 0) k=true->dof listed k=true:=D8 hC ho' h3
   have post:∀k o',ops.toList[k]?=some o'->zH ((Dl ops.toList []).getD k 0) i=true->dof listed k=true->False:=by
    intro k o' hk hb hDk
    have:=D8 hC hk (hC k o' hk hDk) i hb
    rw[hDi] at this
    cases this
   have tp:∀{i j:Nat} {x y:Oper},i<j->ops.toList[i]?=some x->ops.toList[j]?=some y->(Kz ops.toList x y=true\/Kz ops.toList y x=true)->zH ((Dl ops.toList []).getD j 0) i=true:=by
    intro i j x y hij hx hy h
    have:=Pa ht hij hx hy h
    simpa using this
   have hbk:∀k,Ax i k=decide (k<i):=λ k=>by simp only[Ax];rw[zK,zB];simp
   have hno:∀{p:Prop} {b:Bool},b=true->b=false->p:=by intro p b h h';rw[h] at h';cases h'
   have hmove:Pd P ops.toList s0.nx i o (sig ops.toList outs (dof listed) 0 s0) outs[i]:=by
    refine Pd.move ?_ ?_ ?_ hfact
    ·intro t htr
     refine Mb t _ _ _ _ _ _ _ (λ k hw=> ?_) rfl
     obtain⟨ok,hk,hkd⟩:=hw
     rw[z9,hbk]
     rcases zO k i with h|h|h
     ·rw[pri k (tp h hk ho' (.inl (Ks hkd htr)))];simp[h]
     ·subst h;rw[hDi];simp
     ·cases e:dof listed k
      ·simp;omega
      ·exact(post k ok hk (tp h ho' hk (.inr (Ks hkd htr))) e).elim
    ·intro v u rd he b hbm
     refine I0 b _ _ _ _ _ _ _ hu hu (λ k hw=> ?_) rfl
     obtain⟨outk,hk,hkb⟩:=hw
     rw[z9,hbk]
     have hklt:k<ops.toList.length:=by rw[<-hF.len];exact(List.getElem?_eq_some_iff.1 hk).1
     have hko:ops.toList[k]?=some ops.toList[k]:=by simp[hklt]
     cases outk with
     | none=>simp[B3.upd,Bm] at hkb
     | some z=>
      obtain⟨vk,uk,rdk⟩:=z
      simp only[B3.upd] at hkb
      rcases zO k i with h|h|h
      ·have:=Dd hp h hk (hout.trans (by rw[he])) (by
        simp only[Je,zC]
        rcases hbm with hbm|hbm
        ·exact .inl (.inl (.inl (Es hkb hbm)))
        ·exact .inl (.inl (.inr (Es hkb hbm))))
       simp only[z9] at this
       rw[pri k this];simp[h]
      ·subst h;rw[hDi];simp
      ·cases e:dof listed k
       ·simp;omega
       ·have:=Dd hp h (hout.trans (by rw[he])) hk (by
         simp only[Je,zC]
         rcases hbm with hbm|hbm
         ·exact .inl (.inr (Es hbm hkb))
         ·exact .inl (.inl (.inr (Es hbm hkb))))
        simp only[z9] at this
        exact(post k _ hko this e).elim
    ·intro v u rd he c hc b o' hpt
     have hb32:b<4294967296:=by
      unfold Wo at hpt
      cases e:zF (c/4294967296) 0<;>rw[e] at hpt<;>simp at hpt
      omega
     have hio:i<outs.length:=(List.getElem?_eq_some_iff.1 hout).1
     refine Ag5 hu hF.len hF.keep hb32 (by rw[<-hF.len];omega) (λ k hw=> ?_) (λ k k' hlt hw hw' hDk=> ?_)
     ·obtain⟨outk,hk,hkb⟩:=hw
      have hklt:k<ops.toList.length:=by rw[<-hF.len];exact(List.getElem?_eq_some_iff.1 hk).1
      have hko:ops.toList[k]?=some ops.toList[k]:=by simp[hklt]
      cases outk with
      | none=>simp[B3.upd,Bm] at hkb
      | some z=>
       obtain⟨vk,uk,rdk⟩:=z
       simp only[B3.upd] at hkb
       by_cases hkp:G5 (Fp b o')∈rdk
       ·exact .inl ⟨vk,uk,rdk,hk,hkp⟩
       ·right
        rw[hbk]
        rcases zO k i with h|h|h
        ·have:=Dd hp h hk (hout.trans (by rw[he])) (by
          simp only[Je,zC]
          exact .inr (.inl (Qq hc hpt hkb hkp)))
         simp only[z9] at this
         rw[pri k this];simp[h]
        ·subst h;rw[hDi];simp
        ·cases e:dof listed k
         ·simp;omega
         ·have:=Dd hp h (hout.trans (by rw[he])) hk (by
           simp only[Je,zC]
           exact .inr (.inr (Qq hc hpt hkb hkp)))
          simp only[z9] at this
          exact(post k _ hko this e).elim
     ·obtain⟨outk,hk,hkb⟩:=hw
      obtain⟨outk',hk',hkb'⟩:=hw'
      have hklt:k<ops.toList.length:=by rw[<-hF.len];exact(List.getElem?_eq_some_iff.1 hk).1
      have hko:ops.toList[k]?=some ops.toList[k]:=by simp[hklt]
      cases outk with
      | none=>simp[B3.upd,Bm] at hkb
      | some z=>
       cases outk' with
       | none=>simp[B3.upd,Bm] at hkb'
       | some z'=>
        obtain⟨vk,uk,rdk⟩:=z
        obtain⟨vk',uk',rdk'⟩:=z'
        simp only[B3.upd] at hkb hkb'
        have:=Dd hp hlt hk' hk (by
         simp only[Je,zC]
         exact .inl (.inl (.inr (Es hkb' hkb))))
        simp only[z9] at this
        exact D8 hC hko (hC k _ hko hDk) k' this
   refine Qk hM hu ho hout hDi (λ d hd=>Mr (i:=i) hN ho' hd) (hkv _ (List.mem_of_getElem? ho')) hmove ?_ ?_ λ a' X' hM'=> ?_
   ·intro k t hk hD hdst hw
    obtain⟨ok,hk1,hk2⟩:=hw
    exact post k ok hk1 (tp hk ho' hk1 (.inl (Yr hdst hk2))) hD
   ·intro k b hk hD hbu hw
    obtain⟨outk,hk1,hk2⟩:=hw
    have hklt:k<ops.toList.length:=by rw[<-hF.len];exact(List.getElem?_eq_some_iff.1 hk1).1
    have hko:ops.toList[k]?=some ops.toList[k]:=by simp[hklt]
    cases hoi:outs[i] with
    | none=>rw[hoi] at hbu;simp[B3.upd,Bm] at hbu
    | some y=>
     obtain⟨v,u,rd⟩:=y
     rw[hoi] at hbu
     cases outk with
     | none=>simp[B3.upd,Bm] at hk2
     | some z=>
      obtain⟨vk,uk,rdk⟩:=z
      simp only[B3.upd] at hk2 hbu
      have:=Dd hp hk (hout.trans (by rw[hoi])) hk1 (by
       simp only[Je,zC]
       exact .inl (.inl (.inr (Es hbu hk2))))
      simp only[z9] at this
      exact post k _ hko this hD
   ·have hdof:dof (listed.setIfInBounds i true)=Hw (dof listed) i:=by
     funext k
     simp only[dof,Hw]
     by_cases e:k=i
     ·subst e;simp[hsz,h1]
     ·rw[Bd.2 e,yL]
      simp[Array.getElem?_setIfInBounds_ne (Ne.symm e)]
    rw[<-hdof] at hM'
    refine ih (listed.setIfInBounds i true) X' a' (by simp[hsz]) ?_ ?_ hM'
    ·have:listed.toList[i]?=some false:=by
      simp[hsz,h1] at h2⊢;exact h2
     have:=Ul this
     simp only[yD]
     omega
    ·rw[hdof]
     intro k ok hk hDk j hj
     by_cases e:k=i
     ·subst e
      rw[ho'] at hk
      cases hk
      exact Mp (h3 j hj)
     ·rw[Po e] at hDk
      exact Mp (hC k ok hk hDk j hj)
theorem Aqm{m N:Nat}{X0:Cx}{s0 sf:St}{outs:List B3}{l1:List Oper}{op:Oper}{tt:Nat}{kk:IntKind}{nn:Int}{uu:Upd}{rr:List Nat}(hu:uniq s0.st)(hl:ops.toList=l1++[op])(hF:Hg P ops.toList s0.nx 0 l1 outs s0 sf)(hN:Oi N ops.toList=true)(hkv:∀o∈ops.toList,∀d,o.dst=some d->E.kv d=none)(hd:Uo ops.toList=true)(hp:Gp (Dl ops.toList []) (Cs 0 outs)=true)(hlast:Zu ops.toList=true)
  (hf:W4 P ops.toList s0.nx l1.length op sf tt kk nn uu rr) (hQ:∀X' a',X'.s={sf with st:=A6 uu sf.st,nx:=s0.nx+16*ops.size}->Inv m N X0 E X' a'->Q (.panic (Lt tt kk nn)) a' X'.w):
  ∀(fuel:Nat) (listed:Array Bool) (X:Cx) (a:Act),listed.size=ops.size->Tk listed.toList=fuel->Y3 ops.toList (dof listed)->dof listed l1.length=false->Mid m N X0 E s0 (sig ops.toList outs (dof listed) 0 s0) (dof listed) X a->wpAny P .any ops Q fuel listed a X.w:=by
 have hsz0:ops.size=l1.length+1:=by rw[<-zV,hl];simp
 have hpre:∀D,sig ops.toList outs D 0 s0=sig l1 outs D 0 s0:=λ D=>by rw[hl];exact Aae hF.len
 simp only[Uo,z8] at hd
 obtain⟨hb,ht⟩:=hd
 have fin:∀(listed:Array Bool),listed.size=ops.size->(∀i:Nat,listed.toList[i]?≠some false)->dof listed l1.length=false->False:=by
  intro listed hsz hall hp
  refine hall l1.length ?_
  have hlt:l1.length<listed.size:=by omega
  simp only[dof] at hp
  simp[hlt] at hp⊢
  exact hp
 intro fuel
 induction fuel with
 | zero=>
  intro listed X a hsz hcnt hC hPn hM
  have hall:=Ri hcnt
  refine⟨?_,(fin listed hsz hall hPn).elim⟩
  rw[zZ]
  intro i hi
  obtain⟨h1,h2,_⟩:=Ip.1 hi
  refine hall i ?_
  simp[hsz,h1] at h2⊢
  exact h2
 | succ fuel ih=>
  intro listed X a hsz hcnt hC hPn hM
  refine⟨?_, ?_⟩
  ·intro hr
   refine(fin listed hsz ?_ hPn).elim
   intro i
   induction i using yH with
   | _ i ihi=>
    intro hi
    have hlt:=(List.getElem?_eq_some_iff.1 hi).1
    have hlt':i<ops.size:=by rw[<-hsz];simpa using hlt
    have:i∈Region.ready .any ops listed:=by
     refine Ip.2 ⟨hlt', ?_,ops[i],by simp[hlt'], ?_⟩
     ·simp at hlt;simp[hlt] at hi⊢;exact hi
     ·intro j hj
      have hji:=Oc hb (i:=i) (x:=ops[i]) (by simp[hlt']) j hj
      rw[z9] at hji
      have:=ihi j hji
      have hjs:j<listed.size:=by omega
      cases e:listed.getD j false
      ·exfalso
       apply this
       simp[hjs] at e⊢
       exact e
      ·rfl
    rw[hr] at this
    simp at this
  ·intro i hi
   obtain⟨h1,h2,o,ho,h3⟩:=Ip.1 hi
   by_cases hil:i=l1.length
   ·have hoo:o=op:=by
     rw[<-Array.getElem?_toList,hl,hil] at ho
     simpa using ho.symm
    subst hoo
    have hbits:∀k,k<l1.length->dof listed k=true:=by
     intro k hk
     refine D8 hC (by rw[Array.getElem?_toList];exact ho) h3 k ?_
     simp only[Zu,zP,xB,zV,hsz0,Nat.add_sub_cancel] at hlast
     rw[hil]
     exact hlast k hk
    refine Agy hM hu ho (by rw[hil];exact hPn) (λ k hk=> ?_) ?_ (by rw[hil];exact hf) hQ _
    ·rcases yR k ops.size with h|h
     ·exact h
     ·simp[dof,show¬k<listed.size by omega] at hk
    ·rw[hpre]
     exact(Ahe hu hF.len hbits).trans hF.fin
   have hil':i<l1.length:=by omega
   have hlt':i<outs.length:=by rw[hF.len];exact hil'
   have hout:outs[i]?=some outs[i]:=by simp[hlt']
   have ho':ops.toList[i]?=some o:=by rw[Array.getElem?_toList];exact ho
   have hfact:=hF.fact i o outs[i] (by rw[hl,List.getElem?_append_left hil'] at ho';exact ho') hout
   rw[z9,<-hpre] at hfact
   have hDi:dof listed i=false:=by
    simp[hsz,h1] at h2
    simp[dof,hsz,h1,h2]
   have pri:∀k,zH ((Dl ops.toList []).getD i 0) k=true->dof listed k=true:=D8 hC ho' h3
   have post:∀k o',ops.toList[k]?=some o'->zH ((Dl ops.toList []).getD k 0) i=true->dof listed k=true->False:=by
    intro k o' hk hb hDk
    have:=D8 hC hk (hC k o' hk hDk) i hb
    rw[hDi] at this
    cases this
   have tp:∀{i j:Nat} {x y:Oper},i<j->ops.toList[i]?=some x->ops.toList[j]?=some y->(Kz ops.toList x y=true\/Kz ops.toList y x=true)->zH ((Dl ops.toList []).getD j 0) i=true:=by
    intro i j x y hij hx hy h
    have:=Pa ht hij hx hy h
    simpa using this
   have hbk:∀k,Ax i k=decide (k<i):=λ k=>by simp only[Ax];rw[zK,zB];simp
   have hno:∀{p:Prop} {b:Bool},b=true->b=false->p:=by intro p b h h';rw[h] at h';cases h'
   have hmove:Pd P ops.toList s0.nx i o (sig ops.toList outs (dof listed) 0 s0) outs[i]:=by
    refine Pd.move ?_ ?_ ?_ hfact
    ·intro t htr
     refine Mb t _ _ _ _ _ _ _ (λ k hw=> ?_) rfl
     obtain⟨ok,hk,hkd⟩:=hw
     rw[z9,hbk]
     rcases zO k i with h|h|h
     ·rw[pri k (tp h hk ho' (.inl (Ks hkd htr)))];simp[h]
     ·subst h;rw[hDi];simp
     ·cases e:dof listed k
      ·simp;omega
      ·exact(post k ok hk (tp h ho' hk (.inr (Ks hkd htr))) e).elim
    ·intro v u rd he b hbm
     refine I0 b _ _ _ _ _ _ _ hu hu (λ k hw=> ?_) rfl
     obtain⟨outk,hk,hkb⟩:=hw
     rw[z9,hbk]
     have hklt:k<ops.toList.length:=by have:=(List.getElem?_eq_some_iff.1 hk).1;rw[hF.len] at this;rw[hl];simp;omega
     have hko:ops.toList[k]?=some ops.toList[k]:=by simp[hklt]
     cases outk with
     | none=>simp[B3.upd,Bm] at hkb
     | some z=>
      obtain⟨vk,uk,rdk⟩:=z
      simp only[B3.upd] at hkb
      rcases zO k i with h|h|h
      ·have:=Dd hp h hk (hout.trans (by rw[he])) (by
        simp only[Je,zC]
        rcases hbm with hbm|hbm
        ·exact .inl (.inl (.inl (Es hkb hbm)))
        ·exact .inl (.inl (.inr (Es hkb hbm))))
       simp only[z9] at this
       rw[pri k this];simp[h]
      ·subst h;rw[hDi];simp
      ·cases e:dof listed k
       ·simp;omega
       ·have:=Dd hp h (hout.trans (by rw[he])) hk (by
         simp only[Je,zC]
         rcases hbm with hbm|hbm
         ·exact .inl (.inr (Es hbm hkb))
         ·exact .inl (.inl (.inr (Es hbm hkb))))
        simp only[z9] at this
        exact(post k _ hko this e).elim
    ·intro v u rd he c hc b o' hpt
     have hb32:b<4294967296:=by
      unfold Wo at hpt
      cases e:zF (c/4294967296) 0<;>rw[e] at hpt<;>simp at hpt
      omega
     have hio:i<outs.length:=(List.getElem?_eq_some_iff.1 hout).1
     rw[hpre,hpre]
     refine Ag5 hu hF.len hF.keep hb32 (by rw[<-hF.len];omega) (λ k hw=> ?_) (λ k k' hlt hw hw' hDk=> ?_)
     ·obtain⟨outk,hk,hkb⟩:=hw
      have hklt:k<ops.toList.length:=by have:=(List.getElem?_eq_some_iff.1 hk).1;rw[hF.len] at this;rw[hl];simp;omega
      have hko:ops.toList[k]?=some ops.toList[k]:=by simp[hklt]
      cases outk with
      | none=>simp[B3.upd,Bm] at hkb
      | some z=>
       obtain⟨vk,uk,rdk⟩:=z
       simp only[B3.upd] at hkb
       by_cases hkp:G5 (Fp b o')∈rdk
       ·exact .inl ⟨vk,uk,rdk,hk,hkp⟩
       ·right
        rw[hbk]
        rcases zO k i with h|h|h
        ·have:=Dd hp h hk (hout.trans (by rw[he])) (by
          simp only[Je,zC]
          exact .inr (.inl (Qq hc hpt hkb hkp)))
         simp only[z9] at this
         rw[pri k this];simp[h]
        ·subst h;rw[hDi];simp
        ·cases e:dof listed k
         ·simp;omega
         ·have:=Dd hp h (hout.trans (by rw[he])) hk (by
           simp only[Je,zC]
           exact .inr (.inr (Qq hc hpt hkb hkp)))
          simp only[z9] at this
          exact(post k _ hko this e).elim
     ·obtain⟨outk,hk,hkb⟩:=hw
      obtain⟨outk',hk',hkb'⟩:=hw'
      have hklt:k<ops.toList.length:=by have:=(List.getElem?_eq_some_iff.1 hk).1;rw[hF.len] at this;rw[hl];simp;omega
      have hko:ops.toList[k]?=some ops.toList[k]:=by simp[hklt]
      cases outk with
      | none=>simp[B3.upd,Bm] at hkb
      | some z=>
       cases outk' with
       | none=>simp[B3.upd,Bm] at hkb'
       | some z'=>
        obtain⟨vk,uk,rdk⟩:=z
        obtain⟨vk',uk',rdk'⟩:=z'
        simp only[B3.upd] at hkb hkb'
        have:=Dd hp hlt hk' hk (by
         simp only[Je,zC]
         exact .inl (.inl (.inr (Es hkb' hkb))))
        simp only[z9] at this
        exact D8 hC hko (hC k _ hko hDk) k' this
   refine Qk hM hu ho hout hDi (λ d hd=>Mr (i:=i) hN ho' hd) (hkv _ (List.mem_of_getElem? ho')) hmove ?_ ?_ λ a' X' hM'=> ?_
   ·intro k t hk hD hdst hw
    obtain⟨ok,hk1,hk2⟩:=hw
    exact post k ok hk1 (tp hk ho' hk1 (.inl (Yr hdst hk2))) hD
   ·intro k b hk hD hbu hw
    obtain⟨outk,hk1,hk2⟩:=hw
    have hklt:k<ops.toList.length:=by have:=(List.getElem?_eq_some_iff.1 hk1).1;rw[hF.len] at this;rw[hl];simp;omega
    have hko:ops.toList[k]?=some ops.toList[k]:=by simp[hklt]
    cases hoi:outs[i] with
    | none=>rw[hoi] at hbu;simp[B3.upd,Bm] at hbu
    | some y=>
     obtain⟨v,u,rd⟩:=y
     rw[hoi] at hbu
     cases outk with
     | none=>simp[B3.upd,Bm] at hk2
     | some z=>
      obtain⟨vk,uk,rdk⟩:=z
      simp only[B3.upd] at hk2 hbu
      have:=Dd hp hk (hout.trans (by rw[hoi])) hk1 (by
       simp only[Je,zC]
       exact .inl (.inl (.inr (Es hbu hk2))))
      simp only[z9] at this
      exact post k _ hko this hD
   ·have hdof:dof (listed.setIfInBounds i true)=Hw (dof listed) i:=by
     funext k
     simp only[dof,Hw]
     by_cases e:k=i
     ·subst e;simp[hsz,h1]
     ·rw[Bd.2 e,yL]
      simp[Array.getElem?_setIfInBounds_ne (Ne.symm e)]
    rw[<-hdof] at hM'
    refine ih (listed.setIfInBounds i true) X' a' (by simp[hsz]) ?_ ?_ (by rw[hdof,Po (by omega)];exact hPn) hM'
    ·have:listed.toList[i]?=some false:=by
      simp[hsz,h1] at h2⊢;exact h2
     have:=Ul this
     simp only[yD]
     omega
    ·rw[hdof]
     intro k ok hk hDk j hj
     by_cases e:k=i
     ·subst e
      rw[ho'] at hk
      cases hk
      exact Mp (h3 j hj)
     ·rw[Po e] at hDk
      exact Mp (hC k ok hk hDk j hj)
end Go.Ev
namespace Go.Ev
variable{R:Type}{E:Env}{X:Cx}{P:Program}
structure Ey(E:Env)(X X':Cx):Prop where
 rel:Rel E X'
 ext:Ext X X'
 S:GS X'.S X.S
 w:X'.w=X.w
 tm:X'.s.tm=X.s.tm
 nx:X.s.nx<=X'.s.nx
 top:∀b,X'.s.nx<=b->X'.cm b=none
def Top(X:Cx):Prop:=∀b,X.s.nx<=b->X.cm b=none
theorem Ey.refl(hR:Rel E X)(hT:Top X):Ey E X X:=⟨hR,.refl X,.refl _,rfl,rfl,zE _,hT⟩
theorem Ey.trans{X Y Z:Cx}(h:Ey E X Y)(k:Ey E Y Z):Ey E X Z:=⟨k.rel,h.ext.trans k.ext,k.S.trans h.S,k.w.trans h.w,k.tm.trans h.tm,yG h.nx k.nx,k.top⟩
def Nd(X X':Cx):Prop:=∀b ro v ps,look b X.s.st=some (.cell ro v ps)->Tq ps=none->look b X'.s.st=some (.cell ro v ps)/\X'.cm b=X.cm b
theorem Nd.refl(X:Cx):Nd X X:=λ _ _ _ _ h _=>⟨h,rfl⟩
theorem Nd.trans{X Y Z:Cx}(h:Nd X Y)(k:Nd Y Z):Nd X Z:=λ b ro v ps hl hr=>by
 obtain⟨h1,h2⟩:=h b ro v ps hl hr
 obtain⟨k1,k2⟩:=k b ro v ps h1 hr
 exact⟨k1,k2.trans h2⟩
theorem M3(hR:Rel E X)(hT:Top X){K:Ki}{l:List K.den}{ks:List Nat}{A:Option Addr}{c:Nat}{fp:List Nat}(hks:∀b∈ks,∃ro v K l,look b X.s.st=some (.cell ro v [.rw K l]))(ho:Gf X.w K.size l.length (A0 X.w (X.S none) K l) (.slice A l.length c) fp)(hf:C0 X ks fp)
  {st':List (Nat×Blk)} (hst:∀b,look b st'=look b (A6 ((X.s.nx,some (.cell false 0 [.rw K l]))::By ks) X.s.st)) (hu:uniq st'):
  ∃X',X'.s={X.s with st:=st',nx:=X.s.nx+1}/\Ey E X X'/\VRel X' (.sl X.s.nx) (.slice A l.length c)/\Nd X X':=by
 have hks':∀b∈ks,∃x,look b X.s.st=some x:=λ b hb=>by
  obtain⟨ro,v,K,l,h⟩:=hks b hb
  exact⟨_,h⟩
 have hF:Pe X X.s.nx:=λ b hb _=>hT b hb
 have hN:Gh E X X.s.nx (.cell false 0 [.rw K l]) ks (.row A l.length c K.size fp) X.w (λ _=>False) (C1 X X.s.nx (.cell false 0 [.rw K l]) ks (.row A l.length c K.size fp) X.w):=
  ⟨rfl,rfl,rfl,rfl,hF,hks',rfl,rfl,rfl,zE _,λ _ _ _=>rfl,λ g hg=>hg.elim⟩
 have hG:=hN.good (v:=.sl X.s.nx) (val:=.slice A l.length c) hR (λ hx=>.row rfl rfl (Gf.move ho (hx.sts none) λ g hg=>rfl)) hf.nodup
  (λ g hg=>by
   obtain⟨b,x,cb,q1,q2,q3,q4⟩:=hf.mem g hg
   obtain⟨cb',j1,_,_,j4⟩:=hR.blk b x q2
   rw[q3] at j1
   cases j1
   exact⟨(j4 g q4).1,.inr ⟨b,x,cb,.inr q1,q2,q3,q4⟩⟩)
  (λ hx=>.sl (sz:=K.size) (fp:=fp) (by simp[C1]))
 let Y:=Ik (C1 X X.s.nx (.cell false 0 [.rw K l]) ks (.row A l.length c K.size fp) X.w) {X.s with st:=st',nx:=X.s.nx+1}
 have hx:Ext (C1 X X.s.nx (.cell false 0 [.rw K l]) ks (.row A l.length c K.size fp) X.w) Y:=Ext.seq rfl rfl rfl λ b=>hst b
 refine⟨Y,rfl,⟨hG.rel.seq rfl rfl rfl (λ b=>hst b) hu,hG.ext.trans hx,.refl _,rfl,rfl,Nat.le_succ _, ?_⟩,hG.val.ext hx, ?_⟩
 ·intro b hb
  have hb':X.s.nx+1<=b:=hb
  show(if b=X.s.nx then some _ else X.cm b)=none
  rw[if_neg (by omega)]
  exact hT b (by omega)
 ·intro b ro v ps hl hrow
  have hne:b≠X.s.nx:=by
   intro e
   obtain⟨cb,hcb,_⟩:=hR.blk b _ hl
   rw[hT b (by omega)] at hcb
   cases hcb
  have hnk:b∉ks:=by
   intro hm
   obtain⟨ro',v',K',l',h⟩:=hks b hm
   rw[hl] at h
   cases h
   simp[Tq] at hrow
  refine⟨?_, ?_⟩
  ·show look b st'=_
   rw[hst,B7 _ _ hR.uq]
   simp only[Dg,G0,if_neg hnk,if_neg hne]
   exact hl
  ·show(if b=X.s.nx then some _ else X.cm b)=X.cm b
   rw[if_neg hne]
theorem Xb(hR:Rel E X)(hT:Top X){m:Nat}{all:List Nat}{a a':AV}{s':St}{v:Value}(hv:VRel X a v)(h:La m all a X.s=(a',s')):∃X',X'.s=s'/\Ey E X X'/\VRel X' a' v/\(a.plain=true->a'.plain=true)/\(a.norw=true->a'.norw=true)/\Nd X X':=by
 have keep:(a,X.s)=(a',s')->∃X',X'.s=s'/\Ey E X X'/\VRel X' a' v/\(a.plain=true->a'.plain=true)/\(a.norw=true->a'.norw=true)/\Nd X X':=by
  intro e
  cases e
  exact⟨X,rfl,.refl hR hT,hv,id,id,.refl X⟩
 unfold La at h
 split at h
 ·rename_i K
  cases h
  cases hv
  obtain⟨X',h1,h2,h3,h4⟩:=M3 (K:=K) (l:=[]) (ks:=[]) (A:=none) (c:=0) (fp:=[]) (st':=put X.s.nx (.cell false 0 [.rw K []]) X.s.st) hR hT (by simp) ⟨none,0,rfl,.inl ⟨rfl,rfl,rfl⟩⟩ .nil (λ b=>by simp[By,A6]) (Hu hR.uq)
  exact⟨X',h1,h2,h3,λ _=>rfl,λ _=>rfl,h4⟩
 ·rename_i b o n
  cases hc:zF (cnt b all) 1<;>rw[hc] at h<;>simp only[cond_true,cond_false] at h
  ·exact keep h
  split at h
  case h_2=>exact keep h
  rename_i ver K l hl
  cases h
  have hst:∀k,look k (put X.s.nx (.cell false 0 [.rw K ((l.drop o).take n)]) (del b X.s.st))=look k (A6 ((X.s.nx,some (.cell false 0 [.rw K ((l.drop o).take n)]))::By [b]) X.s.st):=by
   intro k
   have hne:X.s.nx≠b:=by
    intro e
    obtain⟨cb,hcb,_⟩:=hR.blk b _ hl
    rw[hT b (by omega)] at hcb
    cases hcb
   rw[B7 _ _ hR.uq]
   simp only[Dg,G0,zQ]
   rw[Qh,Lq _ hR.uq]
   by_cases h1:k=X.s.nx
   ·subst h1;simp[hne]
   ·by_cases h2:k=b
    ·subst h2;simp[h1]
    ·simp[h1,h2]
  obtain⟨A,cc,fp,u1,u2,u3,u4⟩:=Ch hR hl
  have hlive:∀b'∈[b],∃ro v K l,look b' X.s.st=some (.cell ro v [.rw K l]):=by
   intro b' hb'
   rw[zQ] at hb'
   subst hb'
   exact⟨_,_,_,_,hl⟩
  cases hv with
  | ss0 hcm ho=>
   have hz:(l.drop o).take 0=[]:=rfl
   rw[hz] at hst⊢
   obtain⟨X',h1,h2,h3,h4⟩:=M3 (K:=K) (l:=[]) (ks:=[b]) (c:=0) (fp:=[]) hR hT hlive ⟨_,0,rfl,.inl ⟨rfl,rfl,rfl⟩⟩ ⟨by simp,by simp⟩ hst (Hu (Ht hR.uq))
   exact⟨X',h1,h2,h3,λ _=>rfl,λ _=>rfl,h4⟩
  | ss hcm v1 v2 v3=>
   rw[u1] at hcm
   cases hcm
   obtain⟨f',q1,q2⟩:=Im rfl u2 v1 v2 v3
   have hlen:((l.drop o).take n).length=n:=by simp;omega
   have hfk:C0 X [b] f':=by
    have:=C0.nil.cons hR hl u1 q2 (by simp)
    simpa using this
   obtain⟨X',h1,h2,h3,h4⟩:=M3 (K:=K) (l:=(l.drop o).take n) (ks:=[b]) hR hT hlive (by rw[hlen];exact q1) hfk hst (Hu (Ht hR.uq))
   rw[hlen] at h3
   exact⟨X',h1,h2,h3,λ _=>rfl,λ _=>rfl,h4⟩
 ·rename_i b
  cases hc:(zU b m&&zF (cnt b all) 1)<;>rw[hc] at h<;>simp only[cond_true,cond_false] at h
  ·exact keep h
  split at h
  case h_2=>exact keep h
  rename_i ver K l hl
  cases h
  have hst:∀k,look k (put X.s.nx (.cell false 0 [.rw K l]) (del b X.s.st))=look k (A6 ((X.s.nx,some (.cell false 0 [.rw K l]))::By [b]) X.s.st):=by
   intro k
   have hne:X.s.nx≠b:=by
    intro e
    obtain⟨cb,hcb,_⟩:=hR.blk b _ hl
    rw[hT b (by omega)] at hcb
    cases hcb
   rw[B7 _ _ hR.uq]
   simp only[Dg,G0,zQ]
   rw[Qh,Lq _ hR.uq]
   by_cases h1:k=X.s.nx
   ·subst h1;simp[hne]
   ·by_cases h2:k=b
    ·subst h2;simp[h1]
    ·simp[h1,h2]
  obtain⟨A,cc,fp,u1,u2,u3,u4⟩:=Ch hR hl
  have hlive:∀b'∈[b],∃ro v K l,look b' X.s.st=some (.cell ro v [.rw K l]):=by
   intro b' hb'
   rw[zQ] at hb'
   subst hb'
   exact⟨_,_,_,_,hl⟩
  cases hv with
  | sl hcm=>
   rw[u1] at hcm
   cases hcm
   have hfk:C0 X [b] fp:=by
    have:=C0.nil.cons hR hl u1 (List.Sublist.refl fp) (by simp)
    simpa using this
   obtain⟨X',h1,h2,h3,h4⟩:=M3 (K:=K) (l:=l) (ks:=[b]) hR hT hlive u2 hfk hst (Hu (Ht hR.uq))
   exact⟨X',h1,h2,h3,λ _=>rfl,λ _=>rfl,h4⟩
 ·exact keep h
theorem Ey.fp{X X':Cx}(h:Ey E X X')(fp:List Nat):∀g∈fp,X'.w.heap[g]?=X.w.heap[g]?:=λ g _=>by rw[h.w]
theorem In{m:Nat}:∀{X:Cx} {all:List Nat} {ps qs:List AV} {s':St} {cs:List Value} {fp:List Nat},Rel E X->Top X->PRs X ps cs fp->F2 m all ps X.s=(qs,s')->∃X',X'.s=s'/\Ey E X X'/\PRs X' qs cs fp/\((∀a∈ps,a.norw=true)->∀a∈qs,a.norw=true)/\Nd X X'
 | X,all,_,qs,s',_,_,hR,hT,.nil,h=>by
  simp only[F2,zD] at h
  obtain⟨rfl,rfl⟩:=h
  exact⟨X,rfl,.refl hR hT,.nil,λ h=>h,.refl X⟩
 | X,all,_,qs,s',_,fp,hR,hT, @PRs.one _ a v r cs _ h1 h2 h3 h4,h=>by
  simp only[F2] at h
  generalize hc:La m all a X.s=z at h
  obtain⟨a',s1⟩:=z
  simp only at h
  generalize hr:F2 m all r s1=z at h
  obtain⟨r',s2⟩:=z
  simp only[zD] at h
  obtain⟨rfl,rfl⟩:=h
  obtain⟨X1,k1,k2,k3,k4,k5,k6⟩:=Xb hR hT h3 hc
  subst k1
  obtain⟨X2,j1,j2,j3,j4,j5⟩:=In k2.rel k2.top (h4.ext k2.ext (k2.fp fp)) hr
  refine⟨X2,j1,k2.trans j2,.one (k4 h1) h2 (k3.ext j2.ext) j3,λ hn a ha=> ?_,k6.trans j5⟩
  rcases List.mem_cons.1 ha with rfl|ha
  ·exact k5 (hn _ (by simp))
  ·exact j4 (λ a ha=>hn a (by simp[ha])) a ha
 | X,all,_,qs,s',_,_,hR,hT, @PRs.arr _ n K l r c1 cs f1 fp h1 h2 h3,h=>by
  simp only[F2,La] at h
  generalize hr:F2 m all r X.s=z at h
  obtain⟨r',s2⟩:=z
  simp only[zD] at h
  obtain⟨rfl,rfl⟩:=h
  obtain⟨X2,j1,j2,j3,j4,j5⟩:=In hR hT h3 hr
  refine⟨X2,j1,j2,.arr h1 (h2.move (j2.ext.sts none) (j2.fp f1)) j3,λ hn a ha=> ?_,j5⟩
  rcases List.mem_cons.1 ha with rfl|ha
  ·rfl
  ·exact j4 (λ a ha=>hn a (by simp[ha])) a ha
 | X,all,_,qs,s',_,_,hR,hT, @PRs.nl _ K l v r cs f1 fp h1 h3,h=>by
  simp only[F2,La] at h
  generalize hr:F2 m all r X.s=z at h
  obtain⟨r',s2⟩:=z
  simp only[zD] at h
  obtain⟨rfl,rfl⟩:=h
  obtain⟨X2,j1,j2,j3,j4,j5⟩:=In hR hT h3 hr
  refine⟨X2,j1,j2,.nl (h1.move (j2.ext.sts none) (j2.fp f1)) j3,λ hn a ha=> ?_,j5⟩
  rcases List.mem_cons.1 ha with rfl|ha
  ·rfl
  ·exact j4 (λ a ha=>hn a (by simp[ha])) a ha
 | X,all,_,qs,s',_,_,hR,hT, @PRs.rw _ K l r c1 cs f1 fp h2 h3,h=>by
  simp only[F2,La] at h
  generalize hr:F2 m all r X.s=z at h
  obtain⟨r',s2⟩:=z
  simp only[zD] at h
  obtain⟨rfl,rfl⟩:=h
  obtain⟨X2,j1,j2,j3,j4,j5⟩:=In hR hT h3 hr
  refine⟨X2,j1,j2,.rw (h2.move (j2.ext.sts none) (j2.fp f1)) j3,λ hn a ha=> ?_,j5⟩
  exact absurd (hn _ (zR ..)) (by simp[AV.norw])
theorem Xc{all:List Nat}{a a':AV}{s':St}{v:Value}(hR:Rel E X)(hT:Top X)(hv:VRel X a v)(h:Uk all a X.s=(a',s')):∃X',X'.s=s'/\Ey E X X'/\VRel X' a' v:=by
 unfold Uk at h
 split at h
 ·rename_i ps
  generalize hr:F2 0 all ps X.s=z at h
  obtain⟨qs,s1⟩:=z
  simp only[zD] at h
  obtain⟨rfl,rfl⟩:=h
  cases hv with
  | agg hp hn=>
   obtain⟨X',j1,j2,j3,j4,_⟩:=In hR hT hp hr
   exact⟨X',j1,j2,.agg j3 (j4 hn)⟩
 ·obtain⟨X',k1,k2,k3,_⟩:=Xb hR hT hv h
  exact⟨X',k1,k2,k3⟩
theorem Xe{all:List Nat}:∀{X:Cx} {as as':List AV} {s':St} {vs:List Value},Rel E X->Top X->B6 X as vs->Og all as X.s=(as',s')->∃X',X'.s=s'/\Ey E X X'/\B6 X' as' vs
 | X,_,as',s',_,hR,hT,.nil,h=>by
  simp only[Og,zD] at h
  obtain⟨rfl,rfl⟩:=h
  exact⟨X,rfl,.refl hR hT,.nil⟩
 | X,_,as',s',_,hR,hT, @B6.cons _ a v as vs h1 h2,h=>by
  simp only[Og] at h
  generalize hc:Uk all a X.s=z at h
  obtain⟨a',s1⟩:=z
  simp only at h
  generalize hr:Og all as s1=z at h
  obtain⟨r',s2⟩:=z
  simp only[zD] at h
  obtain⟨rfl,rfl⟩:=h
  obtain⟨X1,k1,k2,k3⟩:=Xc hR hT h1 hc
  subst k1
  obtain⟨X2,j1,j2,j3⟩:=Xe k2.rel k2.top (h2.ext k2.ext) hr
  exact⟨X2,j1,k2.trans j2,.cons (k3.ext j2.ext) j3⟩
theorem Xf{all:List Nat}{a a':AV}{s':St}{v:Value}(hR:Rel E X)(hT:Top X)(hv:VRel X a v)(h:Rh all a X.s=(a',s')):∃X',X'.s=s'/\Ey E X X'/\VRel X' a' v:=by
 unfold Rh at h
 split at h
 ·rename_i vs
  generalize hr:Og all vs X.s=z at h
  obtain⟨qs,s1⟩:=z
  simp only[zD] at h
  obtain⟨rfl,rfl⟩:=h
  cases hv with
  | tup hp=>
   obtain⟨X',j1,j2,j3⟩:=Xe hR hT hp hr
   exact⟨X',j1,j2,.tup j3⟩
 ·exact Xc hR hT hv h
def Aar(X:Cx)(a:Act)(l:List (Nat×AV)):Prop:=∀x∈l,VRel X x.2 (a.tmps.getD x.1 undef)
theorem Xd{all:List Nat}{a:Act}:∀{l l':List (Nat×AV)} {X:Cx} {s':St},Rel E X->Top X->Aar X a l->Of all l X.s=(l',s')->∃X',X'.s=s'/\Ey E X X'/\Aar X' a l'
 | [],l',X,s',hR,hT,hk,h=>by
  simp only[Of,zD] at h
  obtain⟨rfl,rfl⟩:=h
  exact⟨X,rfl,.refl hR hT,hk⟩
 | (i,x)::r,l',X,s',hR,hT,hk,h=>by
  simp only[Of] at h
  generalize hc:Rh all x X.s=z at h
  obtain⟨x',s1⟩:=z
  simp only at h
  generalize hr:Of all r s1=z at h
  obtain⟨r',s2⟩:=z
  simp only[zD] at h
  obtain⟨rfl,rfl⟩:=h
  obtain⟨X1,k1,k2,k3⟩:=Xf hR hT (hk _ (zR ..)) hc
  subst k1
  obtain⟨X2,j1,j2,j3⟩:=Xd k2.rel k2.top (λ y hy=>(hk y (by simp[hy])).ext k2.ext) hr
  refine⟨X2,j1,k2.trans j2, ?_⟩
  intro y hy
  rcases List.mem_cons.1 hy with rfl|hy
  ·exact k3.ext j2.ext
  ·exact j3 y hy
theorem Ai4{ps:List AV}(h:∀a∈ps,a.norw=true):Tq ps=none:=by
 unfold Tq
 split
 ·rename_i K l
  have:=h _ (zR ..)
  simp[AV.norw] at this
 ·rfl
theorem J0{m:Nat}{all:List Nat}:∀{ids:List Nat} {X:Cx},Rel E X->Top X->∃X',X'.s=Oe m all ids X.s/\Ey E X X'
 | [],X,hR,hT=>⟨X,rfl,.refl hR hT⟩
 | b::r,X,hR,hT=>by
  simp only[Oe]
  split
  case h_2=>exact J0 hR hT
  rename_i ro v ps hl
  cases hrow:Tq ps with
  | some K=>exact J0 hR hT
  | none=>
   simp only
   generalize hc:F2 m all ps X.s=z
   obtain⟨qs,s1⟩:=z
   simp only
   obtain⟨cb,c1,c2,c3,c4⟩:=hR.blk b _ hl
   cases c2 with
   | row h1 h2 h3=>simp[Tq] at hrow
   | @box g fps _ _ _ cur h1 h2 h3=>
    obtain⟨X1,k1,k2,k3,k4,k5⟩:=In hR hT h3 hc
    subst k1
    obtain⟨l1,l2⟩:=k5 b ro v ps hl hrow
    rw[c1] at l2
    have hq:=k4 h1
    let Y:=Ik X1 {X1.s with st:=put b (.cell ro v qs) X1.s.st}
    have hlk:∀k,look k Y.s.st=if k=b then some (.cell ro v qs) else look k X1.s.st:=λ k=>Qh _ _
    have hx:Ext X1 Y:=by
     refine⟨λ k c h=>⟨c,h,c.same_refl⟩,λ n g h=>⟨h,rfl⟩, ?_⟩
     intro k c hcm ro' v' ps' hl'
     rw[hlk] at hl'
     by_cases e:k=b
     ·subst e
      simp only[if_true,zA,Blk.cell.injEq] at hl'
      obtain⟨rfl,rfl,rfl⟩:=hl'
      refine⟨ro,v,ps,l1,zE _,λ _ hn=> ?_⟩
      obtain⟨K,l,e1,_⟩:=hn
      have:=Ai4 hq
      rw[e1] at this
      simp[Tq] at this
     ·rw[if_neg e] at hl'
      exact⟨ro',v',ps',hl',zE _,λ _ _=>⟨rfl,rfl,rfl,λ _ _=>rfl⟩⟩
    have hRY:Rel E Y:=by
     refine⟨?_, ?_,k2.rel.out, ?_,k2.rel.fr,Hu k2.rel.uq⟩
     ·intro k x hk
      rw[hlk] at hk
      by_cases e:k=b
      ·subst e
       simp only[if_true,zA] at hk
       subst hk
       obtain⟨cb1,m1,m2,m3,m4⟩:=k2.rel.blk k _ l1
       rw[l2] at m1
       cases m1
       exact⟨_,l2,.box hq (by have:=h2;exact this.same (by show X1.w.heap[g]?=_;rw[k2.w])) (k3.ext hx (λ _ _=>rfl)),m3,m4⟩
      ·rw[if_neg e] at hk
       obtain⟨cb1,m1,m2,m3,m4⟩:=k2.rel.blk k x hk
       exact⟨cb1,m1,m2.ext hx (λ _ _=>rfl),m3,m4⟩
     ·intro k k' x x' cb cb' g' hk hk' hc hc' hg hg'
      have live:∀{k x},look k Y.s.st=some x->∃x,look k X1.s.st=some x:=by
       intro k x hk
       rw[hlk] at hk
       by_cases e:k=b
       ·subst e;exact⟨_,l1⟩
       ·rw[if_neg e] at hk;exact⟨_,hk⟩
      obtain⟨y,hy⟩:=live hk
      obtain⟨y',hy'⟩:=live hk'
      exact k2.rel.dis k k' y y' cb cb' g' hy hy' hc hc' hg hg'
     ·intro g' hg'
      obtain⟨f1,f2,f3⟩:=k2.rel.frz g' hg'
      refine⟨f1,f2,λ k x cb hk hc=> ?_⟩
      rw[hlk] at hk
      by_cases e:k=b
      ·subst e;exact f3 _ _ cb l1 hc
      ·rw[if_neg e] at hk;exact f3 k x cb hk hc
    have hQ:Ey E X Y:=⟨hRY,k2.ext.trans hx,k2.S,k2.w,k2.tm,k2.nx,k2.top⟩
    obtain⟨X2,m1,m2⟩:=J0 (m:=m) (all:=all) (ids:=r) hRY hQ.top
    exact⟨X2,m1,hQ.trans m2⟩
end Go.Ev
namespace Go.Ev
variable{R:Type}{E:Env}{X:Cx}{P:Program}
theorem Wj{q:Cj}(hq:G3 q=true)(g:Nat)(h:X.Sof q g):X.Sof (.reg 0) g:=by
 cases q with
 | frz=>exact .inr h
 | reg n=>
  rcases h with⟨m,_,h⟩|h
  ·exact .inl ⟨m,zY _,h⟩
  ·exact .inr h
 | ver b v=>simp[G3] at hq
theorem Agu{md:Nat}(g:Nat)(h:X.S none g):X.Sof (fzP md) g:=by
 unfold fzP
 cases md with
 | zero=>exact h
 | succ n=>exact .inr h
theorem Zm{md:Nat}:Kn X (fzP md):=by unfold fzP;cases md<;>trivial
theorem Xt(hR:Rel E X)(hT:Top X){b v:Nat}{ro:Bool}{K:Ki}{l:List K.den}(hl:look b X.s.st=some (.cell ro v [.rw K l])):
  ∃A c fp Y,X.cm b=some (.row A l.length c K.size fp)/\Gf X.w K.size l.length (A0 X.w (X.S none) K l) (.slice A l.length c) fp/\Y.s={X.s with st:=del b X.s.st}/\Ey E X Y/\(∀g∈fp,Y.S none g)/\Y.cm=X.cm:=by
 obtain⟨A,c,fp,Y,u1,u2,u3,u4,u5,u6,u7,u8,u9⟩:=Agq hR hl
 refine⟨A,c,fp,Y,u1,u2,u3,⟨u4,u5,u6,u7,by rw[u3],by rw[u3];exact zE _,λ b hb=> ?_⟩,u8,u9⟩
 rw[u9]
 exact hT b (by rw[u3] at hb;exact hb)
theorem Agr(hR:Rel E X)(hT:Top X){md:Nat}{a a':AV}{s':St}{v:Value}(hv:VRel X a v)(h:Ab1 md a X.s=(a',s')):∃X',X'.s=s'/\Ey E X X'/\VRel X' a' v/\(a.plain=true->a'.plain=true)/\(a.norw=true->a'.norw=true):=by
 have keep:(a,X.s)=(a',s')->∃X',X'.s=s'/\Ey E X X'/\VRel X' a' v/\(a.plain=true->a'.plain=true)/\(a.norw=true->a'.norw=true):=by
  intro e
  cases e
  exact⟨X,rfl,.refl hR hT,hv,id,id⟩
 unfold Ab1 at h
 split at h
 ·rename_i K
  cases h
  cases hv
  exact⟨X,rfl,.refl hR hT,.ro (zE _) (.inl rfl) Zm λ _=>⟨none,0,rfl,zE _,.inl rfl⟩,λ _=>rfl,λ _=>rfl⟩
 ·rename_i b
  split at h
  case h_2=>exact keep h
  rename_i ver K l hl
  cases h
  obtain⟨A,c,fp,Y,u1,u2,u3,u4,u5,_⟩:=Xt hR hT hl
  cases hv with
  | sl hcm=>
   rw[u1] at hcm
   cases hcm
   obtain⟨k1,k2,k3⟩:=u2.ro (S:=Y.Sof (fzP md)) rfl λ g hg=>Agu g (u5 g hg)
   exact⟨Y,u3,u4,.ro k1 k2 Zm λ _=>Fv k3 (λ g hg=>⟨hg,by rw[u4.w]⟩) λ cs hc=>Dq hc (λ g hg=>⟨hg,by rw[u4.w]⟩) λ g hg=>u4.ext.sts none g hg,λ _=>rfl,λ _=>rfl⟩
 ·rename_i b o n
  split at h
  case h_2=>exact keep h
  rename_i ver K l hl
  cases h
  obtain⟨A,c,fp,Y,u1,u2,u3,u4,u5,_⟩:=Xt hR hT hl
  cases hv with
  | ss0 hcm ho=>
   have hz:(l.drop o).take 0=[]:=rfl
   rw[hz]
   exact⟨Y,u3,u4,.ro (zE _) (.inl rfl) Zm λ _=>⟨_,0,rfl,zE _,.inl rfl⟩,λ _=>rfl,λ _=>rfl⟩
  | ss hcm v1 v2 v3=>
   rw[u1] at hcm
   cases hcm
   obtain⟨f',q1,q2⟩:=Im rfl u2 v1 v2 v3
   have hlen:((l.drop o).take n).length=n:=by simp;omega
   obtain⟨k1,k2,k3⟩:=q1.ro (S:=Y.Sof (fzP md)) hlen.symm λ g hg=>Agu g (u5 g (q2.subset hg))
   have:=VRel.ro (X:=Y) (q:=fzP md) (K:=K) (l:=(l.drop o).take n) (by rw[hlen];exact k1) (by rw[hlen];exact k2) Zm λ _=>by rw[hlen];exact Fv k3 (λ g hg=>⟨hg,by rw[u4.w]⟩) λ cs hc=>Dq hc (λ g hg=>⟨hg,by rw[u4.w]⟩) λ g hg=>u4.ext.sts none g hg
   rw[hlen] at this
   exact⟨Y,u3,u4,this,λ _=>rfl,λ _=>rfl⟩
 ·rename_i q K l
  cases hq:(G3 q&& !(zF md 0))<;>rw[hq] at h<;>simp only[cond_true,cond_false] at h
  ·exact keep h
  cases h
  simp only[z8] at hq
  have hvalid:valid X.s q=true:=by cases q<;>first|rfl|simp[G3] at hq
  cases hv with
  | ro h1 h2 hk hr=>exact⟨X,rfl,.refl hR hT,.ro h1 h2 trivial λ _=>Fv (hr hvalid) (λ g hg=>⟨Wj hq.1 g hg,rfl⟩) λ cs hc=>Dq hc (λ g hg=>⟨Wj hq.1 g hg,rfl⟩) (λ g hg=>⟨hg,rfl⟩),λ _=>rfl,λ _=>rfl⟩
 ·rename_i q t
  cases hq:(G3 q&& !(zF md 0))<;>rw[hq] at h<;>simp only[cond_true,cond_false] at h
  ·exact keep h
  cases h
  simp only[z8] at hq
  cases hv with
  | tr h1 h2=>exact⟨X,rfl,.refl hR hT,.tr (by simp) (h2.move λ g hg=>⟨Wj hq.1 g hg,rfl⟩),λ _=>rfl,λ _=>rfl⟩
 ·exact keep h
theorem P8{md:Nat}:∀{X:Cx} {ps qs:List AV} {s':St} {cs:List Value} {fp:List Nat},Rel E X->Top X->PRs X ps cs fp->Rq md ps X.s=(qs,s')->∃X',X'.s=s'/\Ey E X X'/\PRs X' qs cs fp/\((∀a∈ps,a.norw=true)->∀a∈qs,a.norw=true)
 | X,_,qs,s',_,_,hR,hT,.nil,h=>by
  simp only[Rq,zD] at h
  obtain⟨rfl,rfl⟩:=h
  exact⟨X,rfl,.refl hR hT,.nil,λ h=>h⟩
 | X,_,qs,s',_,_,hR,hT,.one (a:=a) h1 h2 h3 h4,h=>by
  simp only[Rq] at h
  generalize hc:Ab1 md a X.s=z at h
  obtain⟨x',s1⟩:=z
  simp only at h
  generalize hr:Rq md _ s1=z at h
  obtain⟨r',s2⟩:=z
  simp only[zD] at h
  obtain⟨rfl,rfl⟩:=h
  obtain⟨X1,k1,k2,k3,k4,k5⟩:=Agr hR hT h3 hc
  subst k1
  obtain⟨X2,j1,j2,j3,j4⟩:=P8 k2.rel k2.top (h4.ext k2.ext (k2.fp _)) hr
  refine⟨X2,j1,k2.trans j2,.one (k4 h1) h2 (k3.ext j2.ext) j3,λ hn x hx=> ?_⟩
  rcases List.mem_cons.1 hx with rfl|hx
  ·exact k5 (hn _ (by simp))
  ·exact j4 (λ y hy=>hn y (by simp[hy])) x hx
 | X,_,qs,s',_,_,hR,hT,.arr (n:=n) (K:=K) (l:=l) h1 h2 h3,h=>by
  simp only[Rq] at h
  have e:Ab1 md (.arr n K l) X.s=(.arr n K l,X.s):=rfl
  rw[e] at h
  simp only at h
  generalize hr:Rq md _ X.s=z at h
  obtain⟨r',s2⟩:=z
  simp only[zD] at h
  obtain⟨rfl,rfl⟩:=h
  obtain⟨X2,j1,j2,j3,j4⟩:=P8 hR hT h3 hr
  refine⟨X2,j1,j2,.arr h1 (h2.move (j2.ext.sts none) (j2.fp _)) j3,λ hn x hx=> ?_⟩
  rcases List.mem_cons.1 hx with rfl|hx
  ·rfl
  ·exact j4 (λ y hy=>hn y (by simp[hy])) x hx
 | X,_,qs,s',_,_,hR,hT,.nl (K:=K) (l:=l) h1 h3,h=>by
  simp only[Rq] at h
  have e:Ab1 md (.nl K l) X.s=(.nl K l,X.s):=rfl
  rw[e] at h
  simp only at h
  generalize hr:Rq md _ X.s=z at h
  obtain⟨r',s2⟩:=z
  simp only[zD] at h
  obtain⟨rfl,rfl⟩:=h
  obtain⟨X2,j1,j2,j3,j4⟩:=P8 hR hT h3 hr
  refine⟨X2,j1,j2,.nl (h1.move (j2.ext.sts none) (j2.fp _)) j3,λ hn x hx=> ?_⟩
  rcases List.mem_cons.1 hx with rfl|hx
  ·rfl
  ·exact j4 (λ y hy=>hn y (by simp[hy])) x hx
 | X,_,qs,s',_,_,hR,hT,.rw (K:=K) (l:=l) h2 h3,h=>by
  simp only[Rq] at h
  have e:Ab1 md (.rw K l) X.s=(.rw K l,X.s):=rfl
  rw[e] at h
  simp only at h
  generalize hr:Rq md _ X.s=z at h
  obtain⟨r',s2⟩:=z
  simp only[zD] at h
  obtain⟨rfl,rfl⟩:=h
  obtain⟨X2,j1,j2,j3,j4⟩:=P8 hR hT h3 hr
  refine⟨X2,j1,j2,.rw (h2.move (j2.ext.sts none) (j2.fp _)) j3,λ hn x hx=> ?_⟩
  rcases List.mem_cons.1 hx with rfl|hx
  ·exact hn _ (by simp)
  ·exact j4 (λ y hy=>hn y (by simp[hy])) x hx
theorem Aq0(hR:Rel E X)(hT:Top X){md:Nat}{a a':AV}{s':St}{v:Value}(hv:VRel X a v)(h:Aqz md a X.s=(a',s')):∃X',X'.s=s'/\Ey E X X'/\VRel X' a' v:=by
 unfold Aqz at h
 split at h
 ·rename_i ps
  generalize hr:Rq md ps X.s=z at h
  obtain⟨qs,s1⟩:=z
  simp only[zD] at h
  obtain⟨rfl,rfl⟩:=h
  cases hv with
  | agg h1 h2=>
   obtain⟨X1,k1,k2,k3,k4⟩:=P8 hR hT h1 hr
   exact⟨X1,k1,k2,.agg k3 (k4 h2)⟩
 ·obtain⟨X1,k1,k2,k3,_⟩:=Agr hR hT hv h
  exact⟨X1,k1,k2,k3⟩
theorem Zl{m N:Nat}{X0:Cx}{a:Act}:∀{fz:List (Nat×Nat)} {X:Cx},Inv m N X0 E X a->∃X',X'.s=Amb fz X.s/\X'.w=X.w/\Inv m N X0 E X' a
 | [],X,hI=>⟨X,rfl,rfl,hI⟩
 | (i,md)::r,X,hI=>by
  simp only[Amb]
  generalize hc:Aqz md (getD .un i X.s.tm) X.s=z
  obtain⟨x',s1⟩:=z
  obtain⟨X1,k1,k2,k3⟩:=Aq0 hI.rel hI.top (hI.tr i) hc
  subst k1
  have hx:Ext X1 (Ik X1 {X1.s with tm:=put i x' X1.s.tm}):=Ext.seq rfl rfl rfl λ _=>rfl
  have hI1:Inv m N X0 E (Ik X1 {X1.s with tm:=put i x' X1.s.tm}) a:=by
   refine⟨k2.rel.seq rfl rfl rfl (λ _=>rfl) k2.rel.uq, ?_,k2.top,k2.S.trans hI.S, ?_,(show Jx E X1 a.defers from hI.defers.ext k2.ext),hI.size,hI.keep⟩
   ·intro t
    show VRel _ (getD .un t (put i x' X1.s.tm)) _
    rw[Fs]
    by_cases e:t=i
    ·rw[if_pos e,e];exact k3.ext hx
    ·rw[if_neg e]
     have:=((hI.tr t).ext k2.ext).ext hx
     rwa[<-k2.tm] at this
   ·intro b cb hb hcm
    obtain⟨cb',q1,q2⟩:=hI.cmx b cb hb hcm
    obtain⟨cb2,q3,q4⟩:=k2.ext.cmx b cb' q1
    exact⟨cb2,q3,CB.same_trans q2 q4⟩
  obtain⟨X2,j1,j2,j3⟩:=Zl (fz:=r) hI1
  exact⟨X2,j1,j2.trans k2.w,j3⟩
end Go.Ev
namespace Go.Ev
variable{R:Type}{E:Env}{X:Cx}{P:Program}
section
variable{α:Type}
theorem Ej:∀{ks:List Nat} {vs:List α} {b:Nat} {x:α},look b (ks.zip vs)=some x->∃j:Nat,ks[j]?=some b/\vs[j]?=some x
 | [],_,_,_,h=>by simp[look] at h
 | _::_,[],_,_,h=>by simp[look] at h
 | k::ks,v::vs,b,x,h=>by
  simp only[yP,look] at h
  cases hb:zF k b<;>rw[hb] at h
  ·obtain⟨j,h1,h2⟩:=Ej (by simpa using h)
   exact⟨j+1,by simpa using h1,by simpa using h2⟩
  ·simp only[cond_true,zA] at h
   subst h
   exact⟨0,by simp[beq_true.1 hb],rfl⟩
theorem Ad2:∀{ks:List Nat} {vs:List α} {b j:Nat} {x:α},ks.Nodup->ks[j]?=some b->vs[j]?=some x->look b (ks.zip vs)=some x
 | [],_,_,_,_,_,h,_=>by simp at h
 | _::_,[],_,_,_,_,_,h=>by simp at h
 | k::ks,v::vs,b,0,x,_,h,h'=>by
  simp only[List.getElem?_cons_zero,zA] at h h'
  subst h h'
  simp[look]
 | k::ks,v::vs,b,j+1,x,hn,h,h'=>by
  simp only[List.getElem?_cons_succ] at h h'
  obtain⟨h1,h2⟩:=List.nodup_cons.1 hn
  have hne:k≠b:=λ e=>h1 (e▸List.mem_of_getElem? h)
  simp only[yP,look,Bd.2 hne,cond_false]
  exact Ad2 h2 h h'
theorem Wg:∀{ks:List Nat} {vs:List α},ks.Nodup->uniq (ks.zip vs)
 | [],_,_=>by simp[uniq]
 | _::_,[],_=>by simp[uniq]
 | k::ks,v::vs,hn=>by
  obtain⟨h1,h2⟩:=List.nodup_cons.1 hn
  refine⟨?_,Wg h2⟩
  cases e:look k (ks.zip vs) with
  | none=>exact e
  | some x=>
   obtain⟨j,h3,_⟩:=Ej e
   exact(h1 (List.mem_of_getElem? h3)).elim
theorem Me:∀{a b:List (Nat×α)},uniq a->uniq b->(∀k x,look k a=some x->look k b=none)->uniq (a++b)
 | [],b,_,h,_=>h
 | (k,x)::a,b,h1,h2,h3=>by
  refine⟨?_,Me h1.2 h2 λ j y hj=> ?_⟩
  ·show look k (a++b)=none
   rw[D5,h1.1]
   exact h3 k x (by simp[look])
  ·refine h3 j y ?_
   simp only[look]
   cases hb:zF k j
   ·exact hj
   ·have:=beq_true.1 hb
    subst this
    rw[h1.1] at hj
    cases hj
theorem X8:∀(l:List Nat) (b:Nat),look b (l.map λ b=>(b,b))=if b∈l then some b else none
 | [],b=>by simp[look]
 | a::l,b=>by
  simp only[xI,look,zM]
  cases h:zF a b
  ·have:=Bd.1 h
   simp only[cond_false,X8 l b]
   by_cases hb:b∈l
   ·simp[hb]
   ·simp[hb,Ne.symm this]
  ·have:=beq_true.1 h
   subst this
   simp
end
theorem Acx{ok:Nat->Nat->Bool}{m:List (Nat×Nat)}{ro:Bool}{v:Nat}{K:Ki}{l:List K.den}{y:Blk}(h:Lx ok 0 m (.cell ro v [.rw K l])=some y):y=.cell ro 0 [.rw K l]:=by
 simp only[Lx] at h
 split at h
 case h_2=>cases h
 rename_i qs hq
 cases h
 obtain⟨b,bs,e1,e2,rfl⟩:=mapM_cons hq
 rw[Qi e2]
 simp only[ren,zA] at e1
 rw[<-e1]
theorem Acy(hR:Rel E X){m:Nat}{roots:List Nat}{nm:List (Nat×Nat)}{st:List (Nat×Blk)}{ns:List Blk}(h:Yi m X.s roots=some (nm,st,ns))(tm:List (Nat×AV)):
  ∃X',X'.s={tm,st,nx:=m+ns.length}/\X'.w=X.w/\GS X'.S X.S/\Rel E X'/\Top X'/\(∀b,b<m->X'.cm b=X.cm b)/\Sim X X' (λ b v=>valid X.s (.ver b v)) 0 nm/\∀b,m<=b->look b st=ns[b-m]?:=by
 unfold Yi at h
 simp only at h
 generalize hids:Tj X.s.st 64 (yF m++roots) []=ids at h
 generalize hold:ids.filter (λ b=>zU b m)=old at h
 generalize hnew:ids.filter (λ b=> !(zU b m))=new at h
 split at h
 case h_2=>cases h
 rename_i os ns' hos hns
 obtain⟨hnd,h⟩:=Ao h
 rw[Du] at hnd
 simp only[zA,zD] at h
 obtain⟨rfl,rfl,rfl⟩:=h
 have oldlt:∀b∈old,b<m:=by
  intro b hb
  rw[<-hold,zS] at hb
  have:=hb.2
  rwa[zB] at this
 have newge:∀b∈new,m<=b:=by
  intro b hb
  rw[<-hnew,zS] at hb
  have:=hb.2
  rw[zJ,<-zG,zB] at this
  omega
 have oldnd:old.Nodup:=by rw[<-hold];exact hnd.filter _
 have newnd:new.Nodup:=by rw[<-hnew];exact hnd.filter _
 obtain⟨o1,o2⟩:=Hj hos
 obtain⟨n1,n2⟩:=Hj hns
 have lnm:∀{b b':Nat},look b (old.map (λ b=>(b,b))++Bi m new)=some b'->(b∈old/\b'=b)\/(m<=b'/\new[b'-m]?=some b):=by
  intro b b' hb
  rw[D5,X8] at hb
  by_cases hm:b∈old
  ·rw[if_pos hm] at hb
   simp only[zA] at hb
   exact .inl ⟨hm,hb.symm⟩
  ·rw[if_neg hm] at hb
   exact .inr (Jk hb)
 have lst:∀{b:Nat} {x:Blk},look b (old.zip os++D2 m ns')=some x->(b<m/\∃j:Nat,old[j]?=some b/\os[j]?=some x)\/(m<=b/\ns'[b-m]?=some x):=by
  intro b x hb
  rw[D5] at hb
  cases e:look b (old.zip os) with
  | some y=>
   rw[e] at hb
   cases hb
   obtain⟨j,h1,h2⟩:=Ej e
   exact .inl ⟨oldlt b (List.mem_of_getElem? h1),j,h1,h2⟩
  | none=>
   rw[e] at hb
   simp only[Fe] at hb
   by_cases hm:m<=b
   ·rw[if_pos hm] at hb;exact .inr ⟨hm,hb⟩
   ·rw[if_neg hm] at hb;cases hb
 have lge:∀{b:Nat},m<=b->look b (old.zip os++D2 m ns')=ns'[b-m]?:=by
  intro b hb
  rw[D5]
  cases e:look b (old.zip os) with
  | some y=>
   obtain⟨j,h1,_⟩:=Ej e
   have:=oldlt b (List.mem_of_getElem? h1)
   omega
  | none=>simp only[Fe,if_pos hb]
 have llt:∀{b j:Nat} {x:Blk},old[j]?=some b->os[j]?=some x->look b (old.zip os++D2 m ns')=some x:=by
  intro b j x h1 h2
  rw[D5,Ad2 oldnd h1 h2]
 have uq:uniq (old.zip os++D2 m ns'):=by
  refine Me (Wg oldnd) (G9 _ _) λ k x hk=> ?_
  obtain⟨j,h1,_⟩:=Ej hk
  have:=oldlt k (List.mem_of_getElem? h1)
  rw[Fe,if_neg (by omega)]
 let Y:Cx:={cm:=λ b=>if b<m then X.cm b else(new[b-m]?).bind X.cm,S:=X.S,s:={tm,st:=old.zip os++D2 m ns',nx:=m+ns'.length},w:=X.w}
 have cmlt:∀{b:Nat},b<m->Y.cm b=X.cm b:=λ hb=>if_pos hb
 have cmge:∀{b c:Nat},m<=b->new[b-m]?=some c->Y.cm b=X.cm c:=by
  intro b c hb hc
  show(if b<m then X.cm b else(new[b-m]?).bind X.cm)=_
  rw[if_neg (by omega),hc]
  rfl
 have sim:Sim X Y (λ b v=>valid X.s (.ver b v)) 0 (old.map (λ b=>(b,b))++Bi m new):=by
  refine⟨rfl, ?_, ?_,λ _ _ h=>h, ?_⟩
  ·intro b b' cb hb hc
   rcases lnm hb with⟨h1,rfl⟩|⟨h1,h2⟩
   ·rw[cmlt (oldlt _ h1)];exact hc
   ·rw[cmge h1 h2];exact hc
  ·intro p p' hp hn g hg
   cases p with
   | frz=>simp[pvR] at hp;subst hp;exact hg
   | reg n=>simp[pvR] at hp;subst hp;exact hg
   | ver b v=>exact(hn b v rfl).elim
  ·intro b b' v K l ro hv hb hl
   rcases lnm hb with⟨h1,rfl⟩|⟨h1,h2⟩
   ·obtain⟨j,hj⟩:=List.getElem?_of_mem h1
    obtain⟨x,y,k1,k2,k3⟩:=o2 j _ hj
    rw[hl] at k1
    cases k1
    rw[Acx k3] at k2
    exact⟨ro,llt hj k2⟩
   ·obtain⟨x,y,k1,k2,k3⟩:=n2 _ _ h2
    rw[hl] at k1
    cases k1
    rw[Acx k3] at k2
    exact⟨ro,by show look b' (old.zip os++D2 m ns')=_;rw[lge h1];exact k2⟩
 have src:∀{b:Nat} {x:Blk},look b Y.s.st=some x->∃c y,look c X.s.st=some y/\Lx (λ b v=>valid X.s (.ver b v)) 0 (old.map (λ b=>(b,b))++Bi m new) y=some x/\Y.cm b=X.cm c/\((b<m/\c=b)\/(m<=b/\new[b-m]?=some c)):=by
  intro b x hb
  rcases lst hb with⟨h1,j,h2,h3⟩|⟨h1,h2⟩
  ·obtain⟨x0,y,k1,k2,k3⟩:=o2 j b h2
   rw[h3] at k2
   cases k2
   exact⟨b,x0,k1,k3,cmlt h1,.inl ⟨h1,rfl⟩⟩
  ·have hlt:b-m<new.length:=by
    have:=(List.getElem?_eq_some_iff.1 h2).1
    omega
   have hc:new[b-m]?=some new[b-m]:=by simp[hlt]
   obtain⟨x0,y,k1,k2,k3⟩:=n2 _ _ hc
   rw[h2] at k2
   cases k2
   exact⟨_,x0,k1,k3,cmge h1 hc,.inr ⟨h1,hc⟩⟩
 refine⟨Y,rfl,rfl,.refl _,⟨?_, ?_,hR.out, ?_,hR.fr,uq⟩, ?_,λ b hb=>cmlt hb,sim,λ b hb=>lge hb⟩
 ·intro b x hb
  obtain⟨c,y,h1,h2,h3,_⟩:=src hb
  obtain⟨cb,k1,k2,k3,k4⟩:=hR.blk c y h1
  exact⟨cb,h3.trans k1,T5 sim k2 h2,k3,k4⟩
 ·intro b b' x x' cb cb' g hb hb' hc hc' hg hg'
  obtain⟨c,y,h1,h2,h3,h4⟩:=src hb
  obtain⟨c',y',h1',h2',h3',h4'⟩:=src hb'
  have e:=hR.dis c c' y y' cb cb' g h1 h1' (h3▸hc) (h3'▸hc') hg hg'
  subst e
  rcases h4 with⟨p1,rfl⟩|⟨p1,p2⟩
  ·rcases h4' with⟨q1,rfl⟩|⟨q1,q2⟩
   ·rfl
   ·have:=newge c (List.mem_of_getElem? q2);omega
  ·rcases h4' with⟨q1,rfl⟩|⟨q1,q2⟩
   ·have:=newge c (List.mem_of_getElem? p2);omega
   ·have e1:=Gc (n:=m) newnd p2
    have e2:=Gc (n:=m) newnd q2
    rw[e1] at e2
    simp only[zA] at e2
    omega
 ·intro g hg
  obtain⟨f1,f2,f3⟩:=hR.frz g hg
  refine⟨f1,f2,λ b x cb hb hc=> ?_⟩
  obtain⟨c,y,h1,h2,h3,_⟩:=src hb
  exact f3 c y cb h1 (h3▸hc)
 ·intro b hb
  have hb':m+ns'.length<=b:=hb
  show(if b<m then X.cm b else(new[b-m]?).bind X.cm)=none
  rw[if_neg (by omega)]
  have:new[b-m]?=none:=by simp;omega
  rw[this]
  rfl
theorem Afh{m:Nat}{s:St}{roots:List Nat}{nm:List (Nat×Nat)}{st:List (Nat×Blk)}{ns:List Blk}(h:Yi m s roots=some (nm,st,ns)):uniq st:=by
 unfold Yi at h
 simp only at h
 generalize hids:Tj s.st 64 (yF m++roots) []=ids at h
 generalize hold:ids.filter (λ b=>zU b m)=old at h
 generalize hnew:ids.filter (λ b=> !(zU b m))=new at h
 split at h
 case h_2=>cases h
 rename_i os ns' hos hns
 obtain⟨hnd,h⟩:=Ao h
 rw[Du] at hnd
 simp only[zA,zD] at h
 obtain⟨rfl,rfl,rfl⟩:=h
 refine Me (Wg (by rw[<-hold];exact hnd.filter _)) (G9 _ _) λ k x hk=> ?_
 obtain⟨j,h1,_⟩:=Ej hk
 have:k∈old:=List.mem_of_getElem? h1
 rw[<-hold,zS] at this
 have h2:=this.2
 rw[zB] at h2
 rw[Fe,if_neg (by omega)]
theorem Ae8{m:Nat}{slots:List Nat}{s s':St}(h:Acq m slots s=some s'):uniq s'.st:=by
 unfold Acq at h
 simp only at h
 split at h
 case h_2=>cases h
 rename_i nm st ns hren
 split at h
 case h_2=>cases h
 rename_i tm htm
 cases h
 exact Afh hren
theorem Ab5{t:Nat}:∀{l:List (Nat×AV)},getD .un t l=.un\/(t,getD .un t l)∈l
 | []=>.inl rfl
 | (j,x)::r=>by
  simp only[getD]
  cases h:zF j t
  ·simp only[cond_false]
   exact(Ab5 (t:=t) (l:=r)).imp id λ h=>by simp[h]
  ·have:=beq_true.1 h
   subst this
   simp
theorem Aar.trel{a:Act}(h:Aar X a X.s.tm):Jo X a:=by
 intro t
 rcases Ab5 (t:=t) (l:=X.s.tm) with h1|h1
 ·rw[h1];exact .un _
 ·exact h _ h1
theorem Ag7{Y:Cx}{ok:Nat->Nat->Bool}{nm:List (Nat×Nat)}(S:Sim X Y ok 0 nm){a:Act}:∀{l l':List (Nat×AV)},Aar X a l->Anb ok nm l=some l'->Aar Y a l'
 | [],l',_,h=>by
  simp only[Anb,zA] at h
  subst h
  intro x hx
  simp at hx
 | (i,x)::r,l',hk,h=>by
  simp only[Anb] at h
  split at h
  case h_2=>cases h
  rename_i a' r' h1 h2
  simp only[zA] at h
  subst h
  have ih:=Ag7 S (a:=a) (λ y hy=>hk y (by simp[hy])) h2
  intro y hy
  rcases List.mem_cons.1 hy with rfl|hy
  ·exact O8 S (hk (i,x) (zR ..)) h1
  ·exact ih y hy
theorem Am6{m N:Nat}{X0:Cx}{a:Act}{slots:List Nat}{s':St}(hI:Inv m N X0 E X a)(h:Acq m slots X.s=some s'):∃X',X'.s=s'/\X'.w=X.w/\Inv m N X0 E X' a:=by
 unfold Acq at h
 simp only at h
 generalize hk:Of _ (slots.map λ i=>(i,getD .un i X.s.tm)) X.s=z at h
 obtain⟨keep,s1⟩:=z
 simp only at h
 have hk0:Aar X a (slots.map λ i=>(i,getD .un i X.s.tm)):=by
  intro x hx
  simp only[yT] at hx
  obtain⟨i,_,rfl⟩:=hx
  exact hI.tr i
 obtain⟨X1,e1,q1,k1⟩:=Xd hI.rel hI.top hk0 hk
 subst e1
 generalize hids:Tj X.s.st 64 _ []=ids at h
 generalize hall:(List.flatMap _ _++Lv X.s.st ids)=all at h
 obtain⟨X2,e2,q2⟩:=J0 (all:=all) (ids:=ids) q1.rel q1.top
 rw[<-e2] at h
 split at h
 case h_2=>cases h
 rename_i nm st ns hren
 split at h
 case h_2=>cases h
 rename_i tm htm
 cases h
 obtain⟨X3,r1,r2,r3,r4,r5,r6,r7,_⟩:=Acy q2.rel hren tm
 have q:=q1.trans q2
 have k3:=Ag7 r7 (λ y hy=>(k1 y hy).ext q2.ext) htm
 refine⟨X3,r1,r2.trans q.w,⟨r4, ?_,r5,(r3.trans q.S).trans hI.S, ?_,(hI.defers.ext q.ext).same r2 r3,hI.size,hI.keep⟩⟩
 ·refine Aar.trel ?_
  rw[r1]
  exact k3
 ·intro b cb hb hc
  obtain⟨cb',h1,h2⟩:=hI.cmx b cb hb hc
  obtain⟨cb2,h3,h4⟩:=q.ext.cmx b cb' h1
  exact⟨cb2,(r6 b hb).trans h3,CB.same_trans h2 h4⟩
theorem R4{m:Nat}{fz:List (Nat×Nat)}{slots:List Nat}{s s':St}(h:Qm m fz slots s=some s'):uniq s'.st:=Ae8 h
theorem Kk{m N:Nat}{X0:Cx}{a:Act}{fz:List (Nat×Nat)}{slots:List Nat}{s':St}(hI:Inv m N X0 E X a)(h:Qm m fz slots X.s=some s'):∃X',X'.s=s'/\X'.w=X.w/\Inv m N X0 E X' a:=by
 unfold Qm at h
 obtain⟨X1,k1,k2,k3⟩:=Zl (fz:=fz) hI
 rw[<-k1] at h
 obtain⟨X2,j1,j2,j3⟩:=Am6 k3 h
 exact⟨X2,j1,j2.trans k2,j3⟩
end Go.Ev
namespace Go.Ev
variable{E:Env}{X:Cx}
def Pg(X:Cx)(g:Nat):Prop:=∃b x cb,look b X.s.st=some x/\X.cm b=some cb/\g∈cb.fp
def fresh(X:Cx):Env:={w:=X.w,H:=Pg X,Z:=X.S none}
theorem Pg.lt(hR:Rel E X){g:Nat}(h:Pg X g):g<X.w.heap.size/\(E.H g\/E.w.heap.size<=g):=by
 obtain⟨b,x,cb,h1,h2,h3⟩:=h
 obtain⟨cb',k1,_,_,k4⟩:=hR.blk b x h1
 rw[h2] at k1;cases k1
 exact k4 g h3
theorem Rel.fresh(hR:Rel E X):Rel (fresh X) X where
 blk b x h:=by
  obtain⟨cb,k1,k2,k3,k4⟩:=hR.blk b x h
  exact⟨cb,k1,k2,k3,λ g hg=>⟨(k4 g hg).1,.inl ⟨b,x,cb,h,k1,hg⟩⟩⟩
 dis:=hR.dis
 out n g h:=by
  obtain⟨h1,h2⟩:=hR.out n g h
  refine⟨yQ h1 hR.fr.size,λ ho=> ?_⟩
  rcases(Pg.lt hR ho).2 with h3|h3
  ·exact h2 h3
  ·omega
 frz g h:=⟨(hR.frz g h).1,.inl h,(hR.frz g h).2.2⟩
 fr:=⟨rfl,rfl,rfl,zE _,λ _ _ _=>rfl⟩
 uq:=hR.uq
theorem Rel.back{X':Cx}(hR:Rel E X)(h:Rel (Ev.fresh X) X')(hS:GS X'.S X.S):Rel E X' where
 blk b x hl:=by
  obtain⟨cb,k1,k2,k3,k4⟩:=h.blk b x hl
  refine⟨cb,k1,k2,k3,λ g hg=>⟨(k4 g hg).1, ?_⟩⟩
  rcases(k4 g hg).2 with h3|h3
  ·exact(Pg.lt hR h3).2
  ·exact .inr (yG hR.fr.size h3)
 dis:=h.dis
 out n g hg:=by rw[hS.1 n] at hg;exact hR.out n g hg
 frz g hg:=by
  obtain⟨k1,k2,k3⟩:=h.frz g hg
  refine⟨k1, ?_,k3⟩
  rcases k2 with k2|k2|k2
  ·exact(hR.frz g k2).2.1
  ·exact .inr (Pg.lt hR k2).2
  ·exact .inr (.inr (yG hR.fr.size k2))
 fr:=by
  refine⟨h.fr.os.trans hR.fr.os,h.fr.tape.trans hR.fr.tape,h.fr.output.trans hR.fr.output,yG hR.fr.size h.fr.size,λ g hg hH=> ?_⟩
  refine(h.fr.block g (yQ hg hR.fr.size) λ ho=> ?_).trans (hR.fr.block g hg hH)
  rcases(Pg.lt hR ho).2 with h3|h3
  ·exact hH h3
  ·omega
 uq:=h.uq
end Go.Ev
namespace Go.Ev
variable{R:Type}{E:Env}{X:Cx}{P:Program}
def Abx:Ex->Exit
 | .normal=>.normal
 | .exit id=>.exit id
 | .ret=>.ret
 | .pan t k n=>.panic (Lt t k n)
def Y8(m N:Nat)(X0:Cx)(E:Env)(e:Ex)(s':St)(e':Exit)(a':Act)(w':World):Prop:=e'=Abx e/\∃X',X'.s=s'/\X'.w=w'/\Inv m N X0 E X' a'
def Ef:Code->List Nat
 | .region _ ops _=>ops.toList.filterMap (·.dst)
 | .seq x y=>Ef x++Ef y
 | .cond _ x y=>Ef x++Ef y
 | .block _ c=>Ef c
 | .loop c=>Ef c
 | .scope c=>Ef c
 | .rangeFunc _ _ a c=>Ef a++Ef c
 | _=>[]
def Gb:Code->Bool
 | .seq x y=>Gb x||Gb y
 | .cond _ x y=>Gb x||Gb y
 | .block _ c=>Gb c
 | .loop c=>Gb c
 | .scope c=>Gb c
 | .rangeFunc .. =>true
 | _=>false
structure Gg(E:Env)(c:Code):Prop where
 kv:∀t∈Ef c,E.kv t=none
 rf:Gb c=true->E.rnd=none/\E.nm=false
theorem Gg.seq1{x y:Code}(h:Gg E (.seq x y)):Gg E x:=⟨λ t ht=>h.kv t (by simp[Ef,ht]),λ e=>h.rf (by simp[Gb,e])⟩
theorem Gg.seq2{x y:Code}(h:Gg E (.seq x y)):Gg E y:=⟨λ t ht=>h.kv t (by simp[Ef,ht]),λ e=>h.rf (by simp[Gb,e])⟩
theorem Gg.cond1{c:Operand}{x y:Code}(h:Gg E (.cond c x y)):Gg E x:=⟨λ t ht=>h.kv t (by simp[Ef,ht]),λ e=>h.rf (by simp[Gb,e])⟩
theorem Gg.cond2{c:Operand}{x y:Code}(h:Gg E (.cond c x y)):Gg E y:=⟨λ t ht=>h.kv t (by simp[Ef,ht]),λ e=>h.rf (by simp[Gb,e])⟩
theorem Gg.block{id:Nat}{x:Code}(h:Gg E (.block id x)):Gg E x:=⟨λ t ht=>h.kv t (by simpa[Ef] using ht),λ e=>h.rf (by simpa[Gb] using e)⟩
theorem Gg.loop{x:Code}(h:Gg E (.loop x)):Gg E x:=⟨λ t ht=>h.kv t (by simpa[Ef] using ht),λ e=>h.rf (by simpa[Gb] using e)⟩
theorem Gg.wide{c:Code}(hk:E.kv=λ _=>none)(hr:E.rnd=none)(hn:E.nm=false:=by rfl):Gg E c:=⟨λ _ _=>by rw[hk],λ _=>⟨hr,hn⟩⟩
theorem Gg.region{id:Nat}{ops:Array Oper}{d:Bool}(h:Gg E (.region id ops d)):∀o∈ops.toList,∀d,o.dst=some d->E.kv d=none:=λ o ho d hd=>h.kv d (by
 simp only[Ef,yN]
 exact⟨o,ho,hd⟩)
def Ka(P:Program)(m N:Nat)(code:Code)(s:St)(e:Ex)(s':St):Prop:=∀X0 E X a,X.s=s->Gg E code->Inv m N X0 E X a->code.wr E.rnd P (Y8 m N X0 E e s') a X.w
def Ae1:Code->Code
 | .rangeFunc g ps a c=>.rangeFunc g ps a c
 | c=>.loop c
def Acr:Code->Bool
 | .rangeFunc .. =>false
 | _=>true
theorem S1{c:Code}(h:Acr c=true):Ae1 c=.loop c:=by
 cases c<;>first|rfl|cases h
def Ew(P:Program)(m N:Nat)(B:Nat->Code)(L:Kc R):Prop:=∀b s k r,L b s k=some r->∃e s',k e s'=some r/\uniq s'.st/\Ka P m N (Ae1 (B b)) s e s'
theorem Iq{m N:Nat}{X0:Cx}{e:Ex}{s':St}:¬LetsOut (Y8 m N X0 E e s'):=by
 rintro⟨a,w,h,_⟩
 cases e<;>cases h
def wfC(N:Nat):Code->Bool
 | .region _ ops draw=>Oi N ops.toList&&(ops.toList.all Gn&&(!draw||Uo ops.toList))
 | .seq x y=>wfC N x&&wfC N y
 | .cond _ x y=>wfC N x&&wfC N y
 | .block _ c=>wfC N c
 | .loop c=>wfC N c&&Acr c
 | .scope c=>wfC N c
 | .rangeFunc _ _ a c=>wfC N a&&wfC N c
 | _=>true
theorem Inv.drawn{m N:Nat}{X0:Cx}{a:Act}(h:Inv m N X0 E X a):∃X',X'.s=X.s/\X'.w={X.w with drawn:=X.w.drawn+1}/\Inv m N X0 E X' a:=by
 let Y:Cx:={X with w:={X.w with drawn:=X.w.drawn+1}}
 have mv:Mv X Y (λ _=>False) (λ _=>False):=⟨.same rfl,rfl,rfl,rfl,zE _,λ _ _ _=>rfl,λ _ h=>h.elim,λ _ _=>rfl,λ _ _=>rfl,λ _ _ h=>h.elim,λ _ _ _ _ _ h=>h.elim⟩
 have hx:=mv.ext h.rel
 exact⟨Y,rfl,rfl,mv.rel h.rel h.rel.uq (λ _ _ h=>h.elim) (λ _ _ _ _ _ _ _ h=>h.elim),λ t=>(h.tr t).ext hx,h.top,h.S,h.cmx,h.defers.ext hx,h.size,h.keep⟩
theorem Mid.drawn{m N:Nat}{X0:Cx}{a:Act}(h:Inv m N X0 E X a)(outs:List B3)(ops:Array Oper):Mid m N X0 E X.s (sig ops.toList outs (dof (zN ops.size false)) 0 X.s) (dof (zN ops.size false)) X a:=by
 have e:dof (zN ops.size false)=Ax 0:=by
  rw[Hi]
  funext k
  simp only[dof]
  by_cases hk:k<ops.size<;>simp[hk]
 rw[e]
 exact h.mid outs ops
theorem Ai3{c:Cfg}(hC:Bk P c=true)(hm:P.follows .mixedOrders=true){C:Orc R}(hO:F9 P C){m N:Nat}{id:Nat}{ops:Array Oper}{draw:Bool}{s:St}{k:Ex->St->Option R}{r:R}(hu:uniq s.st)(hw:wfC N (.region id ops draw)=true)
  (h:(Vw c C ops.toList s.nx 0 ops.toList s [] (λ s' rec=>
   let s'':={s' with nx:=s.nx+16*ops.size}
   bif draw then(bif Gp (Dl ops.toList []) rec then k .normal s'' else none) else k .normal s'') λ t k' n s' rec last=>
   let s'':={s' with nx:=s.nx+16*ops.size}
   bif draw then(bif last&&Zu ops.toList&&Gp (Dl ops.toList []) rec then k (.pan t k' n) s'' else none) else k (.pan t k' n) s'')=some r):
  ∃e s',k e s'=some r/\uniq s'.st/\Ka P m N (.region id ops draw) s e s':=by
 simp only[wfC,z8,zP] at hw
 have post:∀{X0:Cx} {E:Env} {e:Ex} {s':St} (X':Cx) (a:Act),X'.s=s'->Inv m N X0 E X' a->Y8 m N X0 E e s' (Abx e) a X'.w:=λ X' a h1 h2=>⟨rfl,X',h1,rfl,h2⟩
 have key:∀n,Tk (List.replicate n false)=n:=by
  intro n
  induction n with
  | zero=>rfl
  | succ n ih=>simp[List.replicate_succ,Tk,ih];omega
 have clo:Y3 ops.toList (dof (zN ops.size false)):=by
  intro i o _ hD
  simp only[dof] at hD
  by_cases hi:i<ops.size<;>simp[hi] at hD
 rcases O2 hC hO hu h with⟨outs,sf,h1,hF⟩|⟨l1,o,l2,outs,sf,t,kk,n,u,rd,hl,h1,hF,hf⟩
 ·simp only[yY] at h1
  cases draw
  ·simp only[cond_false] at h1
   refine⟨_,_,h1,hF.fin.uq, ?_⟩
   intro X0 E X a hs hft hI
   subst hs
   refine Sd hw.2.1 Iq ?_
   have:=Anl (Q:=Y8 m N X0 E .normal {sf with nx:=X.s.nx+16*ops.size}) hu hF hw.1 hft.region (λ X' a=>post (e:=.normal) X' a) ops.size 0 X a (by omega) (hI.mid outs ops)
   rwa[<-yA] at this
  ·simp only[cond_true] at h1
   obtain⟨hp,h1⟩:=Ao (show chk _ _=some r from h1)
   refine⟨_,_,h1,hF.fin.uq, ?_⟩
   intro X0 E X a hs hft hI
   subst hs
   refine Ny hm hw.2.1 Iq ?_
   obtain⟨X',e1,e2,hI'⟩:=hI.drawn
   rw[<-e2]
   have hM:=Mid.drawn hI' outs ops
   rw[e1] at hM
   exact Avn hu hF hw.1 hft.region (by simpa using hw.2.2) hp (λ X' a=>post (e:=.normal) X' a) ops.size _ X' a (by simp) (by rw[yJ];exact key _) clo hM
 ·simp only[yY] at h1
  rw[z9] at hf
  cases draw
  ·simp only[cond_false] at h1
   refine⟨_,_,h1,Cg _ hF.fin.uq, ?_⟩
   intro X0 E X a hs hft hI
   subst hs
   refine Sd hw.2.1 Iq ?_
   have:=Arv (Q:=Y8 m N X0 E (.pan t kk n) {sf with st:=A6 u sf.st,nx:=X.s.nx+16*ops.size}) hu hl hF hw.1 hft.region hf (λ X' a=>post (e:=.pan t kk n) X' a) l1.length 0 X a (by omega) (hI.mid outs ops)
   rw[xK,<-yA] at this
   exact this
  ·simp only[cond_true] at h1
   obtain⟨hp,hk⟩:=Ao (show chk _ _=some r from h1)
   clear h1
   simp only[z8] at hp
   obtain⟨⟨hp1,hp2⟩,hp3⟩:=hp
   have hl2:l2=[]:=by simpa using hp1
   subst hl2
   refine⟨_,_,hk,Cg _ hF.fin.uq, ?_⟩
   intro X0 E X a hs hft hI
   subst hs
   refine Ny hm hw.2.1 Iq ?_
   obtain⟨X',e1,e2,hI'⟩:=hI.drawn
   rw[<-e2]
   have hM:=Mid.drawn hI' outs ops
   rw[e1] at hM
   refine Aqm hu hl hF hw.1 hft.region (by simpa using hw.2.2) hp3 hp2 hf (λ X' a=>post (e:=.pan t kk n) X' a) ops.size _ X' a (by simp) (by rw[yJ];exact key _) clo ?_ hM
   have:l1.length<ops.size:=by rw[<-zV,hl];simp
   simp[dof,this]
theorem Kl{m N:Nat}{X0:Cx}{e:Ex}{s':St}{K:Act->World->Prop}(hne:e≠.normal):∀e' a' w',Y8 m N X0 E e s' e' a' w'->Exit.then K (Y8 m N X0 E e s') e' a' w':=by
 rintro e' a' w' ⟨rfl,hX⟩
 cases e with
 | normal=>exact(hne rfl).elim
 | exit id=>exact⟨rfl,hX⟩
 | ret=>exact⟨rfl,hX⟩
 | pan=>exact⟨rfl,hX⟩
theorem Vi{m N:Nat}{h:A1}{i:Nat}{k:Ex->St->Option R}{code:Code}{s s':St}{e:Ex}{r:R}(hr:Qb m h i k e s'=some r)(hu:uniq s'.st)(hc:Ka P m N code s e s'):∃e s',k e s'=some r/\uniq s'.st/\Ka P m N code s e s':=by
 unfold Qb at hr
 cases hj:Ams i h.jn with
 | none=>rw[hj] at hr;exact⟨e,s',hr,hu,hc⟩
 | some oe=>
  obtain⟨o,en⟩:=oe
  rw[hj] at hr
  cases e with
  | normal=>
   simp only at hr
   split at hr
   case h_2=>cases hr
   rename_i s2 hn
   split at hr
   case h_2=>cases hr
   rename_i d hd
   have e2:s2=en.to d:=en.ok _ _ hd
   subst e2
   refine⟨.normal,_,hr,R4 hn,λ X0 E X a hs hft hI=>D0 (hc X0 E X a hs hft hI) ?_⟩
   rintro e' a' w' ⟨rfl,X',hs',rfl,hI'⟩
   rw[<-hs'] at hn
   obtain⟨X2,k1,k2,k3⟩:=Kk hI' hn
   exact⟨rfl,X2,k1,k2,k3⟩
  | exit id=>exact⟨_,_,hr,hu,hc⟩
  | ret=>exact⟨_,_,hr,hu,hc⟩
  | pan t k' n=>exact⟨_,_,hr,hu,hc⟩
theorem E3{c:Cfg}(hC:Bk P c=true)(hm:P.follows .mixedOrders=true){C:Orc R}(hO:F9 P C){m N:Nat}{B:Nat->Code}{L:Kc R}(hL:Ew P m N B L){h:A1}:
  ∀{code:Code} {b:Nat} {s:St} {k:Ex->St->Option R} {r:R},uniq s.st->wfC N code=true->(∀x∈Av b code,x.2=B x.1)->Fj c C L m h b code s k=some r->∃e s',k e s'=some r/\uniq s'.st/\Ka P m N code s e s'
 | .skip,b,s,k,r,hu,hw,hB,hr=>⟨.normal,s,hr,hu,λ X0 E X a hs hft hI=>Ahy ⟨rfl,X,hs,rfl,hI⟩⟩
 | .label l,b,s,k,r,hu,hw,hB,hr=>⟨.normal,s,hr,hu,λ X0 E X a hs hft hI=>Ap9 ⟨rfl,X,hs,rfl,hI⟩⟩
 | .exit id,b,s,k,r,hu,hw,hB,hr=>⟨.exit id,s,hr,hu,λ X0 E X a hs hft hI=>Ahx ⟨rfl,X,hs,rfl,hI⟩⟩
 | .ret,b,s,k,r,hu,hw,hB,hr=>⟨.ret,s,hr,hu,λ X0 E X a hs hft hI=>Axd ⟨rfl,X,hs,rfl,hI⟩⟩
 | .region id ops draw,b,s,k,r,hu,hw,hB,hr=>by
  obtain⟨e,s1,h1,hu1,h2⟩:=Ai3 (m:=m) (k:=Qb m h (2*id) k) hC hm hO hu hw hr
  exact Vi h1 hu1 h2
 | .seq x y,b,s,k,r,hu,hw,hB,hr=>by
  simp only[wfC,z8] at hw
  simp only[Fj] at hr
  obtain⟨e,s1,h1,hu1,h2⟩:=E3 hC hm hO hL hu hw.1 (λ z hz=>hB z (by simp[Av,hz])) hr
  cases e with
  | normal=>
   simp only at h1
   obtain⟨e2,s2,h3,hu2,h4⟩:=E3 hC hm hO hL hu1 hw.2 (λ z hz=>hB z (by simp[Av,hz])) h1
   refine⟨e2,s2,h3,hu2,λ X0 E X a hs hft hI=>Ju (D0 (h2 X0 E X a hs hft.seq1 hI) ?_)⟩
   rintro e' a' w' ⟨rfl,X',hs',rfl,hI'⟩
   exact h4 X0 E X' a' hs' hft.seq2 hI'
  | exit id=>exact⟨.exit id,s1,h1,hu1,λ X0 E X a hs hft hI=>Ju (D0 (h2 X0 E X a hs hft.seq1 hI) (Kl (by simp)))⟩
  | ret=>exact⟨.ret,s1,h1,hu1,λ X0 E X a hs hft hI=>Ju (D0 (h2 X0 E X a hs hft.seq1 hI) (Kl (by simp)))⟩
  | pan t k n=>exact⟨.pan t k n,s1,h1,hu1,λ X0 E X a hs hft hI=>Ju (D0 (h2 X0 E X a hs hft.seq1 hI) (Kl (by simp)))⟩
 | .cond x t f,b,s,k,r,hu,hw,hB,hr=>by
  simp only[wfC,z8] at hw
  simp only[Fj] at hr
  split at hr
  case h_2=>cases hr
  rename_i v hv
  have hval:∀{X0:Cx} {E:Env} {X:Cx} {a:Act},X.s=s->Inv m N X0 E X a->a.eval x=.bool v:=by
   intro X0 E X a hs hI
   have:=Bh hI.tr x
   rw[hs,hv] at this
   generalize a.eval x=u at this
   cases this
   rfl
  cases v
  ·simp only[cond_false] at hr
   obtain⟨e,s1,h1,hu1,h2⟩:=E3 hC hm hO hL hu hw.2 (λ z hz=>hB z (by simp[Av,hz])) hr
   exact Vi h1 hu1 λ X0 E X a hs hft hI=>Nx (hval hs hI) (h2 X0 E X a hs hft.cond2 hI)
  ·simp only[cond_true] at hr
   obtain⟨e,s1,h1,hu1,h2⟩:=E3 hC hm hO hL hu hw.1 (λ z hz=>hB z (by simp[Av,hz])) hr
   exact Vi h1 hu1 λ X0 E X a hs hft hI=>Q5 (hval hs hI) (h2 X0 E X a hs hft.cond1 hI)
 | .block id body,b,s,k,r,hu,hw,hB,hr=>by
  simp only[wfC] at hw
  simp only[Fj] at hr
  obtain⟨e,s1,h1,hu1,h2⟩:=E3 hC hm hO hL hu hw (λ z hz=>hB z (by simpa[Av] using hz)) hr
  cases e with
  | normal=>
   refine⟨.normal,s1,h1,hu1,λ X0 E X a hs hft hI=>Mh (D0 (h2 X0 E X a hs hft.block hI) ?_)⟩
   rintro e' a' w' ⟨rfl,hX⟩
   exact⟨rfl,hX⟩
  | ret=>
   refine⟨.ret,s1,h1,hu1,λ X0 E X a hs hft hI=>Mh (D0 (h2 X0 E X a hs hft.block hI) ?_)⟩
   rintro e' a' w' ⟨rfl,hX⟩
   exact⟨rfl,hX⟩
  | pan t k n=>
   refine⟨.pan t k n,s1,h1,hu1,λ X0 E X a hs hft hI=>Mh (D0 (h2 X0 E X a hs hft.block hI) ?_)⟩
   rintro e' a' w' ⟨rfl,hX⟩
   exact⟨rfl,hX⟩
  | exit j=>
   simp only at h1
   cases hj:zF j id<;>rw[hj] at h1<;>simp only[cond_true,cond_false] at h1
   ·refine⟨.exit j,s1,h1,hu1,λ X0 E X a hs hft hI=>Mh (D0 (h2 X0 E X a hs hft.block hI) ?_)⟩
    rintro e' a' w' ⟨rfl,hX⟩
    simp only[Abx,Exit.inBlock,Bd.1 hj,if_false]
    exact⟨rfl,hX⟩
   ·refine⟨.normal,s1,h1,hu1,λ X0 E X a hs hft hI=>Mh (D0 (h2 X0 E X a hs hft.block hI) ?_)⟩
    rintro e' a' w' ⟨rfl,hX⟩
    simp only[Abx,Exit.inBlock,beq_true.1 hj,if_true]
    exact⟨rfl,hX⟩
 | .loop body,b,s,k,r,hu,hw,hB,hr=>by
  simp only[wfC,z8] at hw
  simp only[Fj] at hr
  split at hr
  case h_2=>cases hr
  rename_i i o hb
  split at hr
  case h_2=>cases hr
  rename_i s' hn
  obtain⟨e,s1,h1,hu1,h2⟩:=hL _ _ _ _ hr
  refine⟨e,s1,h1,hu1,λ X0 E X a hs hft hI=> ?_⟩
  have e1:body=B b:=hB (b,body) (by simp[Av])
  rw[<-e1,S1 hw.2] at h2
  rw[<-hs] at hn
  obtain⟨X',k1,k2,k3⟩:=Kk hI hn
  rw[<-k2]
  exact h2 X0 E X' a k1 hft k3
 | .rangeFunc g ps asg body,b,s,k,r,hu,hw,hB,hr=>by
  simp only[Fj] at hr
  split at hr
  case h_2=>cases hr
  rename_i i o hb
  split at hr
  case h_2=>cases hr
  rename_i s' hn
  obtain⟨e,s1,h1,hu1,h2⟩:=hL _ _ _ _ hr
  refine⟨e,s1,h1,hu1,λ X0 E X a hs hft hI=> ?_⟩
  have e1:Code.rangeFunc g ps asg body=B b:=hB (b,.rangeFunc g ps asg body) (by simp[Av])
  rw[<-e1] at h2
  rw[<-hs] at hn
  obtain⟨X',k1,k2,k3⟩:=Kk hI hn
  rw[<-k2]
  exact h2 X0 E X' a k1 hft k3
 | .scope ..,_,_,_,_,_,_,_,hr=>by simp[Fj] at hr
 | .goto ..,_,_,_,_,_,_,_,hr=>by simp[Fj] at hr
 | .refuse ..,_,_,_,_,_,_,_,hr=>by simp[Fj] at hr
def Ng(P:Program)(m N:Nat)(body:Code)(s:St)(e:Ex)(s':St):Prop:=∀X0 E X a,X.s=s->Gg E body->Inv m N X0 E X a->Ha E.rnd P body (Y8 m N X0 E e s') a X.w
theorem Ng.code{m N:Nat}{body:Code}{s s':St}{e:Ex}(h:Ng P m N body s e s'):Ka P m N (.loop body) s e s':=λ X0 E X a hs hft hI=>(h X0 E X a hs hft.loop hI).start
theorem An0{c:Cfg}(hC:Bk P c=true)(hm:P.follows .mixedOrders=true){C:Orc R}(hO:F9 P C){m N:Nat}{B:Nat->Code}{L:Kc R}(hL:Ew P m N B L){h:A1}{b:Nat}{body:Code}{i o:List Nat}{s:St}{next:St->Option R}{out:Ex->St->Option R}{r:R}
    (hu:uniq s.st) (hw:wfC N body=true) (hB:∀x∈Av b body,x.2=B x.1) (hr:stepE c C L m h b body i o s next out=some r):
    (∃s1,next s1=some r/\uniq s1.st/\∀e s',Ng P m N body s1 e s'->Ng P m N body s e s')\/(∃e s',out e s'=some r/\uniq s'.st/\Ng P m N body s e s'):=by
  unfold stepE at hr
  obtain⟨e,s1,h1,hu1,h2⟩:=E3 hC hm hO hL hu hw hB hr
  have leave:e≠.normal->(match Qm m h.fz o s1 with|some s''=>out e s''|none=>none)=some r->∃e s',out e s'=some r/\uniq s'.st/\Ng P m N body s e s':=by
    intro hne h1
    split at h1
    case h_2=>cases h1
    rename_i s2 hn
    refine⟨e,s2,h1,R4 hn,λ X0 E X a hs hft hI=>Ha.round (D0 (h2 X0 E X a hs hft hI) ?_)⟩
    rintro e' a' w' ⟨he,X',hs',rfl,hI'⟩
    subst he
    rw[<-hs'] at hn
    obtain⟨X2,k1,k2,k3⟩:=Kk hI' hn
    have hp:Y8 m N X0 E e s2 (Abx e) a' X'.w:=⟨rfl,X2,k1,k2,k3⟩
    exact Kl hne _ _ _ hp
  cases e with
  | normal=>
    simp only at h1
    split at h1
    case h_2=>cases h1
    rename_i s2 hn
    refine .inl ⟨s2,h1,R4 hn,λ e s' hrun X0 E X a hs hft hI=>Ha.round (D0 (h2 X0 E X a hs hft hI) ?_)⟩
    rintro e' a' w' ⟨rfl,X',hs',rfl,hI'⟩
    rw[<-hs'] at hn
    obtain⟨X2,k1,k2,k3⟩:=Kk hI' hn
    have:=hrun X0 E X2 a' k1 hft k3
    rw[k2] at this
    exact this
  | exit id=>exact .inr (leave (by simp) h1)
  | ret=>exact .inr (leave (by simp) h1)
  | pan t k n=>exact .inr (leave (by simp) h1)
def via{Y S:Type}(e:Enc Y)(k:e.D->Option S)(y:Y):Option S:=match e.of y with
 | some d=>k d
 | none=>none
theorem Af1{Y S:Type}(e:Enc Y)(k:e.D->Option S)(d:e.D):via e k (e.to d)=k d:=by simp only[via,e.ko]
theorem Ark{c:Cfg}(hC:Bk P c=true)(hm:P.follows .mixedOrders=true){C:Orc R}(hO:F9 P C){m N:Nat}{B:Nat->Code}{L:Kc R}(hL:Ew P m N B L){h:A1}{b:Nat}{body:Code}{i o:List Nat}
  (hw:wfC N body=true) (hB:∀x∈Av b body,x.2=B x.1) (en:Enc St) (hen:∀d,uniq (en.to d).st) (f:Nat->en.D->(Ex->St->Option R)->Option R) (h0:∀d k,f 0 d k=none)
  (hs:∀n d k,f (n+1) d k=stepE c C L m h b body i o (en.to d) (via en λ d'=>f n d' k) k):
  ∀n d k r,f n d k=some r->∃e s',k e s'=some r/\uniq s'.st/\Ng P m N body (en.to d) e s':=by
 intro n
 induction n with
 | zero=>intro d k r hr;rw[h0] at hr;cases hr
 | succ n ih=>
  intro d k r hr
  rw[hs] at hr
  rcases An0 hC hm hO hL (hen d) hw hB hr with⟨s1,h1,_,h3⟩|h1
  ·unfold via at h1
   split at h1
   case h_2=>cases h1
   rename_i d' hd
   obtain⟨e,s',k1,k2,k3⟩:=ih d' k r h1
   rw[en.ok _ _ hd] at h3
   exact⟨e,s',k1,k2,h3 e s' k3⟩
  ·exact h1
end Go.Ev
namespace Go.Ev
variable{R:Type}{E:Env}{X:Cx}{P:Program}
theorem Z7{c:Cfg}(hC:Bk P c=true){a:Act}(hR:Rel E X)(hT:Jo X a):∀{rs:List ResultVar} {vs:List AV},Afi c X.s rs=some vs->
    ∃vals:List Value,(rs.mapM (λ|.tmp t=>pure (a.tmps.getD t undef)|.cell ad t=>do loadVar t (<-asAddr (a.tmps.getD ad undef)):ResultVar->Sem Value):Sem (List Value)).run P X.w=.ok vals X.w/\B6 X vs vals
  | [],vs,h=>by
    simp only[Afi,zA] at h
    subst h
    exact⟨[],rfl,.nil⟩
  | .tmp t::rs,vs,h=>by
    simp only[Afi] at h
    split at h
    case h_2=>cases h
    rename_i l hl
    cases h
    obtain⟨vals,h1,h2⟩:=Z7 hC hR hT hl
    refine⟨a.tmps.getD t undef::vals, ?_,.cons (hT t) h2⟩
    simp only[xD,Sem.run_bind,Sem.run_pure,Result.andThen_ok]
    rw[h1]
    rfl
  | .cell ad t::rs,vs,h=>by
    simp only[Afi] at h
    split at h
    case h_2=>cases h
    rename_i ti l hti hl
    split at h
    case h_2=>cases h
    rename_i ps rd hld
    split at h
    case h_2=>cases h
    rename_i v hv
    cases h
    obtain⟨vals,h1,h2⟩:=Z7 hC hR hT hl
    obtain⟨g,val,e1,e2,e3⟩:=(Xz hR (hT ad) hld).var (Bs hC hti) hv
    refine⟨val::vals, ?_,.cons e3 h2⟩
    have e4:(asAddr (a.tmps.getD ad undef)).run P X.w=.ok g X.w:=by rw[e1];rfl
    simp only[xD,Sem.run_bind,e4,Result.andThen_ok,e2]
    rw[h1]
    rfl
theorem Mo:∀{as:List AV} {vs:List Value},B6 X as vs->as.length=vs.length
 | _,_,.nil=>rfl
 | _,_,.cons _ h=>by simp[Mo h]
theorem Anf{c:Cfg}(hC:Bk P c=true){fn:Func}{kp:Bool}{m N:Nat}{s:St}{k:AV->List (Option Blk)->List Blk->Option R}{r:R}(h:Ane c fn kp m s k=some r):
    ∃v fin new,k v fin new=some r/\∀X0 E X a,X.s=s->Inv m N X0 E X a->∃val X',(results fn a.tmps).run P X.w=.ok val X.w/\X'.w=X.w/\Ud m v fin new E X0 X' val:=by
  unfold Ane at h
  split at h
  case h_1=>cases h
  rename_i vs hvs
  simp only at h
  generalize hv:Am7 vs=v at h
  generalize hids:Tj s.st 64 (yF m++R7 8 v) []=ids at h
  generalize hall:R7 8 v++Lv s.st ids=all at h
  generalize hc:Rh all v s=z at h
  obtain⟨v1,s1⟩:=z
  simp only at h
  split at h
  case h_2=>cases h
  rename_i nm st ns hren
  split at h
  case h_2=>cases h
  rename_i v' hv'
  refine⟨v',_,ns,h, ?_⟩
  intro X0 E X a hs hI
  subst hs
  obtain⟨vals,r1,r2⟩:=Z7 hC hI.rel hI.tr hvs
  obtain⟨val,q1,q2⟩:∃val,(results fn a.tmps).run P X.w=.ok val X.w/\VRel X v val:=by
    have hrun:((fn.results.mapM λ|.tmp t=>pure (a.tmps.getD t undef)|.cell ad t=>do loadVar t (<-asAddr (a.tmps.getD ad undef)):Sem (Array Value))).run P X.w=.ok vals.toArray X.w:=by
      have e:fn.results=fn.results.toList.toArray:=by simp
      rw[e,List.mapM_toArray]
      simp only[Sem.run_map,r1,Result.andThen_ok]
    have hres:(results fn a.tmps).run P X.w=.ok (if h:vals.toArray.size=1 then vals.toArray[0] else .tuple vals.toArray) X.w:=by
      simp only[results,Sem.run_bind]
      refine(congrArg (λ z=>Result.andThen z _) hrun).trans ?_
      simp only[Result.andThen_ok,Sem.run_pure]
    refine⟨_,hres, ?_⟩
    subst hv
    unfold Am7
    split
    · cases r2 with
      | cons h1 h2=>
        cases h2
        simpa using h1
    · rename_i hne
      have hl:=Mo r2
      have:¬vals.toArray.size=1:=by
        intro e
        simp at e
        rw[e] at hl
        match vs,hl,hne with
        | [x],_,hne=>exact hne x rfl
      rw[dif_neg this]
      exact .tup r2
  obtain⟨X1,e1,k1,k2⟩:=Xf hI.rel hI.top q2 hc
  subst e1
  obtain⟨X2,e2,k3⟩:=J0 (all:=all) (ids:=ids) k1.rel k1.top
  rw[<-e2] at hren hv'
  obtain⟨X3,j1,j2,j3,j4,j5,j6,j7,j8⟩:=Acy k3.rel hren []
  have q:=k1.trans k3
  refine⟨val,X3,q1,j2.trans q.w,j4,(j3.trans q.S).trans hI.S, ?_, ?_,O8 j7 (k2.ext k3.ext) hv'⟩
  · intro b cb hb hcm
    obtain⟨cb',h1,h2⟩:=hI.cmx b cb hb hcm
    obtain⟨cb2,h3,h4⟩:=q.ext.cmx b cb' h1
    exact⟨cb2,(j6 b hb).trans h3,CB.same_trans h2 h4⟩
  · intro b
    rw[j1]
    simp only
    by_cases hb:b<m
    · rw[if_pos hb]
      simp[hb]
    · rw[if_neg hb,j8 b (by omega)]
theorem Ag9{c:Cfg}(hC:Bk P c=true){fn:Func}{hi:A1}{m N:Nat}{s:St}{k:AV->List (Option Blk)->List Blk->Option R}{r:R}(h:Afj c fn hi m s k=some r):
  ∃v fin new,k v fin new=some r/\∀X0 E X a,X.s=s->Inv m N X0 E X a->∃val X',(results fn a.tmps).run P X.w=.ok val X.w/\X'.w=X.w/\Ud m v fin new E X0 X' val:=by
 unfold Afj at h
 obtain⟨v,fin,new,k1,k2⟩:=Anf (N:=N) hC h
 refine⟨v,fin,new,k1,λ X0 E X a hs hI=> ?_⟩
 obtain⟨X1,j1,j2,j3⟩:=Zl (fz:=hi.rz) hI
 rw[hs] at j1
 obtain⟨val,X2,q1,q2,q3⟩:=k2 X0 E X1 a j1 j3
 rw[j2] at q1 q2
 exact⟨val,X2,q1,q2,q3⟩
structure Bc(P:Program)(f:Nat)(fn:Func):Prop where
 hf:P.funcs[f]?=some fn
 name:fn.name≠ "runtime.NumGoroutine"
 body:∃code,fn.body=some code/\wfC fn.ntmps code=true/\F4 ((Av 0 code).map (·.1))=true
theorem Vo:∀{l:List (Nat×Code)},(l.map (·.1)).Nodup->∀x∈l,look x.1 l=some x.2
 | [],_,x,h=>by simp at h
 | (j,y)::r,hn,x,h=>by
  simp only[xI,yZ] at hn
  rcases List.mem_cons.1 h with rfl|h
  ·simp[look]
  ·have hne:j≠x.1:=λ e=>hn.1 (e▸List.mem_map.2 ⟨x,h,rfl⟩)
   simp only[look,Bd.2 hne,cond_false]
   exact Vo hn.2 x h
theorem Bc.loops{f:Nat}{fn:Func}{code:Code}(h:Bc P f fn)(hc:fn.body=some code):∀x∈Av 0 code,x.2=bodyOf fn x.1:=by
 intro x hx
 obtain⟨code',h1,_,h3⟩:=h.body
 rw[hc] at h1
 cases h1
 have:=Vo (Du.1 h3) x hx
 simp only[bodyOf,hc,this]
theorem Dr:∀{code:Code} {b0 b:Nat} {c:Code},(b,c)∈Av b0 code->∀x∈Av b c,x∈Av b0 code
 | .seq x y,b0,b,c,h,z,hz=>by
  simp only[Av,zI] at h⊢
  exact h.imp (λ h=>Dr h z hz) (λ h=>Dr h z hz)
 | .cond _ x y,b0,b,c,h,z,hz=>by
  simp only[Av,zI] at h⊢
  exact h.imp (λ h=>Dr h z hz) (λ h=>Dr h z hz)
 | .block j body,b0,b,c,h,z,hz=>by
  simp only[Av] at h⊢
  exact Dr h z hz
 | .scope body,b0,b,c,h,z,hz=>by
  simp only[Av] at h⊢
  exact Dr h z hz
 | .rangeFunc g ps asg body,b0,b,c,h,z,hz=>by
  simp only[Av,zX,zM,zI] at h⊢
  rcases h with h|h|h
  ·cases h
   simpa only[Av,zX,zM,zI] using hz
  ·exact .inr (.inl (Dr h z hz))
  ·exact .inr (.inr (Dr h z hz))
 | .loop body,b0,b,c,h,z,hz=>by
  simp only[Av,zM] at h⊢
  rcases h with h|h
  ·cases h;exact .inr hz
  ·exact .inr (Dr h z hz)
 | .skip,_,_,_,h,_,_=>by simp[Av] at h
 | .label _,_,_,_,h,_,_=>by simp[Av] at h
 | .region ..,_,_,_,h,_,_=>by simp[Av] at h
 | .exit _,_,_,_,h,_,_=>by simp[Av] at h
 | .goto _,_,_,_,h,_,_=>by simp[Av] at h
 | .ret,_,_,_,h,_,_=>by simp[Av] at h
 | .refuse _,_,_,_,h,_,_=>by simp[Av] at h
theorem Dt{N:Nat}:∀{code:Code} {b0 b:Nat} {c:Code},wfC N code=true->(b,c)∈Av b0 code->wfC N c=true
 | .seq x y,b0,b,c,hw,h=>by
  simp only[wfC,z8] at hw
  simp only[Av,zI] at h
  exact h.elim (Dt hw.1) (Dt hw.2)
 | .cond _ x y,b0,b,c,hw,h=>by
  simp only[wfC,z8] at hw
  simp only[Av,zI] at h
  exact h.elim (Dt hw.1) (Dt hw.2)
 | .block j body,b0,b,c,hw,h=>Dt (by simpa[wfC] using hw) (by simpa[Av] using h)
 | .scope body,b0,b,c,hw,h=>Dt (by simpa[wfC] using hw) (by simpa[Av] using h)
 | .loop body,b0,b,c,hw,h=>by
  simp only[wfC,z8] at hw
  simp only[Av,zM] at h
  rcases h with h|h
  ·cases h;exact hw.1
  ·exact Dt hw.1 h
 | .rangeFunc g ps asg body,b0,b,c,hw,h=>by
  have hw':=hw
  simp only[wfC,z8] at hw
  simp only[Av,zX,zM,zI] at h
  rcases h with h|h|h
  ·cases h;exact hw'
  ·exact Dt hw.1 h
  ·exact Dt hw.2 h
 | .skip,_,_,_,_,h=>by simp[Av] at h
 | .label _,_,_,_,_,h=>by simp[Av] at h
 | .region ..,_,_,_,_,h=>by simp[Av] at h
 | .exit _,_,_,_,_,h=>by simp[Av] at h
 | .goto _,_,_,_,_,h=>by simp[Av] at h
 | .ret,_,_,_,_,h=>by simp[Av] at h
 | .refuse _,_,_,_,_,h=>by simp[Av] at h
theorem Acf{α:Type}{b:Nat}:∀{l:List (Nat×α)} {x:α},look b l=some x->(b,x)∈l
 | [],_,h=>by simp[look] at h
 | (j,y)::r,x,h=>by
  simp only[look] at h
  cases hb:zF j b<;>rw[hb] at h
  ·exact List.mem_cons_of_mem _ (Acf h)
  ·simp only[cond_true,zA] at h
   rw[beq_true.1 hb,h]
   exact zR ..
theorem Bc.bodyOf{f:Nat}{fn:Func}(h:Bc P f fn)(b:Nat):wfC fn.ntmps (bodyOf fn b)=true/\∀x∈Av b (Ev.bodyOf fn b),x.2=Ev.bodyOf fn x.1:=by
 obtain⟨code,h1,h2,h3⟩:=h.body
 cases e:look b (Av 0 code) with
 | none=>
  have:Ev.bodyOf fn b=.skip:=by simp only[Ev.bodyOf,h1,e]
  rw[this]
  exact⟨rfl,by simp[Av]⟩
 | some c=>
  have hb:Ev.bodyOf fn b=c:=by simp only[Ev.bodyOf,h1,e]
  rw[hb]
  have hm:=Acf e
  exact⟨Dt h2 hm,λ x hx=>h.loops h1 x (Dr hm x hx)⟩
theorem Pb{args:List AV}{vals:List Value}(h:B6 X args vals)(n t:Nat):VRel X (getD .un t (D2 0 args)) ((vals.toArray++zN n undef).getD t undef):=by
 rw[Rt,Fe,if_pos (zY _),xK]
 have key:∀{args:List AV} {vals:List Value} {t:Nat},B6 X args vals->(args[t]?=none/\vals.length<=t)\/∃a v,args[t]?=some a/\vals[t]?=some v/\VRel X a v:=by
  intro args
  induction args with
  | nil=>intro vals t h;cases h;exact .inl ⟨rfl,zY _⟩
  | cons a as ih=>
   intro vals t h
   cases h with
   | cons h1 h2=>
    cases t with
    | zero=>exact .inr ⟨a,_,rfl,rfl,h1⟩
    | succ t=>
     rcases ih (t:=t) h2 with h3|⟨x,y,h3,h4,h5⟩
     ·exact .inl ⟨by simpa using h3.1,by simpa using h3.2⟩
     ·exact .inr ⟨x,y,by simpa using h3,by simpa using h4,h5⟩
 rcases key (t:=t) h with⟨h1,_⟩|⟨a,v,h1,h2,h3⟩
 ·rw[h1];exact .un _
 ·rw[h1]
  have hlt:=(List.getElem?_eq_some_iff.1 h2).1
  have:(vals.toArray++zN n undef)[t]?=some v:=by
   rw[Array.getElem?_append_left (by simpa using hlt)]
   simpa using h2
  rw[Array.getD_eq_getD_getElem?,this]
  exact h3
theorem Am0{D D':Nat}(h:R0 D=R0 D'):D=D':=by
 simp only[R0,Deferred.mk.injEq,Target.collected.injEq,and_true] at h
 exact h
theorem Inv.shut{m N:Nat}{X0:Cx}{a:Act}{D:Nat}{Ds:List Nat}(hI:Inv m N X0 E X {a with defers:=(D::Ds).map R0++E.db}):
  X.w.heap[D]?=some (.deferred (some []))/\∃Y:Cx,Y.s=X.s/\Y.w=X.w.putObj D (.deferred none)/\Inv m N X0 E Y {a with defers:=Ds.map R0++E.db}:=by
 obtain⟨Ds',h1,h0,h2,h3⟩:=hI.defers
 have h1:(D::Ds).map R0=Ds'.map R0:=List.append_cancel_right (show(D::Ds).map R0++E.db=Ds'.map R0++E.db from h1)
 have e:D::Ds=Ds':=(List.map_inj_right (λ _ _ h=>Am0 h)).1 h1
 subst e
 obtain⟨k1,k2,k3⟩:=h3 D (by simp)
 rw[yZ] at h2
 have hoth:∀g,g≠D->(X.w.putObj D (.deferred none)).heap[g]?=X.w.heap[g]?:=λ g hg=>World.putObj_heap_other hg
 have hR:=hI.rel
 obtain⟨f1,f2,f3⟩:=hR.frz D k2
 let Y:Cx:={X with w:=X.w.putObj D (.deferred none)}
 have hC:∀g,IsC X.w g->g≠D:=by
  rintro g ⟨cur,t,fr,h⟩ rfl
  rw[k3] at h;cases h
 have hfp:∀b x cb,look b X.s.st=some x->X.cm b=some cb->∀g∈cb.fp,Y.w.heap[g]?=X.w.heap[g]?:=λ b x cb hl hc g hg=>hoth g λ e=>f3 b x cb hl hc (e▸hg)
 have hx:M7 X Y:=by
  refine⟨λ b cb h=>⟨cb,h,cb.same_refl⟩,λ n g hg hc=>⟨hg,hoth g (hC g hc)⟩,λ b cb hc ro' v' ps' hl=>⟨ro',v',ps',hl,zE _,λ _ _=>⟨rfl,rfl,rfl,hfp b _ cb hl hc⟩⟩⟩
 refine⟨k3,Y,rfl,rfl,⟨⟨?_,hR.dis,hR.out, ?_,⟨hR.fr.os,hR.fr.tape,hR.fr.output, ?_, ?_⟩,hR.uq⟩,λ t=>(hI.tr t).extW hx,hI.top,hI.S,hI.cmx,⟨Ds,rfl,(λ e=>nomatch h0 e),h2.2,λ D' hD'=> ?_⟩,hI.size,hI.keep⟩⟩
 ·intro b x hl
  obtain⟨cb,q1,q2,q3,q4⟩:=hR.blk b x hl
  exact⟨cb,q1,q2.extW hx (hfp b x cb hl q1),q3,λ g hg=>⟨by show g<(X.w.putObj D _).heap.size;rw[World.putObj_size];exact(q4 g hg).1,(q4 g hg).2⟩⟩
 ·intro g hg
  obtain⟨q1,q2,q3⟩:=hR.frz g hg
  exact⟨by show g<(X.w.putObj D _).heap.size;rw[World.putObj_size];exact q1,q2,q3⟩
 ·show _<=(X.w.putObj D _).heap.size
  rw[World.putObj_size];exact hR.fr.size
 ·intro g hg hH
  exact(hoth g (by omega)).trans (hR.fr.block g hg hH)
 ·obtain⟨q1,q2,q3⟩:=h3 D' (by simp[hD'])
  exact⟨q1,q2,(hoth D' (λ e=>h2.1 (e▸hD'))).trans q3⟩
theorem Qd{m N:Nat}{X0:Cx}{fn:Func}{Q:Ending->World->Prop}{s:St}{a:Act}{u:FrameMode}(hu:u≠.run)(hend:∀X',X'.s=s->Inv m N X0 E X' {a with defers:=E.db}->LeavesInM Fence.wide 0 P fn a.tmps Q E.db u X'.w):
  ∀(Ds:List Nat) (X:Cx),X.s=s->Inv m N X0 E X {a with defers:=Ds.map R0++E.db}->LeavesInM Fence.wide 0 P fn a.tmps Q (Ds.map R0++E.db) u X.w
 | [],X,hs,hI=>hend X hs hI
 | D::Ds,X,hs,hI=>by
  obtain⟨h1,Y,h2,h3,h4⟩:=hI.shut
  refine⟨hu,.inl ⟨D,X.w.putObj D (.deferred none),rfl,run_takeDeferred h1, ?_⟩⟩
  have:=Qd hu hend Ds Y (h2.trans hs) h4
  rwa[h3] at this
theorem Inv.drop{m N:Nat}{X0:Cx}{a:Act}(hI:Inv m N X0 E X a):∃Y:Cx,Y.w=X.w/\Rel E Y/\GS Y.S X0.S/\(∀b cb,b<m->X0.cm b=some cb->∃cb',Y.cm b=some cb'/\cb.same cb')/\Y.s.st=[]:=by
 let Y:Cx:={X with s:={X.s with st:=[]}}
 have hmv:Mv X Y (λ b=>∃x,look b X.s.st=some x) (λ _=>False):=
  ⟨.same rfl,rfl,rfl,rfl,zE _,λ _ _ _=>rfl,λ _ h=>h.elim,λ b hb=>by
   cases e:look b X.s.st with
   | none=>rfl
   | some x=>exact(hb ⟨x,e⟩).elim,λ _ _=>rfl,λ b c _ h=>⟨c,h,c.same_refl⟩,λ b c ro' v' ps' _ _ hl=>by cases hl⟩
 exact⟨Y,rfl,hmv.rel hI.rel trivial (λ b x' _ hl=>by cases hl) (λ b b' x x' c c' g _ _ hl=>by cases hl),hI.S,hI.cmx,rfl⟩
def H2(E:Env):Env:={w:=E.w,H:=E.H,Z:=E.Z}
theorem Rel.env{E E':Env}(h:Rel E X)(h1:E'.w=E.w)(h2:E'.H=E.H)(h3:E'.Z=E.Z):Rel E' X:=by
 obtain⟨w,H,Z,kv,rnd⟩:=E
 obtain⟨w',H',Z',kv',rnd'⟩:=E'
 cases h1;cases h2;cases h3
 exact⟨h.blk,h.dis,h.out,h.frz,⟨h.fr.os,h.fr.tape,h.fr.output,h.fr.size,h.fr.block⟩,h.uq⟩
theorem Aq4{c:Cfg}(hC:Bk P c=true)(hm:P.follows .mixedOrders=true){C:Orc R}(hO:F9 P C){f:Nat}{fn:Func}(hW:Bc P f fn){L:Kc R}{h:A1}{args:List AV}{blks:List Blk}(hL:Ew P blks.length fn.ntmps (bodyOf fn) L)
  {k:AV->List (Option Blk)->List Blk->Option R} {r:R} (hr:Rr c C L h fn args blks k=some r):∃v fin new,k v fin new=some r/\Ad4 P f args blks v fin new:=by
 obtain⟨code,hb,hw,_⟩:=hW.body
 unfold Rr at hr
 rw[hb] at hr
 simp only at hr
 obtain⟨hlen,hr⟩:=Ao hr
 rw[xM] at hlen
 obtain⟨e,s1,h1,hu1,h2⟩:=E3 hC hm hO hL (by simp only[To];exact G9 _ _) hw (hW.loops hb) hr
 have hfn:∃fn,P.funcs[f]?=some fn/\fn.name≠ "runtime.NumGoroutine" /\fn.body.isSome=true:=⟨fn,hW.hf,hW.name,by rw[hb];rfl⟩
 have done:∀(v:AV) (fin:List (Option Blk)) (new:List Blk) (u:FrameMode),u≠.run->
   (∀(Q:Ending->World->Prop) (a:Act) (w:World),LeavesInM Fence.wide 0 P fn a.tmps Q a.defers u w->bodyPostM Fence.wide 0 P fn Q (Abx e) a w)->
   (∀X0 E Y a,Y.s=s1->Inv blks.length fn.ntmps X0 (H2 E) Y a->LeavesInM Fence.wide 0 P fn a.tmps (λ e w'=>∃val X'',e=U5 v val/\X''.w=w'/\Ud blks.length (Th v) fin new E X0 X'' val) [] u Y.w)->Ad4 P f args blks v fin new:=by
  intro v fin new u hu hpost hend
  refine⟨hfn, ?_⟩
  intro E X vals hE
  have hvl:=Mo hE.vals
  refine callsIn_wide.1 (callsIn_of_wp_marks (n:=0) hW.hf hb trivial ?_)
  have hI:Inv blks.length fn.ntmps X (H2 E) X {tmps:=vals.toArray++zN (fn.ntmps-vals.toArray.size) undef,defers:=[]}:=by
   refine⟨hE.rel.env rfl rfl rfl, ?_, ?_,GS.refl _,λ b cb _ h=>⟨cb,h,cb.same_refl⟩,.nil, ?_,λ t v h=>by simp[H2] at h⟩
   ·intro t
    rw[hE.s]
    exact Pb hE.vals _ t
   ·intro b hb
    rw[hE.s] at hb
    exact hE.top b hb
   ·simp;omega
  refine wpIn_mono (h2 X (H2 E) X _ hE.s (.wide rfl rfl) hI) ?_
  rintro e' a' w' ⟨rfl,X',hs',rfl,hI'⟩
  obtain⟨Ds,hd,_,_,_⟩:=hI'.defers
  have hI2:Inv blks.length fn.ntmps X (H2 E) X' {a' with defers:=Ds.map R0++(H2 E).db}:=by rw[<-hd];exact hI'
  have:=Qd (P:=P) (fn:=fn) (s:=s1) (a:=a') hu (λ Y hs hY=>hend X E Y {a' with defers:=[]} hs hY) Ds X' hs' hI2
  rw[<-hd] at this
  exact hpost _ _ _ this
 have ret:Afj c fn h blks.length s1 k=some r->(e=.normal\/e=.ret)->∃v fin new,k v fin new=some r/\Ad4 P f args blks v fin new:=by
  intro h1 he
  obtain⟨v,fin,new,k1,k2⟩:=Ag9 (N:=fn.ntmps) hC h1
  refine⟨v,fin,new,k1,done v fin new .returning (by simp) (λ Q a w hl=>by rcases he with rfl|rfl<;>exact hl) λ X0 E Y a hs hY=> ?_⟩
  obtain⟨val,X2,q1,q2,q3⟩:=k2 X0 (H2 E) Y a hs hY
  have hv:∀t k n,v≠.pan t k n:=by
   rintro t k n rfl
   cases q3.val
  refine⟨val,q1,val,X2,(Ll hv).symm,q2,⟨q3.rel.env rfl rfl rfl,q3.S,q3.cmx,q3.st,by rw[Mf hv];exact q3.val⟩⟩
 cases e with
 | normal=>exact ret h1 (.inl rfl)
 | ret=>exact ret h1 (.inr rfl)
 | exit id=>cases h1
 | pan t kk n=>
  refine⟨_,_,_,h1,done _ _ _ (.panicking (Lt t kk n)) (by simp) (λ Q a w hl=>hl) λ X0 E Y a hs hY=> ?_⟩
  obtain⟨Z,z1,z2,z3,z4,z5⟩:=hY.drop
  refine⟨undef,Z,rfl,z1,⟨z2.env rfl rfl rfl,z3,z4,λ b=> ?_,.un _⟩⟩
  rw[z5]
  have:(List.map (λ _=>(none:Option Blk)) blks)[b]?.join=none:=by
   rw[List.getElem?_map]
   cases blks[b]?<;>rfl
  rw[this]
  simp[look]
def Aj(P:Program)(e:As R):Prop:=∀d k r,e.fn d k=some r->∃x,k x=some r/\Ad4 P e.f (e.arg.to d).1 (e.arg.to d).2 (e.res.to x).1 (e.res.to x).2.1 (e.res.to x).2.2
theorem I2:∀{es:List (As R)},(∀e∈es,Aj P e)->F9 P (Fl es)
 | [],_=>by intro f as bs k r h;simp[Fl] at h
 | e::es,he=>by
  intro f as bs k r h
  have ih:=I2 (es:=es) λ x hx=>he x (by simp[hx])
  simp only[Fl] at h
  cases hb:zF e.f f<;>rw[hb] at h<;>simp only[cond_true,cond_false] at h
  ·exact ih f as bs k r h
  ·split at h
   ·rename_i d hd
    obtain⟨x,h1,h2⟩:=he e (by simp) d _ r h
    rw[<-e.arg.ok _ _ hd,beq_true.1 hb] at h2
    exact⟨_,_,_,h1,h2⟩
   ·exact ih f as bs k r h
theorem Aih{c:Cfg}(hC:Bk P c=true)(hm:P.follows .mixedOrders=true){C:Orc R}(hO:F9 P C){fn:Func}{L:Kc R}{h:A1}{e:As R}(hW:Bc P e.f fn)(hL:∀d,Ew P (e.arg.to d).2.length fn.ntmps (bodyOf fn) L)
  (hfn:∀d k,e.fn d k=Rr c C L h fn (e.arg.to d).1 (e.arg.to d).2 λ v fin new=>via e.res k (v,fin,new)):Aj P e:=by
 intro d k r hr
 rw[hfn] at hr
 obtain⟨v,fin,new,h1,h2⟩:=Aq4 hC hm hO hW (hL d) hr
 unfold via at h1
 split at h1
 ·rename_i x hx
  refine⟨x,h1, ?_⟩
  rw[<-e.res.ok _ _ hx]
  exact h2
 ·cases h1
def Ai(P:Program)(m N:Nat)(B:Nat->Code)(e:An R):Prop:=∀d k r,e.fn d k=some r->∃ex s',k ex s'=some r/\uniq s'.st/\Ka P m N (Ae1 (B e.b)) (e.st.to d) ex s'
theorem X9{m N:Nat}{B:Nat->Code}:∀{es:List (An R)},(∀e∈es,Ai P m N B e)->Ew P m N B (Dk es)
 | [],_=>by intro b s k r h;simp[Dk] at h
 | e::es,he=>by
  intro b s k r h
  have ih:=X9 (es:=es) λ x hx=>he x (by simp[hx])
  simp only[Dk] at h
  cases hb:zF e.b b<;>rw[hb] at h<;>simp only[cond_true,cond_false] at h
  ·exact ih b s k r h
  ·split at h
   ·rename_i d hd
    obtain⟨ex,s',h1,h2,h3⟩:=he e (by simp) d _ r h
    rw[<-e.st.ok _ _ hd,beq_true.1 hb] at h3
    exact⟨ex,s',h1,h2,h3⟩
   ·exact ih b s k r h
theorem Aez{c:Cfg}(hC:Bk P c=true)(hm:P.follows .mixedOrders=true){C:Orc R}(hO:F9 P C){f:Nat}{fn:Func}(hW:Bc P f fn){m:Nat}{L:Kc R}(hL:Ew P m fn.ntmps (bodyOf fn) L){h:A1}{i o:List Nat}{e:An R}(hnr:Acr (bodyOf fn e.b)=true)
  (hen:∀d,uniq (e.st.to d).st) (g:Nat->e.st.D->(Ex->St->Option R)->Option R) (n:Nat) (hg:∀d k,e.fn d k=g n d k) (h0:∀d k,g 0 d k=none)
  (hs:∀n d k,g (n+1) d k=stepE c C L m h e.b (bodyOf fn e.b) i o (e.st.to d) (via e.st λ d'=>g n d' k) k):Ai P m fn.ntmps (bodyOf fn) e:=by
 intro d k r hr
 rw[hg] at hr
 obtain⟨w1,w2⟩:=hW.bodyOf e.b
 obtain⟨ex,s',h1,h2,h3⟩:=Ark hC hm hO hL w1 w2 e.st hen g h0 hs n d k r hr
 exact⟨ex,s',h1,h2,by rw[S1 hnr];exact h3.code⟩
theorem Al{c:Cfg}(hC:Bk P c=true)(hm:P.follows .mixedOrders=true){C:Orc R}(hO:F9 P C){fn:Func}{L:Kc R}{h:A1}{e:As R}(hW:Bc P e.f fn)(hL:∀d,Ew P (e.arg.to d).2.length fn.ntmps (bodyOf fn) L)
  (hfn:∀d k,Rr c C L h fn (e.arg.to d).1 (e.arg.to d).2 k=e.fn d λ x=>k (e.res.to x).1 (e.res.to x).2.1 (e.res.to x).2.2):Aj P e:=
 Aih hC hm hO hW hL λ d k=>(congrArg (e.fn d) (funext λ x=>(Af1 e.res k x).symm)).trans (hfn d λ v fin new=>via e.res k (v,fin,new)).symm
theorem Xy{c:Cfg}(hC:Bk P c=true)(hm:P.follows .mixedOrders=true){C:Orc R}(hO:F9 P C){f:Nat}{fn:Func}(hW:Bc P f fn){m:Nat}{L:Kc R}(hL:Ew P m fn.ntmps (bodyOf fn) L){h:A1}{i o:List Nat}{e:An R}(hnr:Acr (bodyOf fn e.b)=true)
  (hen:∀d,uniq (e.st.to d).st) (g:Nat->e.st.D->(Ex->St->Option R)->Option R) (n:Nat) (q:e.st.D->(Ex->St->Option R)->(e.st.D->Option R)->Option R) (hg:∀d k,e.fn d k=g n d k) (h0:∀d k,g 0 d k=none)
  (hq:∀n d k,g (n+1) d k=q d k λ x=>g n x k) (hs:∀d next k,stepE c C L m h e.b (bodyOf fn e.b) i o (e.st.to d) next k=q d k λ x=>next (e.st.to x)):Ai P m fn.ntmps (bodyOf fn) e:=
 Aez hC hm hO hW hL hnr hen g n hg h0 λ n d k=>(hq n d k).trans ((congrArg (q d k) (funext λ x=>(Af1 e.st (λ d'=>g n d' k) x).symm)).trans (hs d (via e.st λ d'=>g n d' k) k).symm)
theorem Ah{c:Cfg}(hC:Bk P c=true)(hm:P.follows .mixedOrders=true){C:Orc R}(hO:F9 P C){f:Nat}{fn:Func}(hW:Bc P f fn){m:Nat}{L:Kc R}(hL:Ew P m fn.ntmps (bodyOf fn) L){h:A1}{i o:List Nat}{e:An R}(hnr:Acr (bodyOf fn e.b)=true)
  (hen:∀d,uniq (e.st.to d).st) {K:Type} (n:Nat) (s:e.st.D->(e.st.D->Option R)->K->Option R) (J:(Ex->St->Option R)->K) (hg:∀d k,e.fn d k=lp s n d (J k))
  (hs:∀d next k,stepE c C L m h e.b (bodyOf fn e.b) i o (e.st.to d) next k=s d (λ x=>next (e.st.to x)) (J k)):Ai P m fn.ntmps (bodyOf fn) e:=
 Xy hC hm hO hW hL hnr hen (λ n d k=>lp s n d (J k)) n (λ d k next=>s d next (J k)) hg (λ _ _=>rfl) (λ _ _ _=>rfl) hs
def Ap5{α:Type}:List (Nat×α)->Bool
  | []=>true
  | (j,_)::r=>(match look j r with|none=>true|some _=>false)&&Ap5 r
theorem Ak{α:Type}:∀{l:List (Nat×α)},Ap5 l=true->uniq l
 | [],_=>trivial
 | (j,_)::r,h=>by
  simp only[Ap5,z8] at h
  refine⟨?_,Ak h.2⟩
  cases e:look j r with
  | none=>rfl
  | some x=>rw[e] at h;simp at h
def Auf(fn:Func):Bool:=
 match fn.body with
 | some code=>wfC fn.ntmps code&&F4 ((Av 0 code).map (·.1))
 | none=>false
theorem Ap{f:Nat}{fn:Func}(hf:P.funcs[f]?=some fn)(hn:(fn.name== "runtime.NumGoroutine")=false)(h:Auf fn=true):Bc P f fn:=by
 refine⟨hf,by simpa using hn, ?_⟩
 unfold Auf at h
 split at h
 ·rename_i code hb
  simp only[z8] at h
  exact⟨code,hb,h.1,h.2⟩
 ·cases h
theorem Ac:F9 P (Fl ([]:List (As R))):=I2 (by simp)
theorem Ad{e:As R}{es:List (As R)}(h:Aj P e)(hs:F9 P (Fl es)):F9 P (Fl (e::es)):=by
 intro f as bs k r hr
 simp only[Fl] at hr
 cases hb:zF e.f f<;>rw[hb] at hr<;>simp only[cond_true,cond_false] at hr
 ·exact hs f as bs k r hr
 ·split at hr
  ·rename_i d hd
   obtain⟨x,h1,h2⟩:=h d _ r hr
   rw[<-e.arg.ok _ _ hd,beq_true.1 hb] at h2
   exact⟨_,_,_,h1,h2⟩
  ·exact hs f as bs k r hr
theorem Ab{m N:Nat}{B:Nat->Code}:Ew P m N B (Dk ([]:List (An R))):=X9 (by simp)
theorem Ag{m N:Nat}{B:Nat->Code}{e:An R}{es:List (An R)}(h:Ai P m N B e)(hs:Ew P m N B (Dk es)):Ew P m N B (Dk (e::es)):=by
 intro b s k r hr
 simp only[Dk] at hr
 cases hb:zF e.b b<;>rw[hb] at hr<;>simp only[cond_true,cond_false] at hr
 ·exact hs b s k r hr
 ·split at hr
  ·rename_i d hd
   obtain⟨ex,s',h1,h2,h3⟩:=h d _ r hr
   rw[<-e.st.ok _ _ hd,beq_true.1 hb] at h3
   exact⟨ex,s',h1,h2,h3⟩
  ·exact hs b s k r hr
end Go.Ev
namespace Go.Ev
variable{R:Type}{E:Env}{X:Cx}{P:Program}
def Lo(g:Option (Nat×Bool)):Option (Nat×Bool)->Bool
 | none=>g.isNone
 | some (j,b)=>match g with
  | some (j',b')=>zF j j'&&(b==b')
  | none=>false
theorem Mw{g h:Option (Nat×Bool)}(e:Lo g h=true):g=h:=by
 cases h with
 | none=>simpa[Lo] using e
 | some x=>
  obtain⟨j,b⟩:=x
  cases g with
  | none=>simp[Lo] at e
  | some y=>
   obtain⟨j',b'⟩:=y
   simp only[Lo,z8,beq_iff_eq] at e
   rw[zT e.1,e.2]
def Akn(o:Oper)(d:Nat):Bool:=match o.dst with
 | some d'=>zF d' d
 | none=>false
theorem Zd{o:Oper}{d:Nat}(h:Akn o d=true):o.dst=some d:=by
 unfold Akn at h
 split at h
 ·rename_i d' e;rw[e,zT h]
 ·cases h
def Zb(o:Oper)(t:Nat):Bool:=match o.op with
 | .assign (.tmp t')=>zF t' t
 | _=>false
def Aui(o:Oper):Bool:=match o.op with
 | .pick (.tmp 5) (.tmp 8) (.const (.bool false))=>true
 | _=>false
theorem Aec{o:Oper}{t:Nat}(h:Zb o t=true):o.op=.assign (.tmp t):=by
 unfold Zb at h
 split at h
 ·rename_i t' e;rw[e,zT h]
 ·cases h
structure Ayh(P:Program)(gf K:Nat):Prop where
 le:K<=100000
 is:∃fn c,P.funcs[gf]?=some fn/\fn.body=some c/\fn.ntmps=12/\fn.results= #[]/\fn.name≠ "runtime.NumGoroutine" /\Axg K c
structure Ayi(P:Program)(m N:Nat)(h:A1)(p:Nat)(assign body:Code)(i:List Nat)(j:Nat)(s s':St):Prop where
 go:∃s1 s2,Ka P m N assign {s with tm:=put p (.int .i64 (j:Int)) s.tm} .normal s1/\Ka P m N body s1 .normal s2/\Qm m h.fz i (Ayd i s2)=some s'
structure Bet(m N:Nat)(X0:Cx)(E:Env)(a:Act)(D:Nat)(rec:Loop)(s:St)(X':Cx):Prop where
 s:X'.s=s
 inv:Inv m N X0 E X' a
 hD:X'.w.heap[D]?=some (.deferred (some []))
 hl:X'.w.heap[D+1]?=some (.loop rec)
 geD:E.w.heap.size<=D
 oD:¬Pg X' D
 ol:¬Pg X' (D+1)
 sD:¬X'.S none D
 sl:¬X'.S none (D+1)
theorem J5{t:Array Value}{p k:Nat}{v:Value}(h:p≠k):(t.setIfInBounds p v).getD k undef=t.getD k undef:=by
 simp[Array.getElem?_setIfInBounds_ne h]
end Go.Ev
namespace Go.Ev
open Go.RowKit Go.ChangeShapes Go.WideShapes
open Go.ChangeMaps (open_string shut_string)
def kiF(rec:TypeId->Ki->Bool)(sz:TypeId->Nat):List Field->Ki->Nat->Bool
 | [],.unit,_=>true
 | [f],K,o=>zF f.offset o&&(rec f.type K&&zF (sz f.type) K.size)
 | f::g::fs,.pair a b,o=>zF f.offset o&&(rec f.type a&&(zF (sz f.type) a.size&&kiF rec sz (g::fs) b (o+a.size)))
 | _,_,_=>false
def kiT(P:Program):Nat->TypeId->Ki->Bool
 | 0,_,_=>false
 | n+1,t,K=>match P.underlying t,K with
  | some .bool,.bool=>true
  | some (.int k),.int k'=>G1 k k'
  | some .string,.str=>true
  | some (.slice e),.lst K'=>kiT P n e K'&&(zF (P.cellsOf e) K'.size&&Nat.ble 1 K'.size)
  | some (.struct fs),K=>kiF (kiT P n) P.cellsOf fs.toList K 0&&zF (P.cellsOf t) K.size
  | _,_=>false
theorem Ae4{β:Type}{f:Nat->Option β}{n:Nat}{r:List β}(h:(yF n).mapM f=some r):r.length=n/\∀i,i<n->f i=r[i]?:=by
 have key:∀(n k:Nat) (r:List β),(yK k n).mapM f=some r->r.length=n/\∀i,i<n->f (k+i)=r[i]?:=by
  intro n
  induction n with
  | zero=>
   intro k r h
   simp at h
   subst h
   exact⟨rfl,λ i hi=>by omega⟩
  | succ n ih=>
   intro k r h
   rw[List.range'_succ] at h
   obtain⟨b,bs,h1,h2,rfl⟩:=mapM_cons h
   obtain⟨h3,h4⟩:=ih (k+1) bs h2
   refine⟨by simp[h3],λ i hi=> ?_⟩
   cases i with
   | zero=>simpa using h1
   | succ i=>
    have:=h4 i (by omega)
    rw[show k+(i+1)=k+1+i by omega]
    simpa using this
 rw[yA] at h
 obtain⟨h1,h2⟩:=key n 0 r h
 exact⟨h1,λ i hi=>by have:=h2 i hi;rwa[z9] at this⟩
section
variable{H:Type}{enc:TypeId×Value->H}{P:Program}{W:World}{base:Nat}{spare:Nat->Bool}{held:Bool}
theorem Aic{a:Addr}{n:Nat}{cs:List Value}(hn:1<=n)(h:W.cells? base a n=some cs):∃g o cur ty fr,a=⟨g,o,none⟩/\W.heap[g]?=some (.cells cur ty fr)/\o+n<=cur.size/\cs=seg cur.toList o n:=by
 unfold World.cells? at h
 split at h
 case isFalse=>cases h
 obtain⟨h1,h2⟩:=Ae4 h
 obtain⟨g,o,sp⟩:=a
 have h0:=h2 0 (by omega)
 rw[List.getElem?_eq_getElem (by omega)] at h0
 have hz:(⟨g,o,sp⟩:Addr).add 0=⟨g,o,sp⟩:=by simp[Addr.add]
 rw[hz] at h0
 simp only[World.cell?] at h0
 split at h0
 case h_2=>cases h0
 rename_i cur ty fr hg
 split at h0
 ·cases h0
 rename_i hsp
 have hs:sp=none:=by cases sp<;>simp at hsp⊢
 subst hs
 have hcell:∀i,i<n->cur[o+i]?=cs[i]?:=by
  intro i hi
  have:=h2 i hi
  rw[Cy] at this
  simpa[World.cell?,hg] using this
 have hle:o+n<=cur.size:=by
  have:=hcell (n-1) (by omega)
  rw[List.getElem?_eq_getElem (by omega)] at this
  have:=(Array.getElem?_eq_some_iff.1 this).1
  omega
 refine⟨g,o,cur,ty,fr,rfl,hg,hle, ?_⟩
 apply List.ext_getElem?
 intro i
 by_cases hi:i<n
 ·rw[<-hcell i hi]
  simp[seg,hi]
 ·rw[List.getElem?_eq_none (by omega),List.getElem?_eq_none (by simp[seg];omega)]
theorem Ank(cur:List Value)(a n sz:Nat):seg cur a ((n+1)*sz)=seg cur a sz++seg cur (a+sz) (n*sz):=by
 simp only[seg]
 rw[yU,yS (n*sz) sz,xJ,xE]
theorem Yk{K:Ki}{S:Nat->Prop}{cur:List Value}{o:Nat}:∀(n k:Nat),(∀i,k<=i->i<k+n->∃d:K.den,Rep W S (λ _=>False) K false d (seg cur (o+i*K.size) K.size) []/\Fit K d)->
  ∃l:List K.den,l.length=n/\Cw (Rep W S (λ _=>False) K false) l (seg cur (o+k*K.size) (n*K.size)) []/\∀x∈l,Fit K x
 | 0,k,_=>⟨[],rfl,by simp[seg,Cw],by simp⟩
 | n+1,k,h=>by
  obtain⟨d,h1,h2⟩:=h k (by omega) (by omega)
  obtain⟨l,h3,h4,h5⟩:=Yk n (k+1) λ i hi hi'=>h i (by omega) (by omega)
  refine⟨d::l,by simp[h3], ?_, ?_⟩
  ·rw[Ank]
   refine⟨_,_,[],[],rfl,rfl,h1, ?_⟩
   rw[show o+k*K.size+K.size=o+(k+1)*K.size by rw[yU];omega]
   exact h4
  ·intro x hx
   rcases List.mem_cons.1 hx with rfl|hx
   ·exact h2
   ·exact h5 x hx
theorem U6{n:Nat}{rec:TypeId->Ki->Bool}{S:Nat->Prop}{cs:List Value}
  (ih:∀t K c x,rec t K=true->DataW.trod enc P W base spare held n t c=some x->∃d:K.den,Rep W S (λ _=>False) K false d c []/\Fit K d):
  ∀(fs:List Field) (K:Ki) (o:Nat),kiF rec P.cellsOf fs K o=true->
   (∀f∈fs,∃x,DataW.trod enc P W base spare held n f.type ((cs.drop f.offset).take (P.cellsOf f.type))=some x)->
   ∃d:K.den,Rep W S (λ _=>False) K false d ((cs.drop o).take K.size) []/\Fit K d
 | [],K,o,hk,_=>by
  cases K<;>simp only[kiF] at hk<;>first|(cases hk;done)|skip
  exact⟨(),⟨by simp[Ki.size],rfl⟩,trivial⟩
 | [f],K,o,hk,h=>by
  obtain⟨b,h1⟩:=h f (by simp)
  simp only[kiF,z8] at hk
  obtain⟨k1,k2,k3⟩:=hk
  obtain⟨d,h2,h3⟩:=ih _ K _ _ k2 h1
  rw[beq_true.1 k1,beq_true.1 k3] at h2
  exact⟨d,h2,h3⟩
 | f::g::fs,K,o,hk,h=>by
  obtain⟨b,h1⟩:=h f (by simp)
  cases K with
  | pair A B=>
   simp only[kiF,z8] at hk
   obtain⟨k1,k2,k3,k4⟩:=hk
   obtain⟨d,h3,h4⟩:=ih _ A _ _ k2 h1
   rw[beq_true.1 k1,beq_true.1 k3] at h3
   obtain⟨d',h5,h6⟩:=U6 ih (g::fs) B (o+A.size) k4 λ f hf=>h f (by simp at hf⊢;exact .inr hf)
   refine⟨(d,d'),⟨_,_,[],[], ?_,rfl,h3,h5⟩,h4,h6⟩
   simp only[Ki.size]
   rw[xJ,xE]
  | _=>simp[kiF] at hk
theorem Qz:∀(n:Nat) {fuel:Nat} {t:TypeId} {K:Ki} {cs:List Value} {x:DataW H×List MemPlace},kiT P n t K=true->DataW.trod enc P W base spare held fuel t cs=some x->∃d:K.den,Rep W (λ g=>g<W.heap.size) (λ _=>False) K false d cs []/\Fit K d
 | 0,_,_,_,_,_,hk,_=>by simp[kiT] at hk
 | n+1,fuel,t,K,cs,x,hk,h=>by
  simp only[kiT] at hk
  split at hk
  ·rename_i hu
   obtain⟨b,rfl,_⟩:=DataW.trod_bool hu h
   exact⟨b,⟨rfl,rfl⟩,trivial⟩
  ·rename_i k k' hu
   have:=Er hk
   subst this
   obtain⟨m,rfl,_,hw⟩:=DataW.trod_int hu h
   exact⟨m,⟨rfl,rfl⟩,hw⟩
  ·rename_i hu
   obtain⟨s,rfl,_,hs⟩:=DataW.trod_string hu h
   obtain⟨⟨l⟩⟩:=s
   exact⟨l,⟨rfl,rfl⟩,hs⟩
  ·rename_i e K' hu
   simp only[z8] at hk
   obtain⟨k1,k2,k3⟩:=hk
   have hsz:=beq_true.1 k2
   rw[xM] at k3
   rcases DataW.trod_slice hu h with⟨rfl,_⟩|⟨a,len,cap,Jg,rest,m,rfl,rfl,_,_,hlc,hcm,hel,hat,_⟩
   ·exact⟨[],.inr ⟨rfl,rfl,_,rfl,none,0,rfl,zE _,.inl rfl⟩,zY _,λ x hx=>nomatch hx⟩
   ·have each:∀i,i<len->∃g o cur ty fr,a.add (i*K'.size)=⟨g,o,none⟩/\W.heap[g]?=some (.cells cur ty fr)/\o+K'.size<=cur.size/\∃d:K'.den,Rep W (λ g=>g<W.heap.size) (λ _=>False) K' false d (seg cur.toList o K'.size) []/\Fit K' d:=by
     intro i hi
     have hb:=hat i hi
     rw[List.getElem?_eq_getElem (by omega)] at hb
     cases hc:W.cells? base (a.add (i*P.cellsOf e)) (P.cellsOf e) with
     | none=>rw[hc] at hb;simp at hb
     | some cs=>
      rw[hc] at hb
      simp only[zW] at hb
      rw[hsz] at hc
      obtain⟨g,o,cur,ty,fr,e1,e2,e3,e4⟩:=Aic k3 hc
      obtain⟨d,d1,d2⟩:=Qz n k1 hb
      exact⟨g,o,cur,ty,fr,e1,e2,e3,d,by rw[<-e4];exact d1,d2⟩
    by_cases h0:len=0
    ·subst h0
     exact⟨[],.inr ⟨rfl,rfl,_,rfl,_,cap,rfl,zY _,.inl rfl⟩,zY _,λ x hx=>nomatch hx⟩
    ·obtain⟨g,o,cur,ty,fr,e1,e2,e3,_⟩:=each 0 (by omega)
     have ha:a=⟨g,o,none⟩:=by
      rw[xL] at e1
      simpa[Addr.add] using e1
     subst ha
     have each':∀i,i<len->o+i*K'.size+K'.size<=cur.size/\∃d:K'.den,Rep W (λ g=>g<W.heap.size) (λ _=>False) K' false d (seg cur.toList (o+i*K'.size) K'.size) []/\Fit K' d:=by
      intro i hi
      obtain⟨g',o',cur',ty',fr',f1,f2,f3,f4⟩:=each i hi
      rw[Cy] at f1
      simp only[Addr.mk.injEq] at f1
      obtain⟨rfl,rfl,_⟩:=f1
      rw[e2] at f2
      cases f2
      exact⟨f3,f4⟩
     obtain⟨l,l1,l2,l3⟩:=Yk (K:=K') (o:=o) (cur:=cur.toList) len 0 λ i _ hi=>(each' i (by omega)).2
     have hlast:=(each' (len-1) (by omega)).1
     have hmul:(len-1)*K'.size+K'.size=len*K'.size:=by rw[<-yU];congr 1;omega
     have hg:g<W.heap.size:=(Array.getElem?_eq_some_iff.1 e2).1
     rw[xL,zL] at l2
     refine⟨l,.inr ⟨rfl,rfl,_,rfl,_,cap, ?_,by rw[l1];exact hlc,.inr ⟨g,o,cur,ty,fr,rfl,hg,e2, ?_, ?_⟩⟩, ?_,λ x hx=>l3 x hx⟩
     ·rw[l1]
     ·rw[l1];omega
     ·rw[l1];exact l2
     ·rw[l1];omega
  ·rename_i fs hu
   simp only[z8] at hk
   obtain⟨k1,k2⟩:=hk
   obtain⟨xs,m,rfl,_,hlen,hxl,hat⟩:=DataW.trod_struct hu h
   have:=U6 (P:=P) (W:=W) (base:=base) (spare:=spare) (held:=held) (enc:=enc) (n:=m) (S:=λ g=>g<W.heap.size) (cs:=cs) (λ t K c x hk hx=>Qz n hk hx) fs.toList _ 0 k1 (by
    intro f hf
    obtain⟨i,hi,hif⟩:=List.getElem_of_mem hf
    have hfi:fs[i]?=some f:=by rw[<-hif];simp at hi⊢
    have:=hat i f hfi
    rw[List.getElem?_eq_getElem (by simp at hi;omega)] at this
    exact⟨_,this⟩)
   obtain⟨d,d1,d2⟩:=this
   refine⟨d, ?_,d2⟩
   rw[List.drop_zero,List.take_of_length_le (by rw[hlen,beq_true.1 k2];exact zE _)] at d1
   exact d1
  ·cases hk
end
def Va:Ki->Bool
 | .arr .. =>false
 | .pair a b=>Va a&&Va b
 | .tr=>false
 | .fl _=>false
 | _=>true
def Ee(K:Ki)(d:K.den):List AV:=Ca .frz (Br K d)
theorem Ly(q:Cj):∀a b:List AV,Ca q (a++b)=Ca q a++Ca q b
 | [],_=>rfl
 | x::a,b=>by cases x<;>simp[Ca,Ly q a b]
structure Ad7(Y:Cx)(W:World):Prop where
 w:Y.w=W
 S:∀g,g<W.heap.size->Y.S none g
theorem Jc{Y:Cx}{W:World}(hY:Ad7 Y W):∀{K:Ki} {d:K.den} {cs:List Value},Va K=true->Rep W (λ g=>g<W.heap.size) (λ _=>False) K false d cs []->PRs Y (Ee K d) cs []/\∀a∈Ee K d,a.norw=true
 | .int k,d,cs,_,h=>by rw[h.1];exact⟨.one rfl rfl (.int _ _) .nil,by simp[Ee,Br,Ca,AV.norw]⟩
 | .bool,d,cs,_,h=>by rw[h.1];exact⟨.one rfl rfl (.bool _) .nil,by simp[Ee,Br,Ca,AV.norw]⟩
 | .str,d,cs,_,h=>by rw[h.1];exact⟨.one rfl rfl (.str _) .nil,by simp[Ee,Br,Ca,AV.norw]⟩
 | .lst e,d,cs,_,h=>by
  rcases h with⟨h,_⟩|⟨_,_,v,h1,h2⟩
  ·cases h
  ·rw[h1]
   have h3:RoS W (Y.S none) e.size (List.length (α:=e.den) d) (λ cs=>Cw (Rep W (Y.S none) (Y.S none) e false) d cs []) v:=Fv h2 (λ g hg=>⟨hY.S g hg,rfl⟩) λ cs hc=>Dq hc (λ g hg=>⟨hY.S g hg,rfl⟩) λ g hg=>hg.elim
   obtain⟨A,c,rfl,hc,h4⟩:=h2
   refine⟨.one rfl rfl (.ro hc (h4.imp id λ⟨g,o,cur,t,fr,h,_⟩=>⟨g,o,h⟩) trivial λ _=> ?_) .nil,by simp[Ee,Br,Ca,AV.norw]⟩
   rw[hY.w]
   exact h3
 | .arr n e,d,cs,hf,_=>by simp[Va] at hf
 | .tr,d,cs,hf,_|.fl _,d,cs,hf,_=>by simp[Va] at hf
 | .pair a b,d,cs,hf,⟨c1,c2,f1,f2,e1,e2,h1,h2⟩=>by
  simp only[Va,z8] at hf
  obtain⟨rfl,rfl⟩:=List.append_eq_nil_iff.1 e2.symm
  obtain⟨k1,k2⟩:=Jc hY hf.1 h1
  obtain⟨k3,k4⟩:=Jc hY hf.2 h2
  have e:Ee (.pair a b) d=Ee a d.1++Ee b d.2:=by simp only[Ee,Br,Ly]
  rw[e,e1]
  refine⟨by simpa using Ci k1 k3,λ x hx=> ?_⟩
  rcases List.mem_append.1 hx with hx|hx
  ·exact k2 x hx
  ·exact k4 x hx
 | .unit,d,cs,_,h=>by rw[h.1];exact⟨.nil,by simp[Ee,Br,Ca]⟩
section
variable{H:Type}{enc:TypeId×Value->H}{P:Program}{W:World}{base:Nat}{spare:Nat->Bool}{held:Bool}{r:Reach}{b0:Nat}{t:TypeId}{v:Value}{d0:DataW H}{ps:List MemPlace}
theorem Avo{fs:Array Field}(K:Ki)(n:Nat)(hu:P.underlying t=some (.struct fs))(hk:kiT P n t K=true)(hf:Va K=true)(hv:Value.okWide P W r b0 t v)(h:DataW.Trod enc P W base spare held t v d0 ps):
  ∃d:K.den,Fit K d/\∀Y,Ad7 Y W->VRel Y (.agg (Ee K d)) v:=by
 obtain⟨cs,rfl,_⟩:=okWide_struct hu hv
 obtain⟨fuel,h⟩:=h
 obtain⟨d,h1,h2⟩:=Qz n hk h
 refine⟨d,h2,λ Y hY=> ?_⟩
 obtain⟨k1,k2⟩:=Jc hY hf h1
 have:(Value.agg cs).cells.toList.toArray=cs:=by simp[Value.cells]
 rw[<-this]
 exact .agg k1 k2
theorem W9{e:TypeId}(K:Ki)(n:Nat)(hu:P.underlying t=some (.slice e))(hk:kiT P n t (.lst K)=true)(hv:Value.okWide P W r b0 t v)(h:DataW.Trod enc P W base spare held t v d0 ps):
  ∃l:List K.den,Fit (.lst K) l/\∀Y,Ad7 Y W->VRel Y (.ro .frz K l) v:=by
 obtain⟨A,len,cap,rfl⟩:=okWide_slice hu hv
 obtain⟨fuel,h⟩:=h
 obtain⟨d,h1,h2⟩:=Qz n hk h
 refine⟨d,h2,λ Y hY=> ?_⟩
 obtain⟨k1,k2⟩:=Jc hY (K:=.lst K) rfl h1
 have e:(Value.slice A len cap).cells.toList=[.slice A len cap]:=rfl
 rw[e] at k1
 have k1':PRs Y [.ro .frz K d] [.slice A len cap] []:=k1
 cases k1' with
 | one _ _ h _=>exact h
theorem Ax6(hu:P.underlying t=some .string)(hv:Value.okWide P W r b0 t v)(h:DataW.Trod enc P W base spare held t v d0 ps):
  ∃s:List UInt8,Fit .str s/\∀Y,Ad7 Y W->VRel Y (.str s) v:=by
 obtain⟨s,rfl,_,_,hs⟩:=open_string hu hv h
 obtain⟨⟨l⟩⟩:=s
 exact⟨l,hs,λ Y _=>.str l⟩
theorem Ax5{k:IntKind}(hu:P.underlying t=some (.int k))(hv:Value.okWide P W r b0 t v)(h:DataW.Trod enc P W base spare held t v d0 ps):
  ∃n:Int,Fit (.int k) n/\∀Y,Ad7 Y W->VRel Y (.int k n) v:=by
 obtain⟨n,rfl,_,_,hw⟩:=open_int hu hv h
 exact⟨n,hw,λ Y _=>.int k n⟩
theorem Axj(hu:P.underlying t=some .bool)(hv:Value.okWide P W r b0 t v)(h:DataW.Trod enc P W base spare held t v d0 ps):
  ∃b:Bool,Fit .bool b/\∀Y,Ad7 Y W->VRel Y (.bool b) v:=by
 obtain⟨b,rfl,_,_⟩:=open_bool hu hv h
 exact⟨b,trivial,λ Y _=>.bool b⟩
end
theorem Aip{P:Program}{e:As Bool}(he:Aj P e)(d:e.arg.D)(tob:e.res.D->Bool)(hres:∀x,(e.res.to x).1=.bool (tob x))(hb:(e.arg.to d).2=[]){W:World}{vals:List Value}(hv:∀Y,Ad7 Y W->B6 Y (e.arg.to d).1 vals)
  (h:e.fn d (λ x=>some (tob x))=some true):Calls P e.f vals.toArray W λ e w'=>e=.returned (.bool true)/\Below W.heap.size W w':=by
 obtain⟨x,h1,hok⟩:=he d _ true h
 simp only[zA] at h1
 rw[hres,h1,hb] at hok
 let E:Env:={w:=W,H:=λ _=>False,Z:=λ g=>g<W.heap.size}
 let X:Cx:={cm:=λ _=>none,S:=λ _ g=>g<W.heap.size,s:=To (e.arg.to d).1 [],w:=W}
 have hE:Ad3 (e.arg.to d).1 [] E X vals:=by
  refine⟨⟨?_, ?_, ?_, ?_,⟨rfl,rfl,rfl,zE _,λ _ _ _=>rfl⟩,G9 _ _⟩,rfl,λ _ _=>rfl,hv X ⟨rfl,λ g hg=>hg⟩⟩
  ·intro b x hl;simp[X,To,D2,look] at hl
  ·intro b b' x x' cb cb' g hl;simp[X,To,D2,look] at hl
  ·intro n g hg;exact⟨hg,λ h=>h⟩
  ·intro g hg;exact⟨hg,.inl hg,λ b x cb hl=>by simp[X,To,D2,look] at hl⟩
 refine(hok.go E X vals hE).mono ?_
 rintro e' w' ⟨val,X',rfl,rfl,hL⟩
 have hval:=hL.val
 generalize val=u at hval
 cases hval
 have hfr:=hL.rel.fr
 exact⟨rfl,hfr.os,hfr.tape,hfr.output,hfr.size,λ k hk=>hfr.block k hk λ h=>h⟩
end Go.Ev
namespace Go.Ev
variable{R:Type}{E:Env}{X:Cx}{P:Program}{t:Nat}{ti:TyI}{w:World}
theorem Z9{ty:TypeId}{r gm:Nat}{seen:List Nat}{es:List MapEntry}(hr:w.heap[r]?=some (.mapIter (some gm) es.length seen.toArray es.length))(hm:w.heap[gm]?=some (.map es.toArray es.length))(hb:∀x∈es,x.born<es.length):
  ((∀x∈es,x.born∈seen)/\(Instr.next (.pointer (some ⟨r,0,none⟩)) false ty).run P w=.ok (.tuple #[.bool false]) w)\/
  ∃e∈es,e.born∉seen/\∃w1:World,w1.heap=w.heap/\w1.os=w.os/\w1.tape=w.tape/\w1.output=w.output/\
   (Instr.next (.pointer (some ⟨r,0,none⟩)) false ty).run P w=.ok (.tuple #[.bool true,e.key,e.val]) {w1 with heap:=w1.heap.setIfInBounds r (.mapIter (some gm) es.length (seen++[e.born]).toArray es.length)}:=by
 have hgi:(getObj r).run P w=.ok (.mapIter (some gm) es.length seen.toArray es.length) w:=by simp[getObj,Sem.run,hr]
 have hgm:=MapKept.run_getObj_map (P:=P) hm
 have htest:(!(seen.toArray).isEmpty&& !(es.toArray).isEmpty&&es.toArray.all (λ x=>decide (x.born>=es.length)))=false:=by
  cases es with
  | nil=>simp
  | cons e es=>
   have:=hb e (by simp)
   simp only[List.length_cons] at this
   simp
   intro _ h
   omega
 simp only[Instr.next,Sem.run_bind,hgi,Result.andThen_ok,hgm,htest,yC,if_false]
 have hmem:∀x∈(yB (λ e=> !seen.toArray.contains e.born) es.toArray).toList,x∈es/\x.born∉seen:=λ x hx=>by simpa using hx
 have hall:(∀x∈es,x.born∈seen)\/0<(yB (λ e=> !seen.toArray.contains e.born) es.toArray).size:=by
  by_cases h:∀x∈es,x.born∈seen
  ·exact .inl h
  ·right
   obtain⟨x,hx⟩:=Classical.not_forall.1 h
   obtain⟨h1,h2⟩:=Classical.not_imp.1 hx
   have:x∈yB (λ e=> !seen.toArray.contains e.born) es.toArray:=by simp[h1,h2]
   exact Array.size_pos_of_mem this
 have hz:(∀x∈es,x.born∈seen)->(yB (λ e=> !seen.toArray.contains e.born) es.toArray).size=0:=by
  intro h
  apply Nat.eq_zero_of_not_pos
  intro hp
  have:=hmem _ (yE hp)
  exact this.2 (h _ this.1)
 generalize yB (λ e=> !seen.toArray.contains e.born) es.toArray=L at hmem hall hz⊢
 have e1:L.filter (λ x=>decide (x.born<es.length))=L:=Array.filter_eq_self.2 (λ x hx=>by simpa using hb x (hmem x (by simpa using hx)).1)
 have e2:L.filter (λ x=>decide (x.born>=es.length))= #[]:=by
  rw[Array.filter_eq_empty_iff]
  intro x hx
  have:=hb x (hmem x (by simpa using hx)).1
  simp
  omega
 simp only[e1,e2,Array.append_empty]
 by_cases h0:L.size=0
 ·left
  have:L= #[]:=Array.eq_empty_of_size_eq_zero h0
  subst this
  refine⟨hall.resolve_right (by simp), ?_⟩
  simp[choose,Sem.run,Question.forced]
 ·right
  have hne:L.isEmpty=false:=by simp[Array.isEmpty,h0]
  simp only[hne,yC,if_false,Array.empty_append,Array.size_map]
  have hch:∃(j:Nat) (w1:World),j<L.size/\w1.heap=w.heap/\w1.os=w.os/\w1.tape=w.tape/\w1.output=w.output/\(choose (Question.mapNext L.size)).run P w=.ok j w1:=by
   by_cases hf:L.size<=1
   ·exact⟨0,w,by omega,rfl,rfl,rfl,rfl,by simp[choose,Sem.run,Question.forced,hf]⟩
   ·exact⟨_,w.drew,Nat.mod_lt _ (by omega),rfl,rfl,rfl,rfl,by
     simp only[choose,Sem.run,Question.forced,decide_eq_true_eq,hf,if_false,Question.cut]
     rfl⟩
  obtain⟨j,w1,hj,k1,k2,k3,k4,hrun⟩:=hch
  have hLj:=hmem L[j] (yE hj)
  refine⟨L[j],hLj.1,hLj.2,w1,k1,k2,k3,k4, ?_⟩
  have hset:∀o':Obj,(setObj r o').run P w1=.ok () {w1 with heap:=w1.heap.setIfInBounds r o'}:=λ o'=>by
   simp[setObj,Sem.run,k1,hr]
  simp only[hrun,Array.getElem?_map,Array.getElem?_eq_getElem hj,yI,Sem.run_bind,hset,Result.andThen]
  simp
theorem Dj.mem{K V:Ki}{z:K.den×V.den}:∀{n:Nat} {l:List (K.den×V.den)} {es:List MapEntry} {e:MapEntry},Dj K V n l es->e∈es->
  ∃i,i<l.length/\e.born=n+i/\Ck K (l.getD i z).1 e.key/\Ck V (l.getD i z).2 e.val
 | _,[],[],_,_,h=>by simp at h
 | _,[],_::_,_,h,_=>h.elim
 | _,_::_,[],_,h,_=>h.elim
 | n,p::l,e0::es,e,⟨h1,h2,h3,h4⟩,h=>by
  rcases List.mem_cons.1 h with rfl|h
  ·exact⟨0,by simp,h3,h1,h2⟩
  ·obtain⟨i,q1,q2,q3,q4⟩:=Dj.mem (z:=z) h4 h
   exact⟨i+1,by simpa using q1,by omega,by simpa using q3,by simpa using q4⟩
theorem Dj.all{K V:Ki}:∀{n i:Nat} {l:List (K.den×V.den)} {es:List MapEntry},Dj K V n l es->i<l.length->∃e∈es,e.born=n+i
 | _,_,[],_,_,h=>by simp at h
 | _,_,_::_,[],h,_=>h.elim
 | n,0,_::_,e::es,⟨_,_,h3,_⟩,_=>⟨e,by simp,h3⟩
 | n,i+1,_::l,e::es,⟨_,_,_,h4⟩,h=>by
  obtain⟨e',q1,q2⟩:=Dj.all (i:=i) h4 (by simpa using h)
  exact⟨e',by simp[q1],by omega⟩
theorem Arm(hR:Rel E X){a:Act}(hT:Jo X a){o:Oper}{nb:Nat}{x:Operand}(hop:o.op=.next x false){b m n last:Nat}{ord:List Nat}(hx:ev X.s x=.pb b 0 [])(hl:look b X.s.st=some (.iter m n ord last)){K V:Ki}{l:List (K.den×V.den)}(hlm:look m X.s.st=some (.map K V l))(hn:n=l.length)
  {next:Act->World->Prop} {Q:Exit->Act->World->Prop} (h0:ord=[]->next (a.put o.dst (.tuple #[.bool false])) X.w)
  (h1:∀i∈ord,∀val X',Good E X nb (.tup [.bool true,ofD K (l.getD i (K.zero,V.zero)).1,ofD V (l.getD i (K.zero,V.zero)).2]) [(b,some (.iter m n (ord.erase i) (i+1)))] val X'->next (a.put o.dst val) X'.w):o.wp P a X.w next Q:=by
 have hv:=Bh hT x
 rw[hx] at hv
 generalize hv':a.eval x=v at hv
 obtain⟨cb,k1,k2,k3,k4⟩:=hR.blk b _ hl
 obtain⟨cb',j1,j2,_⟩:=hR.blk m _ hlm
 cases k2 with
 | @iter g gm _ _ _ _ seen i1 i2 i3 i4 i5=>
  cases j2 with
  | @map gm' _ _ _ es m1 m2=>
   rw[i1] at j1
   cases j1
   have hlen:=m2.length
   cases hv with
   | pb hcm hbase hpin hnr=>
    rw[k1] at hcm
    cases hcm
    simp only[CB.base,zA,zD] at hbase
    obtain⟨rfl,rfl⟩:=hbase
    have hne:n=es.length:=by omega
    subst hne
    have hborn:∀y∈es,y.born<es.length:=λ y hy=>by
     obtain⟨i,q1,q2,_⟩:=Dj.mem (z:=(K.zero,V.zero)) m2 hy
     omega
    unfold Oper.wp
    rcases Z9 (P:=P) (ty:=o.type) i2 m1 hborn with⟨f1,f2⟩|⟨e,f1,f2,w1,f3,f4,f5,f6,f7⟩
    ·simp only[execOp,hop,hv',Bf,zL,Sem.run_bind,f2,Result.andThen_ok,Sem.run_pure,Oper.upon]
     refine h0 ?_
     cases hord:ord with
     | nil=>rfl
     | cons i r=>
      obtain⟨q1,q2⟩:=(i4 i).1 (by rw[hord];simp)
      obtain⟨y,y1,y2⟩:=Dj.all (i:=i) m2 (by omega)
      have:=f1 y y1
      rw[y2,z9] at this
      exact(q2 this).elim
    ·obtain⟨i,q1,q2,q3,q4⟩:=Dj.mem (z:=(K.zero,V.zero)) m2 f1
     rw[z9] at q2
     rw[q2] at f2 f7
     have hi:i∈ord:=(i4 i).2 ⟨by omega,f2⟩
     let w':World:={w1 with heap:=w1.heap.setIfInBounds g (.mapIter (some gm) es.length (seen++[i]).toArray es.length)}
     obtain⟨s1,s2⟩:=MapKept.heap_set (o':=.mapIter (some gm) es.length (seen++[i]).toArray es.length) i2
     have hw'g:w'.heap[g]?=some (.mapIter (some gm) es.length (seen++[i]).toArray es.length):=by simp only[w',f3];exact s1
     have hw'o:∀k,k≠g->w'.heap[k]?=X.w.heap[k]?:=λ k hk=>by simp only[w',f3];exact s2 k hk
     have hS:Hv E X b (.iter m es.length ord last) (.iter m es.length (ord.erase i) (i+1)) [] (.iter g) (.iter g) w' (λ k=>k=g) (Aac X b (.iter m es.length (ord.erase i) (i+1)) [] (.iter g) w'):=by
      refine⟨rfl,rfl,rfl,rfl,hl,k1,rfl,(λ _ _ _ e=>by cases e),(by simp),f4,f5,f6,(by simp[w',f3]),(λ k hk hT=>hw'o k hT),(λ k hk=>by simp[CB.fp,hk])⟩
     have hmb:m≠b:=by
      intro e
      subst e
      rw[hl] at hlm
      cases hlm
     have hG:=hS.good hR (nb:=nb) (v:=.tup [.bool true,ofD K (l.getD i (K.zero,V.zero)).1,ofD V (l.getD i (K.zero,V.zero)).2]) (val:=.tuple #[.bool true,e.key,e.val])
      (λ _=>.iter (gm:=gm) (seen:=seen++[i]) (by simp[Aac,hmb,i1]) hw'g (i3.erase i) (λ j=>by
       rw[i3.mem_erase_iff,i4 j]
       simp only[zI,zQ,not_or]
       exact⟨λ h=>⟨h.2.1,h.2.2,h.1⟩,λ h=>⟨h.2.2,h.1,h.2.1⟩⟩) (.inr ⟨seen,i,rfl,rfl⟩))
      k3 (λ k hk=>⟨by
       have:=(k4 k hk).1
       show k<w'.heap.size
       simpa[w',f3] using this,.inr ⟨b,_,_,.inl rfl,hl,k1,hk⟩⟩)
      (λ _=>.tup (.cons (.bool _) (.cons q3.rel (.cons q4.rel .nil))))
     simp only[execOp,hop,hv',Bf,zL,Sem.run_bind,f7,Result.andThen_ok,Sem.run_pure,Oper.upon]
     exact h1 i hi _ _ (by simpa[By] using hG)
def Nz(p q:Int×Int):Prop:=p.2>q.2\/(p.2=q.2/\p.1<q.1)
def Best(l:List (Int×Int))(S:Nat->Prop)(b:Int):Prop:=
 (b=-1/\∀j,j<l.length->¬S j)\/∃i,i<l.length/\S i/\b=(l.getD i (0,0)).1/\∀j,j<l.length->S j->j≠i->Nz (l.getD i (0,0)) (l.getD j (0,0))
theorem Best.uniq{l:List (Int×Int)}{S:Nat->Prop}{b b':Int}(h:Best l S b)(h':Best l S b'):b=b':=by
 rcases h with⟨h1,h2⟩|⟨i,h1,h2,h3,h4⟩
 ·rcases h' with⟨k1,_⟩|⟨j,k1,k2,_⟩
  ·rw[h1,k1]
  ·exact(h2 j k1 k2).elim
 ·rcases h' with⟨_,k2⟩|⟨j,k1,k2,k3,k4⟩
  ·exact(k2 i h1 h2).elim
  ·by_cases e:i=j
   ·subst e;rw[h3,k3]
   ·have a:=h4 j k1 k2 (λ e'=>e e'.symm)
    have b:=k4 i h1 h2 e
    unfold Nz at a b
    omega
theorem Ns:∀{l:List (Int×Int)} {i:Nat},C2 l=true->i<l.length->0<=(l.getD i (0,0)).1
 | [],_,_,h=>by simp at h
 | p::r,0,h,_=>by
  simp only[C2,z8,decide_eq_true_eq] at h
  simpa using h.1.1
 | p::r,i+1,h,hi=>by
  simp only[C2,z8] at h
  simpa using Ns (l:=r) (i:=i) h.2 (by simpa using hi)
theorem Ow:∀{l:List (Int×Int)} {i:Nat} {z:Int},C2 l=true->i<l.length->De eqI (l.getD i (0,0)).1 z l=(l.getD i (0,0)).2
 | [],_,_,_,h=>by simp at h
 | p::r,0,z,_,_=>by simp[De,eqI]
 | p::r,i+1,z,h,hi=>by
  simp only[C2,z8,zJ] at h
  have hi':i<r.length:=by simpa using hi
  have hne:eqI (r.getD i (0,0)).1 p.1=false:=by
   have:=h.1.2
   rw[yV] at this
   have hm:r.getD i (0,0)∈r:=by simp[List.getD_eq_getElem?_getD,hi']
   have:=this _ hm
   simpa[eqI] using this
  have:=Ow (l:=r) (i:=i) (z:=z) h.2 hi'
  obtain⟨a,y⟩:=p
  simp only[yM,De]
  rw[hne]
  exact this
theorem Rw:∀{l:List (Int×Int)} {i j:Nat},C2 l=true->i<j->j<l.length->(l.getD i (0,0)).1≠(l.getD j (0,0)).1
 | [],_,_,_,_,h=>by simp at h
 | p::r,0,j+1,h,_,hj=>by
  simp only[C2,z8,zJ] at h
  have:=h.1.2
  rw[yV] at this
  have hj':j<r.length:=by simpa using hj
  have hm:r.getD j (0,0)∈r:=by simp[List.getD_eq_getElem?_getD,hj']
  have:=this _ hm
  simp only[List.getD_cons_zero,yM]
  intro e
  exact this (by simpa using e.symm)
 | p::r,i+1,j+1,h,hij,hj=>by
  simp only[C2,z8] at h
  have:=Rw (l:=r) (i:=i) (j:=j) h.2 (by omega) (by simpa using hj)
  simpa using this
theorem Best.step{l:List (Int×Int)}(hk:C2 l=true){S:Nat->Prop}{b:Int}(h:Best l S b){i:Nat}(hi:i<l.length)(hS:¬S i):
  Best l (λ j=>S j\/j=i) (bif decide (b<0)||(decide ((l.getD i (0,0)).2>De eqI b 0 l)||(decide ((l.getD i (0,0)).2=De eqI b 0 l)&&decide ((l.getD i (0,0)).1<b))) then(l.getD i (0,0)).1 else b):=by
 rcases h with⟨h1,h2⟩|⟨i0,h1,h2,h3,h4⟩
 ·subst h1
  right
  refine⟨i,hi,.inr rfl,by simp,λ j hj hs hne=> ?_⟩
  rcases hs with hs|hs
  ·exact(h2 j hj hs).elim
  ·exact(hne hs).elim
 ·have hb0:¬b<0:=by have:=Ns hk h1;omega
  have hget:=Ow (z:=0) hk h1
  rw[<-h3] at hget
  rw[hget,decide_eq_false hb0,xG]
  have hne:i≠i0:=λ e=>hS (e▸h2)
  by_cases hc:Nz (l.getD i (0,0)) (l.getD i0 (0,0))
  ·have:(decide ((l.getD i (0,0)).2>(l.getD i0 (0,0)).2)||(decide ((l.getD i (0,0)).2=(l.getD i0 (0,0)).2)&&decide ((l.getD i (0,0)).1<b)))=true:=by
    rw[h3]
    unfold Nz at hc
    simp only[zC,z8,decide_eq_true_eq]
    exact hc
   rw[this]
   refine .inr ⟨i,hi,.inr rfl,rfl,λ j hj hs hn=> ?_⟩
   rcases hs with hs|hs
   ·by_cases e:j=i0
    ·subst e;exact hc
    ·have:=h4 j hj hs e
     unfold Nz at hc this⊢
     omega
   ·exact(hn hs).elim
  ·have hf:(decide ((l.getD i (0,0)).2>(l.getD i0 (0,0)).2)||(decide ((l.getD i (0,0)).2=(l.getD i0 (0,0)).2)&&decide ((l.getD i (0,0)).1<b)))=false:=by
    rw[<-zG,h3]
    unfold Nz at hc
    simp only[zC,z8,decide_eq_true_eq]
    exact hc
   rw[hf]
   refine .inr ⟨i0,h1,.inl h2,h3,λ j hj hs hn=> ?_⟩
   rcases hs with hs|hs
   ·exact h4 j hj hs hn
   ·subst hs
    have hkne:(l.getD j (0,0)).1≠(l.getD i0 (0,0)).1:=by
     rcases Nat.lt_or_gt_of_ne hne with h|h
     ·exact Rw hk h h1
     ·exact λ e=>Rw hk h hj e.symm
    unfold Nz at hc⊢
    omega
theorem Vl{b z:Int}(hb:b<0):∀{l:List (Int×Int)},C2 l=true->De eqI b z l=z
 | [],_=>rfl
 | p::r,h=>by
  simp only[C2,z8,decide_eq_true_eq] at h
  obtain⟨a,y⟩:=p
  simp only[De]
  rw[show eqI b a=false by
   simp only[eqI,beq_eq_false_iff_ne]
   have:=h.1.1
   simp only at this
   omega]
  exact Vl hb h.2
theorem Aei{l:List (Int×Int)}(hk:C2 l=true):Best l (λ _=>True) (Sk l):=by
 have key:∀i,i<=l.length->Best l (λ j=>j<i) ((l.take i).foldl Cd (-1,0)).1/\((l.take i).foldl Cd (-1,0)).2=De eqI ((l.take i).foldl Cd (-1,0)).1 0 l:=by
  intro i
  induction i with
  | zero=>
   intro _
   exact⟨.inl ⟨rfl,λ j _ h=>by omega⟩,(Vl (by simp) hk).symm⟩
  | succ i ih=>
   intro hi
   obtain⟨h1,h2⟩:=ih (by omega)
   rw[List.take_succ_eq_append_getElem (by omega),List.foldl_append,yX,List.foldl_nil]
   generalize(l.take i).foldl Cd (-1,0)=st at h1 h2
   obtain⟨b,c⟩:=st
   simp only at h1 h2
   have hs:=h1.step hk (i:=i) (by omega) (by omega)
   rw[<-h2] at hs
   have hget:l.getD i (0,0)=l[i]:=by simp[List.getD_eq_getElem?_getD,show i<l.length by omega]
   have hkg:=Ow (z:=0) hk (show i<l.length by omega)
   rw[hget] at hs hkg
   have hS:(λ j=>j<i\/j=i)=λ j=>j<i+1:=by
    funext j
    exact propext ⟨λ h=>by omega,λ h=>by omega⟩
   rw[hS] at hs
   unfold Cd
   simp only
   cases hc:(decide (b<0)||(decide (l[i].2>c)||(decide (l[i].2=c)&&decide (l[i].1<b))))<;>rw[hc] at hs<;>simp only[cond_true,cond_false] at hs⊢
   ·exact⟨hs,h2⟩
   ·exact⟨hs,hkg.symm⟩
 have:=(key l.length (zE _)).1
 rw[List.take_length] at this
 unfold Sk
 rcases this with⟨h1,h2⟩|⟨i,h1,h2,h3,h4⟩
 ·exact .inl ⟨h1,λ j hj _=>h2 j hj hj⟩
 ·exact .inr ⟨i,h1,trivial,h3,λ j hj _ hn=>h4 j hj hj hn⟩
end Go.Ev
namespace Go.Ev
variable{R:Type}{E:Env}{X:Cx}{P:Program}
theorem Hc{α:Type}(d x:α)(i:Nat)(l:List (Nat×α)):getD d i (put i x l)=x:=by rw[Fs,if_pos rfl]
theorem Inv.op{m N:Nat}{X0:Cx}{a:Act}(hI:Inv m N X0 E X a){nb:Nat}(hnb:X.s.nx<=nb){o:Oper}(hd:∀d,o.dst=some d->d<N)(hk:∀d,o.dst=some d->E.kv d=none){v:AV}{u:Upd}{val:Value}{X':Cx}(hG:Good E X nb v u val X'):
  Inv m N X0 E (Ik X' {tm:=Wp o.dst v X.s.tm,st:=A6 u X.s.st,nx:=nb+16}) (a.put o.dst val):=by
 have hst:∀b,look b ({tm:=Wp o.dst v X.s.tm,st:=A6 u X.s.st,nx:=nb+16}:St).st=look b X'.s.st:=λ b=>by rw[hG.st]
 have hx':Ext X' (Ik X' {tm:=Wp o.dst v X.s.tm,st:=A6 u X.s.st,nx:=nb+16}):=Ext.seq rfl rfl rfl hst
 refine⟨hG.rel.seq rfl rfl rfl hst (Cg _ hI.rel.uq), ?_, ?_,hG.S.trans hI.S, ?_,by rw[O7];exact(show Jx E X' a.defers from hI.defers.ext hG.ext),by rw[V3];exact hI.size,V2 (λ d h=>by rw[hI.size];exact hd d h) hk hI.keep⟩
 ·refine Wa (out:=some (v,u,[])) hI.tr (hG.ext.trans hx') (hG.val.ext hx') (λ d h=>by rw[hI.size];exact hd d h) λ t=>rfl
 ·intro b hb
  have hb':nb+16<=b:=hb
  cases hc:X'.cm b with
  | none=>exact hc
  | some cb=>
   rcases hG.fresh b (by rw[hc];simp) with h|⟨_,h⟩
   ·exact(h (hI.top b (by omega))).elim
   ·omega
 ·intro b cb hb hc
  obtain⟨cb',k1,k2⟩:=hI.cmx b cb hb hc
  obtain⟨cb2,k3,k4⟩:=hG.ext.cmx b cb' k1
  exact⟨cb2,k3,CB.same_trans k2 k4⟩
def op0(c:Code):Oper:=match c with|.seq (.region _ ops _) _=>ops[0]!|_=>default
def op1(c:Code):Oper:=match c with|.seq (.region _ ops _) _=>ops[1]!|_=>default
def Anc(c:Code):Code:=match c with|.seq _ (.seq _ r)=>r|c=>c
def Acu(s:St)(d0 d1:Nat):St:={tm:=put d1 (.bool false) (put d0 (.tup [.bool false]) s.tm),st:=s.st,nx:=s.nx+32}
def Aco(s:St)(d0 d1 b m n:Nat)(K V:Ki)(l:List (K.den×V.den))(ord:List Nat)(i:Nat):St:=
 {tm:=put d1 (.bool true) (put d0 (.tup [.bool true,ofD K (l.getD i (K.zero,V.zero)).1,ofD V (l.getD i (K.zero,V.zero)).2]) s.tm),st:=put b (.iter m n (ord.erase i) (i+1)) s.st,nx:=s.nx+32}
theorem S4{m N:Nat}{X0:Cx}{a:Act}(hI:Inv m N X0 E X a){on ox:Oper}{d0 d1:Nat}{x:Operand}(hn:on.op=.next x false)(hnd:on.dst=some d0)(hng:on.guard=none)
  (hx:ox.op=.extract (.tmp d0) 0) (hxd:ox.dst=some d1) (hxg:ox.guard=none) (h0:d0<N) (h1:d1<N) (v0:E.kv d0=none) (v1:E.kv d1=none)
  {b mm n last:Nat} {ord:List Nat} (hev:ev X.s x=.pb b 0 []) (hl:look b X.s.st=some (.iter mm n ord last)) {K V:Ki} {l:List (K.den×V.den)} (hlm:look mm X.s.st=some (.map K V l)) (hnl:n=l.length)
  {id:Nat} {Q:Exit->Act->World->Prop} (hQ:¬LetsOut Q)
  (q0:ord=[]->∀X' a',X'.s=Acu X.s d0 d1->Inv m N X0 E X' a'->Q .normal a' X'.w)
  (q1:∀i∈ord,∀X' a',X'.s=Aco X.s d0 d1 b mm n K V l ord i->Inv m N X0 E X' a'->Q .normal a' X'.w):(Code.region id #[on,ox] false).wr E.rnd P Q a X.w:=by
 have hk0:∀d,on.dst=some d->E.kv d=none:=by rw[hnd];intro d h;cases h;exact v0
 have hk1:∀d,ox.dst=some d->E.kv d=none:=by rw[hxd];intro d h;cases h;exact v1
 have hd0:∀d,on.dst=some d->d<N:=by rw[hnd];intro d h;cases h;exact h0
 have hd1:∀d,ox.dst=some d->d<N:=by rw[hxd];intro d h;cases h;exact h1
 refine Sd ?_ hQ ?_
 ·intro o ho
  simp only[zM,List.not_mem_nil,or_false] at ho
  rcases ho with rfl|rfl
  ·simp[Gn,hn]
  ·simp[Gn,hx]
 have hr:yF (#[on,ox]:Array Oper).size=[0,1]:=rfl
 rw[hr,wpOps_cons]
 unfold wpOp
 simp only[List.getElem?_toArray,List.getElem?_cons_zero,Region.wanted,hng,if_true]
 left
 have second:∀(X1:Cx) (a1:Act) (vs:List AV) (v:AV),Inv m N X0 E X1 a1->ev X1.s (.tmp d0)=.tup vs->vs[0]?=some v->(∀X' a',X'.s={tm:=put d1 v X1.s.tm,st:=X1.s.st,nx:=X1.s.nx+16}->Inv m N X0 E X' a'->Q .normal a' X'.w)->wpOps P #[on,ox] Q [1] a1 X1.w:=by
  intro X1 a1 vs v hI1 he hv hq
  rw[wpOps_cons]
  unfold wpOp
  simp only[List.getElem?_toArray,List.getElem?_cons_succ,List.getElem?_cons_zero,Region.wanted,hxg,if_true]
  left
  have hmem:D3 (R:=AV) (λ _=>false) X1.s ox.op (λ v _=>some v)=some v:=by
   simp only[hx,D3,he,hv]
  have hgo:Wk P X1.s ox X1.s.nx v []:=by
   have:Au (R:=AV) {ty:=[],wr:=[]} X1.s ox X1.s.nx (λ v _ _=>some v)=some v:=by
    simp only[Au,hx,D3,he,hv]
   have hC:Bk P {ty:=[],wr:=[]}=true:=rfl
   obtain⟨v',u,rd,k1,k2,_⟩:=(Qj hC this).out
   have e2:=(Qj hC this).out
   have:Au (R:=AV×Upd) {ty:=[],wr:=[]} X1.s ox X1.s.nx (λ v u _=>some (v,u))=some (v,[]):=by
    simp only[Au,hx,D3,he,hv]
   obtain⟨v',u,rd,k1,k2,_⟩:=(Qj hC this).out
   cases k1
   exact k2
  refine hgo E X1 a1 rfl hI1.rel hI1.tr (λ b hb _=>hI1.top b hb) _ _ λ val X' hG=> ?_
  have hI2:=hI1.op (zE _) hd1 hk1 hG
  simp only[wpOps]
  have hf:=hq _ _ (by simp only[Ik,hxd,Wp,A6]) hI2
  exact hf
 refine Arm (nb:=X.s.nx) hI.rel hI.tr hn hev hl hlm hnl ?_ ?_
 ·intro ho
  have hG:Good E X X.s.nx (.tup [.bool false]) [] (.tuple #[.bool false]) X:=⟨hI.rel,Ext.refl X,.refl _,rfl,λ b h=>.inl h,.tup (.cons (.bool _) .nil)⟩
  have hI1:=hI.op (zE _) hd0 hk0 hG
  have hh:=λ h1 h2=>second _ _ [.bool false] (.bool false) hI1 h1 rfl h2
  refine hh ?_ ?_
  ·simp only[Ik,ev,hnd,Wp]
   exact Hc ..
  ·intro X' a' hs' hI'
   refine q0 ho X' a' ?_ hI'
   rw[hs']
   simp only[Ik,hnd,Wp,A6,Acu]
 ·intro i hi val X1 hG
  have hI1:=hI.op (zE _) hd0 hk0 hG
  have hh:=λ h1 h2=>second _ _ [.bool true,ofD K (l.getD i (K.zero,V.zero)).1,ofD V (l.getD i (K.zero,V.zero)).2] (.bool true) hI1 h1 rfl h2
  refine hh ?_ ?_
  ·simp only[Ik,ev,hnd,Wp]
   exact Hc ..
  ·intro X' a' hs' hI'
   refine q1 i hi X' a' ?_ hI'
   rw[hs']
   simp only[Ik,hnd,Wp,A6,Aco]
theorem Ae3{c:Cfg}(hC:Bk P c=true)(hm:P.follows .mixedOrders=true){C:Orc St}(hO:F9 P C){m N:Nat}{B:Nat->Code}{L:Kc St}(hL:Ew P m N B L){h:A1}{bk:Nat}{body rest:Code}{id ie d0 d1:Nat}{on ox:Oper}
    (hbody:body=.seq (.region id #[on,ox] false) (.seq (.cond (.tmp d1) .skip (.exit ie)) rest)) {x:Operand} (hn:on.op=.next x false) (hnd:on.dst=some d0) (hng:on.guard=none)
    (hx:ox.op=.extract (.tmp d0) 0) (hxd:ox.dst=some d1) (hxg:ox.guard=none) (h0:d0<N) (h1:d1<N)
    {i o:List Nat} (hw:wfC N rest=true) (hB:∀z∈Av bk rest,z.2=B z.1) {sF:St} (J:Nat->St->Prop)
    (hJ:∀k s,J k s->uniq s.st/\∃b mm n last ord K V,∃l:List (Ki.den K×Ki.den V),ev s x=.pb b 0 []/\look b s.st=some (.iter mm n ord last)/\look mm s.st=some (.map K V l)/\n=l.length/\k=ord.length/\
      (ord=[]->Qm m h.fz o (Acu s d0 d1)=some sF)/\
      ∀j∈ord,∃s',J (k-1) s'/\Fj c C L m h bk rest (Aco s d0 d1 b mm n K V l ord j) (λ e s2=>match e with|.normal=>Qm m h.fz i s2|_=>none)=some s'):
    ∀k s,J k s->Ng P m N body s (.exit ie) sF:=by
  intro k
  induction k with
  | zero=>
    intro s hs X0 E X a hX hft hI
    have w0:E.kv d0=none:=hft.kv d0 (by rw[hbody];simp[Ef,hnd])
    have w1:E.kv d1=none:=hft.kv d1 (by rw[hbody];simp[Ef,hxd])
    have hft3:Gg E rest:=by rw[hbody] at hft;exact hft.seq2.seq2
    obtain⟨hu,b,mm,n,last,ord,K,V,l,h2,h3,h4,h5,h6,h7,_⟩:=hJ _ _ hs
    have ho:ord=[]:=List.eq_nil_of_length_eq_zero h6.symm
    subst hX
    refine Ha.round ?_
    rw[hbody]
    refine Ju (S4 hI hn hnd hng hx hxd hxg h0 h1 w0 w1 h2 h3 h4 h5 (λ h=>Iq h) ?_ ?_)
    · intro _ X' a' hs' hI'
      refine Ju (Nx ?_ (Ahx ?_))
      · have:=Bh hI'.tr (.tmp d1)
        rw[hs'] at this
        simp only[Acu,ev,Hc] at this
        generalize a'.eval (.tmp d1)=u at this
        cases this
        rfl
      · have hn':=h7 ho
        rw[<-hs'] at hn'
        obtain⟨X2,k1,k2,k3⟩:=Kk hI' hn'
        exact⟨rfl,X2,k1,k2,k3⟩
    · intro j hj
      rw[ho] at hj
      cases hj
  | succ k ih=>
    intro s hs X0 E X a hX hft hI
    have w0:E.kv d0=none:=hft.kv d0 (by rw[hbody];simp[Ef,hnd])
    have w1:E.kv d1=none:=hft.kv d1 (by rw[hbody];simp[Ef,hxd])
    have hft3:Gg E rest:=by rw[hbody] at hft;exact hft.seq2.seq2
    obtain⟨hu,b,mm,n,last,ord,K,V,l,h2,h3,h4,h5,h6,h7,h8⟩:=hJ _ _ hs
    subst hX
    refine Ha.round ?_
    rw[hbody]
    refine Ju (S4 hI hn hnd hng hx hxd hxg h0 h1 w0 w1 h2 h3 h4 h5 (λ h=>Iq h) ?_ ?_)
    · intro ho
      rw[ho] at h6
      simp at h6
    · intro j hj X' a' hs' hI'
      refine Ju (Q5 ?_ (Ahy ?_))
      · have:=Bh hI'.tr (.tmp d1)
        rw[hs'] at this
        simp only[Aco,ev,Hc] at this
        generalize a'.eval (.tmp d1)=u at this
        cases this
        rfl
      · obtain⟨s',g1,g2⟩:=h8 j hj
        rw[<-hs'] at g2
        obtain⟨e,s1,k1,hu1,k2⟩:=E3 hC hm hO hL hI'.rel.uq hw hB g2
        refine D0 (k2 X0 E X' a' rfl hft3 hI') ?_
        rintro e' a2 w2 ⟨rfl,X2,hs2,rfl,hI2⟩
        cases e with
        | normal=>
          simp only at k1
          rw[<-hs2] at k1
          obtain⟨X3,j1,j2,j3⟩:=Kk hI2 k1
          have:=ih s' (by simpa using g1) X0 E X3 a2 j1 hft j3
          rw[j2,hbody] at this
          exact this
        | exit id=>cases k1
        | ret=>cases k1
        | pan=>cases k1
end Go.Ev
