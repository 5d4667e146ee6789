/- An abstract evaluator of Go code over plain data, and the proof that what it says of a function comes to pass. Part 4. -/
import Derived.Test.YtfeppeacchjbeaaEc
import Derived.RangeFuncRecord
import Derived.ChangeArms
import Derived.ChangeShapes
import Derived.WideShapes
import Derived.OpenShut
import Derived.ShutString
import Derived.ChangeOld
import Derived.Carry
open Bool renaming and_eq_true->z9,or_eq_true->zD,not_eq_true->zK,not_eq_true'->zN,eq_iff_iff->zO,or_false->yK,and_false->xC,and_true->xG
open Nat renaming zero_add->zA,blt_eq->zC,le_refl->zE,beq->zG,eq_of_beq_eq_true->zH,testBit->zI,lt_of_lt_of_le->zM,lt_trichotomy->zR,blt->zS,add_zero->zT,zero_le->yA,le_trans->yD,strongRecOn->yH,lt_or_ge->yR,add_comm->yS,succ_mul->yU,ble_eq->yZ,testBit_or->xA,add_assoc->xF,sub_zero->xI,zero_mul->xJ
open Option.some renaming injEq->zB
open Prod.mk renaming injEq->zF
open List renaming mem_append->zJ,mem_cons->zL,all_eq_true->zP,mem_cons_self->zU,mem_filter->zV,cons_append->zW,mem_singleton->zY,eq_nil_iff_forall_not_mem->yB,range_eq_range'->yC,append_cancel_right->yF,toArray->yG,range'->yJ,map_cons->yL,range->yM,mem_filterMap->yN,zip_cons_cons->yP,map_inj_right->yQ,mem_map->yT,nil_append->yX,nodup_cons->yY,mem_range->xB,mapM_cons->xD,drop_drop->xE,take_add->xH
open Array renaming replicate->zQ,length_toList->zX,toList_setIfInBounds->yE,toList_replicate->yI,all_eq_true'->yO
open Option renaming bind_some->zZ,getD_some->yV,map_some->yW
set_option linter.unusedVariables false
set_option linter.unusedSimpArgs false
namespace Go.Ev
abbrev Bx:=Option (AV×Upd×List Nat)
def Avu(d:Option Nat)(v:AV)(tm:List (Nat×AV)):List (Nat×AV):=
 match d with
 | some d=>put d v tm
 | none=>tm
def Bx.val:Bx->AV
 | none=>.tup []
 | some (v,_,_)=>v
def Bx.upd:Bx->Upd
 | none=>[]
 | some (_,u,_)=>u
def effS(o:Oper)(out:Bx)(s:St):St:={s with tm:=Avu o.dst out.val s.tm,st:=A9 out.upd s.st}
def sig:List Oper->List Bx->(Nat->Bool)->Nat->St->St
 | o::l,out::outs,D,i,s=>sig l outs D (i+1) (if D i then effS o out s else s)
 | _,_,_,_,s=>s
structure SEq(s s':St):Prop where
 tm:∀t,getD .un t s'.tm=getD .un t s.tm
 st:∀b,look b s'.st=look b s.st
 nx:s'.nx=s.nx
 uq:Bt s'.st
theorem H1(o:Oper)(out:Bx)(s:St)(t:Nat):getD .un t (effS o out s).tm=if o.dst=some t then out.val else getD .un t s.tm:=by
 simp only[effS,Avu]
 cases o.dst with
 | none=>simp
 | some d=>
  simp only[Hi,zB]
  by_cases h:t=d
  ·subst h;simp
  ·simp[h,Ne.symm h]
theorem Fs(o:Oper)(out:Bx)(s:St)(hs:Bt s.st)(b:Nat):look b (effS o out s).st=match Dc out.upd b with|some x=>x|none=>look b s.st:=B3 _ _ hs
theorem Dz(o:Oper)(out:Bx)(s:St)(hs:Bt s.st):Bt (effS o out s).st:=Cn _ hs
theorem Gr:∀(l:List Oper) (outs:List Bx) (D:Nat->Bool) (i:Nat) (s:St),Bt s.st->Bt (sig l outs D i s).st
 | [],_,_,_,_,h=>by simpa[sig] using h
 | _::_,[],_,_,_,h=>by simpa[sig] using h
 | o::l,out::outs,D,i,s,h=>by
  simp only[sig]
  apply Gr
  split
  ·exact Dz _ _ _ h
  ·exact h
theorem J6:∀(l:List Oper) (outs:List Bx) (D:Nat->Bool) (i:Nat) (s:St),(sig l outs D i s).nx=s.nx
 | [],_,_,_,_=>by simp[sig]
 | _::_,[],_,_,_=>by simp[sig]
 | o::l,out::outs,D,i,s=>by
  simp only[sig]
  rw[J6]
  split<;>rfl
def wT(l:List Oper)(t k:Nat):Prop:=∃o,l[k]?=some o/\o.dst=some t
def wB(outs:List Bx)(b k:Nat):Prop:=∃out,outs[k]?=some out/\b∈Bm out.upd
theorem Lr(t:Nat):∀(l:List Oper) (outs:List Bx) (D D':Nat->Bool) (i:Nat) (s s':St),(∀k,wT l t k->D (i+k)=D' (i+k))->getD .un t s.tm=getD .un t s'.tm->
  getD .un t (sig l outs D i s).tm=getD .un t (sig l outs D' i s').tm
 | [],_,_,_,_,_,_,_,h=>by simpa[sig] using h
 | _::_,[],_,_,_,_,_,_,h=>by simpa[sig] using h
 | o::l,out::outs,D,D',i,s,s',hD,h=>by
  simp only[sig]
  refine Lr t l outs D D' (i+1) _ _ (λ k hk=> ?_) ?_
  ·obtain⟨o',h1,h2⟩:=hk
   have:=hD (k+1) ⟨o',by simpa using h1,h2⟩
   rwa[show i+(k+1)=i+1+k by omega] at this
  ·by_cases hd:o.dst=some t
   ·have:=hD 0 ⟨o,rfl,hd⟩
    simp only[zT] at this
    rw[this]
    split
    ·rw[H1,H1,if_pos hd,if_pos hd]
    ·exact h
   ·have e:∀(c:Bool) (s:St),getD .un t (if c=true then effS o out s else s).tm=getD .un t s.tm:=by
     intro c s
     split
     ·rw[H1,if_neg hd]
     ·rfl
    rw[e,e];exact h
theorem Il(b:Nat):∀(l:List Oper) (outs:List Bx) (D D':Nat->Bool) (i:Nat) (s s':St),Bt s.st->Bt s'.st->(∀k,wB outs b k->D (i+k)=D' (i+k))->look b s.st=look b s'.st->
  look b (sig l outs D i s).st=look b (sig l outs D' i s').st
 | [],_,_,_,_,_,_,_,_,_,h=>by simpa[sig] using h
 | _::_,[],_,_,_,_,_,_,_,_,h=>by simpa[sig] using h
 | o::l,out::outs,D,D',i,s,s',hu,hu',hD,h=>by
  simp only[sig]
  refine Il b l outs D D' (i+1) _ _ (by split;exact Dz _ _ _ hu;exact hu) (by split;exact Dz _ _ _ hu';exact hu') (λ k hk=> ?_) ?_
  ·obtain⟨o',h1,h2⟩:=hk
   have:=hD (k+1) ⟨o',by simpa using h1,h2⟩
   rwa[show i+(k+1)=i+1+k by omega] at this
  ·by_cases hd:b∈Bm out.upd
   ·have:=hD 0 ⟨out,rfl,hd⟩
    simp only[zT] at this
    rw[this]
    split
    ·rw[Fs _ _ _ hu,Fs _ _ _ hu',h]
    ·exact h
   ·have e:∀(c:Bool) (s:St),Bt s.st->look b (if c=true then effS o out s else s).st=look b s.st:=by
     intro c s hs
     split
     ·rw[Fs _ _ _ hs,D9 hd]
     ·rfl
    rw[e _ _ hu,e _ _ hu'];exact h
def Hp(D:Nat->Bool)(i:Nat)(k:Nat):Bool:=D k||zG k i
theorem L7{D:Nat->Bool}{i k:Nat}(h:D k=true):Hp D i k=true:=by simp[Hp,h]
theorem Vi{D:Nat->Bool}{i:Nat}:Hp D i i=true:=by simp[Hp]
theorem Oo{D:Nat->Bool}{i k:Nat}(h:k≠i):Hp D i k=D k:=by simp[Hp,A7.2 h]
theorem Af6:∀(l:List Oper) (outs:List Bx) (D:Nat->Bool) (j i:Nat) (s:St) (o:Oper) (out:Bx),Bt s.st->l[i]?=some o->outs[i]?=some out->D (j+i)=false->
  (∀k t,i<k->D (j+k)=true->o.dst=some t->¬wT l t k)->(∀k b,i<k->D (j+k)=true->b∈Bm out.upd->¬wB outs b k)->
  SEq (sig l outs (Hp D (j+i)) j s) (effS o out (sig l outs D j s))
 | [],_,_,_,_,_,_,_,_,h,_,_,_,_=>by simp at h
 | _::_,[],_,_,_,_,_,_,_,_,h,_,_,_=>by simp at h
 | o0::l,out0::outs,D,j,0,s,o,out,hu,h1,h2,h3,h4,h5=>by
  simp only[List.getElem?_cons_zero,zB] at h1 h2
  subst h1 h2
  simp only[zT] at h3⊢
  simp only[sig]
  rw[if_pos Vi,if_neg (by rw[h3];simp)]
  have hk:∀k,Hp D j (j+1+k)=D (j+1+k):=λ k=>Oo (by omega)
  refine⟨λ t=> ?_,λ b=> ?_, ?_,Dz _ _ _ (Gr _ _ _ _ _ hu)⟩
  ·rw[H1]
   by_cases hd:o0.dst=some t
   ·rw[if_pos hd]
    have:getD .un t (sig l outs (Hp D j) (j+1) (effS o0 out0 s)).tm=getD .un t (sig l outs (λ _=>false) (j+1) (effS o0 out0 s)).tm:=by
     refine Lr t _ _ _ _ _ _ _ (λ k hw=> ?_) rfl
     rw[hk]
     cases e:D (j+1+k)
     ·rfl
     ·exact(h4 (k+1) t (by omega) (by rw[show j+(k+1)=j+1+k by omega];exact e) hd (by obtain⟨o',p,q⟩:=hw;exact⟨o',by simpa using p,q⟩)).elim
    rw[this]
    have hno:∀(l:List Oper) (outs:List Bx) (i:Nat) (s:St),sig l outs (λ _=>false) i s=s:=by
     intro l
     induction l with
     | nil=>intro outs i s;simp[sig]
     | cons a l ih=>
      intro outs i s
      cases outs with
      | nil=>simp[sig]
      | cons c outs=>simp[sig,ih]
    rw[hno,H1,if_pos hd]
   ·rw[if_neg hd]
    exact Lr t _ _ _ _ _ _ _ (λ k _=>(hk k).symm) (by rw[H1,if_neg hd])
  ·rw[Fs _ _ _ (Gr _ _ _ _ _ hu)]
   by_cases hd:b∈Bm out0.upd
   ·have hno:∀(l:List Oper) (outs:List Bx) (i:Nat) (s:St),sig l outs (λ _=>false) i s=s:=by
     intro l
     induction l with
     | nil=>intro outs i s;simp[sig]
     | cons a l ih=>
      intro outs i s
      cases outs with
      | nil=>simp[sig]
      | cons c outs=>simp[sig,ih]
    have hz:∀k,wB outs b k->D (j+1+k)=false:=λ k hw=>by
     cases e:D (j+1+k)
     ·rfl
     ·exact(h5 (k+1) b (by omega) (by rw[show j+(k+1)=j+1+k by omega];exact e) hd (by obtain⟨o',p,q⟩:=hw;exact⟨o',by simpa using p,q⟩)).elim
    have e1:look b (sig l outs (Hp D j) (j+1) (effS o0 out0 s)).st=look b (effS o0 out0 s).st:=by
     rw[Il b l outs _ (λ _=>false) (j+1) _ (effS o0 out0 s) (Dz _ _ _ hu) (Dz _ _ _ hu) (λ k hw=>by rw[hk];exact hz k hw) rfl,hno]
    have e2:look b (sig l outs D (j+1) s).st=look b s.st:=by
     rw[Il b l outs _ (λ _=>false) (j+1) _ s hu hu (λ k hw=>hz k hw) rfl,hno]
    rw[e1,e2,Fs _ _ _ hu]
   ·rw[D9 hd]
    exact Il b _ _ _ _ _ _ _ hu (Dz _ _ _ hu) (λ k _=>(hk k).symm) (by rw[Fs _ _ _ hu,D9 hd])
  ·rw[J6];simp only[effS];rw[J6]
 | o0::l,out0::outs,D,j,i+1,s,o,out,hu,h1,h2,h3,h4,h5=>by
  simp only[List.getElem?_cons_succ] at h1 h2
  simp only[sig]
  have e:Hp D (j+(i+1)) j=D j:=Oo (by omega)
  rw[e]
  have:=Af6 l outs D (j+1) i (if D j=true then effS o0 out0 s else s) o out (by split;exact Dz _ _ _ hu;exact hu) h1 h2 (by rw[show j+1+i=j+(i+1) by omega];exact h3)
   (λ k t hk hD hd hw=>h4 (k+1) t (by omega) (by rw[show j+(k+1)=j+1+k by omega];exact hD) hd (by obtain⟨o',p,q⟩:=hw;exact⟨o',by simpa using p,q⟩))
   (λ k b hk hD hd hw=>h5 (k+1) b (by omega) (by rw[show j+(k+1)=j+1+k by omega];exact hD) hd (by obtain⟨o',p,q⟩:=hw;exact⟨o',by simpa using p,q⟩))
  rw[show j+1+i=j+(i+1) by omega] at this
  exact this
end Go.Ev
namespace Go.Ev
variable{R:Type}{E:Env}{X:Cx}{P:Program}
theorem SEq.refl{s:St}(h:Bt s.st):SEq s s:=⟨λ _=>rfl,λ _=>rfl,rfl,h⟩
theorem SEq.trans{s s' s'':St}(h:SEq s s')(k:SEq s' s''):SEq s s'':=⟨λ t=>(k.tm t).trans (h.tm t),λ b=>(k.st b).trans (h.st b),k.nx.trans h.nx,k.uq⟩
theorem SEq.symm{s s':St}(h:SEq s s')(hs:Bt s.st):SEq s' s:=⟨λ t=>(h.tm t).symm,λ b=>(h.st b).symm,h.nx.symm,hs⟩
theorem SEq.ev{s s':St}(h:SEq s s')(x:Operand):ev s' x=ev s x:=by
 cases x with
 | tmp t=>exact h.tm t
 | _=>rfl
theorem SEq.effS{s s':St}(h:SEq s s')(hs:Bt s.st)(o:Oper)(out:Bx):SEq (effS o out s) (effS o out s'):=
 ⟨λ t=>by rw[H1,H1,h.tm],λ b=>by rw[Fs _ _ _ hs,Fs _ _ _ h.uq,h.st],h.nx,Dz _ _ _ h.uq⟩
theorem SEq.sig{s s':St}(h:SEq s s')(hs:Bt s.st)(l:List Oper)(outs:List Bx)(D:Nat->Bool)(i:Nat):SEq (sig l outs D i s) (sig l outs D i s'):=
 ⟨λ t=>Lr t _ _ _ _ _ _ _ (λ _ _=>rfl) (h.tm t),λ b=>Il b _ _ _ _ _ _ _ h.uq hs (λ _ _=>rfl) (h.st b),by rw[J6,J6];exact h.nx,Gr _ _ _ _ _ h.uq⟩
theorem Mo:∀(l:List Oper) (outs:List Bx) (D:Nat->Bool) (i:Nat) (s:St),sig l outs D (i+1) s=sig l outs (λ k=>D (k+1)) i s
 | [],_,_,_,_=>by simp[sig]
 | _::_,[],_,_,_=>by simp[sig]
 | o::l,out::outs,D,i,s=>by simp only[sig];exact Mo l outs D (i+1) _
theorem Pv:∀(l:List Oper) (outs:List Bx) (i:Nat) (s:St),sig l outs (λ _=>false) i s=s
 | [],_,_,_=>by simp[sig]
 | _::_,[],_,_=>by simp[sig]
 | o::l,out::outs,i,s=>by simp only[sig];exact Pv l outs (i+1) s
def Aia(s:St)(u:Upd)(rd:List Nat):Prop:=∀b o,b<4294967296->G1 (Fj b o)∈rd->slAt o (look b (A9 u s.st))=slAt o (look b s.st)
def Oe(P:Program)(all:List Oper)(nb i:Nat)(o:Oper)(s:St):Bx->Prop
 | none=>∃j want d,o.guard=some (j,want)/\(all[j]?).bind (·.dst)=some d/\(getD .un d s.tm=.bool (!want)\/getD .un d s.tm=.tup [])
 | some (v,u,rd)=>(∀j want,o.guard=some (j,want)->∃d,(all[j]?).bind (·.dst)=some d/\getD .un d s.tm=.bool want)/\(∀s',Mt s s' o u rd->Xb P s' o (nb+16*i) v u)
def Xc(s:St):Bx->Prop
 | none=>True
 | some (_,u,rd)=>Aia s u rd
theorem Oe.seq{all:List Oper}{nb i:Nat}{o:Oper}{s s':St}{out:Bx}(h:SEq s s')(hf:Oe P all nb i o s out):Oe P all nb i o s' out:=by
 cases out with
 | none=>
  obtain⟨j,want,d,h1,h2,h3⟩:=hf
  exact⟨j,want,d,h1,h2,by rw[h.tm];exact h3⟩
 | some x=>
  obtain⟨v,u,rd⟩:=x
  obtain⟨h1,h2⟩:=hf
  refine⟨λ j want hg=> ?_,λ s'' ha=>h2 s'' ⟨λ x hx=>(ha.ev x hx).trans (h.ev x),λ c hc b o' e=>(ha.pt c hc b o' e).trans (by rw[h.st]),λ b hb=>(ha.rd b hb).trans (h.st b),λ b hb=>(ha.wr b hb).trans (h.st b)⟩⟩
  obtain⟨d,k1,k2⟩:=h1 j want hg
  exact⟨d,k1,by rw[h.tm];exact k2⟩
theorem Xc.seq{s s':St}{out:Bx}(h:SEq s s')(hs:Bt s.st)(hk:Xc s out):Xc s' out:=by
 cases out with
 | none=>trivial
 | some x=>
  obtain⟨v,u,rd⟩:=x
  intro b o hb hm
  have:=hk b o hb hm
  rw[B3 u b hs] at this
  rw[B3 u b h.uq,h.st]
  exact this
theorem Mg{s:St}{b:Nat}{ps:List AV}{c:Nat}:∀{l:List (Nat×Nat)},c∈T6 s b ps l->∃o k,c=G1 (Fj b o)/\slAt o (look b s.st)=some k/\look o (F2 0 ps)=some k
 | [],h=>by simp[T6] at h
 | (o,_)::r,h=>by
  simp only[T6] at h
  split at h
  ·rename_i k k' h1 h2
   cases e:zG k k'<;>rw[e] at h
   ·exact Mg h
   ·have:=zH e
    subst this
    rcases List.mem_cons.1 h with rfl|h
    ·exact⟨o,k,rfl,h1,h2⟩
    ·exact Mg h
  ·exact Mg h
theorem Aas{s:St}{b o:Nat}(hb:b<4294967296):∀{u:Upd},G1 (Fj b o)∈Hk s u->∃ro v ps,Dc u b=some (some (.cell ro v ps))/\look o (F2 0 ps)=slAt o (look b s.st)
 | [],h=>by simp[Hk] at h
 | (b',x)::r,h=>by
  have rest:G1 (Fj b o)∈Hk s r->∃ro v ps,Dc ((b',x)::r) b=some (some (.cell ro v ps))/\look o (F2 0 ps)=slAt o (look b s.st):=by
   intro h
   obtain⟨ro,v,ps,h1,h2⟩:=Aas hb h
   exact⟨ro,v,ps,by simp only[Dc,h1],h2⟩
  cases x with
  | none=>exact rest (by simpa[Hk] using h)
  | some x=>
   cases x with
   | cell ro v ps=>
    simp only[Hk,zJ] at h
    rcases h with h|h
    ·cases e:zS b' 4294967296&& !(Gd b' (Bm r))<;>rw[e] at h
     ·simp at h
     ·simp only[z9,zN,zC] at e
      obtain⟨o',k,h1,h2,h3⟩:=Mg h
      have hbb:b=b'/\o=o':=by simp only[G1,Fj] at h1;omega
      obtain⟨rfl,rfl⟩:=hbb
      have hn:Dc r b=none:=by
       cases e2:Dc r b with
       | none=>rfl
       | some y=>exact absurd (Gn.2 (S7 r b (by rw[e2];simp))) (by rw[e.2];simp)
      exact⟨ro,v,ps,by simp[Dc,hn],by rw[h3,h2]⟩
    ·exact rest h
   | _=>exact rest (by simpa[Hk] using h)
theorem Wu:∀{l:List Nat},J7 l=true->∀c∈l,c<18446744073709551616
 | [],_,c,h=>by simp at h
 | a::r,h,c,hc=>by
  simp only[J7,z9,zC] at h
  rcases List.mem_cons.1 hc with rfl|hc
  ·exact h.1
  ·exact Wu h.2 c hc
theorem Ag6{s:St}{u:Upd}{rd:List Nat}(hs:Bt s.st)(h:J7 rd=true):Aia s u (rd++Hk s u):=by
 intro b o hb hm
 rcases List.mem_append.1 hm with hm|hm
 ·have:=Wu h _ hm
  simp only[G1] at this
  omega
 ·obtain⟨ro,v,ps,h1,h2⟩:=Aas hb hm
  rw[B3 u b hs,h1,<-h2]
  rfl
def Cr:Nat->List Bx->List Rec
 | _,[]=>[]
 | i,none::r=>Cr (i+1) r
 | i,some (_,u,rd)::r=>(i,rd,Bm u)::Cr (i+1) r
def Ax(j k:Nat):Bool:=zS k j
theorem Ha:Ax 0=λ _=>false:=by funext k;simp only[Ax];rw[<-zK,zC];omega
theorem Q9(j:Nat):(λ k=>Ax (j+1) (k+1))=Ax j:=by
 funext k
 simp only[Ax]
 rw[zO,zC,zC];omega
theorem Sq{s:St}(hs:Bt s.st){d:Nat}{v:AV}(h:getD .un d s.tm=v):SEq s {s with tm:=put d v s.tm}:=
 ⟨λ t=>by simp only[Hi];split;(subst_vars;rfl);rfl,λ _=>rfl,rfl,hs⟩
structure G7(P:Program)(all:List Oper)(nb i:Nat)(l:List Oper)(outs:List Bx)(s sf:St):Prop where
 len:outs.length=l.length
 fact:∀j o out,l[j]?=some o->outs[j]?=some out->Oe P all nb (i+j) o (sig l outs (Ax j) 0 s) out
 keep:∀(j:Nat) out,outs[j]?=some out->Xc (sig l outs (Ax j) 0 s) out
 fin:SEq (sig l outs (λ _=>true) 0 s) sf
theorem G7.cons{all:List Oper}{nb i:Nat}{o:Oper}{l:List Oper}{out:Bx}{outs:List Bx}{s s1 sf:St}(hs:Bt s.st)(hf:Oe P all nb i o s out)(hk:Xc s out)(h1:SEq s s1)(h:G7 P all nb (i+1) l outs (effS o out s1) sf):
  G7 P all nb i (o::l) (out::outs) s sf:=by
 have he:SEq (effS o out s1) (effS o out s):=(h1.symm hs).effS h1.uq _ _
 refine⟨by simp[h.len], ?_, ?_, ?_⟩
 ·intro j o' out' hj hj'
  cases j with
  | zero=>
   simp only[List.getElem?_cons_zero,zB] at hj hj'
   subst hj hj'
   rw[Ha,Pv]
   exact hf
  | succ j=>
   simp only[List.getElem?_cons_succ] at hj hj'
   have:=h.fact j o' out' hj hj'
   rw[show i+(j+1)=i+1+j by omega]
   simp only[sig]
   rw[show Ax (j+1) 0=true by simp only[Ax];rw[zC];omega,if_pos rfl,Mo,Q9]
   exact this.seq (he.sig (Dz _ _ _ h1.uq) _ _ _ _)
 ·intro j out' hj
  cases j with
  | zero=>
   simp only[List.getElem?_cons_zero,zB] at hj
   subst hj
   rw[Ha,Pv]
   exact hk
  | succ j=>
   simp only[List.getElem?_cons_succ] at hj
   have:=h.keep j out' hj
   simp only[sig]
   rw[show Ax (j+1) 0=true by simp only[Ax];rw[zC];omega,if_pos rfl,Mo,Q9]
   exact this.seq (he.sig (Dz _ _ _ h1.uq) _ _ _ _) (Gr _ _ _ _ _ (Dz _ _ _ h1.uq))
 ·simp only[sig]
  rw[Mo]
  exact((he.symm (Dz _ _ _ h1.uq)).sig (Dz _ _ _ hs) _ _ _ _).trans h.fin
def Vg(P:Program)(all:List Oper)(nb i:Nat)(o:Oper)(s:St)(t:Nat)(kk:IntKind)(n:Int)(u:Upd)(rd:List Nat):Prop:=
 (∀j want,o.guard=some (j,want)->∃d,(all[j]?).bind (·.dst)=some d/\getD .un d s.tm=.bool want)/\∀s',Mt s s' o u rd->Aql P s' o (nb+16*i) t kk n u
theorem Nt{c:Cfg}(hC:Bi P c=true){C:Orc R}(hO:Fk P C){all:List Oper}{nb:Nat}{k:St->List Rec->Option R}{kp:Nat->IntKind->Int->St->List Rec->Bool->Option R}{r:R}:∀{l:List Oper} {i:Nat} {s:St} {rec:List Rec},Bt s.st->Ui c C all nb i l s rec k kp=some r->
    (∃outs sf,k sf (rec++Cr i outs)=some r/\G7 P all nb i l outs s sf)\/
    (∃l1 o l2 outs sf t kk n u rd,l=l1++o::l2/\kp t kk n {sf with st:=A9 u sf.st} (rec++Cr i outs) l2.isEmpty=some r/\G7 P all nb i l1 outs s sf/\Vg P all nb (i+l1.length) o sf t kk n u rd)
  | [],i,s,rec,hs,h=>.inl ⟨[],s,by simpa[Cr,Ui] using h,rfl,by simp,by simp,by simp only[sig];exact .refl hs⟩
  | o::l,i,s,rec,hs,h=>by
    have go:∀{s1:St},SEq s s1->(∀j want,o.guard=some (j,want)->∃d,(all[j]?).bind (·.dst)=some d/\getD .un d s.tm=.bool want)->
        Pn c C s1 o (nb+16*i) (λ v u rd=>match v with
          | .pan t k' n=>kp t k' n {s1 with st:=A9 u s1.st} rec l.isEmpty
          | v=>bif J7 rd then Ui c C all nb (i+1) l {s1 with tm:=(match o.dst with|some d=>put d v s1.tm|none=>s1.tm),st:=A9 u s1.st} (rec++[(i,rd++Hk s1 u,Bm u)]) k kp else none)=some r->
        (∃outs sf,k sf (rec++Cr i outs)=some r/\G7 P all nb i (o::l) outs s sf)\/
        (∃l1 o' l2 outs sf t kk n u rd,o::l=l1++o'::l2/\kp t kk n {sf with st:=A9 u sf.st} (rec++Cr i outs) l2.isEmpty=some r/\G7 P all nb i l1 outs s sf/\Vg P all nb (i+l1.length) o' sf t kk n u rd):=by
      intro s1 h1 hg h
      obtain⟨v,u,rd,h2,h3⟩:=(Ahk hC hO h).out
      have agr:∀s',Mt s s' o u rd->Mt s1 s' o u rd:=λ s' ha=>⟨λ x hx=>(ha.ev x hx).trans (h1.symm hs|>.ev x),λ c hc b o' e=>(ha.pt c hc b o' e).trans (by rw[(h1.symm hs).st]),λ b hb=>(ha.rd b hb).trans (h1.symm hs|>.st b),λ b hb=>(ha.wr b hb).trans (h1.symm hs|>.st b)⟩
      by_cases hp:∃t k' n,v=.pan t k' n
      · obtain⟨t,k',n,rfl⟩:=hp
        refine .inr ⟨[],o,l,[],s1,t,k',n,u,rd,rfl,by simpa[Cr] using h2,⟨rfl,by simp,by simp,by simp only[sig];exact h1⟩,λ j want e=> ?_,λ s' ha=>h3 s' ha⟩
        obtain⟨d,q1,q2⟩:=hg j want e
        exact⟨d,q1,by rw[h1.tm];exact q2⟩
      · have hv:∀t k n,v≠.pan t k n:=λ t k n e=>hp ⟨t,k,n,e⟩
        have h2':(bif J7 rd then Ui c C all nb (i+1) l {s1 with tm:=(match o.dst with|some d=>put d v s1.tm|none=>s1.tm),st:=A9 u s1.st} (rec++[(i,rd++Hk s1 u,Bm u)]) k kp else none)=some r:=by
          cases v<;>first|exact h2|exact(hv _ _ _ rfl).elim
        have hsm:J7 rd=true:=by
          cases e:J7 rd with
          | true=>rfl
          | false=>rw[e] at h2';cases h2'
        rw[hsm] at h2'
        simp only[cond_true] at h2'
        have h3':∀s',Mt s1 s' o u rd->Xb P s' o (nb+16*i) v u:=λ s' ha=>by
          have:=h3 s' ha
          cases v<;>first|exact this|exact(hv _ _ _ rfl).elim
        have hf:Oe P all nb i o s (some (v,u,rd++Hk s1 u)):=⟨hg,λ s' ha=>h3' s' (agr s' ⟨ha.ev,λ c hc=>ha.pt c (List.mem_append.2 (.inl hc)),λ b hb=>ha.rd b (List.mem_append.2 (.inl hb)),ha.wr⟩)⟩
        have hkp:Xc s (some (v,u,rd++Hk s1 u)):=Xc.seq (out:=some (v,u,rd++Hk s1 u)) (h1.symm hs) h1.uq (Ag6 h1.uq hsm)
        rcases Nt (l:=l) hC hO (Cn u h1.uq) h2' with⟨outs,sf,k1,k2⟩|⟨l1,o',l2,outs,sf,t,kk,n,u',rd',e,k1,k2,k3⟩
        · exact .inl ⟨some (v,u,rd++Hk s1 u)::outs,sf,by simpa[Cr] using k1,G7.cons hs hf hkp h1 k2⟩
        · refine .inr ⟨o::l1,o',l2,some (v,u,rd++Hk s1 u)::outs,sf,t,kk,n,u',rd',by rw[e];rfl,by simpa[Cr] using k1,G7.cons hs hf hkp h1 k2, ?_⟩
          rw[show i+(o::l1).length=i+1+l1.length by simp;omega]
          exact k3
    have off:∀{s1:St},SEq s s1->(∃j want d,o.guard=some (j,want)/\(all[j]?).bind (·.dst)=some d/\(getD .un d s.tm=.bool (!want)\/getD .un d s.tm=.tup []))->
        Ui c C all nb (i+1) l {s1 with tm:=(match o.dst with|some d=>put d (.tup []) s1.tm|none=>s1.tm)} rec k kp=some r->
        (∃outs sf,k sf (rec++Cr i outs)=some r/\G7 P all nb i (o::l) outs s sf)\/
        (∃l1 o' l2 outs sf t kk n u rd,o::l=l1++o'::l2/\kp t kk n {sf with st:=A9 u sf.st} (rec++Cr i outs) l2.isEmpty=some r/\G7 P all nb i l1 outs s sf/\Vg P all nb (i+l1.length) o' sf t kk n u rd):=by
      intro s1 h1 hg h
      rcases Nt (l:=l) hC hO (by exact h1.uq) h with⟨outs,sf,k1,k2⟩|⟨l1,o',l2,outs,sf,t,kk,n,u',rd',e,k1,k2,k3⟩
      · exact .inl ⟨none::outs,sf,by simpa[Cr] using k1,G7.cons hs hg trivial h1 k2⟩
      · refine .inr ⟨o::l1,o',l2,none::outs,sf,t,kk,n,u',rd',by rw[e];rfl,by simpa[Cr] using k1,G7.cons hs hg trivial h1 k2, ?_⟩
        rw[show i+(o::l1).length=i+1+l1.length by simp;omega]
        exact k3
    simp only[Ui] at h
    split at h
    · rename_i hg
      exact go (.refl hs) (by intro j want e;rw[hg] at e;cases e) h
    · rename_i j want hg
      split at h
      · cases h
      · rename_i d hd
        have yes:∀{b:Bool},getD .un d s.tm=.bool b->b=want->∀j' want',o.guard=some (j',want')->∃d,(all[j']?).bind (·.dst)=some d/\getD .un d s.tm=.bool want':=by
          intro b hv e j' want' hg'
          rw[hg] at hg'
          cases hg'
          exact⟨d,hd,by rw[hv,e]⟩
        have no:∀{b:Bool},getD .un d s.tm=.bool b->b= !want->∃j want d,o.guard=some (j,want)/\(all[j]?).bind (·.dst)=some d/\(getD .un d s.tm=.bool (!want)\/getD .un d s.tm=.tup []):=
          λ hv e=>⟨j,want,d,hg,hd,.inl (by rw[hv,e])⟩
        split at h
        · rename_i b hv
          cases b<;>cases want<;>simp only[cond_true,cond_false] at h
          · exact go (Sq hs hv) (yes hv rfl) h
          · exact off (Sq hs hv) (no hv rfl) h
          · exact off (Sq hs hv) (no hv rfl) h
          · exact go (Sq hs hv) (yes hv rfl) h
        · rename_i hv
          exact off (.refl hs) ⟨j,want,d,hg,hd,.inr hv⟩ h
        · cases h
end Go.Ev
namespace Go.Ev
variable{R:Type}{E:Env}{X:Cx}{P:Program}
def Ph(D:Nat):Deferred:={target:=.collected D,args:= #[]}
def It(E:Env)(X:Cx)(ds:List Deferred):Prop:=∃Ds:List Nat,ds=Ds.map Ph++E.db/\(E.nm=true->Ds=[])/\Ds.Nodup/\∀D∈Ds,E.w.heap.size<=D/\X.S none D/\X.w.heap[D]?=some (.deferred (some []))
theorem It.ext{X':Cx}{ds:List Deferred}(h:It E X ds)(hx:Ext X X'):It E X' ds:=by
 obtain⟨Ds,h1,h0,h2,h3⟩:=h
 exact⟨Ds,h1,h0,h2,λ D hD=>⟨(h3 D hD).1,(hx.sts _ _ (h3 D hD).2.1).1,(hx.sts _ _ (h3 D hD).2.1).2.trans (h3 D hD).2.2⟩⟩
theorem It.same{X':Cx}{ds:List Deferred}(h:It E X ds)(hw:X'.w=X.w)(hs:GS X'.S X.S):It E X' ds:=by
 obtain⟨Ds,h1,h0,h2,h3⟩:=h
 exact⟨Ds,h1,h0,h2,λ D hD=>⟨(h3 D hD).1,hs.2 _ (h3 D hD).2.1,by rw[hw];exact(h3 D hD).2.2⟩⟩
theorem It.nil:It E X E.db:=⟨[],rfl,λ _=>rfl,.nil,λ D hD=>by simp at hD⟩
structure Mid(m N:Nat)(X0:Cx)(E:Env)(s0 sD:St)(D:Nat->Bool)(X:Cx)(a:Act):Prop where
 s:X.s=sD
 rel:Rel E X
 tr:Jj X a
 top:∀b,s0.nx<=b->X.cm b≠none->∃k,D k=true/\s0.nx+16*k<=b/\b<s0.nx+16*k+16
 S:GS X.S X0.S
 cmx:∀b cb,b<m->X0.cm b=some cb->∃cb',X.cm b=some cb'/\cb.same cb'
 defers:It E X a.defers
 size:a.tmps.size=N
 keep:∀t v,E.kv t=some v->a.tmps.getD t undef=v
def Mr(X:Cx)(s:St):Cx:={X with s:=s}
theorem Abc{a:Act}{d t:Nat}{v:Value}(hd:d<a.tmps.size):(a.put (some d) v).tmps.getD t undef=if d=t then v else a.tmps.getD t undef:=by
 simp only[Act.put]
 by_cases h:d=t
 ·subst h;simp[hd]
 ·rw[if_neg h]
  simp[Array.getElem?_setIfInBounds_ne h]
theorem Abe{a:Act}{d:Option Nat}{v:Value}:(a.put d v).tmps.size=a.tmps.size:=by
 cases d<;>simp[Act.put]
theorem Abd{a:Act}{d:Option Nat}{v:Value}(hd:∀t,d=some t->t<a.tmps.size)(hk:∀t,d=some t->E.kv t=none)(h:∀t u,E.kv t=some u->a.tmps.getD t undef=u):∀t u,E.kv t=some u->(a.put d v).tmps.getD t undef=u:=by
 intro t u ht
 cases d with
 | none=>exact h t u ht
 | some d=>
  rw[Abc (hd d rfl)]
  by_cases e:d=t
  ·subst e
   rw[hk d rfl] at ht
   cases ht
  ·rw[if_neg e];exact h t u ht
theorem Um{a:Act}{d:Option Nat}{v:Value}:(a.put d v).defers=a.defers:=by
 cases d<;>rfl
theorem Abs{X Y:Cx}{a:Act}{o:Oper}{out:Bx}{v:Value}(hT:Jj X a)(hx:Ext X Y)(hv:VRel Y out.val v)(hd:∀d,o.dst=some d->d<a.tmps.size)(hs:∀t,getD .un t Y.s.tm=getD .un t (effS o out X.s).tm):Jj Y (a.put o.dst v):=by
 intro t
 rw[hs,H1]
 cases ho:o.dst with
 | none=>
  simp only[reduceCtorEq,if_false]
  exact(hT t).ext hx
 | some d=>
  rw[Abc (hd d ho)]
  by_cases h:d=t
  ·subst h;simpa using hv
  ·rw[if_neg h,if_neg (by simpa using h)]
   exact(hT t).ext hx
variable{ops:Array Oper}{Q:Exit->Act->World->Prop}
theorem Pi{m N:Nat}{X0:Cx}{s0:St}{outs:List Bx}{D:Nat->Bool}{a:Act}{i:Nat}{o:Oper}{out:Bx}{K:Act->World->Prop}
  (hM:Mid m N X0 E s0 (sig ops.toList outs D 0 s0) D X a) (hu:Bt s0.st) (ho:ops[i]?=some o) (hout:outs[i]?=some out) (hD:D i=false) (hd:∀d,o.dst=some d->d<N) (hk:∀d,o.dst=some d->E.kv d=none)
  (hf:Oe P ops.toList s0.nx i o (sig ops.toList outs D 0 s0) out)
  (h4:∀k t,i<k->D k=true->o.dst=some t->¬wT ops.toList t k) (h5:∀k b,i<k->D k=true->b∈Bm out.upd->¬wB outs b k)
  (hK:∀a' X',Mid m N X0 E s0 (sig ops.toList outs (Hp D i) 0 s0) (Hp D i) X' a'->K a' X'.w):wpOp P ops Q i K a X.w:=by
 have hadd:=Af6 ops.toList outs D 0 i s0 o out hu (by simpa using ho) hout (by simpa using hD) (by simpa using h4) (by simpa using h5)
 rw[zA] at hadd
 have hd':∀d,o.dst=some d->d<a.tmps.size:=λ d h=>by rw[hM.size];exact hd d h
 unfold wpOp
 rw[ho]
 simp only
 cases out with
 | none=>
  obtain⟨j,want,d,g1,g2,g3⟩:=hf
  have hw:Region.wanted o (yielded ops a.tmps)=false:=by
   have hv:=hM.tr d
   rw[hM.s] at hv
   simp only[Region.wanted,g1,yielded]
   have g2':(ops[j]?).bind (·.dst)=some d:=by simpa using g2
   rw[g2']
   simp only[zZ]
   rcases g3 with g3|g3
   ·rw[g3] at hv
    generalize hval:a.tmps.getD d undef=vv at hv
    cases hv
    by_cases hlt:d<a.tmps.size
    ·have:a.tmps[d]?=some (.bool (!want)):=by simp[hlt] at hval⊢;exact hval
     rw[this]
     cases want<;>rfl
    ·simp[hlt] at hval
     cases hval
   ·rw[g3] at hv
    generalize hval:a.tmps.getD d undef=vv at hv
    cases hv with
    | tup hvs=>
     cases hvs
     by_cases hlt:d<a.tmps.size
     ·have:a.tmps[d]?=some (.tuple #[]):=by simp[hlt] at hval⊢;exact hval
      rw[this]
      cases want<;>rfl
     ·rw[Array.getElem?_eq_none (Nat.le_of_not_lt hlt)]
      cases want<;>rfl
  rw[hw]
  simp only[Bool.false_eq_true,if_false]
  have hst:∀b,look b (sig ops.toList outs (Hp D i) 0 s0).st=look b X.s.st:=λ b=>by
   rw[hM.s,<-hadd.st,Fs _ _ _ (Gr _ _ _ _ _ hu)]
   rfl
  have hx:Ext X (Mr X (sig ops.toList outs (Hp D i) 0 s0)):=Ext.seq rfl rfl rfl hst
  refine hK _ (Mr X (sig ops.toList outs (Hp D i) 0 s0)) ⟨rfl,hM.rel.seq rfl rfl rfl hst (Gr _ _ _ _ _ hu), ?_, ?_,hM.S,hM.cmx,by rw[Um];exact hM.defers,by rw[Abe];exact hM.size,Abd hd' hk hM.keep⟩
  ·refine Abs (out:=none) hM.tr hx (.tup .nil) hd' λ t=> ?_
   rw[hM.s]
   exact(hadd.tm t).symm
  ·intro b hb hc
   obtain⟨k,k1,k2⟩:=hM.top b hb hc
   exact⟨k,L7 k1,k2⟩
 | some x=>
  obtain⟨v,u,rd⟩:=x
  obtain⟨g1,g2⟩:=hf
  have hw:Region.wanted o (yielded ops a.tmps)=true:=by
   cases hg:o.guard with
   | none=>simp only[Region.wanted,hg]
   | some y=>
    obtain⟨j,want⟩:=y
    obtain⟨d,k1,k2⟩:=g1 j want hg
    have hv:=hM.tr d
    rw[hM.s,k2] at hv
    simp only[Region.wanted,hg,yielded]
    have k1':(ops[j]?).bind (·.dst)=some d:=by simpa using k1
    rw[k1']
    simp only[zZ]
    generalize hval:a.tmps.getD d undef=vv at hv
    cases hv
    by_cases hlt:d<a.tmps.size
    ·have:a.tmps[d]?=some (.bool want):=by simp[hlt] at hval⊢;exact hval
     rw[this]
     cases want<;>rfl
    ·simp[hlt] at hval
     cases hval
  rw[hw]
  simp only[if_true]
  left
  refine g2 _ ⟨λ _ _=>rfl,λ _ _ _ _ _=>rfl,λ _ _=>rfl,λ _ _=>rfl⟩ E X a hM.s hM.rel hM.tr ?_ K Q ?_
  ·intro b hb hb'
   cases hc:X.cm b with
   | none=>rfl
   | some cb=>
    obtain⟨k,k1,k2,k3⟩:=hM.top b (by omega) (by rw[hc];simp)
    have:k=i:=by omega
    subst this
    rw[hD] at k1
    cases k1
  ·intro val X' hG
   have hst:∀b,look b (sig ops.toList outs (Hp D i) 0 s0).st=look b X'.s.st:=λ b=>by
    rw[hG.st,hM.s,<-hadd.st]
    rfl
   have hx':Ext X' (Mr X' (sig ops.toList outs (Hp D i) 0 s0)):=Ext.seq rfl rfl rfl hst
   refine hK _ (Mr X' (sig ops.toList outs (Hp D i) 0 s0)) ⟨rfl,hG.rel.seq rfl rfl rfl hst (Gr _ _ _ _ _ hu), ?_, ?_,hG.S.trans hM.S, ?_,by rw[Um];exact(show It E X' a.defers from hM.defers.ext hG.ext),by rw[Abe];exact hM.size,Abd hd' hk hM.keep⟩
   ·refine Abs (out:=some (v,u,rd)) hM.tr (hG.ext.trans hx') (hG.val.ext hx') hd' λ t=> ?_
    rw[hM.s]
    exact(hadd.tm t).symm
   ·intro b hb hc
    rcases hG.fresh b hc with h|⟨h1,h2⟩
    ·obtain⟨k,k1,k2⟩:=hM.top b hb h
     exact⟨k,L7 k1,k2⟩
    ·exact⟨i,Vi,h1,h2⟩
   ·intro b cb hb hc
    obtain⟨cb',k1,k2⟩:=hM.cmx b cb hb hc
    obtain⟨cb2,k3,k4⟩:=hG.ext.cmx b cb' k1
    exact⟨cb2,k3,CB.same_trans k2 k4⟩
structure Inv(m N:Nat)(X0:Cx)(E:Env)(X:Cx)(a:Act):Prop where
 rel:Rel E X
 tr:Jj X a
 top:∀b,X.s.nx<=b->X.cm b=none
 S:GS X.S X0.S
 cmx:∀b cb,b<m->X0.cm b=some cb->∃cb',X.cm b=some cb'/\cb.same cb'
 defers:It E X a.defers
 size:a.tmps.size=N
 keep:∀t v,E.kv t=some v->a.tmps.getD t undef=v
theorem Inv.mid{m N:Nat}{X0:Cx}{a:Act}(h:Inv m N X0 E X a)(outs:List Bx)(ops:Array Oper):Mid m N X0 E X.s (sig ops.toList outs (Ax 0) 0 X.s) (Ax 0) X a:=by
 rw[Ha,Pv]
 exact⟨rfl,h.rel,h.tr,λ b hb hc=>(hc (h.top b hb)).elim,h.S,h.cmx,h.defers,h.size,h.keep⟩
theorem Mid.done{m N:Nat}{X0:Cx}{s0 sf:St}{outs:List Bx}{D:Nat->Bool}{a:Act}(h:Mid m N X0 E s0 (sig ops.toList outs D 0 s0) D X a)(hu:Bt s0.st)(hf:SEq (sig ops.toList outs (λ _=>true) 0 s0) sf)(hlen:outs.length=ops.size)
  (hall:∀k,k<ops.size->D k=true) (hD:∀k,D k=true->k<ops.size):∃X',X'.w=X.w/\X'.s={sf with nx:=s0.nx+16*ops.size}/\Inv m N X0 E X' a:=by
 have h1:SEq (sig ops.toList outs D 0 s0) (sig ops.toList outs (λ _=>true) 0 s0):=by
  refine⟨λ t=> ?_,λ b=> ?_,by rw[J6,J6],Gr _ _ _ _ _ hu⟩
  ·refine Lr t _ _ _ _ _ _ _ (λ k hk=> ?_) rfl
   obtain⟨o,k1,_⟩:=hk
   have:=(List.getElem?_eq_some_iff.1 k1).1
   rw[zA,hall k (by simpa using this)]
  ·refine Il b _ _ _ _ _ _ _ hu hu (λ k hk=> ?_) rfl
   obtain⟨o,k1,_⟩:=hk
   have:=(List.getElem?_eq_some_iff.1 k1).1
   rw[zA,hall k (by omega)]
 have h2:=h1.trans hf
 have hst:∀b,look b ({sf with nx:=s0.nx+16*ops.size}:St).st=look b X.s.st:=λ b=>by rw[h.s];exact h2.st b
 have hx:Ext X (Mr X {sf with nx:=s0.nx+16*ops.size}):=Ext.seq rfl rfl rfl hst
 refine⟨Mr X {sf with nx:=s0.nx+16*ops.size},rfl,rfl,h.rel.seq rfl rfl rfl hst h2.uq, ?_, ?_,h.S,h.cmx,h.defers,h.size,h.keep⟩
 ·intro t
  have:=(h.tr t).ext hx
  rw[h.s,<-h2.tm] at this
  exact this
 ·intro b hb
  cases hc:(Mr X {sf with nx:=s0.nx+16*ops.size}).cm b with
  | none=>rfl
  | some cb=>
   have hb':s0.nx+16*ops.size<=b:=hb
   obtain⟨k,k1,k2,k3⟩:=h.top b (by omega) (by rw[show X.cm b=some cb from hc];simp)
   have:=hD k k1
   omega
def Ng(N:Nat)(ops:List Oper):Bool:=ops.all λ o=>match o.dst with
 | some d=>zS d N
 | none=>true
theorem Mb{N:Nat}{ops:List Oper}(h:Ng N ops=true){i:Nat}{o:Oper}(ho:ops[i]?=some o){d:Nat}(hd:o.dst=some d):d<N:=by
 unfold Ng at h
 rw[zP] at h
 have:=h o (List.mem_of_getElem? ho)
 rw[hd] at this
 simpa[zC] using this
theorem Q8(i:Nat):Hp (Ax i) i=Ax (i+1):=by
 funext k
 simp only[Hp,Ax]
 rw[zO,zD,zC,zC,A6]
 omega
theorem Alp{m N:Nat}{X0:Cx}{s0 sf:St}{outs:List Bx}(hu:Bt s0.st)(hF:G7 P ops.toList s0.nx 0 ops.toList outs s0 sf)(hN:Ng N ops.toList=true)(hkv:∀o∈ops.toList,∀d,o.dst=some d->E.kv d=none)
  (hQ:∀X' a,X'.s={sf with nx:=s0.nx+16*ops.size}->Inv m N X0 E X' a->Q .normal a X'.w):
  ∀(n i:Nat) (X:Cx) (a:Act),i+n=ops.size->Mid m N X0 E s0 (sig ops.toList outs (Ax i) 0 s0) (Ax i) X a->wpOps P ops Q (yJ i n) a X.w
 | 0,i,X,a,hn,hM=>by
  simp only[yJ,wpOps]
  obtain⟨X',h1,h2,h3⟩:=hM.done hu hF.fin (by rw[hF.len];simp) (λ k hk=>by simp only[Ax];rw[zC];omega) (λ k hk=>by simp only[Ax] at hk;rw[zC] at hk;omega)
  rw[<-h1]
  exact hQ X' a h2 h3
 | n+1,i,X,a,hn,hM=>by
  rw[List.range'_succ,wpOps_cons]
  have hlt:i<ops.size:=by omega
  have hlt':i<outs.length:=by rw[hF.len];simpa using hlt
  have ho:ops[i]?=some ops[i]:=by simp[hlt]
  have hout:outs[i]?=some outs[i]:=by simp[hlt']
  have hfact:=hF.fact i ops[i] outs[i] (by simp) hout
  rw[zA] at hfact
  have hbi:Ax i i=false:=by simp only[Ax];rw[<-zK,zC];omega
  have hbk:∀k,i<k->Ax i k≠true:=λ k hk=>by simp only[Ax];rw[ne_eq,zC];omega
  refine Pi hM hu ho hout hbi (λ d hd=>Mb (i:=i) hN (by rw[Array.getElem?_toList];exact ho) hd) (hkv _ (by simp)) hfact (λ k t hk h=>(hbk k hk h).elim) (λ k b hk h=>(hbk k hk h).elim) λ a' X' hM'=> ?_
  rw[Q8] at hM'
  exact Alp hu hF hN hkv hQ n (i+1) X' a' (by omega) hM'
theorem Ah4{a:Act}{i:Nat}{o:Oper}{s:St}(hT:Jj X a)(hs:X.s=s)(hg:∀j want,o.guard=some (j,want)->∃d,(ops.toList[j]?).bind (·.dst)=some d/\getD .un d s.tm=.bool want):Region.wanted o (yielded ops a.tmps)=true:=by
 cases hgd:o.guard with
 | none=>simp only[Region.wanted,hgd]
 | some y=>
  obtain⟨j,want⟩:=y
  obtain⟨d,k1,k2⟩:=hg j want hgd
  have hv:=hT d
  rw[hs,k2] at hv
  simp only[Region.wanted,hgd,yielded]
  have k1':(ops[j]?).bind (·.dst)=some d:=by simpa using k1
  rw[k1']
  simp only[zZ]
  generalize hval:a.tmps.getD d undef=vv at hv
  cases hv
  by_cases hlt:d<a.tmps.size
  ·have:a.tmps[d]?=some (.bool want):=by simp[hlt] at hval⊢;exact hval
   rw[this]
   cases want<;>rfl
  ·simp[hlt] at hval
   cases hval
theorem Afs{m N:Nat}{X0:Cx}{s0 sf:St}{outs:List Bx}{D:Nat->Bool}{a:Act}{i:Nat}{o:Oper}{t:Nat}{kk:IntKind}{n:Int}{u:Upd}{rd:List Nat}
  (hM:Mid m N X0 E s0 (sig ops.toList outs D 0 s0) D X a) (hu:Bt s0.st) (ho:ops[i]?=some o) (hD:D i=false) (hlt:∀k,D k=true->k<ops.size) (hs:SEq (sig ops.toList outs D 0 s0) sf)
  (hf:Vg P ops.toList s0.nx i o sf t kk n u rd) (hQ:∀X' a',X'.s={sf with st:=A9 u sf.st,nx:=s0.nx+16*ops.size}->Inv m N X0 E X' a'->Q (.panic (Nu t kk n)) a' X'.w):
  ∀K,wpOp P ops Q i K a X.w:=by
 intro K
 have hi:i<ops.size:=(Array.getElem?_eq_some_iff.1 ho).1
 have hX:SEq X.s sf:=by rw[hM.s];exact hs
 have hX':=hX.symm (by rw[hM.s];exact Gr _ _ _ _ _ hu)
 have hw:Region.wanted o (yielded ops a.tmps)=true:=Ah4 (i:=i) hM.tr rfl λ j want e=>by
  obtain⟨d,q1,q2⟩:=hf.1 j want e
  exact⟨d,q1,by rw[hX'.tm];exact q2⟩
 unfold wpOp
 rw[ho]
 simp only
 rw[hw]
 simp only[if_true]
 left
 refine hf.2 X.s ⟨λ x _=>hX'.ev x,λ c _ b o _=>by rw[hX'.st],λ b _=>hX'.st b,λ b _=>hX'.st b⟩ E X a rfl hM.rel hM.tr ?_ K Q ?_
 ·intro b hb hb'
  cases hc:X.cm b with
  | none=>rfl
  | some cb=>
   obtain⟨k,k1,k2,k3⟩:=hM.top b (by omega) (by rw[hc];simp)
   have:k=i:=by omega
   subst this
   rw[hD] at k1
   cases k1
 ·intro val X' hG
  have hst:∀b,look b ({sf with st:=A9 u sf.st,nx:=s0.nx+16*ops.size}:St).st=look b X'.s.st:=λ b=>by
   rw[hG.st]
   simp only
   rw[B3 _ _ hX.uq,B3 _ _ hX'.uq,hX.st]
  have hx':Ext X' (Mr X' {sf with st:=A9 u sf.st,nx:=s0.nx+16*ops.size}):=Ext.seq rfl rfl rfl hst
  refine hQ (Mr X' {sf with st:=A9 u sf.st,nx:=s0.nx+16*ops.size}) a rfl ⟨hG.rel.seq rfl rfl rfl hst (Cn _ hX.uq), ?_, ?_,hG.S.trans hM.S, ?_,hM.defers.ext (hG.ext.trans hx'),hM.size,hM.keep⟩
  ·intro t'
   have:=((hM.tr t').ext hG.ext).ext hx'
   rw[<-hX.tm] at this
   exact this
  ·intro b hb
   have hb:s0.nx+16*ops.size<=b:=hb
   cases hc:(Mr X' {sf with st:=A9 u sf.st,nx:=s0.nx+16*ops.size}).cm b with
   | none=>rfl
   | some cb=>
    rcases hG.fresh b (by rw[show X'.cm b=some cb from hc];simp) with h|⟨h1,h2⟩
    ·obtain⟨k,k1,k2,k3⟩:=hM.top b (by omega) h
     have:=hlt k k1
     omega
    ·omega
  ·intro b cb hb hc
   obtain⟨cb',k1,k2⟩:=hM.cmx b cb hb hc
   obtain⟨cb2,k3,k4⟩:=hG.ext.cmx b cb' k1
   exact⟨cb2,k3,CB.same_trans k2 k4⟩
theorem Ym:∀{l1 l2:List Oper} {outs:List Bx} {D:Nat->Bool} {i:Nat} {s:St},outs.length=l1.length->sig (l1++l2) outs D i s=sig l1 outs D i s
 | [],l2,[],_,_,_,_=>by cases l2<;>simp[sig]
 | [],_,_::_,_,_,_,h=>by simp at h
 | _::_,_,[],_,_,_,h=>by simp at h
 | o::l1,l2,out::outs,D,i,s,h=>by
  simp only[zW,sig]
  exact Ym (by simpa using h)
theorem Af7{l:List Oper}{outs:List Bx}{D:Nat->Bool}{s:St}(hu:Bt s.st)(hlen:outs.length=l.length)(hD:∀k,k<l.length->D k=true):SEq (sig l outs D 0 s) (sig l outs (λ _=>true) 0 s):=by
 refine⟨λ t=> ?_,λ b=> ?_,by rw[J6,J6],Gr _ _ _ _ _ hu⟩
 ·refine Lr t _ _ _ _ _ _ _ (λ k hk=> ?_) rfl
  obtain⟨o,k1,_⟩:=hk
  rw[zA,hD k (List.getElem?_eq_some_iff.1 k1).1]
 ·refine Il b _ _ _ _ _ _ _ hu hu (λ k hk=> ?_) rfl
  obtain⟨o,k1,_⟩:=hk
  rw[zA,hD k (by have:=(List.getElem?_eq_some_iff.1 k1).1;omega)]
theorem Apn{m N:Nat}{X0:Cx}{s0 sf:St}{outs:List Bx}{l1 l2:List Oper}{o:Oper}{t:Nat}{kk:IntKind}{n:Int}{u:Upd}{rd:List Nat}(hu:Bt s0.st)(hl:ops.toList=l1++o::l2)(hF:G7 P ops.toList s0.nx 0 l1 outs s0 sf)(hN:Ng N ops.toList=true)(hkv:∀o∈ops.toList,∀d,o.dst=some d->E.kv d=none)
  (hf:Vg P ops.toList s0.nx l1.length o sf t kk n u rd) (hQ:∀X' a',X'.s={sf with st:=A9 u sf.st,nx:=s0.nx+16*ops.size}->Inv m N X0 E X' a'->Q (.panic (Nu t kk n)) a' X'.w):
  ∀(d i:Nat) (X:Cx) (a:Act),i+d=l1.length->Mid m N X0 E s0 (sig ops.toList outs (Ax i) 0 s0) (Ax i) X a->wpOps P ops Q (yJ i (ops.size-i)) a X.w:=by
 have hsz:ops.size=l1.length+(l2.length+1):=by rw[<-zX,hl];simp
 have hpre:∀D,sig ops.toList outs D 0 s0=sig l1 outs D 0 s0:=λ D=>by rw[hl];exact Ym hF.len
 intro d
 induction d with
 | zero=>
  intro i X a hd hM
  have hi:i=l1.length:=by omega
  subst hi
  obtain⟨q,hq⟩:∃q,ops.size-l1.length=q+1:=⟨l2.length,by omega⟩
  rw[hq,List.range'_succ,wpOps_cons]
  have ho:ops[l1.length]?=some o:=by rw[<-Array.getElem?_toList,hl];simp
  have hb:Ax l1.length l1.length=false:=by simp only[Ax];rw[<-zK,zC];omega
  refine Afs hM hu ho hb (λ k hk=>by simp only[Ax] at hk;rw[zC] at hk;omega) ?_ hf hQ _
  rw[hpre]
  refine(Af7 hu hF.len λ k h1=> ?_).trans hF.fin
  simp only[Ax];rw[zC];omega
 | succ d ih=>
  intro i X a hd hM
  have hlt:i<l1.length:=by omega
  obtain⟨q,hq⟩:∃q,ops.size-i=q+1:=⟨ops.size-i-1,by omega⟩
  rw[hq,List.range'_succ,wpOps_cons]
  have hlt':i<outs.length:=by rw[hF.len];exact hlt
  have ho:ops[i]?=some l1[i]:=by rw[<-Array.getElem?_toList,hl,List.getElem?_append_left hlt];simp[hlt]
  have hout:outs[i]?=some outs[i]:=by simp[hlt']
  have hfact:=hF.fact i l1[i] outs[i] (by simp[hlt]) hout
  rw[zA,<-hpre] at hfact
  have hbi:Ax i i=false:=by simp only[Ax];rw[<-zK,zC];omega
  have hbk:∀k,i<k->Ax i k≠true:=λ k hk=>by simp only[Ax];rw[ne_eq,zC];omega
  refine Pi hM hu ho hout hbi (λ d hd=>Mb (i:=i) hN (by rw[Array.getElem?_toList];exact ho) hd) (hkv _ (List.mem_of_getElem? (by rw[Array.getElem?_toList];exact ho))) hfact (λ k t hk h=>(hbk k hk h).elim) (λ k b hk h=>(hbk k hk h).elim) λ a' X' hM'=> ?_
  rw[Q8] at hM'
  rw[show q=ops.size-(i+1) by omega]
  exact ih (i+1) X' a' (by omega) hM'
end Go.Ev
namespace Go.Ev
variable{R:Type}{E:Env}{X:Cx}{P:Program}
def Q2(all:List Oper)(o:Oper):List Nat:=
  (o.op.operands.toList.filterMap λ|.tmp t=>some t|_=>none)++
  (match o.guard with
   | some (j,_)=>(match(all[j]?).bind (·.dst) with|some d=>[d]|none=>[])
   | none=>[])
def Kh(all:List Oper)(x y:Oper):Bool:=
  match x.dst with
  | some d=>Gd d (Q2 all y)||(match y.dst with|some e=>zG e d|none=>false)
  | none=>false
def Px(all:List Oper)(pr:List Nat):List (Nat×Oper)->Bool
 | []=>true
 | x::r=>r.all (λ y=> !(Kh all x.2 y.2||Kh all y.2 x.2)||zI (pr.getD y.1 0) x.1)&&Px all pr r
def Or:List (Nat×Oper)->Bool
 | []=>true
 | x::r=>(binds x.2).all (λ j=>zS j x.1)&&Or r
def S6(all:List Oper):Bool:=Or (Gl 0 all)&&Px all (Dd all []) (Gl 0 all)
theorem Aa3{α:Type}:∀{l:List α} {n i:Nat} {x:α},l[i]?=some x->(n+i,x)∈Gl n l
 | [],_,_,_,h=>by simp at h
 | y::l,n,0,x,h=>by simp at h;subst h;simp[Gl]
 | y::l,n,i+1,x,h=>by
  simp only[Gl,zL]
  right
  have:=Aa3 (n:=n+1) (l:=l) (i:=i) (by simpa using h)
  rwa[show n+1+i=n+(i+1) by omega] at this
theorem Ob{all:List Oper}{pr:List Nat}:∀{l:List Oper} {n i j:Nat} {x y:Oper},Px all pr (Gl n l)=true->i<j->l[i]?=some x->l[j]?=some y->(Kh all x y=true\/Kh all y x=true)->zI (pr.getD (n+j) 0) (n+i)=true
 | [],_,_,_,_,_,_,_,h,_,_=>by simp at h
 | z::l,n,0,j+1,x,y,h,hij,hx,hy,ht=>by
  simp only[List.getElem?_cons_zero,zB] at hx
  subst hx
  simp only[Gl,Px,z9,zP] at h
  have:=h.1 _ (Aa3 (n:=n+1) (l:=l) (i:=j) (by simpa using hy))
  simp only[zD,zN] at this
  rw[show n+1+j=n+(j+1) by omega] at this
  rcases this with h1|h1
  ·rw[Bool.or_eq_false_iff] at h1
   rcases ht with ht|ht
   ·rw[h1.1] at ht;cases ht
   ·rw[h1.2] at ht;cases ht
  ·exact h1
 | z::l,n,i+1,j+1,x,y,h,hij,hx,hy,ht=>by
  simp only[Gl,Px,z9] at h
  have:=Ob (n:=n+1) h.2 (by omega:i<j) (by simpa using hx) (by simpa using hy) ht
  rwa[show n+1+j=n+(j+1) by omega,show n+1+i=n+(i+1) by omega] at this
 | z::l,n,0,0,x,y,h,hij,hx,hy,ht=>by omega
 | z::l,n,i+1,0,x,y,h,hij,hx,hy,ht=>by omega
theorem Na:∀{l:List Oper} {n i:Nat} {x:Oper},Or (Gl n l)=true->l[i]?=some x->∀j∈binds x,j<n+i
 | [],_,_,_,_,h,_,_=>by simp at h
 | z::l,n,0,x,h,hx,j,hj=>by
  simp only[List.getElem?_cons_zero,zB] at hx
  subst hx
  simp only[Gl,Or,z9,zP] at h
  have:=h.1 j hj
  rw[zC] at this
  omega
 | z::l,n,i+1,x,h,hx,j,hj=>by
  simp only[Gl,Or,z9] at h
  have:=Na (n:=n+1) h.2 (by simpa using hx:l[i]?=some x) j hj
  omega
theorem Aa4:∀{outs:List Bx} {n i:Nat} {v:AV} {u:Upd} {rd:List Nat},outs[i]?=some (some (v,u,rd))->(n+i,rd,Bm u)∈Cr n outs
 | [],_,_,_,_,_,h=>by simp at h
 | o::l,n,0,v,u,rd,h=>by
  simp only[List.getElem?_cons_zero,zB] at h
  subst h
  simp[Cr]
 | o::l,n,i+1,v,u,rd,h=>by
  have:=Aa4 (n:=n+1) (outs:=l) (i:=i) (by simpa using h)
  rw[show n+1+i=n+(i+1) by omega] at this
  cases o with
  | none=>simpa[Cr] using this
  | some x=>obtain⟨v',u',rd'⟩:=x;simp only[Cr,zL];exact .inr this
theorem C8{pr:List Nat}:∀{outs:List Bx} {n i j:Nat} {v v':AV} {u u':Upd} {rd rd':List Nat},Gp pr (Cr n outs)=true->i<j->outs[i]?=some (some (v,u,rd))->outs[j]?=some (some (v',u',rd'))->
  Iw (n+i,rd,Bm u) (n+j,rd',Bm u')=true->zI (pr.getD (n+j) 0) (n+i)=true
 | [],_,_,_,_,_,_,_,_,_,_,_,h,_,_=>by simp at h
 | o::l,n,0,j+1,v,v',u,u',rd,rd',h,hij,hx,hy,hc=>by
  simp only[List.getElem?_cons_zero,zB] at hx
  subst hx
  simp only[Cr,Gp,z9,zP] at h
  have hm:=Aa4 (n:=n+1) (outs:=l) (i:=j) (by simpa using hy)
  rw[show n+1+j=n+(j+1) by omega] at hm
  have:=h.1 _ hm
  simp only[zD,zN] at this
  rcases this with h1|h1
  ·rw[zT] at hc;rw[hc] at h1;cases h1
  ·exact h1
 | o::l,n,i+1,j+1,v,v',u,u',rd,rd',h,hij,hx,hy,hc=>by
  have h':Gp pr (Cr (n+1) l)=true:=by
   cases o with
   | none=>simpa[Cr] using h
   | some x=>obtain⟨a,b,c⟩:=x;simp only[Cr,Gp,z9] at h;exact h.2
  have:=C8 (n:=n+1) h' (by omega:i<j) (by simpa using hx) (by simpa using hy) (by rw[show n+1+j=n+(j+1) by omega,show n+1+i=n+(i+1) by omega];exact hc)
  rwa[show n+1+j=n+(j+1) by omega,show n+1+i=n+(i+1) by omega] at this
 | o::l,n,0,0,_,_,_,_,_,_,h,hij,_,_,_=>by omega
 | o::l,n,i+1,0,_,_,_,_,_,_,h,hij,_,_,_=>by omega
theorem Aad(acc:List Nat)(k:Nat):∀(bs:List Nat) (x:Nat),zI (bs.foldl (λ x j=>x|||2^j|||acc.getD j 0) x) k=true->zI x k=true\/∃j∈bs,k=j\/zI (acc.getD j 0) k=true
 | [],x,h=>.inl h
 | b::bs,x,h=>by
  simp only[List.foldl_cons] at h
  rcases Aad acc k bs _ h with h1|⟨j,hj,h1⟩
  ·rw[xA,xA,zD,zD,Nat.testBit_two_pow] at h1
   rcases h1 with(h1|h1)|h1
   ·exact .inl h1
   ·exact .inr ⟨b,by simp,.inl (by simpa using h1:b=k).symm⟩
   ·exact .inr ⟨b,by simp,.inr h1⟩
  ·exact .inr ⟨j,by simp[hj],h1⟩
theorem Nx:∀(l:List Oper) (acc:List Nat),(∀j,j<acc.length->(Dd l acc).getD j 0=acc.getD j 0)
 | [],acc=>λ _ _=>rfl
 | o::r,acc=>by
  intro j hj
  simp only[Dd]
  rw[Nx r _ j (by simp;omega)]
  simp[List.getD_eq_getElem?_getD,List.getElem?_append_left hj]
theorem Wm:∀{l:List Oper} {acc:List Nat} {i:Nat} {o:Oper},l[i]?=some o->∀k,zI ((Dd l acc).getD (acc.length+i) 0) k=true->∃j∈binds o,k=j\/(j<acc.length+i/\zI ((Dd l acc).getD j 0) k=true)
 | [],_,_,_,h,_,_=>by simp at h
 | z::l,acc,0,o,h,k,hk=>by
  simp only[List.getElem?_cons_zero,zB] at h
  subst h
  simp only[Dd,zT] at hk⊢
  rw[Nx l _ _ (by simp)] at hk
  have e:(acc++[(binds z).foldl (λ x j=>x|||2^j|||acc.getD j 0) 0]).getD acc.length 0=(binds z).foldl (λ x j=>x|||2^j|||acc.getD j 0) 0:=by
   simp[List.getD_eq_getElem?_getD]
  rw[e] at hk
  rcases Aad acc k _ _ hk with h1|⟨j,hj,h1⟩
  ·simp at h1
  ·refine⟨j,hj,h1.imp id λ h2=> ?_⟩
   have hlt:j<acc.length:=by
    rcases yR j acc.length with h|h
    ·exact h
    ·rw[List.getD_eq_getElem?_getD,List.getElem?_eq_none h] at h2
     simp at h2
   refine⟨hlt, ?_⟩
   rw[Nx l _ j (by simp;omega)]
   rw[List.getD_eq_getElem?_getD,List.getElem?_append_left hlt,<-List.getD_eq_getElem?_getD]
   exact h2
 | z::l,acc,i+1,o,h,k,hk=>by
  simp only[Dd] at hk⊢
  have:=Wm (l:=l) (acc:=acc++[(binds z).foldl (λ x j=>x|||2^j|||acc.getD j 0) 0]) (i:=i) (o:=o) (by simpa using h) k (by simpa[xF,yS 1 i] using hk)
  simpa[xF,yS 1 i] using this
def Xa(all:List Oper)(D:Nat->Bool):Prop:=∀i o,all[i]?=some o->D i=true->∀j∈binds o,D j=true
theorem Dx{all:List Oper}{D:Nat->Bool}(hC:Xa all D):∀{i:Nat} {o:Oper},all[i]?=some o->(∀j∈binds o,D j=true)->∀k,zI ((Dd all []).getD i 0) k=true->D k=true:=by
 intro i
 induction i using yH with
 | _ i ih=>
  intro o ho hb k hk
  have:=Wm (acc:=[]) ho k (by simpa using hk)
  obtain⟨j,hj,h1⟩:=this
  rcases h1 with rfl|⟨h1,h2⟩
  ·exact hb _ hj
  ·simp at h1
   have hlt:j<all.length:=by
    have:=(List.getElem?_eq_some_iff.1 ho).1
    omega
   have hj':all[j]?=some all[j]:=by simp[hlt]
   exact ih j h1 hj' (hC j _ hj' (hb j hj)) k h2
theorem Oe.move{all:List Oper}{nb i:Nat}{o:Oper}{s s':St}{out:Bx}(ht:∀t∈Q2 all o,getD .un t s'.tm=getD .un t s.tm)(hb:∀v u rd,out=some (v,u,rd)->∀b,b∈rd\/b∈Bm u->look b s'.st=look b s.st)
  (hpt:∀v u rd,out=some (v,u,rd)->∀c∈rd,∀b o,U4 c=some (b,o)->slAt o (look b s'.st)=slAt o (look b s.st))
  (hf:Oe P all nb i o s out):Oe P all nb i o s' out:=by
 have hg:∀j want d,o.guard=some (j,want)->(all[j]?).bind (·.dst)=some d->d∈Q2 all o:=by
  intro j want d h1 h2
  simp[Q2,h1,h2]
 cases out with
 | none=>
  obtain⟨j,want,d,h1,h2,h3⟩:=hf
  exact⟨j,want,d,h1,h2,by rw[ht d (hg j want d h1 h2)];exact h3⟩
 | some x=>
  obtain⟨v,u,rd⟩:=x
  obtain⟨h1,h2⟩:=hf
  refine⟨λ j want hgd=> ?_,λ s'' ha=>h2 s'' ⟨λ x hx=>(ha.ev x hx).trans ?_,λ c hc b o' e=>(ha.pt c hc b o' e).trans (hpt v u rd rfl c hc b o' e),λ b hb'=>(ha.rd b hb').trans (hb v u rd rfl b (.inl hb')),λ b hb'=>(ha.wr b hb').trans (hb v u rd rfl b (.inr hb'))⟩⟩
  ·obtain⟨d,k1,k2⟩:=h1 j want hgd
   exact⟨d,k1,by rw[ht d (hg j want d hgd k1)];exact k2⟩
  ·cases x with
   | tmp t=>exact ht t (by simp only[Q2,zJ,yN];exact .inl ⟨.tmp t,by simpa using hx,rfl⟩)
   | _=>rfl
theorem J8{all:List Oper}{x y:Oper}{t:Nat}(h:x.dst=some t)(h':t∈Q2 all y):Kh all x y=true:=by
 simp only[Kh,h,zD];exact .inl (Gn.2 h')
theorem Wx{all:List Oper}{x y:Oper}{t:Nat}(h:x.dst=some t)(h':y.dst=some t):Kh all x y=true:=by
 simp[Kh,h,h']
def R8:List Bool->Nat
 | []=>0
 | b::r=>(if b then 0 else 1)+R8 r
theorem S4:∀{l:List Bool} {i:Nat},l[i]?=some false->R8 (l.set i true)+1=R8 l
 | [],i,h=>by simp at h
 | b::r,0,h=>by simp at h;subst h;simp[R8];omega
 | b::r,i+1,h=>by
  simp only[List.getElem?_cons_succ] at h
  simp only[List.set_cons_succ,R8]
  have:=S4 h
  omega
theorem Qj:∀{l:List Bool},R8 l=0->∀i:Nat,l[i]?≠some false
 | [],_,i=>by simp
 | b::r,h,0=>by
  simp only[R8] at h
  cases b
  ·simp at h
  ·simp
 | b::r,h,i+1=>by
  simp only[R8] at h
  simpa using Qj (l:=r) (by omega) i
variable{ops:Array Oper}{Q:Exit->Act->World->Prop}
def dof(listed:Array Bool)(k:Nat):Bool:=listed.getD k false
theorem H9{listed:Array Bool}{i:Nat}:i∈Region.ready .any ops listed<->i<ops.size/\listed.getD i true=false/\∃o,ops[i]?=some o/\∀j∈binds o,listed.getD j false=true:=by
 simp only[Region.ready,zV,xB,z9,zN]
 constructor
 ·rintro⟨h1,h2,h3⟩
  refine⟨h1,h2,ops[i],by simp[h1], ?_⟩
  have ho:ops[i]?=some ops[i]:=by simp[h1]
  rw[ho] at h3
  simp only[yW,yV,yO] at h3
  intro j hj
  simp only[binds,yT,zV] at hj
  obtain⟨e,⟨he,hb⟩,rfl⟩:=hj
  have:=h3 e (by simpa using he)
  simpa[hb] using this
 ·rintro⟨h1,h2,o,ho,h3⟩
  refine⟨h1,h2, ?_⟩
  rw[ho]
  simp only[yW,yV,yO]
  intro e he
  cases hb:Region.binds .any e
  ·simp
  ·simp only[Bool.not_true,Bool.false_or]
   exact h3 e.on (by simp only[binds,yT,zV];exact⟨e,⟨by simpa using he,hb⟩,rfl⟩)
def T5(outs:List Bx)(b o k:Nat):Prop:=∃v u rd,outs[k]?=some (some (v,u,rd))/\G1 (Fj b o)∈rd
theorem Up:∀{l:List Oper} {outs:List Bx} {D:Nat->Bool} {i n:Nat} {s:St} {o:Oper} {out:Bx},Bt s.st->l[n]?=some o->outs[n]?=some out->D (i+n)=true->(∀k,n<k->D (i+k)=false)->
  sig l outs D i s=effS o out (sig l outs (λ k=>D k&&zS k (i+n)) i s)
 | [],_,_,_,_,_,_,_,_,h,_,_,_=>by simp at h
 | _::_,[],_,_,_,_,_,_,_,_,h,_,_=>by simp at h
 | o0::l,out0::outs,D,i,0,s,o,out,hu,h1,h2,h3,h4=>by
  simp only[List.getElem?_cons_zero,zB] at h1 h2
  subst h1 h2
  rw[zT] at h3
  have none:∀(l:List Oper) (outs:List Bx) (i:Nat) (D:Nat->Bool) (s:St),(∀k,D (i+k)=false)->sig l outs D i s=s:=by
   intro l
   induction l with
   | nil=>intro outs i D s _;simp[sig]
   | cons a l ih=>
    intro outs i D s h
    cases outs with
    | nil=>simp[sig]
    | cons c outs=>
     simp only[sig]
     rw[if_neg (by have:=h 0;rw[zT] at this;rw[this];simp)]
     exact ih _ _ _ _ λ k=>by rw[show i+1+k=i+(k+1) by omega];exact h (k+1)
  simp only[sig]
  rw[if_pos h3,none _ _ _ _ _ λ k=>by rw[show i+1+k=i+(k+1) by omega];exact h4 (k+1) (by omega)]
  rw[if_neg (by simp[zC]),none _ _ _ _ _ λ k=> ?_]
  have e:zS (i+1+k) (i+0)=false:=by rw[<-zK,zC];omega
  rw[e,xC]
 | o0::l,out0::outs,D,i,n+1,s,o,out,hu,h1,h2,h3,h4=>by
  simp only[List.getElem?_cons_succ] at h1 h2
  simp only[sig]
  have e:(D i&&zS i (i+(n+1)))=D i:=by
   have:zS i (i+(n+1))=true:=by rw[zC];omega
   rw[this,xG]
  simp only[e]
  have:=Up (l:=l) (outs:=outs) (D:=D) (i:=i+1) (n:=n) (s:=if D i=true then effS o0 out0 s else s) (by split;exact Dz _ _ _ hu;exact hu) h1 h2 (by rw[show i+1+n=i+(n+1) by omega];exact h3)
   (λ k hk=>by rw[show i+1+k=i+(k+1) by omega];exact h4 (k+1) (by omega))
  rw[this,show i+1+n=i+(n+1) by omega]
theorem Yf{l:List Oper}{outs:List Bx}{s:St}(hu:Bt s.st)(hlen:outs.length=l.length)(hk:∀(j:Nat) out,outs[j]?=some out->Xc (sig l outs (Ax j) 0 s) out){b o:Nat}(hb:b<4294967296){D:Nat->Bool}:∀n,n<=l.length->(∀k,k<n->wB outs b k->D k=true\/T5 outs b o k)->
  slAt o (look b (sig l outs (λ k=>D k&&Ax n k) 0 s).st)=slAt o (look b (sig l outs (Ax n) 0 s).st)
 | 0,_,_=>by
  have:(λ k=>D k&&Ax 0 k)=Ax 0:=by funext k;rw[Ha];simp
  rw[this]
 | n+1,hn,h=>by
  have ih:=Yf hu hlen hk hb (D:=D) n (by omega) λ k hk=>h k (by omega)
  have hol:l[n]?=some l[n]:=by simp[show n<l.length by omega]
  have hou:outs[n]?=some outs[n]:=by simp[show n<outs.length by omega]
  have hbs:∀k,Ax (n+1) k=(Ax n k||zG k n):=by
   intro k
   simp only[Ax]
   rw[zO,zD,zC,zC,A6]
   omega
  have hbn:Ax n n=false:=by simp only[Ax];rw[<-zK,zC];omega
  have hafter:∀k,n<k->Ax (n+1) k=false:=λ k hk=>by simp only[Ax];rw[<-zK,zC];omega
  have hat:Ax (n+1) n=true:=by simp only[Ax];rw[zC];omega
  have e2:sig l outs (Ax (n+1)) 0 s=effS l[n] outs[n] (sig l outs (Ax n) 0 s):=by
   rw[Up hu hol hou (by rw[zA];exact hat) (λ k hk=>by rw[zA];exact hafter k hk)]
   congr 2
   funext k
   rw[zA]
   simp only[Ax]
   rw[zO,z9,zC,zC]
   omega
  have e1:D n=true->sig l outs (λ k=>D k&&Ax (n+1) k) 0 s=effS l[n] outs[n] (sig l outs (λ k=>D k&&Ax n k) 0 s):=by
   intro hD
   rw[Up hu hol hou (by rw[zA,hD,hat];rfl) (λ k hk=>by rw[zA,hafter k hk,xC])]
   congr 2
   funext k
   rw[zA]
   simp only[Ax]
   rw[zO]
   simp only[z9,zC]
   exact⟨λ h=>⟨h.1.1,h.2⟩,λ h=>⟨⟨h.1,by omega⟩,h.2⟩⟩
  have e0:¬wB outs b n\/D n=false->look b (sig l outs (λ k=>D k&&Ax (n+1) k) 0 s).st=look b (sig l outs (λ k=>D k&&Ax n k) 0 s).st:=by
   intro hh
   refine Il b _ _ _ _ _ _ _ hu hu (λ k hw=> ?_) rfl
   rw[zA,hbs]
   by_cases hkn:k=n
   ·subst hkn
    rcases hh with hh|hh
    ·exact(hh hw).elim
    ·rw[hh];rfl
   ·rw[A7.2 hkn,yK]
  by_cases hw:wB outs b n
  ·cases hD:D n with
   | true=>
    rw[e1 hD,e2,Fs _ _ _ (Gr _ _ _ _ _ hu),Fs _ _ _ (Gr _ _ _ _ _ hu)]
    cases hE:Dc outs[n].upd b with
    | some x=>rfl
    | none=>exact ih
   | false=>
    rw[e0 (.inr hD),ih,e2]
    rcases h n (by omega) hw with h1|⟨v,u,rd,h1,h2⟩
    ·rw[hD] at h1;cases h1
    ·have h3:=hk n _ hou
     rw[hou,zB] at h1
     rw[h1] at h3⊢
     exact(h3 b o hb h2).symm
  ·rw[e0 (.inl hw),ih,e2,Fs _ _ _ (Gr _ _ _ _ _ hu)]
   have:Dc outs[n].upd b=none:=D9 λ hm=>hw ⟨_,hou,hm⟩
   rw[this]
theorem Af0{l:List Oper}{outs:List Bx}{s:St}(hu:Bt s.st)(hlen:outs.length=l.length)(hk:∀(j:Nat) out,outs[j]?=some out->Xc (sig l outs (Ax j) 0 s) out){b o i:Nat}(hb:b<4294967296)(hi:i<=l.length){D:Nat->Bool}
  (hA:∀k,wB outs b k->T5 outs b o k\/D k=Ax i k) (hB:∀k k',k'<k->wB outs b k->wB outs b k'->D k=true->D k'=true):
  slAt o (look b (sig l outs D 0 s).st)=slAt o (look b (sig l outs (Ax i) 0 s).st):=by
 have hlt:∀k,wB outs b k->k<l.length:=λ k hw=>by
  obtain⟨out,h,_⟩:=hw
  rw[<-hlen];exact(List.getElem?_eq_some_iff.1 h).1
 have hM:∃M,i<=M/\M<=l.length/\(∀k,i<=k->k<M->wB outs b k->T5 outs b o k)/\(∀k,M<=k->wB outs b k->D k=false):=by
  have hle:∀n,i+n<=l.length->(∃M,i<=M/\M<=l.length/\(∀k,i<=k->k<M->wB outs b k->T5 outs b o k)/\(∀k,M<=k->wB outs b k->D k=false))\/(∀k,i<=k->k<i+n->wB outs b k->T5 outs b o k):=by
   intro n
   induction n with
   | zero=>intro _;exact .inr λ k h1 h2=>by omega
   | succ n ih=>
    intro hn
    rcases ih (by omega) with h|h
    ·exact .inl h
    ·by_cases hx:wB outs b (i+n)->T5 outs b o (i+n)
     ·refine .inr λ k h1 h2 hw=> ?_
      by_cases e:k=i+n
      ·subst e;exact hx hw
      ·exact h k h1 (by omega) hw
     ·have hw:wB outs b (i+n):=Classical.byContradiction λ h=>hx λ h'=>(h h').elim
      have hnk:¬T5 outs b o (i+n):=λ h=>hx λ _=>h
      have hDn:D (i+n)=false:=by
       rcases hA _ hw with h|h
       ·exact(hnk h).elim
       ·rw[h];simp only[Ax];rw[<-zK,zC];omega
      refine .inl ⟨i+n,by omega,by omega,λ k h1 h2 hw'=>h k h1 h2 hw',λ k h1 hw'=> ?_⟩
      by_cases e:k=i+n
      ·subst e;exact hDn
      ·cases eD:D k with
       | false=>rfl
       | true=>
        have:=hB k (i+n) (by omega) hw' hw eD
        rw[hDn] at this
        cases this
  rcases hle (l.length-i) (by omega) with h|h
  ·exact h
  ·exact⟨l.length,hi,zE _,λ k h1 h2=>h k h1 (by omega),λ k h1 hw=>by have:=hlt k hw;omega⟩
 obtain⟨M,h1,h2,h3,h4⟩:=hM
 have p1:=Yf hu hlen hk hb (o:=o) (D:=D) M h2 λ k hkM hw=>by
  by_cases hki:i<=k
  ·exact .inr (h3 k hki hkM hw)
  ·rcases hA k hw with h|h
   ·exact .inr h
   ·refine .inl ?_
    rw[h];simp only[Ax];rw[zC];omega
 have p2:=Yf hu hlen hk hb (o:=o) (D:=Ax i) M h2 λ k hkM hw=>by
  by_cases hki:i<=k
  ·exact .inr (h3 k hki hkM hw)
  ·refine .inl ?_
   simp only[Ax];rw[zC];omega
 have q1:look b (sig l outs (λ k=>D k&&Ax M k) 0 s).st=look b (sig l outs D 0 s).st:=by
  refine Il b _ _ _ _ _ _ _ hu hu (λ k hw=> ?_) rfl
  rw[zA]
  by_cases hkM:M<=k
  ·rw[h4 k hkM hw];rfl
  ·have:Ax M k=true:=by simp only[Ax];rw[zC];omega
   rw[this,xG]
 have q2:(λ k=>Ax i k&&Ax M k)=Ax i:=by
  funext k
  simp only[Ax]
  rw[zO,z9,zC,zC]
  omega
 rw[q2] at p2
 rw[<-q1,p1,p2]
theorem Po{w r:Rec}{b o c:Nat}(hc:c∈r.2.1)(hp:U4 c=some (b,o))(hw:b∈w.2.2)(hk:G1 (Fj b o)∉w.2.1):Afz w r=true:=by
 simp only[Afz,List.any_eq_true]
 refine⟨c,hc, ?_⟩
 have e:c=Fj b o/\b<4294967296:=by
  unfold U4 at hp
  cases e:zG (c/4294967296) 0<;>rw[e] at hp<;>simp at hp
  have:=A7.1 e
  simp only[Fj]
  omega
 simp only[hp,z9,zN]
 refine⟨Gn.2 hw, ?_⟩
 cases e2:Gd (G1 c) w.2.1
 ·rfl
 ·exact(hk (by rw[<-e.1];exact Gn.1 e2)).elim
theorem Ata{m N:Nat}{X0:Cx}{s0 sf:St}{outs:List Bx}(hu:Bt s0.st)(hF:G7 P ops.toList s0.nx 0 ops.toList outs s0 sf)(hN:Ng N ops.toList=true)(hkv:∀o∈ops.toList,∀d,o.dst=some d->E.kv d=none)(hd:S6 ops.toList=true)(hp:Gp (Dd ops.toList []) (Cr 0 outs)=true)
  (hQ:∀X' a,X'.s={sf with nx:=s0.nx+16*ops.size}->Inv m N X0 E X' a->Q .normal a X'.w):
  ∀(fuel:Nat) (listed:Array Bool) (X:Cx) (a:Act),listed.size=ops.size->R8 listed.toList=fuel->Xa ops.toList (dof listed)->Mid m N X0 E s0 (sig ops.toList outs (dof listed) 0 s0) (dof listed) X a->wpAny P .any ops Q fuel listed a X.w:=by
 simp only[S6,z9] at hd
 obtain⟨hb,ht⟩:=hd
 have fin:∀(listed:Array Bool) (X:Cx) (a:Act),listed.size=ops.size->(∀i:Nat,listed.toList[i]?≠some false)->Mid m N X0 E s0 (sig ops.toList outs (dof listed) 0 s0) (dof listed) X a->Q .normal a X.w:=by
  intro listed X a hsz hall hM
  have h1:∀k,k<ops.size->dof listed k=true:=by
   intro k hk
   have:=hall k
   simp only[dof]
   cases e:listed.getD k false
   ·exfalso
    apply this
    simp[hsz,hk] at e⊢
    exact e
   ·rfl
  have h2:∀k,dof listed k=true->k<ops.size:=by
   intro k hk
   rcases yR k ops.size with h|h
   ·exact h
   ·simp[dof,show¬k<listed.size by omega] at hk
  obtain⟨X',k1,k2,k3⟩:=hM.done hu hF.fin (by rw[hF.len];simp) h1 h2
  rw[<-k1]
  exact hQ X' a k2 k3
 intro fuel
 induction fuel with
 | zero=>
  intro listed X a hsz hcnt hC hM
  have hall:=Qj hcnt
  refine⟨?_,fin listed X a hsz hall hM⟩
  rw[yB]
  intro i hi
  obtain⟨h1,h2,_⟩:=H9.1 hi
  refine hall i ?_
  simp[hsz,h1] at h2⊢
  exact h2
 | succ fuel ih=>
  intro listed X a hsz hcnt hC hM
  refine⟨?_, ?_⟩
  ·intro hr
   refine fin listed X a hsz ?_ hM
   intro i
   induction i using yH with
   | _ i ihi=>
    intro hi
    have hlt:=(List.getElem?_eq_some_iff.1 hi).1
    have hlt':i<ops.size:=by rw[<-hsz];simpa using hlt
    have:i∈Region.ready .any ops listed:=by
     refine H9.2 ⟨hlt', ?_,ops[i],by simp[hlt'], ?_⟩
     ·simp at hlt;simp[hlt] at hi⊢;exact hi
     ·intro j hj
      have hji:=Na hb (i:=i) (x:=ops[i]) (by simp[hlt']) j hj
      rw[zA] at hji
      have:=ihi j hji
      have hjs:j<listed.size:=by omega
      cases e:listed.getD j false
      ·exfalso
       apply this
       simp[hjs] at e⊢
       exact e
      ·rfl
    rw[hr] at this
    simp at this
  ·intro i hi
   obtain⟨h1,h2,o,ho,h3⟩:=H9.1 hi
   have hlt':i<outs.length:=by rw[hF.len];simpa using h1
   have hout:outs[i]?=some outs[i]:=by simp[hlt']
   have ho':ops.toList[i]?=some o:=by rw[Array.getElem?_toList];exact ho
   have hfact:=hF.fact i o outs[i] ho' hout
   rw[zA] at hfact
   have hDi:dof listed i=false:=by
    simp[hsz,h1] at h2
    simp[dof,hsz,h1,h2]
   have pri:∀k,zI ((Dd ops.toList []).getD i 0) k=true->dof listed k=true:=Dx hC ho' h3
   have post:∀k o',ops.toList[k]?=some o'->zI ((Dd ops.toList []).getD k 0) i=true->dof listed k=true->False:=by
    intro k o' hk hb hDk
    have:=Dx hC hk (hC k o' hk hDk) i hb
    rw[hDi] at this
    cases this
   have tp:∀{i j:Nat} {x y:Oper},i<j->ops.toList[i]?=some x->ops.toList[j]?=some y->(Kh ops.toList x y=true\/Kh ops.toList y x=true)->zI ((Dd ops.toList []).getD j 0) i=true:=by
    intro i j x y hij hx hy h
    have:=Ob ht hij hx hy h
    simpa using this
   have hbk:∀k,Ax i k=decide (k<i):=λ k=>by simp only[Ax];rw[zO,zC];simp
   have hno:∀{p:Prop} {b:Bool},b=true->b=false->p:=by intro p b h h';rw[h] at h';cases h'
   have hmove:Oe P ops.toList s0.nx i o (sig ops.toList outs (dof listed) 0 s0) outs[i]:=by
    refine Oe.move ?_ ?_ ?_ hfact
    ·intro t htr
     refine Lr t _ _ _ _ _ _ _ (λ k hw=> ?_) rfl
     obtain⟨ok,hk,hkd⟩:=hw
     rw[zA,hbk]
     rcases zR k i with h|h|h
     ·rw[pri k (tp h hk ho' (.inl (J8 hkd htr)))];simp[h]
     ·subst h;rw[hDi];simp
     ·cases e:dof listed k
      ·simp;omega
      ·exact(post k ok hk (tp h ho' hk (.inr (J8 hkd htr))) e).elim
    ·intro v u rd he b hbm
     refine Il b _ _ _ _ _ _ _ hu hu (λ k hw=> ?_) rfl
     obtain⟨outk,hk,hkb⟩:=hw
     rw[zA,hbk]
     have hklt:k<ops.toList.length:=by rw[<-hF.len];exact(List.getElem?_eq_some_iff.1 hk).1
     have hko:ops.toList[k]?=some ops.toList[k]:=by simp[hklt]
     cases outk with
     | none=>simp[Bx.upd,Bm] at hkb
     | some z=>
      obtain⟨vk,uk,rdk⟩:=z
      simp only[Bx.upd] at hkb
      rcases zR k i with h|h|h
      ·have:=C8 hp h hk (hout.trans (by rw[he])) (by
        simp only[Iw,zD]
        rcases hbm with hbm|hbm
        ·exact .inl (.inl (.inl (Ei hkb hbm)))
        ·exact .inl (.inl (.inr (Ei hkb hbm))))
       simp only[zA] at this
       rw[pri k this];simp[h]
      ·subst h;rw[hDi];simp
      ·cases e:dof listed k
       ·simp;omega
       ·have:=C8 hp h (hout.trans (by rw[he])) hk (by
         simp only[Iw,zD]
         rcases hbm with hbm|hbm
         ·exact .inl (.inr (Ei hbm hkb))
         ·exact .inl (.inl (.inr (Ei hbm hkb))))
        simp only[zA] at this
        exact(post k _ hko this e).elim
    ·intro v u rd he c hc b o' hpt
     have hb32:b<4294967296:=by
      unfold U4 at hpt
      cases e:zG (c/4294967296) 0<;>rw[e] at hpt<;>simp at hpt
      omega
     have hio:i<outs.length:=(List.getElem?_eq_some_iff.1 hout).1
     refine Af0 hu hF.len hF.keep hb32 (by rw[<-hF.len];omega) (λ k hw=> ?_) (λ k k' hlt hw hw' hDk=> ?_)
     ·obtain⟨outk,hk,hkb⟩:=hw
      have hklt:k<ops.toList.length:=by rw[<-hF.len];exact(List.getElem?_eq_some_iff.1 hk).1
      have hko:ops.toList[k]?=some ops.toList[k]:=by simp[hklt]
      cases outk with
      | none=>simp[Bx.upd,Bm] at hkb
      | some z=>
       obtain⟨vk,uk,rdk⟩:=z
       simp only[Bx.upd] at hkb
       by_cases hkp:G1 (Fj b o')∈rdk
       ·exact .inl ⟨vk,uk,rdk,hk,hkp⟩
       ·right
        rw[hbk]
        rcases zR k i with h|h|h
        ·have:=C8 hp h hk (hout.trans (by rw[he])) (by
          simp only[Iw,zD]
          exact .inr (.inl (Po hc hpt hkb hkp)))
         simp only[zA] at this
         rw[pri k this];simp[h]
        ·subst h;rw[hDi];simp
        ·cases e:dof listed k
         ·simp;omega
         ·have:=C8 hp h (hout.trans (by rw[he])) hk (by
           simp only[Iw,zD]
           exact .inr (.inr (Po hc hpt hkb hkp)))
          simp only[zA] at this
          exact(post k _ hko this e).elim
     ·obtain⟨outk,hk,hkb⟩:=hw
      obtain⟨outk',hk',hkb'⟩:=hw'
      have hklt:k<ops.toList.length:=by rw[<-hF.len];exact(List.getElem?_eq_some_iff.1 hk).1
      have hko:ops.toList[k]?=some ops.toList[k]:=by simp[hklt]
      cases outk with
      | none=>simp[Bx.upd,Bm] at hkb
      | some z=>
       cases outk' with
       | none=>simp[Bx.upd,Bm] at hkb'
       | some z'=>
        obtain⟨vk,uk,rdk⟩:=z
        obtain⟨vk',uk',rdk'⟩:=z'
        simp only[Bx.upd] at hkb hkb'
        have:=C8 hp hlt hk' hk (by
         simp only[Iw,zD]
         exact .inl (.inl (.inr (Ei hkb' hkb))))
        simp only[zA] at this
        exact Dx hC hko (hC k _ hko hDk) k' this
   refine Pi hM hu ho hout hDi (λ d hd=>Mb (i:=i) hN ho' hd) (hkv _ (List.mem_of_getElem? ho')) hmove ?_ ?_ λ a' X' hM'=> ?_
   ·intro k t hk hD hdst hw
    obtain⟨ok,hk1,hk2⟩:=hw
    exact post k ok hk1 (tp hk ho' hk1 (.inl (Wx hdst hk2))) hD
   ·intro k b hk hD hbu hw
    obtain⟨outk,hk1,hk2⟩:=hw
    have hklt:k<ops.toList.length:=by rw[<-hF.len];exact(List.getElem?_eq_some_iff.1 hk1).1
    have hko:ops.toList[k]?=some ops.toList[k]:=by simp[hklt]
    cases hoi:outs[i] with
    | none=>rw[hoi] at hbu;simp[Bx.upd,Bm] at hbu
    | some y=>
     obtain⟨v,u,rd⟩:=y
     rw[hoi] at hbu
     cases outk with
     | none=>simp[Bx.upd,Bm] at hk2
     | some z=>
      obtain⟨vk,uk,rdk⟩:=z
      simp only[Bx.upd] at hk2 hbu
      have:=C8 hp hk (hout.trans (by rw[hoi])) hk1 (by
       simp only[Iw,zD]
       exact .inl (.inl (.inr (Ei hbu hk2))))
      simp only[zA] at this
      exact post k _ hko this hD
   ·have hdof:dof (listed.setIfInBounds i true)=Hp (dof listed) i:=by
     funext k
     simp only[dof,Hp]
     by_cases e:k=i
     ·subst e;simp[hsz,h1]
     ·rw[A7.2 e,yK]
      simp[Array.getElem?_setIfInBounds_ne (Ne.symm e)]
    rw[<-hdof] at hM'
    refine ih (listed.setIfInBounds i true) X' a' (by simp[hsz]) ?_ ?_ hM'
    ·have:listed.toList[i]?=some false:=by
      simp[hsz,h1] at h2⊢;exact h2
     have:=S4 this
     simp only[yE]
     omega
    ·rw[hdof]
     intro k ok hk hDk j hj
     by_cases e:k=i
     ·subst e
      rw[ho'] at hk
      cases hk
      exact L7 (h3 j hj)
     ·rw[Oo e] at hDk
      exact L7 (hC k ok hk hDk j hj)
theorem An7{m N:Nat}{X0:Cx}{s0 sf:St}{outs:List Bx}{l1:List Oper}{op:Oper}{tt:Nat}{kk:IntKind}{nn:Int}{uu:Upd}{rr:List Nat}(hu:Bt s0.st)(hl:ops.toList=l1++[op])(hF:G7 P ops.toList s0.nx 0 l1 outs s0 sf)(hN:Ng N ops.toList=true)(hkv:∀o∈ops.toList,∀d,o.dst=some d->E.kv d=none)(hd:S6 ops.toList=true)(hp:Gp (Dd ops.toList []) (Cr 0 outs)=true)(hlast:Xy ops.toList=true)
  (hf:Vg P ops.toList s0.nx l1.length op sf tt kk nn uu rr) (hQ:∀X' a',X'.s={sf with st:=A9 uu sf.st,nx:=s0.nx+16*ops.size}->Inv m N X0 E X' a'->Q (.panic (Nu tt kk nn)) a' X'.w):
  ∀(fuel:Nat) (listed:Array Bool) (X:Cx) (a:Act),listed.size=ops.size->R8 listed.toList=fuel->Xa ops.toList (dof listed)->dof listed l1.length=false->Mid m N X0 E s0 (sig ops.toList outs (dof listed) 0 s0) (dof listed) X a->wpAny P .any ops Q fuel listed a X.w:=by
 have hsz0:ops.size=l1.length+1:=by rw[<-zX,hl];simp
 have hpre:∀D,sig ops.toList outs D 0 s0=sig l1 outs D 0 s0:=λ D=>by rw[hl];exact Ym hF.len
 simp only[S6,z9] at hd
 obtain⟨hb,ht⟩:=hd
 have fin:∀(listed:Array Bool),listed.size=ops.size->(∀i:Nat,listed.toList[i]?≠some false)->dof listed l1.length=false->False:=by
  intro listed hsz hall hp
  refine hall l1.length ?_
  have hlt:l1.length<listed.size:=by omega
  simp only[dof] at hp
  simp[hlt] at hp⊢
  exact hp
 intro fuel
 induction fuel with
 | zero=>
  intro listed X a hsz hcnt hC hPn hM
  have hall:=Qj hcnt
  refine⟨?_,(fin listed hsz hall hPn).elim⟩
  rw[yB]
  intro i hi
  obtain⟨h1,h2,_⟩:=H9.1 hi
  refine hall i ?_
  simp[hsz,h1] at h2⊢
  exact h2
 | succ fuel ih=>
  intro listed X a hsz hcnt hC hPn hM
  refine⟨?_, ?_⟩
  ·intro hr
   refine(fin listed hsz ?_ hPn).elim
   intro i
   induction i using yH with
   | _ i ihi=>
    intro hi
    have hlt:=(List.getElem?_eq_some_iff.1 hi).1
    have hlt':i<ops.size:=by rw[<-hsz];simpa using hlt
    have:i∈Region.ready .any ops listed:=by
     refine H9.2 ⟨hlt', ?_,ops[i],by simp[hlt'], ?_⟩
     ·simp at hlt;simp[hlt] at hi⊢;exact hi
     ·intro j hj
      have hji:=Na hb (i:=i) (x:=ops[i]) (by simp[hlt']) j hj
      rw[zA] at hji
      have:=ihi j hji
      have hjs:j<listed.size:=by omega
      cases e:listed.getD j false
      ·exfalso
       apply this
       simp[hjs] at e⊢
       exact e
      ·rfl
    rw[hr] at this
    simp at this
  ·intro i hi
   obtain⟨h1,h2,o,ho,h3⟩:=H9.1 hi
   by_cases hil:i=l1.length
   ·have hoo:o=op:=by
     rw[<-Array.getElem?_toList,hl,hil] at ho
     simpa using ho.symm
    subst hoo
    have hbits:∀k,k<l1.length->dof listed k=true:=by
     intro k hk
     refine Dx hC (by rw[Array.getElem?_toList];exact ho) h3 k ?_
     simp only[Xy,zP,xB,zX,hsz0,Nat.add_sub_cancel] at hlast
     rw[hil]
     exact hlast k hk
    refine Afs hM hu ho (by rw[hil];exact hPn) (λ k hk=> ?_) ?_ (by rw[hil];exact hf) hQ _
    ·rcases yR k ops.size with h|h
     ·exact h
     ·simp[dof,show¬k<listed.size by omega] at hk
    ·rw[hpre]
     exact(Af7 hu hF.len hbits).trans hF.fin
   have hil':i<l1.length:=by omega
   have hlt':i<outs.length:=by rw[hF.len];exact hil'
   have hout:outs[i]?=some outs[i]:=by simp[hlt']
   have ho':ops.toList[i]?=some o:=by rw[Array.getElem?_toList];exact ho
   have hfact:=hF.fact i o outs[i] (by rw[hl,List.getElem?_append_left hil'] at ho';exact ho') hout
   rw[zA,<-hpre] at hfact
   have hDi:dof listed i=false:=by
    simp[hsz,h1] at h2
    simp[dof,hsz,h1,h2]
   have pri:∀k,zI ((Dd ops.toList []).getD i 0) k=true->dof listed k=true:=Dx hC ho' h3
   have post:∀k o',ops.toList[k]?=some o'->zI ((Dd ops.toList []).getD k 0) i=true->dof listed k=true->False:=by
    intro k o' hk hb hDk
    have:=Dx hC hk (hC k o' hk hDk) i hb
    rw[hDi] at this
    cases this
   have tp:∀{i j:Nat} {x y:Oper},i<j->ops.toList[i]?=some x->ops.toList[j]?=some y->(Kh ops.toList x y=true\/Kh ops.toList y x=true)->zI ((Dd ops.toList []).getD j 0) i=true:=by
    intro i j x y hij hx hy h
    have:=Ob ht hij hx hy h
    simpa using this
   have hbk:∀k,Ax i k=decide (k<i):=λ k=>by simp only[Ax];rw[zO,zC];simp
   have hno:∀{p:Prop} {b:Bool},b=true->b=false->p:=by intro p b h h';rw[h] at h';cases h'
   have hmove:Oe P ops.toList s0.nx i o (sig ops.toList outs (dof listed) 0 s0) outs[i]:=by
    refine Oe.move ?_ ?_ ?_ hfact
    ·intro t htr
     refine Lr t _ _ _ _ _ _ _ (λ k hw=> ?_) rfl
     obtain⟨ok,hk,hkd⟩:=hw
     rw[zA,hbk]
     rcases zR k i with h|h|h
     ·rw[pri k (tp h hk ho' (.inl (J8 hkd htr)))];simp[h]
     ·subst h;rw[hDi];simp
     ·cases e:dof listed k
      ·simp;omega
      ·exact(post k ok hk (tp h ho' hk (.inr (J8 hkd htr))) e).elim
    ·intro v u rd he b hbm
     refine Il b _ _ _ _ _ _ _ hu hu (λ k hw=> ?_) rfl
     obtain⟨outk,hk,hkb⟩:=hw
     rw[zA,hbk]
     have hklt:k<ops.toList.length:=by have:=(List.getElem?_eq_some_iff.1 hk).1;rw[hF.len] at this;rw[hl];simp;omega
     have hko:ops.toList[k]?=some ops.toList[k]:=by simp[hklt]
     cases outk with
     | none=>simp[Bx.upd,Bm] at hkb
     | some z=>
      obtain⟨vk,uk,rdk⟩:=z
      simp only[Bx.upd] at hkb
      rcases zR k i with h|h|h
      ·have:=C8 hp h hk (hout.trans (by rw[he])) (by
        simp only[Iw,zD]
        rcases hbm with hbm|hbm
        ·exact .inl (.inl (.inl (Ei hkb hbm)))
        ·exact .inl (.inl (.inr (Ei hkb hbm))))
       simp only[zA] at this
       rw[pri k this];simp[h]
      ·subst h;rw[hDi];simp
      ·cases e:dof listed k
       ·simp;omega
       ·have:=C8 hp h (hout.trans (by rw[he])) hk (by
         simp only[Iw,zD]
         rcases hbm with hbm|hbm
         ·exact .inl (.inr (Ei hbm hkb))
         ·exact .inl (.inl (.inr (Ei hbm hkb))))
        simp only[zA] at this
        exact(post k _ hko this e).elim
    ·intro v u rd he c hc b o' hpt
     have hb32:b<4294967296:=by
      unfold U4 at hpt
      cases e:zG (c/4294967296) 0<;>rw[e] at hpt<;>simp at hpt
      omega
     have hio:i<outs.length:=(List.getElem?_eq_some_iff.1 hout).1
     rw[hpre,hpre]
     refine Af0 hu hF.len hF.keep hb32 (by rw[<-hF.len];omega) (λ k hw=> ?_) (λ k k' hlt hw hw' hDk=> ?_)
     ·obtain⟨outk,hk,hkb⟩:=hw
      have hklt:k<ops.toList.length:=by have:=(List.getElem?_eq_some_iff.1 hk).1;rw[hF.len] at this;rw[hl];simp;omega
      have hko:ops.toList[k]?=some ops.toList[k]:=by simp[hklt]
      cases outk with
      | none=>simp[Bx.upd,Bm] at hkb
      | some z=>
       obtain⟨vk,uk,rdk⟩:=z
       simp only[Bx.upd] at hkb
       by_cases hkp:G1 (Fj b o')∈rdk
       ·exact .inl ⟨vk,uk,rdk,hk,hkp⟩
       ·right
        rw[hbk]
        rcases zR k i with h|h|h
        ·have:=C8 hp h hk (hout.trans (by rw[he])) (by
          simp only[Iw,zD]
          exact .inr (.inl (Po hc hpt hkb hkp)))
         simp only[zA] at this
         rw[pri k this];simp[h]
        ·subst h;rw[hDi];simp
        ·cases e:dof listed k
         ·simp;omega
         ·have:=C8 hp h (hout.trans (by rw[he])) hk (by
           simp only[Iw,zD]
           exact .inr (.inr (Po hc hpt hkb hkp)))
          simp only[zA] at this
          exact(post k _ hko this e).elim
     ·obtain⟨outk,hk,hkb⟩:=hw
      obtain⟨outk',hk',hkb'⟩:=hw'
      have hklt:k<ops.toList.length:=by have:=(List.getElem?_eq_some_iff.1 hk).1;rw[hF.len] at this;rw[hl];simp;omega
      have hko:ops.toList[k]?=some ops.toList[k]:=by simp[hklt]
      cases outk with
      | none=>simp[Bx.upd,Bm] at hkb
      | some z=>
       cases outk' with
       | none=>simp[Bx.upd,Bm] at hkb'
       | some z'=>
        obtain⟨vk,uk,rdk⟩:=z
        obtain⟨vk',uk',rdk'⟩:=z'
        simp only[Bx.upd] at hkb hkb'
        have:=C8 hp hlt hk' hk (by
         simp only[Iw,zD]
         exact .inl (.inl (.inr (Ei hkb' hkb))))
        simp only[zA] at this
        exact Dx hC hko (hC k _ hko hDk) k' this
   refine Pi hM hu ho hout hDi (λ d hd=>Mb (i:=i) hN ho' hd) (hkv _ (List.mem_of_getElem? ho')) hmove ?_ ?_ λ a' X' hM'=> ?_
   ·intro k t hk hD hdst hw
    obtain⟨ok,hk1,hk2⟩:=hw
    exact post k ok hk1 (tp hk ho' hk1 (.inl (Wx hdst hk2))) hD
   ·intro k b hk hD hbu hw
    obtain⟨outk,hk1,hk2⟩:=hw
    have hklt:k<ops.toList.length:=by have:=(List.getElem?_eq_some_iff.1 hk1).1;rw[hF.len] at this;rw[hl];simp;omega
    have hko:ops.toList[k]?=some ops.toList[k]:=by simp[hklt]
    cases hoi:outs[i] with
    | none=>rw[hoi] at hbu;simp[Bx.upd,Bm] at hbu
    | some y=>
     obtain⟨v,u,rd⟩:=y
     rw[hoi] at hbu
     cases outk with
     | none=>simp[Bx.upd,Bm] at hk2
     | some z=>
      obtain⟨vk,uk,rdk⟩:=z
      simp only[Bx.upd] at hk2 hbu
      have:=C8 hp hk (hout.trans (by rw[hoi])) hk1 (by
       simp only[Iw,zD]
       exact .inl (.inl (.inr (Ei hbu hk2))))
      simp only[zA] at this
      exact post k _ hko this hD
   ·have hdof:dof (listed.setIfInBounds i true)=Hp (dof listed) i:=by
     funext k
     simp only[dof,Hp]
     by_cases e:k=i
     ·subst e;simp[hsz,h1]
     ·rw[A7.2 e,yK]
      simp[Array.getElem?_setIfInBounds_ne (Ne.symm e)]
    rw[<-hdof] at hM'
    refine ih (listed.setIfInBounds i true) X' a' (by simp[hsz]) ?_ ?_ (by rw[hdof,Oo (by omega)];exact hPn) hM'
    ·have:listed.toList[i]?=some false:=by
      simp[hsz,h1] at h2⊢;exact h2
     have:=S4 this
     simp only[yE]
     omega
    ·rw[hdof]
     intro k ok hk hDk j hj
     by_cases e:k=i
     ·subst e
      rw[ho'] at hk
      cases hk
      exact L7 (h3 j hj)
     ·rw[Oo e] at hDk
      exact L7 (hC k ok hk hDk j hj)
end Go.Ev
namespace Go.Ev
variable{R:Type}{E:Env}{X:Cx}{P:Program}
structure En(E:Env)(X X':Cx):Prop where
 rel:Rel E X'
 ext:Ext X X'
 S:GS X'.S X.S
 w:X'.w=X.w
 tm:X'.s.tm=X.s.tm
 nx:X.s.nx<=X'.s.nx
 top:∀b,X'.s.nx<=b->X'.cm b=none
def Top(X:Cx):Prop:=∀b,X.s.nx<=b->X.cm b=none
theorem En.refl(hR:Rel E X)(hT:Top X):En E X X:=⟨hR,.refl X,.refl _,rfl,rfl,zE _,hT⟩
theorem En.trans{X Y Z:Cx}(h:En E X Y)(k:En E Y Z):En E X Z:=⟨k.rel,h.ext.trans k.ext,k.S.trans h.S,k.w.trans h.w,k.tm.trans h.tm,yD h.nx k.nx,k.top⟩
def Mu(X X':Cx):Prop:=∀b ro v ps,look b X.s.st=some (.cell ro v ps)->Sb ps=none->look b X'.s.st=some (.cell ro v ps)/\X'.cm b=X.cm b
theorem Mu.refl(X:Cx):Mu X X:=λ _ _ _ _ h _=>⟨h,rfl⟩
theorem Mu.trans{X Y Z:Cx}(h:Mu X Y)(k:Mu Y Z):Mu X Z:=λ b ro v ps hl hr=>by
 obtain⟨h1,h2⟩:=h b ro v ps hl hr
 obtain⟨k1,k2⟩:=k b ro v ps h1 hr
 exact⟨k1,k2.trans h2⟩
theorem Mm(hR:Rel E X)(hT:Top X){K:Ki}{l:List K.den}{ks:List Nat}{A:Option Addr}{c:Nat}{fp:List Nat}(hks:∀b∈ks,∃ro v K l,look b X.s.st=some (.cell ro v [.rw K l]))(ho:Gc X.w K.size l.length (Az X.w (X.S none) K l) (.slice A l.length c) fp)(hf:C1 X ks fp)
  {st':List (Nat×Blk)} (hst:∀b,look b st'=look b (A9 ((X.s.nx,some (.cell false 0 [.rw K l]))::Bv ks) X.s.st)) (hu:Bt st'):
  ∃X',X'.s={X.s with st:=st',nx:=X.s.nx+1}/\En E X X'/\VRel X' (.sl X.s.nx) (.slice A l.length c)/\Mu X X':=by
 have hks':∀b∈ks,∃x,look b X.s.st=some x:=λ b hb=>by
  obtain⟨ro,v,K,l,h⟩:=hks b hb
  exact⟨_,h⟩
 have hF:Of X X.s.nx:=λ b hb _=>hT b hb
 have hN:Gf E X X.s.nx (.cell false 0 [.rw K l]) ks (.row A l.length c K.size fp) X.w (λ _=>False) (C2 X X.s.nx (.cell false 0 [.rw K l]) ks (.row A l.length c K.size fp) X.w):=
  ⟨rfl,rfl,rfl,rfl,hF,hks',rfl,rfl,rfl,zE _,λ _ _ _=>rfl,λ g hg=>hg.elim⟩
 have hG:=hN.good (v:=.sl X.s.nx) (val:=.slice A l.length c) hR (λ hx=>.row rfl rfl (Gc.move ho (hx.sts none) λ g hg=>rfl)) hf.nodup
  (λ g hg=>by
   obtain⟨b,x,cb,q1,q2,q3,q4⟩:=hf.mem g hg
   obtain⟨cb',j1,_,_,j4⟩:=hR.blk b x q2
   rw[q3] at j1
   cases j1
   exact⟨(j4 g q4).1,.inr ⟨b,x,cb,.inr q1,q2,q3,q4⟩⟩)
  (λ hx=>.sl (sz:=K.size) (fp:=fp) (by simp[C2]))
 let Y:=Mr (C2 X X.s.nx (.cell false 0 [.rw K l]) ks (.row A l.length c K.size fp) X.w) {X.s with st:=st',nx:=X.s.nx+1}
 have hx:Ext (C2 X X.s.nx (.cell false 0 [.rw K l]) ks (.row A l.length c K.size fp) X.w) Y:=Ext.seq rfl rfl rfl λ b=>hst b
 refine⟨Y,rfl,⟨hG.rel.seq rfl rfl rfl (λ b=>hst b) hu,hG.ext.trans hx,.refl _,rfl,rfl,Nat.le_succ _, ?_⟩,hG.val.ext hx, ?_⟩
 ·intro b hb
  have hb':X.s.nx+1<=b:=hb
  show(if b=X.s.nx then some _ else X.cm b)=none
  rw[if_neg (by omega)]
  exact hT b (by omega)
 ·intro b ro v ps hl hrow
  have hne:b≠X.s.nx:=by
   intro e
   obtain⟨cb,hcb,_⟩:=hR.blk b _ hl
   rw[hT b (by omega)] at hcb
   cases hcb
  have hnk:b∉ks:=by
   intro hm
   obtain⟨ro',v',K',l',h⟩:=hks b hm
   rw[hl] at h
   cases h
   simp[Sb] at hrow
  refine⟨?_, ?_⟩
  ·show look b st'=_
   rw[hst,B3 _ _ hR.uq]
   simp only[Dc,Gw,if_neg hnk,if_neg hne]
   exact hl
  ·show(if b=X.s.nx then some _ else X.cm b)=X.cm b
   rw[if_neg hne]
theorem Vm(hR:Rel E X)(hT:Top X){m:Nat}{all:List Nat}{a a':AV}{s':St}{v:Value}(hv:VRel X a v)(h:Kt m all a X.s=(a',s')):∃X',X'.s=s'/\En E X X'/\VRel X' a' v/\(a.plain=true->a'.plain=true)/\(a.norw=true->a'.norw=true)/\Mu X X':=by
 have keep:(a,X.s)=(a',s')->∃X',X'.s=s'/\En E X X'/\VRel X' a' v/\(a.plain=true->a'.plain=true)/\(a.norw=true->a'.norw=true)/\Mu X X':=by
  intro e
  cases e
  exact⟨X,rfl,.refl hR hT,hv,id,id,.refl X⟩
 unfold Kt at h
 split at h
 ·rename_i K
  cases h
  cases hv
  obtain⟨X',h1,h2,h3,h4⟩:=Mm (K:=K) (l:=[]) (ks:=[]) (A:=none) (c:=0) (fp:=[]) (st':=put X.s.nx (.cell false 0 [.rw K []]) X.s.st) hR hT (by simp) ⟨none,0,rfl,.inl ⟨rfl,rfl,rfl⟩⟩ .nil (λ b=>by simp[Bv,A9]) (Ho hR.uq)
  exact⟨X',h1,h2,h3,λ _=>rfl,λ _=>rfl,h4⟩
 ·rename_i b o n
  cases hc:zG (cnt b all) 1<;>rw[hc] at h<;>simp only[cond_true,cond_false] at h
  ·exact keep h
  split at h
  case h_2=>exact keep h
  rename_i ver K l hl
  cases h
  have hst:∀k,look k (put X.s.nx (.cell false 0 [.rw K ((l.drop o).take n)]) (del b X.s.st))=look k (A9 ((X.s.nx,some (.cell false 0 [.rw K ((l.drop o).take n)]))::Bv [b]) X.s.st):=by
   intro k
   have hne:X.s.nx≠b:=by
    intro e
    obtain⟨cb,hcb,_⟩:=hR.blk b _ hl
    rw[hT b (by omega)] at hcb
    cases hcb
   rw[B3 _ _ hR.uq]
   simp only[Dc,Gw,zY]
   rw[Pf,Lf _ hR.uq]
   by_cases h1:k=X.s.nx
   ·subst h1;simp[hne]
   ·by_cases h2:k=b
    ·subst h2;simp[h1]
    ·simp[h1,h2]
  obtain⟨A,cc,fp,u1,u2,u3,u4⟩:=Cd hR hl
  have hlive:∀b'∈[b],∃ro v K l,look b' X.s.st=some (.cell ro v [.rw K l]):=by
   intro b' hb'
   rw[zY] at hb'
   subst hb'
   exact⟨_,_,_,_,hl⟩
  cases hv with
  | ss0 hcm ho=>
   have hz:(l.drop o).take 0=[]:=rfl
   rw[hz] at hst⊢
   obtain⟨X',h1,h2,h3,h4⟩:=Mm (K:=K) (l:=[]) (ks:=[b]) (c:=0) (fp:=[]) hR hT hlive ⟨_,0,rfl,.inl ⟨rfl,rfl,rfl⟩⟩ ⟨by simp,by simp⟩ hst (Ho (Hn hR.uq))
   exact⟨X',h1,h2,h3,λ _=>rfl,λ _=>rfl,h4⟩
  | ss hcm v1 v2 v3=>
   rw[u1] at hcm
   cases hcm
   obtain⟨f',q1,q2⟩:=H6 rfl u2 v1 v2 v3
   have hlen:((l.drop o).take n).length=n:=by simp;omega
   have hfk:C1 X [b] f':=by
    have:=C1.nil.cons hR hl u1 q2 (by simp)
    simpa using this
   obtain⟨X',h1,h2,h3,h4⟩:=Mm (K:=K) (l:=(l.drop o).take n) (ks:=[b]) hR hT hlive (by rw[hlen];exact q1) hfk hst (Ho (Hn hR.uq))
   rw[hlen] at h3
   exact⟨X',h1,h2,h3,λ _=>rfl,λ _=>rfl,h4⟩
 ·rename_i b
  cases hc:(zS b m&&zG (cnt b all) 1)<;>rw[hc] at h<;>simp only[cond_true,cond_false] at h
  ·exact keep h
  split at h
  case h_2=>exact keep h
  rename_i ver K l hl
  cases h
  have hst:∀k,look k (put X.s.nx (.cell false 0 [.rw K l]) (del b X.s.st))=look k (A9 ((X.s.nx,some (.cell false 0 [.rw K l]))::Bv [b]) X.s.st):=by
   intro k
   have hne:X.s.nx≠b:=by
    intro e
    obtain⟨cb,hcb,_⟩:=hR.blk b _ hl
    rw[hT b (by omega)] at hcb
    cases hcb
   rw[B3 _ _ hR.uq]
   simp only[Dc,Gw,zY]
   rw[Pf,Lf _ hR.uq]
   by_cases h1:k=X.s.nx
   ·subst h1;simp[hne]
   ·by_cases h2:k=b
    ·subst h2;simp[h1]
    ·simp[h1,h2]
  obtain⟨A,cc,fp,u1,u2,u3,u4⟩:=Cd hR hl
  have hlive:∀b'∈[b],∃ro v K l,look b' X.s.st=some (.cell ro v [.rw K l]):=by
   intro b' hb'
   rw[zY] at hb'
   subst hb'
   exact⟨_,_,_,_,hl⟩
  cases hv with
  | sl hcm=>
   rw[u1] at hcm
   cases hcm
   have hfk:C1 X [b] fp:=by
    have:=C1.nil.cons hR hl u1 (List.Sublist.refl fp) (by simp)
    simpa using this
   obtain⟨X',h1,h2,h3,h4⟩:=Mm (K:=K) (l:=l) (ks:=[b]) hR hT hlive u2 hfk hst (Ho (Hn hR.uq))
   exact⟨X',h1,h2,h3,λ _=>rfl,λ _=>rfl,h4⟩
 ·exact keep h
theorem En.fp{X X':Cx}(h:En E X X')(fp:List Nat):∀g∈fp,X'.w.heap[g]?=X.w.heap[g]?:=λ g _=>by rw[h.w]
theorem H7{m:Nat}:∀{X:Cx} {all:List Nat} {ps qs:List AV} {s':St} {cs:List Value} {fp:List Nat},Rel E X->Top X->PRs X ps cs fp->Fx m all ps X.s=(qs,s')->∃X',X'.s=s'/\En E X X'/\PRs X' qs cs fp/\((∀a∈ps,a.norw=true)->∀a∈qs,a.norw=true)/\Mu X X'
 | X,all,_,qs,s',_,_,hR,hT,.nil,h=>by
  simp only[Fx,zF] at h
  obtain⟨rfl,rfl⟩:=h
  exact⟨X,rfl,.refl hR hT,.nil,λ h=>h,.refl X⟩
 | X,all,_,qs,s',_,fp,hR,hT, @PRs.one _ a v r cs _ h1 h2 h3 h4,h=>by
  simp only[Fx] at h
  generalize hc:Kt m all a X.s=z at h
  obtain⟨a',s1⟩:=z
  simp only at h
  generalize hr:Fx m all r s1=z at h
  obtain⟨r',s2⟩:=z
  simp only[zF] at h
  obtain⟨rfl,rfl⟩:=h
  obtain⟨X1,k1,k2,k3,k4,k5,k6⟩:=Vm hR hT h3 hc
  subst k1
  obtain⟨X2,j1,j2,j3,j4,j5⟩:=H7 k2.rel k2.top (h4.ext k2.ext (k2.fp fp)) hr
  refine⟨X2,j1,k2.trans j2,.one (k4 h1) h2 (k3.ext j2.ext) j3,λ hn a ha=> ?_,k6.trans j5⟩
  rcases List.mem_cons.1 ha with rfl|ha
  ·exact k5 (hn _ (by simp))
  ·exact j4 (λ a ha=>hn a (by simp[ha])) a ha
 | X,all,_,qs,s',_,_,hR,hT, @PRs.arr _ n K l r c1 cs f1 fp h1 h2 h3,h=>by
  simp only[Fx,Kt] at h
  generalize hr:Fx m all r X.s=z at h
  obtain⟨r',s2⟩:=z
  simp only[zF] at h
  obtain⟨rfl,rfl⟩:=h
  obtain⟨X2,j1,j2,j3,j4,j5⟩:=H7 hR hT h3 hr
  refine⟨X2,j1,j2,.arr h1 (h2.move (j2.ext.sts none) (j2.fp f1)) j3,λ hn a ha=> ?_,j5⟩
  rcases List.mem_cons.1 ha with rfl|ha
  ·rfl
  ·exact j4 (λ a ha=>hn a (by simp[ha])) a ha
 | X,all,_,qs,s',_,_,hR,hT, @PRs.nl _ K l v r cs f1 fp h1 h3,h=>by
  simp only[Fx,Kt] at h
  generalize hr:Fx m all r X.s=z at h
  obtain⟨r',s2⟩:=z
  simp only[zF] at h
  obtain⟨rfl,rfl⟩:=h
  obtain⟨X2,j1,j2,j3,j4,j5⟩:=H7 hR hT h3 hr
  refine⟨X2,j1,j2,.nl (h1.move (j2.ext.sts none) (j2.fp f1)) j3,λ hn a ha=> ?_,j5⟩
  rcases List.mem_cons.1 ha with rfl|ha
  ·rfl
  ·exact j4 (λ a ha=>hn a (by simp[ha])) a ha
 | X,all,_,qs,s',_,_,hR,hT, @PRs.rw _ K l r c1 cs f1 fp h2 h3,h=>by
  simp only[Fx,Kt] at h
  generalize hr:Fx m all r X.s=z at h
  obtain⟨r',s2⟩:=z
  simp only[zF] at h
  obtain⟨rfl,rfl⟩:=h
  obtain⟨X2,j1,j2,j3,j4,j5⟩:=H7 hR hT h3 hr
  refine⟨X2,j1,j2,.rw (h2.move (j2.ext.sts none) (j2.fp f1)) j3,λ hn a ha=> ?_,j5⟩
  exact absurd (hn _ (zU ..)) (by simp[AV.norw])
theorem Vn{all:List Nat}{a a':AV}{s':St}{v:Value}(hR:Rel E X)(hT:Top X)(hv:VRel X a v)(h:S3 all a X.s=(a',s')):∃X',X'.s=s'/\En E X X'/\VRel X' a' v:=by
 unfold S3 at h
 split at h
 ·rename_i ps
  generalize hr:Fx 0 all ps X.s=z at h
  obtain⟨qs,s1⟩:=z
  simp only[zF] at h
  obtain⟨rfl,rfl⟩:=h
  cases hv with
  | agg hp hn=>
   obtain⟨X',j1,j2,j3,j4,_⟩:=H7 hR hT hp hr
   exact⟨X',j1,j2,.agg j3 (j4 hn)⟩
 ·obtain⟨X',k1,k2,k3,_⟩:=Vm hR hT hv h
  exact⟨X',k1,k2,k3⟩
theorem Vp{all:List Nat}:∀{X:Cx} {as as':List AV} {s':St} {vs:List Value},Rel E X->Top X->B2 X as vs->Nf all as X.s=(as',s')->∃X',X'.s=s'/\En E X X'/\B2 X' as' vs
 | X,_,as',s',_,hR,hT,.nil,h=>by
  simp only[Nf,zF] at h
  obtain⟨rfl,rfl⟩:=h
  exact⟨X,rfl,.refl hR hT,.nil⟩
 | X,_,as',s',_,hR,hT, @B2.cons _ a v as vs h1 h2,h=>by
  simp only[Nf] at h
  generalize hc:S3 all a X.s=z at h
  obtain⟨a',s1⟩:=z
  simp only at h
  generalize hr:Nf all as s1=z at h
  obtain⟨r',s2⟩:=z
  simp only[zF] at h
  obtain⟨rfl,rfl⟩:=h
  obtain⟨X1,k1,k2,k3⟩:=Vn hR hT h1 hc
  subst k1
  obtain⟨X2,j1,j2,j3⟩:=Vp k2.rel k2.top (h2.ext k2.ext) hr
  exact⟨X2,j1,k2.trans j2,.cons (k3.ext j2.ext) j3⟩
theorem Vq{all:List Nat}{a a':AV}{s':St}{v:Value}(hR:Rel E X)(hT:Top X)(hv:VRel X a v)(h:Qi all a X.s=(a',s')):∃X',X'.s=s'/\En E X X'/\VRel X' a' v:=by
 unfold Qi at h
 split at h
 ·rename_i vs
  generalize hr:Nf all vs X.s=z at h
  obtain⟨qs,s1⟩:=z
  simp only[zF] at h
  obtain⟨rfl,rfl⟩:=h
  cases hv with
  | tup hp=>
   obtain⟨X',j1,j2,j3⟩:=Vp hR hT hp hr
   exact⟨X',j1,j2,.tup j3⟩
 ·exact Vn hR hT hv h
def Yz(X:Cx)(a:Act)(l:List (Nat×AV)):Prop:=∀x∈l,VRel X x.2 (a.tmps.getD x.1 undef)
theorem Vo{all:List Nat}{a:Act}:∀{l l':List (Nat×AV)} {X:Cx} {s':St},Rel E X->Top X->Yz X a l->Nd all l X.s=(l',s')->∃X',X'.s=s'/\En E X X'/\Yz X' a l'
 | [],l',X,s',hR,hT,hk,h=>by
  simp only[Nd,zF] at h
  obtain⟨rfl,rfl⟩:=h
  exact⟨X,rfl,.refl hR hT,hk⟩
 | (i,x)::r,l',X,s',hR,hT,hk,h=>by
  simp only[Nd] at h
  generalize hc:Qi all x X.s=z at h
  obtain⟨x',s1⟩:=z
  simp only at h
  generalize hr:Nd all r s1=z at h
  obtain⟨r',s2⟩:=z
  simp only[zF] at h
  obtain⟨rfl,rfl⟩:=h
  obtain⟨X1,k1,k2,k3⟩:=Vq hR hT (hk _ (zU ..)) hc
  subst k1
  obtain⟨X2,j1,j2,j3⟩:=Vo k2.rel k2.top (λ y hy=>(hk y (by simp[hy])).ext k2.ext) hr
  refine⟨X2,j1,k2.trans j2, ?_⟩
  intro y hy
  rcases List.mem_cons.1 hy with rfl|hy
  ·exact k3.ext j2.ext
  ·exact j3 y hy
theorem Ahu{ps:List AV}(h:∀a∈ps,a.norw=true):Sb ps=none:=by
 unfold Sb
 split
 ·rename_i K l
  have:=h _ (zU ..)
  simp[AV.norw] at this
 ·rfl
theorem Jk{m:Nat}{all:List Nat}:∀{ids:List Nat} {X:Cx},Rel E X->Top X->∃X',X'.s=Nc m all ids X.s/\En E X X'
 | [],X,hR,hT=>⟨X,rfl,.refl hR hT⟩
 | b::r,X,hR,hT=>by
  simp only[Nc]
  split
  case h_2=>exact Jk hR hT
  rename_i ro v ps hl
  cases hrow:Sb ps with
  | some K=>exact Jk hR hT
  | none=>
   simp only
   generalize hc:Fx m all ps X.s=z
   obtain⟨qs,s1⟩:=z
   simp only
   obtain⟨cb,c1,c2,c3,c4⟩:=hR.blk b _ hl
   cases c2 with
   | row h1 h2 h3=>simp[Sb] at hrow
   | @box g fps _ _ _ cur h1 h2 h3=>
    obtain⟨X1,k1,k2,k3,k4,k5⟩:=H7 hR hT h3 hc
    subst k1
    obtain⟨l1,l2⟩:=k5 b ro v ps hl hrow
    rw[c1] at l2
    have hq:=k4 h1
    let Y:=Mr X1 {X1.s with st:=put b (.cell ro v qs) X1.s.st}
    have hlk:∀k,look k Y.s.st=if k=b then some (.cell ro v qs) else look k X1.s.st:=λ k=>Pf _ _
    have hx:Ext X1 Y:=by
     refine⟨λ k c h=>⟨c,h,c.same_refl⟩,λ n g h=>⟨h,rfl⟩, ?_⟩
     intro k c hcm ro' v' ps' hl'
     rw[hlk] at hl'
     by_cases e:k=b
     ·subst e
      simp only[if_true,zB,Blk.cell.injEq] at hl'
      obtain⟨rfl,rfl,rfl⟩:=hl'
      refine⟨ro,v,ps,l1,zE _,λ _ hn=> ?_⟩
      obtain⟨K,l,e1,_⟩:=hn
      have:=Ahu hq
      rw[e1] at this
      simp[Sb] at this
     ·rw[if_neg e] at hl'
      exact⟨ro',v',ps',hl',zE _,λ _ _=>⟨rfl,rfl,rfl,λ _ _=>rfl⟩⟩
    have hRY:Rel E Y:=by
     refine⟨?_, ?_,k2.rel.out, ?_,k2.rel.fr,Ho k2.rel.uq⟩
     ·intro k x hk
      rw[hlk] at hk
      by_cases e:k=b
      ·subst e
       simp only[if_true,zB] at hk
       subst hk
       obtain⟨cb1,m1,m2,m3,m4⟩:=k2.rel.blk k _ l1
       rw[l2] at m1
       cases m1
       exact⟨_,l2,.box hq (by have:=h2;exact this.same (by show X1.w.heap[g]?=_;rw[k2.w])) (k3.ext hx (λ _ _=>rfl)),m3,m4⟩
      ·rw[if_neg e] at hk
       obtain⟨cb1,m1,m2,m3,m4⟩:=k2.rel.blk k x hk
       exact⟨cb1,m1,m2.ext hx (λ _ _=>rfl),m3,m4⟩
     ·intro k k' x x' cb cb' g' hk hk' hc hc' hg hg'
      have live:∀{k x},look k Y.s.st=some x->∃x,look k X1.s.st=some x:=by
       intro k x hk
       rw[hlk] at hk
       by_cases e:k=b
       ·subst e;exact⟨_,l1⟩
       ·rw[if_neg e] at hk;exact⟨_,hk⟩
      obtain⟨y,hy⟩:=live hk
      obtain⟨y',hy'⟩:=live hk'
      exact k2.rel.dis k k' y y' cb cb' g' hy hy' hc hc' hg hg'
     ·intro g' hg'
      obtain⟨f1,f2,f3⟩:=k2.rel.frz g' hg'
      refine⟨f1,f2,λ k x cb hk hc=> ?_⟩
      rw[hlk] at hk
      by_cases e:k=b
      ·subst e;exact f3 _ _ cb l1 hc
      ·rw[if_neg e] at hk;exact f3 k x cb hk hc
    have hQ:En E X Y:=⟨hRY,k2.ext.trans hx,k2.S,k2.w,k2.tm,k2.nx,k2.top⟩
    obtain⟨X2,m1,m2⟩:=Jk (m:=m) (all:=all) (ids:=r) hRY hQ.top
    exact⟨X2,m1,hQ.trans m2⟩
end Go.Ev
namespace Go.Ev
variable{R:Type}{E:Env}{X:Cx}{P:Program}
theorem Uz{q:Cg}(hq:Gz q=true)(g:Nat)(h:X.Sof q g):X.Sof (.reg 0) g:=by
 cases q with
 | frz=>exact .inr h
 | reg n=>
  rcases h with⟨m,_,h⟩|h
  ·exact .inl ⟨m,yA _,h⟩
  ·exact .inr h
 | ver b v=>simp[Gz] at hq
theorem Afm{md:Nat}(g:Nat)(h:X.S none g):X.Sof (fzP md) g:=by
 unfold fzP
 cases md with
 | zero=>exact h
 | succ n=>exact .inr h
theorem Xr{md:Nat}:Kn X (fzP md):=by unfold fzP;cases md<;>trivial
theorem V7(hR:Rel E X)(hT:Top X){b v:Nat}{ro:Bool}{K:Ki}{l:List K.den}(hl:look b X.s.st=some (.cell ro v [.rw K l])):
  ∃A c fp Y,X.cm b=some (.row A l.length c K.size fp)/\Gc X.w K.size l.length (Az X.w (X.S none) K l) (.slice A l.length c) fp/\Y.s={X.s with st:=del b X.s.st}/\En E X Y/\(∀g∈fp,Y.S none g)/\Y.cm=X.cm:=by
 obtain⟨A,c,fp,Y,u1,u2,u3,u4,u5,u6,u7,u8,u9⟩:=Afh hR hl
 refine⟨A,c,fp,Y,u1,u2,u3,⟨u4,u5,u6,u7,by rw[u3],by rw[u3];exact zE _,λ b hb=> ?_⟩,u8,u9⟩
 rw[u9]
 exact hT b (by rw[u3] at hb;exact hb)
theorem Afi(hR:Rel E X)(hT:Top X){md:Nat}{a a':AV}{s':St}{v:Value}(hv:VRel X a v)(h:Aaf md a X.s=(a',s')):∃X',X'.s=s'/\En E X X'/\VRel X' a' v/\(a.plain=true->a'.plain=true)/\(a.norw=true->a'.norw=true):=by
 have keep:(a,X.s)=(a',s')->∃X',X'.s=s'/\En E X X'/\VRel X' a' v/\(a.plain=true->a'.plain=true)/\(a.norw=true->a'.norw=true):=by
  intro e
  cases e
  exact⟨X,rfl,.refl hR hT,hv,id,id⟩
 unfold Aaf at h
 split at h
 ·rename_i K
  cases h
  cases hv
  exact⟨X,rfl,.refl hR hT,.ro (zE _) (.inl rfl) Xr λ _=>⟨none,0,rfl,zE _,.inl rfl⟩,λ _=>rfl,λ _=>rfl⟩
 ·rename_i b
  split at h
  case h_2=>exact keep h
  rename_i ver K l hl
  cases h
  obtain⟨A,c,fp,Y,u1,u2,u3,u4,u5,_⟩:=V7 hR hT hl
  cases hv with
  | sl hcm=>
   rw[u1] at hcm
   cases hcm
   obtain⟨k1,k2,k3⟩:=u2.ro (S:=Y.Sof (fzP md)) rfl λ g hg=>Afm g (u5 g hg)
   exact⟨Y,u3,u4,.ro k1 k2 Xr λ _=>Fo k3 (λ g hg=>⟨hg,by rw[u4.w]⟩) λ cs hc=>Di hc (λ g hg=>⟨hg,by rw[u4.w]⟩) λ g hg=>u4.ext.sts none g hg,λ _=>rfl,λ _=>rfl⟩
 ·rename_i b o n
  split at h
  case h_2=>exact keep h
  rename_i ver K l hl
  cases h
  obtain⟨A,c,fp,Y,u1,u2,u3,u4,u5,_⟩:=V7 hR hT hl
  cases hv with
  | ss0 hcm ho=>
   have hz:(l.drop o).take 0=[]:=rfl
   rw[hz]
   exact⟨Y,u3,u4,.ro (zE _) (.inl rfl) Xr λ _=>⟨_,0,rfl,zE _,.inl rfl⟩,λ _=>rfl,λ _=>rfl⟩
  | ss hcm v1 v2 v3=>
   rw[u1] at hcm
   cases hcm
   obtain⟨f',q1,q2⟩:=H6 rfl u2 v1 v2 v3
   have hlen:((l.drop o).take n).length=n:=by simp;omega
   obtain⟨k1,k2,k3⟩:=q1.ro (S:=Y.Sof (fzP md)) hlen.symm λ g hg=>Afm g (u5 g (q2.subset hg))
   have:=VRel.ro (X:=Y) (q:=fzP md) (K:=K) (l:=(l.drop o).take n) (by rw[hlen];exact k1) (by rw[hlen];exact k2) Xr λ _=>by rw[hlen];exact Fo k3 (λ g hg=>⟨hg,by rw[u4.w]⟩) λ cs hc=>Di hc (λ g hg=>⟨hg,by rw[u4.w]⟩) λ g hg=>u4.ext.sts none g hg
   rw[hlen] at this
   exact⟨Y,u3,u4,this,λ _=>rfl,λ _=>rfl⟩
 ·rename_i q K l
  cases hq:(Gz q&& !(zG md 0))<;>rw[hq] at h<;>simp only[cond_true,cond_false] at h
  ·exact keep h
  cases h
  simp only[z9] at hq
  have hvalid:valid X.s q=true:=by cases q<;>first|rfl|simp[Gz] at hq
  cases hv with
  | ro h1 h2 hk hr=>exact⟨X,rfl,.refl hR hT,.ro h1 h2 trivial λ _=>Fo (hr hvalid) (λ g hg=>⟨Uz hq.1 g hg,rfl⟩) λ cs hc=>Di hc (λ g hg=>⟨Uz hq.1 g hg,rfl⟩) (λ g hg=>⟨hg,rfl⟩),λ _=>rfl,λ _=>rfl⟩
 ·rename_i q t
  cases hq:(Gz q&& !(zG md 0))<;>rw[hq] at h<;>simp only[cond_true,cond_false] at h
  ·exact keep h
  cases h
  simp only[z9] at hq
  cases hv with
  | tr h1 h2=>exact⟨X,rfl,.refl hR hT,.tr (by simp) (h2.move λ g hg=>⟨Uz hq.1 g hg,rfl⟩),λ _=>rfl,λ _=>rfl⟩
 ·exact keep h
theorem O5{md:Nat}:∀{X:Cx} {ps qs:List AV} {s':St} {cs:List Value} {fp:List Nat},Rel E X->Top X->PRs X ps cs fp->Qq md ps X.s=(qs,s')->∃X',X'.s=s'/\En E X X'/\PRs X' qs cs fp/\((∀a∈ps,a.norw=true)->∀a∈qs,a.norw=true)
 | X,_,qs,s',_,_,hR,hT,.nil,h=>by
  simp only[Qq,zF] at h
  obtain⟨rfl,rfl⟩:=h
  exact⟨X,rfl,.refl hR hT,.nil,λ h=>h⟩
 | X,_,qs,s',_,_,hR,hT,.one (a:=a) h1 h2 h3 h4,h=>by
  simp only[Qq] at h
  generalize hc:Aaf md a X.s=z at h
  obtain⟨x',s1⟩:=z
  simp only at h
  generalize hr:Qq md _ s1=z at h
  obtain⟨r',s2⟩:=z
  simp only[zF] at h
  obtain⟨rfl,rfl⟩:=h
  obtain⟨X1,k1,k2,k3,k4,k5⟩:=Afi hR hT h3 hc
  subst k1
  obtain⟨X2,j1,j2,j3,j4⟩:=O5 k2.rel k2.top (h4.ext k2.ext (k2.fp _)) hr
  refine⟨X2,j1,k2.trans j2,.one (k4 h1) h2 (k3.ext j2.ext) j3,λ hn x hx=> ?_⟩
  rcases List.mem_cons.1 hx with rfl|hx
  ·exact k5 (hn _ (by simp))
  ·exact j4 (λ y hy=>hn y (by simp[hy])) x hx
 | X,_,qs,s',_,_,hR,hT,.arr (n:=n) (K:=K) (l:=l) h1 h2 h3,h=>by
  simp only[Qq] at h
  have e:Aaf md (.arr n K l) X.s=(.arr n K l,X.s):=rfl
  rw[e] at h
  simp only at h
  generalize hr:Qq md _ X.s=z at h
  obtain⟨r',s2⟩:=z
  simp only[zF] at h
  obtain⟨rfl,rfl⟩:=h
  obtain⟨X2,j1,j2,j3,j4⟩:=O5 hR hT h3 hr
  refine⟨X2,j1,j2,.arr h1 (h2.move (j2.ext.sts none) (j2.fp _)) j3,λ hn x hx=> ?_⟩
  rcases List.mem_cons.1 hx with rfl|hx
  ·rfl
  ·exact j4 (λ y hy=>hn y (by simp[hy])) x hx
 | X,_,qs,s',_,_,hR,hT,.nl (K:=K) (l:=l) h1 h3,h=>by
  simp only[Qq] at h
  have e:Aaf md (.nl K l) X.s=(.nl K l,X.s):=rfl
  rw[e] at h
  simp only at h
  generalize hr:Qq md _ X.s=z at h
  obtain⟨r',s2⟩:=z
  simp only[zF] at h
  obtain⟨rfl,rfl⟩:=h
  obtain⟨X2,j1,j2,j3,j4⟩:=O5 hR hT h3 hr
  refine⟨X2,j1,j2,.nl (h1.move (j2.ext.sts none) (j2.fp _)) j3,λ hn x hx=> ?_⟩
  rcases List.mem_cons.1 hx with rfl|hx
  ·rfl
  ·exact j4 (λ y hy=>hn y (by simp[hy])) x hx
 | X,_,qs,s',_,_,hR,hT,.rw (K:=K) (l:=l) h2 h3,h=>by
  simp only[Qq] at h
  have e:Aaf md (.rw K l) X.s=(.rw K l,X.s):=rfl
  rw[e] at h
  simp only at h
  generalize hr:Qq md _ X.s=z at h
  obtain⟨r',s2⟩:=z
  simp only[zF] at h
  obtain⟨rfl,rfl⟩:=h
  obtain⟨X2,j1,j2,j3,j4⟩:=O5 hR hT h3 hr
  refine⟨X2,j1,j2,.rw (h2.move (j2.ext.sts none) (j2.fp _)) j3,λ hn x hx=> ?_⟩
  rcases List.mem_cons.1 hx with rfl|hx
  ·exact hn _ (by simp)
  ·exact j4 (λ y hy=>hn y (by simp[hy])) x hx
theorem Aoq(hR:Rel E X)(hT:Top X){md:Nat}{a a':AV}{s':St}{v:Value}(hv:VRel X a v)(h:Aop md a X.s=(a',s')):∃X',X'.s=s'/\En E X X'/\VRel X' a' v:=by
 unfold Aop at h
 split at h
 ·rename_i ps
  generalize hr:Qq md ps X.s=z at h
  obtain⟨qs,s1⟩:=z
  simp only[zF] at h
  obtain⟨rfl,rfl⟩:=h
  cases hv with
  | agg h1 h2=>
   obtain⟨X1,k1,k2,k3,k4⟩:=O5 hR hT h1 hr
   exact⟨X1,k1,k2,.agg k3 (k4 h2)⟩
 ·obtain⟨X1,k1,k2,k3,_⟩:=Afi hR hT hv h
  exact⟨X1,k1,k2,k3⟩
theorem Xq{m N:Nat}{X0:Cx}{a:Act}:∀{fz:List (Nat×Nat)} {X:Cx},Inv m N X0 E X a->∃X',X'.s=Akg fz X.s/\X'.w=X.w/\Inv m N X0 E X' a
 | [],X,hI=>⟨X,rfl,rfl,hI⟩
 | (i,md)::r,X,hI=>by
  simp only[Akg]
  generalize hc:Aop md (getD .un i X.s.tm) X.s=z
  obtain⟨x',s1⟩:=z
  obtain⟨X1,k1,k2,k3⟩:=Aoq hI.rel hI.top (hI.tr i) hc
  subst k1
  have hx:Ext X1 (Mr X1 {X1.s with tm:=put i x' X1.s.tm}):=Ext.seq rfl rfl rfl λ _=>rfl
  have hI1:Inv m N X0 E (Mr X1 {X1.s with tm:=put i x' X1.s.tm}) a:=by
   refine⟨k2.rel.seq rfl rfl rfl (λ _=>rfl) k2.rel.uq, ?_,k2.top,k2.S.trans hI.S, ?_,(show It E X1 a.defers from hI.defers.ext k2.ext),hI.size,hI.keep⟩
   ·intro t
    show VRel _ (getD .un t (put i x' X1.s.tm)) _
    rw[Hi]
    by_cases e:t=i
    ·rw[if_pos e,e];exact k3.ext hx
    ·rw[if_neg e]
     have:=((hI.tr t).ext k2.ext).ext hx
     rwa[<-k2.tm] at this
   ·intro b cb hb hcm
    obtain⟨cb',q1,q2⟩:=hI.cmx b cb hb hcm
    obtain⟨cb2,q3,q4⟩:=k2.ext.cmx b cb' q1
    exact⟨cb2,q3,CB.same_trans q2 q4⟩
  obtain⟨X2,j1,j2,j3⟩:=Xq (fz:=r) hI1
  exact⟨X2,j1,j2.trans k2.w,j3⟩
end Go.Ev
namespace Go.Ev
variable{R:Type}{E:Env}{X:Cx}{P:Program}
section
variable{α:Type}
theorem Ea:∀{ks:List Nat} {vs:List α} {b:Nat} {x:α},look b (ks.zip vs)=some x->∃j:Nat,ks[j]?=some b/\vs[j]?=some x
 | [],_,_,_,h=>by simp[look] at h
 | _::_,[],_,_,h=>by simp[look] at h
 | k::ks,v::vs,b,x,h=>by
  simp only[yP,look] at h
  cases hb:zG k b<;>rw[hb] at h
  ·obtain⟨j,h1,h2⟩:=Ea (by simpa using h)
   exact⟨j+1,by simpa using h1,by simpa using h2⟩
  ·simp only[cond_true,zB] at h
   subst h
   exact⟨0,by simp[A6.1 hb],rfl⟩
theorem Acj:∀{ks:List Nat} {vs:List α} {b j:Nat} {x:α},ks.Nodup->ks[j]?=some b->vs[j]?=some x->look b (ks.zip vs)=some x
 | [],_,_,_,_,_,h,_=>by simp at h
 | _::_,[],_,_,_,_,_,h=>by simp at h
 | k::ks,v::vs,b,0,x,_,h,h'=>by
  simp only[List.getElem?_cons_zero,zB] at h h'
  subst h h'
  simp[look]
 | k::ks,v::vs,b,j+1,x,hn,h,h'=>by
  simp only[List.getElem?_cons_succ] at h h'
  obtain⟨h1,h2⟩:=List.nodup_cons.1 hn
  have hne:k≠b:=λ e=>h1 (e▸List.mem_of_getElem? h)
  simp only[yP,look,A7.2 hne,cond_false]
  exact Acj h2 h h'
theorem Uw:∀{ks:List Nat} {vs:List α},ks.Nodup->Bt (ks.zip vs)
 | [],_,_=>by simp[Bt]
 | _::_,[],_=>by simp[Bt]
 | k::ks,v::vs,hn=>by
  obtain⟨h1,h2⟩:=List.nodup_cons.1 hn
  refine⟨?_,Uw h2⟩
  cases e:look k (ks.zip vs) with
  | none=>exact e
  | some x=>
   obtain⟨j,h3,_⟩:=Ea e
   exact(h1 (List.mem_of_getElem? h3)).elim
theorem Lt:∀{a b:List (Nat×α)},Bt a->Bt b->(∀k x,look k a=some x->look k b=none)->Bt (a++b)
 | [],b,_,h,_=>h
 | (k,x)::a,b,h1,h2,h3=>by
  refine⟨?_,Lt h1.2 h2 λ j y hj=> ?_⟩
  ·show look k (a++b)=none
   rw[Du,h1.1]
   exact h3 k x (by simp[look])
  ·refine h3 j y ?_
   simp only[look]
   cases hb:zG k j
   ·exact hj
   ·have:=A6.1 hb
    subst this
    rw[h1.1] at hj
    cases hj
theorem Wg:∀(l:List Nat) (b:Nat),look b (l.map λ b=>(b,b))=if b∈l then some b else none
 | [],b=>by simp[look]
 | a::l,b=>by
  simp only[yL,look,zL]
  cases h:zG a b
  ·have:=A7.1 h
   simp only[cond_false,Wg l b]
   by_cases hb:b∈l
   ·simp[hb]
   ·simp[hb,Ne.symm this]
  ·have:=A6.1 h
   subst this
   simp
end
theorem Abf{ok:Nat->Nat->Bool}{m:List (Nat×Nat)}{ro:Bool}{v:Nat}{K:Ki}{l:List K.den}{y:Blk}(h:Lm ok 0 m (.cell ro v [.rw K l])=some y):y=.cell ro 0 [.rw K l]:=by
 simp only[Lm] at h
 split at h
 case h_2=>cases h
 rename_i qs hq
 cases h
 obtain⟨b,bs,e1,e2,rfl⟩:=mapM_cons hq
 rw[Pg e2]
 simp only[ren,zB] at e1
 rw[<-e1]
theorem Abg(hR:Rel E X){m:Nat}{roots:List Nat}{nm:List (Nat×Nat)}{st:List (Nat×Blk)}{ns:List Blk}(h:Wp m X.s roots=some (nm,st,ns))(tm:List (Nat×AV)):
  ∃X',X'.s={tm,st,nx:=m+ns.length}/\X'.w=X.w/\GS X'.S X.S/\Rel E X'/\Top X'/\(∀b,b<m->X'.cm b=X.cm b)/\Sim X X' (λ b v=>valid X.s (.ver b v)) 0 nm/\∀b,m<=b->look b st=ns[b-m]?:=by
 unfold Wp at h
 simp only at h
 generalize hids:R7 X.s.st 64 (yM m++roots) []=ids at h
 generalize hold:ids.filter (λ b=>zS b m)=old at h
 generalize hnew:ids.filter (λ b=> !(zS b m))=new at h
 split at h
 case h_2=>cases h
 rename_i os ns' hos hns
 obtain⟨hnd,h⟩:=An h
 rw[Dm] at hnd
 simp only[zB,zF] at h
 obtain⟨rfl,rfl,rfl⟩:=h
 have oldlt:∀b∈old,b<m:=by
  intro b hb
  rw[<-hold,zV] at hb
  have:=hb.2
  rwa[zC] at this
 have newge:∀b∈new,m<=b:=by
  intro b hb
  rw[<-hnew,zV] at hb
  have:=hb.2
  rw[zN,<-zK,zC] at this
  omega
 have oldnd:old.Nodup:=by rw[<-hold];exact hnd.filter _
 have newnd:new.Nodup:=by rw[<-hnew];exact hnd.filter _
 obtain⟨o1,o2⟩:=Hb hos
 obtain⟨n1,n2⟩:=Hb hns
 have lnm:∀{b b':Nat},look b (old.map (λ b=>(b,b))++Bh m new)=some b'->(b∈old/\b'=b)\/(m<=b'/\new[b'-m]?=some b):=by
  intro b b' hb
  rw[Du,Wg] at hb
  by_cases hm:b∈old
  ·rw[if_pos hm] at hb
   simp only[zB] at hb
   exact .inl ⟨hm,hb.symm⟩
  ·rw[if_neg hm] at hb
   exact .inr (I3 hb)
 have lst:∀{b:Nat} {x:Blk},look b (old.zip os++Gl m ns')=some x->(b<m/\∃j:Nat,old[j]?=some b/\os[j]?=some x)\/(m<=b/\ns'[b-m]?=some x):=by
  intro b x hb
  rw[Du] at hb
  cases e:look b (old.zip os) with
  | some y=>
   rw[e] at hb
   cases hb
   obtain⟨j,h1,h2⟩:=Ea e
   exact .inl ⟨oldlt b (List.mem_of_getElem? h1),j,h1,h2⟩
  | none=>
   rw[e] at hb
   simp only[F7] at hb
   by_cases hm:m<=b
   ·rw[if_pos hm] at hb;exact .inr ⟨hm,hb⟩
   ·rw[if_neg hm] at hb;cases hb
 have lge:∀{b:Nat},m<=b->look b (old.zip os++Gl m ns')=ns'[b-m]?:=by
  intro b hb
  rw[Du]
  cases e:look b (old.zip os) with
  | some y=>
   obtain⟨j,h1,_⟩:=Ea e
   have:=oldlt b (List.mem_of_getElem? h1)
   omega
  | none=>simp only[F7,if_pos hb]
 have llt:∀{b j:Nat} {x:Blk},old[j]?=some b->os[j]?=some x->look b (old.zip os++Gl m ns')=some x:=by
  intro b j x h1 h2
  rw[Du,Acj oldnd h1 h2]
 have uq:Bt (old.zip os++Gl m ns'):=by
  refine Lt (Uw oldnd) (Ic _ _) λ k x hk=> ?_
  obtain⟨j,h1,_⟩:=Ea hk
  have:=oldlt k (List.mem_of_getElem? h1)
  rw[F7,if_neg (by omega)]
 let Y:Cx:={cm:=λ b=>if b<m then X.cm b else(new[b-m]?).bind X.cm,S:=X.S,s:={tm,st:=old.zip os++Gl m ns',nx:=m+ns'.length},w:=X.w}
 have cmlt:∀{b:Nat},b<m->Y.cm b=X.cm b:=λ hb=>if_pos hb
 have cmge:∀{b c:Nat},m<=b->new[b-m]?=some c->Y.cm b=X.cm c:=by
  intro b c hb hc
  show(if b<m then X.cm b else(new[b-m]?).bind X.cm)=_
  rw[if_neg (by omega),hc]
  rfl
 have sim:Sim X Y (λ b v=>valid X.s (.ver b v)) 0 (old.map (λ b=>(b,b))++Bh m new):=by
  refine⟨rfl, ?_, ?_,λ _ _ h=>h, ?_⟩
  ·intro b b' cb hb hc
   rcases lnm hb with⟨h1,rfl⟩|⟨h1,h2⟩
   ·rw[cmlt (oldlt _ h1)];exact hc
   ·rw[cmge h1 h2];exact hc
  ·intro p p' hp hn g hg
   cases p with
   | frz=>simp[pvR] at hp;subst hp;exact hg
   | reg n=>simp[pvR] at hp;subst hp;exact hg
   | ver b v=>exact(hn b v rfl).elim
  ·intro b b' v K l ro hv hb hl
   rcases lnm hb with⟨h1,rfl⟩|⟨h1,h2⟩
   ·obtain⟨j,hj⟩:=List.getElem?_of_mem h1
    obtain⟨x,y,k1,k2,k3⟩:=o2 j _ hj
    rw[hl] at k1
    cases k1
    rw[Abf k3] at k2
    exact⟨ro,llt hj k2⟩
   ·obtain⟨x,y,k1,k2,k3⟩:=n2 _ _ h2
    rw[hl] at k1
    cases k1
    rw[Abf k3] at k2
    exact⟨ro,by show look b' (old.zip os++Gl m ns')=_;rw[lge h1];exact k2⟩
 have src:∀{b:Nat} {x:Blk},look b Y.s.st=some x->∃c y,look c X.s.st=some y/\Lm (λ b v=>valid X.s (.ver b v)) 0 (old.map (λ b=>(b,b))++Bh m new) y=some x/\Y.cm b=X.cm c/\((b<m/\c=b)\/(m<=b/\new[b-m]?=some c)):=by
  intro b x hb
  rcases lst hb with⟨h1,j,h2,h3⟩|⟨h1,h2⟩
  ·obtain⟨x0,y,k1,k2,k3⟩:=o2 j b h2
   rw[h3] at k2
   cases k2
   exact⟨b,x0,k1,k3,cmlt h1,.inl ⟨h1,rfl⟩⟩
  ·have hlt:b-m<new.length:=by
    have:=(List.getElem?_eq_some_iff.1 h2).1
    omega
   have hc:new[b-m]?=some new[b-m]:=by simp[hlt]
   obtain⟨x0,y,k1,k2,k3⟩:=n2 _ _ hc
   rw[h2] at k2
   cases k2
   exact⟨_,x0,k1,k3,cmge h1 hc,.inr ⟨h1,hc⟩⟩
 refine⟨Y,rfl,rfl,.refl _,⟨?_, ?_,hR.out, ?_,hR.fr,uq⟩, ?_,λ b hb=>cmlt hb,sim,λ b hb=>lge hb⟩
 ·intro b x hb
  obtain⟨c,y,h1,h2,h3,_⟩:=src hb
  obtain⟨cb,k1,k2,k3,k4⟩:=hR.blk c y h1
  exact⟨cb,h3.trans k1,So sim k2 h2,k3,k4⟩
 ·intro b b' x x' cb cb' g hb hb' hc hc' hg hg'
  obtain⟨c,y,h1,h2,h3,h4⟩:=src hb
  obtain⟨c',y',h1',h2',h3',h4'⟩:=src hb'
  have e:=hR.dis c c' y y' cb cb' g h1 h1' (h3▸hc) (h3'▸hc') hg hg'
  subst e
  rcases h4 with⟨p1,rfl⟩|⟨p1,p2⟩
  ·rcases h4' with⟨q1,rfl⟩|⟨q1,q2⟩
   ·rfl
   ·have:=newge c (List.mem_of_getElem? q2);omega
  ·rcases h4' with⟨q1,rfl⟩|⟨q1,q2⟩
   ·have:=newge c (List.mem_of_getElem? p2);omega
   ·have e1:=F8 (n:=m) newnd p2
    have e2:=F8 (n:=m) newnd q2
    rw[e1] at e2
    simp only[zB] at e2
    omega
 ·intro g hg
  obtain⟨f1,f2,f3⟩:=hR.frz g hg
  refine⟨f1,f2,λ b x cb hb hc=> ?_⟩
  obtain⟨c,y,h1,h2,h3,_⟩:=src hb
  exact f3 c y cb h1 (h3▸hc)
 ·intro b hb
  have hb':m+ns'.length<=b:=hb
  show(if b<m then X.cm b else(new[b-m]?).bind X.cm)=none
  rw[if_neg (by omega)]
  have:new[b-m]?=none:=by simp;omega
  rw[this]
  rfl
theorem Adt{m:Nat}{s:St}{roots:List Nat}{nm:List (Nat×Nat)}{st:List (Nat×Blk)}{ns:List Blk}(h:Wp m s roots=some (nm,st,ns)):Bt st:=by
 unfold Wp at h
 simp only at h
 generalize hids:R7 s.st 64 (yM m++roots) []=ids at h
 generalize hold:ids.filter (λ b=>zS b m)=old at h
 generalize hnew:ids.filter (λ b=> !(zS b m))=new at h
 split at h
 case h_2=>cases h
 rename_i os ns' hos hns
 obtain⟨hnd,h⟩:=An h
 rw[Dm] at hnd
 simp only[zB,zF] at h
 obtain⟨rfl,rfl,rfl⟩:=h
 refine Lt (Uw (by rw[<-hold];exact hnd.filter _)) (Ic _ _) λ k x hk=> ?_
 obtain⟨j,h1,_⟩:=Ea hk
 have:k∈old:=List.mem_of_getElem? h1
 rw[<-hold,zV] at this
 have h2:=this.2
 rw[zC] at h2
 rw[F7,if_neg (by omega)]
theorem Adk{m:Nat}{slots:List Nat}{s s':St}(h:Aa9 m slots s=some s'):Bt s'.st:=by
 unfold Aa9 at h
 simp only at h
 split at h
 case h_2=>cases h
 rename_i nm st ns hren
 split at h
 case h_2=>cases h
 rename_i tm htm
 cases h
 exact Adt hren
theorem Aaj{t:Nat}:∀{l:List (Nat×AV)},getD .un t l=.un\/(t,getD .un t l)∈l
 | []=>.inl rfl
 | (j,x)::r=>by
  simp only[getD]
  cases h:zG j t
  ·simp only[cond_false]
   exact(Aaj (t:=t) (l:=r)).imp id λ h=>by simp[h]
  ·have:=A6.1 h
   subst this
   simp
theorem Yz.trel{a:Act}(h:Yz X a X.s.tm):Jj X a:=by
 intro t
 rcases Aaj (t:=t) (l:=X.s.tm) with h1|h1
 ·rw[h1];exact .un _
 ·exact h _ h1
theorem Af2{Y:Cx}{ok:Nat->Nat->Bool}{nm:List (Nat×Nat)}(S:Sim X Y ok 0 nm){a:Act}:∀{l l':List (Nat×AV)},Yz X a l->Alh ok nm l=some l'->Yz Y a l'
 | [],l',_,h=>by
  simp only[Alh,zB] at h
  subst h
  intro x hx
  simp at hx
 | (i,x)::r,l',hk,h=>by
  simp only[Alh] at h
  split at h
  case h_2=>cases h
  rename_i a' r' h1 h2
  simp only[zB] at h
  subst h
  have ih:=Af2 S (a:=a) (λ y hy=>hk y (by simp[hy])) h2
  intro y hy
  rcases List.mem_cons.1 hy with rfl|hy
  ·exact Ny S (hk (i,x) (zU ..)) h1
  ·exact ih y hy
theorem Ala{m N:Nat}{X0:Cx}{a:Act}{slots:List Nat}{s':St}(hI:Inv m N X0 E X a)(h:Aa9 m slots X.s=some s'):∃X',X'.s=s'/\X'.w=X.w/\Inv m N X0 E X' a:=by
 unfold Aa9 at h
 simp only at h
 generalize hk:Nd _ (slots.map λ i=>(i,getD .un i X.s.tm)) X.s=z at h
 obtain⟨keep,s1⟩:=z
 simp only at h
 have hk0:Yz X a (slots.map λ i=>(i,getD .un i X.s.tm)):=by
  intro x hx
  simp only[yT] at hx
  obtain⟨i,_,rfl⟩:=hx
  exact hI.tr i
 obtain⟨X1,e1,q1,k1⟩:=Vo hI.rel hI.top hk0 hk
 subst e1
 generalize hids:R7 X.s.st 64 _ []=ids at h
 generalize hall:(List.flatMap _ _++Lk X.s.st ids)=all at h
 obtain⟨X2,e2,q2⟩:=Jk (all:=all) (ids:=ids) q1.rel q1.top
 rw[<-e2] at h
 split at h
 case h_2=>cases h
 rename_i nm st ns hren
 split at h
 case h_2=>cases h
 rename_i tm htm
 cases h
 obtain⟨X3,r1,r2,r3,r4,r5,r6,r7,_⟩:=Abg q2.rel hren tm
 have q:=q1.trans q2
 have k3:=Af2 r7 (λ y hy=>(k1 y hy).ext q2.ext) htm
 refine⟨X3,r1,r2.trans q.w,⟨r4, ?_,r5,(r3.trans q.S).trans hI.S, ?_,(hI.defers.ext q.ext).same r2 r3,hI.size,hI.keep⟩⟩
 ·refine Yz.trel ?_
  rw[r1]
  exact k3
 ·intro b cb hb hc
  obtain⟨cb',h1,h2⟩:=hI.cmx b cb hb hc
  obtain⟨cb2,h3,h4⟩:=q.ext.cmx b cb' h1
  exact⟨cb2,(r6 b hb).trans h3,CB.same_trans h2 h4⟩
theorem Js{m:Nat}{fz:List (Nat×Nat)}{slots:List Nat}{s s':St}(h:Nq m fz slots s=some s'):Bt s'.st:=Adk h
theorem J2{m N:Nat}{X0:Cx}{a:Act}{fz:List (Nat×Nat)}{slots:List Nat}{s':St}(hI:Inv m N X0 E X a)(h:Nq m fz slots X.s=some s'):∃X',X'.s=s'/\X'.w=X.w/\Inv m N X0 E X' a:=by
 unfold Nq at h
 obtain⟨X1,k1,k2,k3⟩:=Xq (fz:=fz) hI
 rw[<-k1] at h
 obtain⟨X2,j1,j2,j3⟩:=Ala k3 h
 exact⟨X2,j1,j2.trans k2,j3⟩
end Go.Ev
namespace Go.Ev
variable{E:Env}{X:Cx}
def Jg(X:Cx)(g:Nat):Prop:=∃b x cb,look b X.s.st=some x/\X.cm b=some cb/\g∈cb.fp
def fresh(X:Cx):Env:={w:=X.w,H:=Jg X,Z:=X.S none}
theorem Jg.lt(hR:Rel E X){g:Nat}(h:Jg X g):g<X.w.heap.size/\(E.H g\/E.w.heap.size<=g):=by
 obtain⟨b,x,cb,h1,h2,h3⟩:=h
 obtain⟨cb',k1,_,_,k4⟩:=hR.blk b x h1
 rw[h2] at k1;cases k1
 exact k4 g h3
theorem Rel.fresh(hR:Rel E X):Rel (fresh X) X where
 blk b x h:=by
  obtain⟨cb,k1,k2,k3,k4⟩:=hR.blk b x h
  exact⟨cb,k1,k2,k3,λ g hg=>⟨(k4 g hg).1,.inl ⟨b,x,cb,h,k1,hg⟩⟩⟩
 dis:=hR.dis
 out n g h:=by
  obtain⟨h1,h2⟩:=hR.out n g h
  refine⟨zM h1 hR.fr.size,λ ho=> ?_⟩
  rcases(Jg.lt hR ho).2 with h3|h3
  ·exact h2 h3
  ·omega
 frz g h:=⟨(hR.frz g h).1,.inl h,(hR.frz g h).2.2⟩
 fr:=⟨rfl,rfl,rfl,zE _,λ _ _ _=>rfl⟩
 uq:=hR.uq
theorem Rel.back{X':Cx}(hR:Rel E X)(h:Rel (Ev.fresh X) X')(hS:GS X'.S X.S):Rel E X' where
 blk b x hl:=by
  obtain⟨cb,k1,k2,k3,k4⟩:=h.blk b x hl
  refine⟨cb,k1,k2,k3,λ g hg=>⟨(k4 g hg).1, ?_⟩⟩
  rcases(k4 g hg).2 with h3|h3
  ·exact(Jg.lt hR h3).2
  ·exact .inr (yD hR.fr.size h3)
 dis:=h.dis
 out n g hg:=by rw[hS.1 n] at hg;exact hR.out n g hg
 frz g hg:=by
  obtain⟨k1,k2,k3⟩:=h.frz g hg
  refine⟨k1, ?_,k3⟩
  rcases k2 with k2|k2|k2
  ·exact(hR.frz g k2).2.1
  ·exact .inr (Jg.lt hR k2).2
  ·exact .inr (.inr (yD hR.fr.size k2))
 fr:=by
  refine⟨h.fr.os.trans hR.fr.os,h.fr.tape.trans hR.fr.tape,h.fr.output.trans hR.fr.output,yD hR.fr.size h.fr.size,λ g hg hH=> ?_⟩
  refine(h.fr.block g (zM hg hR.fr.size) λ ho=> ?_).trans (hR.fr.block g hg hH)
  rcases(Jg.lt hR ho).2 with h3|h3
  ·exact hH h3
  ·omega
 uq:=h.uq
theorem Rel.world(hR:Rel E X){w':World}(h1:w'.os=X.w.os)(h2:w'.tape=X.w.tape)(h3:w'.output=X.w.output)(h4:X.w.heap.size<=w'.heap.size)
  (h5:∀g,g<X.w.heap.size->(Jg X g\/(∃n,X.S n g)\/g<E.w.heap.size)->w'.heap[g]?=X.w.heap[g]?):Rel E {X with w:=w'}/\Ext X {X with w:=w'}:=by
 have hfp:∀b x cb,look b X.s.st=some x->X.cm b=some cb->∀g∈cb.fp,w'.heap[g]?=X.w.heap[g]?:=λ b x cb hl hc g hg=>h5 g (Jg.lt hR ⟨b,x,cb,hl,hc,hg⟩).1 (.inl ⟨b,x,cb,hl,hc,hg⟩)
 have hlt:∀n g,X.S n g->g<X.w.heap.size:=λ n g hg=>by
  cases n with
  | none=>exact(hR.frz g hg).1
  | some n=>exact zM (hR.out n g hg).1 hR.fr.size
 have hx:Ext X {X with w:=w'}:=⟨λ b cb h=>⟨cb,h,cb.same_refl⟩,λ n g hg=>⟨hg,h5 g (hlt n g hg) (.inr (.inl ⟨n,hg⟩))⟩,λ b cb hc ro' v' ps' hl=>⟨ro',v',ps',hl,zE _,λ _ _=>⟨rfl,rfl,rfl,hfp b _ cb hl hc⟩⟩⟩
 refine⟨⟨?_,hR.dis,hR.out, ?_,⟨h1.trans hR.fr.os,h2.trans hR.fr.tape,h3.trans hR.fr.output,yD hR.fr.size h4, ?_⟩,hR.uq⟩,hx⟩
 ·intro b x hl
  obtain⟨cb,q1,q2,q3,q4⟩:=hR.blk b x hl
  exact⟨cb,q1,q2.ext hx (hfp b x cb hl q1),q3,λ g hg=>⟨zM (q4 g hg).1 h4,(q4 g hg).2⟩⟩
 ·intro g hg
  obtain⟨q1,q2,q3⟩:=hR.frz g hg
  exact⟨zM q1 h4,q2,q3⟩
 ·intro g hg hH
  exact(h5 g (zM hg hR.fr.size) (.inr (.inr hg))).trans (hR.fr.block g hg hH)
end Go.Ev
namespace Go.Ev
variable{R:Type}{E:Env}{X:Cx}{P:Program}
def Ag1:Ex->Exit
 | .normal=>.normal
 | .exit id=>.exit id
 | .ret=>.ret
 | .pan t k n=>.panic (Nu t k n)
def Xh(m N:Nat)(X0:Cx)(E:Env)(e:Ex)(s':St)(e':Exit)(a':Act)(w':World):Prop:=e'=Ag1 e/\∃X',X'.s=s'/\X'.w=w'/\Inv m N X0 E X' a'
def D3:Code->List Nat
 | .region _ ops _=>ops.toList.filterMap (·.dst)
 | .seq x y=>D3 x++D3 y
 | .cond _ x y=>D3 x++D3 y
 | .block _ c=>D3 c
 | .loop c=>D3 c
 | .scope c=>D3 c
 | .rangeFunc _ _ a c=>D3 a++D3 c
 | _=>[]
def Fh:Code->Bool
 | .seq x y=>Fh x||Fh y
 | .cond _ x y=>Fh x||Fh y
 | .block _ c=>Fh c
 | .loop c=>Fh c
 | .scope c=>Fh c
 | .rangeFunc .. =>true
 | _=>false
structure G8(E:Env)(c:Code):Prop where
 kv:∀t∈D3 c,E.kv t=none
 rf:Fh c=true->E.rnd=none/\E.nm=false
theorem G8.seq1{x y:Code}(h:G8 E (.seq x y)):G8 E x:=⟨λ t ht=>h.kv t (by simp[D3,ht]),λ e=>h.rf (by simp[Fh,e])⟩
theorem G8.seq2{x y:Code}(h:G8 E (.seq x y)):G8 E y:=⟨λ t ht=>h.kv t (by simp[D3,ht]),λ e=>h.rf (by simp[Fh,e])⟩
theorem G8.cond1{c:Operand}{x y:Code}(h:G8 E (.cond c x y)):G8 E x:=⟨λ t ht=>h.kv t (by simp[D3,ht]),λ e=>h.rf (by simp[Fh,e])⟩
theorem G8.cond2{c:Operand}{x y:Code}(h:G8 E (.cond c x y)):G8 E y:=⟨λ t ht=>h.kv t (by simp[D3,ht]),λ e=>h.rf (by simp[Fh,e])⟩
theorem G8.block{id:Nat}{x:Code}(h:G8 E (.block id x)):G8 E x:=⟨λ t ht=>h.kv t (by simpa[D3] using ht),λ e=>h.rf (by simpa[Fh] using e)⟩
theorem G8.loop{x:Code}(h:G8 E (.loop x)):G8 E x:=⟨λ t ht=>h.kv t (by simpa[D3] using ht),λ e=>h.rf (by simpa[Fh] using e)⟩
theorem G8.wide{c:Code}(hk:E.kv=λ _=>none)(hr:E.rnd=none)(hn:E.nm=false:=by rfl):G8 E c:=⟨λ _ _=>by rw[hk],λ _=>⟨hr,hn⟩⟩
theorem G8.region{id:Nat}{ops:Array Oper}{d:Bool}(h:G8 E (.region id ops d)):∀o∈ops.toList,∀d,o.dst=some d->E.kv d=none:=λ o ho d hd=>h.kv d (by
 simp only[D3,yN]
 exact⟨o,ho,hd⟩)
def Ie(P:Program)(m N:Nat)(code:Code)(s:St)(e:Ex)(s':St):Prop:=∀X0 E X a,X.s=s->G8 E code->Inv m N X0 E X a->code.wr E.rnd P (Xh m N X0 E e s') a X.w
def Ada:Code->Code
 | .rangeFunc g ps a c=>.rangeFunc g ps a c
 | c=>.loop c
def Aba:Code->Bool
 | .rangeFunc .. =>false
 | _=>true
theorem Rs{c:Code}(h:Aba c=true):Ada c=.loop c:=by
 cases c<;>first|rfl|cases h
def Em(P:Program)(m N:Nat)(B:Nat->Code)(L:Jf R):Prop:=∀b s k r,L b s k=some r->∃e s',k e s'=some r/\Bt s'.st/\Ie P m N (Ada (B b)) s e s'
theorem Ml{m N:Nat}{X0:Cx}{e:Ex}{s':St}:¬LetsOut (Xh m N X0 E e s'):=by
 rintro⟨a,w,h,_⟩
 cases e<;>cases h
def wfC(N:Nat):Code->Bool
 | .region _ ops draw=>Ng N ops.toList&&(ops.toList.all H4&&(!draw||S6 ops.toList))
 | .seq x y=>wfC N x&&wfC N y
 | .cond _ x y=>wfC N x&&wfC N y
 | .block _ c=>wfC N c
 | .loop c=>wfC N c&&Aba c
 | .scope c=>wfC N c
 | .rangeFunc _ _ a c=>wfC N a&&wfC N c
 | _=>true
theorem Inv.drawn{m N:Nat}{X0:Cx}{a:Act}(h:Inv m N X0 E X a):∃X',X'.s=X.s/\X'.w={X.w with drawn:=X.w.drawn+1}/\Inv m N X0 E X' a:=by
 let Y:Cx:={X with w:={X.w with drawn:=X.w.drawn+1}}
 have mv:Mv X Y (λ _=>False) (λ _=>False):=⟨.same rfl,rfl,rfl,rfl,zE _,λ _ _ _=>rfl,λ _ h=>h.elim,λ _ _=>rfl,λ _ _=>rfl,λ _ _ h=>h.elim,λ _ _ _ _ _ h=>h.elim⟩
 have hx:=mv.ext h.rel
 exact⟨Y,rfl,rfl,mv.rel h.rel h.rel.uq (λ _ _ h=>h.elim) (λ _ _ _ _ _ _ _ h=>h.elim),λ t=>(h.tr t).ext hx,h.top,h.S,h.cmx,h.defers.ext hx,h.size,h.keep⟩
theorem Mid.drawn{m N:Nat}{X0:Cx}{a:Act}(h:Inv m N X0 E X a)(outs:List Bx)(ops:Array Oper):Mid m N X0 E X.s (sig ops.toList outs (dof (zQ ops.size false)) 0 X.s) (dof (zQ ops.size false)) X a:=by
 have e:dof (zQ ops.size false)=Ax 0:=by
  rw[Ha]
  funext k
  simp only[dof]
  by_cases hk:k<ops.size<;>simp[hk]
 rw[e]
 exact h.mid outs ops
theorem Ahr{c:Cfg}(hC:Bi P c=true)(hm:P.follows .mixedOrders=true){C:Orc R}(hO:Fk P C){m N:Nat}{id:Nat}{ops:Array Oper}{draw:Bool}{s:St}{k:Ex->St->Option R}{r:R}(hu:Bt s.st)(hw:wfC N (.region id ops draw)=true)
  (h:(Ui c C ops.toList s.nx 0 ops.toList s [] (λ s' rec=>
   let s'':={s' with nx:=s.nx+16*ops.size}
   bif draw then(bif Gp (Dd ops.toList []) rec then k .normal s'' else none) else k .normal s'') λ t k' n s' rec last=>
   let s'':={s' with nx:=s.nx+16*ops.size}
   bif draw then(bif last&&Xy ops.toList&&Gp (Dd ops.toList []) rec then k (.pan t k' n) s'' else none) else k (.pan t k' n) s'')=some r):
  ∃e s',k e s'=some r/\Bt s'.st/\Ie P m N (.region id ops draw) s e s':=by
 simp only[wfC,z9,zP] at hw
 have post:∀{X0:Cx} {E:Env} {e:Ex} {s':St} (X':Cx) (a:Act),X'.s=s'->Inv m N X0 E X' a->Xh m N X0 E e s' (Ag1 e) a X'.w:=λ X' a h1 h2=>⟨rfl,X',h1,rfl,h2⟩
 have key:∀n,R8 (List.replicate n false)=n:=by
  intro n
  induction n with
  | zero=>rfl
  | succ n ih=>simp[List.replicate_succ,R8,ih];omega
 have clo:Xa ops.toList (dof (zQ ops.size false)):=by
  intro i o _ hD
  simp only[dof] at hD
  by_cases hi:i<ops.size<;>simp[hi] at hD
 rcases Nt hC hO hu h with⟨outs,sf,h1,hF⟩|⟨l1,o,l2,outs,sf,t,kk,n,u,rd,hl,h1,hF,hf⟩
 ·simp only[yX] at h1
  cases draw
  ·simp only[cond_false] at h1
   refine⟨_,_,h1,hF.fin.uq, ?_⟩
   intro X0 E X a hs hft hI
   subst hs
   refine W7 hw.2.1 Ml ?_
   have:=Alp (Q:=Xh m N X0 E .normal {sf with nx:=X.s.nx+16*ops.size}) hu hF hw.1 hft.region (λ X' a=>post (e:=.normal) X' a) ops.size 0 X a (by omega) (hI.mid outs ops)
   rwa[<-yC] at this
  ·simp only[cond_true] at h1
   obtain⟨hp,h1⟩:=An (show chk _ _=some r from h1)
   refine⟨_,_,h1,hF.fin.uq, ?_⟩
   intro X0 E X a hs hft hI
   subst hs
   refine M7 hm hw.2.1 Ml ?_
   obtain⟨X',e1,e2,hI'⟩:=hI.drawn
   rw[<-e2]
   have hM:=Mid.drawn hI' outs ops
   rw[e1] at hM
   exact Ata hu hF hw.1 hft.region (by simpa using hw.2.2) hp (λ X' a=>post (e:=.normal) X' a) ops.size _ X' a (by simp) (by rw[yI];exact key _) clo hM
 ·simp only[yX] at h1
  rw[zA] at hf
  cases draw
  ·simp only[cond_false] at h1
   refine⟨_,_,h1,Cn _ hF.fin.uq, ?_⟩
   intro X0 E X a hs hft hI
   subst hs
   refine W7 hw.2.1 Ml ?_
   have:=Apn (Q:=Xh m N X0 E (.pan t kk n) {sf with st:=A9 u sf.st,nx:=X.s.nx+16*ops.size}) hu hl hF hw.1 hft.region hf (λ X' a=>post (e:=.pan t kk n) X' a) l1.length 0 X a (by omega) (hI.mid outs ops)
   rw[xI,<-yC] at this
   exact this
  ·simp only[cond_true] at h1
   obtain⟨hp,hk⟩:=An (show chk _ _=some r from h1)
   clear h1
   simp only[z9] at hp
   obtain⟨⟨hp1,hp2⟩,hp3⟩:=hp
   have hl2:l2=[]:=by simpa using hp1
   subst hl2
   refine⟨_,_,hk,Cn _ hF.fin.uq, ?_⟩
   intro X0 E X a hs hft hI
   subst hs
   refine M7 hm hw.2.1 Ml ?_
   obtain⟨X',e1,e2,hI'⟩:=hI.drawn
   rw[<-e2]
   have hM:=Mid.drawn hI' outs ops
   rw[e1] at hM
   refine An7 hu hl hF hw.1 hft.region (by simpa using hw.2.2) hp3 hp2 hf (λ X' a=>post (e:=.pan t kk n) X' a) ops.size _ X' a (by simp) (by rw[yI];exact key _) clo ?_ hM
   have:l1.length<ops.size:=by rw[<-zX,hl];simp
   simp[dof,this]
theorem J3{m N:Nat}{X0:Cx}{e:Ex}{s':St}{K:Act->World->Prop}(hne:e≠.normal):∀e' a' w',Xh m N X0 E e s' e' a' w'->Exit.then K (Xh m N X0 E e s') e' a' w':=by
 rintro e' a' w' ⟨rfl,hX⟩
 cases e with
 | normal=>exact(hne rfl).elim
 | exit id=>exact⟨rfl,hX⟩
 | ret=>exact⟨rfl,hX⟩
 | pan=>exact⟨rfl,hX⟩
theorem T3{m N:Nat}{h:A4}{i:Nat}{k:Ex->St->Option R}{code:Code}{s s':St}{e:Ex}{r:R}(hr:O9 m h i k e s'=some r)(hu:Bt s'.st)(hc:Ie P m N code s e s'):∃e s',k e s'=some r/\Bt s'.st/\Ie P m N code s e s':=by
 unfold O9 at hr
 cases hj:Akx i h.jn with
 | none=>rw[hj] at hr;exact⟨e,s',hr,hu,hc⟩
 | some oe=>
  obtain⟨o,en⟩:=oe
  rw[hj] at hr
  cases e with
  | normal=>
   simp only at hr
   split at hr
   case h_2=>cases hr
   rename_i s2 hn
   split at hr
   case h_2=>cases hr
   rename_i d hd
   have e2:s2=en.to d:=en.ok _ _ hd
   subst e2
   refine⟨.normal,_,hr,Js hn,λ X0 E X a hs hft hI=>Fv (hc X0 E X a hs hft hI) ?_⟩
   rintro e' a' w' ⟨rfl,X',hs',rfl,hI'⟩
   rw[<-hs'] at hn
   obtain⟨X2,k1,k2,k3⟩:=J2 hI' hn
   exact⟨rfl,X2,k1,k2,k3⟩
  | exit id=>exact⟨_,_,hr,hu,hc⟩
  | ret=>exact⟨_,_,hr,hu,hc⟩
  | pan t k' n=>exact⟨_,_,hr,hu,hc⟩
theorem Gk{c:Cfg}(hC:Bi P c=true)(hm:P.follows .mixedOrders=true){C:Orc R}(hO:Fk P C){m N:Nat}{B:Nat->Code}{L:Jf R}(hL:Em P m N B L){h:A4}:
  ∀{code:Code} {b:Nat} {s:St} {k:Ex->St->Option R} {r:R},Bt s.st->wfC N code=true->(∀x∈Av b code,x.2=B x.1)->Gt c C L m h b code s k=some r->∃e s',k e s'=some r/\Bt s'.st/\Ie P m N code s e s'
 | .skip,b,s,k,r,hu,hw,hB,hr=>⟨.normal,s,hr,hu,λ X0 E X a hs hft hI=>Aqj ⟨rfl,X,hs,rfl,hI⟩⟩
 | .label l,b,s,k,r,hu,hw,hB,hr=>⟨.normal,s,hr,hu,λ X0 E X a hs hft hI=>Anv ⟨rfl,X,hs,rfl,hI⟩⟩
 | .exit id,b,s,k,r,hu,hw,hB,hr=>⟨.exit id,s,hr,hu,λ X0 E X a hs hft hI=>Aqi ⟨rfl,X,hs,rfl,hI⟩⟩
 | .ret,b,s,k,r,hu,hw,hB,hr=>⟨.ret,s,hr,hu,λ X0 E X a hs hft hI=>Au4 ⟨rfl,X,hs,rfl,hI⟩⟩
 | .region id ops draw,b,s,k,r,hu,hw,hB,hr=>by
  obtain⟨e,s1,h1,hu1,h2⟩:=Ahr (m:=m) (k:=O9 m h (2*id) k) hC hm hO hu hw hr
  exact T3 h1 hu1 h2
 | .seq x y,b,s,k,r,hu,hw,hB,hr=>by
  simp only[wfC,z9] at hw
  simp only[Gt] at hr
  obtain⟨e,s1,h1,hu1,h2⟩:=Gk hC hm hO hL hu hw.1 (λ z hz=>hB z (by simp[Av,hz])) hr
  cases e with
  | normal=>
   simp only at h1
   obtain⟨e2,s2,h3,hu2,h4⟩:=Gk hC hm hO hL hu1 hw.2 (λ z hz=>hB z (by simp[Av,hz])) h1
   refine⟨e2,s2,h3,hu2,λ X0 E X a hs hft hI=>Yv (Fv (h2 X0 E X a hs hft.seq1 hI) ?_)⟩
   rintro e' a' w' ⟨rfl,X',hs',rfl,hI'⟩
   exact h4 X0 E X' a' hs' hft.seq2 hI'
  | exit id=>exact⟨.exit id,s1,h1,hu1,λ X0 E X a hs hft hI=>Yv (Fv (h2 X0 E X a hs hft.seq1 hI) (J3 (by simp)))⟩
  | ret=>exact⟨.ret,s1,h1,hu1,λ X0 E X a hs hft hI=>Yv (Fv (h2 X0 E X a hs hft.seq1 hI) (J3 (by simp)))⟩
  | pan t k n=>exact⟨.pan t k n,s1,h1,hu1,λ X0 E X a hs hft hI=>Yv (Fv (h2 X0 E X a hs hft.seq1 hI) (J3 (by simp)))⟩
 | .cond x t f,b,s,k,r,hu,hw,hB,hr=>by
  simp only[wfC,z9] at hw
  simp only[Gt] at hr
  split at hr
  case h_2=>cases hr
  rename_i v hv
  have hval:∀{X0:Cx} {E:Env} {X:Cx} {a:Act},X.s=s->Inv m N X0 E X a->a.eval x=.bool v:=by
   intro X0 E X a hs hI
   have:=Bj hI.tr x
   rw[hs,hv] at this
   generalize a.eval x=u at this
   cases this
   rfl
  cases v
  ·simp only[cond_false] at hr
   obtain⟨e,s1,h1,hu1,h2⟩:=Gk hC hm hO hL hu hw.2 (λ z hz=>hB z (by simp[Av,hz])) hr
   exact T3 h1 hu1 λ X0 E X a hs hft hI=>Vc (hval hs hI) (h2 X0 E X a hs hft.cond2 hI)
  ·simp only[cond_true] at hr
   obtain⟨e,s1,h1,hu1,h2⟩:=Gk hC hm hO hL hu hw.1 (λ z hz=>hB z (by simp[Av,hz])) hr
   exact T3 h1 hu1 λ X0 E X a hs hft hI=>Yu (hval hs hI) (h2 X0 E X a hs hft.cond1 hI)
 | .block id body,b,s,k,r,hu,hw,hB,hr=>by
  simp only[wfC] at hw
  simp only[Gt] at hr
  obtain⟨e,s1,h1,hu1,h2⟩:=Gk hC hm hO hL hu hw (λ z hz=>hB z (by simpa[Av] using hz)) hr
  cases e with
  | normal=>
   refine⟨.normal,s1,h1,hu1,λ X0 E X a hs hft hI=>Lv (Fv (h2 X0 E X a hs hft.block hI) ?_)⟩
   rintro e' a' w' ⟨rfl,hX⟩
   exact⟨rfl,hX⟩
  | ret=>
   refine⟨.ret,s1,h1,hu1,λ X0 E X a hs hft hI=>Lv (Fv (h2 X0 E X a hs hft.block hI) ?_)⟩
   rintro e' a' w' ⟨rfl,hX⟩
   exact⟨rfl,hX⟩
  | pan t k n=>
   refine⟨.pan t k n,s1,h1,hu1,λ X0 E X a hs hft hI=>Lv (Fv (h2 X0 E X a hs hft.block hI) ?_)⟩
   rintro e' a' w' ⟨rfl,hX⟩
   exact⟨rfl,hX⟩
  | exit j=>
   simp only at h1
   cases hj:zG j id<;>rw[hj] at h1<;>simp only[cond_true,cond_false] at h1
   ·refine⟨.exit j,s1,h1,hu1,λ X0 E X a hs hft hI=>Lv (Fv (h2 X0 E X a hs hft.block hI) ?_)⟩
    rintro e' a' w' ⟨rfl,hX⟩
    simp only[Ag1,Exit.inBlock,A7.1 hj,if_false]
    exact⟨rfl,hX⟩
   ·refine⟨.normal,s1,h1,hu1,λ X0 E X a hs hft hI=>Lv (Fv (h2 X0 E X a hs hft.block hI) ?_)⟩
    rintro e' a' w' ⟨rfl,hX⟩
    simp only[Ag1,Exit.inBlock,A6.1 hj,if_true]
    exact⟨rfl,hX⟩
 | .loop body,b,s,k,r,hu,hw,hB,hr=>by
  simp only[wfC,z9] at hw
  simp only[Gt] at hr
  split at hr
  case h_2=>cases hr
  rename_i i o hb
  split at hr
  case h_2=>cases hr
  rename_i s' hn
  obtain⟨e,s1,h1,hu1,h2⟩:=hL _ _ _ _ hr
  refine⟨e,s1,h1,hu1,λ X0 E X a hs hft hI=> ?_⟩
  have e1:body=B b:=hB (b,body) (by simp[Av])
  rw[<-e1,Rs hw.2] at h2
  rw[<-hs] at hn
  obtain⟨X',k1,k2,k3⟩:=J2 hI hn
  rw[<-k2]
  exact h2 X0 E X' a k1 hft k3
 | .rangeFunc g ps asg body,b,s,k,r,hu,hw,hB,hr=>by
  simp only[Gt] at hr
  split at hr
  case h_2=>cases hr
  rename_i i o hb
  split at hr
  case h_2=>cases hr
  rename_i s' hn
  obtain⟨e,s1,h1,hu1,h2⟩:=hL _ _ _ _ hr
  refine⟨e,s1,h1,hu1,λ X0 E X a hs hft hI=> ?_⟩
  have e1:Code.rangeFunc g ps asg body=B b:=hB (b,.rangeFunc g ps asg body) (by simp[Av])
  rw[<-e1] at h2
  rw[<-hs] at hn
  obtain⟨X',k1,k2,k3⟩:=J2 hI hn
  rw[<-k2]
  exact h2 X0 E X' a k1 hft k3
 | .scope ..,_,_,_,_,_,_,_,hr=>by simp[Gt] at hr
 | .goto ..,_,_,_,_,_,_,_,hr=>by simp[Gt] at hr
 | .refuse ..,_,_,_,_,_,_,_,hr=>by simp[Gt] at hr
def Sy(P:Program)(m N:Nat)(body:Code)(s:St)(e:Ex)(s':St):Prop:=∀X0 E X a,X.s=s->G8 E body->Inv m N X0 E X a->Is E.rnd P body (Xh m N X0 E e s') a X.w
theorem Sy.code{m N:Nat}{body:Code}{s s':St}{e:Ex}(h:Sy P m N body s e s'):Ie P m N (.loop body) s e s':=λ X0 E X a hs hft hI=>(h X0 E X a hs hft.loop hI).start
theorem Alz{c:Cfg}(hC:Bi P c=true)(hm:P.follows .mixedOrders=true){C:Orc R}(hO:Fk P C){m N:Nat}{B:Nat->Code}{L:Jf R}(hL:Em P m N B L){h:A4}{b:Nat}{body:Code}{i o:List Nat}{s:St}{next:St->Option R}{out:Ex->St->Option R}{r:R}
    (hu:Bt s.st) (hw:wfC N body=true) (hB:∀x∈Av b body,x.2=B x.1) (hr:stepE c C L m h b body i o s next out=some r):
    (∃s1,next s1=some r/\Bt s1.st/\∀e s',Sy P m N body s1 e s'->Sy P m N body s e s')\/(∃e s',out e s'=some r/\Bt s'.st/\Sy P m N body s e s'):=by
  unfold stepE at hr
  obtain⟨e,s1,h1,hu1,h2⟩:=Gk hC hm hO hL hu hw hB hr
  have leave:e≠.normal->(match Nq m h.fz o s1 with|some s''=>out e s''|none=>none)=some r->∃e s',out e s'=some r/\Bt s'.st/\Sy P m N body s e s':=by
    intro hne h1
    split at h1
    case h_2=>cases h1
    rename_i s2 hn
    refine⟨e,s2,h1,Js hn,λ X0 E X a hs hft hI=>Is.round (Fv (h2 X0 E X a hs hft hI) ?_)⟩
    rintro e' a' w' ⟨he,X',hs',rfl,hI'⟩
    subst he
    rw[<-hs'] at hn
    obtain⟨X2,k1,k2,k3⟩:=J2 hI' hn
    have hp:Xh m N X0 E e s2 (Ag1 e) a' X'.w:=⟨rfl,X2,k1,k2,k3⟩
    exact J3 hne _ _ _ hp
  cases e with
  | normal=>
    simp only at h1
    split at h1
    case h_2=>cases h1
    rename_i s2 hn
    refine .inl ⟨s2,h1,Js hn,λ e s' hrun X0 E X a hs hft hI=>Is.round (Fv (h2 X0 E X a hs hft hI) ?_)⟩
    rintro e' a' w' ⟨rfl,X',hs',rfl,hI'⟩
    rw[<-hs'] at hn
    obtain⟨X2,k1,k2,k3⟩:=J2 hI' hn
    have:=hrun X0 E X2 a' k1 hft k3
    rw[k2] at this
    exact this
  | exit id=>exact .inr (leave (by simp) h1)
  | ret=>exact .inr (leave (by simp) h1)
  | pan t k n=>exact .inr (leave (by simp) h1)
def via{Y S:Type}(e:Enc Y)(k:e.D->Option S)(y:Y):Option S:=match e.of y with
 | some d=>k d
 | none=>none
theorem Aef{Y S:Type}(e:Enc Y)(k:e.D->Option S)(d:e.D):via e k (e.to d)=k d:=by simp only[via,e.ko]
theorem Ao6{c:Cfg}(hC:Bi P c=true)(hm:P.follows .mixedOrders=true){C:Orc R}(hO:Fk P C){m N:Nat}{B:Nat->Code}{L:Jf R}(hL:Em P m N B L){h:A4}{b:Nat}{body:Code}{i o:List Nat}
  (hw:wfC N body=true) (hB:∀x∈Av b body,x.2=B x.1) (en:Enc St) (hen:∀d,Bt (en.to d).st) (f:Nat->en.D->(Ex->St->Option R)->Option R) (h0:∀d k,f 0 d k=none)
  (hs:∀n d k,f (n+1) d k=stepE c C L m h b body i o (en.to d) (via en λ d'=>f n d' k) k):
  ∀n d k r,f n d k=some r->∃e s',k e s'=some r/\Bt s'.st/\Sy P m N body (en.to d) e s':=by
 intro n
 induction n with
 | zero=>intro d k r hr;rw[h0] at hr;cases hr
 | succ n ih=>
  intro d k r hr
  rw[hs] at hr
  rcases Alz hC hm hO hL (hen d) hw hB hr with⟨s1,h1,_,h3⟩|h1
  ·unfold via at h1
   split at h1
   case h_2=>cases h1
   rename_i d' hd
   obtain⟨e,s',k1,k2,k3⟩:=ih d' k r h1
   rw[en.ok _ _ hd] at h3
   exact⟨e,s',k1,k2,h3 e s' k3⟩
  ·exact h1
end Go.Ev
namespace Go.Ev
variable{R:Type}{E:Env}{X:Cx}{P:Program}
theorem Yh{c:Cfg}(hC:Bi P c=true){a:Act}(hR:Rel E X)(hT:Jj X a):∀{rs:List ResultVar} {vs:List AV},Adv c X.s rs=some vs->
    ∃vals:List Value,(rs.mapM (λ|.tmp t=>pure (a.tmps.getD t undef)|.cell ad t=>do loadVar t (<-asAddr (a.tmps.getD ad undef)):ResultVar->Sem Value):Sem (List Value)).run P X.w=.ok vals X.w/\B2 X vs vals
  | [],vs,h=>by
    simp only[Adv,zB] at h
    subst h
    exact⟨[],rfl,.nil⟩
  | .tmp t::rs,vs,h=>by
    simp only[Adv] at h
    split at h
    case h_2=>cases h
    rename_i l hl
    cases h
    obtain⟨vals,h1,h2⟩:=Yh hC hR hT hl
    refine⟨a.tmps.getD t undef::vals, ?_,.cons (hT t) h2⟩
    simp only[xD,Sem.run_bind,Sem.run_pure,Result.andThen_ok]
    rw[h1]
    rfl
  | .cell ad t::rs,vs,h=>by
    simp only[Adv] at h
    split at h
    case h_2=>cases h
    rename_i ti l hti hl
    split at h
    case h_2=>cases h
    rename_i ps rd hld
    split at h
    case h_2=>cases h
    rename_i v hv
    cases h
    obtain⟨vals,h1,h2⟩:=Yh hC hR hT hl
    obtain⟨g,val,e1,e2,e3⟩:=(We hR (hT ad) hld).var (Bs hC hti) hv
    refine⟨val::vals, ?_,.cons e3 h2⟩
    have e4:(asAddr (a.tmps.getD ad undef)).run P X.w=.ok g X.w:=by rw[e1];rfl
    simp only[xD,Sem.run_bind,e4,Result.andThen_ok,e2]
    rw[h1]
    rfl
theorem Qd:∀{as:List AV} {vs:List Value},B2 X as vs->as.length=vs.length
 | _,_,.nil=>rfl
 | _,_,.cons _ h=>by simp[Qd h]
theorem Alk{c:Cfg}(hC:Bi P c=true){fn:Func}{kp:Bool}{m N:Nat}{s:St}{k:AV->List (Option Blk)->List Blk->Option R}{r:R}(h:Alj c fn kp m s k=some r):
    ∃v fin new,k v fin new=some r/\∀X0 E X a,X.s=s->Inv m N X0 E X a->∃val X',(results fn a.tmps).run P X.w=.ok val X.w/\X'.w=X.w/\Sw m v fin new E X0 X' val:=by
  unfold Alj at h
  split at h
  case h_1=>cases h
  rename_i vs hvs
  simp only at h
  generalize hv:Alb vs=v at h
  generalize hids:R7 s.st 64 (yM m++Q3 8 v) []=ids at h
  generalize hall:Q3 8 v++Lk s.st ids=all at h
  generalize hc:Qi all v s=z at h
  obtain⟨v1,s1⟩:=z
  simp only at h
  split at h
  case h_2=>cases h
  rename_i nm st ns hren
  split at h
  case h_2=>cases h
  rename_i v' hv'
  refine⟨v',_,ns,h, ?_⟩
  intro X0 E X a hs hI
  subst hs
  obtain⟨vals,r1,r2⟩:=Yh hC hI.rel hI.tr hvs
  obtain⟨val,q1,q2⟩:∃val,(results fn a.tmps).run P X.w=.ok val X.w/\VRel X v val:=by
    have hrun:((fn.results.mapM λ|.tmp t=>pure (a.tmps.getD t undef)|.cell ad t=>do loadVar t (<-asAddr (a.tmps.getD ad undef)):Sem (Array Value))).run P X.w=.ok vals.toArray X.w:=by
      have e:fn.results=fn.results.toList.toArray:=by simp
      rw[e,List.mapM_toArray]
      simp only[Sem.run_map,r1,Result.andThen_ok]
    have hres:(results fn a.tmps).run P X.w=.ok (if h:vals.toArray.size=1 then vals.toArray[0] else .tuple vals.toArray) X.w:=by
      simp only[results,Sem.run_bind]
      refine(congrArg (λ z=>Result.andThen z _) hrun).trans ?_
      simp only[Result.andThen_ok,Sem.run_pure]
    refine⟨_,hres, ?_⟩
    subst hv
    unfold Alb
    split
    · cases r2 with
      | cons h1 h2=>
        cases h2
        simpa using h1
    · rename_i hne
      have hl:=Qd r2
      have:¬vals.toArray.size=1:=by
        intro e
        simp at e
        rw[e] at hl
        match vs,hl,hne with
        | [x],_,hne=>exact hne x rfl
      rw[dif_neg this]
      exact .tup r2
  obtain⟨X1,e1,k1,k2⟩:=Vq hI.rel hI.top q2 hc
  subst e1
  obtain⟨X2,e2,k3⟩:=Jk (all:=all) (ids:=ids) k1.rel k1.top
  rw[<-e2] at hren hv'
  obtain⟨X3,j1,j2,j3,j4,j5,j6,j7,j8⟩:=Abg k3.rel hren []
  have q:=k1.trans k3
  refine⟨val,X3,q1,j2.trans q.w,j4,(j3.trans q.S).trans hI.S, ?_, ?_,Ny j7 (k2.ext k3.ext) hv'⟩
  · intro b cb hb hcm
    obtain⟨cb',h1,h2⟩:=hI.cmx b cb hb hcm
    obtain⟨cb2,h3,h4⟩:=q.ext.cmx b cb' h1
    exact⟨cb2,(j6 b hb).trans h3,CB.same_trans h2 h4⟩
  · intro b
    rw[j1]
    simp only
    by_cases hb:b<m
    · rw[if_pos hb]
      simp[hb]
    · rw[if_neg hb,j8 b (by omega)]
theorem Api{c:Cfg}(hC:Bi P c=true){fn:Func}{hi:A4}{m N:Nat}{s:St}{k:AV->List (Option Blk)->List Blk->Option R}{r:R}(h:Aph c fn hi m s k=some r):
  ∃v fin new,k v fin new=some r/\∀X0 E X a,X.s=s->Inv m N X0 E X a->∃val X',(results fn a.tmps).run P X.w=.ok val X.w/\X'.w=X.w/\Sw m v fin new E X0 X' val:=by
 unfold Aph at h
 obtain⟨v,fin,new,k1,k2⟩:=Alk (N:=N) hC h
 refine⟨v,fin,new,k1,λ X0 E X a hs hI=> ?_⟩
 obtain⟨X1,j1,j2,j3⟩:=Xq (fz:=hi.rz) hI
 rw[hs] at j1
 obtain⟨val,X2,q1,q2,q3⟩:=k2 X0 E X1 a j1 j3
 rw[j2] at q1 q2
 exact⟨val,X2,q1,q2,q3⟩
structure Bb(P:Program)(f:Nat)(fn:Func):Prop where
 hf:P.funcs[f]?=some fn
 name:fn.name≠ "runtime.NumGoroutine"
 body:∃code,fn.body=some code/\wfC fn.ntmps code=true/\Fz ((Av 0 code).map (·.1))=true
theorem Ua:∀{l:List (Nat×Code)},(l.map (·.1)).Nodup->∀x∈l,look x.1 l=some x.2
 | [],_,x,h=>by simp at h
 | (j,y)::r,hn,x,h=>by
  simp only[yL,yY] at hn
  rcases List.mem_cons.1 h with rfl|h
  ·simp[look]
  ·have hne:j≠x.1:=λ e=>hn.1 (e▸List.mem_map.2 ⟨x,h,rfl⟩)
   simp only[look,A7.2 hne,cond_false]
   exact Ua hn.2 x h
theorem Bb.loops{f:Nat}{fn:Func}{code:Code}(h:Bb P f fn)(hc:fn.body=some code):∀x∈Av 0 code,x.2=bodyOf fn x.1:=by
 intro x hx
 obtain⟨code',h1,_,h3⟩:=h.body
 rw[hc] at h1
 cases h1
 have:=Ua (Dm.1 h3) x hx
 simp only[bodyOf,hc,this]
theorem Dj:∀{code:Code} {b0 b:Nat} {c:Code},(b,c)∈Av b0 code->∀x∈Av b c,x∈Av b0 code
 | .seq x y,b0,b,c,h,z,hz=>by
  simp only[Av,zJ] at h⊢
  exact h.imp (λ h=>Dj h z hz) (λ h=>Dj h z hz)
 | .cond _ x y,b0,b,c,h,z,hz=>by
  simp only[Av,zJ] at h⊢
  exact h.imp (λ h=>Dj h z hz) (λ h=>Dj h z hz)
 | .block j body,b0,b,c,h,z,hz=>by
  simp only[Av] at h⊢
  exact Dj h z hz
 | .scope body,b0,b,c,h,z,hz=>by
  simp only[Av] at h⊢
  exact Dj h z hz
 | .rangeFunc g ps asg body,b0,b,c,h,z,hz=>by
  simp only[Av,zW,zL,zJ] at h⊢
  rcases h with h|h|h
  ·cases h
   simpa only[Av,zW,zL,zJ] using hz
  ·exact .inr (.inl (Dj h z hz))
  ·exact .inr (.inr (Dj h z hz))
 | .loop body,b0,b,c,h,z,hz=>by
  simp only[Av,zL] at h⊢
  rcases h with h|h
  ·cases h;exact .inr hz
  ·exact .inr (Dj h z hz)
 | .skip,_,_,_,h,_,_=>by simp[Av] at h
 | .label _,_,_,_,h,_,_=>by simp[Av] at h
 | .region ..,_,_,_,h,_,_=>by simp[Av] at h
 | .exit _,_,_,_,h,_,_=>by simp[Av] at h
 | .goto _,_,_,_,h,_,_=>by simp[Av] at h
 | .ret,_,_,_,h,_,_=>by simp[Av] at h
 | .refuse _,_,_,_,h,_,_=>by simp[Av] at h
theorem Dk{N:Nat}:∀{code:Code} {b0 b:Nat} {c:Code},wfC N code=true->(b,c)∈Av b0 code->wfC N c=true
 | .seq x y,b0,b,c,hw,h=>by
  simp only[wfC,z9] at hw
  simp only[Av,zJ] at h
  exact h.elim (Dk hw.1) (Dk hw.2)
 | .cond _ x y,b0,b,c,hw,h=>by
  simp only[wfC,z9] at hw
  simp only[Av,zJ] at h
  exact h.elim (Dk hw.1) (Dk hw.2)
 | .block j body,b0,b,c,hw,h=>Dk (by simpa[wfC] using hw) (by simpa[Av] using h)
 | .scope body,b0,b,c,hw,h=>Dk (by simpa[wfC] using hw) (by simpa[Av] using h)
 | .loop body,b0,b,c,hw,h=>by
  simp only[wfC,z9] at hw
  simp only[Av,zL] at h
  rcases h with h|h
  ·cases h;exact hw.1
  ·exact Dk hw.1 h
 | .rangeFunc g ps asg body,b0,b,c,hw,h=>by
  have hw':=hw
  simp only[wfC,z9] at hw
  simp only[Av,zW,zL,zJ] at h
  rcases h with h|h|h
  ·cases h;exact hw'
  ·exact Dk hw.1 h
  ·exact Dk hw.2 h
 | .skip,_,_,_,_,h=>by simp[Av] at h
 | .label _,_,_,_,_,h=>by simp[Av] at h
 | .region ..,_,_,_,_,h=>by simp[Av] at h
 | .exit _,_,_,_,_,h=>by simp[Av] at h
 | .goto _,_,_,_,_,h=>by simp[Av] at h
 | .ret,_,_,_,_,h=>by simp[Av] at h
 | .refuse _,_,_,_,_,h=>by simp[Av] at h
theorem Aaw{α:Type}{b:Nat}:∀{l:List (Nat×α)} {x:α},look b l=some x->(b,x)∈l
 | [],_,h=>by simp[look] at h
 | (j,y)::r,x,h=>by
  simp only[look] at h
  cases hb:zG j b<;>rw[hb] at h
  ·exact List.mem_cons_of_mem _ (Aaw h)
  ·simp only[cond_true,zB] at h
   rw[A6.1 hb,h]
   exact zU ..
theorem Bb.bodyOf{f:Nat}{fn:Func}(h:Bb P f fn)(b:Nat):wfC fn.ntmps (bodyOf fn b)=true/\∀x∈Av b (Ev.bodyOf fn b),x.2=Ev.bodyOf fn x.1:=by
 obtain⟨code,h1,h2,h3⟩:=h.body
 cases e:look b (Av 0 code) with
 | none=>
  have:Ev.bodyOf fn b=.skip:=by simp only[Ev.bodyOf,h1,e]
  rw[this]
  exact⟨rfl,by simp[Av]⟩
 | some c=>
  have hb:Ev.bodyOf fn b=c:=by simp only[Ev.bodyOf,h1,e]
  rw[hb]
  have hm:=Aaw e
  exact⟨Dk h2 hm,λ x hx=>h.loops h1 x (Dj hm x hx)⟩
theorem Aeb{args:List AV}{vals:List Value}(h:B2 X args vals)(n t:Nat):VRel X (getD .un t (Gl 0 args)) ((vals.toArray++zQ n undef).getD t undef):=by
 rw[V8,F7,if_pos (yA _),xI]
 have key:∀{args:List AV} {vals:List Value} {t:Nat},B2 X args vals->(args[t]?=none/\vals.length<=t)\/∃a v,args[t]?=some a/\vals[t]?=some v/\VRel X a v:=by
  intro args
  induction args with
  | nil=>intro vals t h;cases h;exact .inl ⟨rfl,yA _⟩
  | cons a as ih=>
   intro vals t h
   cases h with
   | cons h1 h2=>
    cases t with
    | zero=>exact .inr ⟨a,_,rfl,rfl,h1⟩
    | succ t=>
     rcases ih (t:=t) h2 with h3|⟨x,y,h3,h4,h5⟩
     ·exact .inl ⟨by simpa using h3.1,by simpa using h3.2⟩
     ·exact .inr ⟨x,y,by simpa using h3,by simpa using h4,h5⟩
 rcases key (t:=t) h with⟨h1,_⟩|⟨a,v,h1,h2,h3⟩
 ·rw[h1];exact .un _
 ·rw[h1]
  have hlt:=(List.getElem?_eq_some_iff.1 h2).1
  have:(vals.toArray++zQ n undef)[t]?=some v:=by
   rw[Array.getElem?_append_left (by simpa using hlt)]
   simpa using h2
  rw[Array.getD_eq_getD_getElem?,this]
  exact h3
theorem Aaz{D D':Nat}(h:Ph D=Ph D'):D=D':=by
 simp only[Ph,Deferred.mk.injEq,Target.collected.injEq,and_true] at h
 exact h
theorem Inv.shut{m N:Nat}{X0:Cx}{a:Act}{D:Nat}{Ds:List Nat}(hI:Inv m N X0 E X {a with defers:=(D::Ds).map Ph++E.db}):
  X.w.heap[D]?=some (.deferred (some []))/\∃Y:Cx,Y.s=X.s/\Y.w=X.w.putObj D (.deferred none)/\Inv m N X0 E Y {a with defers:=Ds.map Ph++E.db}:=by
 obtain⟨Ds',h1,h0,h2,h3⟩:=hI.defers
 have h1:(D::Ds).map Ph=Ds'.map Ph:=yF (show(D::Ds).map Ph++E.db=Ds'.map Ph++E.db from h1)
 have e:D::Ds=Ds':=(yQ (λ _ _ h=>Aaz h)).1 h1
 subst e
 obtain⟨k1,k2,k3⟩:=h3 D (by simp)
 rw[yY] at h2
 have hoth:∀g,g≠D->(X.w.putObj D (.deferred none)).heap[g]?=X.w.heap[g]?:=λ g hg=>World.putObj_heap_other hg
 have hR:=hI.rel
 obtain⟨f1,f2,f3⟩:=hR.frz D k2
 let Y:Cx:={X with w:=X.w.putObj D (.deferred none)}
 have hC:∀g,IsC X.w g->g≠D:=by
  rintro g ⟨cur,t,fr,h⟩ rfl
  rw[k3] at h;cases h
 have hfp:∀b x cb,look b X.s.st=some x->X.cm b=some cb->∀g∈cb.fp,Y.w.heap[g]?=X.w.heap[g]?:=λ b x cb hl hc g hg=>hoth g λ e=>f3 b x cb hl hc (e▸hg)
 have hx:Mp X Y:=by
  refine⟨λ b cb h=>⟨cb,h,cb.same_refl⟩,λ n g hg hc=>⟨hg,hoth g (hC g hc)⟩,λ b cb hc ro' v' ps' hl=>⟨ro',v',ps',hl,zE _,λ _ _=>⟨rfl,rfl,rfl,hfp b _ cb hl hc⟩⟩⟩
 refine⟨k3,Y,rfl,rfl,⟨⟨?_,hR.dis,hR.out, ?_,⟨hR.fr.os,hR.fr.tape,hR.fr.output, ?_, ?_⟩,hR.uq⟩,λ t=>(hI.tr t).extW hx,hI.top,hI.S,hI.cmx,⟨Ds,rfl,(λ e=>nomatch h0 e),h2.2,λ D' hD'=> ?_⟩,hI.size,hI.keep⟩⟩
 ·intro b x hl
  obtain⟨cb,q1,q2,q3,q4⟩:=hR.blk b x hl
  exact⟨cb,q1,q2.extW hx (hfp b x cb hl q1),q3,λ g hg=>⟨by show g<(X.w.putObj D _).heap.size;rw[World.putObj_size];exact(q4 g hg).1,(q4 g hg).2⟩⟩
 ·intro g hg
  obtain⟨q1,q2,q3⟩:=hR.frz g hg
  exact⟨by show g<(X.w.putObj D _).heap.size;rw[World.putObj_size];exact q1,q2,q3⟩
 ·show _<=(X.w.putObj D _).heap.size
  rw[World.putObj_size];exact hR.fr.size
 ·intro g hg hH
  exact(hoth g (by omega)).trans (hR.fr.block g hg hH)
 ·obtain⟨q1,q2,q3⟩:=h3 D' (by simp[hD'])
  exact⟨q1,q2,(hoth D' (λ e=>h2.1 (e▸hD'))).trans q3⟩
theorem Pb{m N:Nat}{X0:Cx}{fn:Func}{Q:Ending->World->Prop}{s:St}{a:Act}{u:FrameMode}(hu:u≠.run)(hend:∀X',X'.s=s->Inv m N X0 E X' {a with defers:=E.db}->LeavesInM Fence.wide 0 P fn a.tmps Q E.db u X'.w):
  ∀(Ds:List Nat) (X:Cx),X.s=s->Inv m N X0 E X {a with defers:=Ds.map Ph++E.db}->LeavesInM Fence.wide 0 P fn a.tmps Q (Ds.map Ph++E.db) u X.w
 | [],X,hs,hI=>hend X hs hI
 | D::Ds,X,hs,hI=>by
  obtain⟨h1,Y,h2,h3,h4⟩:=hI.shut
  refine⟨hu,.inl ⟨D,X.w.putObj D (.deferred none),rfl,run_takeDeferred h1, ?_⟩⟩
  have:=Pb hu hend Ds Y (h2.trans hs) h4
  rwa[h3] at this
theorem Inv.drop{m N:Nat}{X0:Cx}{a:Act}(hI:Inv m N X0 E X a):∃Y:Cx,Y.w=X.w/\Rel E Y/\GS Y.S X0.S/\(∀b cb,b<m->X0.cm b=some cb->∃cb',Y.cm b=some cb'/\cb.same cb')/\Y.s.st=[]:=by
 let Y:Cx:={X with s:={X.s with st:=[]}}
 have hmv:Mv X Y (λ b=>∃x,look b X.s.st=some x) (λ _=>False):=
  ⟨.same rfl,rfl,rfl,rfl,zE _,λ _ _ _=>rfl,λ _ h=>h.elim,λ b hb=>by
   cases e:look b X.s.st with
   | none=>rfl
   | some x=>exact(hb ⟨x,e⟩).elim,λ _ _=>rfl,λ b c _ h=>⟨c,h,c.same_refl⟩,λ b c ro' v' ps' _ _ hl=>by cases hl⟩
 exact⟨Y,rfl,hmv.rel hI.rel trivial (λ b x' _ hl=>by cases hl) (λ b b' x x' c c' g _ _ hl=>by cases hl),hI.S,hI.cmx,rfl⟩
def Nw(E:Env):Env:={w:=E.w,H:=E.H,Z:=E.Z}
theorem Rel.env{E E':Env}(h:Rel E X)(h1:E'.w=E.w)(h2:E'.H=E.H)(h3:E'.Z=E.Z):Rel E' X:=by
 obtain⟨w,H,Z,kv,rnd⟩:=E
 obtain⟨w',H',Z',kv',rnd'⟩:=E'
 cases h1;cases h2;cases h3
 exact⟨h.blk,h.dis,h.out,h.frz,⟨h.fr.os,h.fr.tape,h.fr.output,h.fr.size,h.fr.block⟩,h.uq⟩
theorem Aor{c:Cfg}(hC:Bi P c=true)(hm:P.follows .mixedOrders=true){C:Orc R}(hO:Fk P C){f:Nat}{fn:Func}(hW:Bb P f fn){L:Jf R}{h:A4}{args:List AV}{blks:List Blk}(hL:Em P blks.length fn.ntmps (bodyOf fn) L)
  {k:AV->List (Option Blk)->List Blk->Option R} {r:R} (hr:Hr c C L h fn args blks k=some r):∃v fin new,k v fin new=some r/\Ah9 P f args blks v fin new:=by
 obtain⟨code,hb,hw,_⟩:=hW.body
 unfold Hr at hr
 rw[hb] at hr
 simp only at hr
 obtain⟨hlen,hr⟩:=An hr
 rw[yZ] at hlen
 obtain⟨e,s1,h1,hu1,h2⟩:=Gk hC hm hO hL (by simp only[U3];exact Ic _ _) hw (hW.loops hb) hr
 have hfn:∃fn,P.funcs[f]?=some fn/\fn.name≠ "runtime.NumGoroutine" /\fn.body.isSome=true:=⟨fn,hW.hf,hW.name,by rw[hb];rfl⟩
 have done:∀(v:AV) (fin:List (Option Blk)) (new:List Blk) (u:FrameMode),u≠.run->
   (∀(Q:Ending->World->Prop) (a:Act) (w:World),LeavesInM Fence.wide 0 P fn a.tmps Q a.defers u w->bodyPostM Fence.wide 0 P fn Q (Ag1 e) a w)->
   (∀X0 E Y a,Y.s=s1->Inv blks.length fn.ntmps X0 (Nw E) Y a->LeavesInM Fence.wide 0 P fn a.tmps (λ e w'=>∃val X'',e=Tk v val/\X''.w=w'/\Sw blks.length (R4 v) fin new E X0 X'' val) [] u Y.w)->Ah9 P f args blks v fin new:=by
  intro v fin new u hu hpost hend
  refine⟨hfn, ?_⟩
  intro E X vals hE
  have hvl:=Qd hE.vals
  refine callsIn_wide.1 (callsIn_of_wp_marks (n:=0) hW.hf hb trivial ?_)
  have hI:Inv blks.length fn.ntmps X (Nw E) X {tmps:=vals.toArray++zQ (fn.ntmps-vals.toArray.size) undef,defers:=[]}:=by
   refine⟨hE.rel.env rfl rfl rfl, ?_, ?_,GS.refl _,λ b cb _ h=>⟨cb,h,cb.same_refl⟩,.nil, ?_,λ t v h=>by simp[Nw] at h⟩
   ·intro t
    rw[hE.s]
    exact Aeb hE.vals _ t
   ·intro b hb
    rw[hE.s] at hb
    exact hE.top b hb
   ·simp;omega
  refine wpIn_mono (h2 X (Nw E) X _ hE.s (.wide rfl rfl) hI) ?_
  rintro e' a' w' ⟨rfl,X',hs',rfl,hI'⟩
  obtain⟨Ds,hd,_,_,_⟩:=hI'.defers
  have hI2:Inv blks.length fn.ntmps X (Nw E) X' {a' with defers:=Ds.map Ph++(Nw E).db}:=by rw[<-hd];exact hI'
  have:=Pb (P:=P) (fn:=fn) (s:=s1) (a:=a') hu (λ Y hs hY=>hend X E Y {a' with defers:=[]} hs hY) Ds X' hs' hI2
  rw[<-hd] at this
  exact hpost _ _ _ this
 have ret:Aph c fn h blks.length s1 k=some r->(e=.normal\/e=.ret)->∃v fin new,k v fin new=some r/\Ah9 P f args blks v fin new:=by
  intro h1 he
  obtain⟨v,fin,new,k1,k2⟩:=Api (N:=fn.ntmps) hC h1
  refine⟨v,fin,new,k1,done v fin new .returning (by simp) (λ Q a w hl=>by rcases he with rfl|rfl<;>exact hl) λ X0 E Y a hs hY=> ?_⟩
  obtain⟨val,X2,q1,q2,q3⟩:=k2 X0 (Nw E) Y a hs hY
  have hv:∀t k n,v≠.pan t k n:=by
   rintro t k n rfl
   cases q3.val
  refine⟨val,q1,val,X2,(O2 hv).symm,q2,⟨q3.rel.env rfl rfl rfl,q3.S,q3.cmx,q3.st,by rw[P3 hv];exact q3.val⟩⟩
 cases e with
 | normal=>exact ret h1 (.inl rfl)
 | ret=>exact ret h1 (.inr rfl)
 | exit id=>cases h1
 | pan t kk n=>
  refine⟨_,_,_,h1,done _ _ _ (.panicking (Nu t kk n)) (by simp) (λ Q a w hl=>hl) λ X0 E Y a hs hY=> ?_⟩
  obtain⟨Z,z1,z2,z3,z4,z5⟩:=hY.drop
  refine⟨undef,Z,rfl,z1,⟨z2.env rfl rfl rfl,z3,z4,λ b=> ?_,.un _⟩⟩
  rw[z5]
  have:(List.map (λ _=>(none:Option Blk)) blks)[b]?.join=none:=by
   rw[List.getElem?_map]
   cases blks[b]?<;>rfl
  rw[this]
  simp[look]
def Ak(P:Program)(e:Au R):Prop:=∀d k r,e.fn d k=some r->∃x,k x=some r/\Ah9 P e.f (e.arg.to d).1 (e.arg.to d).2 (e.res.to x).1 (e.res.to x).2.1 (e.res.to x).2.2
theorem Abq:∀{es:List (Au R)},(∀e∈es,Ak P e)->Fk P (B1 es)
 | [],_=>by intro f as bs k r h;simp[B1] at h
 | e::es,he=>by
  intro f as bs k r h
  have ih:=Abq (es:=es) λ x hx=>he x (by simp[hx])
  simp only[B1] at h
  cases hb:zG e.f f<;>rw[hb] at h<;>simp only[cond_true,cond_false] at h
  ·exact ih f as bs k r h
  ·split at h
   ·rename_i d hd
    obtain⟨x,h1,h2⟩:=he e (by simp) d _ r h
    rw[<-e.arg.ok _ _ hd,A6.1 hb] at h2
    exact⟨_,_,_,h1,h2⟩
   ·exact ih f as bs k r h
theorem Ag0{c:Cfg}(hC:Bi P c=true)(hm:P.follows .mixedOrders=true){C:Orc R}(hO:Fk P C){fn:Func}{L:Jf R}{h:A4}{e:Au R}(hW:Bb P e.f fn)(hL:∀d,Em P (e.arg.to d).2.length fn.ntmps (bodyOf fn) L)
  (hfn:∀d k,e.fn d k=Hr c C L h fn (e.arg.to d).1 (e.arg.to d).2 λ v fin new=>via e.res k (v,fin,new)):Ak P e:=by
 intro d k r hr
 rw[hfn] at hr
 obtain⟨v,fin,new,h1,h2⟩:=Aor hC hm hO hW (hL d) hr
 unfold via at h1
 split at h1
 ·rename_i x hx
  refine⟨x,h1, ?_⟩
  rw[<-e.res.ok _ _ hx]
  exact h2
 ·cases h1
def Ah(P:Program)(m N:Nat)(B:Nat->Code)(e:Am R):Prop:=∀d k r,e.fn d k=some r->∃ex s',k ex s'=some r/\Bt s'.st/\Ie P m N (Ada (B e.b)) (e.st.to d) ex s'
theorem Wh{m N:Nat}{B:Nat->Code}:∀{es:List (Am R)},(∀e∈es,Ah P m N B e)->Em P m N B (Bg es)
 | [],_=>by intro b s k r h;simp[Bg] at h
 | e::es,he=>by
  intro b s k r h
  have ih:=Wh (es:=es) λ x hx=>he x (by simp[hx])
  simp only[Bg] at h
  cases hb:zG e.b b<;>rw[hb] at h<;>simp only[cond_true,cond_false] at h
  ·exact ih b s k r h
  ·split at h
   ·rename_i d hd
    obtain⟨ex,s',h1,h2,h3⟩:=he e (by simp) d _ r h
    rw[<-e.st.ok _ _ hd,A6.1 hb] at h3
    exact⟨ex,s',h1,h2,h3⟩
   ·exact ih b s k r h
theorem Ac8{c:Cfg}(hC:Bi P c=true)(hm:P.follows .mixedOrders=true){C:Orc R}(hO:Fk P C){f:Nat}{fn:Func}(hW:Bb P f fn){m:Nat}{L:Jf R}(hL:Em P m fn.ntmps (bodyOf fn) L){h:A4}{i o:List Nat}{e:Am R}(hnr:Aba (bodyOf fn e.b)=true)
  (hen:∀d,Bt (e.st.to d).st) (g:Nat->e.st.D->(Ex->St->Option R)->Option R) (n:Nat) (hg:∀d k,e.fn d k=g n d k) (h0:∀d k,g 0 d k=none)
  (hs:∀n d k,g (n+1) d k=stepE c C L m h e.b (bodyOf fn e.b) i o (e.st.to d) (via e.st λ d'=>g n d' k) k):Ah P m fn.ntmps (bodyOf fn) e:=by
 intro d k r hr
 rw[hg] at hr
 obtain⟨w1,w2⟩:=hW.bodyOf e.b
 obtain⟨ex,s',h1,h2,h3⟩:=Ao6 hC hm hO hL w1 w2 e.st hen g h0 hs n d k r hr
 exact⟨ex,s',h1,h2,by rw[Rs hnr];exact h3.code⟩
theorem Al{c:Cfg}(hC:Bi P c=true)(hm:P.follows .mixedOrders=true){C:Orc R}(hO:Fk P C){fn:Func}{L:Jf R}{h:A4}{e:Au R}(hW:Bb P e.f fn)(hL:∀d,Em P (e.arg.to d).2.length fn.ntmps (bodyOf fn) L)
  (hfn:∀d k,Hr c C L h fn (e.arg.to d).1 (e.arg.to d).2 k=e.fn d λ x=>k (e.res.to x).1 (e.res.to x).2.1 (e.res.to x).2.2):Ak P e:=
 Ag0 hC hm hO hW hL λ d k=>(congrArg (e.fn d) (funext λ x=>(Aef e.res k x).symm)).trans (hfn d λ v fin new=>via e.res k (v,fin,new)).symm
theorem De{c:Cfg}(hC:Bi P c=true)(hm:P.follows .mixedOrders=true){C:Orc R}(hO:Fk P C){f:Nat}{fn:Func}(hW:Bb P f fn){m:Nat}{L:Jf R}(hL:Em P m fn.ntmps (bodyOf fn) L){h:A4}{i o:List Nat}{e:Am R}(hnr:Aba (bodyOf fn e.b)=true)
  (hen:∀d,Bt (e.st.to d).st) (g:Nat->e.st.D->(Ex->St->Option R)->Option R) (n:Nat) (q:e.st.D->(Ex->St->Option R)->(e.st.D->Option R)->Option R) (hg:∀d k,e.fn d k=g n d k) (h0:∀d k,g 0 d k=none)
  (hq:∀n d k,g (n+1) d k=q d k λ x=>g n x k) (hs:∀d next k,stepE c C L m h e.b (bodyOf fn e.b) i o (e.st.to d) next k=q d k λ x=>next (e.st.to x)):Ah P m fn.ntmps (bodyOf fn) e:=
 Ac8 hC hm hO hW hL hnr hen g n hg h0 λ n d k=>(hq n d k).trans ((congrArg (q d k) (funext λ x=>(Aef e.st (λ d'=>g n d' k) x).symm)).trans (hs d (via e.st λ d'=>g n d' k) k).symm)
theorem Ai{c:Cfg}(hC:Bi P c=true)(hm:P.follows .mixedOrders=true){C:Orc R}(hO:Fk P C){f:Nat}{fn:Func}(hW:Bb P f fn){m:Nat}{L:Jf R}(hL:Em P m fn.ntmps (bodyOf fn) L){h:A4}{i o:List Nat}{e:Am R}(hnr:Aba (bodyOf fn e.b)=true)
  (hen:∀d,Bt (e.st.to d).st) {K:Type} (n:Nat) (s:e.st.D->(e.st.D->Option R)->K->Option R) (J:(Ex->St->Option R)->K) (hg:∀d k,e.fn d k=lp s n d (J k))
  (hs:∀d next k,stepE c C L m h e.b (bodyOf fn e.b) i o (e.st.to d) next k=s d (λ x=>next (e.st.to x)) (J k)):Ah P m fn.ntmps (bodyOf fn) e:=
 De hC hm hO hW hL hnr hen (λ n d k=>lp s n d (J k)) n (λ d k next=>s d next (J k)) hg (λ _ _=>rfl) (λ _ _ _=>rfl) hs
def Anr{α:Type}:List (Nat×α)->Bool
  | []=>true
  | (j,_)::r=>(match look j r with|none=>true|some _=>false)&&Anr r
theorem Aj{α:Type}:∀{l:List (Nat×α)},Anr l=true->Bt l
 | [],_=>trivial
 | (j,_)::r,h=>by
  simp only[Anr,z9] at h
  refine⟨?_,Aj h.2⟩
  cases e:look j r with
  | none=>rfl
  | some x=>rw[e] at h;simp at h
def Ar6(fn:Func):Bool:=
 match fn.body with
 | some code=>wfC fn.ntmps code&&Fz ((Av 0 code).map (·.1))
 | none=>false
theorem Aq{f:Nat}{fn:Func}(hf:P.funcs[f]?=some fn)(hn:(fn.name== "runtime.NumGoroutine")=false)(h:Ar6 fn=true):Bb P f fn:=by
 refine⟨hf,by simpa using hn, ?_⟩
 unfold Ar6 at h
 split at h
 ·rename_i code hb
  simp only[z9] at h
  exact⟨code,hb,h.1,h.2⟩
 ·cases h
theorem Ac:Fk P (B1 ([]:List (Au R))):=Abq (by simp)
theorem Ae{e:Au R}{es:List (Au R)}(h:Ak P e)(hs:Fk P (B1 es)):Fk P (B1 (e::es)):=by
 intro f as bs k r hr
 simp only[B1] at hr
 cases hb:zG e.f f<;>rw[hb] at hr<;>simp only[cond_true,cond_false] at hr
 ·exact hs f as bs k r hr
 ·split at hr
  ·rename_i d hd
   obtain⟨x,h1,h2⟩:=h d _ r hr
   rw[<-e.arg.ok _ _ hd,A6.1 hb] at h2
   exact⟨_,_,_,h1,h2⟩
  ·exact hs f as bs k r hr
theorem Ab{m N:Nat}{B:Nat->Code}:Em P m N B (Bg ([]:List (Am R))):=Wh (by simp)
theorem Af{m N:Nat}{B:Nat->Code}{e:Am R}{es:List (Am R)}(h:Ah P m N B e)(hs:Em P m N B (Bg es)):Em P m N B (Bg (e::es)):=by
 intro b s k r hr
 simp only[Bg] at hr
 cases hb:zG e.b b<;>rw[hb] at hr<;>simp only[cond_true,cond_false] at hr
 ·exact hs b s k r hr
 ·split at hr
  ·rename_i d hd
   obtain⟨ex,s',h1,h2,h3⟩:=h d _ r hr
   rw[<-e.st.ok _ _ hd,A6.1 hb] at h3
   exact⟨ex,s',h1,h2,h3⟩
  ·exact hs b s k r hr
end Go.Ev
namespace Go.Ev
variable{R:Type}{E:Env}{X:Cx}{P:Program}
def Tu(g:Option (Nat×Bool)):Option (Nat×Bool)->Bool
 | none=>g.isNone
 | some (j,b)=>match g with
  | some (j',b')=>zG j j'&&(b==b')
  | none=>false
theorem Ag3{g h:Option (Nat×Bool)}(e:Tu g h=true):g=h:=by
 cases h with
 | none=>simpa[Tu] using e
 | some x=>
  obtain⟨j,b⟩:=x
  cases g with
  | none=>simp[Tu] at e
  | some y=>
   obtain⟨j',b'⟩:=y
   simp only[Tu,z9,beq_iff_eq] at e
   rw[zH e.1,e.2]
def Atq(o:Oper)(d:Nat):Bool:=match o.dst with
 | some d'=>zG d' d
 | none=>false
theorem Aon{o:Oper}{d:Nat}(h:Atq o d=true):o.dst=some d:=by
 unfold Atq at h
 split at h
 ·rename_i d' e;rw[e,zH h]
 ·cases h
def Ud(o:Oper)(t:Nat):Bool:=match o.op with
 | .move (.tmp t')=>zG t' t
 | _=>false
def Xj(o:Oper)(t:Nat):Bool:=match o.op with
 | .assign (.tmp t')=>zG t' t
 | _=>false
def Aip(o:Oper):Bool:=match o.op with
 | .assign (.const (.int .i64 n))=>n==0
 | _=>false
def At7(o:Oper)(K:Nat):Bool:=match o.op with
 | .binOp .lss _ (.tmp 3) (.const (.int .i64 n)) _=>n==(K:Int)
 | _=>false
def At0(o:Oper):Bool:=match o.op with
 | .binOp .add _ (.tmp 10) (.const (.int .i64 n)) _=>n==1
 | _=>false
def Aeh(o:Oper):Bool:=match o.op with
 | .call {callee:=.value (.tmp 6),args:=as,argTypes:=_}=>match as.toList with
  | [.tmp 7]=>true
  | _=>false
 | _=>false
def Ald(o:Oper):Bool:=match o.op with
 | .pick (.tmp 5) (.tmp 8) (.const (.bool false))=>true
 | _=>false
def isB(o:Oper)(d:Nat)(g:Option (Nat×Bool))(b:Bool):Bool:=Atq o d&&(Tu o.guard g&&b)
theorem Ij{o:Oper}{d:Nat}{g:Option (Nat×Bool)}{b:Bool}(h:isB o d g b=true){op:Op}(k:b=true->o.op=op):Io o d op g:=by
 simp only[isB,z9] at h
 exact⟨Aon h.1,k h.2.2,Ag3 h.2.1⟩
theorem Li{o:Oper}{t:Nat}(h:Ud o t=true):o.op=.move (.tmp t):=by
 unfold Ud at h
 split at h
 ·rename_i t' e;rw[e,zH h]
 ·cases h
theorem Acs{o:Oper}{t:Nat}(h:Xj o t=true):o.op=.assign (.tmp t):=by
 unfold Xj at h
 split at h
 ·rename_i t' e;rw[e,zH h]
 ·cases h
theorem Aiq{o:Oper}(h:Aip o=true):o.op=.assign (.const (.int .i64 0)):=by
 unfold Aip at h
 split at h
 ·rename_i n e;rw[e,eq_of_beq h]
 ·cases h
theorem Ao7{o:Oper}{K:Nat}(h:At7 o K=true):∃t t',o.op=.binOp .lss t (.tmp 3) (.const (.int .i64 (K:Int))) t':=by
 unfold At7 at h
 split at h
 ·rename_i t n t' e;exact⟨t,t',by rw[e,eq_of_beq h]⟩
 ·cases h
theorem Aow{o:Oper}(h:At0 o=true):∃t t',o.op=.binOp .add t (.tmp 10) (.const (.int .i64 1)) t':=by
 unfold At0 at h
 split at h
 ·rename_i t n t' e;exact⟨t,t',by rw[e,eq_of_beq h]⟩
 ·cases h
theorem Ah7{o:Oper}(h:Aeh o=true):∃ts,o.op=.call {callee:=.value (.tmp 6),args:= #[.tmp 7],argTypes:=ts}:=by
 unfold Aeh at h
 split at h
 ·rename_i as ts e
  split at h
  ·rename_i e2
   have:as= #[.tmp 7]:=by
    have:=congrArg yG e2
    simpa using this
   exact⟨ts,by rw[e,this]⟩
  ·cases h
 ·cases h
theorem Ale{o:Oper}(h:Ald o=true):o.op=.pick (.tmp 5) (.tmp 8) (.const (.bool false)):=by
 unfold Ald at h
 split at h
 ·assumption
 ·cases h
def Ati(K:Nat)(c:Code):Bool:=match c with
 | .seq (.region _ a0 false) (.block b0 (.loop (.seq (.seq (.region _ a1 false) (.cond (.tmp 9) .skip (.exit b0'))) (.seq (.block _ .skip) (.region _ a2 false)))))=>
  zG b0 b0'&&(match a0.toList,a1.toList,a2.toList with
   | [o0],[p0,p1,p2,p3,p4,p5,p6],[q0,q1,q2]=>
    isB o0 2 none (Aip o0)&&(isB p0 3 none (Ud p0 2)&&(isB p1 4 none (At7 p1 K)&&(isB p2 5 none (Ud p2 4)&&(isB p3 6 (some (2,true)) (Ud p3 0)&&(isB p4 7 (some (2,true)) (Ud p4 2)&&
    (isB p5 8 (some (2,true)) (Aeh p5)&&(isB p6 9 none (Ald p6)&&(isB q0 10 none (Ud q0 2)&&(isB q1 11 none (At0 q1)&&isB q2 2 none (Xj q2 11))))))))))
   | _,_,_=>false)
 | _=>false
theorem Aog{K:Nat}{c:Code}(h:Ati K c=true):Aej K c:=by
 unfold Ati at h
 split at h
 case h_2=>cases h
 rename_i i0 a0 b0 i1 a1 b0' b1 i2 a2
 simp only[z9] at h
 obtain⟨hb,h⟩:=h
 split at h
 case h_2=>cases h
 rename_i o0 p0 p1 p2 p3 p4 p5 p6 q0 q1 q2 e0 e1 e2
 simp only[z9] at h
 obtain⟨k0,k1,k2,k3,k4,k5,k6,k7,k8,k9,k10⟩:=h
 have hz:∀{o d g b},isB o d g b=true->b=true:=λ h=>by simp only[isB,z9] at h;exact h.2.2
 obtain⟨tI,tJ,l1⟩:=Ao7 (hz k2)
 obtain⟨tI',tJ',l2⟩:=Aow (hz k9)
 obtain⟨ts,l3⟩:=Ah7 (hz k6)
 have c0:a0= #[o0]:=by simpa using congrArg yG e0
 have c1:a1= #[p0,p1,p2,p3,p4,p5,p6]:=by simpa using congrArg yG e1
 have c2:a2= #[q0,q1,q2]:=by simpa using congrArg yG e2
 subst c0 c1 c2
 have:=zH hb
 subst this
 exact⟨i0,i1,i2,b0,b1,tI,tJ,tI',tJ',ts,o0,p0,p1,p2,p3,p4,p5,p6,q0,q1,q2,rfl,Ij k0 Aiq,Ij k1 Li,Ij k2 λ _=>l1,Ij k3 Li,Ij k4 Li,Ij k5 Li,
  Ij k6 λ _=>l3,Ij k7 Ale,Ij k8 Li,Ij k9 λ _=>l2,Ij k10 Acs⟩
structure Yx(P:Program)(gf K:Nat):Prop where
 le:K<=100000
 is:∃fn c,P.funcs[gf]?=some fn/\fn.body=some c/\fn.ntmps=12/\fn.results= #[]/\fn.name≠ "runtime.NumGoroutine" /\Aej K c
def Ai5(K:Nat)(fn:Func):Bool:=Nat.ble K 100000&&(zG fn.ntmps 12&&(zG fn.results.size 0&&(match fn.body with
 | some c=>Ati K c
 | none=>false)))
theorem Ai6{gf K:Nat}{fn:Func}(hf:P.funcs[gf]?=some fn)(hn:(fn.name== "runtime.NumGoroutine")=false)(h:Ai5 K fn=true):Yx P gf K:=by
 simp only[Ai5,z9] at h
 obtain⟨h1,h2,h3,h4⟩:=h
 split at h4
 case h_2=>cases h4
 rename_i c hb
 exact⟨by rwa[yZ] at h1,fn,c,hf,hb,zH h2,Array.eq_empty_of_size_eq_zero (zH h3),by simpa using hn,Aog h4⟩
def rfA:Code->Code
 | .rangeFunc _ _ a _=>a
 | _=>.skip
def rfB:Code->Code
 | .rangeFunc _ _ _ c=>c
 | _=>.skip
def rfG:Code->Operand
 | .rangeFunc g _ _ _=>g
 | _=>.tmp 0
structure Za(P:Program)(m N:Nat)(h:A4)(p:Nat)(assign body:Code)(i:List Nat)(j:Nat)(s s':St):Prop where
 go:∃s1 s2,Ie P m N assign {s with tm:=put p (.int .i64 (j:Int)) s.tm} .normal s1/\Ie P m N body s1 .normal s2/\Nq m h.fz i (Atl i s2)=some s'
theorem Ahs{c:Cfg}(hC:Bi P c=true)(hm:P.follows .mixedOrders=true){C:Orc R}(hO:Fk P C){m N:Nat}{B:Nat->Code}{L:Jf R}(hL:Em P m N B L){h:A4}{b p:Nat}{assign body:Code}{i:List Nat}{j:Nat}{s:St}{next:St->Option R}{r:R}
  (hu:Bt s.st) (hwa:wfC N assign=true) (hwb:wfC N body=true) (hBa:∀x∈Av b assign,x.2=B x.1) (hBb:∀x∈Av b body,x.2=B x.1) (hr:roundE c C L m h b p assign body i j s next=some r):
  ∃s',next s'=some r/\Bt s'.st/\Za P m N h p assign body i j s s':=by
 unfold roundE at hr
 obtain⟨e,s1,h1,hu1,h2⟩:=Gk (b:=b) hC hm hO hL (by exact hu) hwa hBa hr
 cases e with
 | exit id=>cases h1
 | ret=>cases h1
 | pan=>cases h1
 | normal=>
  simp only at h1
  obtain⟨e,s2,h3,hu2,h4⟩:=Gk hC hm hO hL hu1 hwb hBb h1
  cases e with
  | exit id=>cases h3
  | ret=>cases h3
  | pan=>cases h3
  | normal=>
   simp only at h3
   split at h3
   case h_2=>cases h3
   rename_i s3 hn
   exact⟨s3,h3,Js hn,⟨s1,s2,h2,h4,hn⟩⟩
theorem Aht{c:Cfg}(hC:Bi P c=true)(hm:P.follows .mixedOrders=true){C:Orc R}(hO:Fk P C){m N:Nat}{B:Nat->Code}{L:Jf R}(hL:Em P m N B L){h:A4}{b p:Nat}{assign body:Code}{i o:List Nat}
    (hwa:wfC N assign=true) (hwb:wfC N body=true) (hBa:∀x∈Av b assign,x.2=B x.1) (hBb:∀x∈Av b body,x.2=B x.1) (en:Enc St) (hen:∀d,Bt (en.to d).st) (f:Nat->Nat->en.D->(Ex->St->Option R)->Option R)
    (h0:∀j d k,f 0 j d k=Hm m h o (en.to d) k) (hs:∀n j d k,f (n+1) j d k=roundE c C L m h b p assign body i j (en.to d) (via en λ d'=>f n (j+1) d' k)):
    ∀n j d k r,f n j d k=some r->∃fs:Nat->St,fs 0=en.to d/\(∀t,t<n->Za P m N h p assign body i (j+t) (fs t) (fs (t+1)))/\∃s',Nq m h.fz o (fs n)=some s'/\k .normal s'=some r:=by
  intro n
  induction n with
  | zero=>
    intro j d k r hr
    rw[h0] at hr
    unfold Hm at hr
    split at hr
    case h_2=>cases hr
    rename_i s' hn
    exact⟨λ _=>en.to d,rfl,λ t ht=>by omega,s',hn,hr⟩
  | succ n ih=>
    intro j d k r hr
    rw[hs] at hr
    obtain⟨s1,h1,_,h3⟩:=Ahs hC hm hO hL (hen d) hwa hwb hBa hBb hr
    unfold via at h1
    split at h1
    case h_2=>cases h1
    rename_i d' hd
    obtain⟨fs,k1,k2,k3⟩:=ih (j+1) d' k r h1
    refine⟨λ t=>match t with|0=>en.to d|t+1=>fs t,rfl,λ t ht=> ?_,k3⟩
    cases t with
    | zero=>
      rw[en.ok _ _ hd] at h3
      show Za P m N h p assign body i j (en.to d) (fs 0)
      rw[k1];exact h3
    | succ t=>
      have:=k2 t (by omega)
      rwa[show j+1+t=j+(t+1) by omega] at this
theorem Yg{w:World}{l:Nat}{o o':Obj}(h:w.heap[l]?=some o'):(w.putObj l o).putObj l o'=w:=by
 have hl:l<w.heap.size:=(Array.getElem?_eq_some_iff.1 h).1
 have:(w.heap.setIfInBounds l o).setIfInBounds l o'=w.heap:=by
  apply Array.ext_getElem?
  intro k
  by_cases e:l=k
  ·subst e
   rw[Array.getElem?_setIfInBounds_self_of_lt (by simpa using hl),h]
  ·rw[Array.getElem?_setIfInBounds_ne e,Array.getElem?_setIfInBounds_ne e]
 simp only[World.putObj,this]
theorem Rel.turn(hR:Rel E X){l:Nat}(x:Obj)(hl:l<E.w.heap.size)(hH:¬E.H l)(hS:∀q,¬X.S q l):
  Rel {E with w:=E.w.putObj l x} {X with w:=X.w.putObj l x}/\Ext X {X with w:=X.w.putObj l x}:=by
 have hno:∀b y cb,look b X.s.st=some y->X.cm b=some cb->∀g∈cb.fp,g≠l:=by
  rintro b y cb h1 h2 g hg rfl
  obtain⟨cb',k1,_,_,k4⟩:=hR.blk b y h1
  rw[h2] at k1;cases k1
  rcases(k4 g hg).2 with k|k
  ·exact hH k
  ·omega
 have hsame:∀g,g≠l->(X.w.putObj l x).heap[g]?=X.w.heap[g]?:=λ g hg=>World.putObj_heap_other hg
 have hx:Ext X {X with w:=X.w.putObj l x}:=⟨λ b cb h=>⟨cb,h,cb.same_refl⟩,λ n g hg=>⟨hg,hsame g λ e=>hS n (e▸hg)⟩,
  λ b cb hc ro' v' ps' hb=>⟨ro',v',ps',hb,zE _,λ _ _=>⟨rfl,rfl,rfl,λ g hg=>hsame g (hno b _ cb hb hc g hg)⟩⟩⟩
 refine⟨⟨?_,hR.dis, ?_, ?_,⟨hR.fr.os,hR.fr.tape,hR.fr.output, ?_, ?_⟩,hR.uq⟩,hx⟩
 ·intro b y hb
  obtain⟨cb,q1,q2,q3,q4⟩:=hR.blk b y hb
  refine⟨cb,q1,q2.ext hx λ g hg=>hsame g (hno b y cb hb q1 g hg),q3,λ g hg=> ?_⟩
  simp only[World.putObj_size]
  exact q4 g hg
 ·intro n g hg
  simp only[World.putObj_size]
  exact hR.out n g hg
 ·intro g hg
  simp only[World.putObj_size]
  exact hR.frz g hg
 ·simp only[World.putObj_size]
  exact hR.fr.size
 ·intro g hg hg2
  simp only[World.putObj_size] at hg
  by_cases e:g=l
  ·subst e
   rw[World.putObj_heap_same hg,World.putObj_heap_same (zM hg hR.fr.size)]
  ·rw[World.putObj_heap_other e,World.putObj_heap_other e]
   exact hR.fr.block g hg hg2
structure Bet(m N:Nat)(X0:Cx)(E:Env)(a:Act)(D:Nat)(rec:Loop)(s:St)(X':Cx):Prop where
 s:X'.s=s
 inv:Inv m N X0 E X' a
 hD:X'.w.heap[D]?=some (.deferred (some []))
 hl:X'.w.heap[D+1]?=some (.loop rec)
 geD:E.w.heap.size<=D
 oD:¬Jg X' D
 ol:¬Jg X' (D+1)
 sD:¬X'.S none D
 sl:¬X'.S none (D+1)
theorem Aak{t:Array Value}{p k:Nat}{v:Value}(h:p≠k):(t.setIfInBounds p v).getD k undef=t.getD k undef:=by
 simp[Array.getElem?_setIfInBounds_ne h]
theorem Atm{i:List Nat}{s:St}{t:Nat}:getD .un t (i.map λ t=>(t,getD .un t s.tm))=if t∈i then getD .un t s.tm else .un:=by
 induction i with
 | nil=>simp[getD]
 | cons j r ih=>
  simp only[yL,getD,zL]
  cases h:zG j t
  ·have:=A7.1 h
   simp only[cond_false,ih]
   by_cases h2:t∈r
   ·simp[h2]
   ·simp[h2,Ne.symm this]
  ·have:=A6.1 h
   subst this
   simp
theorem Ags{m N:Nat}{X0:Cx}{a:Act}{D:Nat}{rec:Loop}{hh:A4}{p:Nat}{assign body:Code}{i:List Nat}{j:Nat}{s s':St}{X':Cx}{f:FuncId}
  (hb:Bet m N X0 E a D rec s X') (hst:rec.state=.ready) (hpe:rec.pending=none) (hp:p<N) (hpi:p∉i) (hda:∀t∈D3 assign,t∉i) (hdb:∀t∈D3 body,t∉i) (hra:Fh assign=false) (hrb:Fh body=false)
  (hr:Za P m N hh p assign body i j s s'):
  RoundIn Fence.wide 0 P (D+1) f (a.tmps.setIfInBounds p (.int .i64 (j:Int))) assign body X'.w λ e W'=>e=.returned (.bool true)/\∃Y,Bet m N X0 E a D rec s' Y/\Y.w=W':=by
 obtain⟨s1,s2,r1,r2,r3⟩:=hr.go
 have hR:=hb.inv.rel
 have hlt:D+1<X'.w.heap.size:=(Array.getElem?_eq_some_iff.1 hb.hl).1
 let kv:Nat->Option Value:=λ t=>if t∈i then some (a.tmps.getD t undef) else none
 let E1:Env:={w:=X'.w,H:=Jg X',Z:=X'.S none,kv:=kv,rnd:=some (D+1)}
 let X0':Cx:={X0 with S:=X'.S}
 have hxs:∀q,¬X'.S q (D+1):=λ q=>by
  cases q with
  | none=>exact hb.sl
  | some n=>intro hg;have:=(hR.out n _ hg).1;have:=hb.geD;omega
 let X1:Cx:=Mr X' {s with tm:=put p (.int .i64 (j:Int)) s.tm}
 have hE1:Rel E1 X':=(hR.fresh).env rfl rfl rfl
 have x1:Ext X' X1:=Ext.seq rfl rfl rfl λ b=>by show look b s.st=_;rw[hb.s]
 have hkv:∀t v,E1.kv t=some v->t∈i/\v=a.tmps.getD t undef:=by
  intro t v h
  have h:(if t∈i then some (a.tmps.getD t undef) else none)=some v:=h
  by_cases e:t∈i
  ·rw[if_pos e] at h;cases h;exact⟨e,rfl⟩
  ·rw[if_neg e] at h;cases h
 have hkvn:∀t,t∉i->E1.kv t=none:=λ t e=>if_neg e
 have hI1:Inv m N X0' E1 X1 {tmps:=a.tmps.setIfInBounds p (.int .i64 (j:Int)),defers:=[]}:=by
  refine⟨hE1.seq rfl rfl rfl (λ b=>by show look b s.st=_;rw[hb.s]) ?_, ?_, ?_,GS.refl _, ?_,.nil, ?_, ?_⟩
  ·show Bt s.st
   rw[<-hb.s];exact hR.uq
  ·intro t
   show VRel X1 (getD .un t (put p _ s.tm)) _
   rw[Hi]
   by_cases e:t=p
   ·subst e
    rw[if_pos rfl]
    have:((a.tmps.setIfInBounds t (.int .i64 (j:Int))).getD t undef)=.int .i64 (j:Int):=by
     have:=hb.inv.size
     simp[this,hp]
    rw[this]
    exact .int _ _
   ·rw[if_neg e,Aak (Ne.symm e),<-hb.s]
    exact(hb.inv.tr t).ext x1
  ·intro b hb'
   exact hb.inv.top b (by rw[hb.s];exact hb')
  ·exact hb.inv.cmx
  ·simp[hb.inv.size]
  ·intro t v h
   obtain⟨h1,rfl⟩:=hkv t v h
   exact Aak λ e=>hpi (e▸h1)
 refine roundIn_of_wpIn trivial ?_
 have fa:G8 E1 assign:=⟨λ t ht=>hkvn t (hda t ht),λ e=>by rw[hra] at e;cases e⟩
 refine wpIn_mono (r1 X0' E1 X1 _ rfl fa hI1) ?_
 rintro e1 a1 w1 ⟨rfl,Y1,ys1,rfl,hJ1⟩
 have hown1:¬E1.H (D+1):=hb.ol
 have hl1:Y1.w.heap[D+1]?=some (.loop rec):=(hJ1.rel.fr.block _ hlt hown1).trans hb.hl
 refine⟨_,run_beginRound hl1 hst, ?_⟩
 have hs1:∀q,¬Y1.S q (D+1):=λ q=>by
  cases q with
  | none=>
   intro hg
   rcases(hJ1.rel.frz _ hg).2.1 with k|k|k
   ·exact hb.sl k
   ·exact hb.ol k
   ·have:X'.w.heap.size<=D+1:=k;omega
  | some n=>rw[hJ1.S.1 n];exact hxs (some n)
 obtain⟨t1,t2⟩:=hJ1.rel.turn (.loop {rec with state:=.busy}) hlt hown1 hs1
 let E2:Env:={E1 with w:=E1.w.putObj (D+1) (.loop {rec with state:=.busy})}
 let Y2:Cx:={Y1 with w:=Y1.w.putObj (D+1) (.loop {rec with state:=.busy})}
 have hmk:∀{Z Z':Cx} {F F':Env} {ds:List Deferred},It F Z ds->F'.db=F.db->F'.nm=F.nm->F'.w.heap.size=F.w.heap.size->Ext Z Z'->It F' Z' ds:=by
  rintro Z Z' F F' ds ⟨Ds,m1,m0,m2,m3⟩ hd hn hs hx
  exact⟨Ds,by rw[hd];exact m1,by rw[hn];exact m0,m2,λ D' hD'=>⟨by rw[hs];exact(m3 D' hD').1,(hx.sts _ _ (m3 D' hD').2.1).1,(hx.sts _ _ (m3 D' hD').2.1).2.trans (m3 D' hD').2.2⟩⟩
 have hJ2:Inv m N X0' E2 Y2 a1:=⟨t1,λ t=>(hJ1.tr t).ext t2,hJ1.top,hJ1.S,hJ1.cmx,hmk hJ1.defers rfl rfl (World.putObj_size ..) t2,hJ1.size,hJ1.keep⟩
 have fb:G8 E2 body:=⟨λ t ht=>hkvn t (hdb t ht),λ e=>by rw[hrb] at e;cases e⟩
 refine wpIn_mono (r2 X0' E2 Y2 _ ys1 fb hJ2) ?_
 rintro e2 a2 w2 ⟨rfl,Y3,ys3,rfl,hJ3⟩
 have hlt2:D+1<E2.w.heap.size:=by show _<(X'.w.putObj _ _).heap.size;rw[World.putObj_size];exact hlt
 have hl3:Y3.w.heap[D+1]?=some (.loop {rec with state:=.busy}):=(hJ3.rel.fr.block _ hlt2 hown1).trans (World.putObj_heap_same hlt)
 refine⟨_,_,run_endRound none hl3, ?_⟩
 have e4:({{rec with state:=.busy} with state:=if(none:Option Code).isNone then LoopState.ready else .done,pending:=none}:Loop)=rec:=by
  simp only[Option.isNone_none,if_true]
  rw[<-hst,<-hpe]
 rw[e4]
 refine⟨rfl, ?_⟩
 have hs3:∀q,¬Y3.S q (D+1):=λ q=>by
  cases q with
  | none=>
   intro hg
   rcases(hJ3.rel.frz _ hg).2.1 with k|k|k
   ·exact hb.sl k
   ·exact hb.ol k
   ·have:E2.w.heap.size<=D+1:=k;omega
  | some n=>rw[hJ3.S.1 n];exact hxs (some n)
 obtain⟨u1,u2⟩:=hJ3.rel.turn (.loop rec) hlt2 hown1 hs3
 let Y4:Cx:={Y3 with w:=Y3.w.putObj (D+1) (.loop rec)}
 have hE4:Rel (fresh X') Y4:=u1.env (by
  show X'.w=(X'.w.putObj (D+1) _).putObj (D+1) _
  rw[Yg hb.hl]) rfl rfl
 let Y5:Cx:=Mr Y4 (Atl i s2)
 have x5:Ext Y4 Y5:=Ext.seq rfl rfl rfl λ b=>by show look b s2.st=look b Y3.s.st;rw[ys3]
 have hI5:Inv m N X0' (fresh X') Y5 {tmps:=a.tmps,defers:=[]}:=by
  refine⟨hE4.seq rfl rfl rfl (λ b=>by show look b s2.st=look b Y3.s.st;rw[ys3]) ?_, ?_, ?_,hJ3.S,hJ3.cmx,.nil,hb.inv.size,λ t v h=>by cases h⟩
  ·show Bt s2.st
   rw[<-ys3];exact hJ3.rel.uq
  ·intro t
   show VRel Y5 (getD .un t (i.map λ t=>(t,getD .un t s2.tm))) _
   rw[Atm]
   by_cases e:t∈i
   ·rw[if_pos e]
    have h1:=((hJ3.tr t).ext u2).ext x5
    rw[ys3,hJ3.keep t (a.tmps.getD t undef) (if_pos e)] at h1
    exact h1
   ·rw[if_neg e];exact .un _
  ·intro b hb'
   exact hJ3.top b (by rw[ys3];exact hb')
 obtain⟨Y6,z1,z2,z3⟩:=J2 hI5 r3
 have hw6:Y6.w=Y3.w.putObj (D+1) (.loop rec):=z2
 have hrel:Rel E Y6:=Rel.back hR z3.rel z3.S
 have hltD:D<X'.w.heap.size:=(Array.getElem?_eq_some_iff.1 hb.hD).1
 have hD6:Y6.w.heap[D]?=some (.deferred (some [])):=(z3.rel.fr.block D hltD hb.oD).trans hb.hD
 have hl6:Y6.w.heap[D+1]?=some (.loop rec):=(z3.rel.fr.block (D+1) hlt hb.ol).trans hb.hl
 refine⟨Y6,⟨z1,⟨hrel,λ t=>z3.tr t,z3.top,z3.S.trans hb.inv.S,z3.cmx, ?_,hb.inv.size,hb.inv.keep⟩,hD6,hl6,hb.geD, ?_, ?_, ?_, ?_⟩,hw6⟩
 ·obtain⟨Ds,m1,m0,m2,m3⟩:=hb.inv.defers
  refine⟨Ds,m1,m0,m2,λ D' hD'=> ?_⟩
  obtain⟨n1,n2,n3⟩:=m3 D' hD'
  obtain⟨f1,_,f3⟩:=hR.frz D' n2
  refine⟨n1,z3.S.2 _ n2,(z3.rel.fr.block D' f1 ?_).trans n3⟩
  rintro⟨b,x,cb,o1,o2,o3⟩
  exact f3 b x cb o1 o2 o3
 ·rintro⟨b,x,cb,o1,o2,o3⟩
  obtain⟨cb',k1,_,_,k4⟩:=z3.rel.blk b x o1
  rw[o2] at k1;cases k1
  rcases(k4 D o3).2 with k|k
  ·exact hb.oD k
  ·have:X'.w.heap.size<=D:=k;omega
 ·rintro⟨b,x,cb,o1,o2,o3⟩
  obtain⟨cb',k1,_,_,k4⟩:=z3.rel.blk b x o1
  rw[o2] at k1;cases k1
  rcases(k4 _ o3).2 with k|k
  ·exact hb.ol k
  ·have:X'.w.heap.size<=D+1:=k;omega
 ·intro hg
  rcases(z3.rel.frz _ hg).2.1 with k|k|k
  ·exact hb.sD k
  ·exact hb.oD k
  ·have:X'.w.heap.size<=D:=k;omega
 ·intro hg
  rcases(z3.rel.frz _ hg).2.1 with k|k|k
  ·exact hb.sl k
  ·exact hb.ol k
  ·have:X'.w.heap.size<=D+1:=k;omega
theorem Ahn{m N:Nat}{h:A4}{p:Nat}{assign body:Code}{i o:List Nat}{K gf:Nat}{g:Operand}{fs:Nat->St}{s':St}(hc:Yx P gf K)
  (hp:p<N) (hpi:p∉i) (hda:∀t∈D3 assign,t∉i) (hdb:∀t∈D3 body,t∉i) (hra:Fh assign=false) (hrb:Fh body=false)
  (hg:ev (fs 0) g=.fn gf []) (hr:∀t,t<K->Za P m N h p assign body i t (fs t) (fs (t+1))) (ho:Nq m h.fz o (fs K)=some s'):
  Ie P m N (.rangeFunc g #[p] assign body) (fs 0) .normal s':=by
 obtain⟨hle,fn,c,hf,hb,hn,hres,hname,hcnt⟩:=hc
 intro X0 E X a hs hft hI
 rw[(hft.rf rfl).1]
 have hR:=hI.rel
 have heg:a.eval g=.func (.func gf) #[] #[]:=by
  have:=Bj hI.tr g
  rw[hs,hg] at this
  generalize a.eval g=u at this
  cases this with
  | fn hv=>cases hv;rfl
 have hres':∀tmps w,∃v,(results fn tmps).run P w=.ok v w:=by
  intro tmps w
  refine⟨.tuple #[], ?_⟩
  simp[results,hres,Sem.run_bind]
 have hcall:∀args w,(callFunc gf args).run P w=.ok (.enter gf args) w:=λ args w=>by simp[callFunc,hf,hname,hb]
 refine Aho (P:=P) hle hcnt hf hb hn hres' hcall heg ?_
 intro f
 let rc:Loop:=M4 a X.w p assign body f .ready
 refine⟨λ t W=>∃Y,Bet m N X0 E a X.w.heap.size rc (fs t) Y/\Y.w=W, ?_, ?_, ?_, ?_⟩
 ·
  let W1:World:=(X.w.alloc (.deferred (some []))).alloc (.loop rc)
  have hsz:W1.heap.size=X.w.heap.size+2:=by simp[W1,World.size_alloc]
  have hold:∀g,g<X.w.heap.size->W1.heap[g]?=X.w.heap[g]?:=by
   intro g hg
   show((X.w.heap.push _).push _)[g]?=_
   rw[Array.getElem?_push_lt (by simp;omega),Array.getElem_push_lt hg]
   simp[hg]
  obtain⟨q1,q2⟩:=hR.world (w':=W1) rfl rfl rfl (by omega) λ g hg _=>hold g hg
  have hnl:∀g,X.w.heap.size<=g->¬Jg {X with w:=W1} g:=by
   rintro g hg ⟨b,x,cb,o1,o2,o3⟩
   obtain⟨cb',k1,_,_,k4⟩:=hR.blk b x o1
   have o2:X.cm b=some cb:=o2
   rw[o2] at k1;cases k1
   have:=(k4 g o3).1
   omega
  have hns:∀g,X.w.heap.size<=g->¬X.S none g:=λ g hg k=>by have:=(hR.frz g k).1;omega
  refine⟨{X with w:=W1},⟨hs,⟨q1,λ t=>(hI.tr t).ext q2,hI.top,hI.S,hI.cmx,hI.defers.ext q2,hI.size,hI.keep⟩, ?_, ?_,hR.fr.size,hnl _ (zE _),hnl _ (by omega),hns _ (zE _),hns _ (by omega)⟩,rfl⟩
  ·show((X.w.heap.push _).push _)[X.w.heap.size]?=_
   rw[Array.getElem?_push_lt (by simp)]
   simp
  ·have:=World.alloc_heap_new (X.w.alloc (.deferred (some []))) (.loop rc)
   rwa[World.size_alloc] at this
 ·rintro t W ⟨Y,hY,rfl⟩
  exact hY.hl
 ·rintro t W ht ⟨Y,hY,rfl⟩
  exact Ags hY rfl rfl hp hpi hda hdb hra hrb (hr t ht)
 ·rintro W ⟨Y,hY,rfl⟩
  have hYR:=hY.inv.rel
  let W2:World:=Y.w.putObj (X.w.heap.size+1) (.loop (M4 a X.w p assign body f .exhausted))
  have hoth:∀g,g≠X.w.heap.size+1->W2.heap[g]?=Y.w.heap[g]?:=λ g hg=>World.putObj_heap_other hg
  have hge:=hY.geD
  obtain⟨q1,q2⟩:=hYR.world (w':=W2) rfl rfl rfl (by show _<=(Y.w.putObj _ _).heap.size;rw[World.putObj_size];exact zE _) λ g hg hh=>hoth g (by
   rintro rfl
   rcases hh with hh|⟨n,hh⟩|hh
   ·exact hY.ol hh
   ·cases n with
    | none=>exact hY.sl hh
    | some n=>have:=(hYR.out n _ hh).1;omega
   ·omega)
  let Z:Cx:={Y with w:=W2,S:=λ q g=>match q with
   | none=>Y.S none g\/g=X.w.heap.size
   | some n=>Y.S (some n) g}
  have x2:Ext {Y with w:=W2} Z:=by
   refine⟨λ b cb h=>⟨cb,h,cb.same_refl⟩,λ n g hg=>⟨?_,rfl⟩,λ b cb hc ro' v' ps' hl=>⟨ro',v',ps',hl,zE _,λ _ _=>⟨rfl,rfl,rfl,λ _ _=>rfl⟩⟩⟩
   cases n with
   | none=>exact .inl hg
   | some n=>exact hg
  have hlt:X.w.heap.size<Y.w.heap.size:=(Array.getElem?_eq_some_iff.1 hY.hD).1
  have hsz2:W2.heap.size=Y.w.heap.size:=World.putObj_size ..
  have hZR:Rel E Z:=by
   refine⟨λ b x hl=> ?_,q1.dis,q1.out,λ g hg=> ?_,q1.fr,q1.uq⟩
   ·obtain⟨cb,k1,k2,k3,k4⟩:=q1.blk b x hl
    exact⟨cb,k1,k2.ext x2 λ _ _=>rfl,k3,k4⟩
   ·rcases hg with hg|rfl
    ·exact q1.frz g hg
    ·exact⟨by show _<W2.heap.size;omega,.inr (.inr hge),λ b x cb hl hc hfp=>hY.oD ⟨b,x,cb,hl,hc,hfp⟩⟩
  have x3:=q2.trans x2
  have hIZ:Inv m N X0 E Z {a with defers:=Ph X.w.heap.size::a.defers}:=by
   refine⟨hZR,λ t=>(hY.inv.tr t).ext x3,hY.inv.top, ?_,hY.inv.cmx, ?_,hY.inv.size,hY.inv.keep⟩
   ·exact⟨hY.inv.S.1,λ g hg=>.inl (hY.inv.S.2 g hg)⟩
   ·obtain⟨Ds,m1,_,m2,m3⟩:=hY.inv.defers.ext x3
    refine⟨X.w.heap.size::Ds,by simp[m1],(λ e=>absurd (e.symm.trans (hft.rf rfl).2) (by simp)),List.nodup_cons.2 ⟨λ hin=> ?_,m2⟩,λ D' hD'=> ?_⟩
    ·obtain⟨Ds',n1,_,n2,n3⟩:=hY.inv.defers
     have e:Ds=Ds':=(yQ (λ _ _ h=>Aaz h)).1 (yF (m1.symm.trans n1))
     subst e
     exact hY.sD (n3 _ hin).2.1
    ·rcases List.mem_cons.1 hD' with rfl|hD'
     ·exact⟨hge,.inr rfl,(hoth _ (by omega)).trans hY.hD⟩
     ·exact m3 D' hD'
  rw[<-hY.s] at ho
  obtain⟨Z2,z1,z2,z3⟩:=J2 hIZ (show Nq m h.fz o Z.s=some s' from ho)
  refine⟨rfl,Z2,z1,z2, ?_⟩
  exact z3
theorem Xz{c:Cfg}(hC:Bi P c=true)(hm:P.follows .mixedOrders=true){C:Orc R}(hO:Fk P C){f:Nat}{fn:Func}(hW:Bb P f fn){m:Nat}{L:Jf R}(hL:Em P m fn.ntmps (bodyOf fn) L){h:A4}{i o:List Nat}{e:Am R}
  {g:Operand} {p gf K:Nat} {assign body:Code} (hcode:bodyOf fn e.b=.rangeFunc g #[p] assign body) (hc:Yx P gf K)
  (hck:(zS p fn.ntmps&&(!(Gd p i)&&((D3 assign).all (λ t=> !(Gd t i))&&((D3 body).all (λ t=> !(Gd t i))&&(!(Fh assign)&& !(Fh body))))))=true)
  (hen:∀d,Bt (e.st.to d).st) (hg:∀d,ev (e.st.to d) g=.fn gf []) (G:Nat->Nat->e.st.D->(Ex->St->Option R)->Option R) (hfn:∀d k,e.fn d k=G K 0 d k)
  (h0:∀j d k,G 0 j d k=Hm m h o (e.st.to d) k) (hs:∀n j d k,G (n+1) j d k=roundE c C L m h e.b p assign body i j (e.st.to d) (via e.st λ d'=>G n (j+1) d' k)):
  Ah P m fn.ntmps (bodyOf fn) e:=by
 intro d k r hr
 rw[hfn] at hr
 obtain⟨w1,w2⟩:=hW.bodyOf e.b
 rw[hcode] at w1
 simp only[wfC,z9] at w1
 have hcl:∀x∈Av e.b (.rangeFunc g #[p] assign body),x.2=bodyOf fn x.1:=by rw[<-hcode];exact w2
 simp only[Av,zW,zL,zJ] at hcl
 obtain⟨fs,k1,k2,s',k3,k4⟩:=Aht hC hm hO hL w1.1 w1.2 (λ x hx=>hcl x (.inr (.inl hx))) (λ x hx=>hcl x (.inr (.inr hx))) e.st hen G h0 hs K 0 d k r hr
 simp only[z9,zN,zP] at hck
 obtain⟨c1,c2,c3,c4,c5,c6⟩:=hck
 rw[zC] at c1
 have hno:∀t,Gd t i=false->t∉i:=λ t ht hi=>by rw[Gn.2 hi] at ht;cases ht
 refine⟨.normal,s',k4,Js k3, ?_⟩
 rw[hcode,<-k1]
 show Ie P m fn.ntmps (.rangeFunc g #[p] assign body) (fs 0) .normal s'
 refine Ahn (h:=h) (o:=o) hc c1 (hno p c2) (λ t ht=>hno t (c3 t ht)) (λ t ht=>hno t (c4 t ht)) c5 c6 (by rw[k1];exact hg d) (λ t ht=> ?_) k3
 have:=k2 t ht
 rwa[zA] at this
theorem Gm{c:Cfg}(hC:Bi P c=true)(hm:P.follows .mixedOrders=true){C:Orc R}(hO:Fk P C){f:Nat}{fn:Func}(hW:Bb P f fn){m:Nat}{L:Jf R}(hL:Em P m fn.ntmps (bodyOf fn) L){h:A4}{i o:List Nat}{e:Am R}
  {p gf K:Nat} (hcode:bodyOf fn e.b=.rangeFunc (rfG (bodyOf fn e.b)) #[p] (rfA (bodyOf fn e.b)) (rfB (bodyOf fn e.b))) (hc:Yx P gf K)
  (hck:(zS p fn.ntmps&&(!(Gd p i)&&((D3 (rfA (bodyOf fn e.b))).all (λ t=> !(Gd t i))&&((D3 (rfB (bodyOf fn e.b))).all (λ t=> !(Gd t i))&&(!(Fh (rfA (bodyOf fn e.b)))&& !(Fh (rfB (bodyOf fn e.b))))))))=true)
  (hen:∀d,Bt (e.st.to d).st) (hg:∀d,ev (e.st.to d) (rfG (bodyOf fn e.b))=.fn gf []) (G:Nat->Nat->e.st.D->(Ex->St->Option R)->Option R) (q:Nat->e.st.D->(e.st.D->Option R)->Option R) (hfn:∀d k,e.fn d k=G K 0 d k)
  (h0:∀j d k,Hm m h o (e.st.to d) k=G 0 j d k) (hq:∀n j d k,G (n+1) j d k=q j d λ x=>G n (j+1) x k)
  (hs:∀j d next,roundE c C L m h e.b p (rfA (bodyOf fn e.b)) (rfB (bodyOf fn e.b)) i j (e.st.to d) next=q j d λ x=>next (e.st.to x)):
  Ah P m fn.ntmps (bodyOf fn) e:=
 Xz hC hm hO hW hL hcode hc hck hen hg G hfn (λ j d k=>(h0 j d k).symm) λ n j d k=>(hq n j d k).trans ((congrArg (q j d) (funext λ x=>(Aef e.st (λ d'=>G n (j+1) d' k) x).symm)).trans (hs j d (via e.st λ d'=>G n (j+1) d' k)).symm)
end Go.Ev
namespace Go.Ev
open Go.RowKit Go.ChangeShapes Go.WideShapes
open Go.ChangeMaps (open_string shut_string)
def kiF(rec:TypeId->Ki->Bool)(sz:TypeId->Nat):List Field->Ki->Nat->Bool
 | [],.unit,_=>true
 | [f],K,o=>zG f.offset o&&(rec f.type K&&zG (sz f.type) K.size)
 | f::g::fs,.pair a b,o=>zG f.offset o&&(rec f.type a&&(zG (sz f.type) a.size&&kiF rec sz (g::fs) b (o+a.size)))
 | _,_,_=>false
def kiT(P:Program):Nat->TypeId->Ki->Bool
 | 0,_,_=>false
 | n+1,t,K=>match P.underlying t,K with
  | some .bool,.bool=>true
  | some (.int k),.int k'=>Gx k k'
  | some .string,.str=>true
  | some (.slice e),.lst K'=>kiT P n e K'&&(zG (P.cellsOf e) K'.size&&Nat.ble 1 K'.size)
  | some (.struct fs),K=>kiF (kiT P n) P.cellsOf fs.toList K 0&&zG (P.cellsOf t) K.size
  | _,_=>false
theorem Adc{β:Type}{f:Nat->Option β}{n:Nat}{r:List β}(h:(yM n).mapM f=some r):r.length=n/\∀i,i<n->f i=r[i]?:=by
 have key:∀(n k:Nat) (r:List β),(yJ k n).mapM f=some r->r.length=n/\∀i,i<n->f (k+i)=r[i]?:=by
  intro n
  induction n with
  | zero=>
   intro k r h
   simp at h
   subst h
   exact⟨rfl,λ i hi=>by omega⟩
  | succ n ih=>
   intro k r h
   rw[List.range'_succ] at h
   obtain⟨b,bs,h1,h2,rfl⟩:=mapM_cons h
   obtain⟨h3,h4⟩:=ih (k+1) bs h2
   refine⟨by simp[h3],λ i hi=> ?_⟩
   cases i with
   | zero=>simpa using h1
   | succ i=>
    have:=h4 i (by omega)
    rw[show k+(i+1)=k+1+i by omega]
    simpa using this
 rw[yC] at h
 obtain⟨h1,h2⟩:=key n 0 r h
 exact⟨h1,λ i hi=>by have:=h2 i hi;rwa[zA] at this⟩
section
variable{H:Type}{enc:TypeId×Value->H}{P:Program}{W:World}{base:Nat}{spare:Nat->Bool}{held:Bool}
theorem Agw{a:Addr}{n:Nat}{cs:List Value}(hn:1<=n)(h:W.cells? base a n=some cs):∃g o cur ty fr,a=⟨g,o,none⟩/\W.heap[g]?=some (.cells cur ty fr)/\o+n<=cur.size/\cs=seg cur.toList o n:=by
 unfold World.cells? at h
 split at h
 case isFalse=>cases h
 obtain⟨h1,h2⟩:=Adc h
 obtain⟨g,o,sp⟩:=a
 have h0:=h2 0 (by omega)
 rw[List.getElem?_eq_getElem (by omega)] at h0
 have hz:(⟨g,o,sp⟩:Addr).add 0=⟨g,o,sp⟩:=by simp[Addr.add]
 rw[hz] at h0
 simp only[World.cell?] at h0
 split at h0
 case h_2=>cases h0
 rename_i cur ty fr hg
 split at h0
 ·cases h0
 rename_i hsp
 have hs:sp=none:=by cases sp<;>simp at hsp⊢
 subst hs
 have hcell:∀i,i<n->cur[o+i]?=cs[i]?:=by
  intro i hi
  have:=h2 i hi
  rw[Cw] at this
  simpa[World.cell?,hg] using this
 have hle:o+n<=cur.size:=by
  have:=hcell (n-1) (by omega)
  rw[List.getElem?_eq_getElem (by omega)] at this
  have:=(Array.getElem?_eq_some_iff.1 this).1
  omega
 refine⟨g,o,cur,ty,fr,rfl,hg,hle, ?_⟩
 apply List.ext_getElem?
 intro i
 by_cases hi:i<n
 ·rw[<-hcell i hi]
  simp[seg,hi]
 ·rw[List.getElem?_eq_none (by omega),List.getElem?_eq_none (by simp[seg];omega)]
theorem Alo(cur:List Value)(a n sz:Nat):seg cur a ((n+1)*sz)=seg cur a sz++seg cur (a+sz) (n*sz):=by
 simp only[seg]
 rw[yU,yS (n*sz) sz,xH,xE]
theorem Ws{K:Ki}{S:Nat->Prop}{cur:List Value}{o:Nat}:∀(n k:Nat),(∀i,k<=i->i<k+n->∃d:K.den,Rep W S (λ _=>False) K false d (seg cur (o+i*K.size) K.size) []/\Fit K d)->
  ∃l:List K.den,l.length=n/\Cv (Rep W S (λ _=>False) K false) l (seg cur (o+k*K.size) (n*K.size)) []/\∀x∈l,Fit K x
 | 0,k,_=>⟨[],rfl,by simp[seg,Cv],by simp⟩
 | n+1,k,h=>by
  obtain⟨d,h1,h2⟩:=h k (by omega) (by omega)
  obtain⟨l,h3,h4,h5⟩:=Ws n (k+1) λ i hi hi'=>h i (by omega) (by omega)
  refine⟨d::l,by simp[h3], ?_, ?_⟩
  ·rw[Alo]
   refine⟨_,_,[],[],rfl,rfl,h1, ?_⟩
   rw[show o+k*K.size+K.size=o+(k+1)*K.size by rw[yU];omega]
   exact h4
  ·intro x hx
   rcases List.mem_cons.1 hx with rfl|hx
   ·exact h2
   ·exact h5 x hx
theorem Tl{n:Nat}{rec:TypeId->Ki->Bool}{S:Nat->Prop}{cs:List Value}
  (ih:∀t K c x,rec t K=true->DataW.trod enc P W base spare held n t c=some x->∃d:K.den,Rep W S (λ _=>False) K false d c []/\Fit K d):
  ∀(fs:List Field) (K:Ki) (o:Nat),kiF rec P.cellsOf fs K o=true->
   (∀f∈fs,∃x,DataW.trod enc P W base spare held n f.type ((cs.drop f.offset).take (P.cellsOf f.type))=some x)->
   ∃d:K.den,Rep W S (λ _=>False) K false d ((cs.drop o).take K.size) []/\Fit K d
 | [],K,o,hk,_=>by
  cases K<;>simp only[kiF] at hk<;>first|(cases hk;done)|skip
  exact⟨(),⟨by simp[Ki.size],rfl⟩,trivial⟩
 | [f],K,o,hk,h=>by
  obtain⟨b,h1⟩:=h f (by simp)
  simp only[kiF,z9] at hk
  obtain⟨k1,k2,k3⟩:=hk
  obtain⟨d,h2,h3⟩:=ih _ K _ _ k2 h1
  rw[A6.1 k1,A6.1 k3] at h2
  exact⟨d,h2,h3⟩
 | f::g::fs,K,o,hk,h=>by
  obtain⟨b,h1⟩:=h f (by simp)
  cases K with
  | pair A B=>
   simp only[kiF,z9] at hk
   obtain⟨k1,k2,k3,k4⟩:=hk
   obtain⟨d,h3,h4⟩:=ih _ A _ _ k2 h1
   rw[A6.1 k1,A6.1 k3] at h3
   obtain⟨d',h5,h6⟩:=Tl ih (g::fs) B (o+A.size) k4 λ f hf=>h f (by simp at hf⊢;exact .inr hf)
   refine⟨(d,d'),⟨_,_,[],[], ?_,rfl,h3,h5⟩,h4,h6⟩
   simp only[Ki.size]
   rw[xH,xE]
  | _=>simp[kiF] at hk
theorem Us:∀(n:Nat) {fuel:Nat} {t:TypeId} {K:Ki} {cs:List Value} {x:DataW H×List MemPlace},kiT P n t K=true->DataW.trod enc P W base spare held fuel t cs=some x->∃d:K.den,Rep W (λ g=>g<W.heap.size) (λ _=>False) K false d cs []/\Fit K d
 | 0,_,_,_,_,_,hk,_=>by simp[kiT] at hk
 | n+1,fuel,t,K,cs,x,hk,h=>by
  simp only[kiT] at hk
  split at hk
  ·rename_i hu
   obtain⟨b,rfl,_⟩:=DataW.trod_bool hu h
   exact⟨b,⟨rfl,rfl⟩,trivial⟩
  ·rename_i k k' hu
   have:=Eh hk
   subst this
   obtain⟨m,rfl,_,hw⟩:=DataW.trod_int hu h
   exact⟨m,⟨rfl,rfl⟩,hw⟩
  ·rename_i hu
   obtain⟨s,rfl,_,hs⟩:=DataW.trod_string hu h
   obtain⟨⟨l⟩⟩:=s
   exact⟨l,⟨rfl,rfl⟩,hs⟩
  ·rename_i e K' hu
   simp only[z9] at hk
   obtain⟨k1,k2,k3⟩:=hk
   have hsz:=A6.1 k2
   rw[yZ] at k3
   rcases DataW.trod_slice hu h with⟨rfl,_⟩|⟨a,len,cap,Iy,rest,m,rfl,rfl,_,_,hlc,hcm,hel,hat,_⟩
   ·exact⟨[],.inr ⟨rfl,rfl,_,rfl,none,0,rfl,zE _,.inl rfl⟩,yA _,λ x hx=>nomatch hx⟩
   ·have each:∀i,i<len->∃g o cur ty fr,a.add (i*K'.size)=⟨g,o,none⟩/\W.heap[g]?=some (.cells cur ty fr)/\o+K'.size<=cur.size/\∃d:K'.den,Rep W (λ g=>g<W.heap.size) (λ _=>False) K' false d (seg cur.toList o K'.size) []/\Fit K' d:=by
     intro i hi
     have hb:=hat i hi
     rw[List.getElem?_eq_getElem (by omega)] at hb
     cases hc:W.cells? base (a.add (i*P.cellsOf e)) (P.cellsOf e) with
     | none=>rw[hc] at hb;simp at hb
     | some cs=>
      rw[hc] at hb
      simp only[zZ] at hb
      rw[hsz] at hc
      obtain⟨g,o,cur,ty,fr,e1,e2,e3,e4⟩:=Agw k3 hc
      obtain⟨d,d1,d2⟩:=Us n k1 hb
      exact⟨g,o,cur,ty,fr,e1,e2,e3,d,by rw[<-e4];exact d1,d2⟩
    by_cases h0:len=0
    ·subst h0
     exact⟨[],.inr ⟨rfl,rfl,_,rfl,_,cap,rfl,yA _,.inl rfl⟩,yA _,λ x hx=>nomatch hx⟩
    ·obtain⟨g,o,cur,ty,fr,e1,e2,e3,_⟩:=each 0 (by omega)
     have ha:a=⟨g,o,none⟩:=by
      rw[xJ] at e1
      simpa[Addr.add] using e1
     subst ha
     have each':∀i,i<len->o+i*K'.size+K'.size<=cur.size/\∃d:K'.den,Rep W (λ g=>g<W.heap.size) (λ _=>False) K' false d (seg cur.toList (o+i*K'.size) K'.size) []/\Fit K' d:=by
      intro i hi
      obtain⟨g',o',cur',ty',fr',f1,f2,f3,f4⟩:=each i hi
      rw[Cw] at f1
      simp only[Addr.mk.injEq] at f1
      obtain⟨rfl,rfl,_⟩:=f1
      rw[e2] at f2
      cases f2
      exact⟨f3,f4⟩
     obtain⟨l,l1,l2,l3⟩:=Ws (K:=K') (o:=o) (cur:=cur.toList) len 0 λ i _ hi=>(each' i (by omega)).2
     have hlast:=(each' (len-1) (by omega)).1
     have hmul:(len-1)*K'.size+K'.size=len*K'.size:=by rw[<-yU];congr 1;omega
     have hg:g<W.heap.size:=(Array.getElem?_eq_some_iff.1 e2).1
     rw[xJ,zT] at l2
     refine⟨l,.inr ⟨rfl,rfl,_,rfl,_,cap, ?_,by rw[l1];exact hlc,.inr ⟨g,o,cur,ty,fr,rfl,hg,e2, ?_, ?_⟩⟩, ?_,λ x hx=>l3 x hx⟩
     ·rw[l1]
     ·rw[l1];omega
     ·rw[l1];exact l2
     ·rw[l1];omega
  ·rename_i fs hu
   simp only[z9] at hk
   obtain⟨k1,k2⟩:=hk
   obtain⟨xs,m,rfl,_,hlen,hxl,hat⟩:=DataW.trod_struct hu h
   have:=Tl (P:=P) (W:=W) (base:=base) (spare:=spare) (held:=held) (enc:=enc) (n:=m) (S:=λ g=>g<W.heap.size) (cs:=cs) (λ t K c x hk hx=>Us n hk hx) fs.toList _ 0 k1 (by
    intro f hf
    obtain⟨i,hi,hif⟩:=List.getElem_of_mem hf
    have hfi:fs[i]?=some f:=by rw[<-hif];simp at hi⊢
    have:=hat i f hfi
    rw[List.getElem?_eq_getElem (by simp at hi;omega)] at this
    exact⟨_,this⟩)
   obtain⟨d,d1,d2⟩:=this
   refine⟨d, ?_,d2⟩
   rw[List.drop_zero,List.take_of_length_le (by rw[hlen,A6.1 k2];exact zE _)] at d1
   exact d1
  ·cases hk
end
def V4:Ki->Bool
 | .arr .. =>false
 | .pair a b=>V4 a&&V4 b
 | .tr=>false
 | .fl _=>false
 | _=>true
def Er(K:Ki)(d:K.den):List AV:=B5 .frz (Bq K d)
theorem Ln(q:Cg):∀a b:List AV,B5 q (a++b)=B5 q a++B5 q b
 | [],_=>rfl
 | x::a,b=>by cases x<;>simp[B5,Ln q a b]
structure As9(Y:Cx)(W:World):Prop where
 w:Y.w=W
 S:∀g,g<W.heap.size->Y.S none g
theorem Kr{Y:Cx}{W:World}(hY:As9 Y W):∀{K:Ki} {d:K.den} {cs:List Value},V4 K=true->Rep W (λ g=>g<W.heap.size) (λ _=>False) K false d cs []->PRs Y (Er K d) cs []/\∀a∈Er K d,a.norw=true
 | .int k,d,cs,_,h=>by rw[h.1];exact⟨.one rfl rfl (.int _ _) .nil,by simp[Er,Bq,B5,AV.norw]⟩
 | .bool,d,cs,_,h=>by rw[h.1];exact⟨.one rfl rfl (.bool _) .nil,by simp[Er,Bq,B5,AV.norw]⟩
 | .str,d,cs,_,h=>by rw[h.1];exact⟨.one rfl rfl (.str _) .nil,by simp[Er,Bq,B5,AV.norw]⟩
 | .lst e,d,cs,_,h=>by
  rcases h with⟨h,_⟩|⟨_,_,v,h1,h2⟩
  ·cases h
  ·rw[h1]
   have h3:RoS W (Y.S none) e.size (List.length (α:=e.den) d) (λ cs=>Cv (Rep W (Y.S none) (Y.S none) e false) d cs []) v:=Fo h2 (λ g hg=>⟨hY.S g hg,rfl⟩) λ cs hc=>Di hc (λ g hg=>⟨hY.S g hg,rfl⟩) λ g hg=>hg.elim
   obtain⟨A,c,rfl,hc,h4⟩:=h2
   refine⟨.one rfl rfl (.ro hc (h4.imp id λ⟨g,o,cur,t,fr,h,_⟩=>⟨g,o,h⟩) trivial λ _=> ?_) .nil,by simp[Er,Bq,B5,AV.norw]⟩
   rw[hY.w]
   exact h3
 | .arr n e,d,cs,hf,_=>by simp[V4] at hf
 | .tr,d,cs,hf,_|.fl _,d,cs,hf,_=>by simp[V4] at hf
 | .pair a b,d,cs,hf,⟨c1,c2,f1,f2,e1,e2,h1,h2⟩=>by
  simp only[V4,z9] at hf
  obtain⟨rfl,rfl⟩:=List.append_eq_nil_iff.1 e2.symm
  obtain⟨k1,k2⟩:=Kr hY hf.1 h1
  obtain⟨k3,k4⟩:=Kr hY hf.2 h2
  have e:Er (.pair a b) d=Er a d.1++Er b d.2:=by simp only[Er,Bq,Ln]
  rw[e,e1]
  refine⟨by simpa using Cf k1 k3,λ x hx=> ?_⟩
  rcases List.mem_append.1 hx with hx|hx
  ·exact k2 x hx
  ·exact k4 x hx
 | .unit,d,cs,_,h=>by rw[h.1];exact⟨.nil,by simp[Er,Bq,B5]⟩
section
variable{H:Type}{enc:TypeId×Value->H}{P:Program}{W:World}{base:Nat}{spare:Nat->Bool}{held:Bool}{r:Reach}{b0:Nat}{t:TypeId}{v:Value}{d0:DataW H}{ps:List MemPlace}
theorem Vk{e:TypeId}(K:Ki)(n:Nat)(hu:P.underlying t=some (.slice e))(hk:kiT P n t (.lst K)=true)(hv:Value.okWide P W r b0 t v)(h:DataW.Trod enc P W base spare held t v d0 ps):
  ∃l:List K.den,Fit (.lst K) l/\∀Y,As9 Y W->VRel Y (.ro .frz K l) v:=by
 obtain⟨A,len,cap,rfl⟩:=okWide_slice hu hv
 obtain⟨fuel,h⟩:=h
 obtain⟨d,h1,h2⟩:=Us n hk h
 refine⟨d,h2,λ Y hY=> ?_⟩
 obtain⟨k1,k2⟩:=Kr hY (K:=.lst K) rfl h1
 have e:(Value.slice A len cap).cells.toList=[.slice A len cap]:=rfl
 rw[e] at k1
 have k1':PRs Y [.ro .frz K d] [.slice A len cap] []:=k1
 cases k1' with
 | one _ _ h _=>exact h
end
theorem Aha{P:Program}{e:Au Bool}(he:Ak P e)(d:e.arg.D)(tob:e.res.D->Bool)(hres:∀x,(e.res.to x).1=.bool (tob x))(hb:(e.arg.to d).2=[]){W:World}{vals:List Value}(hv:∀Y,As9 Y W->B2 Y (e.arg.to d).1 vals)
  (h:e.fn d (λ x=>some (tob x))=some true):Calls P e.f vals.toArray W λ e w'=>e=.returned (.bool true)/\Below W.heap.size W w':=by
 obtain⟨x,h1,hok⟩:=he d _ true h
 simp only[zB] at h1
 rw[hres,h1,hb] at hok
 let E:Env:={w:=W,H:=λ _=>False,Z:=λ g=>g<W.heap.size}
 let X:Cx:={cm:=λ _=>none,S:=λ _ g=>g<W.heap.size,s:=U3 (e.arg.to d).1 [],w:=W}
 have hE:Ack (e.arg.to d).1 [] E X vals:=by
  refine⟨⟨?_, ?_, ?_, ?_,⟨rfl,rfl,rfl,zE _,λ _ _ _=>rfl⟩,Ic _ _⟩,rfl,λ _ _=>rfl,hv X ⟨rfl,λ g hg=>hg⟩⟩
  ·intro b x hl;simp[X,U3,Gl,look] at hl
  ·intro b b' x x' cb cb' g hl;simp[X,U3,Gl,look] at hl
  ·intro n g hg;exact⟨hg,λ h=>h⟩
  ·intro g hg;exact⟨hg,.inl hg,λ b x cb hl=>by simp[X,U3,Gl,look] at hl⟩
 refine(hok.go E X vals hE).mono ?_
 rintro e' w' ⟨val,X',rfl,rfl,hL⟩
 have hval:=hL.val
 generalize val=u at hval
 cases hval
 have hfr:=hL.rel.fr
 exact⟨rfl,hfr.os,hfr.tape,hfr.output,hfr.size,λ k hk=>hfr.block k hk λ h=>h⟩
end Go.Ev
