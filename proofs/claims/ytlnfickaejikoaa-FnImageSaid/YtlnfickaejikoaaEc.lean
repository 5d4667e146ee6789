/- An abstract evaluator of Go code over plain data, and the proof that what it says of a function comes to pass. Part 3. -/
import Derived.Test.YtlnfickaejikoaaEb
import Derived.MapKept
import Derived.ChangeKeysEq
import Derived.OrdersIn
import Derived.RangeFuncRecord
import Derived.RangeFuncSeq
open Option.some renaming injEq->z8,inj->xC
open Prod.mk renaming injEq->z9
open Bool renaming and_eq_true->zA,false_eq_true->zQ,not_eq_true'->zT,or_eq_false_iff->zZ,not_false->yD,true_and->xG
open List renaming nodup_append->zB,length->zF,length_append->zG,nodup_cons->zH,mem_cons->zI,eq_nil_of_length_eq_zero->zJ,mem_singleton->zL,append_assoc->zN,mem_append->zO,mem_cons_of_mem->zR,cons_append->zS,drop_eq_getElem_cons->zU,length_take->zX,take_append_drop->zY,take_left'->yA,map_congr_left->yC,map_cons->yE,map_toArray->yF,append_nil->yK,nil_append->yL,drop_eq_nil_of_le->yM,map->yN,drop_left'->yO,modify_succ_cons->yP,modify_zero_cons->yQ,drop_drop->yS,take_take->yT,range->yU,cons_beq_cons->yW,map_map->yX,length_cons->yY,length_set->yZ,drop_take->xE,take->xF,mem_map->xH,range'->xK
open Nat renaming le_refl->zC,mul_le_mul_right->zD,eq_of_beq_eq_true->zE,beq->zK,add_mul->zP,min_eq_left->zV,le_of_ble_eq_true->zW,add_zero->yB,sub_zero->yH,zero_add->yI,succ_mul->yJ,zero_le->yR,mul_le_mul_left->yV,one_ne_zero->xA,ble_eq->xD,ne_of_lt->xI,mul_one->xJ
open Option renaming bind_some->zM,getD_some->yG,map_some->xB
set_option linter.unusedVariables false
set_option linter.unusedSimpArgs false
namespace Go.Ev
variable{R:Type}{E:Env}{X:Cx}{P:Program}{t:Nat}{ti:TyI}{w:World}
theorem Sh{K:Ki}{n sz:Nat}(hsz:K.size=sz):
  ∀{as:List (Nat×AV)} {vs:List (Nat×Value)} {l l':List K.den} {cells:Array Value},Pf X as vs->A0 X.w (X.S none) K l cells.toList []->l.length=n->K9 K n as l=some l'->
   ∃cells',Instr.fill (λ i=>some (i*sz,sz)) cells vs=some cells'/\A0 X.w (X.S none) K l' cells'.toList []/\l'.length=n
 | _,_,l,l',cells,.nil,hp,hn,h=>by
  simp only[K9,z8] at h
  subst h
  exact⟨cells,rfl,hp,hn⟩
 | _,_,l,l',cells, @Pf.cons _ i a v as vs h1 h2,hp,hn,h=>by
  simp only[K9] at h
  cases hb:(Cz a&&Nat.blt i n)<;>rw[hb] at h<;>simp only[cond_true,cond_false] at h
  ·cases h
  simp only[zA] at hb
  have hi:i<n:=by have:=hb.2;rw[Nat.blt_eq] at this;exact this
  cases hd:Dv K (B4 a) with
  | none=>rw[hd] at h;cases h
  | some d=>
   rw[hd] at h
   simp only at h
   obtain⟨p1,p2,p3⟩:=G4 h1 hb.1
   have hrep:=Ft p1 hd
   have hvl:=B0 hrep
   obtain⟨c1,c2,c3,f1,f2,f3,e1,e2,e3,e4,e5⟩:=Ic (λ x c f hx=>B0 hx) i (by omega) hp
   have e6:f1=[]/\f2=[]/\f3=[]:=by
    have:=e2.symm
    simp only[List.append_eq_nil_iff] at this
    exact⟨this.1.1,this.1.2,this.2⟩
   obtain⟨rfl,rfl,rfl⟩:=e6
   have hrow:=e5 d _ _ hrep
   have hlen:=congrArg zF e1
   simp only[zG,e3,B0 e4] at hlen
   obtain⟨cells',q1,q2⟩:=Ro (place:=λ i=>some (i*sz,sz)) (cells:=cells) (i:=i) (v:=v) (rest:=vs) rfl (by simp at hvl;omega) (by simp at hlen;rw[<-hsz];omega)
   have e7:cells'.toList=c1++v.cells.toList++c3:=by
    rw[q1,e1,<-hsz,<-e3,Is _ _ _ _ (by rw[B0 e4,hvl])]
   simp only[yK,yL] at hrow
   rw[<-e7] at hrow
   obtain⟨c2',k1,k2,k3⟩:=Sh hsz h2 hrow (by rw[yZ];exact hn) h
   exact⟨c2',by rw[q2];exact k1,k2,k3⟩
theorem Asq{Z:Nat->Prop}{n:Nat}{K:Ki}{l:List K.den}{cs:List Value}(h:zOk [.arr n K l] cs=true):l.length=n/\A0 w Z K l cs []:=by
 have:=(Q6 (X:={cm:=λ _=>none,S:=λ _=>Z,s:=⟨[],[],0⟩,w:=w}) _ _ h).1
 exact Mi this
theorem Aj6{c:Cfg}(hC:Bk P c=true){s:St}{o:Oper}{nb:Nat}{cont:Cm R}{r:R}{ps:Array (Nat×Operand)}(hop:o.op=.build t ps)(h:Au c s o nb cont=some r):
    Res P c s o nb cont r λ s' k=>Au c s' o nb k:=by
  simp only[Au,hop] at h
  have hmap:∀s' u rd,Nc s s' o u rd->(ps.toList.map λ(x:Nat×Operand)=>(x.1,ev s' x.2))=ps.toList.map λ x=>(x.1,ev s x.2):=by
    intro s' u rd ha
    refine yC λ y hy=> ?_
    rw[ha.ev y.2 (by simp[hop,Op.operands];exact⟨y.1,by simpa using Array.mem_toList_iff.1 hy⟩)]
  have hexec:∀(ac:Act),(Instr.build t (ps.map λ(x:Nat×Operand)=>(x.1,ac.eval x.2)))=Instr.build t (ps.toList.map λ x=>(x.1,ac.eval x.2)).toArray:=by
    intro ac
    congr 1
    simp[<-yF]
  cases h1:tyI c t with
  | none=>rw[h1] at h;cases h
  | some ti=>
    rw[h1] at h
    simp only at h
    have hT:=Bs hC h1
    split at h
    · rename_i hcls
      split at h
      case h_2=>cases h
      rename_i qs hq
      refine⟨_,[],[],h,B5 ?_, ?_,trivial⟩
      · intro E X ac hs hR hT'
        subst hs
        obtain⟨fs,k1,k2⟩:=hT.struct hcls
        obtain⟨z,z1,z2,_⟩:=hT.zero (w:=X.w)
        obtain⟨p1,p2⟩:=Q6 (X:=X) _ _ z2
        obtain⟨pl,q1,q2⟩:=Afo (P:=P) (w:=X.w) (fs:=fs.toList) (Yd k2)
        obtain⟨cells',e1,e2,e3⟩:=Nh (place:=λ i=>pl[i]?) k2 q2 (M1 hT' ps.toList) p1 p2 hq
        refine⟨.agg cells', ?_,by simpa using VRel.agg e2 e3⟩
        have q1':(fs.mapM λ f=>do pure (f.offset,<-sizeOf f.type):Sem (Array (Nat×Nat))).run P X.w=.ok pl X.w:=by simpa using q1
        simp only[execOp,hop,Sem.run_bind]
        rw[hexec]
        simp only[Instr.build,Sem.run_bind,z1,Result.andThen_ok,Ay k1,q1',e1,Sem.run_pure]
      · intro s' ha R' k
        simp only[Au,hop,h1,hcls]
        rw[show(ps.toList.map λ(x:Nat×Operand)=>match x with|(i,x)=>(i,ev s' x))=ps.toList.map λ x=>(x.1,ev s' x.2) from rfl,hmap s' _ _ ha]
        rw[show(ps.toList.map λ(x:Nat×Operand)=>match x with|(i,x)=>(i,ev s x))=ps.toList.map λ x=>(x.1,ev s x.2) from rfl] at hq
        rw[hq]
    · rename_i hcls
      split at h
      case h_2=>cases h
      rename_i n K l te hz hte
      cases hb:zK K.size te.sz<;>rw[hb] at h<;>simp only[cond_true,cond_false] at h
      · cases h
      split at h
      case h_2=>cases h
      rename_i l' hq
      have hTe:=Bs hC hte
      refine⟨_,[],[],h,B5 ?_, ?_,trivial⟩
      · intro E X ac hs hR hT'
        subst hs
        obtain⟨z,z1,z2,_⟩:=hT.zero (w:=X.w)
        rw[hz] at z2
        obtain⟨p1,p2⟩:=Asq (w:=X.w) z2
        obtain⟨cells',e1,e2,e3⟩:=Sh (X:=X) (zE hb) (M1 hT' ps.toList) p2 p1 hq
        refine⟨.agg cells', ?_,by simpa using VRel.arr e3 e2⟩
        simp only[execOp,hop,Sem.run_bind]
        rw[hexec]
        simp only[Instr.build,Sem.run_bind,z1,Result.andThen_ok,Ay (hT.array hcls),hTe.size,e1,Sem.run_pure]
      · intro s' ha R' k
        simp only[Au,hop,h1,hcls,hz,hte,hb,cond_true]
        rw[show(ps.toList.map λ(x:Nat×Operand)=>match x with|(i,x)=>(i,ev s' x))=ps.toList.map λ x=>(x.1,ev s' x.2) from rfl,hmap s' _ _ ha]
        rw[show(ps.toList.map λ(x:Nat×Operand)=>match x with|(i,x)=>(i,ev s x))=ps.toList.map λ x=>(x.1,ev s x.2) from rfl] at hq
        rw[hq]
    · cases h
end Go.Ev
namespace Go.Ev
variable{R:Type}{E:Env}{X:Cx}{P:Program}{t:Nat}{ti:TyI}{w:World}
structure Hv(E:Env)(X:Cx)(b:Nat)(x0 blk:Blk)(ks:List Nat)(cb0 cb:CB)(w':World)(T:Nat->Prop)(X':Cx):Prop where
 cmN:X'.cm=λ k=>if k=b then some cb else X.cm k
 S:X'.S=X.S
 s:X'.s={X.s with st:=A6 ((b,some blk)::By ks) X.s.st}
 w:X'.w=w'
 old:look b X.s.st=some x0
 oldc:X.cm b=some cb0
 same:cb0.same cb
 ver:∀ro' v' ps',blk=.cell ro' v' ps'->∃ro v ps,x0=.cell ro v ps/\v<=v'/\(v=v'->¬∃K l,ps'=[.rw K l]/\K.nest=true)
 bks:b∉ks
 os:w'.os=X.w.os
 tape:w'.tape=X.w.tape
 output:w'.output=X.w.output
 size:X.w.heap.size<=w'.heap.size
 heap:∀g,g<X.w.heap.size->¬T g->w'.heap[g]?=X.w.heap[g]?
 T:∀g,T g->g∈cb0.fp
variable{b:Nat}{x0 blk:Blk}{ks:List Nat}{cb0 cb:CB}{w':World}{T:Nat->Prop}{X':Cx}
theorem Hv.look(R:Rel E X)(h:Hv E X b x0 blk ks cb0 cb w' T X')(k:Nat):look k X'.s.st=if k=b then some blk else if k∈ks then none else Ev.look k X.s.st:=by
 rw[h.s]
 simp only
 rw[B7 _ _ R.uq]
 simp only[Dg,G0]
 by_cases h1:k=b
 ·subst h1;simp[h.bks]
 ·by_cases h2:k∈ks<;>simp[h1,h2]
theorem Hv.mv(R:Rel E X)(h:Hv E X b x0 blk ks cb0 cb w' T X'):Mv X X' (λ k=>k=b\/k∈ks) T where
 S:=.same h.S
 os:=by rw[h.w];exact h.os
 tape:=by rw[h.w];exact h.tape
 output:=by rw[h.w];exact h.output
 size:=by rw[h.w];exact h.size
 heap:=by rw[h.w];exact h.heap
 T g hg:=⟨b,x0,cb0,.inl rfl,h.old,h.oldc,h.T g hg⟩
 look k hk:=by
  rw[h.look R]
  rw[if_neg (λ e=>hk (.inl e)),if_neg (λ e=>hk (.inr e))]
 cm k hk:=by rw[h.cmN];simp only;rw[if_neg (λ e=>hk (.inl e))]
 cmM k c hM hc:=by
  rw[h.cmN]
  simp only
  by_cases e:k=b
  ·subst e
   rw[h.oldc] at hc
   cases hc
   rw[if_pos rfl]
   exact⟨cb,rfl,h.same⟩
  ·rw[if_neg e];exact⟨c,hc,c.same_refl⟩
 verM k c ro' v' ps' hM hc hl:=by
  rw[h.look R] at hl
  by_cases e:k=b
  ·subst e
   simp only[if_true,z8] at hl
   obtain⟨ro,v,ps,h1,h2,h3⟩:=h.ver ro' v' ps' hl
   exact⟨ro,v,ps,by rw[h.old,h1],h2,h3⟩
  ·rw[if_neg e] at hl
   rcases hM with hM|hM
   ·exact(e hM).elim
   ·rw[if_pos hM] at hl;cases hl
theorem Hv.good(R:Rel E X)(h:Hv E X b x0 blk ks cb0 cb w' T X')(hb:Ext X X'->I3 X' cb blk)(hnd:cb.fp.Nodup)(hfp:∀g∈cb.fp,g<w'.heap.size/\Aqd X (λ k=>k=b\/k∈ks) g)
  {nb:Nat} {v:AV} {val:Value} (hv:Ext X X'->VRel X' v val):Good E X nb v ((b,some blk)::By ks) val X':=by
 have hx:=(h.mv R).ext R
 have one:∀k x',(k=b\/k∈ks)->Ev.look k X'.s.st=some x'->k=b/\x'=blk:=by
  intro k x' hM hl
  rw[h.look R] at hl
  by_cases e:k=b
  ·subst e;simp at hl;exact⟨rfl,hl.symm⟩
  ·rw[if_neg e] at hl
   rcases hM with hM|hM
   ·exact(e hM).elim
   ·rw[if_pos hM] at hl;cases hl
 have hcm:X'.cm b=some cb:=by rw[h.cmN];simp
 refine⟨(h.mv R).rel R ?_ ?_ ?_,hx,.of h.S,h.s, ?_,hv hx⟩
 ·rw[h.s];exact Cg _ R.uq
 ·intro k x' hM hl
  obtain⟨rfl,rfl⟩:=one k x' hM hl
  exact⟨cb,hcm,hb hx,hnd,λ g hg=>by rw[h.w];exact hfp g hg⟩
 ·intro k k' x x' c c' g hM hM' hl hl' _ _ _ _
  exact(one k x hM hl).1.trans (one k' x' hM' hl').1.symm
 ·intro k hk
  rw[h.cmN] at hk
  simp only at hk
  by_cases e:k=b
  ·subst e;exact .inl (by rw[h.oldc];simp)
  ·rw[if_neg e] at hk;exact .inl hk
def Aac(X:Cx)(b:Nat)(blk:Blk)(ks:List Nat)(cb:CB)(w':World):Cx:=
 {cm:=λ k=>if k=b then some cb else X.cm k,S:=X.S,s:={X.s with st:=A6 ((b,some blk)::By ks) X.s.st},w:=w'}
structure C0(X:Cx)(ks:List Nat)(fp:List Nat):Prop where
 nodup:fp.Nodup
 mem:∀g∈fp,∃b x cb,b∈ks/\look b X.s.st=some x/\X.cm b=some cb/\g∈cb.fp
theorem Gm{a:Nat}:∀{l:List Nat},H0 a l=true<->a∈l
 | []=>by simp[H0]
 | b::l=>by
  simp only[H0,zI]
  cases h:zK b a
  ·have:=Bd.1 h
   simp only[cond_false,Gm]
   exact⟨.inr,λ h=>h.resolve_left (λ e=>this e.symm)⟩
  ·have:=beq_true.1 h
   simp[this]
theorem Du:∀{l:List Nat},F4 l=true<->l.Nodup
 | []=>by simp[F4]
 | a::l=>by
  simp only[F4,zA,zH,Du,zT]
  rw[<-Bool.not_eq_true,Gm]
theorem Im{Z:Nat->Prop}{K:Ki}{l:List K.den}{A:Option Addr}{c o m c' g og:Nat}{fp:List Nat}(hA:A=some ⟨g,og,none⟩)(h:Gf w K.size l.length (A0 w Z K l) (.slice A l.length c) fp)(h1:o+m<=l.length)(h2:m<=c')(h3:o+c'<=c):
  ∃fp',Gf w K.size m (A0 w Z K ((l.drop o).take m)) (.slice (some ⟨g,og+o*K.size,none⟩) m c') fp'/\fp'.Sublist fp:=by
 obtain⟨A',c2,e,h⟩:=h
 cases e
 subst hA
 rcases h with⟨z1,z2,rfl⟩|⟨g',o',cur,fps,q1,q2,q3,q4,q5,q6⟩
 ·have:m=0:=by omega
  have:c'=0:=by omega
  subst_vars
  exact⟨[],⟨_,0,rfl,.inl ⟨rfl,rfl,rfl⟩⟩,List.Sublist.refl _⟩
 ·cases q1
  obtain⟨f1,f2,e1,r1,r2⟩:=E0 (λ x c f hx=>B0 hx) o q6
  obtain⟨f3,f4,e2,r3,r4⟩:=E0 (λ x c f hx=>B0 hx) m r2
  have hmul:o*K.size+m*K.size<=l.length*K.size:=by rw[<-zP];exact zD _ h1
  have hmul2:o*K.size+c'*K.size<=c*K.size:=by rw[<-zP];exact zD _ h3
  refine⟨g::f3,⟨_,c',rfl,.inr ⟨g,og+o*K.size,cur,f3,rfl,q2,h2,by omega,rfl, ?_⟩⟩, ?_⟩
  ·have:seg cur (og+o*K.size) (m*K.size)=((seg cur og (l.length*K.size)).drop (o*K.size)).take (m*K.size):=by
    simp only[seg,xE,yS,yT]
    congr 1
    omega
   rw[this]
   exact r3
  ·rw[q5,e1,e2]
   refine List.Sublist.cons_cons _ ?_
   exact((List.sublist_append_left f3 f4)).trans (List.sublist_append_right f1 _)
end Go.Ev
namespace Go.Ev
variable{R:Type}{E:Env}{X:Cx}{P:Program}{t:Nat}{ti:TyI}{w:World}
theorem C0.nil:C0 X [] []:=⟨by simp,by simp⟩
theorem C0.cons(R:Rel E X){b:Nat}{ks:List Nat}{f fp:List Nat}{x:Blk}{cb:CB}(hl:look b X.s.st=some x)(hc:X.cm b=some cb)(hf:f.Sublist cb.fp)(hb:b∉ks)(h:C0 X ks fp):C0 X (b::ks) (f++fp):=by
 obtain⟨cb',k1,_,k3,_⟩:=R.blk b x hl
 rw[hc] at k1
 cases k1
 refine⟨?_, ?_⟩
 ·rw[zB]
  refine⟨hf.nodup k3,h.nodup,λ g hg g' hg' e=> ?_⟩
  subst e
  obtain⟨b2,x2,cb2,q1,q2,q3,q4⟩:=h.mem g hg'
  have:=R.dis b b2 x x2 cb cb2 g hl q2 hc q3 (hf.subset hg) q4
  exact hb (this▸q1)
 ·intro g hg
  rcases List.mem_append.1 hg with hg|hg
  ·exact⟨b,x,cb,by simp,hl,hc,hf.subset hg⟩
  ·obtain⟨b2,x2,cb2,q1,q2,q3,q4⟩:=h.mem g hg
   exact⟨b2,x2,cb2,by simp[q1],q2,q3,q4⟩
theorem Y7{a:AV}{r:List AV}{cs:List Value}(h:PRs X (a::r) cs [])(ha:a.norw=true):∃c1 c2,cs=c1++c2/\PRs X [a] c1 []/\PRs X r c2 []:=by
 obtain⟨c1,c2,f1,f2,e1,e2,_,h1,h2⟩:=K7 h ha
 obtain⟨rfl,rfl⟩:=List.append_eq_nil_iff.1 e2.symm
 exact⟨c1,c2,e1,h1,h2⟩
theorem Ig(R:Rel E X):∀{ps qs:List AV} {ks:List Nat} {cs:List Value},PRs X ps cs []->(∀a∈ps,a.norw=true)->Cp X.s ps=some (qs,ks)->ks.Nodup->
  ∃fp,PRs X qs cs fp/\(∀a∈qs,a.norw=true)/\C0 X ks fp/\∀b∈ks,∃x,look b X.s.st=some x
 | [],qs,ks,cs,hp,hn,h,hnd=>by
  simp only[Cp,z8,z9] at h
  obtain⟨rfl,rfl⟩:=h
  cases hp
  exact⟨[],.nil,by simp,.nil,by simp⟩
 | p::ps,qs,ks,cs,hp,hn,h,hnd=>by
  obtain⟨c1,c2,e1,h1,h2⟩:=Y7 hp (hn p (by simp))
  subst e1
  simp only[Cp] at h
  cases hg:Cp X.s ps with
  | none=>rw[hg] at h;cases h
  | some z=>
   obtain⟨qs',ks'⟩:=z
   rw[hg] at h
   simp only at h
   have ih:=λ(hnd':ks'.Nodup)=>Ig R h2 (λ a ha=>hn a (by simp[ha])) hg hnd'
   have keep:some (p::qs',ks')=some (qs,ks)->∃fp,PRs X qs (c1++c2) fp/\(∀a∈qs,a.norw=true)/\C0 X ks fp/\∀b∈ks,∃x,look b X.s.st=some x:=by
    intro e
    simp only[z8,z9] at e
    obtain⟨rfl,rfl⟩:=e
    obtain⟨fp,k1,k2,k3,k4⟩:=ih hnd
    refine⟨fp,by simpa using Ci (p:=[p]) h1 k1, ?_,k3,k4⟩
    intro a ha
    rcases List.mem_cons.1 ha with rfl|ha
    ·exact hn _ (by simp)
    ·exact k2 a ha
   cases p with
   | sl b=>
    simp only at h
    split at h
    case h_2=>cases h
    rename_i K l hrow
    simp only[z8,z9] at h
    obtain⟨rfl,rfl⟩:=h
    obtain⟨hb,hnd'⟩:=List.nodup_cons.1 hnd
    obtain⟨fp,k1,k2,k3,k4⟩:=ih hnd'
    obtain⟨ro,ver,K',l',hl,e⟩:=Cc hrow
    cases e
    obtain⟨A,cc,fb,u1,u2,u3,u4⟩:=Ch R hl
    cases h1 with
    | one _ _ hv hr=>
     cases hr
     cases hv with
     | sl hc=>
      rw[u1] at hc
      cases hc
      refine⟨fb++fp,.nl u2 k1, ?_,k3.cons R hl u1 (List.Sublist.refl _) hb, ?_⟩
      ·intro a ha
       rcases List.mem_cons.1 ha with rfl|ha
       ·rfl
       ·exact k2 a ha
      ·intro b' hb'
       rcases List.mem_cons.1 hb' with rfl|hb'
       ·exact⟨_,hl⟩
       ·exact k4 b' hb'
   | ss b o m=>
    simp only at h
    split at h
    case h_2=>cases h
    rename_i K l hrow
    simp only[z8,z9] at h
    obtain⟨rfl,rfl⟩:=h
    obtain⟨hb,hnd'⟩:=List.nodup_cons.1 hnd
    obtain⟨fp,k1,k2,k3,k4⟩:=ih hnd'
    obtain⟨ro,ver,K',l',hl,e⟩:=Cc hrow
    cases e
    obtain⟨A,cc,fb,u1,u2,u3,u4⟩:=Ch R hl
    have rest:∀{v:Value} {f:List Nat},Gf X.w K.size ((l.drop o).take m).length (A0 X.w (X.S none) K ((l.drop o).take m)) v f->f.Sublist fb->
      ∃fp,PRs X (.nl K ((l.drop o).take m)::qs') (v::c2) fp/\(∀a∈AV.nl K ((l.drop o).take m)::qs',a.norw=true)/\C0 X (b::ks') fp/\∀b'∈b::ks',∃x,look b' X.s.st=some x:=by
     intro v f hv hf
     refine⟨f++fp,.nl hv k1, ?_,k3.cons R hl u1 hf hb, ?_⟩
     ·intro a ha
      rcases List.mem_cons.1 ha with rfl|ha
      ·rfl
      ·exact k2 a ha
     ·intro b' hb'
      rcases List.mem_cons.1 hb' with rfl|hb'
      ·exact⟨_,hl⟩
      ·exact k4 b' hb'
    cases h1 with
    | one _ _ hv hr=>
     cases hr
     cases hv with
     | ss0 hc ho=>exact rest (f:=[]) ⟨_,0,rfl,.inl ⟨by simp,rfl,rfl⟩⟩ (List.nil_sublist _)
     | ss hc v1 v2 v3=>
      rw[u1] at hc
      cases hc
      obtain⟨f',q1,q2⟩:=Im rfl u2 v1 v2 v3
      have hlen:((l.drop o).take m).length=m:=by simp;omega
      exact rest (by rw[hlen];exact q1) q2
   | ro q K l=>cases q<;>simp only at h<;>first|exact keep h|cases h
   | _=>first|exact keep h|cases h
end Go.Ev
namespace Go.Ev
variable{R:Type}{E:Env}{X:Cx}{P:Program}{t:Nat}{ti:TyI}{w:World}
structure Ad8(E:Env)(X:Cx)(n:Nat)(av vv:Value)(u:Upd):Prop where
 out:∃g o cur X',av=.pointer (some ⟨g,o,none⟩)/\F8 X.w g cur/\o+n<=cur.length/\vv.cells.toList.length=n/\(∀c∈vv.cells.toList,c.oneCell'=true)/\
  X'.w=B9 X.w g (Bl cur o vv.cells.toList)/\∀nb val,Good E X nb .un u val X'
theorem Yj{ps:List AV}(h:∀a∈ps,a.norw=true):∀K l,ps≠[.rw K l]:=by
 intro K l e
 have:=h (.rw K l) (by rw[e];simp)
 simp[AV.norw] at this
theorem Yq(R:Rel E X){b:Nat}{v v':Nat}{qs qs':List AV}{ks:List Nat}{g:Nat}{fps:List Nat}{cur:List Value}(hl:look b X.s.st=some (.cell false v qs))(hc:X.cm b=some (.box g fps))(hcur:F8 X.w g cur)
  (hvv:v<=v') (hbk:b∉ks) (hlive:∀b∈ks,∃x,look b X.s.st=some x) {o n:Nat} {nc:List Value} {nf:List Nat} (hks:C0 X ks nf) (hW:Aax X qs' cur fps o n nc nf) (hnc:nc.length=n):
  ∃X',X'.w=B9 X.w g (Bl cur o nc)/\o+n<=cur.length/\∀nb val,Good E X nb .un ((b,some (.cell false v' qs'))::By ks) val X':=by
 obtain⟨c1,c2,c3,f1,f2,f3,e1,e2,e3,e4,e5,e6⟩:=hW.out
 have hle:o+n<=cur.length:=by rw[e1];simp;omega
 have hsp:Bl cur o nc=c1++nc++c3:=by rw[e1,<-e3,Is _ _ _ _ (by omega)]
 have hS:Hv E X b (.cell false v qs) (.cell false v' qs') ks (.box g fps) (.box g (f1++nf++f3)) (B9 X.w g (Bl cur o nc)) (λ k=>k=g) (Aac X b (.cell false v' qs') ks (.box g (f1++nf++f3)) (B9 X.w g (Bl cur o nc))):=by
  refine⟨rfl,rfl,rfl,rfl,hl,hc,rfl, ?_,hbk,rfl,rfl,rfl,by rw[D6];exact zC _,λ k hk hT=>Do _ _ _ _ hT,λ k hk=>by simp[CB.fp,hk]⟩
  intro ro'' v'' ps'' e
  cases e
  exact⟨false,v,qs,rfl,hvv,λ _ ⟨K,l,e,_⟩=>Yj e6 K l e⟩
 obtain⟨cb',k1,k2,k3,k4⟩:=R.blk b _ hl
 rw[hc] at k1
 cases k1
 have hnd:(f1++nf++f3).Nodup/\g∉f1++nf++f3:=by
  rw[e2] at k3
  simp only[CB.fp,zH,zO,not_or] at k3
  obtain⟨⟨⟨g1,g2⟩,g3⟩,k3⟩:=k3
  have hdis:∀x∈nf,x∉g::fps:=by
   intro x hx hx'
   obtain⟨b2,x2,cb2,q1,q2,q3,q4⟩:=hks.mem x hx
   have:=R.dis b b2 _ x2 _ cb2 x hl q2 hc q3 hx' q4
   exact hbk (this▸q1)
  have h13:=k3
  rw[zB] at h13
  obtain⟨h12,h3,h13⟩:=h13
  rw[zB] at h12
  refine⟨?_, ?_⟩
  ·rw[zB]
   refine⟨?_,h3, ?_⟩
   ·rw[zB]
    refine⟨h12.1,hks.nodup, ?_⟩
    intro x hx y hy e
    subst e
    exact hdis x hy (by rw[e2];simp[hx])
   ·intro x hx y hy e
    subst e
    rcases List.mem_append.1 hx with hx|hx
    ·exact h13 x (by simp[hx]) x hy rfl
    ·exact hdis x hx (by rw[e2];simp[hy])
  ·simp only[zO,not_or]
   exact⟨⟨g1,λ hx=>hdis g hx (by simp)⟩,g3⟩
 refine⟨_,rfl,hle,λ nb val=>hS.good R ?_ ?_ ?_ (λ _=>.un _)⟩
 ·intro hx
  refine .box e6 (cur:=c1++nc++c3) ?_ ?_
  ·have:=Gr hcur (Bl cur o nc) (Da _ _ _ (by omega))
   rw[hsp] at this
   show F8 (B9 X.w g (Bl cur o nc)) g (c1++nc++c3)
   rw[hsp];exact this
  ·refine e5.ext hx λ k hk=>Do _ _ _ _ λ e=>hnd.2 (e▸hk)
 ·simp only[CB.fp,zH]
  exact⟨hnd.2,hnd.1⟩
 ·intro k hk
  rw[D6]
  have hin:k∈g::fps\/k∈nf:=by
   simp only[CB.fp,zI,zO] at hk
   rw[e2]
   simp only[zI,zO]
   rcases hk with hk|(hk|hk)|hk
   ·exact .inl (.inl hk)
   ·exact .inl (.inr (.inl (.inl hk)))
   ·exact .inr hk
   ·exact .inl (.inr (.inr hk))
  rcases hin with hin|hin
  ·exact⟨(k4 k hin).1,.inr ⟨b,_,_,.inl rfl,hl,hc,hin⟩⟩
  ·obtain⟨b2,x2,cb2,q1,q2,q3,q4⟩:=hks.mem k hin
   obtain⟨cb3,j1,_,_,j4⟩:=R.blk b2 x2 q2
   rw[q3] at j1
   cases j1
   exact⟨(j4 k q4).1,.inr ⟨b2,x2,cb2,.inr q1,q2,q3,q4⟩⟩
end Go.Ev
namespace Go.Ev
variable{R:Type}{E:Env}{X:Cx}{P:Program}{t:Nat}{ti:TyI}{w:World}
theorem Am1(hR:Rel E X){b v:Nat}{K:Ki}{l:List K.den}(hl:look b X.s.st=some (.cell false v [.rw K l]))(hne:1<=l.length){val:Value}(hv:VRel X (.sl b) val):
  ∃(g og n cc:Nat) (w':World),val=.slice (some ⟨g,og,none⟩) n cc/\(markStringish ⟨g,og,none⟩).run P X.w=.ok () w'/\
   ∃X',X'.w=w'/\∀nb,Good E X nb (.sl b) ((b,some (.cell false (v+1) [.rw K l]))::By []) val X':=by
 obtain⟨A,c,fp,u1,u2,u3,u4⟩:=Ch hR hl
 cases hv with
 | sl hcm=>
  rw[u1] at hcm
  cases hcm
  obtain⟨A',c2,e,h⟩:=u2
  cases e
  rcases h with⟨z1,z2,_⟩|⟨g,o,cur,fps,rfl,q2,q3,q4,rfl,q6⟩
  ·omega
  obtain⟨ty,fr,hg,hth⟩:=q2
  let w':=X.w.freeze {block:=g,off:=cur.length} 1
  have hother:∀k,k≠g->w'.heap[k]?=X.w.heap[k]?:=by
   intro k hk
   simp only[w',World.freeze,xA,if_false,Array.getElem?_modify]
   rw[if_neg (λ e=>hk e.symm)]
  have hg':F8 w' g cur:=by
   obtain⟨lo,hi⟩:=fr
   refine⟨ty,if(lo==hi)=true then(cur.length,cur.length+1) else(min lo cur.length,max hi (cur.length+1)),by simp only[w',World.freeze,xA,if_false,Array.getElem?_modify,if_true,hg,xB], ?_⟩
   by_cases e:lo=hi
   ·subst e
    simp only[beq_self_eq_true,if_true]
    exact .inr (zC _)
   ·have e':(lo==hi)=false:=by simpa using e
    simp only[e',zQ,if_false]
    rcases hth with h|h
    ·exact(e h).elim
    ·exact .inr (by simp only;omega)
  have hS:Hv E X b (.cell false v [.rw K l]) (.cell false (v+1) [.rw K l]) [] (.row (some ⟨g,o,none⟩) l.length c K.size (g::fps)) (.row (some ⟨g,o,none⟩) l.length c K.size (g::fps)) w' (λ k=>k=g)
    (Aac X b (.cell false (v+1) [.rw K l]) [] (.row (some ⟨g,o,none⟩) l.length c K.size (g::fps)) w'):=by
   refine⟨rfl,rfl,rfl,rfl,hl,u1,⟨rfl,rfl,rfl,rfl⟩, ?_,by simp, ?_, ?_, ?_, ?_,λ k hk hT=>hother k hT,λ k hk=>by simp[CB.fp,hk]⟩
   ·intro ro'' v'' ps'' e
    cases e
    exact⟨false,v,_,rfl,by omega,λ hv=>by omega⟩
   all_goals simp[w',World.freeze]
  refine⟨g,o,l.length,c,w',rfl, ?_,_,rfl,λ nb=>hS.good hR ?_ ?_ ?_ ?_⟩
  ·have hsh:X.w.shape? g=some (ty,cur.length):=by simp[World.shape?,hg]
   simp only[markStringish,Sem.run_bind,run_shape,Result.andThen_ok,hsh,run_freeze]
   rfl
  ·intro hx
   refine .row rfl rfl ⟨_,_,rfl,.inr ⟨g,o,cur,fps,rfl,hg',q3,q4,rfl, ?_⟩⟩
   simp only[CB.fp,zH] at u3
   exact q6.move (hx.sts none) λ k hk=>hother k λ e=>u3.1 (e▸hk)
  ·exact u3
  ·intro k hk
   refine⟨?_, ?_⟩
   ·have:=(u4 k hk).1
    simpa[w',World.freeze] using this
   ·exact .inr ⟨b,_,_,.inl rfl,hl,u1,hk⟩
  ·intro hx
   exact .sl (sz:=K.size) (fp:=g::fps) (by simp[Aac])
theorem Aek{c:Cfg}(hC:Bk P c=true){s:St}{o:Oper}{nb:Nat}{cont:Cm R}{r:R}{d:Nat}{x:Operand}(hop:o.op=.convert t d x)(h:Au c s o nb cont=some r):
  Res P c s o nb cont r λ s' k=>Au c s' o nb k:=by
 simp only[Au,hop] at h
 split at h
 case h_2=>cases h
 rename_i ts td hts htd
 have hTs:=Bs hC hts
 have hTd:=Bs hC htd
 obtain⟨ds,hds,_⟩:=hTs.d
 have hmem:∀s' u rd,Nc s s' o u rd->ev s' x=ev s x:=λ s' u rd ha=>ha.ev x (by simp[hop,Op.operands])
 split at h
 ·rename_i k k' n hk hx
  refine⟨_,[],[],h,B5 ?_, ?_,trivial⟩
  ·intro E X ac hs hR hT
   subst hs
   have hv:=Bh hT x
   rw[hx] at hv
   generalize hv':ac.eval x=v at hv
   cases hv
   refine⟨_, ?_,.int _ _⟩
   simp only[execOp,hop,hv',convert,Sem.run_bind,Ay hds,Ay (hTd.int hk),Result.andThen_ok,Conv.intToInt,Sem.run_pure,Aa]
  ·intro s' ha R' k0
   simp only[Au,hop,hts,htd,hk]
   rw[hmem s' _ _ ha,hx]
 ·rename_i l hk hx
  cases hst:Hp td<;>rw[hst] at h<;>simp only[cond_true,cond_false] at h
  ·cases hsl:Fd td<;>rw[hsl] at h<;>simp only[cond_true,cond_false] at h
   ·cases h
   split at h
   case h_2=>cases h
   rename_i te hte
   cases hby:Ov te<;>rw[hby] at h<;>simp only[cond_true,cond_false] at h
   ·cases h
   obtain⟨k1,h⟩:=Ao h
   have hTe:=Bs hC hte
   refine⟨_,_,_,h, ?_, ?_,trivial⟩
   ·intro E X ac hs hR hT hF next Q hn
    subst hs
    have hv:=Bh hT x
    rw[hx] at hv
    generalize hv':ac.eval x=v at hv
    cases hv
    obtain⟨cc,cs,w',q1,q2,q3,q4,q5,q6,q7,q8⟩:=Wt (P:=P) (w:=X.w) td.elem l
    have hlen:(Bj l).length=l.length:=by simp[Bj]
    obtain⟨X',r1,r2⟩:=P9 (w':=w') (K:=.int .u8) (l:=Bj l) (cs:=cs) (c:=cc) (fps:=[]) (ks:=[]) hR hF (by simp)
     (by
      have e:xF (zF (α:=Int) (Bj l)*1) cs.toList=(Bj l).map (Value.int .u8):=by rw[hlen,xJ,q3]
      show A0 X.w (X.S none) (.int .u8) (Bj l) (xF (zF (α:=Int) (Bj l)*1) cs.toList) []
      rw[e]
      exact Vh _)
     (by show zF (α:=Int) (Bj l)<=cc;omega) (by show cc*1<=cs.size;omega) (.inr (zC _)) (by simp) (by simp) q5 q6 q7 q8
    unfold Oper.wp
    have hrun:(convert t d (.string ⟨⟨l⟩⟩)).run P X.w=(Conv.stringToBytes td.elem ⟨⟨l⟩⟩).run P X.w:=by
     simp only[convert,Sem.run_bind,Ay hds,Ay (hTd.slice hsl),Result.andThen_ok,Ay (hTe.byte hby)]
    simp only[execOp,hop,hv',Sem.run_bind,hrun,q4,Result.andThen_ok,Sem.run_pure,Oper.upon]
    have:=hn _ X' (by simpa[By] using r2)
    rw[r1] at this
    have e2:zF (α:=Int) (Bj l)=l.length:=hlen
    have e3:(Value.slice (some ⟨X.w.heap.size,0,none⟩) (zF (α:=(Ki.int IntKind.u8).den) (Bj l)) cc)=.slice (some ⟨X.w.heap.size,0,none⟩) l.length cc:=by
     show Value.slice _ (zF (α:=Int) (Bj l)) cc=_
     rw[e2]
    rw[e3] at this
    exact this
   ·intro s' ha R' k0
    simp only[Au,hop,hts,htd,hk]
    rw[hmem s' _ _ ha,hx]
    simp only[hst,hsl,hte,hby,k1,cond_true,cond_false,A3]
  ·refine⟨_,[],[],h,B5 ?_, ?_,trivial⟩
   ·intro E X ac hs hR hT
    subst hs
    have hv:=Bh hT x
    rw[hx] at hv
    generalize hv':ac.eval x=v at hv
    cases hv
    refine⟨_, ?_,.str _⟩
    simp only[execOp,hop,hv',convert,Sem.run_bind,Ay hds,Ay (hTd.string hst),Result.andThen_ok,Sem.run_pure]
   ·intro s' ha R' k0
    simp only[Au,hop,hts,htd,hk]
    rw[hmem s' _ _ ha,hx]
    simp only[hst,cond_true]
 ·rename_i hk hnstr
  cases hb:(Hp td&&Fd ts)<;>rw[hb] at h<;>simp only[cond_true,cond_false] at h
  ·have hnb:=hb
   unfold Ake at h
   split at h
   case h_2=>cases h
   rename_i b hx
   split at h
   case h_2=>cases h
   rename_i v K l hl
   obtain⟨k1,hc⟩:=Ao h
   simp only[zA] at k1
   obtain⟨⟨⟨k1,k2⟩,k3⟩,k4⟩:=k1
   split at k3
   case h_2=>cases k3
   rename_i te hte
   have k2:=beq_true.1 k2
   subst k2
   rw[hts] at htd
   cases htd
   have hTe:=Bs hC hte
   refine⟨_,_,_,hc, ?_, ?_,trivial⟩
   ·intro E X ac hs hR hT hF next Q hn
    subst hs
    have hv:=Bh hT x
    rw[hx] at hv
    generalize hv':ac.eval x=v at hv
    obtain⟨g,og,n,cc,w',q1,q2,q3⟩:=Am1 (P:=P) hR hl (zW k4) hv
    obtain⟨X',q3,q4⟩:=q3
    unfold Oper.wp
    have hrun:(convert t t v).run P X.w=.ok v w':=by
     subst q1
     simp only[convert,Sem.run_bind,Ay (hTs.slice k1),Result.andThen_ok,beq_self_eq_true,Ay (hTe.byte k3),q2,Sem.run_pure]
    simp only[execOp,hop,hv',Sem.run_bind,hrun,Result.andThen_ok,Sem.run_pure,Oper.upon]
    have:=hn _ X' (by simpa[By] using q4 _)
    rw[q3] at this
    exact this
   ·intro s' ha R' k0
    simp only[Au,hop,hts,hk]
    rw[hmem s' _ _ ha,hx]
    simp only[hnb,cond_false,Ake]
    have hl':look b s'.st=some (.cell false v [.rw K l]):=by rw[<-hl];exact ha.wr b (by simp[Bm])
    have hb':zK t t=true:=beq_true.2 rfl
    simp only[hl',hte,k1,k3,k4,hb',Bool.and_self,A3]
  have hb':=hb
  simp only[zA] at hb'
  split at h
  case h_2=>cases h
  rename_i te hte
  cases hby:Ov te<;>rw[hby] at h<;>simp only[cond_true,cond_false] at h
  ·cases h
  split at h
  case h_2=>cases h
  rename_i l hel
  have hTe:=Bs hC hte
  refine⟨_,[],_,h,B5 ?_, ?_,trivial⟩
  ·intro E X ac hs hR hT
   subst hs
   have hv:=Bh hT x
   have hE:=Abg hR hv hel
   obtain⟨A,cc,e1,_⟩:=hE.ints
   have hbs:=Ws (P:=P) hE
   rw[e1] at hbs
   refine⟨_, ?_,.str _⟩
   simp only[execOp,hop,e1,convert,Sem.run_bind,Ay (hTs.slice hb'.2),Ay (hTd.string hb'.1),Result.andThen_ok,Ay (hTe.byte hby),hbs,Sem.run_pure]
  ·intro s' ha R' k0
   have he:=hmem s' _ _ ha
   simp only[Au,hop,hts,htd,hk]
   rw[he]
   have hel':Jg s' (.int .u8) (ev s x)=some l:=by rw[Rl ha.rd,hel]
   cases hx:ev s x<;>first
    | exact(hnstr _ hx).elim
    | (rw[hx] at hel';simp only[hb,cond_true,hte,hby,hel'])
 ·cases h
end Go.Ev
namespace Go.Ev
variable{R:Type}{E:Env}{X:Cx}{P:Program}{t:Nat}{ti:TyI}{w:World}
def O3:Ki->TypeDesc
 | .int k=>.int k
 | .str=>.string
 | _=>.bool
theorem Ye(h:Df P t ti){K:Ki}(hk:R5 ti=some K):P.underlying t=some (O3 K)/\∃z,(∀w,(zeroValue t).run P w=.ok z w)/\Ck K K.zero z:=by
 unfold R5 at hk
 split at hk
 ·rename_i k n hc hz
  cases hn:(n==0)<;>rw[hn] at hk<;>simp only[cond_true,cond_false] at hk
  ·cases hk
  cases hk
  have hn':n=0:=by simpa using hn
  subst hn'
  obtain⟨z,z1,z2⟩:=h.zero1 hc
  refine⟨h.int (by simp[H9,hc,hz]),z,z1, ?_⟩
  rw[hz] at z2
  cases z<;>simp[zOk] at z2
  obtain⟨e1,e2⟩:=z2
  rw[Er e1,<-e2]
  rfl
 ·rename_i hc hz
  cases hk
  obtain⟨z,z1,z2⟩:=h.zero1 hc
  refine⟨h.string (by simp[Hp,hc,hz]),z,z1, ?_⟩
  rw[hz] at z2
  cases z<;>simp[zOk] at z2
  rename_i b
  obtain⟨⟨l⟩⟩:=b
  simp at z2
  subst z2
  rfl
 ·rename_i hc hz
  cases hk
  obtain⟨z,z1,z2⟩:=h.zero1 hc
  refine⟨h.bool hc hz,z,z1, ?_⟩
  rw[hz] at z2
  cases z<;>simp[zOk] at z2
  rename_i b
  cases b
  ·rfl
  ·cases z2
 ·cases hk
def Aix:Ki->Bool
 | .int _|.bool|.str=>true
 | _=>false
theorem Ck.isKey{K:Ki}(hK:Aix K=true){d:K.den}{v:Value}(h:Ck K d v):MapKept.IsKey (O3 K) v:=by
 cases K<;>first|(simp[Aix] at hK;done)|(simp only[Ck] at h;subst h;simp[MapKept.IsKey,O3])
theorem Ck.eqb:∀{K:Ki} (hK:Aix K=true) {x y:K.den} {a b:Value},Ck K x a->Ck K y b->Instr.sameNow (O3 K) a b=some (K.eqb x y)
 | .int _,_,x,y,_,_,h,k=>by
  simp only[Ck] at h k
  subst h k
  show(if _=_ then some ((show Int from x)==(show Int from y)) else none)=some _
  rw[if_pos rfl]
  rfl
 | .bool,_,x,y,_,_,h,k=>by
  simp only[Ck] at h k
  subst h k
  rfl
 | .str,_,x,y,_,_,h,k=>by
  simp only[Ck] at h k
  subst h k
  show some ((⟨⟨x⟩⟩:ByteArray)==⟨⟨y⟩⟩)=some ((show List UInt8 from x)==(show List UInt8 from y))
  congr 1
  rw[Bool.eq_iff_iff,MapKept.bytes_beq,beq_iff_eq]
  constructor
  ·intro e
   injection e with e
   injection e with e
  ·intro e
   exact congrArg (λ z:List UInt8=>(⟨⟨z⟩⟩:ByteArray)) e
theorem Vg{w:World}{Z:Nat->Prop}{k:IntKind}:∀(l:List Int),A0 w Z (.int k) l (l.map (Value.int k)) []
 | []=>⟨rfl,rfl⟩
 | x::l=>⟨[.int k x],l.map (Value.int k),[],[],rfl,rfl,⟨rfl,rfl⟩,Vg l⟩
theorem Xw{w:World}{Z:Nat->Prop}{k:IntKind}:∀{l:List Int} {cs:List Value} {fp:List Nat},A0 w Z (.int k) l cs fp->cs=l.map (Value.int k)
 | [],_,_,h=>h.1
 | x::l,_,_,⟨c1,c2,f1,f2,e1,_,h1,h2⟩=>by
  rw[e1,h1.1,Xw h2]
  rfl
theorem Ck.rel:∀{K:Ki} {x:K.den} {a:Value},Ck K x a->VRel X (ofD K x) a
 | .int _,x,a,h=>by simp only[Ck] at h;subst h;exact .int _ _
 | .bool,x,a,h=>by simp only[Ck] at h;subst h;exact .bool _
 | .str,x,a,h=>by simp only[Ck] at h;subst h;exact .str _
 | .arr n (.int k),x,a,h=>by
  obtain⟨h1,rfl⟩:=h
  exact .arr (l:=x) h1 (Vg x)
 | .arr _ .bool,_,_,h|.arr _ .str,_,_,h|.arr _ (.lst _),_,_,h|.arr _ (.arr _ _),_,_,h|.arr _ (.pair _ _),_,_,h|.arr _ .unit,_,_,h|.arr _ .tr,_,_,h=>h.elim
 | .lst _,_,_,h|.pair _ _,_,_,h|.unit,_,_,h|.tr,_,_,h=>h.elim
theorem Qc{K:Ki}{a:AV}{x:K.den}{v:Value}(h:Aex K a=some x)(hv:VRel X a v):Ck K x v:=by
 unfold Aex at h
 split at h
 ·rename_i k k' n
  cases hb:G1 k' k<;>rw[hb] at h<;>simp only[cond_true,cond_false] at h
  ·cases h
  ·cases h
   cases hv
   rw[Er hb]
   exact rfl
 ·cases h;cases hv;exact rfl
 ·cases h;cases hv;exact rfl
 ·rename_i n k n' k' l
  cases hb:(zK n n'&&G1 k k')<;>rw[hb] at h<;>simp only[cond_true,cond_false] at h
  ·cases h
  ·simp only[zA] at hb
   obtain⟨b1,b2⟩:=hb
   have e1:=zE b1
   have e2:=Er b2
   subst e1 e2
   cases h
   cases hv with
   | arr h1 h2=>exact⟨h1,by rw[Xw h2]⟩
 ·cases h
theorem U8{K V:Ki}(hK:Aix K=true){x:K.den}{k:Value}(hk:Ck K x k):∀{n i:Nat} {l:List (K.den×V.den)} {es:List MapEntry},Dj K V n l es->
  (I6 K.eqb x l=false/\Instr.findNow (O3 K) k es i=some none/\El K.eqb x l=l.length)\/
  (I6 K.eqb x l=true/\∃v,Instr.findNow (O3 K) k es i=some (some (i+El K.eqb x l,v))/\(∀z,Ck V (De K.eqb x z l) v)/\El K.eqb x l<es.length/\∃e,es[El K.eqb x l]?=some e/\e.val=v/\e.key=k/\e.born=n+El K.eqb x l)
 | _,_,[],[],_=>.inl ⟨rfl,rfl,rfl⟩
 | n,i,(a,y)::l,e::es,h=>by
  obtain⟨h1,h2,h3,h4⟩:=h
  have hs:=hk.eqb hK h1
  simp only[I6,El,De,Instr.findNow]
  rw[hs]
  cases hb:K.eqb x a
  ·simp only[cond_false]
   rcases U8 (n:=n+1) (i:=i+1) hK hk h4 with⟨q1,q2,q3⟩|⟨q1,v,q2,q3,q4,e',q5,q6,q7,q8⟩
   ·exact .inl ⟨q1,q2,by simp[q3]⟩
   ·refine .inr ⟨q1,v, ?_,q3,by simpa using q4,e',by simpa using q5,q6,q7,by omega⟩
    rw[q2]
    congr 3
    omega
  ·simp only[cond_true]
   obtain⟨r,r1,r2⟩:=MapKept.sameNow_of_keys (hk.isKey hK) (h1.isKey hK)
   rw[hs,hb] at r1
   cases r1
   refine .inr ⟨by first|rfl|trivial,e.val,rfl,λ _=>h2,by simp,e,rfl,rfl,(r2.1 rfl).symm,by simpa using h3⟩
structure Af4(P:Program)(kt:Nat)(K:Ki):Prop where
 ck:∀x v,Ck K x v->∀e w,(Instr.checkKey e 10000 kt v).run P w=.ok () w
 st:∀x v,Ck K x v->∀w,(Instr.keyThatStays v v).run P w=.ok v w
 fk:∀{V:Ki} {x:K.den} {k:Value},Ck K x k->∀{n:Nat} {l:List (K.den×V.den)} {es:List MapEntry},Dj K V n l es->∀w,
  (I6 K.eqb x l=false/\(Instr.findKey kt k es).run P w=.ok none w/\El K.eqb x l=l.length)\/
  (I6 K.eqb x l=true/\∃v,(Instr.findKey kt k es).run P w=.ok (some (0+El K.eqb x l,v)) w/\(∀z,Ck V (De K.eqb x z l) v)/\El K.eqb x l<es.length/\∃e,es[El K.eqb x l]?=some e/\e.val=v/\e.key=k/\e.born=n+El K.eqb x l)
theorem Aio{kt:Nat}{K:Ki}(hK:Aix K=true)(hu:P.underlying kt=some (O3 K)):Af4 P kt K where
 ck x v h e w:=MapKept.run_checkKey hu (h.isKey hK) e 9999
 st x v h w:=MapKept.run_keyThatStays (h.isKey hK)
 fk:=by
  intro V x k hk n l es hr w
  rcases U8 (i:=0) hK hk hr with⟨f1,f2,f3⟩|⟨f1,v,f2,f3⟩
  ·exact .inl ⟨f1,MapKept.run_findKey hu f2,f3⟩
  ·exact .inr ⟨f1,v,MapKept.run_findKey hu f2,f3⟩
def K8(k:IntKind)(l:List Int):Value:=.agg (l.map (Value.int k)).toArray
theorem Sa{e:Nat}{k:IntKind}(hu:P.underlying e=some (.int k))(hs:P.cellsOf e=1){l:List Int}{i:Nat}{x:Int}(h:l[i]?=some x)(w:World):(part e (l.map (Value.int k)).toArray (i*P.cellsOf e)).run P w=.ok (.int k x) w:=by
 refine run_part_plain w (by simp[Program.plainKey,hu]) ?_
 rw[hs,xJ]
 simp[h]
theorem Art{e:Nat}{k:IntKind}(hu:P.underlying e=some (.int k)){d:Nat}{a b:Int}(w:World):(Op.equalIn (d+1) e (.int k a) (.int k b)).run P w=.ok (a==b) w:=by
 simp[Op.equalIn,run_underlying hu,Sem.run_bind,Result.andThen]
theorem Qs{e:Nat}{k:IntKind}(hu:P.underlying e=some (.int k))(hs:P.cellsOf e=1){d n:Nat}{l l':List Int}(h1:l.length=n)(h2:l'.length=n)(w:World):
  ∀(m j:Nat),j+m=n->(Op.eqItems (d+1) e (P.cellsOf e) (l.map (Value.int k)).toArray (l'.map (Value.int k)).toArray (xK j m)).run P w=.ok (l.drop j==l'.drop j) w
 | 0,j,hj=>by
  have e1:l.drop j=[]:=yM (by omega)
  have e2:l'.drop j=[]:=yM (by omega)
  rw[e1,e2]
  rfl
 | m+1,j,hj=>by
  have i1:l[j]?=some (l[j]'(by omega)):=List.getElem?_eq_getElem _
  have i2:l'[j]?=some (l'[j]'(by omega)):=List.getElem?_eq_getElem _
  have ih:=Qs (d:=d) hu hs h1 h2 w m (j+1) (by omega)
  rw[zU (show j<l.length by omega),zU (show j<l'.length by omega)]
  simp only[List.range'_succ,Op.eqItems,Sem.run_bind,Sa hu hs i1 w,Sa hu hs i2 w,Result.andThen_ok,Art hu w]
  cases hb:(l[j]'(by omega)==l'[j]'(by omega))
  ·simp only[yD,if_true,Sem.run_pure]
   simp only[yW,hb,Bool.false_and]
  ·simp only[Bool.not_true,zQ,if_false]
   rw[ih]
   simp only[yW,hb,xG]
theorem Afn{t e n:Nat}{k:IntKind}{i:TypeInfo}(ht:P.underlying t=some (.array n e))(hi:P.info? e=some i)(hu:P.underlying e=some (.int k))(hs:P.cellsOf e=1){l l':List Int}(h1:l.length=n)(h2:l'.length=n)(w:World):
  (Op.equal t (K8 k l) (K8 k l')).run P w=.ok (l==l') w:=by
 unfold Op.equal K8
 rw[show Op.maxDepth=9999+1 from rfl,run_equalIn_array w 9999 _ _ ht hi,show(9999:Nat)=9998+1 from rfl,List.range_eq_range',Qs hu hs h1 h2 w n 0 (by omega)]
 simp
theorem Afl{t e n:Nat}{k:IntKind}{i:TypeInfo}(ht:P.underlying t=some (.array n e))(hi:P.info? e=some i)(hu:P.underlying e=some (.int k))(hs:P.cellsOf e=1){l:List Int}(h1:l.length=n)(em:Bool)(w:World):
  (Instr.checkKey em 10000 t (K8 k l)).run P w=.ok () w:=by
 rw[show(10000:Nat)=9999+1 from rfl]
 unfold K8 Instr.checkKey
 simp only[Sem.run_bind,run_underlying ht,Result.andThen_ok]
 simp only[Std.Legacy.Range.forIn_eq_forIn_range',Std.Legacy.Range.size,yH,Nat.add_one_sub_one,Nat.div_one,run_sizeOf w hi,Sem.run_bind,Result.andThen_ok]
 have key:∀(m j:Nat),j+m=n->(forIn (m:=Sem) (xK j m) PUnit.unit λ i r=>do
   let n<-sizeOf e
   let a<-part e (yN (Value.int k) l).toArray (i*n)
   Instr.checkKey em 9999 e a
   pure PUnit.unit
   pure (ForInStep.yield PUnit.unit)).run P w=.ok PUnit.unit w:=by
  intro m
  induction m with
  | zero=>intro j _;rfl
  | succ m ih=>
   intro j hj
   have i1:l[j]?=some (l[j]'(by omega)):=List.getElem?_eq_getElem _
   have hck:(Instr.checkKey em 9999 e (Value.int k (l[j]'(by omega)))).run P w=.ok () w:=MapKept.run_checkKey (k:=.int k (l[j]'(by omega))) hu (by simp[MapKept.IsKey]) em 9998
   simp only[List.range'_succ,List.forIn_cons,Sem.run_bind,run_sizeOf w hi,Result.andThen_ok,Sa hu hs i1 w,hck,Sem.run_pure]
   exact ih (j+1) (by omega)
 have:=key n 0 (by omega)
 simp at this
 simp[this,Result.andThen]
theorem Wu{k:IntKind}:∀(l:List Int) (m:Nat),Instr.sameBits (m+1) (K8 k l) (K8 k l)=true:=by
 intro l m
 simp only[K8,Instr.sameBits,beq_self_eq_true,xG,List.all_eq_true]
 intro x hx
 obtain⟨a,b⟩:=x
 have:a=b/\a∈l.map (Value.int k):=by
  generalize l.map (Value.int k)=l' at hx
  clear m
  induction l' with
  | nil=>simp at hx
  | cons y r ih=>
   simp only[List.zip_cons_cons,zI,z9] at hx
   rcases hx with⟨rfl,rfl⟩|hx
   ·exact⟨rfl,by simp⟩
   ·obtain⟨h1,h2⟩:=ih hx
    exact⟨h1,by simp[h2]⟩
 obtain⟨rfl,h⟩:=this
 simp only[xH] at h
 obtain⟨z,_,rfl⟩:=h
 simp[Instr.sameBits]
theorem U7{t e n:Nat}{k:IntKind}{ti:TypeInfo}(ht:P.underlying t=some (.array n e))(hi:P.info? e=some ti)(hu:P.underlying e=some (.int k))(hs:P.cellsOf e=1){V:Ki}{x:List Int}{kv:Value}(hk:Ck (.arr n (.int k)) x kv)(w:World):
  ∀{m i:Nat} {l:List (Ki.den (.arr n (.int k))×V.den)} {es:List MapEntry},Dj (.arr n (.int k)) V m l es->
  (I6 eqL x l=false/\(Instr.findAsking t kv es i).run P w=.ok none w/\El eqL x l=l.length)\/
  (I6 eqL x l=true/\∃v,(Instr.findAsking t kv es i).run P w=.ok (some (i+El eqL x l,v)) w/\(∀z,Ck V (De eqL x z l) v)/\El eqL x l<es.length/\∃e,es[El eqL x l]?=some e/\e.val=v/\e.key=kv/\e.born=m+El eqL x l)
 | _,_,[],[],_=>.inl ⟨rfl,rfl,rfl⟩
 | m,i,(a,y)::l,e'::es,h=>by
  obtain⟨h1,h2,h3,h4⟩:=h
  obtain⟨k1,rfl⟩:=hk
  have h1':zF (α:=Int) a=n/\e'.key=K8 k a:=h1
  have hs':(Op.equal t (K8 k x) e'.key).run P w=.ok (x==a) w:=by rw[h1'.2];exact Afn ht hi hu hs k1 h1'.1 w
  have e0:eqL x a=(x==a):=rfl
  simp only[I6,El,De,Instr.findAsking,Sem.run_bind]
  rw[show(Op.equal t (Value.agg (yN (Value.int k) x).toArray) e'.key).run P w=.ok (x==a) w from hs',e0]
  simp only[Result.andThen_ok]
  cases hb:(x==a)
  ·simp only[cond_false,zQ,if_false]
   rcases U7 (m:=m+1) (i:=i+1) ht hi hu hs ⟨k1,rfl⟩ w h4 with⟨q1,q2,q3⟩|⟨q1,v,q2,q3,q4,e2,q5,q6,q7,q8⟩
   ·exact .inl ⟨q1,q2,by simp[q3]⟩
   ·refine .inr ⟨q1,v, ?_,q3,by simpa using q4,e2,by simpa using q5,q6,q7,by omega⟩
    rw[q2,show i+1+El eqL x l=i+(El eqL x l+1) by omega]
  ·simp only[cond_true,if_true,Sem.run_pure]
   have:x=a:=eq_of_beq (α:=List Int) hb
   subst this
   exact .inr ⟨trivial,e'.val,rfl,λ _=>h2,by simp,e',rfl,rfl,h1'.2,by simpa using h3⟩
theorem Ain{t e n:Nat}{k:IntKind}{ti:TypeInfo}(ht:P.underlying t=some (.array n e))(hi:P.info? e=some ti)(hu:P.underlying e=some (.int k))(hs:P.cellsOf e=1):Af4 P t (.arr n (.int k)) where
 ck x v h em w:=by
  obtain⟨h1,rfl⟩:=h
  exact Afl ht hi hu hs h1 em w
 st x v h w:=by
  obtain⟨h1,rfl⟩:=h
  have:=Wu (k:=k) x 9999
  simp only[K8] at this
  simp[Instr.keyThatStays,this]
 fk:=by
  intro V x kv hk m l es hr w
  have hfa:=U7 (V:=V) ht hi hu hs hk w (i:=0) hr
  have hf:(Instr.findKey t kv es).run P w=(Instr.findAsking t kv es).run P w:=by
   unfold Instr.findKey
   simp only[Sem.run_bind,run_underlying ht,Result.andThen_ok]
   cases es with
   | nil=>rfl
   | cons e' es=>
    obtain⟨_,rfl⟩:=hk
    have:Instr.findNow (.array n e) (Value.agg (yN (Value.int k) x).toArray) (e'::es) 0=none:=rfl
    rw[this]
  rw[hf]
  exact hfa
theorem Dj.push{K V:Ki}{x:K.den}{y:V.den}{k v:Value}(hk:Ck K x k)(hv:Ck V y v):∀{n:Nat} {l:List (K.den×V.den)} {es:List MapEntry},Dj K V n l es->I6 K.eqb x l=false->
  Dj K V n (Ii K.eqb x y l) (es++[{key:=k,val:=v,born:=n+es.length}])
 | n,[],[],_,_=>⟨hk,hv,rfl,trivial⟩
 | n,(a,z)::l,e::es,h,hn=>by
  obtain⟨h1,h2,h3,h4⟩:=h
  simp only[I6] at hn
  cases hb:K.eqb x a<;>rw[hb] at hn<;>simp only[cond_true,cond_false] at hn
  ·have:=Dj.push hk hv h4 hn
   simp only[Ii,hb,cond_false,zS]
   refine⟨h1,h2,h3, ?_⟩
   rw[show n+(e::es).length=n+1+es.length by simp;omega]
   exact this
  ·cases hn
theorem Dj.modify{K V:Ki}{x:K.den}{y:V.den}{k v:Value}(hk:Ck K x k)(hv:Ck V y v):∀{n:Nat} {l:List (K.den×V.den)} {es:List MapEntry},Dj K V n l es->I6 K.eqb x l=true->
  Dj K V n (Ii K.eqb x y l) (es.modify (El K.eqb x l) λ e=>{e with key:=k,val:=v})
 | _,[],[],_,hn=>by simp[I6] at hn
 | n,(a,z)::l,e::es,h,hn=>by
  obtain⟨h1,h2,h3,h4⟩:=h
  simp only[I6] at hn
  cases hb:K.eqb x a<;>rw[hb] at hn<;>simp only[cond_true,cond_false] at hn
  ·have:=Dj.modify hk hv h4 hn
   simp only[Ii,El,hb,cond_false,yP]
   exact⟨h1,h2,h3,this⟩
  ·simp only[Ii,El,hb,cond_true,yQ]
   exact⟨hk,hv,h3,h4⟩
theorem Dj.upd{K V:Ki}{y:V.den}{v:Value}(hv:Ck V y v):∀{n i:Nat} {l:List (K.den×V.den)} {es:List MapEntry},Dj K V n l es->
  Dj K V n (Ait y i l) (es.modify i λ e=>{e with val:=v})
 | _,i,[],[],_=>by simp[Ait,Dj]
 | n,0,(a,z)::l,e::es,⟨h1,h2,h3,h4⟩=>by
  simp only[Ait,yQ]
  exact⟨h1,hv,h3,h4⟩
 | n,i+1,(a,z)::l,e::es,⟨h1,h2,h3,h4⟩=>by
  simp only[Ait,yP]
  exact⟨h1,h2,h3,Dj.upd hv h4⟩
theorem Dj.born{K V:Ki}:∀{n i:Nat} {l:List (K.den×V.den)} {es:List MapEntry},Dj K V n l es->i<es.length->es.findIdx? (λ e=>(e.born:Int)==((n+i:Nat):Int))=some i
 | _,_,[],[],_,h=>by simp at h
 | n,0,_::_,e::es,⟨_,_,h3,_⟩,_=>by simp[List.findIdx?_cons,h3]
 | n,i+1,_::l,e::es,⟨_,_,h3,h4⟩,h=>by
  have:=Dj.born (i:=i) h4 (by simpa using h)
  rw[List.findIdx?_cons]
  have hne:((e.born:Int)==((n+(i+1):Nat):Int))=false:=by rw[h3];simp;omega
  rw[hne]
  rw[show n+(i+1)=n+1+i by omega,this]
  rfl
theorem Qv(hR:Rel E X){b g:Nat}{K V:Ki}{l l':List (K.den×V.den)}{es es':List MapEntry}(hl:look b X.s.st=some (.map K V l))(hc:X.cm b=some (.map g))(hg:X.w.heap[g]?=some (.map es.toArray es.length))(hr:Dj K V 0 l' es'){nb:Nat}{v:AV}{val:Value}
  (hv:∀X':Cx,VRel X' v val):
  ∃X',X'.w={X.w with heap:=X.w.heap.setIfInBounds g (.map es'.toArray es'.length)}/\Good E X nb v [(b,some (.map K V l'))] val X':=by
 obtain⟨s1,s2⟩:=MapKept.heap_set (o':=.map es'.toArray es'.length) hg
 let w':World:={X.w with heap:=X.w.heap.setIfInBounds g (.map es'.toArray es'.length)}
 have hS:Hv E X b (.map K V l) (.map K V l') [] (.map g) (.map g) w' (λ k=>k=g) (Aac X b (.map K V l') [] (.map g) w'):=by
  refine⟨rfl,rfl,rfl,rfl,hl,hc,rfl,(λ _ _ _ e=>by cases e),(by simp),rfl,rfl,rfl,(by simp[w']),(λ k hk hT=>s2 k hT),(λ k hk=>by simp[CB.fp,hk])⟩
 obtain⟨cb,k1,k2,k3,k4⟩:=hR.blk b _ hl
 rw[hc] at k1
 cases k1
 refine⟨Aac X b (.map K V l') [] (.map g) w',rfl, ?_⟩
 have:=hS.good hR (nb:=nb) (v:=v) (val:=val) (λ _=>.map s1 hr) k3 (λ k hk=>⟨by
  have:=(k4 k hk).1
  simpa[w'] using this,.inr ⟨b,_,_,.inl rfl,hl,hc,hk⟩⟩) (λ _=>hv _)
 simpa[By] using this
structure Axi(P:Program)(t:Nat)(K V:Ki):Prop where
 out:∃kt et z,P.underlying t=some (.map kt et)/\Af4 P kt K/\(∀w,(zeroValue et).run P w=.ok z w)/\Ck V V.zero z
theorem Afc{ti:TyI}{K:Ki}(h:R5 ti=some K):Aix K=true:=by
 unfold R5 at h
 split at h
 ·rename_i k n _ _
  cases hn:(n==0)<;>rw[hn] at h<;>simp only[cond_true,cond_false] at h
  ·cases h
  ·cases h;rfl
 ·cases h;rfl
 ·cases h;rfl
 ·cases h
theorem Ard{c:Cfg}(hC:Bk P c=true)(h:Df P t ti){K:Ki}(hk:Av9 c ti=some K):Af4 P t K:=by
 unfold Av9 at hk
 split at hk
 ·rename_i K' e
  cases hk
  exact Aio (Afc e) (Ye h e).1
 ·split at hk
  case h_2=>cases hk
  rename_i n k l te hc hz hte
  split at hk
  case h_2=>cases hk
  rename_i k' hk'
  cases hb:(G1 k k'&&(zK ti.alen n&&zK te.sz 1))<;>rw[hb] at hk<;>simp only[cond_true,cond_false] at hk
  ·cases hk
  cases hk
  simp only[zA] at hb
  obtain⟨b1,b2,b3⟩:=hb
  have e1:=Er b1
  subst e1
  have hT:=Bs hC hte
  obtain⟨i,z,i1,i2,_⟩:=hT.i
  have ha:=h.array hc
  rw[zE b2] at ha
  exact Ain ha i1 (hT.int hk') (by simp[Program.cellsOf,i1,i2,zE b3])
theorem Ls{c:Cfg}(hC:Bk P c=true){K V:Ki}(h:S2 c t=some (K,V)):Axi P t K V:=by
 unfold S2 at h
 split at h
 case h_2=>cases h
 rename_i ti ht
 split at h
 case h_2=>cases h
 rename_i tk tv hk hv
 split at h
 case h_2=>cases h
 rename_i K' V' e1 e2
 cases hm:J6 ti<;>rw[hm] at h<;>simp only[cond_true,cond_false] at h
 ·cases h
 cases h
 obtain⟨_,z,k2,k3⟩:=Ye (Bs hC hv) e2
 exact⟨_,_,z,(Bs hC ht).map hm,Ard hC (Bs hC hk) e1,k2,k3⟩
theorem Ae2{c:Cfg}(hC:Bk P c=true){s:St}{o:Oper}{nb:Nat}{cont:Cm R}{r:R}{rv:Option Operand}(hop:o.op=.makeMap t rv)(h:Au c s o nb cont=some r):
  Res P c s o nb cont r λ s' k=>Au c s' o nb k:=by
 simp only[Au,hop] at h
 split at h
 case h_2=>cases h
 rename_i K V hT0
 cases hh:Zo rv<;>rw[hh] at h<;>simp only[cond_true,cond_false] at h
 ·cases h
 refine⟨_,_,_,h, ?_,λ s' ha R' k=>by simp only[Au,hop,hT0,hh,cond_true],trivial⟩
 intro E X ac hs hR hT hF next Q hn
 subst hs
 obtain⟨kt,et,z,u1,u2,u3,u4⟩:=(Ls hC hT0).out
 have hN:Gh E X nb (.map K V []) [] (.map X.w.heap.size) {X.w with heap:=X.w.heap.push (.map #[] 0)} (λ _=>False) (C1 X nb (.map K V []) [] (.map X.w.heap.size) {X.w with heap:=X.w.heap.push (.map #[] 0)}):=
  ⟨rfl,rfl,rfl,rfl,hF,by simp,rfl,rfl,rfl,by simp,λ g hg _=>by simp[Array.getElem?_push,xI hg],λ g hg=>hg.elim⟩
 have hG:=hN.good (v:=.mp nb) (val:=.map (some X.w.heap.size)) hR (λ _=>.map (es:=[]) (by show(X.w.heap.push (Obj.map #[] 0))[X.w.heap.size]?=_;simp) trivial) (by simp[CB.fp])
  (λ g hg=>by
   simp only[CB.fp,zL] at hg
   subst hg
   exact⟨by simp,.inl (zC _)⟩)
  (λ _=>.mp (by simp[C1]))
 unfold Oper.wp
 have hrun:(Instr.makeMap t (rv.map ac.eval)).run P X.w=.ok (.map (some X.w.heap.size)) {X.w with heap:=X.w.heap.push (.map #[] 0)}:=by
  cases rv with
  | none=>simp[Instr.makeMap,run_newObj]
  | some x=>
   cases x with
   | const v=>
    cases v<;>first|(simp[Zo] at hh;done)|skip
    simp only[xB,Act.eval,Instr.makeMap,Sem.run_bind,Ay u1,Result.andThen_ok,asInt,run_newObj,Sem.run_pure]
    rfl
   | _=>simp[Zo] at hh
 simp only[execOp,hop,Sem.run_bind,hrun,Result.andThen_ok,Sem.run_pure,Oper.upon]
 have:=hn _ _ (by simpa[By] using hG)
 exact this
theorem Qr(hR:Rel E X){b:Nat}{K V:Ki}{l:List (K.den×V.den)}(hl:look b X.s.st=some (.map K V l)){mv:Value}(hv:VRel X (.mp b) mv):
  ∃g es,mv=.map (some g)/\X.cm b=some (.map g)/\X.w.heap[g]?=some (.map es.toArray es.length)/\Dj K V 0 l es:=by
 cases hv with
 | mp hc=>
  obtain⟨cb,k1,k2,_⟩:=hR.blk b _ hl
  rw[hc] at k1
  cases k1
  cases k2 with
  | map m1 m2=>exact⟨_,_,rfl,hc,m1,m2⟩
theorem Aiq{c:Cfg}(hC:Bk P c=true){s:St}{o:Oper}{nb:Nat}{cont:Cm R}{r:R}{m k:Operand}{ok:Bool}(hop:o.op=.lookup t m k ok)(h:Au c s o nb cont=some r):
  Res P c s o nb cont r λ s' k=>Au c s' o nb k:=by
 simp only[Au,hop] at h
 split at h
 case h_2=>cases h
 rename_i K V b hT0 hm
 split at h
 case h_2=>cases h
 rename_i K' V' l hl
 split at h
 case h_2=>cases h
 rename_i x hx
 cases hb:(K.beq K'&&V.beq V')<;>rw[hb] at h<;>simp only[cond_true,cond_false] at h
 ·cases h
 have hb0:=hb
 simp only[zA] at hb
 obtain⟨b1,b2⟩:=hb
 have e1:=Ki.beq_eq b1
 have e2:=Ki.beq_eq b2
 subst e1 e2
 refine⟨_,[],_,h,B5 ?_, ?_,trivial⟩
 ·intro E X ac hs hR hT
  subst hs
  obtain⟨kt,et,z,u1,u2,u3,u4⟩:=(Ls hC hT0).out
  have hmv:=Bh hT m
  rw[hm] at hmv
  obtain⟨g,es,q1,q2,q3,q4⟩:=Qr hR hl hmv
  have hk:=Qc hx (Bh hT k)
  have hck:∀e w,(Instr.checkKey e 10000 kt (ac.eval k)).run P w=.ok () w:=λ e w=>u2.ck _ _ hk e w
  rcases u2.fk hk q4 X.w with⟨f1,f2,f3⟩|⟨f1,v,f2,f3,f4,e,f5,f6,f7,f8⟩
  ·have hz:∀z':V.den,De K.eqb x z' l=z':=by
    intro z'
    have:∀(l:List (K.den×V.den)),I6 K.eqb x l=false->De K.eqb x z' l=z':=by
     intro l
     induction l with
     | nil=>intro _;rfl
     | cons p l ih=>
      obtain⟨a,y⟩:=p
      simp only[I6,De]
      cases K.eqb x a<;>simp
      exact ih
    exact this l f1
   refine⟨(if ok then .tuple #[z,.bool false] else z), ?_, ?_⟩
   ·simp only[execOp,hop,q1,Instr.lookup,Sem.run_bind,Ay u1,Result.andThen_ok,MapKept.run_getObj_map q3,Sem.run_pure,hck,f2,u3]
   ·rw[hz,f1]
    cases ok
    ·exact u4.rel
    ·exact .tup (.cons u4.rel (.cons (.bool _) .nil))
  ·refine⟨(if ok then .tuple #[v,.bool true] else v), ?_, ?_⟩
   ·simp only[execOp,hop,q1,Instr.lookup,Sem.run_bind,Ay u1,Result.andThen_ok,MapKept.run_getObj_map q3,Sem.run_pure,hck,f2]
   ·rw[f1]
    cases ok
    ·exact(f3 _).rel
    ·exact .tup (.cons (f3 _).rel (.cons (.bool _) .nil))
 ·intro s' ha R' k0
  simp only[Au,hop,hT0]
  rw[ha.ev m (by simp[hop,Op.operands]),ha.ev k (by simp[hop,Op.operands]),hm]
  simp only[ha.rd b (by simp),hl,hx,hb0,cond_true]
theorem Zw{c:Cfg}(hC:Bk P c=true){s:St}{o:Oper}{nb:Nat}{cont:Cm R}{r:R}{m k v:Operand}(hop:o.op=.mapUpdate t m k v)(h:Au c s o nb cont=some r):
  Res P c s o nb cont r λ s' k=>Au c s' o nb k:=by
 simp only[Au,hop] at h
 split at h
 case h_2=>cases h
 rename_i K V b hT0 hm
 split at h
 case h_2=>cases h
 rename_i K' V' l hl
 split at h
 case h_2=>cases h
 rename_i x y hx hy
 cases hb:(K.beq K'&&V.beq V')<;>rw[hb] at h<;>simp only[cond_true,cond_false] at h
 ·cases h
 have hb0:=hb
 simp only[zA] at hb
 obtain⟨b1,b2⟩:=hb
 have e1:=Ki.beq_eq b1
 have e2:=Ki.beq_eq b2
 subst e1 e2
 refine⟨_,_,_,h, ?_, ?_,trivial⟩
 ·intro E X ac hs hR hT hF next Q hn
  subst hs
  obtain⟨kt,et,z,u1,u2,u3,u4⟩:=(Ls hC hT0).out
  have hmv:=Bh hT m
  rw[hm] at hmv
  obtain⟨g,es,q1,q2,q3,q4⟩:=Qr hR hl hmv
  have hk:=Qc hx (Bh hT k)
  have hv:=Qc hy (Bh hT v)
  have hck:∀e w,(Instr.checkKey e 10000 kt (ac.eval k)).run P w=.ok () w:=λ e w=>u2.ck _ _ hk e w
  unfold Oper.wp
  rcases u2.fk hk q4 X.w with⟨f1,f2,f3⟩|⟨f1,v0,f2,f3,f4,e,f5,f6,f7,f8⟩
  ·obtain⟨X',j1,j2⟩:=Qv (nb:=nb) (v:=.un) (val:=undef) hR hl q2 q3 (Dj.push hk hv q4 f1) (λ _=>.un _)
   have hrun:(Instr.mapUpdate t (ac.eval m) (ac.eval k) (ac.eval v)).run P X.w=.ok () X'.w:=by
    simp only[q1,Instr.mapUpdate,Sem.run_bind,Ay u1,Result.andThen_ok,MapKept.run_getObj_map q3,hck,f2,MapKept.run_setObj_map _ q3,j1]
    simp
   simp only[execOp,hop,Sem.run_bind,hrun,Result.andThen_ok,Sem.run_pure,Oper.upon]
   exact hn _ _ j2
  ·obtain⟨X',j1,j2⟩:=Qv (nb:=nb) (v:=.un) (val:=undef) hR hl q2 q3 (Dj.modify hk hv q4 f1) (λ _=>.un _)
   have hrun:(Instr.mapUpdate t (ac.eval m) (ac.eval k) (ac.eval v)).run P X.w=.ok () X'.w:=by
    have hke:(((es.toArray[0+El K.eqb x l]?).map (·.key)).getD (ac.eval k))=ac.eval k:=by simp[f5,f7]
    simp only[q1,Instr.mapUpdate,Sem.run_bind,Ay u1,Result.andThen_ok,MapKept.run_getObj_map q3,hck,f2,hke,u2.st _ _ hk,MapKept.run_setObj_map _ q3,j1]
    simp
   simp only[execOp,hop,Sem.run_bind,hrun,Result.andThen_ok,Sem.run_pure,Oper.upon]
   exact hn _ _ j2
 ·intro s' ha R' k0
  simp only[Au,hop,hT0]
  rw[ha.ev m (by simp[hop,Op.operands]),ha.ev k (by simp[hop,Op.operands]),ha.ev v (by simp[hop,Op.operands]),hm]
  simp only[ha.wr b (by simp[Bm]),hl,hx,hy,hb0,cond_true]
theorem Ach{c:Cfg}(hC:Bk P c=true){s:St}{o:Oper}{nb:Nat}{cont:Cm R}{r:R}{m k:Operand}(hop:o.op=.mapEntry t m k)(h:Au c s o nb cont=some r):
  Res P c s o nb cont r λ s' k=>Au c s' o nb k:=by
 simp only[Au,hop] at h
 split at h
 case h_2=>cases h
 rename_i K V b hT0 hm
 split at h
 case h_2=>cases h
 rename_i K' V' l hl
 split at h
 case h_2=>cases h
 rename_i x hx
 cases hb:(K.beq K'&&V.beq V')<;>rw[hb] at h<;>simp only[cond_true,cond_false] at h
 ·cases h
 have hb0:=hb
 simp only[zA] at hb
 obtain⟨b1,b2⟩:=hb
 have e1:=Ki.beq_eq b1
 have e2:=Ki.beq_eq b2
 subst e1 e2
 refine⟨_,_,_,h, ?_, ?_,trivial⟩
 ·intro E X ac hs hR hT hF next Q hn
  subst hs
  obtain⟨kt,et,z,u1,u2,u3,u4⟩:=(Ls hC hT0).out
  have hmv:=Bh hT m
  rw[hm] at hmv
  obtain⟨g,es,q1,q2,q3,q4⟩:=Qr hR hl hmv
  have hk:=Qc hx (Bh hT k)
  have hck:∀e w,(Instr.checkKey e 10000 kt (ac.eval k)).run P w=.ok () w:=λ e w=>u2.ck _ _ hk e w
  unfold Oper.wp
  rcases u2.fk hk q4 X.w with⟨f1,f2,f3⟩|⟨f1,v0,f2,f3,f4,e,f5,f6,f7,f8⟩
  ·have hz:De K.eqb x V.zero l=V.zero:=by
    have:∀(l:List (K.den×V.den)),I6 K.eqb x l=false->De K.eqb x V.zero l=V.zero:=by
     intro l
     induction l with
     | nil=>intro _;rfl
     | cons p l ih=>
      obtain⟨a,y⟩:=p
      simp only[I6,De]
      cases K.eqb x a<;>simp
      exact ih
    exact this l f1
   have hlen:=q4.length
   rw[hz] at hn
   obtain⟨X',j1,j2⟩:=Qv (nb:=nb) (v:=.tup [ofD V V.zero,.int .i64 (El K.eqb x l:Int)]) (val:=.tuple #[z,.int .i64 (El K.eqb x l:Int)]) hR hl q2 q3 (Dj.push hk u4 q4 f1) (λ _=>.tup (.cons u4.rel (.cons (.int _ _) .nil)))
   have hrun:(Instr.mapEntry t (ac.eval m) (ac.eval k)).run P X.w=.ok (.tuple #[z,.int .i64 (El K.eqb x l:Int)]) X'.w:=by
    simp only[q1,Instr.mapEntry,Sem.run_bind,Ay u1,Result.andThen_ok,MapKept.run_getObj_map q3,hck,f2,u3,MapKept.run_setObj_map _ q3,j1,Sem.run_pure,f3,<-hlen]
    simp[goInt]
   simp only[execOp,hop,Sem.run_bind,hrun,Result.andThen_ok,Sem.run_pure,Oper.upon]
   exact hn _ _ j2
  ·obtain⟨X',j1,j2⟩:=Qv (nb:=nb) (v:=.tup [ofD V (De K.eqb x V.zero l),.int .i64 (El K.eqb x l:Int)]) (val:=.tuple #[v0,.int .i64 (El K.eqb x l:Int)]) hR hl q2 q3 (Dj.modify hk (f3 V.zero) q4 f1) (λ _=>.tup (.cons (f3 _).rel (.cons (.int _ _) .nil)))
   have hrun:(Instr.mapEntry t (ac.eval m) (ac.eval k)).run P X.w=.ok (.tuple #[v0,.int .i64 (El K.eqb x l:Int)]) X'.w:=by
    have hke:(((es.toArray[0+El K.eqb x l]?).map (·.key)).getD (ac.eval k))=ac.eval k:=by simp[f5,f7]
    have hbo:(((es.toArray[0+El K.eqb x l]?).map (·.born)).getD 0)=El K.eqb x l:=by simp[f5,f8]
    have hmod:(es.modify (El K.eqb x l) λ e=>{e with key:=ac.eval k,val:=v0})=es.modify (El K.eqb x l) λ e=>{e with key:=ac.eval k}:=by
     apply List.ext_getElem?
     intro i
     simp only[List.getElem?_modify]
     by_cases hi:El K.eqb x l=i
     ·subst hi
      simp[f5,f6]
     ·simp[hi]
    simp only[q1,Instr.mapEntry,Sem.run_bind,Ay u1,Result.andThen_ok,MapKept.run_getObj_map q3,hck,f2,hke,hbo,u2.st _ _ hk,MapKept.run_setObj_map _ q3,j1,Sem.run_pure,hmod]
    simp[goInt,f5,f8]
   simp only[execOp,hop,Sem.run_bind,hrun,Result.andThen_ok,Sem.run_pure,Oper.upon]
   exact hn _ _ j2
 ·intro s' ha R' k0
  simp only[Au,hop,hT0]
  rw[ha.ev m (by simp[hop,Op.operands]),ha.ev k (by simp[hop,Op.operands]),hm]
  simp only[ha.wr b (by simp[Bm]),hl,hx,hb0,cond_true]
theorem Wn{c:Cfg}(hC:Bk P c=true){s:St}{o:Oper}{nb:Nat}{cont:Cm R}{r:R}{m i v:Operand}(hop:o.op=.entryStore t m i v)(h:Au c s o nb cont=some r):
  Res P c s o nb cont r λ s' k=>Au c s' o nb k:=by
 simp only[Au,hop] at h
 split at h
 case h_2=>cases h
 rename_i K V b kk n hT0 hm hi
 split at h
 case h_2=>cases h
 rename_i K' V' l hl
 split at h
 case h_2=>cases h
 rename_i y hy
 cases hb:(K.beq K'&&V.beq V')<;>rw[hb] at h<;>simp only[cond_true,cond_false] at h
 ·cases h
 obtain⟨g1,hc⟩:=Ao h
 have hb0:=hb
 simp only[zA] at hb
 obtain⟨b1,b2⟩:=hb
 have e1:=Ki.beq_eq b1
 have e2:=Ki.beq_eq b2
 subst e1 e2
 refine⟨_,_,_,hc, ?_, ?_,trivial⟩
 ·intro E X ac hs hR hT hF next Q hn
  subst hs
  have hmv:=Bh hT m
  rw[hm] at hmv
  obtain⟨g,es,q1,q2,q3,q4⟩:=Qr hR hl hmv
  have hv:=Qc hy (Bh hT v)
  have hiv:=Bh hT i
  rw[hi] at hiv
  generalize hi':ac.eval i=iv at hiv
  cases hiv
  have hlen:=q4.length
  simp only[inB,zA,decide_eq_true_eq] at g1
  have hbo:=Dj.born (i:=n.toNat) q4 (by omega)
  rw[show((0+n.toNat:Nat):Int)=n by omega] at hbo
  obtain⟨X',j1,j2⟩:=Qv (nb:=nb) (v:=.un) (val:=undef) hR hl q2 q3 (Dj.upd (i:=n.toNat) hv q4) (λ _=>.un _)
  unfold Oper.wp
  have hrun:(Instr.entryStore t (ac.eval m) (.int kk n) (ac.eval v)).run P X.w=.ok () X'.w:=by
   simp only[q1,Instr.entryStore,Sem.run_bind,MapKept.run_getObj_map q3,Result.andThen_ok,asInt,asIntOf,Sem.run_pure,List.findIdx?_toArray,hbo,MapKept.run_setObj_map _ q3,j1]
   simp
  simp only[execOp,hop,hi',Sem.run_bind,hrun,Result.andThen_ok,Sem.run_pure,Oper.upon]
  exact hn _ _ j2
 ·intro s' ha R' k0
  simp only[Au,hop,hT0]
  rw[ha.ev m (by simp[hop,Op.operands]),ha.ev i (by simp[hop,Op.operands]),ha.ev v (by simp[hop,Op.operands]),hm,hi]
  simp only[ha.wr b (by simp[Bm]),hl,hy,hb0,cond_true,g1,A3]
theorem Dj.find{K V:Ki}{z:K.den×V.den}:∀{n i:Nat} {l:List (K.den×V.den)} {es:List MapEntry},Dj K V n l es->i<l.length->
  ∃e,es.find? (λ x=>x.born==n+i)=some e/\Ck K (l.getD i z).1 e.key/\Ck V (l.getD i z).2 e.val
 | _,_,[],_,_,h=>by simp at h
 | _,_,_::_,[],h,_=>h.elim
 | n,0,p::l,e::es,⟨h1,h2,h3,_⟩,_=>⟨e,by simp[List.find?_cons,h3],h1,h2⟩
 | n,i+1,p::l,e::es,⟨_,_,h3,h4⟩,h=>by
  obtain⟨e',q1,q2⟩:=Dj.find (z:=z) (i:=i) h4 (by simpa using h)
  refine⟨e', ?_,by simpa using q2⟩
  rw[List.find?_cons]
  have hne:(e.born==n+(i+1))=false:=by rw[h3];simp
  rw[hne,show n+(i+1)=n+1+i by omega]
  exact q1
theorem Ana{c:Cfg}(hC:Bk P c=true){s:St}{o:Oper}{nb:Nat}{cont:Cm R}{r:R}{x:Operand}(hop:o.op=.range t x)(h:Au c s o nb cont=some r):
  Res P c s o nb cont r λ s' k=>Au c s' o nb k:=by
 simp only[Au,hop] at h
 split at h
 case h_2=>cases h
 rename_i KV b hT0 hm
 split at h
 case h_2=>cases h
 rename_i K V l hl
 refine⟨_,_,_,h, ?_, ?_,trivial⟩
 ·intro E X ac hs hR hT hF next Q hn
  subst hs
  obtain⟨K0,V0⟩:=KV
  obtain⟨kt,et,z,u1,u2,u3,u4⟩:=(Ls hC hT0).out
  have hmv:=Bh hT x
  rw[hm] at hmv
  obtain⟨g,es,q1,q2,q3,q4⟩:=Qr hR hl hmv
  have hlen:=q4.length
  have hbn:b≠nb:=by
   intro e
   subst e
   rw[hF b (zC _) (by omega)] at q2
   cases q2
  let w':World:={X.w with heap:=X.w.heap.push (.mapIter (some g) es.length #[] es.length)}
  have hN:Gh E X nb (.iter b l.length (yU l.length) 0) [] (.iter X.w.heap.size) w' (λ _=>False) (C1 X nb (.iter b l.length (yU l.length) 0) [] (.iter X.w.heap.size) w'):=
   ⟨rfl,rfl,rfl,rfl,hF,by simp,rfl,rfl,rfl,by simp[w'],λ g hg _=>by simp[w',Array.getElem?_push,xI hg],λ g hg=>hg.elim⟩
  have hG:=hN.good (v:=.pb nb 0 []) (val:=.pointer (some ⟨X.w.heap.size,0,none⟩)) hR
   (λ _=>.iter (gm:=g) (seen:=[]) (by simp[C1,hbn,q2]) (by show(X.w.heap.push (Obj.mapIter (some g) es.length #[] es.length))[X.w.heap.size]?=_;simp[hlen]) List.nodup_range (by simp) (.inl ⟨rfl,rfl⟩))
   (by simp[CB.fp])
   (λ g hg=>by
    simp only[CB.fp,zL] at hg
    subst hg
    exact⟨by simp[w'],.inl (zC _)⟩)
   (λ _=>by
    have:=VRel.pb (X:=C1 X nb (.iter b l.length (yU l.length) 0) [] (.iter X.w.heap.size) w') (b:=nb) (o:=0) (p:=[]) (cb:=.iter X.w.heap.size) (g:=X.w.heap.size) (og:=0) (by simp[C1]) rfl (by simp[PIn]) (.inl rfl)
    simpa[Bf] using this)
  unfold Oper.wp
  have hrun:(Instr.range t (ac.eval x)).run P X.w=.ok (.pointer (some ⟨X.w.heap.size,0,none⟩)) w':=by
   rw[q1]
   simp only[Instr.range,Sem.run_bind,Ay u1,Result.andThen_ok,MapKept.run_getObj_map q3,Sem.run_pure,run_newObj]
   rfl
  simp only[execOp,hop,Sem.run_bind,hrun,Result.andThen_ok,Sem.run_pure,Oper.upon]
  exact hn _ _ (by simpa[By] using hG)
 ·intro s' ha R' k0
  simp only[Au,hop,hT0]
  rw[ha.ev x (by simp[hop,Op.operands]),hm]
  simp only[ha.rd b (by simp),hl]
theorem Ae5{c:Cfg}{s:St}{o:Oper}{nb:Nat}{cont:Cm R}{r:R}{x:Operand}(hop:o.op=.entry x)(h:Au c s o nb cont=some r):
  Res P c s o nb cont r λ s' k=>Au c s' o nb k:=by
 simp only[Au,hop] at h
 split at h
 case h_2=>cases h
 rename_i b hx
 split at h
 case h_2=>cases h
 rename_i m n ord last hl
 split at h
 case h_2=>cases h
 rename_i K V l hlm
 obtain⟨g1,hc⟩:=Ao h
 have g0:=g1
 simp only[zA] at g1
 obtain⟨⟨g1,g2⟩,g3⟩:=g1
 have g1:=beq_true.1 g1
 have g2:=zW g2
 have g3:=zW g3
 refine⟨_,[],_,hc,B5 ?_, ?_,trivial⟩
 ·intro E X ac hs hR hT
  subst hs
  have hv:=Bh hT x
  rw[hx] at hv
  generalize hv':ac.eval x=v at hv
  obtain⟨cb,k1,k2,_⟩:=hR.blk b _ hl
  obtain⟨cb',j1,j2,_⟩:=hR.blk m _ hlm
  cases k2 with
  | @iter g gm _ _ _ _ seen i1 i2 i3 i4 i5=>
   cases j2 with
   | @map gm' _ _ _ es m1 m2=>
    rw[i1] at j1
    cases j1
    rcases i5 with⟨e,_⟩|⟨s0,j,e1,e2⟩
    ·omega
    have hlen:=m2.length
    obtain⟨e,f1,f2,f3⟩:=Dj.find (z:=(K.zero,V.zero)) (i:=j) m2 (by omega)
    rw[yI] at f1
    cases hv with
    | pb hcm hbase hpin hnr=>
     rw[k1] at hcm
     cases hcm
     simp only[CB.base,z8,z9] at hbase
     obtain⟨rfl,rfl⟩:=hbase
     refine⟨.tuple #[e.key,e.val], ?_, ?_⟩
     ·have hgi:(getObj g).run P X.w=.ok (.mapIter (some gm) n seen.toArray n) X.w:=by simp[getObj,Sem.run,i2]
      have hback:seen.toArray.back?=some j:=by rw[e1];simp
      have hfind:(es.toArray.find? λ x=>x.born==j)=some e:=by simpa using f1
      simp only[execOp,hop,hv',Bf,yB,Instr.entry,Sem.run_bind,hgi,Result.andThen_ok,hback,MapKept.run_getObj_map m1]
      rw[if_neg (by simp;omega)]
      simp[hfind]
     ·rw[e2,Nat.add_sub_cancel]
      exact .tup (.cons f2.rel (.cons f3.rel .nil))
 ·intro s' ha R' k0
  simp only[Au,hop]
  rw[ha.ev x (by simp[hop,Op.operands]),hx]
  simp only[ha.rd b (by simp),hl,ha.rd m (by simp),hlm,g0,A3]
end Go.Ev
namespace Go.Ev
variable{R:Type}{E:Env}{X:Cx}{P:Program}{t:Nat}{ti:TyI}{w:World}
theorem O9(cur:List Value)(o m k:Nat)(nc:List Value)(h:k+nc.length<=m)(h2:o+m<=cur.length):seg (Bl cur (o+k) nc) o m=Bl (seg cur o m) k nc:=by
 apply List.ext_getElem?
 intro i
 simp only[seg,Bl,List.getElem?_take,List.getElem?_drop,List.getElem?_append,zG,zX,List.length_drop]
 have e1:min (o+k) cur.length=o+k:=zV (by omega)
 have e2:min k (min m (cur.length-o))=k:=zV (by omega)
 rw[e1,e2]
 by_cases h1:i<m
 ·rw[if_pos h1]
  by_cases h3:i<k
  ·rw[if_pos (show o+i<o+k+nc.length by omega),if_pos (show o+i<o+k by omega),if_pos (show o+i<o+k by omega),if_pos (show i<k+nc.length by omega),if_pos h3,if_pos h3,if_pos h1]
  ·by_cases h4:i<k+nc.length
   ·rw[if_pos (show o+i<o+k+nc.length by omega),if_neg (show¬o+i<o+k by omega),if_pos h4,if_neg h3]
    congr 1
    omega
   ·rw[if_neg (show¬o+i<o+k+nc.length by omega),if_neg h4,if_pos (by omega)]
    congr 1
    omega
 ·rw[if_neg h1]
  rw[if_neg (show¬i<k+nc.length by omega),if_neg (by omega)]
theorem Ae7{f1 f2 f3 nf:List Nat}(h:(f1++f2++f3).Nodup)(hn:nf.Nodup)(hd:∀x∈nf,x∉f1++f2++f3):(f1++nf++f3).Nodup:=by
 rw[zB] at h
 obtain⟨h12,h3,h13⟩:=h
 rw[zB] at h12
 rw[zB]
 refine⟨?_,h3, ?_⟩
 ·rw[zB]
  refine⟨h12.1,hn, ?_⟩
  intro x hx y hy e
  subst e
  exact hd x hy (by simp[hx])
 ·intro x hx y hy e
  subst e
  rcases List.mem_append.1 hx with hx|hx
  ·exact h13 x (by simp[hx]) x hy rfl
  ·exact hd x hx (by simp[hy])
theorem Ajc(R:Rel E X){b:Nat}{v v':Nat}{K:Ki}{l l':List K.den}{ks:List Nat}{g og c:Nat}{fps:List Nat}{cur:List Value}(hl:look b X.s.st=some (.cell false v [.rw K l]))(hc:X.cm b=some (.row (some ⟨g,og,none⟩) l.length c K.size (g::fps)))(hcur:F8 X.w g cur)
  (hlc:l.length<=c) (hcs:og+c*K.size<=cur.length) (hll:l'.length=l.length)
  (hvv:v<=v') (hve:v=v'->K.nest=false) (hbk:b∉ks) {o n:Nat} {nc:List Value} {nf f1 f2 f3:List Nat} {c1 c2 c3:List Value} (hks:C0 X ks nf)
  (e1:seg cur og (l.length*K.size)=c1++c2++c3) (e2:fps=f1++f2++f3) (e3:c1.length=o) (e4:c2.length=n) (e5:A0 X.w (X.S none) K l' (c1++nc++c3) (f1++nf++f3)) (hnc:nc.length=n):
  ∃X',X'.w=B9 X.w g (Bl cur (og+o) nc)/\og+o+n<=cur.length/\∀nb val,Good E X nb .un ((b,some (.cell false v' [.rw K l']))::By ks) val X':=by
 have hm:=zD K.size hlc
 have hlen:=congrArg zF e1
 rw[Cv (by omega)] at hlen
 simp only[zG,e3,e4] at hlen
 have hle:og+o+n<=cur.length:=by omega
 have hsp:seg (Bl cur (og+o) nc) og (l.length*K.size)=c1++nc++c3:=by
  rw[O9 _ _ _ _ _ (by omega) (by omega),e1,<-e3,Is _ _ _ _ (by omega)]
 have hS:Hv E X b (.cell false v [.rw K l]) (.cell false v' [.rw K l']) ks (.row (some ⟨g,og,none⟩) l.length c K.size (g::fps)) (.row (some ⟨g,og,none⟩) l.length c K.size (g::(f1++nf++f3))) (B9 X.w g (Bl cur (og+o) nc)) (λ k=>k=g)
   (Aac X b (.cell false v' [.rw K l']) ks (.row (some ⟨g,og,none⟩) l.length c K.size (g::(f1++nf++f3))) (B9 X.w g (Bl cur (og+o) nc))):=by
  refine⟨rfl,rfl,rfl,rfl,hl,hc,⟨rfl,rfl,rfl,rfl⟩, ?_,hbk,rfl,rfl,rfl,by rw[D6];exact zC _,λ k hk hT=>Do _ _ _ _ hT,λ k hk=>by simp[CB.fp,hk]⟩
  intro ro'' v'' ps'' e
  cases e
  refine⟨false,v,_,rfl,hvv,λ hv=> ?_⟩
  rintro⟨K2,l2,e,hn⟩
  cases e
  rw[hve hv] at hn
  cases hn
 obtain⟨cb',k1,k2,k3,k4⟩:=R.blk b _ hl
 rw[hc] at k1
 cases k1
 have hdis:∀x∈nf,x∉g::fps:=by
  intro x hx hx'
  obtain⟨b2,x2,cb2,q1,q2,q3,q4⟩:=hks.mem x hx
  have:=R.dis b b2 _ x2 _ cb2 x hl q2 hc q3 hx' q4
  exact hbk (this▸q1)
 simp only[CB.fp,zH] at k3
 have hnd:(f1++nf++f3).Nodup:=Ae7 (e2▸k3.2) hks.nodup λ x hx hx'=>hdis x hx (by rw[e2];exact zR _ hx')
 have hg:g∉f1++nf++f3:=by
  have h1:=k3.1
  rw[e2] at h1
  simp only[zO,not_or] at h1⊢
  exact⟨⟨h1.1.1,λ hx=>hdis g hx (by simp)⟩,h1.2⟩
 refine⟨_,rfl,hle,λ nb val=>hS.good R ?_ ?_ ?_ (λ _=>.un _)⟩
 ·intro hx
  refine .row hll.symm rfl ?_
  rw[hll]
  refine⟨_,_,rfl,.inr ⟨g,og,Bl cur (og+o) nc,f1++nf++f3,rfl, ?_,hlc, ?_,rfl, ?_⟩⟩
  ·exact Gr hcur (Bl cur (og+o) nc) (Da _ _ _ (by omega))
  ·rw[Da _ _ _ (by omega)];exact hcs
  ·rw[hsp]
   exact e5.move (hx.sts none) λ k hk=>Do _ _ _ _ λ e=>hg (e▸hk)
 ·simp only[CB.fp,zH]
  exact⟨hg,hnd⟩
 ·intro k hk
  rw[D6]
  have hin:k∈g::fps\/k∈nf:=by
   simp only[CB.fp,zI,zO] at hk
   rw[e2]
   simp only[zI,zO]
   rcases hk with hk|(hk|hk)|hk
   ·exact .inl (.inl hk)
   ·exact .inl (.inr (.inl (.inl hk)))
   ·exact .inr hk
   ·exact .inl (.inr (.inr hk))
  rcases hin with hin|hin
  ·exact⟨(k4 k hin).1,.inr ⟨b,_,_,.inl rfl,hl,hc,hin⟩⟩
  ·obtain⟨b2,x2,cb2,q1,q2,q3,q4⟩:=hks.mem k hin
   obtain⟨cb3,j1,_,_,j4⟩:=R.blk b2 x2 q2
   rw[q3] at j1
   cases j1
   exact⟨(j4 k q4).1,.inr ⟨b2,x2,cb2,.inr q1,q2,q3,q4⟩⟩
end Go.Ev
namespace Go.Ev
variable{R:Type}{E:Env}{X:Cx}{P:Program}{t:Nat}{ti:TyI}{w:World}
theorem Ag0(R:Rel E X){b:Nat}{ro:Bool}{v:Nat}{K:Ki}{l:List K.den}{A:Option Addr}{n c sz:Nat}{fp:List Nat}(hl:look b X.s.st=some (.cell ro v [.rw K l]))(hc:X.cm b=some (.row A n c sz fp))(hpos:0<l.length):
  n=l.length/\sz=K.size/\∃g og cur fps,A=some ⟨g,og,none⟩/\F8 X.w g cur/\l.length<=c/\og+c*K.size<=cur.length/\fp=g::fps/\A0 X.w (X.S none) K l (seg cur og (l.length*K.size)) fps:=by
 obtain⟨A',cc,fp',u1,u2,u3,u4⟩:=Ch R hl
 rw[u1] at hc
 cases hc
 obtain⟨A2,c2,e,h⟩:=u2
 cases e
 rcases h with⟨z,_⟩|⟨g,o,cur,fps,h1,h2,h3,h4,h5,h6⟩
 ·omega
 ·exact⟨rfl,rfl,g,o,cur,fps,h1,h2,h3,h4,h5,h6⟩
theorem Afk{w:World}{Z:Nat->Prop}{K:Ki}{l:List K.den}{cs:List Value}{fp:List Nat}{i:Nat}(hi:i<l.length)(hr:A0 w Z K l cs fp)(hnd:fp.Nodup):
  ∃c1 c2 c3 f1 f2 f3,cs=c1++c2++c3/\fp=f1++f2++f3/\c1.length=i*K.size/\Rep w Z Z K true l[i] c2 f2/\
   (∀(w':World) (g:Nat),(∀g,Z g->Z g/\w'.heap[g]?=w.heap[g]?)->(∀k,k≠g->w'.heap[k]?=w.heap[k]?)->g∈f2->∀d,Rep w' Z Z K true d c2 f2->A0 w' Z K (l.set i d) cs fp):=by
 obtain⟨f1,f4,e1,r1,r2⟩:=E0 (λ x c f hx=>B0 hx) i hr
 rw[zU hi] at r2
 obtain⟨c2,c3,f2,f3,e2,e3,r3,r4⟩:=r2
 have hcl:cs.length=l.length*K.size:=Iu (λ x c f hx=>B0 hx) hr
 have hm:i*K.size<=l.length*K.size:=zD _ (by omega)
 refine⟨cs.take (i*K.size),c2,c3,f1,f2,f3, ?_,by rw[e1,e3,zN],by rw[zX];omega,r3, ?_⟩
 ·rw[zN,<-e2,zY]
 ·intro w' g hZ hw hg d hd
  rw[e1,e3] at hnd⊢
  rw[zB] at hnd
  obtain⟨_,n2,n3⟩:=hnd
  rw[zB] at n2
  have g1:g∉f1:=λ h=>n3 g h g (by simp[hg]) rfl
  have g3:g∉f3:=λ h=>n2.2.2 g hg g h rfl
  have m1:A0 w' Z K (l.take i) (cs.take (i*K.size)) f1:=A0.move r1 hZ λ k hk=>hw k λ e=>g1 (e▸hk)
  have m3:A0 w' Z K (l.drop (i+1)) c3 f3:=A0.move r4 hZ λ k hk=>hw k λ e=>g3 (e▸hk)
  have e:l.set i d=l.take i++d::l.drop (i+1):=List.set_eq_take_append_cons_drop.trans (if_pos hi)
  rw[e]
  have hcs:cs=cs.take (i*K.size)++(c2++c3):=by rw[<-e2,zY]
  have:=Jb m1 (show Cw (Rep w' Z Z K true) (d::l.drop (i+1)) (c2++c3) (f2++f3) from⟨c2,c3,f2,f3,rfl,rfl,hd,m3⟩)
  rwa[<-hcs] at this
theorem Afw(R:Rel E X){n b v0 i f:Nat}{K:Ki}{l:List K.den}{p:Hh}{v:AV}{av vv:Value}{u:Upd}(hv:VRel X (.pn b v0 i f K l p) av)(hvv:VRel X v vv)(h:storeAt X.s n (.pn b v0 i f K l p) v=some u):Ad8 E X n av vv u:=by
 unfold storeAt at h
 simp only at h
 cases hb:(zK (Ky (B4 v)) n&&Cz v)<;>rw[hb] at h<;>simp only[cond_true,cond_false] at h
 ·cases h
 simp only[zA] at hb
 obtain⟨p1,p2,p3⟩:=G4 hvv hb.2
 have hlen:vv.cells.toList.length=n:=by rw[Mk p1 p2];exact zE hb.1
 cases hval:(valid X.s (.ver b v0)&& !K.nest)<;>rw[hval] at h<;>simp only[cond_true,cond_false] at h
 ·cases h
 simp only[zA,zT] at hval
 obtain⟨hval,hnest⟩:=hval
 split at h
 case h_2=>cases h
 rename_i ver K0 l0 ps' hl hg
 split at h
 case h_2=>cases h
 rename_i K1 l' hns
 split at h
 case h_2=>cases h
 rename_i l2 hcast
 obtain⟨eK,el⟩:=Ix hcast
 subst K1
 subst el
 simp only at h
 split at h
 case h_2=>cases h
 rename_i qs hset
 split at h
 case h_2=>cases h
 rename_i d hof
 cases h
 obtain⟨nf,g1,g2,g3,_⟩:=Ig R p1 p2 hg (by simp)
 have hnf:nf=[]:=by
  cases nf with
  | nil=>rfl
  | cons k _=>
   obtain⟨b',_,_,h,_⟩:=g3.mem k (by simp)
   simp at h
 subst hnf
 cases hv with
 | @pn _ _ _ _ _ _ _ g og hp hpin hk hat=>
  obtain⟨n0,c0,hat⟩:=hat hval
  obtain⟨gA,oA,nA,cA,szA,fpA,KA,lA,verA,roA,a1,a2,a3,a4,a5,a6⟩:=hat
  rw[hl] at a2
  cases a2
  obtain⟨e1,e2,gA',oA',curA,fpsA,e3,e4,e5,e6,e7,e8⟩:=Ag0 R hl a1 (by omega)
  cases e3
  subst e1 e2 e7
  obtain⟨cb',k1,k2,k3,k4⟩:=R.blk b _ hl
  rw[a1] at k1
  cases k1
  simp only[CB.fp,zH] at k3
  have hcell:∀{c1 c2 c3:List Value} {ca cr:List Value} {y:Value},seg curA oA (l0.length*K0.size)=c1++c2++c3->c1.length=i*K0.size->c2=ca++y::cr->ca.length=f->y=.slice (some ⟨g,og,none⟩) n0 c0:=by
   intro c1 c2 c3 ca cr y h1 h2 h3 h4
   obtain⟨ty,fr,hh,_⟩:=e4
   have hcl:=congrArg zF h1
   have hm:=zD K0.size e5
   rw[Cv (by omega)] at hcl
   rw[h3] at hcl h1
   simp only[zG,yY,h2,h4] at hcl
   have:curA[oA+(i*K0.size+f)]?=some y:=by
    have e:(seg curA oA (l0.length*K0.size))[i*K0.size+f]?=some y:=by
     rw[h1,zN,List.getElem?_append_right (by omega),h2,show i*K0.size+f-i*K0.size=f by omega,zN,List.getElem?_append_right (by omega),h4,Nat.sub_self]
     rfl
    rw[<-e]
    simp only[seg,List.getElem?_take,List.getElem?_drop]
    rw[if_pos (by omega)]
   have h6:=a6
   simp only[World.cell?,hh] at h6
   simp at h6
   rw[this] at h6
   exact xC h6
  simp only[nav,Aw,show zK 0 0=true from rfl,cond_true,show zK K0.size K0.size=true from Nat.beq_refl _] at a4
  obtain⟨q1,r0,r,s1,s2,s3,s4⟩:=Hf f 1 _ hset
  rw[s1] at a4
  simp only at a4
  obtain⟨r',hr0⟩:∃r',r0=.nl K l::r':=by
   cases r0 with
   | nil=>
    simp only[Bo,show zK 1 0=false from rfl,cond_false] at a4
    cases a4
   | cons y r'=>
    simp only[Bo,show zK 1 0=false from rfl,cond_false] at a4
    cases hsz:Nat.ble y.size 1<;>rw[hsz] at a4<;>simp only[cond_true,cond_false] at a4
    ·cases a4
    cases ht:Bo (1-y.size) r' with
    | none=>rw[ht] at a4;cases a4
    | some z=>
     rw[ht] at a4
     simp only[z8,List.cons.injEq] at a4
     exact⟨r',by rw[a4.1]⟩
  subst hr0
  have hr':r=r':=by
   have:=Jr (a:=AV.nl K l) (r:=r') (zC 1)
   rw[show(AV.nl K l).size=1 from rfl,s4] at this
   exact xC this
  subst hr'
  obtain⟨sz',N,j,f',p',ep,h1,h2⟩:=Pi hpin (by simpa using hp)
  simp only[yG] at h1
  rw[ep] at hns
  obtain⟨c1,c2,c3,f1,f2,f3,m1,m2,m3,m4,m5⟩:=Afk a3 e8 k3.2
  have hP:=Dw m4
  rw[Ki.get_eq a3] at s1 s2 hset
  obtain⟨q1',ca,cr,fa,fr,t1,t2,t3,t4,t5,t6⟩:=K6.drop f hP (Ec _ _) s1
  have hq:q1'=q1:=List.append_cancel_right (t1.symm.trans s2)
  subst hq
  cases t6 with
  | one z1=>simp[AV.plain] at z1
  | @nl _ _ y _ cr' fi _ z1 z3=>
   have hy:=hcell m1 m3 t2 t4
   subst hy
   obtain⟨A',c',u1,u2⟩:=z1
   cases u1
   rcases u2 with⟨z,_⟩|⟨g',o',cur,fps,v1,v2,v3,v4,v5,v6⟩
   ·omega
   cases v1
   have hfps:fps=[]:=Mn (R:=Rep X.w (X.S none) (X.S none) K true) (λ x c f hx=>Ed (.inr hnest) hx) v6
   subst hfps
   subst v5
   obtain⟨hsz,l3,d1,d2,d3,b1,b2,b3,w1,w2,w3,w4,w5,w6,w7⟩:=Vs (X:=X) v6 h1 g1 g2 h2 hns
   cases w1
   have hb:b1=[]/\b2=[]/\b3=[]:=by simpa using w4.symm
   obtain⟨rfl,rfl,rfl⟩:=hb
   simp only[yK] at w7
   have hmm:=zD K.size v3
   have hdl:=congrArg zF w3
   rw[Cv (by omega)] at hdl
   simp only[zG] at hdl
   let nc:=vv.cells.toList
   have hncl:nc.length=d2.length:=by rw[w6];exact hlen
   let w':=B9 X.w g (Bl cur (og+d1.length) nc)
   have hoth:∀k,k≠g->w'.heap[k]?=X.w.heap[k]?:=λ k hk=>Do _ _ _ _ hk
   have hgf2:g∈f2:=by rw[t3];simp
   have hgA:gA≠g:=by
    intro e
    subst e
    exact k3.1 (by rw[m2];simp[hgf2])
   let X':=Aac X b (.cell false (ver+1) [.rw K0 (l0.set i d)]) [] (.row (some ⟨gA,oA,none⟩) l0.length cA K0.size (gA::fpsA)) w'
   have hS:Hv E X b (.cell false ver [.rw K0 l0]) (.cell false (ver+1) [.rw K0 (l0.set i d)]) [] (.row (some ⟨gA,oA,none⟩) l0.length cA K0.size (gA::fpsA)) (.row (some ⟨gA,oA,none⟩) l0.length cA K0.size (gA::fpsA)) w' (λ k=>k=g) X':=by
    refine⟨rfl,rfl,rfl,rfl,hl,a1,⟨rfl,rfl,rfl,rfl⟩, ?_,(by simp),rfl,rfl,rfl,(by rw[D6];exact zC _),(λ k hk hT=>hoth k hT),(λ k hk=> ?_)⟩
    ·intro ro' v' ps' e
     cases e
     exact⟨false,ver,_,rfl,by omega,λ hv=>by omega⟩
    ·subst hk
     simp only[CB.fp,zI]
     right
     rw[m2]
     simp[hgf2]
   have hx:=(hS.mv R).ext R
   have nd2:f2.Nodup:=by
    have:=k3.2
    rw[m2,zB] at this
    have:=this.1
    rw[zB] at this
    exact this.2.1
   rw[t3] at nd2
   rw[zB] at nd2
   obtain⟨_,nd3,nd4⟩:=nd2
   simp only[List.singleton_append,zH] at nd3
   have hsp:seg (Bl cur (og+d1.length) nc) og (l.length*K.size)=d1++nc++d3:=by
    rw[O9 _ _ _ _ _ (by omega) (by omega),w3,Is _ _ _ _ hncl.symm]
   have hnl:Gf w' K.size l'.length (A0 w' (X.S none) K l') (.slice (some ⟨g,og,none⟩) l.length c0) [g]:=by
    refine⟨_,_,by rw[w2],.inr ⟨g,og,Bl cur (og+d1.length) nc,[],rfl, ?_,by omega, ?_,rfl, ?_⟩⟩
    ·exact Gr v2 _ (Da _ _ _ (by omega))
    ·rw[Da _ _ _ (by omega)];exact v4
    ·rw[w2,hsp]
     exact A0.move w7 (hx.sts none) λ k hk=>by simp at hk
   have hQ:PRs X' qs c2 f2:=by
    rw[s3,t2,t3,zN]
    refine Ci (t5.ext hx λ k hk=>hoth k λ e=>nd4 k hk g (by simp) e) ?_
    exact .nl hnl (z3.ext hx λ k hk=>hoth k λ e=>nd3.1 (e▸hk))
   have hRep:=Ft hQ hof
   have hrow:=m5 w' g (hx.sts none) hoth hgf2 d hRep
   have hoff:Bf p=d1.length:=by rw[w5,<-C3,ep];simp only[Bf,hsz]
   refine⟨g,og+Bf p,cur,X',rfl,v2,by rw[hoff];omega,hlen,p3,by rw[hoff];rfl,λ nb val=> ?_⟩
   have hfin:=hS.good R (nb:=nb) (v:=.un) (val:=val) (λ _=>.row (by simp) rfl (by
    rw[yZ]
    exact⟨_,_,rfl,.inr ⟨gA,oA,curA,fpsA,rfl,e4.same (hoth gA hgA),e5,e6,rfl,hrow⟩⟩)) (by simp only[CB.fp,zH];exact k3) (λ k hk=>⟨by
     have:=(k4 k hk).1
     show k<w'.heap.size
     rw[D6]
     exact this,.inr ⟨b,_,_,.inl rfl,hl,a1,hk⟩⟩) (λ _=>.un _)
   simpa[By] using hfin
end Go.Ev
namespace Go.Ev
variable{R:Type}{E:Env}{X:Cx}{P:Program}{t:Nat}{ti:TyI}{w:World}
theorem Afv(R:Rel E X){n b o:Nat}{p:Hh}{v:AV}{av vv:Value}{u:Upd}(hv:VRel X (.pb b o p) av)(hvv:VRel X v vv)(h:storeAt X.s n (.pb b o p) v=some u):Ad8 E X n av vv u:=by
 unfold storeAt at h
 simp only at h
 cases hb:(zK (Ky (B4 v)) n&&Cz v)<;>rw[hb] at h<;>simp only[cond_true,cond_false] at h
 ·cases h
 simp only[zA] at hb
 obtain⟨p1,p2,p3⟩:=G4 hvv hb.2
 have hlen:vv.cells.toList.length=n:=by rw[Mk p1 p2];exact zE hb.1
 cases hv with
 | @pb _ _ _ cb g og hc hbase hpin hnr=>
  cases p with
  | nil=>
   simp only at h
   split at h
   case h_2=>cases h
   rename_i ver qs hl
   split at h
   case h_2=>cases h
   rename_i qs' hrk hns
   cases h
   obtain⟨cb',k1,k2,k3,k4⟩:=R.blk b _ hl
   rw[hc] at k1
   cases k1
   cases k2 with
   | row=>simp[CB.rowN] at hnr
   | box j1 j2 j3=>
    simp only[CB.base,z8,z9] at hbase
    obtain⟨rfl,rfl⟩:=hbase
    have hW:=Mz (X:=X) [] o j3 j1 p1 p2 (by simp[PIn]) hns
    obtain⟨X',q1,q2,q3⟩:=Yq R hl hc j2 (zC ver) (ks:=[]) (by simp) (by simp) .nil hW hlen
    simp only[Bf,yB] at q1 q2
    refine⟨_,0+(o+Bf []),_,X',rfl,j2,by simp[Bf];omega,hlen,p3,by rw[q1];simp[Bf],λ nb val=>by simpa[By] using q3 nb val⟩
  | cons y p=>
   simp only at h
   split at h
   case h_2=>cases h
   rename_i ver qs hl
   split at h
   case h_2=>cases h
   rename_i ps' ks hg
   cases hnd:F4 (b::ks)<;>rw[hnd] at h<;>simp only[cond_true,cond_false] at h
   ·cases h
   have hnd':=List.nodup_cons.1 (Du.1 hnd)
   split at h
   case h_2=>cases h
   rename_i qs' hns
   simp only[z8] at h
   subst h
   obtain⟨nf,g1,g2,g3,g4⟩:=Ig R p1 p2 hg hnd'.2
   obtain⟨cb',k1,k2,k3,k4⟩:=R.blk b _ hl
   rw[hc] at k1
   cases k1
   cases k2 with
   | box j1 j2 j3=>
    simp only[CB.base,z8,z9] at hbase
    obtain⟨rfl,rfl⟩:=hbase
    have hrk:Tq qs=none:=by
     unfold Tq
     split
     ·exact(Yj j1 _ _ rfl).elim
     ·rfl
    have hW:=Mz (X:=X) _ o j3 j1 g1 g2 hpin hns
    rw[C3] at hW
    obtain⟨X',q1,q2,q3⟩:=Yq R hl hc j2 (zC ver) hnd'.1 g4 g3 hW hlen
    refine⟨_,0+(o+Bf (y::p)),_,X',rfl,j2,by omega,hlen,p3,by rw[q1,yI],λ nb val=> ?_⟩
    rw[hrk]
    exact q3 nb val
   | @row A m c sz fp _ _ K l j1 j2 j3=>
    obtain⟨sz',N,i,f,p',e,h1,h2⟩:=Pi hpin (by simp)
    simp only[CB.rowN,yG] at h1
    obtain⟨e1,e2,g',og',cur,fps,e3,e4,e5,e6,e7,e8⟩:=Ag0 R hl hc (by omega)
    subst e3 e1 e2
    simp only[CB.base,Aa3,z8,z9] at hbase
    obtain⟨rfl,rfl⟩:=hbase
    subst e7
    rw[e] at hns
    have ho:o=0:=by
     by_cases ho:o=0
     ·exact ho
     ·exfalso
      simp only[H1,Aw,Bd.2 ho,cond_false] at hns
      cases hb1:Nat.ble (AV.rw K l).size o<;>rw[hb1] at hns<;>simp only[cond_true,cond_false] at hns
      ·cases hns
      ·cases hb2:zK (o-(AV.rw K l).size) 0<;>rw[hb2] at hns<;>simp only[cond_true,cond_false] at hns<;>cases hns
    subst ho
    obtain⟨hsz,l',c1,c2,c3,f1,f2,f3,z1,z2,z3,z4,z5,z6,z7⟩:=Vs (X:=X) e8 h1 g1 g2 h2 hns
    subst z1
    have hoff:Bf (y::p)=i*K.size+f+Bf p':=by rw[<-C3,e];simp only[Bf,hsz]
    obtain⟨X',q1,q2,q3⟩:=Ajc R (v':=bif K.nest then ver+1 else ver) hl hc e4 e5 e6 z2 (by cases K.nest<;>simp) (by cases K.nest<;>simp) hnd'.1 g3 z3 z4 z5 z6 z7 hlen
    refine⟨_,og'+(0+Bf (y::p)),_,X',rfl,e4,by omega,hlen,p3,by rw[q1,hoff,yI],λ nb val=> ?_⟩
    exact q3 nb val
theorem Afu(R:Rel E X){n:Nat}{a v:AV}{av vv:Value}{u:Upd}(hv:VRel X a av)(hvv:VRel X v vv)(h:storeAt X.s n a v=some u):Ad8 E X n av vv u:=by
 cases a with
 | pb b o p=>exact Afv R hv hvv h
 | pn b v0 i f K l p=>exact Afw R hv hvv h
 | _=>
  exfalso
  unfold storeAt at h
  simp only at h
  cases hb:(zK (Ky (B4 v)) n&&Cz v)<;>rw[hb] at h<;>simp only[cond_true,cond_false] at h<;>cases h
theorem Ct{s s':St}:∀{ps qs:List AV} {ks:List Nat},Cp s ps=some (qs,ks)->(∀b∈ks,look b s'.st=look b s.st)->Cp s' ps=some (qs,ks)
 | [],_,_,h,_=>h
 | p::ps,qs,ks,h,hs=>by
  simp only[Cp] at h⊢
  cases hg:Cp s ps with
  | none=>rw[hg] at h;cases h
  | some z=>
   obtain⟨qs',ks'⟩:=z
   rw[hg] at h
   simp only at h
   cases p with
   | sl b=>
    simp only at h
    split at h
    case h_2=>cases h
    rename_i K l hrow
    simp only[z8,z9] at h
    obtain⟨rfl,rfl⟩:=h
    rw[Ct hg λ b hb=>hs b (by simp[hb])]
    simp only
    rw[Cf (hs b (by simp)),hrow]
   | ss b o m=>
    simp only at h
    split at h
    case h_2=>cases h
    rename_i K l hrow
    simp only[z8,z9] at h
    obtain⟨rfl,rfl⟩:=h
    rw[Ct hg λ b hb=>hs b (by simp[hb])]
    simp only
    rw[Cf (hs b (by simp)),hrow]
   | ro q K l=>
    cases q<;>simp only at h<;>first
     | (cases h;done)
     | (cases h;rw[Ct hg hs])
   | _=>first
     | (simp only at h;cases h;done)
     | (simp only at h;cases h;rw[Ct hg hs])
end Go.Ev
namespace Go.Ev
variable{R:Type}{E:Env}{X:Cx}{P:Program}{t:Nat}{ti:TyI}{w:World}
theorem Aaa(hT:Df P t ti){v:Value}{g o:Nat}{cur:List Value}(hc:F8 w g cur)(hle:o+ti.sz<=cur.length)(hn:v.cells.toList.length=ti.sz)(h1:∀c∈v.cells.toList,c.oneCell'=true):
  (storeVar t ⟨g,o,none⟩ v).run P w=.ok () (B9 w g (Bl cur o v.cells.toList)):=by
 have hs:¬(v.cells.size≠ti.sz):=by simp at hn;simp[hn]
 unfold storeVar
 simp only[Sem.run_bind,hT.size,Result.andThen_ok,Sem.run_ite,if_neg hs,Sem.run_pure]
 exact L9 o _ cur w hc (by omega) h1
theorem Ac7{s:St}{n:Nat}{a v:AV}{u:Upd}(h:storeAt s n a v=some u):(∃b o p,a=.pb b o p/\∃x ks,u=(b,x)::By ks/\(p=[]->ks=[])/\(p≠[]->∃ps,Cp s (B4 v)=some (ps,ks)))\/(∃b v0 i f K l p,a=.pn b v0 i f K l p/\∃x,u=[(b,x)]/\∃ps,Cp s (B4 v)=some (ps,[])):=by
 unfold storeAt at h
 simp only at h
 cases hb:(zK (Ky (B4 v)) n&&Cz v)<;>rw[hb] at h<;>simp only[cond_true,cond_false] at h
 ·cases h
 split at h
 ·rename_i b o
  split at h
  case h_2=>cases h
  split at h
  case h_2=>cases h
  cases h
  exact .inl ⟨b,o,[],rfl,_,[],rfl,λ _=>rfl,λ h=>(h rfl).elim⟩
 ·rename_i b o p hne
  split at h
  case h_2=>cases h
  split at h
  case h_2=>cases h
  rename_i ps' ks hg
  cases hnd:F4 (b::ks)<;>rw[hnd] at h<;>simp only[cond_true,cond_false] at h
  ·cases h
  split at h
  case h_2=>cases h
  cases h
  exact .inl ⟨b,o,p,rfl,_,ks,rfl,λ e=>(hne e).elim,λ _=>⟨ps',hg⟩⟩
 ·rename_i b v0 i f K l p
  cases hv:(valid s (.ver b v0)&& !K.nest)<;>rw[hv] at h<;>simp only[cond_true,cond_false] at h
  ·cases h
  split at h
  case h_2=>cases h
  rename_i hl hg
  split at h
  case h_2=>cases h
  split at h
  case h_2=>cases h
  split at h
  case h_2=>cases h
  split at h
  case h_2=>cases h
  cases h
  exact .inr ⟨b,v0,i,f,K,l,p,rfl,_,rfl,_,hg⟩
 ·cases h
theorem Ac8{s s':St}{n:Nat}{a v:AV}{u:Upd}(h:storeAt s n a v=some u)(hs:∀b∈Bm u,look b s'.st=look b s.st):storeAt s' n a v=some u:=by
 rcases Ac7 h with⟨b,o,p,rfl,x,ks,hu,hk0,hk⟩|⟨b,v0,i,f,K,l,p,rfl,x,hu,ps,hg⟩
 ·have hb:look b s'.st=look b s.st:=hs b (by rw[hu];simp[Bm])
  cases p with
  | nil=>rw[<-h];unfold storeAt;simp only[hb]
  | cons y p=>
   obtain⟨ps,hg⟩:=hk (by simp)
   have hg':=Ct hg λ k hk=>hs k (by rw[hu];simp[Bm,By];exact .inr hk)
   rw[<-h]
   unfold storeAt
   simp only[hb,hg,hg']
 ·have hb:look b s'.st=look b s.st:=hs b (by rw[hu];simp[Bm])
  have hg':=Ct (s':=s') hg (by simp)
  have hv:valid s' (.ver b v0)=valid s (.ver b v0):=by simp only[valid,hb]
  rw[<-h]
  unfold storeAt
  simp only[hb,hg,hg',hv]
theorem An1{c:Cfg}(hC:Bk P c=true){s:St}{o:Oper}{nb:Nat}{cont:Cm R}{r:R}{a v:Operand}(hop:o.op=.store t a v)(h:Au c s o nb cont=some r):
  Res P c s o nb cont r λ s' k=>Au c s' o nb k:=by
 simp only[Au,hop] at h
 cases h1:tyI c t with
 | none=>rw[h1] at h;cases h
 | some ti=>
  rw[h1] at h
  simp only at h
  have hT:=Bs hC h1
  split at h
  case h_2=>cases h
  rename_i u hu
  refine⟨_,u,[],h, ?_, ?_,trivial⟩
  ·intro E X ac hs hR hT' hF next Q hn
   subst hs
   obtain⟨g,x,cur,X',e1,e2,e3,e4,e5,e6,e7⟩:=(Afu hR (Bh hT' a) (Wf (Bh hT' v)) hu).out
   unfold Oper.wp
   simp only[execOp,hop,Instr.storeAt,e1,Instr.sureAddr,Sem.run_bind,Sem.run_pure,Result.andThen_ok,Aaa hT e2 e3 e4 e5,Oper.upon]
   have:=hn undef X' (e7 nb undef)
   rw[e6] at this
   exact this
  ·intro s' ha R' k
   simp only[Au,hop,h1]
   rw[ha.ev a (by simp[hop,Op.operands]),ha.ev v (by simp[hop,Op.operands]),Ac8 hu ha.wr]
end Go.Ev
namespace Go.Ev
variable{R:Type}{E:Env}{X:Cx}{P:Program}{t:Nat}{ti:TyI}{w:World}
structure H6(E:Env)(X:Cx)(K:Ki)(l:List K.den)(av:Value)(ks:List Nat):Prop where
 out:∃A c fp,av=.slice A l.length c/\Gf X.w K.size l.length (A0 X.w (X.S none) K l) (.slice A l.length c) fp/\C0 X ks fp/\∀b∈ks,∃x,look b X.s.st=some x
theorem Ada(R:Rel E X){K:Ki}{a:AV}{av:Value}{l:List K.den}(hv:VRel X a av)(h:Jg X.s K a=some l)(ha:F1 a=true):H6 E X K l av (Gd a):=by
 cases hv<;>simp only[Jg] at h<;>(try cases h)<;>(try(simp[F1] at ha;done))
 ·exact⟨none,0,[],rfl,⟨none,0,rfl,.inl ⟨rfl,rfl,rfl⟩⟩,.nil,by simp[Gd]⟩
 ·exact⟨none,0,[],rfl,⟨none,0,rfl,.inl ⟨rfl,rfl,rfl⟩⟩,.nil,by simp[Gd]⟩
 ·rename_i b A n c sz fp hc
  split at h
  case h_2=>cases h
  rename_i K' l' hrow
  obtain⟨ro,ver,K2,l2,hl,e⟩:=Cc hrow
  cases e
  obtain⟨rfl,rfl⟩:=Gl h
  obtain⟨A',cc,fp',u1,u2,u3,u4⟩:=Ch R hl
  rw[u1] at hc
  cases hc
  refine⟨A,c,fp,rfl,u2, ?_, ?_⟩
  ·have:=C0.nil.cons R hl u1 (f:=fp) (List.Sublist.refl _) (by simp)
   simpa[Gd] using this
  ·intro b' hb'
   simp only[Gd,zL] at hb'
   subst hb'
   exact⟨_,hl⟩
 ·rename_i b o A A' n c sz fp hc ho
  split at h
  case h_2=>cases h
  rename_i K' l' hrow
  split at h
  case h_2=>cases h
  rename_i l2 hcast
  simp only[z8] at h
  subst h
  obtain⟨ro,ver,K2,l3,hl,e⟩:=Cc hrow
  cases e
  refine⟨A',0,[],by simp,⟨A',0,by simp,.inl ⟨by simp,rfl,rfl⟩⟩,⟨by simp,by simp⟩, ?_⟩
  intro b' hb'
  simp only[Gd,zL] at hb'
  subst hb'
  exact⟨_,hl⟩
 ·rename_i b o m g og n c c' sz fp hc h1 h2 h3
  split at h
  case h_2=>cases h
  rename_i K' l' hrow
  split at h
  case h_2=>cases h
  rename_i l2 hcast
  simp only[z8] at h
  subst h
  obtain⟨ro,ver,K2,l3,hl,e⟩:=Cc hrow
  cases e
  obtain⟨rfl,rfl⟩:=Gl hcast
  obtain⟨A',cc,fp',u1,u2,u3,u4⟩:=Ch R hl
  rw[u1] at hc
  cases hc
  simp only
  have hlen:((l'.drop o).take m).length=m:=by simp;omega
  obtain⟨f',q1,q2⟩:=Im rfl u2 h1 h2 h3
  refine⟨_,c',f',by rw[hlen],by rw[hlen];exact q1, ?_, ?_⟩
  ·have:=C0.nil.cons R hl u1 q2 (by simp)
   simpa[Gd] using this
  ·intro b' hb'
   simp only[Gd,zL] at hb'
   subst hb'
   exact⟨_,hl⟩
end Go.Ev
namespace Go.Ev
variable{R:Type}{E:Env}{X:Cx}{P:Program}{t:Nat}{ti:TyI}{w:World}
structure Avh(P:Program)(w:World)(sz n:Nat)(yv:Value)(ycs:List Value):Prop where
 len:(Builtin.lenOf yv).run P w=.ok n w
 cells:(Builtin.firstCells sz n yv).run P w=.ok ycs.toArray w
 size:ycs.length=n*sz
 one:∀c∈ycs,c.oneCell'=true
theorem Acz{e t2 ty:Nat}{te:TyI}{d2:TypeDesc}{A:Option Addr}{n c n':Nat}{yv:Value}{ycs:List Value}(hu:P.underlying t=some (.slice e))(hTe:Df P e te)(h2:P.underlying t2=some d2)(hd2:∀k,d2≠.int k)
    (hy:Avh P w te.sz n' yv ycs) (hfit:n+n'<=c):
    (Builtin.append_ #[t,t2] ty #[.slice A n c,yv]).run P w=(match A with
      | some a=>(storeCells (a.add (n*te.sz)) ycs).run P w
      | none=>.ok () w).andThen λ _ w'=>.ok (.slice A (n+n') c) w':=by
  have hz:(match d2 with|.int _=>true|_=>false)=false:=by cases d2<;>first|rfl|exact((hd2 _) rfl).elim
  unfold Builtin.append_
  simp only[List.getElem?_toArray,List.getElem?_cons_zero,List.getElem?_cons_succ,Sem.run_bind,Ay hu,hTe.size,Result.andThen_ok,Ay h2,Sem.run_pure]
  simp only[zQ,if_false,Sem.run_bind,hy.len,Result.andThen_ok,hfit,if_true,yD,hy.cells]
  cases A with
  | none=>simp
  | some a=>simp
theorem Xu(need:Nat):∀(r c:Nat),c<need->256<=c->Builtin.growBy need r c<=2*need
 | 0,c,h,_=>by simp only[Builtin.growBy];omega
 | r+1,c,h,h2=>by
  simp only[Builtin.growBy]
  rw[if_neg (by omega)]
  by_cases h3:c+(c+768)/4<need
  ·exact Xu need r _ h3 (by omega)
  ·cases r with
   | zero=>simp only[Builtin.growBy];omega
   | succ r=>simp only[Builtin.growBy];rw[if_pos (by omega)];omega
theorem Tp{need c:Nat}(h:c<need):Builtin.nextslicecap need c<=2*need:=by
 unfold Builtin.nextslicecap
 split
 ·omega
 ·split
  ·omega
  ·exact Xu need 4 c h (by omega)
end Go.Ev
namespace Go.Ev
variable{R:Type}{E:Env}{X:Cx}{P:Program}{t:Nat}{ti:TyI}{w:World}
theorem Z8{e t2 ty:Nat}{te:TyI}{K:Ki}{d2:TypeDesc}{A:Option Addr}{n c n':Nat}{yv:Value}{ocs ycs:List Value}(hu:P.underlying t=some (.slice e))(hTe:Df P e te)(hK:te.ki=some K)(h2:P.underlying t2=some d2)(hd2:∀k,d2≠.int k)
    (hy:Avh P w te.sz n' yv ycs) (hfit:c<n+n') (hb:n+n'<=Ar te.bytes) (ho:∀w1:World,w1.heap=w.heap->(Builtin.firstCells te.sz n (.slice A n c)).run P w1=.ok ocs.toArray w1)
    (hy1:∀w1:World,w1.heap=w.heap->(Builtin.firstCells te.sz n' yv).run P w1=.ok ycs.toArray w1) (hol:ocs.length=n*te.sz):
    ∃(c':Nat) (cs:Array Value) (w':World),n+n'<=c'/\c'*te.sz=cs.size/\cs.toList.take ((n+n')*te.sz)=ocs++ycs/\
      (Builtin.append_ #[t,t2] ty #[.slice A n c,yv]).run P w=.ok (.slice (some ⟨w.heap.size,0,none⟩) (n+n') c') w'/\w'.heap=w.heap.push (.cells cs e)/\w'.os=w.os/\w'.tape=w.tape/\w'.output=w.output:=by
  obtain⟨i,z,i1,i2,i3,i4,i5,_,i6⟩:=hTe.i
  obtain⟨k1,k2⟩:=i6 K hK
  have hzs:z.cells.size=te.sz:=by
    have:=Pc K
    rw[k2,k1] at this
    simpa using this
  let need:=n+n'
  let c':=(Question.appendCap need c e).cut (w.tape w.drawn (.appendCap need c e))
  have hc':need<=c':=by simp only[c',Question.cut];omega
  let w1:World:={w with drawn:=w.drawn+1}
  let cs:Array Value:=ocs.toArray++ycs.toArray++Builtin.zeroCells z.cells (c'-need)
  have hlim:=Aa4 hb
  have hns:=Tp (need:=need) hfit
  have hti:∀w1,(typeInfo e).run P w1=.ok i w1:=λ w1=>by simp[typeInfo,i1]
  have hzv:∀w1,(zeroValue e).run P w1=.ok z w1:=λ w1=>by simp[zeroValue,typeInfo,i1,i4]
  have hbig:¬(Builtin.nextslicecap need c*i.bytes>2^48):=by
    rw[i3]
    have h3:Builtin.nextslicecap need c*te.bytes<=2*need*te.bytes:=zD _ hns
    have h4:2*need*te.bytes=2*(need*te.bytes):=Nat.mul_assoc ..
    have h5:need*te.bytes<=need*(te.bytes+1):=yV _ (by omega)
    have h6:need*(te.bytes+1)<=70368744177664:=hlim
    omega
  have hbig':¬(Builtin.nextslicecap (n+n') c*i.bytes>2^48):=hbig
  have hmax:¬(((n+n':Nat):Int)>IntKind.i64.max):=by
    have:IntKind.i64.max=9223372036854775807:=by decide
    rw[this]
    have h5:need*1<=need*(te.bytes+1):=yV _ (by omega)
    have h6:need*(te.bytes+1)<=70368744177664:=hlim
    have:need=n+n':=rfl
    omega
  refine⟨c',cs,{w1 with heap:=w.heap.push (.cells cs e)},hc', ?_, ?_, ?_,rfl,rfl,rfl,rfl⟩
  · simp[cs,Builtin.zeroCells,hzs,hol,hy.size]
    rw[<-zP,<-zP]
    congr 1
    omega
  · have h1:(ocs++ycs).length=(n+n')*te.sz:=by rw[zG,hol,hy.size,zP]
    simp only[cs,Array.toList_append,List.toList_toArray]
    rw[<-h1,yA]
    rfl
  · have hz:(match d2 with|.int _=>true|_=>false)=false:=by cases d2<;>first|rfl|exact((hd2 _) rfl).elim
    have hch:(choose (.appendCap (n+n') c e)).run P w=.ok c' w1:=by
      simp only[choose,Sem.run,Question.forced,zQ,if_false]
      rfl
    unfold Builtin.append_
    simp only[List.getElem?_toArray,List.getElem?_cons_zero,List.getElem?_cons_succ,Sem.run_bind,Ay hu,hTe.size,Result.andThen_ok,Ay h2,Sem.run_pure]
    simp only[zQ,if_false,Sem.run_bind,hy.len,Result.andThen_ok,show¬(n+n'<=c) by omega,if_true,yD,hmax,false_and,hti,hbig',hch,run_askRoom,ho w1 rfl,hy1 w1 rfl,hzv,newRow,run_newObj,Sem.run_pure]
    rfl
end Go.Ev
namespace Go.Ev
variable{R:Type}{E:Env}{X:Cx}{P:Program}{t:Nat}{ti:TyI}{w:World}
theorem C0.append(R:Rel E X){ks ks':List Nat}{f f':List Nat}(h:C0 X ks f)(h':C0 X ks' f')(hd:∀b∈ks,b∉ks'):C0 X (ks++ks') (f++f'):=by
 refine⟨?_, ?_⟩
 ·rw[zB]
  refine⟨h.nodup,h'.nodup,λ g hg g' hg' e=> ?_⟩
  subst e
  obtain⟨b,x,cb,q1,q2,q3,q4⟩:=h.mem g hg
  obtain⟨b',x',cb',r1,r2,r3,r4⟩:=h'.mem g hg'
  have:=R.dis b b' x x' cb cb' g q2 r2 q3 r3 q4 r4
  exact hd b q1 (this▸r1)
 ·intro g hg
  rcases List.mem_append.1 hg with hg|hg
  ·obtain⟨b,x,cb,q1,q2⟩:=h.mem g hg
   exact⟨b,x,cb,by simp[q1],q2⟩
  ·obtain⟨b,x,cb,q1,q2⟩:=h'.mem g hg
   exact⟨b,x,cb,by simp[q1],q2⟩
structure W1(P:Program)(X:Cx)(K:Ki)(l:List K.den)(yv:Value)(ks:List Nat):Prop where
 out:∃ycs fy,(∀w1:World,w1.heap=X.w.heap->Avh P w1 K.size l.length yv ycs)/\A0 X.w (X.S none) K l ycs fy/\C0 X ks fy/\∀b∈ks,∃x,look b X.s.st=some x
theorem Lm{w w1:World}{sz n c g o:Nat}{cur:Array Value}{ty:TypeId}{fr:Nat×Nat}(hg:w.heap[g]?=some (.cells cur ty fr))(hh:w1.heap=w.heap)(hle:o+n*sz<=cur.size):
  (Builtin.firstCells sz n (.slice (some ⟨g,o,none⟩) n c)).run P w1=.ok (seg cur.toList o (n*sz)).toArray w1:=by
 simp only[Builtin.firstCells]
 exact He (by rw[hh];exact hg) o _ hle
theorem Oo{w1:World}{sz:Nat}{A:Option Addr}{c:Nat}:(Builtin.firstCells sz 0 (.slice A 0 c)).run P w1=.ok (#[]:Array Value) w1:=by
 cases A<;>simp[Builtin.firstCells,loadCells,loadCellsFrom]
theorem Aay{K:Ki}{l:List K.den}{yv:Value}(hn:K.cpy=true)(h:W2 X K l yv):W1 P X K l yv []:=by
 obtain⟨A,c,rfl,hc,h⟩:=h.out
 rcases h with h|⟨g,o,cur,ty,fr,S,rfl,hg,hle,hr⟩
 ·have h0:l=[]:=zJ h
  subst h0
  refine⟨[],[],λ w1 _=>⟨rfl,Oo,by simp,by simp⟩,⟨rfl,rfl⟩,.nil,by simp⟩
 ·have hrow:A0 X.w (X.S none) K l (seg cur.toList o (l.length*K.size)) []:=Ke (P:=λ _=>True) hr (λ x c f _ hx=>Tx hn hx) (by simp)
  refine⟨_,[],λ w1 hh=>⟨rfl,Lm hg hh hle, ?_, ?_⟩,hrow,.nil,by simp⟩
  ·exact Cv (by simpa using hle)
  ·exact λ v hv=>Jz (λ x c f hx=>Kd hx) hrow v hv
theorem Aaz{K:Ki}{l:List K.den}{yv:Value}{ks:List Nat}(h:H6 E X K l yv ks):W1 P X K l yv ks:=by
 obtain⟨A,c,fp,rfl,how,hf,hl⟩:=h.out
 obtain⟨A',c',e,h⟩:=how
 cases e
 rcases h with⟨h0,h1,rfl⟩|⟨g,o,cur,fps,h1,h2,h3,h4,h5,h6⟩
 ·have e0:l=[]:=zJ h0
  subst e0
  refine⟨[],[],λ w1 _=>⟨rfl,Oo,by simp,by simp⟩,⟨rfl,rfl⟩,⟨by simp,by simp⟩,hl⟩
 ·subst h1
  have hm:=zD K.size h3
  obtain⟨ty,fr,hg,_⟩:=h2
  refine⟨_,fps,λ w1 hh=>⟨rfl,Lm hg hh (by simp;omega), ?_, ?_⟩,h6,⟨?_, ?_⟩,hl⟩
  ·exact Cv (by simp;omega)
  ·exact λ v hv=>Jz (λ x c f hx=>Kd hx) h6 v hv
  ·have:=hf.nodup
   rw[h5] at this
   exact(List.nodup_cons.1 this).2
  ·intro k hk
   exact hf.mem k (by rw[h5];simp[hk])
theorem Ah1{l:List UInt8}:W1 P X (.int .u8) (Bj l) (.string ⟨⟨l⟩⟩) []:=by
 have hlen:zF (α:=Int) (Bj l)=l.length:=by simp[Bj]
 refine⟨(Bj l).map (Value.int .u8),[],λ w1 _=>⟨?_, ?_, ?_, ?_⟩,Vh _,.nil,by simp⟩
 ·show Result.ok l.length w1=Result.ok (zF (α:=Int) (Bj l)) w1
  rw[hlen]
 ·show Result.ok (((⟨⟨l⟩⟩:ByteArray).extract 0 (zF (α:=Int) (Bj l))).data.map λ b=>Value.int .u8 b.toNat) w1=_
  rw[hlen,Yl]
  congr 1
  apply Array.ext'
  simp[Bj]
 ·show((Bj l).map (Value.int .u8)).length=zF (α:=Int) (Bj l)*1
  simp
 ·intro c hc
  obtain⟨n,_,rfl⟩:=List.mem_map.1 hc
  rfl
theorem Afp(cur:List Value)(o m:Nat)(nc:List Value)(h:o+m+nc.length<=cur.length):seg (Bl cur (o+m) nc) o (m+nc.length)=seg cur o m++nc:=by
 rw[O9 _ _ _ _ _ (zC _) (by omega)]
 have:seg cur o (m+nc.length)=seg cur o m++seg cur (o+m) nc.length:=by
  simp only[seg,List.take_add,yS]
 rw[this]
 have hl:(seg cur o m).length=m:=Cv (by omega)
 have hl2:(seg cur (o+m) nc.length).length=nc.length:=Cv (by omega)
 have:=Is (seg cur o m) (seg cur (o+m) nc.length) [] nc hl2
 simp only[yK,hl] at this
 exact this
theorem Aa2(R:Rel E X){e t2 ty nb:Nat}{te:TyI}{K:Ki}{d2:TypeDesc}{l l':List K.den}{xv yv:Value}{ks ks':List Nat}(hu:P.underlying t=some (.slice e))(hTe:Df P e te)(hK:te.ki=some K)(h2:P.underlying t2=some d2)(hd2:∀k,d2≠.int k)
  (hx:H6 E X K l xv ks) (hy:W1 P X K l' yv ks') (hd:∀b∈ks,b∉ks') (hb:l.length+l'.length<=Ar te.bytes) (hF:Pe X nb):
  ∃val X',(Builtin.append_ #[t,t2] ty #[xv,yv]).run P X.w=.ok val X'.w/\Good E X nb (.sl nb) ((nb,some (.cell false 0 [.rw K (l++l')]))::By (ks++ks')) val X':=by
 obtain⟨i,z,i1,i2,i3,i4,i5,_,i6⟩:=hTe.i
 obtain⟨hKs,_⟩:=i6 K hK
 obtain⟨A,c,fp,rfl,how,hf,hlv⟩:=hx.out
 obtain⟨ycs,fy,hadds,hyrow,hfy,hlv'⟩:=hy.out
 have hA:=hadds X.w rfl
 have hlive:∀b∈ks++ks',∃x,look b X.s.st=some x:=λ b hb'=>(List.mem_append.1 hb').elim (hlv b) (hlv' b)
 have hfk:=hf.append R hfy hd
 rw[hKs] at hA
 have bound:∀k∈fp++fy,k<X.w.heap.size:=by
  intro k hk
  obtain⟨b,x,cb,q1,q2,q3,q4⟩:=hfk.mem k hk
  obtain⟨cb',j1,_,_,j4⟩:=R.blk b x q2
  rw[q3] at j1
  cases j1
  exact(j4 k q4).1
 have how':=how
 obtain⟨A',c',e',h⟩:=how'
 cases e'
 by_cases hfit:l.length+l'.length<=c
 ·have hrun:=Acz (w:=X.w) (ty:=ty) (A:=A) (n:=l.length) hu hTe h2 hd2 hA hfit
  rcases h with⟨h0,h1,rfl⟩|⟨g,o,cur,fps,h1,hcur,h3,h4,h5,h6⟩
  ·have e0:l=[]:=zJ h0
   have e1:l'=[]:=zJ (by omega)
   subst e0 e1 h1
   have hyc:ycs=[]:=hyrow.1
   have hfy0:fy=[]:=hyrow.2
   subst hyc hfy0
   have hrun':(Builtin.append_ #[t,t2] ty #[.slice A 0 0,yv]).run P X.w=.ok (.slice A 0 0) X.w:=by
    have:=hrun
    simp only[List.length_nil,yB] at this⊢
    rw[this]
    cases A<;>simp[storeCells]
   have hN:Gh E X nb (.cell false 0 [.rw K ([]++[])]) (ks++ks') (.row A 0 0 K.size []) X.w (λ _=>False) (C1 X nb (.cell false 0 [.rw K ([]++[])]) (ks++ks') (.row A 0 0 K.size []) X.w):=
    ⟨rfl,rfl,rfl,rfl,hF,hlive,rfl,rfl,rfl,zC _,λ _ _ _=>rfl,λ g hg=>hg.elim⟩
   refine⟨.slice A 0 0,C1 X nb (.cell false 0 [.rw K ([]++[])]) (ks++ks') (.row A 0 0 K.size []) X.w,hrun',hN.good R (λ _=>.row rfl rfl ⟨A,0,rfl,.inl ⟨rfl,rfl,rfl⟩⟩) (by simp[CB.fp]) (by simp[CB.fp]) λ _=> ?_⟩
   exact .sl (sz:=K.size) (fp:=[]) (by simp[C1])
  ·subst h1
   have hm:(l.length+l'.length)*K.size<=c*K.size:=zD _ hfit
   have hyl:ycs.length=l'.length*K.size:=by rw[hA.size,hKs]
   have hst:(storeCells ((⟨g,o,none⟩:Addr).add (l.length*te.sz)) ycs).run P X.w=.ok () (B9 X.w g (Bl cur (o+l.length*K.size) ycs)):=by
    rw[Cy,<-hKs]
    exact L9 _ _ cur X.w hcur (by rw[zP] at hm;omega) hA.one
   simp only at hrun
   rw[hst] at hrun
   simp only[Result.andThen_ok] at hrun
   subst h5
   have hnd:=hfk.nodup
   simp only[zS,zH] at hnd
   have hN:Gh E X nb (.cell false 0 [.rw K (l++l')]) (ks++ks') (.row (some ⟨g,o,none⟩) (l.length+l'.length) c K.size (g::(fps++fy))) (B9 X.w g (Bl cur (o+l.length*K.size) ycs)) (λ k=>k=g)
     (C1 X nb (.cell false 0 [.rw K (l++l')]) (ks++ks') (.row (some ⟨g,o,none⟩) (l.length+l'.length) c K.size (g::(fps++fy))) (B9 X.w g (Bl cur (o+l.length*K.size) ycs))):=by
    refine⟨rfl,rfl,rfl,rfl,hF,hlive,rfl,rfl,rfl,by rw[D6];exact zC _,λ k _ hk=>Do _ _ _ _ hk,λ k hk=> ?_⟩
    subst hk
    exact hfk.mem k (by simp)
   refine⟨.slice (some ⟨g,o,none⟩) (l.length+l'.length) c,C1 X nb (.cell false 0 [.rw K (l++l')]) (ks++ks') (.row (some ⟨g,o,none⟩) (l.length+l'.length) c K.size (g::(fps++fy))) (B9 X.w g (Bl cur (o+l.length*K.size) ycs)),hrun,hN.good R ?_ ?_ ?_ λ _=> ?_⟩
   ·intro hx
    have hll:(l++l').length=l.length+l'.length:=zG
    refine .row hll.symm rfl ?_
    rw[hll]
    refine⟨_,_,rfl,.inr ⟨g,o,Bl cur (o+l.length*K.size) ycs,fps++fy,rfl, ?_,hfit, ?_,rfl, ?_⟩⟩
    ·exact Gr hcur _ (Da _ _ _ (by rw[zP] at hm;omega))
    ·rw[Da _ _ _ (by rw[zP] at hm;omega)];exact h4
    ·rw[zP,<-hyl,Afp _ _ _ _ (by rw[zP] at hm;omega)]
     exact A0.move (Jb h6 hyrow) (hx.sts none) λ k hk=>Do _ _ _ _ λ e=>hnd.1 (e▸hk)
   ·simp only[CB.fp,zH];exact hnd
   ·intro k hk
    rw[D6]
    obtain⟨b,x,cb,q1,q2,q3,q4⟩:=hfk.mem k hk
    exact⟨bound k hk,.inr ⟨b,x,cb,.inr q1,q2,q3,q4⟩⟩
   ·exact .sl (sz:=K.size) (fp:=g::(fps++fy)) (by simp[C1])
 ·have hold:∃ocs fo,(∀w1:World,w1.heap=X.w.heap->(Builtin.firstCells te.sz l.length (.slice A l.length c)).run P w1=.ok ocs.toArray w1)/\ocs.length=l.length*te.sz/\A0 X.w (X.S none) K l ocs fo/\fo.Sublist fp:=by
   rcases h with⟨h0,h1,rfl⟩|⟨g,o,cur,fps,h1,hcur,h3,h4,h5,h6⟩
   ·have e0:l=[]:=zJ h0
    subst e0
    exact⟨[],[],λ w1 _=>Oo,by simp,⟨rfl,rfl⟩,List.Sublist.refl _⟩
   ·subst h1
    have hm:=zD K.size h3
    obtain⟨ty',fr,hg,_⟩:=hcur
    refine⟨_,fps,λ w1 hh=>Lm hg hh (by rw[<-hKs];simp;omega), ?_,by rw[<-hKs];exact h6,by rw[h5];exact List.sublist_cons_self _ _⟩
    rw[<-hKs]
    exact Cv (by simp;omega)
  obtain⟨ocs,fo,o1,o2,o3,o4⟩:=hold
  obtain⟨c',cs,w',g1,g2,g3,g4,g5,g6,g7,g8⟩:=Z8 (w:=X.w) (ty:=ty) (A:=A) (n:=l.length) (c:=c) hu hTe hK h2 hd2 hA (by omega) hb o1 (λ w1 hh=>by have:=(hadds w1 hh).cells;rwa[hKs] at this) o2
  have hll:(l++l').length=l.length+l'.length:=zG
  obtain⟨X',r1,r2⟩:=P9 (w':=w') (K:=K) (l:=l++l') (cs:=cs) (fr:=(0,0)) (c:=c') (fps:=fo++fy) (ks:=ks++ks') R hF hlive (by rw[hll,hKs,g3];exact Jb o3 hyrow) (by omega) (by rw[hKs];omega)
   (.inl rfl) ((o4.append_right fy).nodup hfk.nodup) (λ k hk=>⟨bound k ((o4.append_right fy).subset hk),hfk.mem k ((o4.append_right fy).subset hk)⟩) g5 g6 g7 g8
  rw[hll] at r2
  exact⟨_,X',by rw[g4,r1],r2⟩
end Go.Ev
namespace Go.Ev
variable{R:Type}{E:Env}{X:Cx}{P:Program}{t:Nat}{ti:TyI}{w:World}
theorem Aiw{c:Cfg}(hC:Bk P c=true)(h:notInt c t=true):∃d,P.underlying t=some d/\∀k,d≠.int k:=by
 unfold notInt at h
 split at h
 ·rename_i ti ht
  split at h
  ·cases h
  ·rename_i hi;exact(Bs hC ht).notInt hi
 ·cases h
theorem Sc{a:AV}(h:F1 a=true):Mg a=Gd a:=by
 cases a<;>first|rfl|simp[F1] at h
theorem Aaf{s s':St}{K:Ki}{a:AV}(hs:∀b∈Mg a,look b s'.st=look b s.st):Gt s' K a=Gt s K a:=by
 unfold Gt
 split
 ·rfl
 ·exact Rl hs
theorem Ah0{K:Ki}{l:List K.den}{a:AV}{yv:Value}(R:Rel E X)(hn:K.own=false)(hv:VRel X a yv)(h:Gt X.s K a=some l):W1 P X K l yv []:=by
 unfold Gt at h
 split at h
 ·cases h
  cases hv
  exact Ah1
 ·exact Aay (Ki.cpy_of hn) (Abg R hv h)
theorem Ah5{c:Cfg}(hC:Bk P c=true){s:St}{o:Oper}{nb:Nat}{cont:Cm R}{r:R}{cl:Call}(hop:o.op=.call cl)(hb:cl.callee=.builtin .append)(h:Au c s o nb cont=some r):
  Res P c s o nb cont r λ s' k=>Au c s' o nb k:=by
 simp only[Au,hop,hb] at h
 split at h
 case h_2=>cases h
 rename_i x y t t2 ha ht
 split at h
 case h_2=>cases h
 rename_i ti hti
 cases hb1:(Fd ti&&notInt c t2)<;>rw[hb1] at h<;>simp only[cond_true,cond_false] at h
 ·cases h
 have hb1':=hb1
 simp only[zA] at hb1'
 split at h
 case h_2=>cases h
 rename_i te hte
 split at h
 case h_2=>cases h
 rename_i K hK
 split at h
 case h_2=>cases h
 rename_i l l' hx hy
 obtain⟨hb2,h⟩:=Ao (show chk _ _=some r from h)
 obtain⟨hb3,h⟩:=Ao h
 simp only[zA,Du,zB] at hb2
 obtain⟨⟨happ,hnd⟩,hy2⟩:=hb2
 have hTe:=Bs hC hte
 have hup:∀b,b∈Gd (ev s x)++(bif K.own then Gd (ev s y) else [])->b∈Bm ((nb,some (Blk.cell false 0 [AV.rw K (l++l')]))::By (Gd (ev s x)++bif K.own then Gd (ev s y) else [])):=by
  intro b hb
  simp only[Bm,By,yE,yX,zI]
  exact .inr (List.mem_map.2 ⟨b,hb,rfl⟩)
 have hyo:K.own=true->F1 (ev s y)=true/\∀K' a,Gt s K' a=Jg s K' a\/K'≠K:=by
  intro hn
  refine⟨?_,λ K' a=> ?_⟩
  ·rw[hn] at hy2
   cases hev:ev s y<;>rw[hev] at hy2<;>first|rfl|simp[Aam] at hy2
  ·by_cases hk:K'=K
   ·subst hk
    left
    unfold Gt
    split
    ·simp[Ki.own,Ki.cpy] at hn
    ·rfl
   ·exact .inr hk
 refine⟨_,_,_,h, ?_, ?_,trivial⟩
 ·intro E X ac hs hR hT hF next Q hn
  subst hs
  have hTk:=Ada hR (Bh hT x) hx happ
  have hA:W1 P X K l' (ac.eval y) (bif K.own then Gd (ev X.s y) else []):=by
   cases hnest:K.own
   ·simp only[cond_false]
    exact Ah0 hR hnest (Bh hT y) hy
   ·simp only[cond_true]
    obtain⟨h1,h2⟩:=hyo hnest
    rw[(h2 K _).resolve_right (λ e=>e rfl)] at hy
    exact Aaz (Ada hR (Bh hT y) hy h1)
  have hd:∀b∈Gd (ev X.s x),b∉(bif K.own then Gd (ev X.s y) else []):=by
   intro b hb hb'
   cases hnest:K.own<;>rw[hnest] at hb'
   ·simp at hb'
   ·simp only[cond_true] at hb'
    rw[<-Sc (hyo hnest).1] at hb'
    exact hnd.2.2 b hb b hb' rfl
  obtain⟨d2,u2,n2⟩:=Aiw hC hb1'.2
  obtain⟨val,X',r1,r2⟩:=Aa2 (ty:=o.type) hR ((Bs hC hti).slice hb1'.1) hTe hK u2 n2 hTk hA hd (by rw[xD] at hb3;exact hb3) hF
  unfold Oper.wp
  rw[Od hop hb,Mq ha,Mq ht]
  simp only[builtin,Sem.run_bind,yF,yE,List.map_nil,r1,Result.andThen_ok,Sem.run_pure,Oper.upon]
  exact hn val X' r2
 ·intro s' hag R' k
  have hx':Jg s' K (ev s x)=some l:=by
   rw[Rl,hx]
   intro b hb
   rw[Sc happ] at hb
   exact hag.wr b (hup b (by simp[hb]))
  have hy':Gt s' K (ev s y)=some l':=by
   rw[Aaf,hy]
   intro b hb
   cases hnest:K.own
   ·exact hag.rd b (by rw[hnest];exact hb)
   ·rw[Sc (hyo hnest).1] at hb
    exact hag.wr b (hup b (by rw[hnest];simp[hb]))
  simp only[Au,hop,hb,ha,ht]
  rw[hag.ev x (by simp[hop,Op.operands,Call.operands,hb,Mq ha]),hag.ev y (by simp[hop,Op.operands,Call.operands,hb,Mq ha])]
  simp only[hti,hb1,hte,hK,hx',hy',cond_true]
  have hcd:(F1 (ev s x)&&F4 (Gd (ev s x)++Mg (ev s y))&&(!K.own||Aam (ev s y)))=true:=by
   simp only[zA,Du,zB]
   exact⟨⟨happ,hnd⟩,hy2⟩
  rw[hcd]
  simp only[cond_true,hb3,A3]
end Go.Ev
namespace Go.Ev
variable{R:Type}{E:Env}{X:Cx}{P:Program}{t:Nat}{ti:TyI}{w:World}
theorem S0(R:Rel E X){K:Ki}{sz:Nat}(hsz:K.size=sz):∀{n j:Nat} {as:List (Nat×AV)} {vs:List (Nat×Value)} {l:List K.den} {ks:List Nat} {cells:Array Value},Pf X as vs->Eg X.s K j n as=some (l,ks)->ks.Nodup->cells.size=(j+n)*sz->
  ∃(cells':Array Value) (fp:List Nat),Instr.fill (λ i=>some (i*sz,sz)) cells vs=some cells'/\cells'.size=cells.size/\cells'.toList.take (j*sz)=cells.toList.take (j*sz)/\A0 X.w (X.S none) K l (cells'.toList.drop (j*sz)) fp/\l.length=n/\C0 X ks fp/\
   ∀b∈ks,∃x,look b X.s.st=some x
 | 0,j,[],_,l,ks,cells,hv,h,hnd,hc=>by
  simp only[Eg,z8,z9] at h
  obtain⟨rfl,rfl⟩:=h
  cases hv
  refine⟨cells,[],rfl,rfl,rfl,⟨?_,rfl⟩,rfl,.nil,by simp⟩
  rw[List.drop_of_length_le]
  simp[hc]
 | n+1,j,(i,x)::r,_,l,ks,cells,.cons (v:=v) (vs:=vs) h1 h2,h,hnd,hc=>by
  simp only[Eg] at h
  cases hb:(zK i j&&Cz x)<;>rw[hb] at h<;>simp only[cond_true,cond_false] at h
  ·cases h
  simp only[zA] at hb
  obtain⟨hij,hst⟩:=hb
  have:=zE hij
  subst this
  split at h
  case h_2=>cases h
  rename_i ps ks1 hg
  split at h
  case h_2=>cases h
  rename_i d hd
  split at h
  case h_2=>cases h
  rename_i l2 ks2 hl
  simp only[z8,z9] at h
  obtain⟨rfl,rfl⟩:=h
  rw[zB] at hnd
  obtain⟨nd1,nd2,nd3⟩:=hnd
  obtain⟨p1,p2,p3⟩:=G4 h1 hst
  obtain⟨f1,g1,g2,g3,g4⟩:=Ig R p1 p2 hg nd1
  have hrep:=Ft g1 hd
  have hvl:=B0 hrep
  have hmul:(i+(n+1))*sz=i*sz+(sz+n*sz):=by rw[zP,yJ];omega
  obtain⟨cells1,q1,q2⟩:=Ro (place:=λ i=>some (i*sz,sz)) (cells:=cells) (i:=i) (v:=v) (rest:=vs) rfl (by simp at hvl;omega) (by rw[hc,hmul];omega)
  have hvl':v.cells.toList.length=sz:=by omega
  have hsp:(Bl cells.toList (i*sz) v.cells.toList).length=cells.toList.length:=Da _ _ _ (by rw[hvl'];simp[hc,hmul])
  have hs1:cells1.size=cells.size:=by
   have:=congrArg zF q1
   rw[hsp] at this
   simpa using this
  obtain⟨cells',f2,e1,e2,e3,e4,e5,e6,e7⟩:=S0 R hsz (cells:=cells1) h2 hl nd2 (by rw[hs1,hc];congr 1;omega)
  have h5:cells'.toList.take ((i+1)*sz)=cells.toList.take (i*sz)++v.cells.toList:=by
   rw[e3,q1,yJ]
   simp only[Bl]
   have:(cells.toList.take (i*sz)++v.cells.toList).length=i*sz+sz:=by
    rw[zG,hvl',zX,zV]
    simp[hc,hmul]
   rw[<-this,yA]
   rfl
  have hle:(cells.toList.take (i*sz)).length=i*sz:=by
   rw[zX,zV]
   simp[hc,hmul]
  have h6:cells'.toList.take (i*sz)=cells.toList.take (i*sz):=by
   have:=congrArg (xF (i*sz)) h5
   rw[yT,zV (zD _ (by omega)),yA hle] at this
   exact this
  have h7:cells'.toList.drop (i*sz)=v.cells.toList++cells'.toList.drop ((i+1)*sz):=by
   have e:=zY ((i+1)*sz) cells'.toList
   rw[h5] at e
   rw[<-e,zN,yO hle]
   congr 1
   have e':(cells.toList.take (i*sz)++(v.cells.toList++cells'.toList.drop ((i+1)*sz)))=(cells.toList.take (i*sz)++v.cells.toList)++cells'.toList.drop ((i+1)*sz):=by rw[zN]
   rw[e',yO]
   rw[zG,hle,hvl',yJ]
  refine⟨cells',f1++f2,by rw[q2];exact e1,e2.trans hs1,h6, ?_,by simp[e5],g3.append R e6 (λ b hb hb'=>nd3 b hb b hb' rfl), ?_⟩
  ·rw[h7]
   exact⟨_,_,_,_,rfl,rfl,hrep,e4⟩
  ·intro b hb
   rcases List.mem_append.1 hb with hb|hb
   ·exact g4 b hb
   ·exact e7 b hb
 | 0,_,_::_,_,_,_,_,_,h,_,_=>by simp[Eg] at h
 | _+1,_,[],_,_,_,_,_,h,_,_=>by simp[Eg] at h
theorem Qe{s s':St}{K:Ki}:∀{n j:Nat} {as:List (Nat×AV)} {l:List K.den} {ks:List Nat},Eg s K j n as=some (l,ks)->(∀b∈ks,look b s'.st=look b s.st)->Eg s' K j n as=some (l,ks)
 | 0,j,[],l,ks,h,_=>h
 | n+1,j,(i,x)::r,l,ks,h,hs=>by
  simp only[Eg] at h⊢
  cases hb:(zK i j&&Cz x)<;>rw[hb] at h<;>simp only[cond_true,cond_false] at h⊢
  ·cases h
  split at h
  case h_2=>cases h
  rename_i ps ks1 hg
  split at h
  case h_2=>cases h
  rename_i d hd
  split at h
  case h_2=>cases h
  rename_i l2 ks2 hl
  simp only[z8,z9] at h
  obtain⟨rfl,rfl⟩:=h
  rw[Ct hg (λ b hb=>hs b (by simp[hb])),Qe hl (λ b hb=>hs b (by simp[hb]))]
  simp only[hd]
 | 0,_,_::_,_,_,h,_=>by simp[Eg] at h
 | _+1,_,[],_,_,h,_=>by simp[Eg] at h
theorem Wm{c:Cfg}(hC:Bk P c=true){s:St}{o:Oper}{nb:Nat}{cont:Cm R}{r:R}{n:Nat}{ps:Array (Nat×Operand)}(hop:o.op=.buildSlice t n ps)(h:Au c s o nb cont=some r):
    Res P c s o nb cont r λ s' k=>Au c s' o nb k:=by
  simp only[Au,hop] at h
  have hmap:∀s' u rd,Nc s s' o u rd->(ps.toList.map λ(x:Nat×Operand)=>(x.1,ev s' x.2))=ps.toList.map λ x=>(x.1,ev s x.2):=by
    intro s' u rd ha
    refine yC λ y hy=> ?_
    rw[ha.ev y.2 (by simp[hop,Op.operands];exact⟨y.1,by simpa using Array.mem_toList_iff.1 hy⟩)]
  have hexec:∀(ac:Act),(Instr.buildSlice t n (ps.map λ(x:Nat×Operand)=>(x.1,ac.eval x.2)))=Instr.buildSlice t n (ps.toList.map λ x=>(x.1,ac.eval x.2)).toArray:=by
    intro ac
    congr 1
    simp[<-yF]
  split at h
  case h_2=>cases h
  rename_i ti hti
  split at h
  case h_2=>cases h
  rename_i te hte
  split at h
  case h_2=>cases h
  rename_i K hK
  split at h
  case h_2=>cases h
  rename_i l ks hl
  obtain⟨hb,h⟩:=Ao (show chk _ _=some r from h)
  have hb':=hb
  simp only[zA,Du] at hb'
  obtain⟨⟨hsl,hle⟩,hnd⟩:=hb'
  rw[xD] at hle
  have hT:=Bs hC hti
  have hTe:=Bs hC hte
  refine⟨_,_,_,h, ?_, ?_,trivial⟩
  · intro E X ac hs hR hT' hF next Q hn
    subst hs
    obtain⟨z,z1,z2,z3⟩:=hTe.zero (w:=X.w)
    obtain⟨hKs,hKz⟩:=z3 K hK
    let zz:Array Value:=if n*te.sz=0 then #[] else z.cells
    obtain⟨cells',fp,e1,e2,_,e4,e5,e6,e7⟩:=S0 (cells:=(Array.range (n*te.sz)).map (zz[·%zz.size]!)) hR hKs (M1 hT' ps.toList) hl hnd (by simp)
    have hsz:cells'.size=n*te.sz:=by rw[e2];simp
    have hrow:A0 X.w (X.S none) K l cells'.toList fp:=by simpa using e4
    have hlen:l.length*K.size=n*te.sz:=by rw[e5,hKs]
    obtain⟨X',r1,r2⟩:=P9 (nb:=nb) (w':={X.w with heap:=X.w.heap.push (.cells cells' ti.elem)}) (K:=K) (l:=l) (cs:=cells') (fr:=(0,0)) (c:=n) (fps:=fp) (ks:=ks) hR hF e7
      (by rw[hlen,List.take_of_length_le (by simp[hsz])];exact hrow) (by omega) (by rw[hKs,hsz];exact zC _) (.inl rfl) e6.nodup
      (λ g hg=>by
        obtain⟨b,x,cb,q1,q2,q3,q4⟩:=e6.mem g hg
        obtain⟨cb',j1,_,_,j4⟩:=hR.blk b x q2
        rw[q3] at j1
        cases j1
        exact⟨(j4 g q4).1,b,x,cb,q1,q2,q3,q4⟩) rfl rfl rfl rfl
    unfold Oper.wp
    simp only[execOp,hop,Sem.run_bind]
    rw[hexec]
    have hrun:(Instr.buildSlice t n (ps.toList.map λ x=>(x.1,ac.eval x.2)).toArray).run P X.w=.ok (.slice (some ⟨X.w.heap.size,0,none⟩) n n) {X.w with heap:=X.w.heap.push (.cells cells' ti.elem)}:=by
      simp only[Instr.buildSlice,Sem.run_bind,Ay (hT.slice hsl),hTe.size,Result.andThen_ok,Sem.run_ite,if_neg (show¬(n*te.sz>2^24) by omega),Sem.run_pure]
      by_cases h0:n*te.sz=0
      · have:zz= #[]:=if_pos h0
        rw[this] at e1
        rw[if_pos h0]
        simp only[e1,newRow,Sem.run_bind,run_newObj,Sem.run_pure,Result.andThen_ok]
      · have:zz=z.cells:=if_neg h0
        rw[this] at e1
        rw[if_neg h0]
        simp only[z1,e1,newRow,Sem.run_bind,run_newObj,Sem.run_pure,Result.andThen_ok]
    rw[hrun]
    simp only[Result.andThen_ok,Sem.run_pure,Oper.upon]
    have:=hn _ X' r2
    rw[r1,e5] at this
    exact this
  · intro s' ha R' k
    simp only[Au,hop,hti,hte,hK]
    rw[show(ps.toList.map λ(x:Nat×Operand)=>match x with|(i,x)=>(i,ev s' x))=ps.toList.map λ x=>(x.1,ev s' x.2) from rfl,hmap s' _ _ ha]
    rw[show(ps.toList.map λ(x:Nat×Operand)=>match x with|(i,x)=>(i,ev s x))=ps.toList.map λ x=>(x.1,ev s x.2) from rfl] at hl
    rw[Qe hl λ b hb=>ha.wr b (by simp only[Bm,By,yE,yX,zI];exact .inr (List.mem_map.2 ⟨b,hb,rfl⟩))]
    simp only[hb,cond_true]
end Go.Ev
namespace Go.Ev
variable{R:Type}{E:Env}{X:Cx}{P:Program}
theorem Aqy(hR:Rel E X){b:Nat}{x:Blk}{cb:CB}(hl:look b X.s.st=some x)(hc:X.cm b=some cb):
    ∃Y:Cx,Y.s={X.s with st:=del b X.s.st}/\Y.w=X.w/\Y.cm=X.cm/\Rel E Y/\Ext X Y/\GS Y.S X.S/\∀g∈cb.fp,Y.S none g:=by
  let Y:Cx:={X with S:=λ q=>match q with|none=>λ g=>X.S none g\/g∈cb.fp|some n=>X.S (some n),s:={X.s with st:=del b X.s.st}}
  have hlk:∀k,look k Y.s.st=if k=b then none else look k X.s.st:=λ k=>Lq _ hR.uq
  have gs:GS Y.S X.S:=⟨λ _=>rfl,λ _ h=>.inl h⟩
  have hx:Ext X Y:=by
    refine⟨λ k cb h=>⟨cb,h,cb.same_refl⟩,λ n g h=>⟨gs.mono n g h,rfl⟩, ?_⟩
    intro k cb _ ro' v' ps' h
    rw[hlk] at h
    by_cases e:k=b
    · rw[if_pos e] at h;cases h
    · rw[if_neg e] at h
      exact⟨ro',v',ps',h,zC _,λ _ _=>⟨rfl,rfl,rfl,λ _ _=>rfl⟩⟩
  obtain⟨cb0,w1,w2,w3,w4⟩:=hR.blk b _ hl
  rw[hc] at w1
  cases w1
  refine⟨Y,rfl,rfl,rfl,⟨?_, ?_,hR.out, ?_,hR.fr,Ht hR.uq⟩,hx,gs,λ g hg=>.inr hg⟩
  · intro k x h
    rw[hlk] at h
    by_cases e:k=b
    · rw[if_pos e] at h;cases h
    · rw[if_neg e] at h
      obtain⟨cb,k1,k2,k3,k4⟩:=hR.blk k x h
      exact⟨cb,k1,k2.ext hx λ _ _=>rfl,k3,k4⟩
  · intro k k' x x' cb cb' g h h' hc hc' hg hg'
    rw[hlk] at h h'
    by_cases e:k=b
    · rw[if_pos e] at h;cases h
    · by_cases e':k'=b
      · rw[if_pos e'] at h';cases h'
      · rw[if_neg e] at h
        rw[if_neg e'] at h'
        exact hR.dis k k' x x' cb cb' g h h' hc hc' hg hg'
  · intro g hg
    rcases hg with hg|hg
    · obtain⟨f1,f2,f3⟩:=hR.frz g hg
      refine⟨f1,f2,λ k x cb h hc=> ?_⟩
      rw[hlk] at h
      by_cases e:k=b
      · rw[if_pos e] at h;cases h
      · rw[if_neg e] at h
        exact f3 k x cb h hc
    · refine⟨(w4 g hg).1,.inr (w4 g hg).2,λ k x cb' h hc' hgc=> ?_⟩
      rw[hlk] at h
      by_cases e:k=b
      · rw[if_pos e] at h;cases h
      · rw[if_neg e] at h
        exact e (hR.dis k b x _ cb' _ g h hl hc' hc hgc hg)
theorem Aa7{w:World}{Z:Nat->Prop}:∀{l:List Bool} {cs:List Value} {fp:List Nat},A0 w Z .bool l cs fp->cs=l.map Value.bool
 | [],_,_,h=>h.1
 | x::l,_,_,⟨c1,c2,f1,f2,e1,e2,hx,hl⟩=>by
  rw[e1,hx.1,Aa7 hl];rfl
theorem Dm{a:AV}{r:List AV}{cs:List Value}{fp:List Nat}(ha:a.plain=true)(h:PRs X (a::r) cs fp):∃v cs',cs=v::cs'/\v.oneCell'=true/\VRel X a v/\PRs X r cs' fp:=by
 cases h with
 | one _ h1 h2 h3=>exact⟨_,_,rfl,h1,h2,h3⟩
 | arr=>simp[AV.plain] at ha
 | nl=>simp[AV.plain] at ha
 | rw=>simp[AV.plain] at ha
theorem Ajd{L T:Nat}{ps:List AV}{t:Tr}{cur:List Value}{fps:List Nat}{g:Nat}{Ty:TypeId}{fr:Nat×Nat}(h:Afy L T ps=some t)(hp:PRs X ps cur fps)
  (hg:X.w.heap[g]?=some (.cells cur.toArray Ty fr)) {S:Nat->Prop} (hS:∀k,X.S none k->S k) (hSg:S g):Fh X.w S t (.iface T (.pointer (some ⟨g,0,none⟩))):=by
 have mvT:∀{a:Tr} {v:Value},VRel X (.tr .frz a) v->Fh X.w S a v:=λ h=>by
  cases h with
  | tr _ ht=>exact ht.move λ g hg=>⟨hS g hg,rfl⟩
 have mvI:∀{k:IntKind} {n:Int} {v:Value},VRel X (.int k n) v->v=.int k n:=λ h=>by cases h;rfl
 have nilP:∀{cs:List Value} {fp:List Nat},PRs X [] cs fp->cs=[]:=λ h=>by cases h;rfl
 unfold Afy at h
 split at h
 ·rename_i n l
  cases hb:zK n 256<;>rw[hb] at h<;>simp only[cond_true,cond_false] at h
  ·cases h
  cases h
  obtain⟨k1,k2⟩:=Mi hp
  refine⟨g,_,Ty,fr,rfl,hSg,hg, ?_⟩
  exact⟨by simpa using Aa7 k2,k1.trans (zE hb)⟩
 ·cases h
  obtain⟨v1,c1,rfl,_,p1,hp⟩:=Dm rfl hp
  obtain⟨v2,c2,rfl,_,p2,hp⟩:=Dm rfl hp
  rw[nilP hp] at hg
  exact⟨g,_,Ty,fr,rfl,hSg,hg,v1,v2,by simp,mvT p1,mvT p2⟩
 ·cases h
  obtain⟨v1,c1,rfl,_,p1,hp⟩:=Dm rfl hp
  obtain⟨v2,c2,rfl,_,p2,hp⟩:=Dm rfl hp
  rw[nilP hp,mvI p2] at hg
  exact⟨g,_,Ty,fr,rfl,hSg,hg,v1,by simp,mvT p1⟩
 ·rename_i a i j u
  cases hb:u.plain<;>rw[hb] at h<;>simp only[cond_true,cond_false] at h
  ·cases h
  cases h
  obtain⟨v1,c1,rfl,_,p1,hp⟩:=Dm rfl hp
  obtain⟨v2,c2,rfl,_,p2,hp⟩:=Dm rfl hp
  obtain⟨v3,c3,rfl,_,p3,hp⟩:=Dm rfl hp
  obtain⟨v4,c4,rfl,p4,_,hp⟩:=Dm hb hp
  rw[nilP hp,mvI p2,mvI p3] at hg
  exact⟨g,_,Ty,fr,rfl,hSg,hg,v1,v4,by simp,p4,mvT p1⟩
 ·cases h
theorem Rz{c:Cfg}(hC:Bk P c=true){s:St}{o:Oper}{nb:Nat}{cont:Cm R}{r:R}{x:Operand}{T:Nat}(hop:o.op=.makeInterface T x)(h:Au c s o nb cont=some r):
  Res P c s o nb cont r λ s' k=>Au c s' o nb k:=by
 simp only[Au,hop] at h
 split at h
 case h_3=>cases h
 ·rename_i kk n ti hx hti
  obtain⟨hk,h⟩:=Ao h
  unfold isK at hk
  split at hk
  case h_2=>cases hk
  rename_i k' hi
  have hu:=(Bs hC hti).int hi
  rw[<-Er hk] at hu hi
  refine⟨_,_,_,h, ?_,λ s' ha R' k=> ?_,trivial⟩
  ·refine B5 λ E X ac hs hR hT=> ?_
   subst hs
   have hv:=Bh hT x
   rw[hx] at hv
   generalize hxv:ac.eval x=xv at hv
   cases hv
   refine⟨.iface T (.int kk n), ?_,.ifc (.int _ _)⟩
   simp[execOp,hop,hxv,Instr.makeInterface,Ay hu]
  ·simp only[Au,hop]
   rw[ha.ev x (by simp[hop,Op.operands]),hx,hti]
   have e:G1 kk kk=true:=by cases kk<;>rfl
   simp only[isK,hi,e,A3]
 rename_i b L ti hx hL hti
 split at h
 case h_2=>cases h
 rename_i ro ver ps hl
 split at h
 case h_2=>cases h
 rename_i t ht
 obtain⟨hi,h⟩:=Ao h
 obtain⟨e,hu⟩:=(Bs hC hti).ptr hi
 refine⟨_,_,_,h, ?_, ?_,trivial⟩
 ·intro E X ac hs hR hT hF next Q hn
  subst hs
  have hv:=Bh hT x
  rw[hx] at hv
  generalize hxv:ac.eval x=xv at hv
  cases hv with
  | @pb _ _ _ cb g og hcm hbase hin hne=>
   have hrn:cb.rowN=none:=hne.resolve_right (by simp)
   obtain⟨cb0,w1,w2,w3,w4⟩:=hR.blk b _ hl
   rw[hcm] at w1
   cases w1
   cases w2 with
   | @box g' fps ro v ps cur h1 h2 h3=>
    simp only[CB.base,z8,z9] at hbase
    obtain⟨rfl,rfl⟩:=hbase
    obtain⟨Y,y1,y2,y3,y4,y5,y6,y7⟩:=Aqy hR hl hcm
    obtain⟨Ty,fr,hg,_⟩:=h2
    have htree:=Ajd ht h3 hg (S:=Y.S none) (λ k hk=>y6.2 k hk) (y7 _ (by simp[CB.fp]))
    unfold Oper.wp
    simp only[Bf,yB] at hxv
    simp only[execOp,hop,hxv,Instr.makeInterface,Sem.run_bind,Ay hu,Result.andThen_ok,Sem.run_pure,Oper.upon]
    have:=hn (.iface T (.pointer (some ⟨g',0,none⟩))) Y ⟨y4,y5,y6,by rw[y1];rfl,λ b hb=>.inl (by rw[<-y3];exact hb),.tr (λ b v e=>by cases e) (by rw[y2];exact htree)⟩
    rw[y2] at this
    exact this
   | row=>simp[CB.rowN] at hrn
 ·intro s' ha R' k
  simp only[Au,hop]
  rw[ha.ev x (by simp[hop,Op.operands]),hx,hL,hti]
  have hw:=ha.wr b (by simp[Bm])
  simp only[hw,hl,ht,hi,A3]
end Go.Ev
namespace Go.Ev
variable{R:Type}{E:Env}{X:Cx}{P:Program}{w:World}
theorem Qj{c:Cfg}(hC:Bk P c=true){s:St}{o:Oper}{nb:Nat}{cont:Cm R}{r:R}(h:Au c s o nb cont=some r):Res P c s o nb cont r λ s' k=>Au c s' o nb k:=by
 have none_:∀{p:Prop},(none:Option R)=some r->p:=λ e=>nomatch e
 cases hop:o.op with
 | move x=>exact Agz (.inl hop) h
 | assign x=>exact Agz (.inr hop) h
 | pick x a b=>exact Arn hop h
 | alloc t=>exact Ajs hC hop h
 | box t v=>exact Avs hop h
 | build t ps=>exact Aj6 hC hop h
 | buildSlice t n ps=>exact Wm hC hop h
 | load t a=>exact Arj hC hop h
 | store t a v=>exact An1 hC hop h
 | nilCheck x=>exact Acp hop h
 | binOp op t x y yt=>
  by_cases hy:y=.const .nilIface
  ·subst hy;exact Aiu hC hop h
  ·exact Ajz hC hop hy h
 | typeAssert x xt T ok=>
  cases ok with
  | false=>exact Af0 hC hop h
  | true=>exact W0 hC hop h
 | unOp op t x=>exact Asm hop h
 | convert t d x=>exact Aek hC hop h
 | makeSlice t x y=>exact Zv hC hop h
 | fieldAddr t x f=>exact Zj hC hop h
 | indexAddr t x i=>exact Zr hC hop h
 | index t x i=>exact Amo hC hop h
 | extract x i=>exact Aeu hop h
 | makeInterface T x=>exact Rz hC hop h
 | makeMap t rv=>exact Ae2 hC hop h
 | range t x=>exact Ana hC hop h
 | entry x=>exact Ae5 hop h
 | lookup t m k ok=>exact Aiq hC hop h
 | mapUpdate t m k v=>exact Zw hC hop h
 | mapEntry t m k=>exact Ach hC hop h
 | entryStore t m i v=>exact Wn hC hop h
 | slice t x lo hi m=>
  cases m with
  | none=>exact Afr hC hop h
  | some m=>simp only[Au,hop,D3] at h;exact none_ h
 | makeFunc f fs caps=>
  cases f with
  | func f=>exact Acg hop h
  | _=>simp only[Au,hop,D3] at h;exact none_ h
 | call cl=>
  cases hb:cl.callee with
  | builtin b=>
   cases b with
   | len=>exact Awf hC hop hb h
   | min=>exact Am3 (mx:=false) hop hb h
   | max=>exact Am3 (mx:=true) hop hb h
   | append=>exact Ah5 hC hop hb h
   | _=>simp only[Au,hop,hb] at h;exact none_ h
  | _=>simp only[Au,hop,hb] at h;exact none_ h
 | _=>simp only[Au,hop,D3] at h;exact none_ h
end Go.Ev
namespace Go.Ev
variable{P:Program}{Q:Exit->Act->World->Prop}{a:Act}{w:World}
def wr(ρ:Option Nat):Fence:={fn:=λ _=>True,depth:=none,alive:=false,round:=ρ}
theorem Ars(ρ:Option Nat)(n:Nat):(wr ρ).room n:=λ _ h=>by simp[wr] at h
theorem Aeg{ρ:Option Nat}{n:Nat}{f:FuncId}{args:Array Value}{w:World}{R:Ending->World->Prop}:CallsIn (wr ρ) n P f args w R<->Calls P f args w R:=
 Iff.trans (by unfold CallsIn;exact Iff.rfl) (callsIn_wide (n:=n))
def Gn(o:Oper):Bool:=match o.op with
 | .defer _=>false
 | _=>true
theorem Axv{ρ:Option Nat}{o:Oper}{next:Act->World->Prop}(hd:Gn o=true)(h:o.wp P a w next Q):o.wpIn (wr ρ) 0 P a w next Q:=by
 refine⟨λ _ _=>trivial, ?_⟩
 have e:o.semAt (wr ρ).round a.eval=execOp a.eval o:=Oper.semAt_eq _ _ _ λ c hc=>by simp[Gn,hc] at hd
 rw[e]
 unfold Oper.wp at h
 generalize(execOp a.eval o).run P w=r at*
 cases r with
 | ok x w'=>
  cases x<;>simp only[Oper.upon,Oper.uponIn] at h⊢<;>first
   | exact h
   | exact⟨λ h=>by simp[wr] at h,Aeg.2 h⟩
   | exact⟨λ h=>by simp[wr] at h,λ c cs _=>by
     obtain⟨v,w2,h1,h2⟩:=h c cs
     exact⟨v,w2,h1,stepsIn_wide.2 h2⟩⟩
   | exact h.elim
 | halt x w'=>cases x<;>simp only[Oper.upon,Oper.uponIn] at h⊢<;>exact h
theorem Ahw{ρ:Option Nat}{ops:Array Oper}(hd:∀o∈ops.toList,Gn o=true)(hQ:¬LetsOut Q){i:Nat}{K K':Act->World->Prop}(hK:∀a w,K a w->K' a w)(h:wpOp P ops Q i K a w):wpOpIn (wr ρ) 0 P ops Q i K' a w:=by
 unfold wpOp at h
 unfold wpOpIn
 split
 ·rename_i ho
  simp only[ho] at h
  exact hK _ _ h
 ·rename_i o ho
  simp only[ho] at h
  have hm:Gn o=true:=hd o (by have:=Array.mem_of_getElem? ho;simpa using this)
  split
  ·rename_i hw
   simp only[hw,if_true] at h
   rcases h with h|h
   ·exact Oper.wpIn_mono hK (Axv hm h)
   ·exact(hQ h.2).elim
  ·rename_i hw
   simp only[hw] at h
   exact⟨λ _ _=>trivial,hK _ _ h⟩
theorem Ad0{ρ:Option Nat}{ops:Array Oper}(hd:∀o∈ops.toList,Gn o=true)(hQ:¬LetsOut Q):∀(l:List Nat) (a:Act) (w:World),wpOps P ops Q l a w->wpOpsIn (wr ρ) 0 P ops Q l a w
 | [],_,_,h=>h
 | i::l,a,w,h=>by
  rw[wpOps_cons] at h
  rw[wpOpsIn_cons]
  exact Ahw hd hQ (λ a w h=>Ad0 hd hQ l a w h) h
theorem Adz{ρ:Option Nat}{ops:Array Oper}{md:Region.Mode}(hd:∀o∈ops.toList,Gn o=true)(hQ:¬LetsOut Q):∀(n:Nat) (ls:Array Bool) (a:Act) (w:World),wpAny P md ops Q n ls a w->wpAnyIn (wr ρ) 0 P md ops Q n ls a w
 | 0,_,_,_,h=>h
 | n+1,ls,a,w,h=>⟨h.1,λ i hi=>Ahw hd hQ (λ a w h=>Adz hd hQ n _ a w h) (h.2 i hi)⟩
abbrev _root_.Go.Code.wr(ρ:Option Nat)(P:Program)(c:Code)(Q:Exit->Act->World->Prop)(a:Act)(w:World):Prop:=c.wpIn (Ev.wr ρ) 0 P Q a w
variable{ρ:Option Nat}
theorem D0{c:Code}{Q':Exit->Act->World->Prop}(h:c.wr ρ P Q a w)(hq:∀e a w,Q e a w->Q' e a w):c.wr ρ P Q' a w:=wpIn_mono h hq
theorem Ahy(h:Q .normal a w):Code.skip.wr ρ P Q a w:=wpIn_skip h
theorem Ap9{l:Nat}(h:Q .normal a w):(Code.label l).wr ρ P Q a w:=wpIn_label h
theorem Ahx{id:Nat}(h:Q (.exit id) a w):(Code.exit id).wr ρ P Q a w:=wpIn_exit h
theorem Axd(h:Q .ret a w):Code.ret.wr ρ P Q a w:=wpIn_ret h
theorem Ju{x y:Code}(h:x.wr ρ P (Exit.then (y.wr ρ P Q) Q) a w):(Code.seq x y).wr ρ P Q a w:=wpIn_seq h
theorem Q5{c:Operand}{x y:Code}(hc:a.eval c=.bool true)(h:x.wr ρ P Q a w):(Code.cond c x y).wr ρ P Q a w:=wpIn_cond_true hc h
theorem Nx{c:Operand}{x y:Code}(hc:a.eval c=.bool false)(h:y.wr ρ P Q a w):(Code.cond c x y).wr ρ P Q a w:=wpIn_cond_false hc h
theorem Mh{id:Nat}{c:Code}(h:c.wr ρ P (Exit.inBlock id Q) a w):(Code.block id c).wr ρ P Q a w:=wpIn_block h
theorem Sd{id:Nat}{ops:Array Oper}(hd:∀o∈ops.toList,Gn o=true)(hQ:¬LetsOut Q)(h:wpOps P ops Q (yU ops.size) a w):(Code.region id ops false).wr ρ P Q a w:=wpIn_region (Ad0 hd hQ _ _ _ h)
theorem Ny{id:Nat}{ops:Array Oper}(hm:P.follows .mixedOrders=true)(hd:∀o∈ops.toList,Gn o=true)(hQ:¬LetsOut Q)
  (h:wpAny P .any ops Q ops.size (Array.replicate ops.size false) a {w with drawn:=w.drawn+1}):(Code.region id ops true).wr ρ P Q a w:=wpIn_region_any hm (Adz hd hQ _ _ _ _ h)
def Ha(ρ:Option Nat)(P:Program)(c:Code)(Q:Exit->Act->World->Prop)(a:Act)(w:World):Prop:=
 ∀(b:Frame) (k:List Item) (cs:List Frame),b.roundOf=ρ->∃e a' w',Q e a' w'/\ArrivesIn (Machine.fenced P Fence.wide) P (lone (b.atR a (.code c::.inLoop c::k)) cs w) b k cs e a' w'
theorem Axo(fr:Frame)(cs:List Frame)(w:World):(lone fr cs w).fenced P Fence.wide:=fenced_wide P _
theorem Ha.start{c:Code}(h:Ha ρ P c Q a w):(Code.loop c).wr ρ P Q a w:=by
 intro b k cs hro _ _
 obtain⟨e,a',w',hq,harr⟩:=h b k cs hro
 exact⟨e,a',w',hq,.of_steps (.one (Axo _ _ _) stepR_loop) harr⟩
theorem Ha.round{c:Code}(h:c.wr ρ P (Exit.then (Ha ρ P c Q) Q) a w):Ha ρ P c Q a w:=by
 intro b k cs hro
 obtain⟨e,a₁,w₁,hq,harr⟩:=h b (.inLoop c::k) cs hro trivial (Ars _ _)
 have harr:ArrivesIn (Machine.fenced P Fence.wide) P (lone (b.atR a (.code c::.inLoop c::k)) cs w) b (.inLoop c::k) cs e a₁ w₁:=harr
 cases e with
 | normal=>
  obtain⟨e₂,a₂,w₂,hq₂,harr₂⟩:=hq b k cs hro
  exact⟨e₂,a₂,w₂,hq₂,.of_steps (StepsIn.trans harr (.one (Axo _ _ _) stepR_inLoop)) harr₂⟩
 | exit id=>exact⟨_,a₁,w₁,hq,.pass (x:=.inLoop c) rfl (λ _ _=>.inl (by simp)) harr⟩
 | goto l=>exact⟨_,a₁,w₁,hq,.pass (x:=.inLoop c) rfl (λ _ _=>.inl (by simp)) harr⟩
 | ret=>exact⟨_,a₁,w₁,hq,.pass (x:=.inLoop c) rfl (λ _ _=>.inl (by simp)) harr⟩
 | panic ch=>exact⟨_,a₁,w₁,hq,.pass (x:=.inLoop c) rfl (λ _ _=>.inl (by simp)) harr⟩
 | outgrown=>exact⟨_,a₁,w₁,hq,.pass (x:=.inLoop c) rfl (λ _ _=>.inl (by simp)) harr⟩
end Go.Ev
namespace Go.Ev
variable{P:Program}
structure Ue(o:Oper)(d:Nat)(op:Op)(g:Option (Nat×Bool)):Prop where
 dst:o.dst=some d
 op:o.op=op
 guard:o.guard=g
variable{Q:Exit->Act->World->Prop}{w:World}
def Axg(K:Nat)(c:Code):Prop:=∃(i0 i1 i2 b0 b1 tI tJ tI' tJ':Nat) (ts:Array TypeId) (o0 p0 p1 p2 p3 p4 p5 p6 q0 q1 q2:Oper),
 c=.seq (.region i0 #[o0] false) (.block b0 (.loop (.seq (.seq (.region i1 #[p0,p1,p2,p3,p4,p5,p6] false) (.cond (.tmp 9) .skip (.exit b0))) (.seq (.block b1 .skip) (.region i2 #[q0,q1,q2] false)))))/\
 Ue o0 2 (.assign (.const (.int .i64 0))) none/\Ue p0 3 (.move (.tmp 2)) none/\Ue p1 4 (.binOp .lss tI (.tmp 3) (.const (.int .i64 (K:Int))) tJ) none/\Ue p2 5 (.move (.tmp 4)) none/\
 Ue p3 6 (.move (.tmp 0)) (some (2,true))/\Ue p4 7 (.move (.tmp 2)) (some (2,true))/\Ue p5 8 (.call {callee:=.value (.tmp 6),args:= #[.tmp 7],argTypes:=ts}) (some (2,true))/\Ue p6 9 (.pick (.tmp 5) (.tmp 8) (.const (.bool false))) none/\
 Ue q0 10 (.move (.tmp 2)) none/\Ue q1 11 (.binOp .add tI' (.tmp 10) (.const (.int .i64 1)) tJ') none/\Ue q2 2 (.assign (.tmp 11)) none
end Go.Ev
namespace Go.Ev
structure Sim(X Y:Cx)(ok:Nat->Nat->Bool)(sh:Nat)(m:List (Nat×Nat)):Prop where
 w:Y.w=X.w
 cm:∀b b' cb,look b m=some b'->X.cm b=some cb->Y.cm b'=some cb
 reg:∀p p',pvR sh m p=some p'->(∀b v,p≠.ver b v)->∀g,X.Sof p g->Y.Sof p' g
 okv:∀b v,ok b v=true->valid X.s (.ver b v)=true
 row:∀b b' v K l ro,ok b v=true->look b m=some b'->look b X.s.st=some (.cell ro v [.rw K l])->∃ro',look b' Y.s.st=some (.cell ro' 0 [.rw K l])
variable{X Y:Cx}{ok:Nat->Nat->Bool}{sh:Nat}{m:List (Nat×Nat)}
theorem Sim.keep(S:Sim X Y ok sh m):∀g,X.S none g->Y.S none g/\Y.w.heap[g]?=X.w.heap[g]?:=λ g hg=>by
 refine⟨S.reg .frz .frz ?_ (λ b v e=>by cases e) g hg,by rw[S.w]⟩
 match sh with
 | 0=>rfl
 | 1=>rfl
 | n+2=>rfl
theorem Qi{α β:Type}{f:α->Option β}{qs:List β}(h:([]:List α).mapM f=some qs):qs=[]:=by
 simp at h;exact h
theorem mapM_cons{α β:Type}{f:α->Option β}{a:α}{r:List α}{qs:List β}(h:(a::r).mapM f=some qs):∃b bs,f a=some b/\r.mapM f=some bs/\qs=b::bs:=by
 rw[List.mapM_cons] at h
 cases h1:f a with
 | none=>rw[h1] at h;simp at h
 | some b=>
  rw[h1] at h
  simp only[Option.bind_eq_bind,zM] at h
  cases h2:r.mapM f with
  | none=>rw[h2] at h;simp at h
  | some bs=>
   rw[h2] at h
   simp at h
   exact⟨b,bs,rfl,rfl,h.symm⟩
theorem gd{t:Bool}{k:Option AV}{a':AV}(h:(bif t then k else some .un)=some a'):a'=.un\/(t=true/\k=some a'):=by
 cases t
 ·simp at h;exact .inl h.symm
 ·exact .inr ⟨rfl,h⟩
theorem Yh{n:Nat}{a a':AV}(h:ren ok sh m n a=some a')(ha:a.plain=true):a'.plain=true:=by
  cases n with
  | zero=>simp[ren] at h
  | succ n=>
    by_cases ht:∃q t,a=.tr q t
    · obtain⟨q,t,rfl⟩:=ht
      simp only[ren] at h
      cases hq:G3 q<;>rw[hq] at h<;>simp only[cond_true,cond_false] at h
      · cases h
      · split at h
        · cases h;rfl
        · cases h
    cases a<;>(try exact(ht ⟨_,_,rfl⟩).elim)<;>simp only[ren] at h<;>(try(simp[AV.plain] at ha;done))<;>
      first
        | (simp only[z8] at h;subst h;rfl)
        | (rcases gd h with rfl|⟨_,h⟩
           · rfl
           · (repeat' split at h)<;>first|(cases h;done)|(cases h;rfl))
        | (split at h
           · first
              | (cases h;rfl)
              | (rcases gd h with rfl|⟨_,h⟩
                 · rfl
                 · (repeat' split at h)<;>first|(cases h;done)|(cases h;rfl))
           · cases h)
theorem Mj{n:Nat}(hw:∀g,X.S none g->Y.S none g/\Y.w.heap[g]?=X.w.heap[g]?)(ih':Y.w=X.w)(ih:∀a v a',VRel X a v->ren ok sh m n a=some a'->VRel Y a' v):∀{ps qs:List AV} {cs:List Value} {fp:List Nat},PRs X ps cs fp->ps.mapM (ren ok sh m n)=some qs->(∀a∈ps,a.norw=true)->
  PRs Y qs cs fp/\∀a∈qs,a.norw=true
 | _,qs,_,_,.nil,h,_=>by rw[Qi h];exact⟨.nil,by simp⟩
 | _,qs,_,_,.one h1 h2 h3 h4,h,hn=>by
  obtain⟨b,bs,e1,e2,rfl⟩:=mapM_cons h
  obtain⟨k1,k2⟩:=Mj hw ih' ih h4 e2 (λ a ha=>hn a (by simp[ha]))
  have hp:=Yh e1 h1
  refine⟨.one hp h2 (ih _ _ _ h3 e1) k1, ?_⟩
  intro a ha
  rcases List.mem_cons.1 ha with rfl|ha
  ·cases a<;>first|rfl|simp[AV.plain] at hp
  ·exact k2 a ha
 | _,qs,_,_,.arr h1 h2 h3,h,hn=>by
  obtain⟨b,bs,e1,e2,rfl⟩:=mapM_cons h
  obtain⟨k1,k2⟩:=Mj hw ih' ih h3 e2 (λ a ha=>hn a (by simp[ha]))
  cases n with
  | zero=>simp[ren] at e1
  | succ n=>
   simp only[ren,z8] at e1
   subst e1
   refine⟨.arr h1 (h2.move hw λ g _=>by rw[ih']) k1, ?_⟩
   intro a ha
   rcases List.mem_cons.1 ha with rfl|ha
   ·rfl
   ·exact k2 a ha
 | _,qs,_,_,.nl h1 h3,h,hn=>by
  obtain⟨b,bs,e1,e2,rfl⟩:=mapM_cons h
  obtain⟨k1,k2⟩:=Mj hw ih' ih h3 e2 (λ a ha=>hn a (by simp[ha]))
  cases n with
  | zero=>simp[ren] at e1
  | succ n=>
   simp only[ren,z8] at e1
   subst e1
   refine⟨.nl (h1.move hw λ g _=>by rw[ih']) k1, ?_⟩
   intro a ha
   rcases List.mem_cons.1 ha with rfl|ha
   ·rfl
   ·exact k2 a ha
 | _,qs,_,_,.rw h2 h3,h,hn=>by
  have:=hn _ (List.mem_cons_self ..)
  simp[AV.norw] at this
theorem Re{n:Nat}(ih:∀a v a',VRel X a v->ren ok sh m n a=some a'->VRel Y a' v):∀{ps qs:List AV} {vs:List Value},B6 X ps vs->ps.mapM (ren ok sh m n)=some qs->B6 Y qs vs
 | _,qs,_,.nil,h=>by rw[Qi h];exact .nil
 | _,qs,_,.cons h1 h2,h=>by
  obtain⟨b,bs,e1,e2,rfl⟩:=mapM_cons h
  exact .cons (ih _ _ _ h1 e1) (Re ih h2 e2)
theorem Sim.at(S:Sim X Y ok sh m){b b' v i f:Nat}{K:Ki}{l:List K.den}{u:Value}(ho:ok b v=true)(hb:look b m=some b')(h:At X b i f K l u):At Y b' i f K l u:=by
 obtain⟨g,og,n,c,sz,fp,K0,l0,ver,ro,h1,h2,h3,h4,h5,h6⟩:=h
 obtain⟨ro2,K2,l2,k1,_⟩:=Sb (S.okv b v ho)
 rw[h2] at k1
 cases k1
 obtain⟨ro',k2⟩:=S.row b b' v _ _ ro ho hb h2
 exact⟨g,og,n,c,sz,fp,K0,l0,0,ro',S.cm b b' _ hb h1,k2,h3,h4,h5,by rw[S.w];exact h6⟩
theorem Sim.kn(S:Sim X Y ok sh m){b b' v:Nat}(hb:look b m=some b')(h:Kn X (.ver b v)):Kn Y (.ver b' 0):=by
 obtain⟨cb,h1,_⟩:=h
 exact⟨cb,S.cm b b' cb hb h1,λ _ _ _ _=>yR _⟩
theorem Sim.pv(S:Sim X Y ok sh m){p p':Cj}(hg:(match p with|.ver b v=>ok b v|_=>true)=true)(hp:pvR sh m p=some p')(hk:Kn X p):valid X.s p=true/\Kn Y p'/\(∀g,X.Sof p g->Y.Sof p' g)/\((∀b v,p≠.ver b v)->∀b v,p'≠.ver b v):=by
  cases p with
  | frz=>
    have e:p'=.frz:=by
      unfold pvR Iz at hp
      split at hp<;>first|(simp at hp;exact hp.symm)|(simp at hp)
    subst e
    exact⟨rfl,trivial,S.reg _ _ hp (by simp),by simp⟩
  | reg n=>
    have e:∃k,p'=.reg k:=by
      unfold pvR Iz at hp
      split at hp
      · simp at hp;exact⟨_,hp.symm⟩
      · simp at hp;exact⟨_,hp.symm⟩
      · simp only[cond_false] at hp
        cases n with
        | zero=>simp at hp
        | succ n=>simp at hp;exact⟨_,hp.symm⟩
    obtain⟨k,rfl⟩:=e
    exact⟨rfl,trivial,S.reg _ _ hp (by simp),by simp⟩
  | ver b v=>
    simp only at hg
    have e:∃b',look b m=some b'/\p'=.ver b' 0:=by
      unfold pvR Iz at hp
      split at hp
      · simp only at hp
        split at hp
        · rename_i b' hb;cases hp;exact⟨b',hb,rfl⟩
        · cases hp
      · simp at hp
      · simp at hp
    obtain⟨b',hb,rfl⟩:=e
    refine⟨S.okv b v hg,S.kn hb hk, ?_,λ h=>(h b v rfl).elim⟩
    rintro g ⟨cb,hc,hgm⟩
    exact⟨cb,S.cm b b' cb hb hc,hgm⟩
theorem Tz{S S' Z Z':Nat->Prop}{K:Ki}{l:List K.den}{cs:List Value}(hw:Y.w=X.w)(hS:∀g,S g->S' g)(hZ:∀g,Z g->Z' g)(h:Cw (Rep X.w S Z K false) l cs []):Cw (Rep Y.w S' Z' K false) l cs []:=
 Dq h (λ g hg=>⟨hS g hg,by rw[hw]⟩) λ g hg=>⟨hZ g hg,by rw[hw]⟩
theorem O8(S:Sim X Y ok sh m):∀{n:Nat} {a a':AV} {v:Value},VRel X a v->ren ok sh m n a=some a'->VRel Y a' v
 | 0,_,_,_,_,h=>by simp[ren] at h
 | n+1,a,a',v,hv,h=>by
  have ih:∀a v a',VRel X a v->ren ok sh m n a=some a'->VRel Y a' v:=λ a v a' hv h=>O8 S hv h
  cases hv with
  | un=>simp only[ren,z8] at h;subst h;exact .un _
  | bool=>simp only[ren,z8] at h;subst h;exact .bool _
  | int=>simp only[ren,z8] at h;subst h;exact .int _ _
  | str=>simp only[ren,z8] at h;subst h;exact .str _
  | nils=>simp only[ren,z8] at h;subst h;exact .nils
  | nz=>simp only[ren,z8] at h;subst h;exact .nz _
  | nilp=>simp only[ren,z8] at h;subst h;exact .nilp
  | nilf=>simp only[ren,z8] at h;subst h;exact .nilf
  | nili=>simp only[ren,z8] at h;subst h;exact .nili
  | nilm=>simp only[ren,z8] at h;subst h;exact .nilm
  | @tr q t _ hq ht=>
   simp only[ren] at h
   cases hv:G3 q<;>rw[hv] at h<;>simp only[cond_true,cond_false] at h
   ·cases h
   split at h
   case h_2=>cases h
   rename_i p' hp'
   cases h
   refine .tr ?_ (ht.move λ g hg=>⟨S.reg _ _ hp' hq g hg,by rw[S.w]⟩)
   rintro b v0 rfl
   cases q with
   | ver b v=>exact(hq b v rfl).elim
   | _=>simp only[pvR] at hp';(split at hp'<;>simp[Iz] at hp'<;>(try split at hp')<;>simp at hp')
  | arr hl hr=>simp only[ren,z8] at h;subst h;exact .arr hl (hr.move S.keep λ g _=>by rw[S.w])
  | sl e=>
   simp only[ren] at h
   split at h
   case h_2=>cases h
   rename_i b' hb
   cases h
   exact .sl (S.cm _ _ _ hb e)
  | ss0 e ho=>
   simp only[ren] at h
   split at h
   case h_2=>cases h
   rename_i b' hb
   cases h
   exact .ss0 (S.cm _ _ _ hb e) ho
  | ss e h1 h2 h3=>
   simp only[ren] at h
   split at h
   case h_2=>cases h
   rename_i b' hb
   cases h
   exact .ss (S.cm _ _ _ hb e) h1 h2 h3
  | mp e=>
   simp only[ren] at h
   split at h
   case h_2=>cases h
   rename_i b' hb
   cases h
   exact .mp (S.cm _ _ _ hb e)
  | pb e hb hp hn=>
   simp only[ren] at h
   split at h
   case h_2=>cases h
   rename_i b' hb'
   cases h
   exact .pb (S.cm _ _ _ hb' e) hb hp hn
  | ro h1 h2 hk hr=>
   simp only[ren] at h
   rcases gd h with rfl|⟨hg,h⟩
   ·exact .un _
   split at h
   case h_2=>cases h
   rename_i p' hp
   cases h
   obtain⟨k1,k2,k3,_⟩:=S.pv hg hp hk
   exact .ro h1 h2 k2 λ _=>Fv (hr k1) (λ g hg=>⟨k3 g hg,by rw[S.w]⟩) λ cs hc=>Tz S.w k3 (λ g hg=>(S.keep g hg).1) hc
  | vw h1 h2 hk hr=>
   rename_i b v i f K l A c
   simp only[ren] at h
   split at h
   case h_2=>cases h
   rcases gd h with rfl|⟨hg,h⟩
   ·exact .un _
   split at h
   case h_2=>cases h
   rename_i b' hb
   cases h
   exact .vw h1 h2 (S.kn hb hk) λ _=>S.at hg hb (hr (S.okv _ _ hg))
  | pn hn hp hk hr=>
   rename_i b v i f K l p g og
   simp only[ren] at h
   split at h
   case h_2=>cases h
   rcases gd h with rfl|⟨hg,h⟩
   ·exact .un _
   split at h
   case h_2=>cases h
   rename_i b' hb
   cases h
   refine .pn hn hp (S.kn hb hk) λ _=> ?_
   obtain⟨n',c',ha⟩:=hr (S.okv _ _ hg)
   exact⟨n',c',S.at hg hb ha⟩
  | po hn hp hk hr=>
   simp only[ren] at h
   rcases gd h with rfl|⟨hg,h⟩
   ·exact .un _
   split at h
   case h_2=>cases h
   rename_i p' hp'
   cases h
   obtain⟨k1,k2,k3,_⟩:=S.pv hg hp' hk
   refine .po hn hp k2 λ _=> ?_
   obtain⟨cur,t,fr,q1,q2,q3,q4⟩:=hr k1
   exact⟨cur,t,fr,k3 _ q1,by rw[S.w];exact q2,q3,Tz S.w k3 (λ g hg=>(S.keep g hg).1) q4⟩
  | @pr q ps o p g og cur t fr nn h1 h2 h3 h4 h5 h6 h7=>
   simp only[ren] at h
   rcases gd h with rfl|⟨hg,h⟩
   ·exact .un _
   split at h
   case h_2=>cases h
   rename_i p' hp'
   split at h
   case h_2=>cases h
   rename_i qs hqs
   cases h
   have hk:Kn X q:=by cases q with
    | frz=>trivial
    | reg=>trivial
    | ver b v=>exact(h6 b v rfl).elim
   obtain⟨k1,k2,k3,k4⟩:=S.pv (by cases q with
    | frz=>rfl
    | reg=>rfl
    | ver b v=>exact(h6 b v rfl).elim) hp' hk
   obtain⟨q1,q2⟩:=Mj S.keep S.w ih h4 hqs h5
   exact .pr (k3 _ h1) (by rw[S.w];exact h2) h3 q1 q2 (k4 h6) h7
  | agg hp hn=>
   simp only[ren] at h
   split at h
   case h_2=>cases h
   rename_i qs hqs
   cases h
   obtain⟨q1,q2⟩:=Mj S.keep S.w ih hp hqs hn
   exact .agg q1 q2
  | fn hp=>
   simp only[ren] at h
   split at h
   case h_2=>cases h
   rename_i qs hqs
   cases h
   exact .fn (Re ih hp hqs)
  | tup hp=>
   simp only[ren] at h
   split at h
   case h_2=>cases h
   rename_i qs hqs
   cases h
   exact .tup (Re ih hp hqs)
  | ifc hv=>
   simp only[ren] at h
   split at h
   case h_2=>cases h
   rename_i x hx
   cases h
   exact .ifc (O8 S hv hx)
theorem T5(S:Sim X Y ok sh m){x y:Blk}{cb:CB}(h:I3 X cb x)(hy:Lx ok sh m x=some y):I3 Y cb y:=by
 cases h with
 | box h1 h2 h3=>
  simp only[Lx] at hy
  split at hy
  case h_2=>cases hy
  rename_i qs hqs
  cases hy
  obtain⟨q1,q2⟩:=Mj S.keep S.w (λ a v a' hv h=>O8 S hv h) h3 hqs h1
  exact .box q2 (S.w▸h2) q1
 | row h1 h2 h3=>
  simp only[Lx] at hy
  split at hy
  case h_2=>cases hy
  rename_i qs hqs
  cases hy
  obtain⟨b,bs,e1,e2,rfl⟩:=mapM_cons hqs
  rw[Qi e2]
  simp only[ren,z8] at e1
  subst e1
  exact .row h1 h2 (h3.move S.keep λ g _=>by rw[S.w])
 | map h1 h2=>
  simp only[Lx] at hy
  cases hy
  exact .map (S.w▸h1) h2
 | bld h1=>
  simp only[Lx] at hy
  cases hy
  exact .bld (S.w▸h1)
 | iter h1 h2 h3 h4 h5=>
  simp only[Lx] at hy
  split at hy
  case h_2=>cases hy
  rename_i b' hb'
  cases hy
  exact .iter (S.cm _ _ _ hb' h1) (S.w▸h2) h3 h4 h5
end Go.Ev
namespace Go.Ev
def Aaq(X:Cx)(hs:List Nat)(g:Nat):Prop:=∃b x cb,b∈hs/\look b X.s.st=some x/\X.cm b=some cb/\g∈cb.fp
structure Ja(E:Env)(X Y:Cx)(hs:List Nat):Prop where
 rel:Rel E X
 w:Y.w=X.w
 S:∀g,g<X.w.heap.size->¬Aaq X hs g->Y.Sof (.reg 0) g
 Z:∀g,X.S none g->Y.S none g
 R:∀n g,X.S (some n) g->Y.Sof (.reg 1) g
variable{E:Env}{X Y:Cx}{hs:List Nat}
theorem Ja.keep(L:Ja E X Y hs):∀g,X.S none g->Y.S none g/\Y.w.heap[g]?=X.w.heap[g]?:=λ g hg=>⟨L.Z g hg,by rw[L.w]⟩
theorem Ja.own(L:Ja E X Y hs){b:Nat}{x:Blk}{cb:CB}{g:Nat}(hb:H0 b hs=false)(hl:look b X.s.st=some x)(hc:X.cm b=some cb)(hg:g∈cb.fp):Y.Sof (.reg 0) g:=by
 obtain⟨cb',h1,_,_,h4⟩:=L.rel.blk b x hl
 rw[hc] at h1
 cases h1
 refine L.S g (h4 g hg).1 ?_
 rintro⟨b',x',cb',m1,m2,m3,m4⟩
 have:=L.rel.dis b b' x x' cb cb' g hl m2 hc m3 hg m4
 subst this
 rw[Gm.2 m1] at hb
 cases hb
theorem Ja.sof(L:Ja E X Y hs){p:Cj}(hv:valid X.s p=true)(hm:∀b v,p=.ver b v->H0 b hs=false):∀g,X.Sof p g->Y.Sof (Nt p) g:=by
 intro g hg
 cases p with
 | frz=>exact L.Z g hg
 | reg n=>
  rcases hg with⟨m,_,hg⟩|hg
  ·exact L.R m g hg
  ·exact .inr (L.Z g hg)
 | ver b v=>
  obtain⟨ro,K,l,hl,_⟩:=Sb hv
  obtain⟨cb,hc,hgm⟩:=hg
  exact L.own (hm b v rfl) hl hc hgm
theorem Ja.live(L:Ja E X Y hs){p:Cj}(h:Qf X.s hs p=true):valid X.s p=true/\∀g,X.Sof p g->Y.Sof (Nt p) g:=by
 have hv:valid X.s p=true:=by
  cases p with
  | frz=>rfl
  | reg=>rfl
  | ver b v=>simp only[Qf,zA] at h;exact h.1
 refine⟨hv,L.sof hv ?_⟩
 rintro b v rfl
 simp only[Qf,zA,zT] at h
 exact h.2
theorem Af5(Y:Cx)(p:Cj):Kn Y (Nt p):=by cases p<;>trivial
theorem Sz(p:Cj):∀b v0,Nt p≠.ver b v0:=by cases p<;>simp[Nt]
theorem Ja.ro(L:Ja E X Y hs){K:Ki}{l:List K.den}{n:Nat}{A:Option Addr}{c:Nat}{fp:List Nat}(hn:n=l.length)(h:Gf X.w K.size n (A0 X.w (X.S none) K l) (.slice A n c) fp)(hp:∀g∈fp,Y.Sof (.reg 0) g):VRel Y (.ro (.reg 0) K l) (.slice A n c):=by
 subst hn
 obtain⟨k1,k2,k3⟩:=h.ro (S:=Y.Sof (.reg 0)) rfl hp
 exact .ro k1 k2 trivial λ _=>Fv k3 (λ g hg=>⟨hg,by rw[L.w]⟩) λ cs hc=>Dq hc (λ g hg=>⟨hg,by rw[L.w]⟩) L.keep
theorem Eb{f:AV->Option (AV×List Nat)}{p:AV}{r:List AV}{qs:List AV}{l:List Nat}(h:Bn.snapL f (p::r)=some (qs,l)):∃x l1 y l2,f p=some (x,l1)/\Bn.snapL f r=some (y,l2)/\qs=x::y/\l=l1++l2:=by
 simp only[Bn.snapL] at h
 split at h
 case h_2=>cases h
 rename_i x l1 h1
 split at h
 case h_2=>cases h
 rename_i y l2 h2
 cases h
 exact⟨x,l1,y,l2,h1,h2,rfl,rfl⟩
theorem Qx(L:Ja E X Y hs):∀{ps qs:List AV} {l:List Nat} {cs:List Value} {fp:List Nat},PRs X ps cs fp->(∀g∈fp,Y.Sof (.reg 0) g)->Bn.snapL Bn.snapP ps=some (qs,l)->PRs Y qs cs []/\∀a∈qs,a.norw=true
 | _,qs,l,_,_,.nil,_,h=>by
  simp only[Bn.snapL,z8,z9] at h
  rw[<-h.1]
  exact⟨.nil,by simp⟩
 | _,qs,l,_,_, @PRs.one _ a v r cs fp h1 h2 h3 h4,hf,h=>by
  obtain⟨x,l1,y,l2,e1,e2,rfl,rfl⟩:=Eb h
  obtain⟨k1,k2⟩:=Qx L h4 hf e2
  have key:VRel Y x v/\x.plain=true:=by
   cases h3<;>simp only[Bn.snapP] at e1<;>first
    | (cases e1;done)
    | (cases e1;exact⟨.bool _,rfl⟩)
    | (cases e1;exact⟨.int _ _,rfl⟩)
    | (cases e1;exact⟨.str _,rfl⟩)
    | (simp[AV.plain] at h1;done)
    | skip
   rename_i q K l A c p1 p2 p3 p4
   cases q with
   | frz=>
    simp only[z8,z9] at e1
    rw[<-e1.1]
    exact⟨.ro p1 p2 trivial λ _=>Fv (p4 rfl) (λ g hg=>⟨L.Z g hg,by rw[L.w]⟩) λ cs hc=>Dq hc L.keep L.keep,rfl⟩
   | _=>simp at e1
  refine⟨.one key.2 h2 key.1 k1, ?_⟩
  intro z hz
  rcases List.mem_cons.1 hz with rfl|hz
  ·have:=key.2
   cases z<;>first|rfl|simp[AV.plain] at this
  ·exact k2 z hz
 | _,qs,l,_,_,.arr h1 h2 h3,hf,h=>by
  obtain⟨x,l1,y,l2,e1,e2,rfl,rfl⟩:=Eb h
  obtain⟨k1,k2⟩:=Qx L h3 (λ g hg=>hf g (by simp[hg])) e2
  simp only[Bn.snapP] at e1
  rename_i K _ _ _ _ _ _
  cases hn:K.nest<;>rw[hn] at e1<;>simp only[cond_true,cond_false] at e1
  ·cases e1
   have:=Mm hn h2
   subst this
   refine⟨.arr h1 (h2.move L.keep λ g _=>by rw[L.w]) k1, ?_⟩
   intro z hz
   rcases List.mem_cons.1 hz with rfl|hz
   ·rfl
   ·exact k2 z hz
  ·cases e1
 | _,qs,l,_,_, @PRs.nl _ K ll v r cs f1 fp h1 h3,hf,h=>by
  obtain⟨x,l1,y,l2,e1,e2,rfl,rfl⟩:=Eb h
  obtain⟨k1,k2⟩:=Qx L h3 (λ g hg=>hf g (by simp[hg])) e2
  simp only[Bn.snapP,z8,z9] at e1
  obtain⟨rfl,rfl⟩:=e1
  obtain⟨A,c,rfl,hA⟩:=h1
  refine⟨.one rfl rfl (L.ro rfl ⟨A,c,rfl,hA⟩ λ g hg=>hf g (by simp[hg])) k1, ?_⟩
  intro z hz
  rcases List.mem_cons.1 hz with rfl|hz
  ·rfl
  ·exact k2 z hz
 | _,qs,l,_,_,.rw h2 h3,hf,h=>by
  obtain⟨x,l1,y,l2,e1,e2,rfl,rfl⟩:=Eb h
  simp[Bn.snapP] at e1
theorem Aft{s:St}{n:Nat}{a a':AV}{r:List Nat}(h:Bn s hs n a=some (a',r))(ha:a.plain=true):a'.plain=true:=by
 cases n with
 | zero=>simp[Bn] at h
 | succ n=>
  unfold Bn at h
  cases a<;>simp only at h<;>(try(simp[AV.plain] at ha;done))<;>(repeat' split at h)<;>
   first
    | contradiction
    | (cases h;done)
    | (cases h;rfl)
    | (obtain⟨_,h⟩:=Ao h;(repeat' split at h)<;>first|(cases h;done)|(cases h;rfl))
end Go.Ev
namespace Go.Ev
variable{E:Env}{X Y:Cx}{hs:List Nat}
theorem Mc(L:Ja E X Y hs){n:Nat}(ih:∀a v a' r,VRel X a v->Bn X.s hs n a=some (a',r)->VRel Y a' v):
  ∀{ps qs:List AV} {l:List Nat} {cs:List Value} {fp:List Nat},PRs X ps cs fp->(fp=[]\/Bn.hasRow ps=false)->Bn.snapL (Bn X.s hs n) ps=some (qs,l)->PRs Y qs cs []/\∀a∈qs,a.norw=true
 | _,qs,l,_,_,.nil,_,h=>by
  simp only[Bn.snapL,z8,z9] at h
  rw[<-h.1]
  exact⟨.nil,by simp⟩
 | _,qs,l,_,_, @PRs.one _ a v r cs fp h1 h2 h3 h4,hf,h=>by
  obtain⟨x,l1,y,l2,e1,e2,rfl,rfl⟩:=Eb h
  obtain⟨k1,k2⟩:=Mc L ih h4 (hf.imp id λ hr=>by cases a<;>first|exact hr|simp[AV.plain] at h1) e2
  have hp:=Aft e1 h1
  refine⟨.one hp h2 (ih _ _ _ _ h3 e1) k1, ?_⟩
  intro z hz
  rcases List.mem_cons.1 hz with rfl|hz
  ·cases z<;>first|rfl|simp[AV.plain] at hp
  ·exact k2 z hz
 | _,qs,l,_,_, @PRs.arr _ m K ll r c1 cs f1 fp h1 h2 h3,hf,h=>by
  obtain⟨x,l1,y,l2,e1,e2,rfl,rfl⟩:=Eb h
  have hf1:f1=[]:=by
   rcases hf with hf|hf
   ·exact(List.append_eq_nil_iff.1 hf).1
   ·simp only[Bn.hasRow,zZ] at hf
    exact Mm hf.1 h2
  obtain⟨k1,k2⟩:=Mc L ih h3 (hf.imp (λ hf=>(List.append_eq_nil_iff.1 hf).2) λ hr=>by simp only[Bn.hasRow,zZ] at hr;exact hr.2) e2
  subst hf1
  cases n with
  | zero=>simp[Bn] at e1
  | succ n=>
   simp only[Bn,z8,z9] at e1
   obtain⟨rfl,rfl⟩:=e1
   refine⟨.arr h1 (h2.move L.keep λ g _=>by rw[L.w]) k1, ?_⟩
   intro z hz
   rcases List.mem_cons.1 hz with rfl|hz
   ·rfl
   ·exact k2 z hz
 | _,qs,l,_,_,.nl h1 h3,hf,h=>by
  obtain⟨x,l1,y,l2,e1,e2,rfl,rfl⟩:=Eb h
  cases n<;>simp[Bn] at e1
 | _,qs,l,_,_,.rw h2 h3,hf,h=>by
  obtain⟨x,l1,y,l2,e1,e2,rfl,rfl⟩:=Eb h
  cases n<;>simp[Bn] at e1
theorem Ahg(L:Ja E X Y hs):∀{n:Nat} {a a':AV} {v:Value} {r:List Nat},VRel X a v->Bn X.s hs n a=some (a',r)->VRel Y a' v
  | 0,_,_,_,_,_,h=>by simp[Bn] at h
  | n+1,a,a',v,r,hv,h=>by
    have ih:∀a v a' r,VRel X a v->Bn X.s hs n a=some (a',r)->VRel Y a' v:=λ a v a' r hv h=>Ahg L hv h
    cases hv with
    | un=>simp only[Bn,z8,z9] at h;rw[<-h.1];exact .un _
    | bool=>simp only[Bn,z8,z9] at h;rw[<-h.1];exact .bool _
    | int=>simp only[Bn,z8,z9] at h;rw[<-h.1];exact .int _ _
    | str=>simp only[Bn,z8,z9] at h;rw[<-h.1];exact .str _
    | nils=>simp only[Bn,z8,z9] at h;rw[<-h.1];exact .nils
    | nilp=>simp only[Bn,z8,z9] at h;rw[<-h.1];exact .nilp
    | nilf=>simp only[Bn,z8,z9] at h;rw[<-h.1];exact .nilf
    | nili=>simp only[Bn,z8,z9] at h;rw[<-h.1];exact .nili
    | nilm=>simp only[Bn,z8,z9] at h;rw[<-h.1];exact .nilm
    | arr hl hr=>simp only[Bn,z8,z9] at h;rw[<-h.1];exact .arr hl (hr.move L.keep λ g _=>by rw[L.w])
    | nz K=>
      simp only[Bn,z8,z9] at h
      rw[<-h.1]
      exact .ro (zC _) (.inl rfl) trivial λ _=>⟨none,0,rfl,zC _,.inl rfl⟩
    | sl hc=>
      simp only[Bn] at h
      split at h
      case h_2=>cases h
      rename_i K l hrow
      obtain⟨h1,h2⟩:=Ao h
      simp only[z8,z9] at h2
      rw[<-h2.1]
      obtain⟨ro,ver,K',l',hl,e⟩:=Cc hrow
      cases e
      obtain⟨A,cc,fp,u1,u2,u3,u4⟩:=Ch L.rel hl
      rw[u1] at hc
      cases hc
      exact L.ro rfl u2 λ g hg=>L.own (by simpa using h1) hl u1 hg
    | ss0 hc ho=>
      simp only[Bn] at h
      split at h
      case h_2=>cases h
      rename_i K l hrow
      obtain⟨h1,h2⟩:=Ao h
      simp only[z8,z9] at h2
      rw[<-h2.1]
      have e0:∀l:List K.den,l.take 0=[]:=λ l=>rfl
      rw[e0]
      exact .ro (l:=[]) (zC _) (.inl rfl) trivial λ _=>⟨_,0,rfl,zC _,.inl rfl⟩
    | ss hc v1 v2 v3=>
      rename_i b o m g og n c c' sz fp
      simp only[Bn] at h
      split at h
      case h_2=>cases h
      rename_i K l hrow
      obtain⟨h1,h2⟩:=Ao h
      simp only[z8,z9] at h2
      rw[<-h2.1]
      obtain⟨ro,ver,K',l',hl,e⟩:=Cc hrow
      cases e
      obtain⟨A,cc,fp',u1,u2,u3,u4⟩:=Ch L.rel hl
      rw[u1] at hc
      cases hc
      obtain⟨f',q1,q2⟩:=Im rfl u2 v1 v2 v3
      have hlen:((l.drop o).take m).length=m:=by simp;omega
      exact L.ro hlen.symm q1 λ g hg=>L.own (by simpa using h1) hl u1 (q2.subset hg)
    | @tr q t _ hq ht=>
      simp only[Bn] at h
      obtain⟨_,h4⟩:=Ao h
      simp only[z8,z9] at h4
      rw[<-h4.1]
      exact .tr (Sz q) (ht.move λ g hg=>⟨L.sof (by cases q with|ver b v=>exact(hq b v rfl).elim|_=>rfl) (λ b v e=>(hq b v e).elim) g hg,by rw[L.w]⟩)
    | @ro q K l A c h1 h2 hk hr=>
      simp only[Bn] at h
      obtain⟨h3,h4⟩:=Ao h
      simp only[z8,z9] at h4
      rw[<-h4.1]
      obtain⟨k1,k2⟩:=L.live h3
      exact .ro h1 h2 (Af5 _ _) λ _=>Fv (hr k1) (λ g hg=>⟨k2 g hg,by rw[L.w]⟩) λ cs hc=>Tz L.w k2 L.Z hc
    | @vw b v0 i f K l A c h1 h2 hk hr=>
      simp only[Bn] at h
      obtain⟨h3,h4⟩:=Ao h
      simp only[z8,z9] at h4
      rw[<-h4.1]
      obtain⟨k1,k2⟩:=L.live h3
      obtain⟨cb,f',c1,c2,c3⟩:=Y2 L.rel (hr k1)
      exact L.ro rfl c2 λ g hg=>k2 g ⟨cb,c1,c3 g hg⟩
    | pn=>simp[Bn] at h
    | fn=>simp[Bn] at h
    | mp=>simp[Bn] at h
    | tup=>simp[Bn] at h
    | @po q K l p g og h1 h2 hk hr=>
      simp only[Bn] at h
      obtain⟨h3,h4⟩:=Ao h
      simp only[z8,z9] at h4
      rw[<-h4.1]
      obtain⟨k1,k2⟩:=L.live h3
      obtain⟨cur,t,fr,q1,q2,q3,q4⟩:=hr k1
      exact .po h1 h2 (Af5 _ _) λ _=>⟨cur,t,fr,k2 _ q1,by rw[L.w];exact q2,q3,Tz L.w k2 L.Z q4⟩
    | @pr q ps o p g og cur t fr nn h1 h2 h3 h4 h5 h6 h7=>
      simp only[Bn] at h
      have hval:valid X.s q=true:=by cases q with
        | frz=>rfl
        | reg=>rfl
        | ver b v=>exact(h6 b v rfl).elim
      have hS:=L.sof (p:=q) hval (λ b v e=>(h6 b v e).elim)
      have go:(match Bn.snapL (Bn X.s hs n) ps with|some (qs,r)=>some (AV.pr (Nt q) qs o p,r)|none=>none)=some (a',r)->VRel Y a' (.pointer (some ⟨g,og+(o+Bf p),none⟩)):=by
        intro h
        split at h
        case h_2=>cases h
        rename_i qs r' hq
        simp only[z8,z9] at h
        rw[<-h.1]
        obtain⟨q1,q2⟩:=Mc L ih h4 (.inl rfl) hq
        exact .pr (hS _ h1) (by rw[L.w];exact h2) h3 q1 q2 (Sz q) h7
      cases q with
      | frz=>exact go h
      | reg=>exact go h
      | ver b v=>exact(h6 b v rfl).elim
    | agg hp hn=>
      simp only[Bn] at h
      split at h
      case h_2=>cases h
      rename_i qs r' hq
      simp only[z8,z9] at h
      rw[<-h.1]
      obtain⟨q1,q2⟩:=Mc L ih hp (.inl rfl) hq
      exact .agg q1 q2
    | ifc hv=>
      simp only[Bn] at h
      split at h
      case h_2=>cases h
      rename_i x r' hx
      simp only[z8,z9] at h
      rw[<-h.1]
      exact .ifc (ih _ _ _ _ hv hx)
    | @pb b o p cb g og hc hb hp hn=>
      rcases p with _|⟨⟨sz,N,i,f⟩,_|⟨y,p⟩⟩
      · simp only[Bn] at h
        split at h
        case h_2=>cases h
        rename_i ro ver ps hl
        obtain⟨h3,h4⟩:=Ao h
        split at h4
        case h_2=>cases h4
        rename_i qs r' hq
        simp only[z8,z9] at h4
        rw[<-h4.1]
        simp only[zT,zZ] at h3
        obtain⟨cb',u1,u2,u3,u4⟩:=L.rel.blk b _ hl
        rw[hc] at u1
        cases u1
        cases u2 with
        | @box g' fps _ _ _ cur k1 k2 k3=>
          simp only[CB.base,z8,z9] at hb
          obtain⟨rfl,rfl⟩:=hb
          obtain⟨q1,q2⟩:=Mc L ih k3 (.inr h3.2) hq
          obtain⟨t,fr,hg,_⟩:=k2
          have:=VRel.pr (X:=Y) (q:=.reg 0) (ps:=qs) (o:=o) (p:=[]) (g:=g') (og:=0) (cur:=cur.toArray) (t:=t) (fr:=fr) (n:=cur.length) (L.own h3.1 hl hc (by simp[CB.fp])) (by rw[L.w];exact hg) (by simp)
            (by simpa[seg] using q1) q2 (by simp) (by simp[PIn])
          simpa using this
        | row k1 k2 k3=>simp[CB.rowN] at hn
      · simp only[Bn] at h
        split at h
        case h_2=>cases h
        rename_i K l hrow
        obtain⟨h3,h4⟩:=Ao h
        split at h4
        case h_2=>cases h4
        rename_i qs r' hq
        simp only[z8,z9] at h4
        rw[<-h4.1]
        simp only[zA,zT] at h3
        obtain⟨h3,h5,h6⟩:=h3
        have e1:=zE h5
        have e2:=zE h6
        subst e1 e2
        obtain⟨ro,ver,K',l',hl,e⟩:=Cc hrow
        cases e
        obtain⟨A,cc,fp,u1,u2,u3,u4⟩:=Ch L.rel hl
        rw[hc] at u1
        cases u1
        simp only[CB.base] at hb
        have hA:A=some ⟨g,og,none⟩:=by
          cases A with
          | none=>simp[Aa3] at hb
          | some a=>
            obtain⟨g',o',sp⟩:=a
            cases sp<;>simp[Aa3] at hb
            obtain⟨rfl,rfl⟩:=hb
            rfl
        subst hA
        simp only[CB.rowN,List.reverse_cons,List.reverse_nil,yL,PIn,yG,and_true] at hp
        obtain⟨A',c',e,u2⟩:=u2
        cases e
        rcases u2 with⟨z1,_⟩|⟨g',o',cur,fps,q1,q2,q3,q4,q5,q6⟩
        · omega
        cases q1
        obtain⟨c1,c2,c3,f1,f2,f3,e1,e2,e3,e4,_⟩:=Ic (λ x c f hx=>B0 hx) i hp q6
        have hget:K.get l i=l[i]:=by simp[Ki.get,List.getD_eq_getElem?_getD,hp]
        rw[hget] at hq
        obtain⟨w1,w2⟩:=Qx L (Dw e4) (λ x hx=>L.own h3 hl hc (by simp[CB.fp,q5,e2,hx])) hq
        obtain⟨t,fr,hg,_⟩:=q2
        have hlc:=congrArg zF e1
        have hc2:=B0 e4
        have hm1:i*K.size+K.size<=l.length*K.size:=by rw[<-yJ];exact zD _ hp
        have hm2:=zD K.size q3
        have hsg:seg cur (og+i*K.size) K.size=c2:=by
          have:seg cur (og+i*K.size) K.size=((seg cur og (l.length*K.size)).drop (i*K.size)).take K.size:=by
            simp only[seg,xE,yS,yT]
            congr 1
            omega
          rw[this,e1,zN,yO e3,yA hc2]
        have:=VRel.pr (X:=Y) (q:=.reg 0) (ps:=qs) (o:=f) (p:=[]) (g:=g) (og:=og+i*K.size) (cur:=cur.toArray) (t:=t) (fr:=fr) (n:=K.size) (L.own h3 hl hc (by simp[CB.fp,q5])) (by rw[L.w];exact hg) (by simp;omega)
          (by simpa[hsg] using w1) w2 (by simp) (by simp[PIn])
        simpa[Bf,Nat.add_assoc] using this
      · simp[Bn] at h
theorem Rx{s s':St}{p:Cj}(h:∀b∈atP p,look b s'.st=look b s.st):Qf s' hs p=Qf s hs p:=by
 cases p with
 | frz=>rfl
 | reg=>rfl
 | ver b v=>simp only[Qf];rw[It (s:=s) (λ b' hb'=>h b' (by simpa[Js,atP] using hb'))]
theorem Yn{f g:AV->Option (AV×List Nat)}{Q:List Nat->Prop}(hQ:∀l l',Q (l++l')->Q l/\Q l')(ih:∀a x r,f a=some (x,r)->Q r->g a=some (x,r)):∀{ps qs:List AV} {l:List Nat},Bn.snapL f ps=some (qs,l)->Q l->Bn.snapL g ps=some (qs,l)
 | [],qs,l,h,_=>h
 | p::ps,qs,l,h,hl=>by
  obtain⟨x,l1,y,l2,e1,e2,rfl,rfl⟩:=Eb h
  obtain⟨k1,k2⟩:=hQ _ _ hl
  simp only[Bn.snapL,ih _ _ _ e1 k1,Yn hQ ih e2 k2]
theorem V6{s s':St}:∀{n:Nat} {a a':AV} {r:List Nat},Bn s hs n a=some (a',r)->(∀b∈r,look b s'.st=look b s.st)->Bn s' hs n a=some (a',r)
  | 0,_,_,_,h,_=>by simp[Bn] at h
  | n+1,a,a',r,h,hr=>by
    have hL:∀{ps qs:List AV} {l:List Nat},Bn.snapL (Bn s hs n) ps=some (qs,l)->(∀b∈l,look b s'.st=look b s.st)->Bn.snapL (Bn s' hs n) ps=some (qs,l):=
      λ h hl=>Yn (Q:=λ l=>∀b∈l,look b s'.st=look b s.st) (λ l l' h=>⟨λ b hb=>h b (by simp[hb]),λ b hb=>h b (by simp[hb])⟩) (λ a x r h hr=>V6 h hr) h hl
    cases a<;>(try(simp only[Bn] at h⊢;exact h))
    · simp only[Bn] at h⊢
      split at h
      case h_2=>cases h
      rename_i hrow
      obtain⟨h1,h2⟩:=Ao h
      simp only[z8,z9] at h2
      rw[Cf (hr _ (by rw[<-h2.2];simp)),hrow]
      exact h
    · simp only[Bn] at h⊢
      split at h
      case h_2=>cases h
      rename_i hrow
      obtain⟨h1,h2⟩:=Ao h
      simp only[z8,z9] at h2
      rw[Cf (hr _ (by rw[<-h2.2];simp)),hrow]
      exact h
    · simp only[Bn] at h⊢
      have h':=h
      obtain⟨h1,h2⟩:=Ao h'
      simp only[z8,z9] at h2
      rw[Rx (s:=s) (λ b hb=>hr b (by rw[<-h2.2];exact hb))]
      exact h
    · simp only[Bn] at h⊢
      have h':=h
      obtain⟨h1,h2⟩:=Ao h'
      simp only[z8,z9] at h2
      rw[Rx (s:=s) (λ b hb=>hr b (by rw[<-h2.2];exact hb))]
      exact h
    · rename_i b o p
      rcases p with _|⟨⟨sz,N,i,f⟩,_|⟨y,p⟩⟩
      · simp only[Bn] at h⊢
        split at h
        case h_2=>cases h
        rename_i ro ver ps hl
        obtain⟨h1,h2⟩:=Ao h
        split at h2
        case h_2=>cases h2
        rename_i qs r' hq
        simp only[z8,z9] at h2
        obtain⟨rfl,rfl⟩:=h2
        rw[hr b (by simp),hl]
        simp only[h1,A3,hL hq (λ b' hb'=>hr b' (by simp[hb']))]
      · simp only[Bn] at h⊢
        split at h
        case h_2=>cases h
        rename_i hrow
        have h':=h
        obtain⟨h1,h2⟩:=Ao h'
        split at h2
        case h_2=>cases h2
        simp only[z8,z9] at h2
        rw[Cf (hr _ (by rw[<-h2.2];simp)),hrow]
        exact h
      · simp[Bn] at h
    · simp only[Bn] at h⊢
      have h':=h
      obtain⟨h1,h2⟩:=Ao h'
      simp only[z8,z9] at h2
      rw[Rx (s:=s) (λ b hb=>hr b (by rw[<-h2.2];exact hb))]
      exact h
    · rename_i q ps o p
      cases q<;>simp only[Bn] at h⊢
      all_goals first
        | (split at h
           case h_2=>cases h
           rename_i qs r' hq
           simp only[z8,z9] at h
           obtain⟨rfl,rfl⟩:=h
           rw[hL hq hr])
        | exact h
    · simp only[Bn] at h⊢
      split at h
      case h_2=>cases h
      rename_i qs r' hq
      simp only[z8,z9] at h
      obtain⟨rfl,rfl⟩:=h
      rw[hL hq hr]
    · simp only[Bn] at h⊢
      split at h
      case h_2=>cases h
      rename_i x r' hx
      simp only[z8,z9] at h
      obtain⟨rfl,rfl⟩:=h
      rw[V6 hx hr]
end Go.Ev
namespace Go.Ev
section
variable{α:Type}
theorem D5(i:Nat):∀(a b:List (Nat×α)),look i (a++b)=match look i a with|some x=>some x|none=>look i b
  | [],_=>rfl
  | (j,x)::r,b=>by
    simp only[zS,look]
    cases zK j i
    · simp only[cond_false];exact D5 i r b
    · rfl
theorem Fe:∀(l:List α) (n i:Nat),look i (D2 n l)=if n<=i then l[i-n]? else none
 | [],n,i=>by simp[D2,look]
 | x::r,n,i=>by
  simp only[D2,look]
  cases h:zK n i
  ·have hne:=Bd.1 h
   simp only[cond_false]
   rw[Fe r (n+1) i]
   by_cases h1:n+1<=i
   ·rw[if_pos h1,if_pos (by omega)]
    have:i-n=(i-(n+1))+1:=by omega
    rw[this,List.getElem?_cons_succ]
   ·rw[if_neg h1,if_neg (by omega)]
  ·have:=beq_true.1 h
   subst this
   simp
theorem G9:∀(l:List α) (n:Nat),uniq (D2 n l)
 | [],_=>trivial
 | x::r,n=>⟨by rw[Fe,if_neg (by omega)],G9 r (n+1)⟩
end
theorem Jk:∀{ids:List Nat} {n b i:Nat},look b (Bi n ids)=some i->n<=i/\ids[i-n]?=some b
 | [],n,b,i,h=>by simp[Bi,look] at h
 | c::r,n,b,i,h=>by
  simp only[Bi,look] at h
  cases hb:zK c b<;>rw[hb] at h
  ·obtain⟨h1,h2⟩:=Jk (n:=n+1) h
   refine⟨by omega, ?_⟩
   have:i-n=(i-(n+1))+1:=by omega
   rw[this,List.getElem?_cons_succ];exact h2
  ·simp only[cond_true,z8] at h
   subst h
   simp[beq_true.1 hb]
theorem Gc:∀{ids:List Nat} {n b j:Nat},ids.Nodup->ids[j]?=some b->look b (Bi n ids)=some (n+j)
 | [],n,b,j,_,h=>by simp at h
 | c::r,n,b,0,_,h=>by
  simp only[List.getElem?_cons_zero,z8] at h
  subst h
  simp[Bi,look]
 | c::r,n,b,j+1,hnd,h=>by
  simp only[List.getElem?_cons_succ] at h
  obtain⟨h1,h2⟩:=List.nodup_cons.1 hnd
  have hne:c≠b:=λ e=>h1 (e▸List.mem_of_getElem? h)
  simp only[Bi,look,Bd.2 hne,cond_false]
  rw[Gc (n:=n+1) h2 h]
  congr 1
  omega
theorem X7:∀(ids:List Nat) (n i:Nat),look i (Rp (Bi n ids))=if n<=i then ids[i-n]? else none
 | [],n,i=>by simp[Bi,Rp,look]
 | c::r,n,i=>by
  simp only[Bi,Rp,look]
  cases h:zK n i
  ·have hne:=Bd.1 h
   simp only[cond_false]
   rw[X7 r (n+1) i]
   by_cases h1:n+1<=i
   ·rw[if_pos h1,if_pos (by omega)]
    have:i-n=(i-(n+1))+1:=by omega
    rw[this,List.getElem?_cons_succ]
   ·rw[if_neg h1,if_neg (by omega)]
  ·have:=beq_true.1 h
   subst this
   simp
theorem Qg(m nb i:Nat):∀n,look i (Ff m nb n)=if m<=i/\i<m+n then some (nb+(i-m)) else none
 | 0=>by simp[Ff,look]
 | n+1=>by
  simp only[Ff]
  rw[D5,Qg m nb i n]
  by_cases h:m<=i/\i<m+n
  ·rw[if_pos h,if_pos ⟨h.1,by omega⟩]
  ·rw[if_neg h]
   simp only[look]
   cases h2:zK (m+n) i
   ·have:=Bd.1 h2
    simp only[cond_false]
    rw[if_neg (by omega)]
   ·have:=beq_true.1 h2
    subst this
    simp only[cond_true]
    rw[if_pos ⟨by omega,by omega⟩]
    congr 1
    omega
theorem Ry(ids:List Nat)(nb n i:Nat):look i (Rp (Bi 0 ids)++Ff ids.length nb n)=if i<ids.length then ids[i]? else if i<ids.length+n then some (nb+(i-ids.length)) else none:=by
 rw[D5,X7,if_pos (yR _),yH,Qg]
 by_cases h:i<ids.length
 ·rw[if_pos h]
  simp[h]
 ·rw[if_neg h]
  have:ids[i]?=none:=by simp;omega
  rw[this]
  simp only
  by_cases h2:i<ids.length+n
  ·rw[if_pos h2,if_pos ⟨by omega,h2⟩]
  ·rw[if_neg h2,if_neg (by omega)]
theorem Hj{ok:Nat->Nat->Bool}{sh:Nat}{m:List (Nat×Nat)}{st:List (Nat×Blk)}:∀{ids:List Nat} {bs:List Blk},Hy ok sh m st ids=some bs->
  bs.length=ids.length/\∀(j:Nat) (b:Nat),ids[j]?=some b->∃x y,look b st=some x/\bs[j]?=some y/\Lx ok sh m x=some y
 | [],bs,h=>by
  simp only[Hy,z8] at h
  subst h
  exact⟨rfl,by simp⟩
 | c::r,bs,h=>by
  simp only[Hy] at h
  split at h
  case h_2=>cases h
  rename_i x hx
  split at h
  case h_2=>cases h
  rename_i y hy
  split at h
  case h_2=>cases h
  rename_i z hz
  simp only[z8] at h
  subst h
  obtain⟨h1,h2⟩:=Hj hz
  refine⟨by simp[h1], ?_⟩
  intro j b hj
  cases j with
  | zero=>
   simp only[List.getElem?_cons_zero,z8] at hj
   subst hj
   exact⟨x,y,hx,rfl,hy⟩
  | succ j=>simpa using h2 j b (by simpa using hj)
theorem Ui{ok:Nat->Nat->Bool}{sh:Nat}{m:List (Nat×Nat)}{st st':List (Nat×Blk)}:∀{ids:List Nat},(∀b∈ids,look b st'=look b st)->Hy ok sh m st' ids=Hy ok sh m st ids
 | [],_=>rfl
 | c::r,h=>by simp only[Hy,h c (by simp),Ui (ids:=r) λ b hb=>h b (by simp[hb])]
theorem Jf(b:Nat):∀(u u':Upd),Dg (u++u') b=match Dg u' b with|some y=>some y|none=>Dg u b
  | [],u'=>by simp only[yL,Dg];cases Dg u' b<;>rfl
  | (c,x)::r,u'=>by
    simp only[zS,Dg]
    rw[Jf b r u']
    cases Dg u' b<;>rfl
def Axf(s:St)(m':List (Nat×Nat))(b:Nat)(fo:Option Blk)(z:Option Blk):Prop:=
 (fo=none/\z=none)\/∃x y,fo=some x/\Lx Fo 2 m' x=some y/\z=some (Ku (Nw s b+1) y)
theorem Ei{u:Upd}{b:Nat}(h:b∉Bm u):Dg u b=none:=by
 cases e:Dg u b with
 | none=>rfl
 | some y=>exact(h (Up u b (by rw[e];simp))).elim
theorem Jd{s:St}{m':List (Nat×Nat)}:∀{ids:List Nat} {n:Nat} {fin:List (Option Blk)} {u:Upd},En s m' (Bi n ids) fin=some u->ids.Nodup->
  Bm u=ids/\fin.length=ids.length/\∀(j:Nat) b,ids[j]?=some b->∃fo z,fin[j]?=some fo/\Dg u b=some z/\Axf s m' b fo z
 | [],n,[],u,h,_=>by
  simp only[Bi,En,z8] at h
  subst h
  exact⟨rfl,rfl,by simp⟩
 | [],n,_::_,u,h,_=>by simp[Bi,En] at h
 | c::r,n,[],u,h,_=>by simp[Bi,En] at h
 | c::r,n,none::q,u,h,hnd=>by
  simp only[Bi,En] at h
  split at h
  case h_2=>cases h
  rename_i u1 hu
  simp only[z8] at h
  subst h
  obtain⟨hc,hnd'⟩:=List.nodup_cons.1 hnd
  obtain⟨h1,h2,h3⟩:=Jd hu hnd'
  have h1':yN (λ x=>x.fst) u1=r:=h1
  refine⟨by simp[Bm,h1'],by simp[h2], ?_⟩
  intro j b hj
  cases j with
  | zero=>
   simp only[List.getElem?_cons_zero,z8] at hj
   subst hj
   refine⟨none,none,rfl, ?_,.inl ⟨rfl,rfl⟩⟩
   simp only[Dg,Ei (u:=u1) (by rw[h1];exact hc)]
   simp
  | succ j=>
   simp only[List.getElem?_cons_succ] at hj
   obtain⟨fo,z,k1,k2,k3⟩:=h3 j b hj
   exact⟨fo,z,by simpa using k1,by simp only[Dg,k2],k3⟩
 | c::r,n,some x::q,u,h,hnd=>by
  simp only[Bi,En] at h
  split at h
  case h_2=>cases h
  rename_i y u1 hy hu
  simp only[z8] at h
  subst h
  obtain⟨hc,hnd'⟩:=List.nodup_cons.1 hnd
  obtain⟨h1,h2,h3⟩:=Jd hu hnd'
  have h1':yN (λ x=>x.fst) u1=r:=h1
  refine⟨by simp[Bm,h1'],by simp[h2], ?_⟩
  intro j b hj
  cases j with
  | zero=>
   simp only[List.getElem?_cons_zero,z8] at hj
   subst hj
   refine⟨some x,_,rfl, ?_,.inr ⟨x,y,rfl,hy,rfl⟩⟩
   simp only[Dg,Ei (u:=u1) (by rw[h1];exact hc)]
   simp
  | succ j=>
   simp only[List.getElem?_cons_succ] at hj
   obtain⟨fo,z,k1,k2,k3⟩:=h3 j b hj
   exact⟨fo,z,by simpa using k1,by simp only[Dg,k2],k3⟩
theorem Vt{m':List (Nat×Nat)}:∀{new:List Blk} {nb:Nat} {u:Upd},R2 m' nb new=some u->
  (∀b,b∈Bm u<->nb<=b/\b<nb+new.length)/\∀j x,new[j]?=some x->∃y,Lx Fo 2 m' x=some y/\Dg u (nb+j)=some (some y)
 | [],nb,u,h=>by
  simp only[R2,z8] at h
  subst h
  exact⟨λ b=>by simp[Bm],by simp⟩
 | x::r,nb,u,h=>by
  simp only[R2] at h
  split at h
  case h_2=>cases h
  rename_i y u1 hy hu
  simp only[z8] at h
  subst h
  obtain⟨h1,h2⟩:=Vt hu
  refine⟨λ b=> ?_, ?_⟩
  ·have:=h1 b
   simp only[Bm,yE,zI,yY] at this⊢
   rw[this]
   omega
  ·intro j z hj
   cases j with
   | zero=>
    simp only[List.getElem?_cons_zero,z8] at hj
    subst hj
    refine⟨y,hy, ?_⟩
    simp only[Dg,yB,Ei (u:=u1) (λ hb=>by have:=(h1 nb).1 hb;omega)]
    simp
   | succ j=>
    simp only[List.getElem?_cons_succ] at hj
    obtain⟨y',k1,k2⟩:=h2 j z hj
    refine⟨y',k1, ?_⟩
    rw[show nb+(j+1)=nb+1+j by omega]
    simp only[Dg,k2]
end Go.Ev
namespace Go.Ev
variable{R:Type}{E:Env}{X:Cx}{P:Program}
structure Ad3(args:List AV)(bs:List Blk)(E:Env)(X:Cx)(vals:List Value):Prop where
 rel:Rel E X
 s:X.s=To args bs
 top:∀b,bs.length<=b->X.cm b=none
 vals:B6 X args vals
structure Ud(n:Nat)(v:AV)(fin:List (Option Blk))(new:List Blk)(E:Env)(X X':Cx)(val:Value):Prop where
 rel:Rel E X'
 S:GS X'.S X.S
 cmx:∀b cb,b<n->X.cm b=some cb->∃cb',X'.cm b=some cb'/\cb.same cb'
 st:∀b,look b X'.s.st=if b<n then(fin[b]?).join else new[b-n]?
 val:VRel X' v val
def U5(v:AV)(val:Value):Ending:=match v with
 | .pan t k n=>.panicked (Lt t k n)
 | _=>.returned val
def Th(v:AV):AV:=match v with
 | .pan .. =>.un
 | v=>v
theorem Ll{v:AV}{val:Value}(h:∀t k n,v≠.pan t k n):U5 v val=.returned val:=by
 cases v<;>first|rfl|exact(h _ _ _ rfl).elim
theorem Mf{v:AV}(h:∀t k n,v≠.pan t k n):Th v=v:=by
 cases v<;>first|rfl|exact(h _ _ _ rfl).elim
structure Ad4(P:Program)(f:Nat)(args:List AV)(bs:List Blk)(v:AV)(fin:List (Option Blk))(new:List Blk):Prop where
 fn:∃fn,P.funcs[f]?=some fn/\fn.name≠ "runtime.NumGoroutine" /\fn.body.isSome=true
 go:∀E X vals,Ad3 args bs E X vals->Calls P f vals.toArray X.w λ e w'=>∃val X',e=U5 v val/\X'.w=w'/\Ud bs.length (Th v) fin new E X X' val
def F9(P:Program)(C:Orc R):Prop:=∀f as bs k r,C f as bs k=some r->∃v fin new,k v fin new=some r/\Ad4 P f as bs v fin new
def inX(X:Cx)(ids:List Nat)(as:List AV)(bs:List Blk):Cx where
 cm i:=(ids[i]?).bind X.cm
 S q g:=match q with
  | none=>X.S none g
  | some 0=>g<X.w.heap.size/\¬Aaq X ids g
  | some (n+1)=>X.S (some n) g
 s:=To as bs
 w:=X.w
def inE(X:Cx)(ids:List Nat):Env:={w:=X.w,H:=Aaq X ids,Z:=X.S none}
theorem M0{b v:Nat}{p:Prop}(h:Fo b v=true):p:=by simp[Fo] at h
theorem Ann{ids:List Nat}{as:List AV}{bs:List Blk}:Sim X (inX X ids as bs) Fo 1 (Bi 0 ids) where
 w:=rfl
 cm b b' cb hb hc:=by
  obtain⟨_,h⟩:=Jk hb
  simp only[yH] at h
  simp only[inX,h,zM,hc]
 reg p p' hp hn g hg:=by
  cases p with
  | frz=>simp[pvR,Iz] at hp;subst hp;exact hg
  | reg n=>
   simp[pvR,Iz] at hp
   subst hp
   rcases hg with⟨m,hm,hg⟩|hg
   ·exact .inl ⟨m+1,by omega,hg⟩
   ·exact .inr hg
  | ver b v=>exact(hn b v rfl).elim
 okv _ _ h:=M0 h
 row _ _ _ _ _ _ h:=M0 h
theorem Amw(hR:Rel E X){ids:List Nat}{as:List AV}{bs:List Blk}:Ja E X (inX X ids as bs) ids:=⟨hR,rfl,λ _ h1 h2=>.inl ⟨0,zC _,h1,h2⟩,λ _ h=>h,λ n _ h=>.inl ⟨n+1,by omega,h⟩⟩
theorem Si(hR:Rel E X){ids:List Nat}{as0:List AV}{bs:List Blk}{ws:List Nat}:∀{args as:List AV} {j:Nat} {l:List Nat} {vals:List Value},B6 X args vals->Gk X.s ws ids (Bi 0 ids) j args=some (as,l)->B6 (inX X ids as0 bs) as vals
 | [],as,j,l,vals,hv,h=>by
  simp only[Gk,z8,z9] at h
  rw[<-h.1]
  cases hv
  exact .nil
 | a::r,as,j,l,_,.cons h1 h2,h=>by
  simp only[Gk] at h
  split at h
  case h_2=>cases h
  rename_i r' l1 hr
  have ih:=Si (as0:=as0) (bs:=bs) hR h2 hr
  cases hh:Zn ws j a<;>rw[hh] at h<;>simp only[cond_true,cond_false] at h
  ·split at h
   case h_2=>cases h
   rename_i a' l2 ha
   cases h
   exact .cons (Ahg (Amw hR) h1 ha) ih
  ·split at h
   case h_2=>cases h
   rename_i a' ha
   cases h
   exact .cons (O8 Ann h1 ha) ih
theorem Kg{s s':St}{ws ids:List Nat}{m:List (Nat×Nat)}:∀{args as:List AV} {j:Nat} {l:List Nat},Gk s ws ids m j args=some (as,l)->(∀b∈l,look b s'.st=look b s.st)->Gk s' ws ids m j args=some (as,l)
 | [],as,j,l,h,_=>h
 | a::r,as,j,l,h,hl=>by
  simp only[Gk] at h⊢
  split at h
  case h_2=>cases h
  rename_i r' l1 hr
  cases hh:Zn ws j a<;>rw[hh] at h<;>simp only[cond_true,cond_false] at h
  ·split at h
   case h_2=>cases h
   rename_i a' l2 ha
   cases h
   rw[Kg hr λ b hb=>hl b (by simp[hb])]
   simp only[cond_false,V6 ha λ b hb=>hl b (by simp[hb])]
  ·split at h
   case h_2=>cases h
   rename_i a' ha
   cases h
   rw[Kg hr hl]
   simp only[cond_true,ha]
theorem Ama(hR:Rel E X){ids:List Nat}{as:List AV}{bs:List Blk}{args:List AV}{vals:List Value}(hnd:ids.Nodup)(hb:Hy Fo 1 (Bi 0 ids) X.s.st ids=some bs)(hv:B6 (inX X ids as bs) as vals):
  Ad3 as bs (inE X ids) (inX X ids as bs) vals:=by
 obtain⟨b1,b2⟩:=Hj hb
 have hlook:∀i y,look i (inX X ids as bs).s.st=some y->∃b x,ids[i]?=some b/\look b X.s.st=some x/\Lx Fo 1 (Bi 0 ids) x=some y:=by
  intro i y hi
  simp only[inX,To,Fe,yR,if_true,yH] at hi
  have hlt:i<ids.length:=by
   have:=(List.getElem?_eq_some_iff.1 hi).1
   omega
  have hb':ids[i]?=some ids[i]:=by simp[hlt]
  obtain⟨x,y',k1,k2,k3⟩:=b2 i _ hb'
  rw[hi] at k2
  cases k2
  exact⟨_,x,hb',k1,k3⟩
 refine⟨⟨?_, ?_, ?_, ?_, ?_, ?_⟩,rfl, ?_,hv⟩
 ·intro i y hi
  obtain⟨b,x,h1,h2,h3⟩:=hlook i y hi
  obtain⟨cb,k1,k2,k3,k4⟩:=hR.blk b x h2
  refine⟨cb,by simp only[inX,h1,zM,k1],T5 Ann k2 h3,k3,λ g hg=>⟨(k4 g hg).1,.inl ⟨b,x,cb,List.mem_of_getElem? h1,h2,k1,hg⟩⟩⟩
 ·intro i i' y y' cb cb' g hi hi' hc hc' hg hg'
  obtain⟨b,x,h1,h2,h3⟩:=hlook i y hi
  obtain⟨b',x',h1',h2',h3'⟩:=hlook i' y' hi'
  simp only[inX,h1,h1',zM] at hc hc'
  have:=hR.dis b b' x x' cb cb' g h2 h2' hc hc' hg hg'
  subst this
  have e1:=Gc (n:=0) hnd h1
  have e2:=Gc (n:=0) hnd h1'
  rw[e1] at e2
  simpa using e2
 ·intro q g hg
  have hno:∀n,X.S (some n) g->g<X.w.heap.size/\¬Aaq X ids g:=by
   intro n hS
   obtain⟨h1,h2⟩:=hR.out n g hS
   refine⟨Nat.lt_of_lt_of_le h1 hR.fr.size, ?_⟩
   rintro⟨b',x',cb',m1,m2,m3,m4⟩
   obtain⟨cb2,k1,_,_,k4⟩:=hR.blk b' x' m2
   rw[m3] at k1
   cases k1
   rcases(k4 g m4).2 with k|k
   ·exact h2 k
   ·omega
  match q with
  | 0=>exact hg
  | n+1=>exact hno _ hg
 ·intro g hg
  obtain⟨h1,_,h3⟩:=hR.frz g hg
  refine⟨h1,.inl hg,λ i y cb hi hc hgc=> ?_⟩
  obtain⟨b,x,k1,k2,_⟩:=hlook i y hi
  simp only[inX,k1,zM] at hc
  exact h3 b x cb k2 hc hgc
 ·exact⟨rfl,rfl,rfl,zC _,λ _ _ _=>rfl⟩
 ·simp only[inX,To];exact G9 _ _
 ·intro b hb'
  have:ids[b]?=none:=by simp;omega
  simp only[inX,this,Option.bind_none]
def K3(X X1:Cx)(ids:List Nat)(nb n:Nat)(u:Upd):Cx where
 cm b:=match look b (Bi 0 ids) with
  | some i=>X1.cm i
  | none=>if nb<=b/\b<nb+n then X1.cm (ids.length+(b-nb)) else X.cm b
 S q:=match q with
  | none=>X1.S none
  | some n=>X.S (some n)
 s:={X.s with st:=A6 u X.s.st}
 w:=X1.w
theorem Aan{X:Cx}{cb:CB}{y:Blk}{k:Nat}(h:I3 X cb y):I3 X cb (Ku k y):=by
 cases h with
 | box h1 h2 h3=>exact .box h1 h2 h3
 | row h1 h2 h3=>exact .row h1 h2 h3
 | map h1 h2=>exact .map h1 h2
 | iter h1 h2 h3 h4 h5=>exact .iter h1 h2 h3 h4 h5
 | bld h1=>exact .bld h1
structure Q9(P:Program)(s:St)(f:Nat)(args:List AV)(nb:Nat)(ws ids:List Nat)(as:List AV)(lent:List Nat)(bs:List Blk)(v:AV)(fin:List (Option Blk))(new:List Blk)(v':AV)(u u':Upd):Prop where
 nd:ids.Nodup
 has:Gk s ws ids (Bi 0 ids) 0 args=some (as,lent)
 hbs:Hy Fo 1 (Bi 0 ids) s.st ids=some bs
 le:new.length<=16
 hv:ren Fo 2 (Rp (Bi 0 ids)++Ff ids.length nb new.length) 8 v=some v'
 hu:En s (Rp (Bi 0 ids)++Ff ids.length nb new.length) (Bi 0 ids) fin=some u
 hu':R2 (Rp (Bi 0 ids)++Ff ids.length nb new.length) nb new=some u'
variable{f:Nat}{args:List AV}{nb:Nat}{ws ids:List Nat}{as:List AV}{lent:List Nat}{bs:List Blk}{v:AV}{fin:List (Option Blk)}{new:List Blk}{v':AV}{u u':Upd}
theorem Q9.good(hF:Q9 P X.s f args nb ws ids as lent bs v fin new v' u u')(hR:Rel E X)(hN:Pe X nb){X1:Cx}{val:Value}(hL:Ud bs.length v fin new (inE X ids) (inX X ids as bs) X1 val):
    Good E X nb v' (u++u') val (K3 X X1 ids nb new.length (u++u')):=by
  have hnd:=hF.nd
  have hle:=hF.le
  obtain⟨b1,b2⟩:=Hj hF.hbs
  obtain⟨p1,p2,p3⟩:=Jd hF.hu hnd
  obtain⟨q1,q2⟩:=Vt hF.hu'
  rw[b1] at hL
  have live:∀b∈ids,∃x cb,look b X.s.st=some x/\X.cm b=some cb:=by
    intro b hb
    obtain⟨j,hj⟩:=List.getElem?_of_mem hb
    obtain⟨x,y,k1,_,_⟩:=b2 j b hj
    obtain⟨cb,h1,_⟩:=hR.blk b x k1
    exact⟨x,cb,k1,h1⟩
  have apart:∀b∈ids,¬(nb<=b/\b<nb+new.length):=by
    intro b hb hn
    obtain⟨x,cb,_,hc⟩:=live b hb
    rw[hN b hn.1 (by omega)] at hc
    cases hc
  have num:∀{j b:Nat},ids[j]?=some b->look b (Bi 0 ids)=some j:=λ{j b} h=>by have:=Gc (n:=0) hnd h;rwa[yI] at this
  have nonum:∀{b:Nat},b∉ids->look b (Bi 0 ids)=none:=by
    intro b hb
    cases e:look b (Bi 0 ids) with
    | none=>rfl
    | some i=>exact(hb (List.mem_of_getElem? (Jk e).2)).elim
  have cmOld:∀{j b:Nat},ids[j]?=some b->(K3 X X1 ids nb new.length (u++u')).cm b=X1.cm j:=by
    intro j b h
    simp only[K3,num h]
  have cmNew:∀{j:Nat},j<new.length->(K3 X X1 ids nb new.length (u++u')).cm (nb+j)=X1.cm (ids.length+j):=by
    intro j hj
    have hn:nb+j∉ids:=λ hm=>apart _ hm ⟨by omega,by omega⟩
    simp only[K3,nonum hn]
    rw[if_pos ⟨by omega,by omega⟩]
    congr 1
    omega
  have cmKeep:∀{b:Nat},b∉ids->¬(nb<=b/\b<nb+new.length)->(K3 X X1 ids nb new.length (u++u')).cm b=X.cm b:=by
    intro b h1 h2
    simp only[K3,nonum h1]
    rw[if_neg h2]
  have lk:∀b,look b (K3 X X1 ids nb new.length (u++u')).s.st=match Dg (u++u') b with|some x=>x|none=>look b X.s.st:=λ b=>B7 _ _ hR.uq
  have effOld:∀{j b:Nat},ids[j]?=some b->Dg (u++u') b=Dg u b:=by
    intro j b h
    rw[Jf,Ei (u:=u') λ hm=>apart b (List.mem_of_getElem? h) ((q1 b).1 hm)]
  have lkOld:∀{j b:Nat},ids[j]?=some b->∃fo z,fin[j]?=some fo/\look b (K3 X X1 ids nb new.length (u++u')).s.st=z/\Axf X.s (Rp (Bi 0 ids)++Ff ids.length nb new.length) b fo z:=by
    intro j b h
    obtain⟨fo,z,k1,k2,k3⟩:=p3 j b h
    exact⟨fo,z,k1,by rw[lk,effOld h,k2],k3⟩
  have lkNew:∀{j:Nat} {x:Blk},new[j]?=some x->∃y,Lx Fo 2 (Rp (Bi 0 ids)++Ff ids.length nb new.length) x=some y/\look (nb+j) (K3 X X1 ids nb new.length (u++u')).s.st=some y:=by
    intro j x h
    obtain⟨y,k1,k2⟩:=q2 j x h
    exact⟨y,k1,by rw[lk,Jf,k2]⟩
  have lkKeep:∀{b:Nat},b∉ids->¬(nb<=b/\b<nb+new.length)->look b (K3 X X1 ids nb new.length (u++u')).s.st=look b X.s.st:=by
    intro b h1 h2
    rw[lk,Jf,Ei (u:=u') λ hm=>h2 ((q1 b).1 hm),Ei (u:=u) (by rw[p1];exact h1)]
  have sim:Sim X1 (K3 X X1 ids nb new.length (u++u')) Fo 2 (Rp (Bi 0 ids)++Ff ids.length nb new.length):=by
    refine⟨rfl, ?_, ?_,λ _ _ h=>M0 h,λ _ _ _ _ _ _ h=>M0 h⟩
    · intro i b' cb hb hc
      rw[Ry] at hb
      by_cases h:i<ids.length
      · rw[if_pos h] at hb
        rw[cmOld hb];exact hc
      · rw[if_neg h] at hb
        by_cases h2:i<ids.length+new.length
        · rw[if_pos h2] at hb
          cases hb
          rw[cmNew (by omega)]
          rw[show ids.length+(i-ids.length)=i by omega]
          exact hc
        · rw[if_neg h2] at hb;cases hb
    · intro p p' hp hn g hg
      cases p with
      | frz=>
        simp[pvR,Iz] at hp
        subst hp
        exact hg
      | reg n=>
        cases n with
        | zero=>simp[pvR,Iz] at hp
        | succ n=>
          simp[pvR,Iz] at hp
          subst hp
          rcases hg with⟨m,hm,hg⟩|hg
          · obtain⟨m,rfl⟩:∃k,m=k+1:=⟨m-1,by omega⟩
            rw[hL.S.1] at hg
            exact .inl ⟨m,by omega,hg⟩
          · exact .inr hg
      | ver b v=>exact(hn b v rfl).elim
  have mvd:∀b x',(b∈ids\/(nb<=b/\b<nb+new.length))->look b (K3 X X1 ids nb new.length (u++u')).s.st=some x'->
      ∃i x,look i X1.s.st=some x/\(K3 X X1 ids nb new.length (u++u')).cm b=X1.cm i/\(∀cb,I3 X1 cb x->I3 (K3 X X1 ids nb new.length (u++u')) cb x')/\look i (Rp (Bi 0 ids)++Ff ids.length nb new.length)=some b:=by
    intro b x' hM hl
    rcases hM with hM|hM
    · obtain⟨j,hj⟩:=List.getElem?_of_mem hM
      have hlt:=(List.getElem?_eq_some_iff.1 hj).1
      obtain⟨fo,z,k1,k2,k3⟩:=lkOld hj
      rw[hl] at k2
      subst k2
      rcases k3 with⟨_,k3⟩|⟨x,y,e1,e2,e3⟩
      · cases k3
      · cases e3
        subst e1
        refine⟨j,x, ?_,cmOld hj,λ cb hb=>Aan (T5 sim hb e2), ?_⟩
        · rw[hL.st,if_pos hlt,k1];rfl
        · rw[Ry,if_pos hlt];exact hj
    · obtain⟨j,rfl⟩:∃j,b=nb+j:=⟨b-nb,by omega⟩
      have hlt:j<new.length:=by omega
      obtain⟨y,k1,k2⟩:=lkNew (j:=j) (x:=new[j]) (by simp[hlt])
      rw[hl] at k2
      cases k2
      refine⟨ids.length+j,new[j], ?_,cmNew hlt,λ cb hb=>T5 sim hb k1, ?_⟩
      · rw[hL.st,if_neg (by omega),show ids.length+j-ids.length=j by omega]
        simp[hlt]
      · rw[Ry,if_neg (by omega),if_pos (by omega)]
        congr 1
        omega
  have mv:Mv X (K3 X X1 ids nb new.length (u++u')) (λ b=>b∈ids\/(nb<=b/\b<nb+new.length)) (Aaq X ids):=by
    have hfr:=hL.rel.fr
    have hsm:SMv X (K3 X X1 ids nb new.length (u++u')) (λ b=>b∈ids\/(nb<=b/\b<nb+new.length)):=by
      refine⟨⟨λ _=>rfl,λ g hg=>hL.S.2 g hg⟩,λ g hg=> ?_⟩
      obtain⟨h1,h2,h3⟩:=hL.rel.frz g hg
      rcases h2 with h2|h2|h2
      · exact .inl h2
      · refine .inr ⟨h1, ?_, ?_⟩
        · obtain⟨b,x,cb,m1,m2,m3,m4⟩:=h2
          exact .inr ⟨b,x,cb,.inl m1,m2,m3,m4⟩
        · intro b x cb hM hl hc hgc
          obtain⟨i,y,k1,k2,_,_⟩:=mvd b x hM hl
          exact h3 i y cb k1 (by rw[<-k2];exact hc) hgc
      · refine .inr ⟨h1,.inl h2, ?_⟩
        intro b x cb hM hl hc hgc
        obtain⟨i,y,k1,k2,_,_⟩:=mvd b x hM hl
        exact h3 i y cb k1 (by rw[<-k2];exact hc) hgc
    refine⟨hsm,hfr.os,hfr.tape,hfr.output,hfr.size,λ g hg hT=>hfr.block g hg hT, ?_, ?_, ?_, ?_, ?_⟩
    · rintro g ⟨b,x,cb,m1,m2,m3,m4⟩
      exact⟨b,x,cb,.inl m1,m2,m3,m4⟩
    · intro b hM
      exact lkKeep (λ h=>hM (.inl h)) (λ h=>hM (.inr h))
    · intro b hM
      exact cmKeep (λ h=>hM (.inl h)) (λ h=>hM (.inr h))
    · intro b cb hM hc
      rcases hM with hM|hM
      · obtain⟨j,hj⟩:=List.getElem?_of_mem hM
        have hlt:=(List.getElem?_eq_some_iff.1 hj).1
        obtain⟨cb',k1,k2⟩:=hL.cmx j cb hlt (by simp only[inX,hj,zM,hc])
        exact⟨cb',by rw[cmOld hj];exact k1,k2⟩
      · rw[hN b hM.1 (by omega)] at hc
        cases hc
    · intro b cb ro' ver' ps' hM hc hl
      rcases hM with hM|hM
      · obtain⟨j,hj⟩:=List.getElem?_of_mem hM
        obtain⟨fo,z,k1,k2,k3⟩:=lkOld hj
        rw[hl] at k2
        subst k2
        rcases k3 with⟨_,k3⟩|⟨x,y,e1,e2,e3⟩
        · cases k3
        · obtain⟨x0,cb0,l1,l2⟩:=live b hM
          obtain⟨cb1,m1,m2,_⟩:=hR.blk b x0 l1
          have hv:ver'=Nw X.s b+1:=by
            cases y with
            | cell ro ver ps=>simp only[Ku,z8,Blk.cell.injEq] at e3;exact e3.2.1
            | map=>simp[Ku] at e3
            | iter=>simp[Ku] at e3
            | bld=>simp[Ku] at e3
          have hnm:∀g,cb1≠.map g:=by
            intro g e
            subst e
            obtain⟨i,x1,r1,r2,r3,_⟩:=mvd b _ (.inl hM) hl
            obtain⟨cb2,t1,t2,_⟩:=hL.rel.blk i x1 r1
            have hlt:=(List.getElem?_eq_some_iff.1 hj).1
            obtain⟨cb',k1,k2⟩:=hL.cmx j (.map g) hlt (by simp only[inX,hj,zM,m1])
            rw[cmOld hj,k1,t1] at r2
            cases r2
            have:=r3 _ t2
            cases cb2 with
            | map g'=>cases this
            | _=>simp[CB.same] at k2
          have hni:∀g,cb1≠.iter g:=by
            intro g e
            subst e
            obtain⟨i,x1,r1,r2,r3,_⟩:=mvd b _ (.inl hM) hl
            obtain⟨cb2,t1,t2,_⟩:=hL.rel.blk i x1 r1
            have hlt:=(List.getElem?_eq_some_iff.1 hj).1
            obtain⟨cb',k1,k2⟩:=hL.cmx j (.iter g) hlt (by simp only[inX,hj,zM,m1])
            rw[cmOld hj,k1,t1] at r2
            cases r2
            have:=r3 _ t2
            cases cb2 with
            | iter g'=>cases this
            | _=>simp[CB.same] at k2
          have hnb:∀g fp,cb1≠.bld g fp:=by
            intro g fp e
            subst e
            obtain⟨i,x1,r1,r2,r3,_⟩:=mvd b _ (.inl hM) hl
            obtain⟨cb2,t1,t2,_⟩:=hL.rel.blk i x1 r1
            have hlt:=(List.getElem?_eq_some_iff.1 hj).1
            obtain⟨cb',k1,k2⟩:=hL.cmx j (.bld g fp) hlt (by simp only[inX,hj,zM,m1])
            rw[cmOld hj,k1,t1] at r2
            cases r2
            have:=r3 _ t2
            cases cb2 with
            | bld g'=>cases this
            | _=>simp[CB.same] at k2
          cases m2 with
          | bld=>exact(hnb _ _ rfl).elim
          | map=>exact(hnm _ rfl).elim
          | iter=>exact(hni _ rfl).elim
          | box=>
            refine⟨_,_,_,l1, ?_, ?_⟩
            · rw[hv];simp only[Nw,l1];omega
            · intro e;rw[hv] at e;simp only[Nw,l1] at e;omega
          | row=>
            refine⟨_,_,_,l1, ?_, ?_⟩
            · rw[hv];simp only[Nw,l1];omega
            · intro e;rw[hv] at e;simp only[Nw,l1] at e;omega
      · rw[hN b hM.1 (by omega)] at hc
        cases hc
  refine⟨mv.rel hR ?_ ?_ ?_,mv.ext hR,⟨λ _=>rfl,λ g hg=>hL.S.2 g hg⟩,rfl, ?_,O8 sim hL.val hF.hv⟩
  · exact Cg _ hR.uq
  · intro b x' hM hl
    obtain⟨i,x,k1,k2,k3,_⟩:=mvd b x' hM hl
    obtain⟨cb,h1,h2,h3,h4⟩:=hL.rel.blk i x k1
    refine⟨cb,by rw[k2];exact h1,k3 cb h2,h3,λ g hg=>⟨(h4 g hg).1, ?_⟩⟩
    rcases(h4 g hg).2 with h5|h5
    · obtain⟨b',x'',cb',m1,m2,m3,m4⟩:=h5
      exact .inr ⟨b',x'',cb',.inl m1,m2,m3,m4⟩
    · exact .inl h5
  · intro b b' x x' cb cb' g hM hM' hl hl' hc hc' hg hg'
    obtain⟨i,y,k1,k2,_,k4⟩:=mvd b x hM hl
    obtain⟨i',y',k1',k2',_,k4'⟩:=mvd b' x' hM' hl'
    have:=hL.rel.dis i i' y y' cb cb' g k1 k1' (by rw[<-k2];exact hc) (by rw[<-k2'];exact hc') hg hg'
    subst this
    rw[k4] at k4'
    cases k4'
    rfl
  · intro b hb
    by_cases h:b∈ids
    · obtain⟨x,cb,_,hc⟩:=live b h
      exact .inl (by rw[hc];simp)
    · by_cases h2:nb<=b/\b<nb+new.length
      · exact .inr ⟨h2.1,by omega⟩
      · rw[cmKeep h h2] at hb
        exact .inl hb
end Go.Ev
namespace Go.Ev
variable{R:Type}{E:Env}{X:Cx}{P:Program}
theorem Ext.seq{X Y:Cx}(hcm:Y.cm=X.cm)(hS:Y.S=X.S)(hw:Y.w=X.w)(hs:∀b,look b Y.s.st=look b X.s.st):Ext X Y where
 cmx b cb h:=⟨cb,by rw[hcm];exact h,cb.same_refl⟩
 sts n g h:=⟨by rw[hS];exact h,by rw[hw]⟩
 ver b cb hc ro' v' ps' hl:=by
  rw[hs] at hl
  exact⟨ro',v',ps',hl,zC _,λ _ _=>⟨rfl,rfl,by rw[hcm],λ g _=>by rw[hw]⟩⟩
theorem Rel.seq{X Y:Cx}(R:Rel E X)(hcm:Y.cm=X.cm)(hS:Y.S=X.S)(hw:Y.w=X.w)(hs:∀b,look b Y.s.st=look b X.s.st)(hu:uniq Y.s.st):Rel E Y:=by
 have hx:=Ext.seq hcm hS hw hs
 refine⟨?_, ?_, ?_, ?_, ?_,hu⟩
 ·intro b x hl
  rw[hs] at hl
  obtain⟨cb,h1,h2,h3,h4⟩:=R.blk b x hl
  exact⟨cb,by rw[hcm];exact h1,h2.ext hx λ g _=>by rw[hw],h3,λ g hg=>by rw[hw];exact h4 g hg⟩
 ·intro b b' x x' cb cb' g hl hl' hc hc'
  rw[hs] at hl hl'
  rw[hcm] at hc hc'
  exact R.dis b b' x x' cb cb' g hl hl' hc hc'
 ·intro n g h;rw[hS] at h;exact R.out n g h
 ·intro g h
  rw[hS] at h
  obtain⟨h1,h2,h3⟩:=R.frz g h
  exact⟨by rw[hw];exact h1,h2,λ b x cb hl hc=>h3 b x cb (by rw[<-hs];exact hl) (by rw[<-hcm];exact hc)⟩
 ·rw[hw];exact R.fr
theorem Agq(hR:Rel E X){b v:Nat}{ro:Bool}{K:Ki}{l:List K.den}(hl:look b X.s.st=some (.cell ro v [.rw K l])):
    ∃A c fp Y,X.cm b=some (.row A l.length c K.size fp)/\Gf X.w K.size l.length (A0 X.w (X.S none) K l) (.slice A l.length c) fp/\Y.s={X.s with st:=del b X.s.st}/\Rel E Y/\Ext X Y/\GS Y.S X.S/\Y.w=X.w/\(∀g∈fp,Y.S none g)/\Y.cm=X.cm:=by
  obtain⟨A,c,fp,u1,u2,u3,u4⟩:=Ch hR hl
  let Y:Cx:={X with S:=λ q=>match q with|none=>λ g=>X.S none g\/g∈fp|some n=>X.S (some n),s:={X.s with st:=del b X.s.st}}
  have hlk:∀k,look k Y.s.st=if k=b then none else look k X.s.st:=λ k=>Lq _ hR.uq
  have gs:GS Y.S X.S:=⟨λ _=>rfl,λ _ h=>.inl h⟩
  have hx:Ext X Y:=by
    refine⟨λ k cb h=>⟨cb,h,cb.same_refl⟩,λ n g h=>⟨gs.mono n g h,rfl⟩, ?_⟩
    intro k cb _ ro' v' ps' h
    rw[hlk] at h
    by_cases e:k=b
    · rw[if_pos e] at h;cases h
    · rw[if_neg e] at h
      exact⟨ro',v',ps',h,zC _,λ _ _=>⟨rfl,rfl,rfl,λ _ _=>rfl⟩⟩
  obtain⟨cb0,w1,w2,w3,w4⟩:=hR.blk b _ hl
  rw[u1] at w1
  cases w1
  refine⟨A,c,fp,Y,u1,u2,rfl,⟨?_, ?_,hR.out, ?_,hR.fr,Ht hR.uq⟩,hx,gs,rfl,λ g hg=>.inr hg,rfl⟩
  · intro k x h
    rw[hlk] at h
    by_cases e:k=b
    · rw[if_pos e] at h;cases h
    · rw[if_neg e] at h
      obtain⟨cb,k1,k2,k3,k4⟩:=hR.blk k x h
      exact⟨cb,k1,k2.ext hx λ _ _=>rfl,k3,k4⟩
  · intro k k' x x' cb cb' g h h' hc hc' hg hg'
    rw[hlk] at h h'
    by_cases e:k=b
    · rw[if_pos e] at h;cases h
    · by_cases e':k'=b
      · rw[if_pos e'] at h';cases h'
      · rw[if_neg e] at h
        rw[if_neg e'] at h'
        exact hR.dis k k' x x' cb cb' g h h' hc hc' hg hg'
  · intro g hg
    rcases hg with hg|hg
    · obtain⟨f1,f2,f3⟩:=hR.frz g hg
      refine⟨f1,f2,λ k x cb h hc=> ?_⟩
      rw[hlk] at h
      by_cases e:k=b
      · rw[if_pos e] at h;cases h
      · rw[if_neg e] at h
        exact f3 k x cb h hc
    · refine⟨(w4 g hg).1,.inr (w4 g hg).2,λ k x cb h hc hgc=> ?_⟩
      rw[hlk] at h
      by_cases e:k=b
      · rw[if_pos e] at h;cases h
      · rw[if_neg e] at h
        exact e (hR.dis k b x _ cb _ g h hl hc u1 hgc hg)
theorem V4{s:St}{b:Nat}{a:AV}(h:Bq s b=some a):∃ro v K l,look b s.st=some (.cell ro v [.rw K l])/\a=.rw K l:=by
 unfold Bq at h
 split at h
 ·rename_i ro v K l hl
  cases h
  exact⟨ro,v,K,l,hl,rfl⟩
 ·cases h
theorem Xs(tm:List (Nat×AV)):∀{ks:List Nat} {X:Cx},Rel E X->ks.Nodup->(∀b∈ks,∃a,Bq X.s b=some a)->
  ∃Y,Rel E Y/\Ext X Y/\GS Y.S X.S/\Y.w=X.w/\Y.cm=X.cm/\Y.s={X.s with tm:=tm,st:=A6 (By ks) X.s.st}/\∀b∈ks,∀cb,X.cm b=some cb->∀g∈cb.fp,Y.S none g
 | [],X,hR,_,_=>by
  refine⟨{X with s:={X.s with tm:=tm}},hR.seq rfl rfl rfl (λ _=>rfl) hR.uq,Ext.seq rfl rfl rfl λ _=>rfl,.refl _,rfl,rfl,rfl,by simp⟩
 | b::ks,X,hR,hnd,hrow=>by
  obtain⟨a,ha⟩:=hrow b (by simp)
  obtain⟨ro,v,K,l,hl,rfl⟩:=V4 ha
  obtain⟨A,c,fp,Y,u1,u2,u3,u4,u5,u6,u7,u8,u9⟩:=Agq hR hl
  have hnd':=List.nodup_cons.1 hnd
  obtain⟨Z,v1,v2,v3,v4,v5,v6,v7⟩:=Xs tm (ks:=ks) u4 hnd'.2 (λ b' hb'=>by
   obtain⟨a',ha'⟩:=hrow b' (by simp[hb'])
   refine⟨a', ?_⟩
   rw[u3,Cf (s:=X.s) (Hr (k:=b') (i:=b) (λ e=>hnd'.1 (by rw[<-e];exact hb')) _)]
   exact ha')
  refine⟨Z,v1,u5.trans v2,v3.trans u6,v4.trans u7,v5.trans u9, ?_, ?_⟩
  ·rw[v6,u3];rfl
  ·intro b' hb' cb hc g hg
   rcases List.mem_cons.1 hb' with rfl|hb'
   ·rw[u1] at hc
    cases hc
    exact v3.2 g (u8 g hg)
   ·exact v7 b' hb' cb (by rw[u9];exact hc) g hg
theorem Amc{Y:Cx}(hR:Rel E X)(hx:Ext X Y)(hw:Y.w=X.w){ks:List Nat}(hZ:∀b∈ks,∀cb,X.cm b=some cb->∀g∈cb.fp,Y.S none g){a a':AV}{v:Value}{k:List Nat}(hv:VRel X a v)(h:fz1 X.s a=some (a',k))(hk:∀b∈k,b∈ks):
  VRel Y a' v/\(a.plain=true->a'.plain=true)/\(a.norw=true->a'.norw=true):=by
 unfold fz1 at h
 split at h
 ·rename_i b
  split at h
  case h_2=>cases h
  rename_i K l hrow
  simp only[z8,z9] at h
  obtain⟨rfl,rfl⟩:=h
  obtain⟨ro,ver,K',l',hl,e⟩:=V4 hrow
  cases e
  obtain⟨A,c,fp,u1,u2,u3,u4⟩:=Ch hR hl
  cases hv with
  | sl hcm=>
   rw[u1] at hcm
   cases hcm
   obtain⟨k1,k2,k3⟩:=u2.ro (S:=Y.S none) rfl λ g hg=>hZ b (hk b (by simp)) _ u1 g hg
   exact⟨.ro k1 k2 trivial λ _=>Fv k3 (λ g hg=>⟨hg,by rw[hw]⟩) λ cs hc=>Dq hc (λ g hg=>⟨hg,by rw[hw]⟩) λ g hg=>hx.sts none g hg,λ _=>rfl,λ _=>rfl⟩
 ·rename_i b o n
  split at h
  case h_2=>cases h
  rename_i K l hrow
  simp only[z8,z9] at h
  obtain⟨rfl,rfl⟩:=h
  obtain⟨ro,ver,K',l',hl,e⟩:=V4 hrow
  cases e
  obtain⟨A,c,fp,u1,u2,u3,u4⟩:=Ch hR hl
  cases hv with
  | ss0 hcm ho=>
   have hz:(l.drop o).take 0=[]:=rfl
   rw[hz]
   exact⟨.ro (zC _) (.inl rfl) trivial λ _=>⟨_,0,rfl,zC _,.inl rfl⟩,λ _=>rfl,λ _=>rfl⟩
  | ss hcm v1 v2 v3=>
   rw[u1] at hcm
   cases hcm
   obtain⟨f',q1,q2⟩:=Im rfl u2 v1 v2 v3
   have hlen:((l.drop o).take n).length=n:=by simp;omega
   obtain⟨k1,k2,k3⟩:=q1.ro (S:=Y.S none) hlen.symm λ g hg=>hZ b (hk b (by simp)) _ u1 g (q2.subset hg)
   have:=VRel.ro (X:=Y) (q:=.frz) (K:=K) (l:=(l.drop o).take n) (by rw[hlen];exact k1) (by rw[hlen];exact k2) trivial λ _=>by rw[hlen];exact Fv k3 (λ g hg=>⟨hg,by rw[hw]⟩) λ cs hc=>Dq hc (λ g hg=>⟨hg,by rw[hw]⟩) λ g hg=>hx.sts none g hg
   rw[hlen] at this
   exact⟨this,λ _=>rfl,λ _=>rfl⟩
 ·simp only[z8,z9] at h
  obtain⟨rfl,rfl⟩:=h
  exact⟨hv.ext hx,id,id⟩
theorem J4{s:St}{a:AV}{r qs:List AV}{k:List Nat}(h:fzL s (a::r)=some (qs,k)):∃a' k1 r' k2,fz1 s a=some (a',k1)/\fzL s r=some (r',k2)/\qs=a'::r'/\k=k1++k2:=by
 simp only[fzL] at h
 split at h
 ·rename_i a' k1 r' k2 h1 h2
  simp only[z8,z9] at h
  exact⟨a',k1,r',k2,h1,h2,h.1.symm,h.2.symm⟩
 ·cases h
theorem Vd{Y:Cx}(hR:Rel E X)(hx:Ext X Y)(hw:Y.w=X.w){ks:List Nat}(hZ:∀b∈ks,∀cb,X.cm b=some cb->∀g∈cb.fp,Y.S none g):∀{ps qs:List AV} {cs:List Value} {fp:List Nat} {k:List Nat},PRs X ps cs fp->fzL X.s ps=some (qs,k)->(∀b∈k,b∈ks)->
  PRs Y qs cs fp/\((∀a∈ps,a.norw=true)->∀a∈qs,a.norw=true)
 | _,qs,_,_,k,.nil,h,_=>by
  simp only[fzL,z8,z9] at h
  obtain⟨rfl,rfl⟩:=h
  exact⟨.nil,λ h=>h⟩
 | _,qs,_,_,k,.one h1 h2 h3 h4,h,hk=>by
  obtain⟨a',k1,r',k2,e1,e2,rfl,rfl⟩:=J4 h
  obtain⟨j1,j2,j3⟩:=Amc hR hx hw hZ h3 e1 λ b hb=>hk b (by simp[hb])
  obtain⟨i1,i2⟩:=Vd hR hx hw hZ h4 e2 λ b hb=>hk b (by simp[hb])
  refine⟨.one (j2 h1) h2 j1 i1,λ hn x hx=> ?_⟩
  rcases List.mem_cons.1 hx with rfl|hx
  ·exact j3 (hn _ (by simp))
  ·exact i2 (λ y hy=>hn y (by simp[hy])) x hx
 | _,qs,_,_,k,.arr (n:=n) (K:=K) (l:=l) h1 h2 h3,h,hk=>by
  obtain⟨a',k1,r',k2,e1,e2,rfl,rfl⟩:=J4 h
  obtain⟨i1,i2⟩:=Vd hR hx hw hZ h3 e2 λ b hb=>hk b (by simp[hb])
  have:a'=.arr n K l:=by simp[fz1] at e1;exact e1.1.symm
  subst this
  refine⟨.arr h1 (h2.move (hx.sts none) λ g _=>by rw[hw]) i1,λ hn x hx=> ?_⟩
  rcases List.mem_cons.1 hx with rfl|hx
  ·rfl
  ·exact i2 (λ y hy=>hn y (by simp[hy])) x hx
 | _,qs,_,_,k,.nl (K:=K) (l:=l) h1 h3,h,hk=>by
  obtain⟨a',k1,r',k2,e1,e2,rfl,rfl⟩:=J4 h
  obtain⟨i1,i2⟩:=Vd hR hx hw hZ h3 e2 λ b hb=>hk b (by simp[hb])
  have:a'=.nl K l:=by simp[fz1] at e1;exact e1.1.symm
  subst this
  refine⟨.nl (h1.move (hx.sts none) λ g _=>by rw[hw]) i1,λ hn x hx=> ?_⟩
  rcases List.mem_cons.1 hx with rfl|hx
  ·rfl
  ·exact i2 (λ y hy=>hn y (by simp[hy])) x hx
 | _,qs,_,_,k,.rw (K:=K) (l:=l) h2 h3,h,hk=>by
  obtain⟨a',k1,r',k2,e1,e2,rfl,rfl⟩:=J4 h
  obtain⟨i1,i2⟩:=Vd hR hx hw hZ h3 e2 λ b hb=>hk b (by simp[hb])
  have:a'=.rw K l:=by simp[fz1] at e1;exact e1.1.symm
  subst this
  refine⟨.rw (h2.move (hx.sts none) λ g _=>by rw[hw]) i1,λ hn x hx=> ?_⟩
  rcases List.mem_cons.1 hx with rfl|hx
  ·exact hn _ (by simp)
  ·exact i2 (λ y hy=>hn y (by simp[hy])) x hx
theorem Av6{Y:Cx}(hR:Rel E X)(hx:Ext X Y)(hw:Y.w=X.w){ks:List Nat}(hZ:∀b∈ks,∀cb,X.cm b=some cb->∀g∈cb.fp,Y.S none g){a a':AV}{v:Value}{k:List Nat}(hv:VRel X a v)(h:fzA X.s a=some (a',k))(hk:∀b∈k,b∈ks):VRel Y a' v:=by
 unfold fzA at h
 split at h
 ·rename_i ps
  split at h
  case h_2=>cases h
  rename_i qs k' hq
  simp only[z8,z9] at h
  obtain⟨rfl,rfl⟩:=h
  cases hv with
  | agg h1 h2=>
   obtain⟨i1,i2⟩:=Vd hR hx hw hZ h1 hq hk
   exact .agg i1 (i2 h2)
 ·exact(Amc hR hx hw hZ hv h hk).1
theorem Ve{s:St}{i:Nat}{r:List Nat}{l:List (Nat×AV)}{k:List Nat}(h:fzT s (i::r)=some (l,k)):∃a k1 l' k2,fzA s (getD .un i s.tm)=some (a,k1)/\fzT s r=some (l',k2)/\l=(i,a)::l'/\k=k1++k2:=by
 simp only[fzT] at h
 split at h
 ·rename_i a k1 l' k2 h1 h2
  simp only[z8,z9] at h
  exact⟨a,k1,l',k2,h1,h2,h.1.symm,h.2.symm⟩
 ·cases h
theorem Amf{Y:Cx}(hR:Rel E X)(hx:Ext X Y)(hw:Y.w=X.w){ks:List Nat}(hZ:∀b∈ks,∀cb,X.cm b=some cb->∀g∈cb.fp,Y.S none g){a:Act}(hT:Jo X a):∀{sl:List Nat} {l:List (Nat×AV)} {k:List Nat},fzT X.s sl=some (l,k)->(∀b∈k,b∈ks)->
  ∀p∈l,VRel Y p.2 (a.tmps.getD p.1 undef)
 | [],l,k,h,_=>by
  simp only[fzT,z8,z9] at h
  rw[<-h.1];simp
 | i::r,l,k,h,hk=>by
  obtain⟨x,k1,l',k2,e1,e2,rfl,rfl⟩:=Ve h
  intro p hp
  rcases List.mem_cons.1 hp with rfl|hp
  ·exact Av6 hR hx hw hZ (hT i) e1 λ b hb=>hk b (by simp[hb])
  ·exact Amf hR hx hw hZ hT e2 (λ b hb=>hk b (by simp[hb])) p hp
theorem V1{Y:Cx}{f:Nat->Value}:∀{l tm:List (Nat×AV)},(∀p∈l,VRel Y p.2 (f p.1))->(∀t,VRel Y (getD .un t tm) (f t))->∀t,VRel Y (getD .un t (Lw l tm)) (f t)
 | [],tm,_,h=>h
 | (i,x)::r,tm,hl,h=>by
  simp only[Lw]
  refine V1 (λ p hp=>hl p (by simp[hp])) λ t=> ?_
  rw[Fs]
  split
  ·rename_i e;subst e;exact hl (t,x) (by simp)
  ·exact h t
theorem Vz:∀{l tm tm':List (Nat×AV)} {t:Nat},getD .un t tm'=getD .un t tm->getD .un t (Lw l tm')=getD .un t (Lw l tm)
 | [],_,_,_,h=>h
 | (i,x)::r,tm,tm',t,h=>by
  simp only[Lw]
  refine Vz ?_
  rw[Fs,Fs,h]
theorem Ags{s s':St}{a a':AV}{k:List Nat}(h:fz1 s a=some (a',k))(hs:∀b∈k,look b s'.st=look b s.st):fz1 s' a=some (a',k):=by
 unfold fz1 at h⊢
 split at h
 ·rename_i b
  split at h
  case h_2=>cases h
  rename_i K l hrow
  simp only[z8,z9] at h
  obtain⟨rfl,rfl⟩:=h
  rw[Cf (hs b (by simp)),hrow]
 ·rename_i b o n
  split at h
  case h_2=>cases h
  rename_i K l hrow
  simp only[z8,z9] at h
  obtain⟨rfl,rfl⟩:=h
  rw[Cf (hs b (by simp)),hrow]
 ·exact h
theorem Agt{s s':St}:∀{ps qs:List AV} {k:List Nat},fzL s ps=some (qs,k)->(∀b∈k,look b s'.st=look b s.st)->fzL s' ps=some (qs,k)
 | [],_,_,h,_=>h
 | a::r,qs,k,h,hs=>by
  obtain⟨a',k1,r',k2,e1,e2,rfl,rfl⟩:=J4 h
  simp only[fzL,Ags e1 λ b hb=>hs b (by simp[hb]),Agt e2 λ b hb=>hs b (by simp[hb])]
theorem Aq5{s s':St}{a a':AV}{k:List Nat}(h:fzA s a=some (a',k))(hs:∀b∈k,look b s'.st=look b s.st):fzA s' a=some (a',k):=by
 unfold fzA at h⊢
 split at h
 ·rename_i ps
  split at h
  case h_2=>cases h
  rename_i qs k' hq
  simp only[z8,z9] at h
  obtain⟨rfl,rfl⟩:=h
  simp only[Agt hq hs]
 ·exact Ags h hs
theorem Agv{s s':St}:∀{sl:List Nat} {l:List (Nat×AV)} {k:List Nat},fzT s sl=some (l,k)->(∀i∈sl,getD .un i s'.tm=getD .un i s.tm)->(∀b∈k,look b s'.st=look b s.st)->fzT s' sl=some (l,k)
 | [],_,_,h,_,_=>h
 | i::r,l,k,h,ht,hs=>by
  obtain⟨a,k1,l',k2,e1,e2,rfl,rfl⟩:=Ve h
  simp only[fzT]
  rw[ht i (by simp),Aq5 e1 λ b hb=>hs b (by simp[hb]),Agv e2 (λ i hi=>ht i (by simp[hi])) λ b hb=>hs b (by simp[hb])]
theorem Ab2{s:St}{a a':AV}{k:List Nat}(h:fz1 s a=some (a',k)):∀b∈k,∃x,Bq s b=some x:=by
 unfold fz1 at h
 split at h
 ·split at h
  case h_2=>cases h
  rename_i K l hrow
  simp only[z8,z9] at h
  rw[<-h.2]
  intro b hb
  simp only[zL] at hb
  exact⟨_,hb▸hrow⟩
 ·split at h
  case h_2=>cases h
  rename_i K l hrow
  simp only[z8,z9] at h
  rw[<-h.2]
  intro b hb
  simp only[zL] at hb
  exact⟨_,hb▸hrow⟩
 ·simp only[z8,z9] at h
  rw[<-h.2];simp
theorem Ab3{s:St}:∀{ps qs:List AV} {k:List Nat},fzL s ps=some (qs,k)->∀b∈k,∃x,Bq s b=some x
 | [],_,_,h=>by
  simp only[fzL,z8,z9] at h
  rw[<-h.2];simp
 | a::r,qs,k,h=>by
  obtain⟨a',k1,r',k2,e1,e2,rfl,rfl⟩:=J4 h
  intro b hb
  rcases List.mem_append.1 hb with hb|hb
  ·exact Ab2 e1 b hb
  ·exact Ab3 e2 b hb
theorem Amd{s:St}{a a':AV}{k:List Nat}(h:fzA s a=some (a',k)):∀b∈k,∃x,Bq s b=some x:=by
 unfold fzA at h
 split at h
 ·split at h
  case h_2=>cases h
  rename_i qs k' hq
  simp only[z8,z9] at h
  rw[<-h.2]
  exact Ab3 hq
 ·exact Ab2 h
theorem Ab4{s:St}:∀{sl:List Nat} {l:List (Nat×AV)} {k:List Nat},fzT s sl=some (l,k)->∀b∈k,∃x,Bq s b=some x
 | [],_,_,h=>by
  simp only[fzT,z8,z9] at h
  rw[<-h.2];simp
 | i::r,l,k,h=>by
  obtain⟨a,k1,l',k2,e1,e2,rfl,rfl⟩:=Ve h
  intro b hb
  rcases List.mem_append.1 hb with hb|hb
  ·exact Amd e1 b hb
  ·exact Ab4 e2 b hb
theorem Es{b:Nat}:∀{l l':List Nat},b∈l->b∈l'->Ae6 l l'=true
 | [],_,h,_=>by simp at h
 | a::r,l',h,h'=>by
  simp only[Ae6,Bool.or_eq_true]
  rcases List.mem_cons.1 h with rfl|h
  ·exact .inl (Gm.2 h')
  ·exact .inr (Es h h')
theorem Oy{k:Nat}:∀{ks:List Nat} {st:List (Nat×Blk)},k∉ks->look k (A6 (By ks) st)=look k st
 | [],_,_=>rfl
 | b::ks,st,h=>by
  simp only[zI,not_or] at h
  show look k (A6 (By ks) (del b st))=look k st
  rw[Oy h.2,Hr h.1]
theorem Jp:∀(u u':Upd) (st:List (Nat×Blk)),A6 (u++u') st=A6 u' (A6 u st)
 | [],_,_=>rfl
 | (b,some x)::r,u',st=>by simp only[zS,A6];exact Jp r u' _
 | (b,none)::r,u',st=>by simp only[zS,A6];exact Jp r u' _
theorem G8{i:Nat}:∀{xs:List Operand},i∈Jt xs->Operand.tmp i∈xs
 | [],h=>by simp[Jt] at h
 | .tmp t::r,h=>by
  simp only[Jt,zI] at h
  rcases h with rfl|h
  ·simp
  ·exact zR _ (G8 h)
 | .const _::r,h=>zR _ (G8 (by simpa[Jt] using h))
 | .global _::r,h=>zR _ (G8 (by simpa[Jt] using h))
 | .func _::r,h=>zR _ (G8 (by simpa[Jt] using h))
theorem Aev{c:Cfg}{s:St}{o:Oper}{i:Nat}(h:i∈(Kj c s o).1):Operand.tmp i∈o.op.operands:=by
 unfold Kj at h
 split at h
 ·rename_i t a v hop
  split at h
  ·split at h
   ·rename_i K l hrow
    cases hK:K.shr<;>rw[hK] at h<;>simp only[cond_true,cond_false] at h
    ·simp at h
    ·have:=G8 h
     simp only[zL] at this
     rw[hop,this]
     simp[Op.operands]
   ·simp at h
  ·simp at h
 ·rename_i t n ps hop
  split at h
  ·split at h
   ·rename_i te hte K hK
    cases hK2:K.shr<;>rw[hK2] at h<;>simp only[cond_true,cond_false] at h
    ·simp at h
    ·have:=G8 h
     rw[hop]
     simp only[xH] at this
     obtain⟨x,hx,e⟩:=this
     simp only[Op.operands]
     simp
     exact⟨x.1,by rw[<-e];simpa using hx⟩
   ·simp at h
  ·simp at h
 ·simp at h
theorem Sv{c:Cfg}{s s':St}{o:Oper}(he:∀x∈o.op.operands,ev s' x=ev s x)(hl:∀b∈(Kj c s o).2,look b s'.st=look b s.st):Kj c s' o=Kj c s o:=by
 unfold Kj at hl⊢
 split
 ·rename_i t a v hop
  rw[he a (by rw[hop];simp[Op.operands])]
  rw[hop] at hl
  simp only at hl
  split
  ·rename_i b x y z e
   rw[e] at hl
   simp only at hl
   have hb:look b s'.st=look b s.st:=hl b (by split<;>simp)
   rw[Cf hb]
  ·rfl
 ·rfl
 ·rfl
theorem Ame{c:Cfg}(hC:Bk P c=true){s:St}{o:Oper}{nb:Nat}{cont:Cm R}{r:R}(h:fzE c s o nb cont=some r):Res P c s o nb cont r λ s' k=>fzE c s' o nb k:=by
 unfold fzE at h
 split at h
 ·rename_i rb hs
  obtain⟨v,u,rd,h1,h2,h3,_⟩:=(Qj hC h).out
  refine⟨v,u,rb++rd,h1,h2,λ s' ha R' k=> ?_,trivial⟩
  unfold fzE
  rw[Sv (s:=s) ha.ev (by rw[hs];exact λ b hb=>ha.rd b (by simp[hb])),hs]
  exact h3 s' ⟨ha.ev,λ c hc=>ha.pt c (by simp[hc]),λ b hb=>ha.rd b (by simp[hb]),ha.wr⟩ R' _
 ·rename_i sl rb hne hs
  split at h
  case h_2=>cases h
  rename_i l ks hT0
  obtain⟨hnd,h⟩:=Ao h
  obtain⟨v,u,rd,h1,h2,h3,_⟩:=(Qj hC h).out
  have hrd:rd=[]:=by
   cases rd with
   | nil=>rfl
   | cons x y=>cases h1
  subst hrd
  simp only at h1
  obtain⟨hmt,h1⟩:=Ao h1
  have hdis:∀b∈Bm u,b∉ks:=by
   intro b hb hk
   rw[Es hk hb] at hmt
   cases hmt
  refine⟨v,By ks++u,rb,h1, ?_, ?_,trivial⟩
  ·intro E X a hs' hR hT hF next Q hn
   subst hs'
   obtain⟨Y,v1,v2,v3,v4,v5,v6,v7⟩:=Xs (Lw l X.s.tm) hR (Du.1 hnd) (Ab4 hT0)
   have hTY:Jo Y a:=by
    intro t
    rw[v6]
    exact V1 (f:=λ t=>a.tmps.getD t undef) (Amf hR v2 v4 v7 hT hT0 λ b hb=>hb) (λ t=>(hT t).ext v2) t
   have:=h2 E Y a v6 v1 hTY (λ b hb hb'=>by rw[v5];exact hF b hb hb') next Q λ val X' hG=> ?_
   ·rw[v4] at this;exact this
   ·have hst:X'.s.st=A6 (By ks++u) X.s.st:=by rw[hG.st,v6,Jp]
    have hx':Ext X' {X' with s:={X.s with st:=A6 (By ks++u) X.s.st}}:=Ext.seq rfl rfl rfl λ b=>by
     show look b (A6 (By ks++u) X.s.st)=_
     rw[hst]
    refine hn val {X' with s:={X.s with st:=A6 (By ks++u) X.s.st}} ⟨hG.rel.seq rfl rfl rfl (λ b=>by show look b (A6 (By ks++u) X.s.st)=_;rw[hst]) (Cg _ hR.uq),(v2.trans hG.ext).trans hx',hG.S.trans v3,rfl,λ b hb=> ?_,hG.val.ext hx'⟩
    have:=hG.fresh b hb
    rw[v5] at this
    exact this
  ·intro s' ha R' k
   have ids:Bm (By ks++u)=ks++Bm u:=by simp[Bm,By,yX,Function.comp_def]
   have hks:∀b∈ks,look b s'.st=look b s.st:=λ b hb=>ha.wr b (by rw[ids];simp[hb])
   have hu:∀b∈Bm u,look b s'.st=look b s.st:=λ b hb=>ha.wr b (by rw[ids];simp[hb])
   unfold fzE
   rw[Sv (s:=s) ha.ev (by rw[hs];exact ha.rd),hs]
   have hsl:∀i∈sl,getD .un i s'.tm=getD .un i s.tm:=λ i hi=>ha.ev (.tmp i) (Aev (c:=c) (s:=s) (by rw[hs];exact hi))
   have hT':=Agv hT0 hsl hks
   split
   ·rename_i hh;cases hh;exact(hne (by first|rfl|exact hs)).elim
   ·rename_i sl' rb' hne' hh
    cases hh
    rw[hT']
    simp only[hnd,A3]
    refine(h3 _ ⟨?_, ?_, ?_, ?_⟩ R' _).trans ?_
    ·intro x hx
     cases x with
     | tmp t=>exact Vz (ha.ev _ hx)
     | _=>rfl
    ·simp
    ·simp
    ·intro b hb
     show look b (A6 (By ks) s'.st)=look b (A6 (By ks) s.st)
     rw[Oy (hdis b hb),Oy (hdis b hb)]
     exact hu b hb
    ·simp only[hmt,yD,A3]
end Go.Ev
namespace Go.Ev
variable{R:Type}{E:Env}{X:Cx}{P:Program}
structure Ran(P:Program)(s:St)(o:Oper)(nb:Nat)(cont:Cm R)(r:R):Prop where
 out:∃v u rd,cont v u rd=some r/\∀s',Nc s s' o u rd->Ass P s' o nb v u
theorem Acj{c:Cfg}(hC:Bk P c=true){s:St}{o:Oper}{nb:Nat}{cont:Cm R}{r:R}(h:fzE c s o nb cont=some r):Ran P s o nb cont r:=by
 obtain⟨v,u,rd,h1,_,h3,_⟩:=(Ame hC h).out
 refine⟨v,u,rd,h1,λ s' ha=> ?_⟩
 have:=h3 s' ha (AV×Upd×List Nat) (λ v u rd=>some (v,u,rd))
 obtain⟨v2,u2,rd2,k1,k2,_,_⟩:=(Ame hC this).out
 cases k1
 exact k2.x
theorem Anh{o:Oper}{cl:Call}{x:Operand}(hop:o.op=.call cl)(hb:cl.callee=.value x){a:Act}{f:Nat}{cs:Array Value}(hx:a.eval x=.func (.func f) #[] cs){fn:Func}(hf:P.funcs[f]?=some fn)(hn:fn.name≠ "runtime.NumGoroutine")(hbd:fn.body.isSome=true){w:World}:
  (execOp a.eval o).run P w=.ok (.enter f (cl.args.map a.eval++cs)) w:=by
 have h2:fn.body≠none:=by intro h;simp[h] at hbd
 simp[execOp,hop,resolve,hb,hx,Deferred.ofValue,invoke,callFunc,hf,hn,h2]
theorem Pn{as bs:List AV}{vs us:List Value}:B6 X as vs->B6 X bs us->B6 X (as++bs) (vs++us)
 | .nil,h=>h
 | .cons h1 h2,h=>.cons h1 (Pn h2 h)
theorem Ug{c:Cfg}{a:Act}(hT:Jo X a):∀{xs:List Operand} {ts:List Nat},xs.length=ts.length->B6 X ((xs.zip ts).map (λ x=>J9 c x.2 (ev X.s x.1))) (xs.map a.eval)
 | [],_,_=>.nil
 | x::xs,[],h=>by simp at h
 | x::xs,t::ts,h=>.cons (Wf (Bh hT x)) (Ug hT (by simpa using h))
theorem Arq{ok:Nat->Nat->Bool}{sh:Nat}{m:List (Nat×Nat)}{n:Nat}{v v':AV}(h:ren ok sh m n v=some v')(hv:∀t k n,v≠.pan t k n):∀t k n,v'≠.pan t k n:=by
 intro t k n' e
 subst e
 cases hp:v.plain with
 | true=>
  have:=Yh h hp
  cases this
 | false=>
  cases n with
  | zero=>simp[ren] at h
  | succ n=>
   cases v<;>simp only[AV.plain,reduceCtorEq] at hp<;>simp only[ren] at h<;>first
    | (cases h;done)
    | exact hv _ _ _ rfl
    | (split at h<;>cases h)
theorem Ag8{ok:Nat->Nat->Bool}{sh:Nat}{m:List (Nat×Nat)}{n:Nat}{v v':AV}(h:ren ok sh m (n+1) v=some v'):ren ok sh m (n+1) (Th v)=some (Th v')/\∀val,U5 v' val=U5 v val:=by
 by_cases hp:∃t k n,v=.pan t k n
 ·obtain⟨t,k,q,rfl⟩:=hp
  simp only[ren,z8] at h
  subst h
  exact⟨rfl,λ _=>rfl⟩
 ·have h1:∀t k n,v≠.pan t k n:=λ t k n e=>hp ⟨t,k,n,e⟩
  have h2:=Arq h h1
  rw[Mf h1,Mf h2]
  exact⟨h,λ val=>by rw[Ll h1,Ll h2]⟩
theorem Ua{p:Cj}{g:Nat}(h:X.Sof p g):X.Sof (wkP p) g:=by
 cases p with
 | reg n=>
  rcases h with⟨m,_,h⟩|h
  ·exact .inl ⟨m,yR _,h⟩
  ·exact .inr h
 | _=>exact h
theorem Axc{p:Cj}(h:Kn X p):Kn X (wkP p):=by cases p<;>exact h
theorem Ajk{s:St}{p:Cj}:valid s (wkP p)=valid s p:=by cases p<;>rfl
theorem Ahv{p:Cj}(h:∀b v0,p≠.ver b v0):∀b v0,wkP p≠.ver b v0:=by
 cases p with
 | ver b v=>exact(h b v rfl).elim
 | _=>simp[wkP]
theorem Ap8{a:AV}{v:Value}(h:VRel X a v):VRel X (wk1 a) v:=by
 unfold wk1
 split
 ·cases h with
  | ro h1 h2 h3 h4=>exact .ro h1 h2 (Axc h3) λ e=>Fv (h4 (by rw[<-Ajk];exact e)) (λ g hg=>⟨Ua hg,rfl⟩) λ cs hc=>Dq hc (λ g hg=>⟨Ua hg,rfl⟩) λ g hg=>⟨hg,rfl⟩
 ·cases h with
  | tr h1 h2=>exact .tr (Ahv h1) (h2.move λ g hg=>⟨Ua hg,rfl⟩)
 ·exact h
theorem Ajj{a:AV}(h:a.plain=true):(wk1 a).plain=true:=by
 unfold wk1
 split<;>first|rfl|exact h
theorem Ap7{a:AV}(h:a.norw=true):(wk1 a).norw=true:=by
 unfold wk1
 split<;>first|rfl|exact h
theorem Y0:∀{ps:List AV} {cs:List Value} {fp:List Nat},PRs X ps cs fp->PRs X (ps.map wk1) cs fp
 | _,_,_,.nil=>.nil
 | _,_,_,.one h1 h2 h3 h4=>.one (Ajj h1) h2 (Ap8 h3) (Y0 h4)
 | _,_,_,.arr h1 h2 h3=>.arr h1 h2 (Y0 h3)
 | _,_,_,.nl h1 h3=>.nl h1 (Y0 h3)
 | _,_,_,.rw h2 h3=>.rw h2 (Y0 h3)
theorem Axa{a:AV}{v:Value}(h:VRel X a v):VRel X (wkA a) v:=by
 have hn:∀{ps:List AV},(∀a∈ps,a.norw=true)->∀a∈ps.map wk1,a.norw=true:=by
  intro ps h a ha
  obtain⟨b,hb,rfl⟩:=List.mem_map.1 ha
  exact Ap7 (h b hb)
 unfold wkA
 split
 ·cases h with
  | agg h1 h2=>exact .agg (Y0 h1) (hn h2)
 ·cases h with
  | pr h1 h2 h3 h4 h7 h5 h6=>exact .pr (Ua h1) h2 h3 (Y0 h4) (hn h7) (Ahv h5) h6
 ·exact Ap8 h
theorem Axb{b:Bool}{as:List AV}{vs:List Value}(h:B6 X as vs):B6 X (wkL b as) vs:=by
  cases b with
  | false=>exact h
  | true=>
    show B6 X (as.map wkA) vs
    have:∀{as:List AV} {vs:List Value},B6 X as vs->B6 X (as.map wkA) vs:=by
      intro as
      induction as with
      | nil=>intro vs h;cases h;exact .nil
      | cons a r ih=>intro vs h;cases h with|cons h1 h2=>exact .cons (Axa h1) (ih h2)
    exact this h
theorem Ah9{c:Cfg}{C:Orc R}(hO:F9 P C){s:St}{o:Oper}{nb:Nat}{cont:Cm R}{r:R}{cl:Call}{x:Operand}(hop:o.op=.call cl)(hb:cl.callee=.value x)(h:Qo c C s o nb cont=some r):Ran P s o nb cont r:=by
  simp only[Qo,hop,hb] at h
  split at h
  case h_2=>cases h
  rename_i f caps hx
  obtain⟨hlen,h⟩:=Ao h
  have hlen:=zE hlen
  simp only[Asx] at h
  split at h
  case h_2=>cases h
  rename_i as lent bs has hbs
  obtain⟨hnd,h⟩:=Ao h
  rw[Du] at hnd
  obtain⟨v,fin,new,h,hok⟩:=hO _ _ _ _ _ h
  obtain⟨hle,h⟩:=Ao h
  rw[xD] at hle
  split at h
  case h_2=>cases h
  rename_i v' u u' hv hu hu'
  refine⟨v',u++u',lent,h, ?_⟩
  intro s' ha
  obtain⟨p1,_,_⟩:=Jd hu hnd
  generalize hids:Tj s.st 64 (Vf ((look f c.wr).getD []) 0 ((cl.args.toList.zip cl.argTypes.toList).map (λ x=>J9 c x.2 (ev s x.1))++caps)) []=ids at*
  have hag:∀b∈ids,look b s'.st=look b s.st:=λ b hb'=>ha.wr b (by
    simp only[Bm,List.map_append,zO]
    left
    have:yN (λ x=>x.fst) u=ids:=p1
    rw[this];exact hb')
  have hargs:(cl.args.toList.zip cl.argTypes.toList).map (λ x=>J9 c x.2 (ev s' x.1))=(cl.args.toList.zip cl.argTypes.toList).map (λ x=>J9 c x.2 (ev s x.1)):=by
    refine yC λ y hy=> ?_
    rw[ha.ev y.1 (by
      have:=(List.of_mem_zip hy).1
      simp[hop,Op.operands,Call.operands,hb]
      exact .inr (by simpa using this))]
  have hx':ev s' x=.fn f caps:=by rw[ha.ev x (by simp[hop,Op.operands,Call.operands,hb]),hx]
  have hF:Q9 P s' f ((cl.args.toList.zip cl.argTypes.toList).map (λ x=>J9 c x.2 (ev s' x.1))++caps) nb ((look f c.wr).getD []) ids as lent bs (Th v) fin new (Th v') u u':=by
    refine⟨hnd, ?_, ?_,hle,(Ag8 hv).1, ?_,hu'⟩
    · rw[hargs];exact Kg has ha.rd
    · rw[Ui hag];exact hbs
    · rw[<-hu]
      have key:∀(ids':List Nat) (n:Nat) (fin:List (Option Blk)) m',(∀b∈ids',look b s'.st=look b s.st)->En s' m' (Bi n ids') fin=En s m' (Bi n ids') fin:=by
        intro ids'
        induction ids' with
        | nil=>intro n fin m' _;cases fin<;>rfl
        | cons b r ih=>
          intro n fin m' hl
          cases fin with
          | nil=>rfl
          | cons fo q=>
            have e:=ih (n+1) q m' λ b' hb'=>hl b' (by simp[hb'])
            have e2:Nw s' b=Nw s b:=by simp only[Nw,hl b (by simp)]
            cases fo with
            | none=>simp only[Bi,En,e]
            | some y=>simp only[Bi,En,e,e2]
      exact key _ _ _ _ hag
  have key:∀E X a,X.s=s'->Rel E X->Jo X a->Pe X nb->∀(next:Act->World->Prop) (Q:Exit->Act->World->Prop),(∀val X',Good E X nb (Th v') (u++u') val X'->match U5 v' val with|.returned z=>next (a.put o.dst z) X'.w|.panicked ch=>Q (.panic ch) a X'.w|.outgrown=>LetsOut Q)->o.wp P a X.w next Q:=by
    intro E X a hs hR hT hN next Q hn
    subst hs
    obtain⟨fn,f1,f2,f3⟩:=hok.fn
    have hvx:=Bh hT x
    rw[hx'] at hvx
    generalize hax:a.eval x=vx at hvx
    cases hvx with
    | @fn _ _ vs hcaps=>
      unfold Oper.wp
      rw[Anh hop hb hax f1 f2 f3,Oper.upon_enter]
      have hvals:B6 X ((cl.args.toList.zip cl.argTypes.toList).map (λ x=>J9 c x.2 (ev X.s x.1))++caps) (cl.args.toList.map a.eval++vs):=
        Pn (Ug hT (by simpa using hlen)) hcaps
      have hent:=Ama (args:=[]) hR hnd hF.hbs (Axb (b:=H0 f c.wk) (Si hR hvals hF.has))
      have hgo:=hok.go _ _ _ hent
      have e:(cl.args.toList.map a.eval++vs).toArray=cl.args.map a.eval++vs.toArray:=by simp
      rw[e] at hgo
      refine hgo.mono ?_
      rintro e w' ⟨val,X1,rfl,rfl,hL⟩
      have:=hn val (K3 X X1 ids nb new.length (u++u')) (hF.good hR hN ⟨hL.rel,hL.S,hL.cmx,hL.st,hL.val⟩)
      rw[(Ag8 hv).2 val] at this
      cases he:U5 v val with
      | returned z=>rw[he] at this;exact this
      | panicked ch=>rw[he] at this;exact this
      | outgrown=>rw[he] at this;exact this
  by_cases hp:∃t k n,v'=.pan t k n
  · obtain⟨t,k,n,rfl⟩:=hp
    intro E X a hs hR hT hN next Q hn
    exact key E X a hs hR hT hN next Q hn
  · have h1:∀t k n,v'≠.pan t k n:=λ t k n e=>hp ⟨t,k,n,e⟩
    refine Wk.x λ E X a hs hR hT hN next Q hn=>key E X a hs hR hT hN next Q λ val X' hG=> ?_
    rw[Mf h1] at hG
    rw[Ll h1]
    exact hn val X' hG
theorem Afb{c:Cfg}{C:Orc R}{s:St}{o:Oper}{nb:Nat}{cont:Cm R}{r:R}{x:Operand}(hop:o.op=.panic x)(h:Qo c C s o nb cont=some r):Ran P s o nb cont r:=by
 simp only[Qo,hop] at h
 split at h
 case h_2=>cases h
 rename_i t k n hx
 refine⟨_,_,_,h,λ s' ha=> ?_⟩
 intro E X a hs hR hT hF next Q hn
 subst hs
 have hv:=Bh hT x
 rw[ha.ev x (by simp[hop,Op.operands]),hx] at hv
 generalize hxv:a.eval x=xv at hv
 cases hv with
 | ifc hv=>
  cases hv
  have:=hn undef X ⟨hR,.refl X,.refl _,rfl,λ _ h=>.inl h,.un _⟩
  unfold Oper.wp
  simp only[execOp,hop,hxv]
  exact this
theorem Aiy{c:Cfg}(hC:Bk P c=true){C:Orc R}(hO:F9 P C){s:St}{o:Oper}{nb:Nat}{cont:Cm R}{r:R}(h:Qo c C s o nb cont=some r):Ran P s o nb cont r:=by
 cases hop:o.op with
 | call cl=>
  cases hb:cl.callee with
  | value x=>exact Ah9 hO hop hb h
  | _=>simp only[Qo,hop,hb] at h;exact Acj hC h
 | panic x=>exact Afb hop h
 | _=>simp only[Qo,hop] at h;exact Acj hC h
end Go.Ev
