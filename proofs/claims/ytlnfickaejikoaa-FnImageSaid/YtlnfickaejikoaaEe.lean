/- An abstract evaluator of Go code over plain data, and the proof that what it says of a function comes to pass. Part 5. -/
import Derived.Test.YtlnfickaejikoaaEd
import Derived.RecoverIn
open Array renaming replicate->z8
open Bool renaming and_eq_true->z9
open Nat renaming blt_eq->zA,beq->zC,blt->zD
open List renaming map_cons->zB
set_option linter.unusedVariables false
set_option linter.unusedSimpArgs false
namespace Go.Ev
variable{R:Type}{P:Program}
structure Aqc(P:Program)(g e1 e2 N:Nat)(Rc:Code):Prop where
 out:∃gfn id q1 q2,P.funcs[g]?=some gfn/\gfn.name≠ "runtime.NumGoroutine" /\gfn.ntmps=N/\gfn.results= #[]/\gfn.body=some (.seq (.region id #[q1,q2] false) Rc)/\
  q1.op=.call {callee:=.builtin .recover,args:= #[],argTypes:= #[]}/\q1.dst=some e1/\q1.guard=none/\q2.op=.assign (.tmp e1)/\q2.dst=some e2/\q2.guard=none
 lt1:e1<N
 lt2:e2<N
inductive Aqh:FrameMode->Value->FrameMode->Prop
 | ret:Aqh .returning .nilIface .returning
 | pan (v:Value):Aqh (.panicking [{v,recovered:=false}]) v (.panicking [{v,recovered:=true}])
theorem Abb{g e1 e2 N:Nat}{Rc:Code}(hc:Aqc P g e1 e2 N Rc){u u':FrameMode}{x:Value}(hr:Aqh u x u'){caps:Array Value}(hcs:caps.size<=N){w:World}{K:Ending->FrameMode->World->Prop}
  (h:Rc.wpIn Fence.wide 0 P (λ e a' w'=>(e=.normal\/e=.ret)/\a'.defers=[]/\K (.returned (.tuple #[])) u' w') {tmps:=((caps++z8 (N-caps.size) undef).setIfInBounds e1 x).setIfInBounds e2 x,defers:=[]} w):
  CallsDIn Fence.wide 0 P g caps u w K:=by
 obtain⟨gfn,id,q1,q2,h1,h2,h3,h4,h5,h6,h7,h8,h9,h10,h11⟩:=hc.out
 refine callsDIn_of_wpSIn h1 h5 trivial λ c₀ cs hu=> ?_
 rw[h3]
 refine wpSIn_seq (wpSIn_region ?_)
 have hres:∀tm:Array Value,(results gfn tm).run P=λ w=>.ok (.tuple #[]) w:=by
  intro tm
  funext w
  simp[results,h4]
 have hsz:e1<(caps++z8 (N-caps.size) undef).size:=by simp;have:=hc.lt1;omega
 have fin:∀cs':List Frame,cs'={c₀ with mode:=u'}::cs->Rc.wpSIn Fence.wide 0 P (bodyPostS P gfn c₀ cs K) {tmps:=((caps++z8 (N-caps.size) undef).setIfInBounds e1 x).setIfInBounds e2 x,defers:=[]} cs' w:=by
  rintro cs' rfl
  refine wpSIn_of_wpIn rfl (wpIn_mono h ?_)
  rintro e a' w' ⟨he,hd,hK⟩
  rcases he with rfl|rfl
  ·exact⟨hd,u',rfl,.tuple #[],by rw[hres],hK⟩
  ·exact⟨hd,u',rfl,.tuple #[],by rw[hres],hK⟩
 have hrun:∀a:Act,(execOp a.eval q1).run P w=.ok .recover w:=by
  intro a
  simp[execOp,h6,resolve,invoke,builtin]
 have w1:∀tm:Array Value,Region.wanted q1 (yielded #[q1,q2] tm)=true:=λ a=>by simp only[Region.wanted,h8]
 have w2:∀tm:Array Value,Region.wanted q2 (yielded #[q1,q2] tm)=true:=λ a=>by simp only[Region.wanted,h11]
 have hrun2:∀a:Act,(execOp a.eval q2).run P w=.ok (.value (a.tmps.getD e1 undef)) w:=by
  intro a
  simp[execOp,h9,Act.eval]
 show wpOpsSIn Fence.wide 0 P #[q1,q2] _ [0,1] _ _ w
 have second:∀(cs':List Frame),cs'={c₀ with mode:=u'}::cs->wpOpsSIn Fence.wide 0 P #[q1,q2] (Exit.thenS (Rc.wpSIn Fence.wide 0 P (bodyPostS P gfn c₀ cs K)) (bodyPostS P gfn c₀ cs K)) [1] (({tmps:=caps++z8 (N-caps.size) undef,defers:=[]}:Act).put q1.dst x) cs' w:=by
  intro cs' hcs'
  have e:(({tmps:=caps++z8 (N-caps.size) undef,defers:=[]}:Act).put q1.dst x).tmps.getD e1 undef=x:=by
   rw[h7]
   simp only[Act.put]
   rw[Array.getD_eq_getD_getElem?,Array.getElem?_setIfInBounds_self_of_lt hsz]
   rfl
  simp only[wpOpsSIn,show(#[q1,q2]:Array Oper)[1]?=some q2 from rfl,w2,if_true,hrun2,e]
  refine⟨λ _ _=>trivial, ?_⟩
  have:=fin cs' hcs'
  rw[h7,h10]
  exact this
 rw[wpOpsSIn]
 simp only[show(#[q1,q2]:Array Oper)[0]?=some q1 from rfl,w1,if_true,hrun]
 refine⟨λ _ _=>trivial, ?_⟩
 cases hr with
 | ret=>
  have:recoverD (c₀::cs)=none:=by simp only[recoverD,hu]
  rw[this]
  exact second _ (by rw[<-hu])
 | pan=>
  have:recoverD (c₀::cs)=some (x,{c₀ with mode:=.panicking [{v:=x,recovered:=true}]}::cs):=by simp only[recoverD,hu]
  rw[this]
  exact second _ rfl
structure Avi(P:Program)(f:Nat)(fn:Func)(A B:Code)(d g:Nat)(caps:List Nat):Prop where
 hf:P.funcs[f]?=some fn
 name:fn.name≠ "runtime.NumGoroutine"
 out:∃id o1 o2 ts,fn.body=some (.seq A (.seq (.region id #[o1,o2] false) B))/\o1.op=.makeFunc (.func g) #[] (caps.map Operand.tmp).toArray/\o1.dst=some d/\o1.guard=none/\
  o2.op=.defer {callee:=.value (.tmp d),args:= #[],argTypes:=ts}/\o2.dst=none/\o2.guard=none
 hd:d<fn.ntmps
 wA:wfC fn.ntmps A=true
 wB:wfC fn.ntmps B=true
 dis:∀t∈Ef B,t∉caps
 dc:d∉caps
 lt:∀t∈caps,t<fn.ntmps
def Um(c:Cfg)(C:Orc R)(L:Kc R)(h hc:A1)(fn:Func)(A B Rc:Code)(d e2:Nat)(caps:List Nat)(args:List AV)(blks:List Blk)(k:AV->List (Option Blk)->List Blk->Option R):Option R:=
 chk (Nat.ble args.length fn.ntmps) (Fj c C L blks.length h 0 A (To args blks) λ e s1=>match e with
  | .normal=>Fj c C L blks.length h 0 B {s1 with tm:=put d .un s1.tm} λ e s3=>
    let after (x:AV):Option R:=Fj c C (λ _ _ _=>none) blks.length hc 0 Rc {tm:=put e2 x (D2 0 (caps.map λ t=>getD .un t s3.tm)),st:=s3.st,nx:=s3.nx} λ e4 s4=>match e4 with
     | .normal|.ret=>Afj c fn h blks.length {tm:=(D2 0 caps).map λ p=>(p.2,getD .un p.1 s4.tm),st:=s4.st,nx:=s4.nx} k
     | _=>none
    match e with
    | .normal|.ret=>after .nili
    | .pan t kk n=>after (.ifc t (.int kk n))
    | _=>none
  | _=>none)
def Afa(g:Nat)(vs:Array Value):Deferred:={target:=.fn (.func g) vs,args:= #[]}
theorem Aru{id d g:Nat}{o1 o2:Oper}{caps:List Nat}{ts:Array TypeId}(h1:o1.op=.makeFunc (.func g) #[] (caps.map Operand.tmp).toArray)(h2:o1.dst=some d)(h3:o1.guard=none)
  (h4:o2.op=.defer {callee:=.value (.tmp d),args:= #[],argTypes:=ts}) (h5:o2.dst=none) (h6:o2.guard=none) {a:Act} (hd:d<a.tmps.size) {w:World} {Q:Exit->Act->World->Prop}
  (h:Q .normal {tmps:=a.tmps.setIfInBounds d (.func (.func g) #[] (caps.map λ t=>a.tmps.getD t undef).toArray),defers:=Afa g (caps.map λ t=>a.tmps.getD t undef).toArray::a.defers} w):
  (Code.region id #[o1,o2] false).wpIn Fence.wide 0 P Q a w:=by
 have hr1:∀(w:World),(execOp a.eval o1).run P w=.ok (.value (.func (.func g) #[] (caps.map λ t=>a.tmps.getD t undef).toArray)) w:=by
  intro w
  simp[execOp,h1,Instr.makeFunc,Function.comp_def,Act.eval]
 have hr2:∀(b:Act) (w:World),b.tmps.getD d undef=.func (.func g) #[] (caps.map λ t=>a.tmps.getD t undef).toArray->(execOp b.eval o2).run P w=.ok (.defer (Afa g (caps.map λ t=>a.tmps.getD t undef).toArray)) w:=by
  intro b w e
  simp[execOp,h4,resolve,Act.eval,e,Deferred.ofValue,Afa]
 refine wpIn_region ?_
 show wpOpsIn Fence.wide 0 P #[o1,o2] Q [0,1] a w
 have w1:∀tm:Array Value,Region.wanted o1 (yielded #[o1,o2] tm)=true:=λ tm=>by simp only[Region.wanted,h3]
 have w2:∀tm:Array Value,Region.wanted o2 (yielded #[o1,o2] tm)=true:=λ tm=>by simp only[Region.wanted,h6]
 rw[wpOpsIn]
 simp only[show(#[o1,o2]:Array Oper)[0]?=some o1 from rfl,w1,if_true]
 refine⟨λ _ _=>trivial, ?_⟩
 have e0:∀o:Oper,Oper.semAt Fence.wide.round a.eval o=execOp a.eval o:=λ o=>rfl
 rw[e0,hr1,Oper.uponIn_value,h2,wpOpsIn]
 simp only[show(#[o1,o2]:Array Oper)[1]?=some o2 from rfl,w2,if_true]
 refine⟨λ _ _=>trivial, ?_⟩
 have e1:∀(b:Act),Oper.semAt Fence.wide.round b.eval o2=execOp b.eval o2:=λ b=>rfl
 rw[e1,hr2 _ _ (by
  simp only[Act.put]
  rw[Array.getD_eq_getD_getElem?,Array.getElem?_setIfInBounds_self_of_lt hd]
  rfl),Oper.uponIn_defer,h5,wpOpsIn]
 exact h
theorem Air{m N:Nat}{B:Nat->Code}:Ew P m N B (λ _ _ _=>(none:Option R)):=by
 intro b s k r h
 cases h
set_option maxHeartbeats 2000000 in
theorem Aif{c:Cfg}(hC:Bk P c=true)(hm:P.follows .mixedOrders=true){C:Orc R}(hO:F9 P C){f d g e1 e2 N:Nat}{fn:Func}{A B Rc:Code}{caps:List Nat}(hD:Avi P f fn A B d g caps)(hcl:Aqc P g e1 e2 N Rc)
  (hwR:wfC N Rc=true) (hlR:Av 0 Rc=[]) (hc1:caps.length<=e1) (hc2:caps.length<=e2) (hdR:∀t∈Ef Rc,caps.length<=t) (hrA:Gb A=false) (hrB:Gb B=false) (hrR:Gb Rc=false)
  {args:List AV} {blks:List Blk} {L:Kc R} (hL:Ew P blks.length fn.ntmps (bodyOf fn) L) (hBA:∀x∈Av 0 A,x.2=bodyOf fn x.1) (hBB:∀x∈Av 0 B,x.2=bodyOf fn x.1) {h hc:A1}
  {k:AV->List (Option Blk)->List Blk->Option R} {r:R} (hr:Um c C L h hc fn A B Rc d e2 caps args blks k=some r):∃v fin new,k v fin new=some r/\Ad4 P f args blks v fin new:=by
 obtain⟨id,o1,o2,ts,hb,p1,p2,p3,p4,p5,p6⟩:=hD.out
 have hfn:∃fn,P.funcs[f]?=some fn/\fn.name≠ "runtime.NumGoroutine" /\fn.body.isSome=true:=⟨fn,hD.hf,hD.name,by rw[hb];rfl⟩
 unfold Um at hr
 obtain⟨hlen,hr⟩:=Ao hr
 rw[Nat.ble_eq] at hlen
 obtain⟨eA,s1,h1,hu1,hA⟩:=E3 hC hm hO hL (by simp only[To];exact G9 _ _) hD.wA hBA hr
 cases eA with
 | exit id=>cases h1
 | ret=>cases h1
 | pan=>cases h1
 | normal=>
 simp only at h1
 obtain⟨eB,s3,h3,hu3,hB⟩:=E3 (b:=0) hC hm hO hL (by exact hu1) hD.wB hBB h1
 have main:∀(x:AV) (xv:Value) (u u':FrameMode),(∀Y,VRel Y x xv)->Aqh u xv u'->settle u'=.returning->u≠.run->
   (∀(Q:Ending->World->Prop) (a:Act) (w:World),LeavesInM Fence.wide 0 P fn a.tmps Q a.defers u w->bodyPostM Fence.wide 0 P fn Q (Abx eB) a w)->
   (Fj c C (λ _ _ _=>none) blks.length hc 0 Rc {tm:=put e2 x (D2 0 (caps.map λ t=>getD .un t s3.tm)),st:=s3.st,nx:=s3.nx} λ e4 s4=>match e4 with
     | .normal|.ret=>Afj c fn h blks.length {tm:=(D2 0 caps).map λ p=>(p.2,getD .un p.1 s4.tm),st:=s4.st,nx:=s4.nx} k
     | _=>none)=some r->∃v fin new,k v fin new=some r/\Ad4 P f args blks v fin new:=by
  intro x xv u u' hx hrec hset hrun hpost hR0
  obtain⟨eR,s4,h4,hu4,hR⟩:=E3 (m:=blks.length) (N:=N) (B:=λ _=>.skip) hC hm hO Air (by exact hu3) hwR (by rw[hlR];simp) hR0
  have hfin:(eR=.normal\/eR=.ret)/\Afj c fn h blks.length {tm:=(D2 0 caps).map λ p=>(p.2,getD .un p.1 s4.tm),st:=s4.st,nx:=s4.nx} k=some r:=by
   cases eR<;>first|exact⟨.inl rfl,h4⟩|exact⟨.inr rfl,h4⟩|cases h4
  obtain⟨heR,h5⟩:=hfin
  obtain⟨v,fin,new,k1,k2⟩:=Ag9 (N:=fn.ntmps) hC h5
  refine⟨v,fin,new,k1,hfn, ?_⟩
  intro E X vals hE
  have hvl:=Mo hE.vals
  refine callsIn_wide.1 (callsIn_of_wp_marks (n:=0) hD.hf hb trivial ?_)
  let EA:Env:={H2 E with nm:=true}
  have hI:Inv blks.length fn.ntmps X EA X {tmps:=vals.toArray++z8 (fn.ntmps-vals.toArray.size) undef,defers:=[]}:=by
   refine⟨hE.rel.env rfl rfl rfl, ?_, ?_,GS.refl _,λ b cb _ h=>⟨cb,h,cb.same_refl⟩,.nil, ?_,λ t v h=>by cases h⟩
   ·intro t
    rw[hE.s]
    exact Pb hE.vals _ t
   ·intro b hb
    rw[hE.s] at hb
    exact hE.top b hb
   ·simp;omega
  have fA:Gg EA A:=⟨λ _ _=>rfl,λ e=>by rw[hrA] at e;cases e⟩
  refine Ju (ρ:=none) (D0 (hA X EA X _ hE.s fA hI) ?_)
  rintro e' a1 w' ⟨rfl,X1,hs1,rfl,hI1⟩
  obtain⟨Ds,hd1,hn1,_,_⟩:=hI1.defers
  rw[hn1 rfl] at hd1
  have hd1:a1.defers=[]:=hd1
  refine Ju (ρ:=none) (Aru p1 p2 p3 p4 p5 p6 (by rw[hI1.size];exact hD.hd) ?_)
  rw[hd1]
  generalize hcv:(caps.map λ t=>a1.tmps.getD t undef)=cv
  let EB:Env:={H2 E with nm:=true,db:=[Afa g cv.toArray],kv:=λ t=>if t∈caps then some (a1.tmps.getD t undef) else none}
  let X2:Cx:=Ik X1 {s1 with tm:=put d .un s1.tm}
  have x12:Ext X1 X2:=Ext.seq rfl rfl rfl λ b=>by rw[hs1];rfl
  have hI2:Inv blks.length fn.ntmps X EB X2 {tmps:=a1.tmps.setIfInBounds d (.func (.func g) #[] cv.toArray),defers:=[Afa g cv.toArray]}:=by
   refine⟨Rel.seq (Y:=X2) (hI1.rel.env rfl rfl rfl) rfl rfl rfl (λ b=>by rw[hs1];rfl) hu1, ?_,λ b hb=>hI1.top b (by rw[hs1];exact hb),hI1.S,hI1.cmx,.nil,by simp;exact hI1.size, ?_⟩
   ·intro t
    show VRel X2 (getD .un t (put d .un s1.tm)) _
    rw[Fs]
    by_cases e:t=d
    ·rw[if_pos e];exact .un _
    ·rw[if_neg e,J5 (Ne.symm e)]
     have:=(hI1.tr t).ext x12
     rw[hs1] at this
     exact this
   ·intro t v hv
    have hv:(if t∈caps then some (a1.tmps.getD t undef) else none)=some v:=hv
    split at hv
    ·rename_i ht
     cases hv
     exact J5 λ e=>hD.dc (e▸ht)
    ·cases hv
  have fB:Gg EB B:=⟨λ t ht=>if_neg (hD.dis t ht),λ e=>by rw[hrB] at e;cases e⟩
  refine D0 (hB X EB X2 _ rfl fB hI2) ?_
  rintro e' a3 w' ⟨rfl,X3,hs3,rfl,hI3⟩
  refine hpost _ _ _ ?_
  obtain⟨Ds3,hd3,hn3,_,_⟩:=hI3.defers
  rw[hn3 rfl] at hd3
  have hd3:a3.defers=[Afa g cv.toArray]:=hd3
  rw[hd3]
  obtain⟨gfn,gid,g1,g2,j1,j2,j3,j4,j5,_⟩:=hcl.out
  refine⟨hrun,Or.inr ?_⟩
  refine⟨(λ e=>nomatch e),Fn.func g,cv.toArray,g,cv.toArray,rfl, ?_,λ _ _=>trivial, ?_⟩
  ·simp[Afa,invoke,callFunc,j1,j2,j5]
  have hcl':cv.length=caps.length:=by rw[<-hcv];simp
  have hlt1:=hcl.lt1
  have hlt2:=hcl.lt2
  refine Abb hcl hrec (by simp;omega) ?_
  let EC:Env:={H2 E with nm:=true,kv:=λ t=>if t<caps.length then some (cv.getD t undef) else none}
  let X3c:Cx:=Ik X3 {tm:=put e2 x (D2 0 (caps.map λ t=>getD .un t s3.tm)),st:=s3.st,nx:=s3.nx}
  have x3:Ext X3 X3c:=Ext.seq rfl rfl rfl λ b=>by rw[hs3];rfl
  have hkeep:∀t,t∈caps->a3.tmps.getD t undef=a1.tmps.getD t undef:=λ t ht=>hI3.keep t _ (if_pos ht)
  have hcap:∀i t,caps[i]?=some t->cv[i]?=some (a1.tmps.getD t undef):=λ i t hi=>by rw[<-hcv,List.getElem?_map,hi];rfl
  have hI3c:Inv blks.length N X EC X3c {tmps:=((cv.toArray++z8 (N-cv.toArray.size) undef).setIfInBounds e1 xv).setIfInBounds e2 xv,defers:=[]}:=by
   refine⟨Rel.seq (Y:=X3c) (hI3.rel.env rfl rfl rfl) rfl rfl rfl (λ b=>by rw[hs3];rfl) hu3, ?_,λ b hb=>hI3.top b (by rw[hs3];exact hb),hI3.S,hI3.cmx,.nil,by simp;omega, ?_⟩
   ·intro t
    show VRel X3c (getD .un t (put e2 x (D2 0 (caps.map λ t=>getD .un t s3.tm)))) _
    rw[Fs]
    by_cases e:t=e2
    ·rw[if_pos e]
     have:(((cv.toArray++z8 (N-cv.toArray.size) undef).setIfInBounds e1 xv).setIfInBounds e2 xv).getD t undef=xv:=by
      rw[e,Array.getD_eq_getD_getElem?,Array.getElem?_setIfInBounds_self_of_lt (by simp;omega)]
      rfl
     show VRel X3c x ((((cv.toArray++z8 (N-cv.toArray.size) undef).setIfInBounds e1 xv).setIfInBounds e2 xv).getD t undef)
     rw[this]
     exact hx X3c
    ·rw[if_neg e]
     show VRel X3c _ ((((cv.toArray++z8 (N-cv.toArray.size) undef).setIfInBounds e1 xv).setIfInBounds e2 xv).getD t undef)
     rw[J5 (Ne.symm e)]
     by_cases e':t=e1
     ·have hn:getD .un t (D2 0 (caps.map λ t=>getD .un t s3.tm))=.un:=by
       rw[Rt,Fe,if_pos (Nat.zero_le _),Nat.sub_zero,List.getElem?_eq_none (by simp;omega)]
       rfl
      rw[hn]
      exact .un _
     ·rw[J5 (Ne.symm e')]
      refine Pb ?_ _ t
      rw[<-hcv]
      have hall:∀l:List Nat,(∀t∈l,t∈caps)->B6 X3c (l.map λ t=>getD .un t s3.tm) (l.map λ t=>a1.tmps.getD t undef):=by
       intro l
       induction l with
       | nil=>intro _;exact .nil
       | cons q l ih=>
        intro hl
        refine .cons ?_ (ih λ t ht=>hl t (by simp[ht]))
        have:=(hI3.tr q).ext x3
        rw[hs3,hkeep q (hl q (by simp))] at this
        exact this
      exact hall caps λ t ht=>ht
   ·intro t v hv
    have hv:(if t<caps.length then some (cv.getD t undef) else none)=some v:=hv
    split at hv
    ·rename_i ht
     cases hv
     show(((cv.toArray++z8 (N-cv.toArray.size) undef).setIfInBounds e1 xv).setIfInBounds e2 xv).getD t undef=_
     rw[J5 (by omega),J5 (by omega)]
     have ht':t<cv.length:=by omega
     rw[Array.getD_eq_getD_getElem?,Array.getElem?_append_left (by simpa using ht'),List.getElem?_toArray,List.getD_eq_getElem?_getD]
    ·cases hv
  have fR:Gg EC Rc:=⟨λ t ht=>if_neg (Nat.not_lt.2 (hdR t ht)),λ e=>by rw[hrR] at e;cases e⟩
  refine D0 (ρ:=none) (hR X EC X3c _ rfl fR hI3c) ?_
  rintro e' a4 w' ⟨rfl,X4,hs4,rfl,hI4⟩
  obtain⟨Ds4,hd4,hn4,_,_⟩:=hI4.defers
  rw[hn4 rfl] at hd4
  refine⟨by rcases heR with rfl|rfl<;>simp[Abx],hd4, ?_⟩
  show LeavesInM Fence.wide 0 P fn a3.tmps _ [] (settle u') X4.w
  rw[hset]
  let X5:Cx:=Ik X4 {tm:=(D2 0 caps).map λ p=>(p.2,getD .un p.1 s4.tm),st:=s4.st,nx:=s4.nx}
  have x5:Ext X4 X5:=Ext.seq rfl rfl rfl λ b=>by rw[hs4];rfl
  have hI5:Inv blks.length fn.ntmps X (H2 E) X5 {tmps:=a3.tmps,defers:=[]}:=by
   refine⟨Rel.seq (Y:=X5) (hI4.rel.env rfl rfl rfl) rfl rfl rfl (λ b=>by rw[hs4];rfl) hu4, ?_,λ b hb=>hI4.top b (by rw[hs4];exact hb),hI4.S,hI4.cmx,.nil,hI3.size,λ t v h=>by cases h⟩
   intro t
   show VRel X5 (getD .un t ((D2 0 caps).map λ p=>(p.2,getD .un p.1 s4.tm))) (a3.tmps.getD t undef)
   have hall:∀(l:List Nat) (j:Nat),(∀i t,l[i]?=some t->caps[j+i]?=some t)->VRel X5 (getD .un t ((D2 j l).map λ p=>(p.2,getD .un p.1 s4.tm))) (a3.tmps.getD t undef):=by
    intro l
    induction l with
    | nil=>intro j _;exact .un _
    | cons q l ih=>
     intro j hl
     simp only[D2,zB,Ev.getD]
     cases hq:zC q t
     ·simp only[cond_false]
      exact ih (j+1) λ i t hi=>by have:=hl (i+1) t (by simpa using hi);rwa[show j+1+i=j+(i+1) by omega]
     ·simp only[cond_true]
      have hqt:=beq_true.1 hq
      subst hqt
      have hcq:caps[j]?=some q:=hl 0 q rfl
      have hjl:j<caps.length:=(List.getElem?_eq_some_iff.1 hcq).1
      have h1:=(hI4.tr j).ext x5
      rw[hs4,hI4.keep j (cv.getD j undef) (if_pos hjl)] at h1
      rw[hkeep q (List.mem_of_getElem? hcq)]
      have:cv.getD j undef=a1.tmps.getD q undef:=by rw[List.getD_eq_getElem?_getD,hcap j q hcq];rfl
      rw[<-this]
      exact h1
   exact hall caps 0 λ i t hi=>by rwa[Nat.zero_add]
  obtain⟨val,X6,q1,q2,q3⟩:=k2 X (H2 E) X5 _ rfl hI5
  have hv:∀t k n,v≠.pan t k n:=by
   rintro t k n rfl
   cases q3.val
  exact⟨val,q1,val,X6,(Ll hv).symm,q2,⟨q3.rel.env rfl rfl rfl,q3.S,q3.cmx,q3.st,by rw[Mf hv];exact q3.val⟩⟩
 cases eB with
 | normal=>exact main .nili .nilIface .returning .returning (λ _=>.nili) .ret rfl (by simp) (λ Q a w hl=>hl) h3
 | ret=>exact main .nili .nilIface .returning .returning (λ _=>.nili) .ret rfl (by simp) (λ Q a w hl=>hl) h3
 | exit id=>cases h3
 | pan t kk n=>exact main (.ifc t (.int kk n)) (.iface t (.int kk n)) (.panicking (Lt t kk n)) _ (λ _=>.ifc (.int _ _)) (.pan _) rfl (by simp) (λ Q a w hl=>hl) h3
theorem Abw{c:Cfg}(hC:Bk P c=true)(hm:P.follows .mixedOrders=true){C:Orc R}(hO:F9 P C){d g e1 e2 N:Nat}{fn:Func}{A B Rc:Code}{caps:List Nat}{e:As R}(hD:Avi P e.f fn A B d g caps)(hcl:Aqc P g e1 e2 N Rc)
  (hwR:wfC N Rc=true) (hlR:Av 0 Rc=[]) (hc1:caps.length<=e1) (hc2:caps.length<=e2) (hdR:∀t∈Ef Rc,caps.length<=t) (hrA:Gb A=false) (hrB:Gb B=false) (hrR:Gb Rc=false)
  {L:Kc R} (hL:∀x,Ew P (e.arg.to x).2.length fn.ntmps (bodyOf fn) L) (hBA:∀x∈Av 0 A,x.2=bodyOf fn x.1) (hBB:∀x∈Av 0 B,x.2=bodyOf fn x.1) {h hc:A1}
  (hfn:∀x k,Um c C L h hc fn A B Rc d e2 caps (e.arg.to x).1 (e.arg.to x).2 k=e.fn x λ y=>k (e.res.to y).1 (e.res.to y).2.1 (e.res.to y).2.2):Aj P e:=by
 intro x k r hr
 have hr':Um c C L h hc fn A B Rc d e2 caps (e.arg.to x).1 (e.arg.to x).2 (λ v fin new=>via e.res k (v,fin,new))=some r:=by
  rw[hfn]
  exact(congrArg (e.fn x) (funext λ y=>(Af1 e.res k y).symm)).symm.trans hr|>λ h=>h
 obtain⟨v,fin,new,h1,h2⟩:=Aif hC hm hO hD hcl hwR hlR hc1 hc2 hdR hrA hrB hrR (hL x) hBA hBB hr'
 unfold via at h1
 split at h1
 ·rename_i y hy
  refine⟨y,h1, ?_⟩
  rw[<-e.res.ok _ _ hy]
  exact h2
 ·cases h1
def dfA(fn:Func):Code:=match fn.body with
 | some (.seq a _)=>a
 | _=>.skip
def dfB(fn:Func):Code:=match fn.body with
 | some (.seq _ (.seq _ b))=>b
 | _=>.skip
def clR(fn:Func):Code:=match fn.body with
 | some (.seq _ r)=>r
 | _=>.skip
def Il:List Operand->List Nat->Bool
 | [],[]=>true
 | .tmp t::r,c::cs=>zC t c&&Il r cs
 | _,_=>false
theorem V8:∀{l:List Operand} {cs:List Nat},Il l cs=true->l=cs.map Operand.tmp
 | [],[],_=>rfl
 | .tmp t::r,c::cs,h=>by
  simp only[Il,z9] at h
  rw[zB,beq_true.1 h.1,V8 h.2]
 | .const _::_,_::_,h=>by simp[Il] at h
 | .global _::_,_::_,h=>by simp[Il] at h
 | .func _::_,_::_,h=>by simp[Il] at h
 | _::_,[],h=>by simp[Il] at h
 | [],_::_,h=>by simp[Il] at h
def mkB(o:Oper)(g:Nat)(caps:List Nat):Bool:=match o.op with
 | .makeFunc (.func g') ⟨[]⟩ cs=>zC g' g&&Il cs.toList caps
 | _=>false
theorem Awk{o:Oper}{g:Nat}{caps:List Nat}(h:mkB o g caps=true):o.op=.makeFunc (.func g) #[] (caps.map Operand.tmp).toArray:=by
 unfold mkB at h
 split at h
 ·rename_i g' cs e
  simp only[z9] at h
  rw[e,beq_true.1 h.1,<-V8 h.2]
 ·cases h
def Av1(o:Oper)(d:Nat):Bool:=match o.op with
 | .defer ⟨.value (.tmp d'),⟨[]⟩,_⟩=>zC d' d
 | _=>false
theorem Aqv{o:Oper}{d:Nat}(h:Av1 o d=true):∃ts,o.op=.defer {callee:=.value (.tmp d),args:= #[],argTypes:=ts}:=by
 unfold Av1 at h
 split at h
 ·rename_i d' ts e
  rw[e,beq_true.1 h]
  exact⟨_,rfl⟩
 ·cases h
def Awt(o:Oper):Bool:=match o.op with
 | .call ⟨.builtin .recover,⟨[]⟩,⟨[]⟩⟩=>true
 | _=>false
theorem Arp{o:Oper}(h:Awt o=true):o.op=.call {callee:=.builtin .recover,args:= #[],argTypes:= #[]}:=by
 unfold Awt at h
 split at h
 ·assumption
 ·cases h
def Asz(fn:Func)(d g:Nat)(caps:List Nat):Bool:=match fn.body with
  | some (.seq A (.seq (.region _ ⟨[o1,o2]⟩ false) B))=>
    mkB o1 g caps&&Akn o1 d&&Lo o1.guard none&&Av1 o2 d&&(match o2.dst with|none=>true|some _=>false)&&Lo o2.guard none&&zD d fn.ntmps&&wfC fn.ntmps A&&wfC fn.ntmps B&&
      (Ef B).all (λ t=> !(H0 t caps))&& !(H0 d caps)&&caps.all (λ t=>zD t fn.ntmps)
  | _=>false
theorem Aqt{f d g:Nat}{fn:Func}{caps:List Nat}(hf:P.funcs[f]?=some fn)(hn:(fn.name== "runtime.NumGoroutine")=false)(h:Asz fn d g caps=true):Avi P f fn (dfA fn) (dfB fn) d g caps:=by
 unfold Asz at h
 split at h
 case h_2=>cases h
 rename_i A id o1 o2 B hb
 simp only[z9,List.all_eq_true,Bool.not_eq_true',<-Bool.not_eq_true,Gm] at h
 obtain⟨⟨⟨⟨⟨⟨⟨⟨⟨⟨⟨a1,a2⟩,a3⟩,a4⟩,a5⟩,a6⟩,a7⟩,a8⟩,a9⟩,a10⟩,a11⟩,a12⟩:=h
 obtain⟨ts,e4⟩:=Aqv a4
 have e5:o2.dst=none:=by
  split at a5
  ·assumption
  ·cases a5
 have hA:dfA fn=A:=by simp only[dfA,hb]
 have hB:dfB fn=B:=by simp only[dfB,hb]
 rw[hA,hB]
 exact⟨hf,by simpa using hn,⟨id,o1,o2,ts,hb,Awk a1,Zd a2,Mw a3,e4,e5,Mw a6⟩,by simpa[zA] using a7,a8,a9,a10,a11,λ t ht=>by have:=a12 t ht;simpa[zA] using this⟩
def Asy(fn:Func)(e1 e2:Nat):Bool:=match fn.body with
  | some (.seq (.region _ ⟨[q1,q2]⟩ false) _)=>Awt q1&&Akn q1 e1&&Lo q1.guard none&&Zb q2 e1&&Akn q2 e2&&Lo q2.guard none&&zD e1 fn.ntmps&&zD e2 fn.ntmps&&(match fn.results with|⟨[]⟩=>true|_=>false)
  | _=>false
theorem Aqo{g e1 e2:Nat}{fn:Func}(hf:P.funcs[g]?=some fn)(hn:(fn.name== "runtime.NumGoroutine")=false)(h:Asy fn e1 e2=true):Aqc P g e1 e2 fn.ntmps (clR fn):=by
 unfold Asy at h
 split at h
 case h_2=>cases h
 rename_i id q1 q2 Rc hb
 simp only[z9] at h
 obtain⟨⟨⟨⟨⟨⟨⟨⟨a1,a2⟩,a3⟩,a4⟩,a5⟩,a6⟩,a7⟩,a8⟩,a9⟩:=h
 have e9:fn.results= #[]:=by
  split at a9
  ·assumption
  ·cases a9
 have hR:clR fn=Rc:=by simp only[clR,hb]
 rw[hR]
 exact⟨⟨fn,id,q1,q2,hf,by simpa using hn,rfl,e9,hb,Arp a1,Zd a2,Mw a3,Aec a4,Zd a5,Mw a6⟩,by simpa[zA] using a7,by simpa[zA] using a8⟩
end Go.Ev
