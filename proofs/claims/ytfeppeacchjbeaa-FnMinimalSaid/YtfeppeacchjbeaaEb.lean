/- An abstract evaluator of Go code over plain data, and the proof that what it says of a function comes to pass. Part 2. -/
import Derived.Test.YtfeppeacchjbeaaEa
import Derived.Below
import Derived.Orders
import Derived.Lib.UnsafeStr
import Derived.MapKept
import Derived.Laws.Strings
import Derived.Laws.BytesString
open Nat renaming eq_of_beq_eq_true->z9,beq->zB,le_refl->zG,le_of_ble_eq_true->zH,mul_le_mul_right->zI,ble->zN,lt_of_lt_of_le->zU,succ_mul->zV,le_trans->zW,beq_refl->zX,min_eq_left->yG,add_mul->yM,mul_le_mul_left->yS,sub_self->yV,zero_add->xK,add_zero->xL
open Bool renaming and_eq_true->zA,false_eq_true->zL,and_self->zS,not_eq_true'->yB,false_or->xJ
open Option.some renaming injEq->zC,inj->yI
open List renaming append_assoc->zD,length_append->zE,reverse_cons->zF,replicate->zJ,length->zK,mem_singleton->zO,mem_cons_self->zP,eq_nil_of_length_eq_zero->zR,length_cons->zT,append_eq_nil_iff->zY,take_succ_eq_append_getElem->zZ,drop_take->yA,append_cancel_right->yC,reverse_nil->yE,map_toArray->yF,mem_append->yH,take_of_length_le->yJ,set_append_right->yK,length_replicate->yL,drop_drop->yN,take_take->yO,replicate_succ->yP,map_cons->yQ,map_congr_left->yR,take_append->yX,drop_append->yY,cons_append->yZ,isEmpty_iff->xA,all_eq_true->xB,nil_append->xE,foldl_cons->xF,take_set->xG,drop_set->xH,mem_cons->xI,map->xM
open Prod.mk renaming injEq->zM
open Option renaming map_some->zQ,isSome_none->yT,getD_some->xC
open Array renaming ext'->yD,toList_range->yU,range->xD
open Int renaming toNat_natCast->yW
set_option linter.unusedVariables false
set_option linter.unusedSimpArgs false
namespace Go.Ev
open Go.RowKit
def An4(fr:Nat×Nat)(n:Nat):Prop:=fr.1=fr.2\/n<=fr.1
theorem An4.out{fr:Nat×Nat}{n i:Nat}(h:An4 fr n)(hi:i<n):¬(fr.1<=i/\i<fr.2):=by
 rcases h with h|h<;>omega
def F5(w:World)(g:Nat)(cur:List Value):Prop:=∃t fr,w.heap[g]?=some (.cells cur.toArray t fr)/\An4 fr cur.length
theorem F5.lt{w:World}{g:Nat}{cur:List Value}(h:F5 w g cur):g<w.heap.size:=by
 obtain⟨t,fr,h,_⟩:=h
 exact(Array.getElem?_eq_some_iff.1 h).1
theorem F5.same{w w':World}{g:Nat}{cur:List Value}(h:F5 w g cur)(e:w'.heap[g]?=w.heap[g]?):F5 w' g cur:=by
 obtain⟨t,fr,h,ht⟩:=h
 exact⟨t,fr,e.trans h,ht⟩
def B4(w:World)(g:Nat)(cur:List Value):World:=
 {w with heap:=w.heap.modify g λ
   | .cells _ t fr=>.cells cur.toArray t fr
   | o=>o}
theorem Dh(w:World)(g:Nat)(cur:List Value)(k:Nat)(h:k≠g):(B4 w g cur).heap[k]?=w.heap[k]?:=by
 simp only[B4,Array.getElem?_modify]
 rw[if_neg (λ e=>h e.symm)]
theorem Dv(w:World)(g:Nat)(cur:List Value):(B4 w g cur).heap.size=w.heap.size:=by simp[B4]
theorem Gq{w:World}{g:Nat}{cur:List Value}(h:F5 w g cur)(cur':List Value)(hl:cur'.length=cur.length):F5 (B4 w g cur') g cur':=by
 obtain⟨t,fr,hg,ht⟩:=h
 refine⟨t,fr, ?_,hl▸ht⟩
 simp only[B4,Array.getElem?_modify,if_true,hg,zQ]
def seg(cur:List Value)(o n:Nat):List Value:=(cur.drop o).take n
def Bl(cur:List Value)(o:Nat)(vs:List Value):List Value:=cur.take o++vs++cur.drop (o+vs.length)
theorem C7(cur:List Value)(o:Nat)(vs:List Value)(h:o+vs.length<=cur.length):(Bl cur o vs).length=cur.length:=by
 simp[Bl];omega
theorem Ib(a b c d:List Value)(h:b.length=d.length):Bl (a++b++c) a.length d=a++d++c:=by
 simp only[Bl,<-h]
 simp[yX,yY]
theorem Auo(a b c:List Value):seg (a++b++c) a.length b.length=b:=by
 simp[seg,yY,yX]
theorem Sp(a b c:List Value)(o n:Nat)(ho:o=a.length)(hn:n=b.length):seg (a++b++c) o n=b:=by
 subst ho hn;exact Auo a b c
theorem Cw(g o i:Nat):(⟨g,o,none⟩:Addr).add i=⟨g,o+i,none⟩:=by
 unfold Addr.add
 split
 ·subst_vars;rfl
 ·rfl
theorem Hc{w:World}{g:Nat}{cur:Array Value}{t:TypeId}{fr:Nat×Nat}(h:w.heap[g]?=some (.cells cur t fr))(o:Nat):w.cell? ⟨g,o,none⟩=cur[o]?:=by
 simp[World.cell?,h]
theorem Pr{P:Program}{w:World}{g:Nat}{cur:Array Value}{t:TypeId}{fr:Nat×Nat}(h:w.heap[g]?=some (.cells cur t fr))(o:Nat):
  ∀(n i:Nat) (acc:Array Value),o+i+n<=cur.size->
   (loadCellsFrom ⟨g,o,none⟩ i n acc).run P w=.ok (acc++(seg cur.toList (o+i) n).toArray) w
 | 0,i,acc,_=>by simp[loadCellsFrom,seg]
 | n+1,i,acc,hn=>by
  have hlt:o+i<cur.size:=by omega
  have hc:w.cell? ⟨g,o+i,none⟩=some cur[o+i]:=by rw[Hc h];simp[hlt]
  simp only[loadCellsFrom,Cw,Sem.run_bind,run_load,hc,Result.andThen_ok]
  rw[Pr h o n (i+1) _ (by omega)]
  congr 1
  simp only[seg]
  rw[show o+(i+1)=o+i+1 by omega]
  rw[List.drop_eq_getElem_cons (l:=cur.toList) (i:=o+i) (by simpa using hlt)]
  simp only[List.take_succ_cons]
  apply yD
  simp
theorem G5{P:Program}{w:World}{g:Nat}{cur:Array Value}{t:TypeId}{fr:Nat×Nat}(h:w.heap[g]?=some (.cells cur t fr))(o n:Nat)(hn:o+n<=cur.size):
  (loadCells ⟨g,o,none⟩ n).run P w=.ok (seg cur.toList o n).toArray w:=by
 unfold loadCells
 rw[Pr h o n 0 #[] (by omega)]
 simp
theorem Abn{w:World}{g:Nat}{cur:List Value}(h:F5 w g cur):B4 w g cur=w:=by
 obtain⟨t,fr,hg,_⟩:=h
 have:(B4 w g cur).heap=w.heap:=by
  apply Array.ext_getElem?
  intro k
  by_cases e:k=g
  ·subst e;simp only[B4,Array.getElem?_modify,if_true,hg,zQ]
  ·exact Dh w g cur k e
 unfold B4 at*
 cases w;simp_all
theorem Yl{w:World}{g:Nat}(a b:List Value):B4 (B4 w g a) g b=B4 w g b:=by
 simp only[B4]
 congr 1
 apply Array.ext_getElem?
 intro k
 simp only[Array.getElem?_modify]
 split
 ·cases w.heap[k]? with
  | none=>rfl
  | some o=>cases o<;>rfl
 ·rfl
theorem Ad3{w:World}{g:Nat}{cur:List Value}(h:F5 w g cur)(o:Nat)(v:Value):w.setCell ⟨g,o,none⟩ v=B4 w g (cur.set o v):=by
 obtain⟨t,fr,hg,_⟩:=h
 simp only[World.setCell,B4]
 congr 1
 apply Array.ext_getElem?
 intro k
 simp only[Array.getElem?_modify]
 split
 ·subst_vars
  rw[hg]
  simp only[zQ,yT,zL,if_false,zC,Obj.cells.injEq,and_true]
  apply yD
  simp
 ·rfl
theorem M5{P:Program}{g:Nat}(o:Nat):∀(vs:List Value) (i:Nat) (cur:List Value) (w:World),F5 w g cur->o+i+vs.length<=cur.length->
  (∀v∈vs,v.oneCell'=true)->(storeCells ⟨g,o,none⟩ vs i).run P w=.ok () (B4 w g (Bl cur (o+i) vs))
 | [],i,cur,w,h,hl,_=>by
  simp only[storeCells,Sem.run_pure]
  rw[show Bl cur (o+i) []=cur by simp[Bl],Abn h]
 | v::vs,i,cur,w,h,hl,h1=>by
  have hlt:o+i<cur.length:=by simp at hl;omega
  have hc:∃u,w.cell? ⟨g,o+i,none⟩=some u:=by
   obtain⟨t,fr,hg,_⟩:=h
   rw[Hc hg];exact⟨cur[o+i],by simp[hlt]⟩
  obtain⟨u,hc⟩:=hc
  have hf:w.frozen? ⟨g,o+i,none⟩=false:=by
   obtain⟨t,fr,hg,ht⟩:=h
   have:=ht.out hlt
   simp only[World.frozen?,hg]
   simp;omega
  simp only[storeCells,Cw,Sem.run_bind]
  rw[run_store P w ⟨g,o+i,none⟩ v .plain (h1 v (by simp)),hc]
  simp only[hf,zL,if_false,Result.andThen_ok]
  rw[Ad3 h,M5 o vs (i+1) (cur.set (o+i) v) _ (Gq h _ (by simp)) (by simp at hl⊢;omega) (λ x hx=>h1 x (by simp[hx])),Yl]
  congr 2
  simp only[Bl]
  rw[show o+(i+1)=o+i+1 by omega]
  rw[xG,xH]
  simp only[zT]
  rw[if_pos (by omega)]
  rw[show o+i+1+vs.length=o+i+(vs.length+1) by omega]
  rw[zZ hlt]
  rw[yK _ _ (by simp;omega)]
  simp[yG (Nat.le_of_lt hlt)]
theorem Lp{P:Program}{g:Nat}(o:Nat)(vs:List Value)(cur:List Value)(w:World)(h:F5 w g cur)(hl:o+vs.length<=cur.length)(h1:∀v∈vs,v.oneCell'=true):
  (storeCells ⟨g,o,none⟩ vs).run P w=.ok () (B4 w g (Bl cur o vs)):=M5 o vs 0 cur w h hl h1
end Go.Ev
namespace Go.Ev
def Cv{α:Type}(R:α->List Value->List Nat->Prop):List α->List Value->List Nat->Prop
 | [],cs,fp=>cs=[]/\fp=[]
 | x::l,cs,fp=>∃c1 c2 f1 f2,cs=c1++c2/\fp=f1++f2/\R x c1 f1/\Cv R l c2 f2
section
variable{α:Type}{R R':α->List Value->List Nat->Prop}{sz:Nat}
theorem If(h1:∀x c f,R x c f->c.length=sz):∀{l:List α} {cs:List Value} {fp:List Nat},Cv R l cs fp->cs.length=l.length*sz
 | [],_,_,h=>by rw[h.1];simp
 | x::l,_,_,⟨c1,c2,f1,f2,e1,_,hx,hl⟩=>by
  rw[e1,zE,h1 _ _ _ hx,If h1 hl,zT,zV];omega
theorem Eo{P:Nat->Prop}:∀{l:List α} {cs:List Value} {fp:List Nat},Cv R l cs fp->(∀x c f,(∀g∈f,P g)->R x c f->R' x c f)->(∀g∈fp,P g)->Cv R' l cs fp
 | [],_,_,h,_,_=>h
 | x::l,_,_,⟨c1,c2,f1,f2,e1,e2,hx,hl⟩,hi,hp=>by
  subst e2
  exact⟨c1,c2,f1,f2,e1,rfl,hi _ _ _ (λ g hg=>hp g (by simp[hg])) hx,Eo hl hi (λ g hg=>hp g (by simp[hg]))⟩
theorem Jx{P:Nat->Prop}:∀{l:List α} {cs:List Value} {fp:List Nat},Cv R l cs fp->(∀x c f,(∀g∈f,P g)->R x c f->R' x c [])->(∀g∈fp,P g)->Cv R' l cs []
 | [],_,_,h,_,_=>⟨h.1,rfl⟩
 | x::l,_,_,⟨c1,c2,f1,f2,e1,e2,hx,hl⟩,hi,hp=>by
  subst e2
  exact⟨c1,c2,[],[],e1,rfl,hi _ _ _ (λ g hg=>hp g (by simp[hg])) hx,Jx hl hi (λ g hg=>hp g (by simp[hg]))⟩
theorem Iu:∀{l l':List α} {c1 c2:List Value} {f1 f2:List Nat},Cv R l c1 f1->Cv R l' c2 f2->Cv R (l++l') (c1++c2) (f1++f2)
 | [],_,_,_,_,_,h,h'=>by rw[h.1,h.2];exact h'
 | x::l,_,_,_,_,_,⟨a,b,p,q,e1,e2,hx,hl⟩,h'=>
  ⟨a,b++_,p,q++_,by rw[e1,zD],by rw[e2,zD],hx,Iu hl h'⟩
theorem Ep(h1:∀x c f,R x c f->c.length=sz):∀{l:List α} {cs:List Value} {fp:List Nat} (n:Nat),Cv R l cs fp->
  ∃f1 f2,fp=f1++f2/\Cv R (l.take n) (cs.take (n*sz)) f1/\Cv R (l.drop n) (cs.drop (n*sz)) f2
 | l,cs,fp,0,h=>⟨[],fp,rfl,by simp[Cv],by simpa using h⟩
 | [],cs,fp,n+1,h=>⟨[],[],h.2,by simp[Cv,h.1],by simp[Cv,h.1]⟩
 | x::l,cs,fp,n+1,⟨c1,c2,f1,f2,e1,e2,hx,hl⟩=>by
  obtain⟨g1,g2,e3,h3,h4⟩:=Ep h1 n hl
  have hc:=h1 _ _ _ hx
  have e:(n+1)*sz=c1.length+n*sz:=by rw[hc,zV];omega
  refine⟨f1++g1,g2,by rw[e2,e3,zD],⟨c1,c2.take (n*sz),f1,g1, ?_,rfl,hx,h3⟩, ?_⟩
  ·rw[e1,e,List.take_length_add_append]
  ·rw[e1,e,List.drop_length_add_append];exact h4
theorem Hz(h1:∀x c f,R x c f->c.length=sz):∀{l:List α} {cs:List Value} {fp:List Nat} (i:Nat) (hi:i<l.length),Cv R l cs fp->
  ∃c1 c2 c3 f1 f2 f3,cs=c1++c2++c3/\fp=f1++f2++f3/\c1.length=i*sz/\R l[i] c2 f2/\
   ∀x' c' f',R x' c' f'->Cv R (l.set i x') (c1++c'++c3) (f1++f'++f3)
 | x::l,cs,fp,0,_,⟨c1,c2,f1,f2,e1,e2,hx,hl⟩=>
  ⟨[],c1,c2,[],f1,f2,by simp[e1],by simp[e2],by simp,hx,λ x' c' f' h'=>⟨c',c2,f',f2,by simp,by simp,h',hl⟩⟩
 | x::l,cs,fp,i+1,hi,⟨c1,c2,f1,f2,e1,e2,hx,hl⟩=>by
  obtain⟨a1,a2,a3,b1,b2,b3,e3,e4,e5,h2,h3⟩:=Hz h1 i (by simpa using hi) hl
  refine⟨c1++a1,a2,a3,f1++b1,b2,b3,by simp[e1,e3],by simp[e2,e4], ?_,h2,λ x' c' f' h'=> ?_⟩
  ·rw[zE,e5,h1 _ _ _ hx,zV];omega
  ·exact⟨c1,a1++c'++a3,f1,b1++f'++b3,by simp,by simp,hx,h3 x' c' f' h'⟩
 | [],_,_,i,hi,_=>by simp at hi
theorem Gg{x:α}{c:List Value}(h:R x c []):∀n,Cv R (zJ n x) (zJ n c).flatten []
 | 0=>⟨rfl,rfl⟩
 | n+1=>⟨c,(zJ n c).flatten,[],[],by simp[yP],rfl,h,by simpa using Gg h n⟩
theorem Ji{Q:Value->Prop}(h1:∀x c f,R x c f->∀v∈c,Q v):∀{l:List α} {cs:List Value} {fp:List Nat},Cv R l cs fp->∀v∈cs,Q v
 | [],_,_,h,v,hv=>by rw[h.1] at hv;simp at hv
 | x::l,_,_,⟨c1,c2,f1,f2,e1,e2,hx,hl⟩,v,hv=>by
  rw[e1] at hv
  rcases List.mem_append.1 hv with hv|hv
  ·exact h1 _ _ _ hx v hv
  ·exact Ji h1 hl v hv
theorem L5(h1:∀x c f,R x c f->f=[]):∀{l:List α} {cs:List Value} {fp:List Nat},Cv R l cs fp->fp=[]
 | [],_,_,h=>h.2
 | x::l,_,_,⟨c1,c2,f1,f2,e1,e2,hx,hl⟩=>by rw[e2,h1 _ _ _ hx,L5 h1 hl];rfl
end
def Gc(w:World)(sz n:Nat)(Row:List Value->List Nat->Prop)(v:Value)(fp:List Nat):Prop:=
 ∃A c,v=.slice A n c/\((n=0/\c=0/\fp=[])\/∃g o cur fps,A=some ⟨g,o,none⟩/\F5 w g cur/\n<=c/\o+c*sz<=cur.length/\fp=g::fps/\Row (seg cur o (n*sz)) fps)
def RoS(w:World)(S:Nat->Prop)(sz n:Nat)(Row:List Value->Prop)(v:Value):Prop:=
 ∃A c,v=.slice A n c/\n<=c/\(n=0\/∃g o cur t fr,A=some ⟨g,o,none⟩/\S g/\w.heap[g]?=some (.cells cur t fr)/\o+n*sz<=cur.size/\Row (seg cur.toList o (n*sz)))
def Fd(w:World)(S:Nat->Prop):Tr->Value->Prop
 | .nil,v=>v=.nilIface
 | .nd lay ty bs i j l r,v=>∃(g:Nat) (cs:Array Value) (T:TypeId) (fr:Nat×Nat),v=.iface ty (.pointer (some ⟨g,0,none⟩))/\S g/\w.heap[g]?=some (.cells cs T fr)/\
  match lay with
  | 0=>cs.toList=bs.map .bool/\bs.length=256
  | 1=>∃vl vr,cs.toList=[vl,vr]/\Fd w S l vl/\Fd w S r vr
  | 2=>∃vl,cs.toList=[vl,.int .i64 i]/\Fd w S l vl
  | _=>∃vl u,cs.toList=[vl,.int .i64 i,.int .i64 j,u]/\u.oneCell'=true/\Fd w S l vl
def IsC(w:World)(g:Nat):Prop:=∃cur t fr,w.heap[g]?=some (.cells cur t fr)
theorem Fd.moveW{w w':World}{S S':Nat->Prop}(h:∀g,S g->IsC w g->S' g/\w'.heap[g]?=w.heap[g]?):∀{t:Tr} {v:Value},Fd w S t v->Fd w' S' t v
 | .nil,_,hv=>hv
 | .nd lay ty bs i j l r,v,hv=>by
  obtain⟨g,cs,T,fr,h1,h2,h3,h4⟩:=hv
  refine⟨g,cs,T,fr,h1,(h g h2 ⟨_,_,_,h3⟩).1,(h g h2 ⟨_,_,_,h3⟩).2.trans h3, ?_⟩
  match lay,h4 with
  | 0,h4=>exact h4
  | 1,⟨vl,vr,k1,k2,k3⟩=>exact⟨vl,vr,k1,k2.moveW h,k3.moveW h⟩
  | 2,⟨vl,k1,k2⟩=>exact⟨vl,k1,k2.moveW h⟩
  | _+3,⟨vl,u,k1,k2,k3⟩=>exact⟨vl,u,k1,k2,k3.moveW h⟩
theorem Fd.move{w w':World}{S S':Nat->Prop}(h:∀g,S g->S' g/\w'.heap[g]?=w.heap[g]?){t:Tr}{v:Value}(hv:Fd w S t v):Fd w' S' t v:=hv.moveW λ g hg _=>h g hg
theorem Fd.one{w:World}{S:Nat->Prop}:∀{t:Tr} {v:Value},Fd w S t v->v.oneCell'=true
 | .nil,_,hv=>by rw[show _=Value.nilIface from hv];rfl
 | .nd ..,v,hv=>by obtain⟨g,cs,T,fr,h1,_⟩:=hv;rw[h1];rfl
def Rep(w:World)(S Z:Nat->Prop):(K:Ki)->Bool->K.den->List Value->List Nat->Prop
 | .int k,_,n,cs,fp=>cs=[.int k n]/\fp=[]
 | .bool,_,b,cs,fp=>cs=[.bool b]/\fp=[]
 | .str,_,s,cs,fp=>cs=[.string ⟨⟨s⟩⟩]/\fp=[]
 | .lst e,o,l,cs,fp=>
  (o=true/\∃v,cs=[v]/\Gc w e.size l.length (Cv (Rep w S Z e true) l) v fp)\/
  (o=false/\fp=[]/\∃v,cs=[v]/\RoS w S e.size l.length (λ cs=>Cv (Rep w S Z e false) l cs []) v)
 | .arr n e,o,l,cs,fp=>zK l=n/\Cv (Rep w S Z e o) l cs fp
 | .pair a b,o,d,cs,fp=>∃c1 c2 f1 f2,cs=c1++c2/\fp=f1++f2/\Rep w S Z a o d.1 c1 f1/\Rep w S Z b o d.2 c2 f2
 | .unit,_,_,cs,fp=>cs=[]/\fp=[]
 | .tr,o,t,cs,fp=>fp=[]/\∃v,cs=[v]/\v.oneCell'=true/\Fd w Z t v
 | .fl e,_,l,cs,fp=>fp=[]/\∃v,cs=[v]/\RoS w Z e.size l.length (λ cs=>Cv (Rep w Z Z e false) l cs []) v
theorem Bw{w:World}{S Z:Nat->Prop}:∀{K:Ki} {o:Bool} {d:K.den} {cs:List Value} {fp:List Nat},Rep w S Z K o d cs fp->cs.length=K.size
 | .int _,_,_,_,_,h|.bool,_,_,_,_,h|.str,_,_,_,_,h=>by rw[h.1];rfl
 | .lst _,_,_,_,_,h=>by rcases h with⟨_,v,h,_⟩|⟨_,_,v,h,_⟩<;>rw[h]<;>rfl
 | .arr n e,_,l,_,_,h=>by rw[If (λ x c f hx=>Bw hx) h.2,h.1];rfl
 | .pair a b,_,_,_,_,⟨c1,c2,f1,f2,e1,_,h1,h2⟩=>by rw[e1,zE,Bw h1,Bw h2];rfl
 | .unit,_,_,_,_,h=>by rw[h.1];rfl
 | .tr,_,_,_,_,h=>by obtain⟨_,v,h,_⟩:=h;rw[h];rfl
 | .fl _,_,_,_,_,h=>by obtain⟨_,v,h,_⟩:=h;rw[h];rfl
theorem Jw{w:World}{S Z:Nat->Prop}:∀{K:Ki} {o:Bool} {d:K.den} {cs:List Value} {fp:List Nat},Rep w S Z K o d cs fp->∀v∈cs,v.oneCell'=true
 | .int _,_,_,_,_,h,v,hv|.bool,_,_,_,_,h,v,hv|.str,_,_,_,_,h,v,hv=>by rw[h.1] at hv;simp at hv;rw[hv];rfl
 | .lst _,_,_,_,_,h,v,hv=>by
  rcases h with⟨_,u,h,A,c,e,_⟩|⟨_,_,u,h,A,c,e,_⟩<;>(rw[h] at hv;simp at hv;rw[hv,e];rfl)
 | .arr n e,_,l,_,_,h,v,hv=>Ji (λ x c f hx=>Jw hx) h.2 v hv
 | .pair a b,_,_,_,_,⟨c1,c2,f1,f2,e1,_,h1,h2⟩,v,hv=>by
  rw[e1] at hv
  rcases List.mem_append.1 hv with hv|hv
  ·exact Jw h1 v hv
  ·exact Jw h2 v hv
 | .unit,_,_,_,_,h,v,hv=>by rw[h.1] at hv;simp at hv
 | .tr,_,_,_,_,h,v,hv=>by obtain⟨_,u,h,h1,_⟩:=h;rw[h] at hv;simp at hv;rw[hv];exact h1
 | .fl _,_,_,_,_,h,v,hv=>by obtain⟨_,u,h,A,c,e,_⟩:=h;rw[h] at hv;simp at hv;rw[hv,e];rfl
theorem D2{w:World}{S Z:Nat->Prop}:∀{K:Ki} {o:Bool} {d:K.den} {cs:List Value} {fp:List Nat},(o=false\/K.nest=false)->Rep w S Z K o d cs fp->fp=[]
 | .int _,_,_,_,_,_,h|.bool,_,_,_,_,_,h|.str,_,_,_,_,_,h|.unit,_,_,_,_,_,h=>h.2
 | .tr,_,_,_,_,_,h|.fl _,_,_,_,_,_,h=>h.1
 | .lst e,o,l,_,_,ho,h=>by
  rcases h with⟨h1,_⟩|⟨_,h,_⟩
  ·subst h1;simp[Ki.nest] at ho
  ·exact h
 | .arr n e,o,l,_,_,ho,h=>L5 (R:=Rep w S Z e o) (λ x c f hx=>D2 (K:=e) (by simpa[Ki.nest] using ho) hx) h.2
 | .pair a b,_,_,_,_,ho,⟨c1,c2,f1,f2,e1,e2,h1,h2⟩=>by
  have ha:=D2 (by rcases ho with h|h;exact .inl h;simp[Ki.nest] at h;exact .inr h.1) h1
  have hb:=D2 (by rcases ho with h|h;exact .inl h;simp[Ki.nest] at h;exact .inr h.2) h2
  rw[e2,ha,hb];rfl
theorem Sx{w w':World}{sz n:Nat}{Row Row':List Value->List Nat->Prop}{v:Value}{fp:List Nat}(h:Gc w sz n Row v fp)(hp:∀g∈fp,w'.heap[g]?=w.heap[g]?)
  (hr:∀cs fps,(∀g∈fps,g∈fp)->Row cs fps->Row' cs fps):Gc w' sz n Row' v fp:=by
 obtain⟨A,c,e,h⟩:=h
 refine⟨A,c,e, ?_⟩
 rcases h with h|⟨g,o,cur,fps,h1,h2,h3,h4,h5,h6⟩
 ·exact .inl h
 ·exact .inr ⟨g,o,cur,fps,h1,h2.same (hp g (by simp[h5])),h3,h4,h5,hr _ _ (λ x hx=>by simp[h5,hx]) h6⟩
theorem Ol{w w':World}{S S':Nat->Prop}{sz n:Nat}{Row Row':List Value->Prop}{v:Value}(h:RoS w S sz n Row v)(hp:∀g,S g->IsC w g->S' g/\w'.heap[g]?=w.heap[g]?)
  (hr:∀cs,Row cs->Row' cs):RoS w' S' sz n Row' v:=by
 obtain⟨A,c,e,hc,h⟩:=h
 refine⟨A,c,e,hc, ?_⟩
 rcases h with h|⟨g,o,cur,t,fr,h1,h2,h3,h4,h5⟩
 ·exact .inl h
 ·exact .inr ⟨g,o,cur,t,fr,h1,(hp g h2 ⟨_,_,_,h3⟩).1,(hp g h2 ⟨_,_,_,h3⟩).2.trans h3,h4,hr _ h5⟩
theorem Fo{w w':World}{S S':Nat->Prop}{sz n:Nat}{Row Row':List Value->Prop}{v:Value}(h:RoS w S sz n Row v)(hp:∀g,S g->S' g/\w'.heap[g]?=w.heap[g]?)
  (hr:∀cs,Row cs->Row' cs):RoS w' S' sz n Row' v:=
 Ol h (λ g hg _=>hp g hg) hr
theorem E6{w w':World}{S S' Z Z':Nat->Prop}(hS:∀g,S g->IsC w g->S' g/\w'.heap[g]?=w.heap[g]?)(hZ:∀g,Z g->IsC w g->Z' g/\w'.heap[g]?=w.heap[g]?):∀{K:Ki} {o:Bool} {d:K.den} {cs:List Value} {fp:List Nat},
  (∀g∈fp,w'.heap[g]?=w.heap[g]?)->Rep w S Z K o d cs fp->Rep w' S' Z' K o d cs fp
 | .int _,_,_,_,_,_,h|.bool,_,_,_,_,_,h|.str,_,_,_,_,_,h|.unit,_,_,_,_,_,h=>h
 | .tr,_,_,_,_,_,⟨h0,v,h1,h2,h3⟩=>⟨h0,v,h1,h2,h3.moveW hZ⟩
 | .fl e,_,l,_,_,_,⟨h0,v,h1,h2⟩=>⟨h0,v,h1,Ol h2 hZ λ cs hr=>Eo (P:=λ _=>True) hr (λ x c f _ hx=>by
   have hf:=D2 (.inl rfl) hx
   subst hf
   exact E6 hZ hZ (by simp) hx) (by simp)⟩
 | .lst e,_,l,_,_,hp,h=>by
  rcases h with⟨h1,v,h3,h4⟩|⟨h1,h2,v,h3,h4⟩
  ·refine .inl ⟨h1,v,h3,Sx h4 hp λ cs fps hf hr=>Eo (P:=λ g=>w'.heap[g]?=w.heap[g]?) hr (λ x c f hg hx=>E6 hS hZ hg hx) (λ g hg=>hp g (hf g hg))⟩
  ·exact .inr ⟨h1,h2,v,h3,Ol h4 hS λ cs hr=>Eo (P:=λ g=>w'.heap[g]?=w.heap[g]?) hr (λ x c f hg hx=>E6 hS hZ hg hx) (by simp)⟩
 | .arr n e,_,l,_,_,hp,h=>⟨h.1,Eo (P:=λ g=>w'.heap[g]?=w.heap[g]?) h.2 (λ x c f hg hx=>E6 hS hZ hg hx) hp⟩
 | .pair a b,_,_,_,_,hp,⟨c1,c2,f1,f2,e1,e2,h1,h2⟩=>
  ⟨c1,c2,f1,f2,e1,e2,E6 hS hZ (λ g hg=>hp g (by simp[e2,hg])) h1,E6 hS hZ (λ g hg=>hp g (by simp[e2,hg])) h2⟩
theorem Y9{w w':World}{S S' Z Z':Nat->Prop}(hS:∀g,S g->S' g/\w'.heap[g]?=w.heap[g]?)(hZ:∀g,Z g->Z' g/\w'.heap[g]?=w.heap[g]?){K:Ki}{o:Bool}{d:K.den}{cs:List Value}{fp:List Nat}(hp:∀g∈fp,w'.heap[g]?=w.heap[g]?)(h:Rep w S Z K o d cs fp):Rep w' S' Z' K o d cs fp:=E6 (λ g hg _=>hS g hg) (λ g hg _=>hZ g hg) hp h
theorem Qb{w:World}{S S' Z:Nat->Prop}{o:Bool}(hS:o=false->∀g,S g->S' g):∀{K:Ki} {d:K.den} {cs:List Value} {fp:List Nat},
  (∀g∈fp,S' g)->Rep w S Z K o d cs fp->Rep w S' Z K false d cs []
 | .int _,_,_,_,_,h|.bool,_,_,_,_,h|.str,_,_,_,_,h|.unit,_,_,_,_,h=>⟨h.1,rfl⟩
 | .tr,_,_,_,_,⟨h0,v,h1,h2,h3⟩=>⟨rfl,v,h1,h2,h3⟩
 | .fl e,_,_,_,_,⟨h0,v,h1,h2⟩=>⟨rfl,v,h1,h2⟩
 | .lst e,l,_,_,hp,h=>by
  refine .inr ⟨rfl,rfl, ?_⟩
  rcases h with⟨h1,v,h3,A,c,h4,h5⟩|⟨h1,h2,v,h3,h4⟩
  ·refine⟨v,h3,A,c,h4, ?_⟩
   rcases h5 with h5|⟨g,o,cur,fps,e1,e2,e3,e4,e5,e6⟩
   ·exact⟨by omega,.inl h5.1⟩
   ·obtain⟨t,fr,hg,ht⟩:=e2
    have:zK l*e.size<=c*e.size:=zI _ e3
    exact⟨e3,.inr ⟨g,o,cur.toArray,t,fr,e1,hp g (by simp[e5]),hg,by simp;omega,Jx (P:=S') e6 (λ x c f hg hx=>Qb (o:=true) (λ e=>by cases e) hg hx) (λ g hg=>hp g (by simp[e5,hg]))⟩⟩
  ·exact⟨v,h3,Fo h4 (λ g hg=>⟨hS h1 g hg,rfl⟩) λ cs hr=>Jx (P:=S') hr (λ x c f hg hx=>Qb (o:=false) (λ _=>hS h1) hg hx) (by simp)⟩
 | .arr n e,l,_,_,hp,h=>⟨h.1,Jx (P:=S') h.2 (λ x c f hg hx=>Qb hS hg hx) hp⟩
 | .pair a b,_,_,_,hp,⟨c1,c2,f1,f2,e1,e2,h1,h2⟩=>
  ⟨c1,c2,[],[],e1,rfl,Qb hS (λ g hg=>hp g (by simp[e2,hg])) h1,Qb hS (λ g hg=>hp g (by simp[e2,hg])) h2⟩
def Hu:Ki->List Value
 | .int k=>[.int k 0]
 | .bool=>[.bool false]
 | .str=>[.string ⟨⟨[]⟩⟩]
 | .lst _=>[.slice none 0 0]
 | .arr n e=>(zJ n (Hu e)).flatten
 | .pair a b=>Hu a++Hu b
 | .unit=>[]
 | .tr=>[.nilIface]
 | .fl _=>[.slice none 0 0]
theorem Jh(w:World)(S Z:Nat->Prop)(o:Bool):∀K:Ki,Rep w S Z K o K.zero (Hu K) []
 | .int _|.bool|.str|.unit=>⟨rfl,rfl⟩
 | .tr=>⟨rfl,_,rfl,rfl,rfl⟩
 | .fl e=>⟨rfl,_,rfl,none,0,rfl,zG _,.inl rfl⟩
 | .lst e=>by
  cases o
  ·exact .inr ⟨rfl,rfl,_,rfl,none,0,rfl,zG _,.inl rfl⟩
  ·exact .inl ⟨rfl,_,rfl,none,0,rfl,.inl ⟨rfl,rfl,rfl⟩⟩
 | .arr n e=>⟨yL,Gg (Jh w S Z o e) n⟩
 | .pair a b=>⟨_,_,[],[],rfl,rfl,Jh w S Z o a,Jh w S Z o b⟩
theorem Sg{w w':World}{S S' Z Z':Nat->Prop}{o o':Bool}:∀{K:Ki} {d:K.den} {cs:List Value} {fp:List Nat},K.nest=false->Rep w S Z K o d cs fp->Rep w' S' Z' K o' d cs fp
 | .int _,_,_,_,_,h|.bool,_,_,_,_,h|.str,_,_,_,_,h|.unit,_,_,_,_,h=>h
 | .lst e,_,_,_,hn,h=>by simp[Ki.nest] at hn
 | .tr,_,_,_,hn,h|.fl _,_,_,_,hn,h=>by simp[Ki.nest] at hn
 | .arr n e,l,_,_,hn,h=>⟨h.1,Eo (P:=λ _=>True) h.2 (λ x c f _ hx=>Sg (K:=e) hn hx) (by simp)⟩
 | .pair a b,_,_,_,hn,⟨c1,c2,f1,f2,e1,e2,h1,h2⟩=>by
  simp only[Ki.nest,Bool.or_eq_false_iff] at hn
  exact⟨c1,c2,f1,f2,e1,e2,Sg hn.1 h1,Sg hn.2 h2⟩
theorem Sh{w:World}{S S' Z:Nat->Prop}{o o':Bool}:∀{K:Ki} {d:K.den} {cs:List Value} {fp:List Nat},K.cpy=true->Rep w S Z K o d cs fp->Rep w S' Z K o' d cs []
 | .int _,_,_,_,_,h|.bool,_,_,_,_,h|.str,_,_,_,_,h|.unit,_,_,_,_,h=>⟨h.1,rfl⟩
 | .lst e,_,_,_,hn,h=>by simp[Ki.cpy] at hn
 | .tr,_,_,_,_,h|.fl _,_,_,_,_,h=>⟨rfl,h.2⟩
 | .arr n e,l,_,_,hn,h=>⟨h.1,Jx (P:=λ _=>True) h.2 (λ x c f _ hx=>Sh (K:=e) hn hx) (by simp)⟩
 | .pair a b,_,_,_,hn,⟨c1,c2,f1,f2,e1,e2,h1,h2⟩=>by
  simp only[Ki.cpy,zA] at hn
  exact⟨c1,c2,[],[],e1,rfl,Sh hn.1 h1,Sh hn.2 h2⟩
end Go.Ev
namespace Go.Ev
inductive CB where
 | box (g:Nat) (fps:List Nat)
 | row (A:Option Addr) (n c sz:Nat) (fp:List Nat)
 | map (g:Nat)
 | iter (g:Nat)
 | bld (g:Nat) (fp:List Nat)
def CB.fp:CB->List Nat
 | .box g fps=>g::fps
 | .row _ _ _ _ fp=>fp
 | .map g=>[g]
 | .iter g=>[g]
 | .bld g fp=>g::fp
def Zh:Option Addr->Option (Nat×Nat)
 | some ⟨g,o,none⟩=>some (g,o)
 | _=>none
def CB.base:CB->Option (Nat×Nat)
 | .box g _=>some (g,0)
 | .row A _ _ _ _=>Zh A
 | .map _=>none
 | .iter g=>some (g,0)
 | .bld g _=>some (g,0)
def CB.same:CB->CB->Prop
 | .box g _,.box g' _=>g=g'
 | .row A n c sz _,.row A' n' c' sz' _=>A=A'/\n=n'/\c=c'/\sz=sz'
 | .map g,.map g'=>g=g'
 | .iter g,.iter g'=>g=g'
 | .bld g _,.bld g' _=>g=g'
 | _,_=>False
theorem CB.same_refl(c:CB):c.same c:=by cases c<;>simp[CB.same]
theorem CB.same_trans{a b c:CB}(h:a.same b)(k:b.same c):a.same c:=by
 cases a<;>cases b<;>cases c<;>simp_all[CB.same]
theorem CB.same_base{a b:CB}(h:a.same b):a.base=b.base:=by
 cases a<;>cases b<;>simp_all[CB.same,CB.base]
def CB.rowN:CB->Option Nat
 | .row _ n _ _ _=>some n
 | _=>none
theorem CB.same_rowN{a b:CB}(h:a.same b):a.rowN=b.rowN:=by
 cases a<;>cases b<;>simp_all[CB.same,CB.rowN]
structure Cx where
 cm:Nat->Option CB
 S:Option Nat->Nat->Prop
 s:St
 w:World
def Cx.Sof(X:Cx):Cg->Nat->Prop
 | .frz=>X.S none
 | .reg n=>λ g=>(∃m,n<=m/\X.S (some m) g)\/X.S none g
 | .ver b _=>λ g=>∃cb,X.cm b=some cb/\g∈cb.fp
def Bd:G9->Nat
 | []=>0
 | (sz,_,i,o)::r=>i*sz+o+Bd r
def PIn:Option Nat->G9->Prop
 | _,[]=>True
 | m,(_,n,i,_)::r=>i<m.getD n/\PIn none r
def Kn(X:Cx):Cg->Prop
 | .ver b v0=>∃cb,X.cm b=some cb/\∀ro v ps,look b X.s.st=some (.cell ro v ps)->v0<=v
 | _=>True
abbrev Az(w:World)(Z:Nat->Prop)(K:Ki)(l:List K.den)(cs:List Value)(fp:List Nat):Prop:=Cv (Rep w Z Z K true) l cs fp
def At(X:Cx)(b i f:Nat)(K:Ki)(l:List K.den)(v:Value):Prop:=
 ∃g og n c sz fp K0 l0 ver ro,X.cm b=some (.row (some ⟨g,og,none⟩) n c sz fp)/\look b X.s.st=some (.cell ro ver [.rw K0 l0])/\i<l0.length/\
  nav 1 [(K0.size,0,i,f)] 0 [.rw K0 l0]=some [.nl K l]/\g∈fp/\X.w.cell? ⟨g,og+(i*K0.size+f),none⟩=some v
mutual
inductive VRel (X:Cx):AV->Value->Prop
 | un (v:Value):VRel X .un v
 | bool (b:Bool):VRel X (.bool b) (.bool b)
 | int (k:IntKind) (n:Int):VRel X (.int k n) (.int k n)
 | str (t:List UInt8):VRel X (.str t) (.string ⟨⟨t⟩⟩)
 | nils:VRel X .nils (.slice none 0 0)
 | nz (K:Ki):VRel X (.nz K) (.slice none 0 0)
 | sl {b:Nat} {A:Option Addr} {n c sz:Nat} {fp:List Nat}:X.cm b=some (.row A n c sz fp)->VRel X (.sl b) (.slice A n c)
 | ss0 {b o:Nat} {A A':Option Addr} {n c sz:Nat} {fp:List Nat}:X.cm b=some (.row A n c sz fp)->o<=n->VRel X (.ss b o 0) (.slice A' 0 0)
 | ss {b o m g og n c c' sz:Nat} {fp:List Nat}:X.cm b=some (.row (some ⟨g,og,none⟩) n c sz fp)->o+m<=n->m<=c'->o+c'<=c->VRel X (.ss b o m) (.slice (some ⟨g,og+o*sz,none⟩) m c')
 | ro {q:Cg} {K:Ki} {l:List K.den} {A:Option Addr} {c:Nat}:l.length<=c->(l.length=0\/∃g og,A=some ⟨g,og,none⟩)->Kn X q->
   (valid X.s q=true->RoS X.w (X.Sof q) K.size l.length (λ cs=>Cv (Rep X.w (X.Sof q) (X.S none) K false) l cs []) (.slice A l.length c))->VRel X (.ro q K l) (.slice A l.length c)
 | vw {b v0 i f:Nat} {K:Ki} {l:List K.den} {A:Option Addr} {c:Nat}:l.length<=c->(l.length=0\/∃g og,A=some ⟨g,og,none⟩)->Kn X (.ver b v0)->
   (valid X.s (.ver b v0)=true->At X b i f K l (.slice A l.length c))->VRel X (.vw b v0 i f K l) (.slice A l.length c)
 | arr {n:Nat} {K:Ki} {l:List K.den} {cs:List Value}:l.length=n->Az X.w (X.S none) K l cs []->VRel X (.arr n K l) (.agg cs.toArray)
 | nilp:VRel X .nilp (.pointer none)
 | pb {b o:Nat} {p:G9} {cb:CB} {g og:Nat}:X.cm b=some cb->cb.base=some (g,og)->PIn cb.rowN p.reverse->(cb.rowN=none\/p≠[])->VRel X (.pb b o p) (.pointer (some ⟨g,og+(o+Bd p),none⟩))
 | pn {b v0 i f:Nat} {K:Ki} {l:List K.den} {p:G9} {g og:Nat}:p≠[]->PIn (some l.length) p.reverse->Kn X (.ver b v0)->
   (valid X.s (.ver b v0)=true->∃n c,At X b i f K l (.slice (some ⟨g,og,none⟩) n c))->VRel X (.pn b v0 i f K l p) (.pointer (some ⟨g,og+Bd p,none⟩))
 | po {q:Cg} {K:Ki} {l:List K.den} {p:G9} {g og:Nat}:p≠[]->PIn (some l.length) p.reverse->Kn X q->
   (valid X.s q=true->∃cur t fr,X.Sof q g/\X.w.heap[g]?=some (.cells cur t fr)/\og+l.length*K.size<=cur.size/\
    Cv (Rep X.w (X.Sof q) (X.S none) K false) l (seg cur.toList og (l.length*K.size)) [])->VRel X (.po q K l p) (.pointer (some ⟨g,og+Bd p,none⟩))
 | pr {q:Cg} {ps:List AV} {o:Nat} {p:G9} {g og:Nat} {cur:Array Value} {t:TypeId} {fr:Nat×Nat} {n:Nat}:
   X.Sof q g->X.w.heap[g]?=some (.cells cur t fr)->og+n<=cur.size->PRs X ps (seg cur.toList og n) []->(∀a∈ps,a.norw=true)->(∀b v0,q≠.ver b v0)->PIn none p.reverse->
   VRel X (.pr q ps o p) (.pointer (some ⟨g,og+(o+Bd p),none⟩))
 | agg {ps:List AV} {cs:List Value}:PRs X ps cs []->(∀a∈ps,a.norw=true)->VRel X (.agg ps) (.agg cs.toArray)
 | fn {f:Nat} {caps:List AV} {vs:List Value}:B2 X caps vs->VRel X (.fn f caps) (.func (.func f) #[] vs.toArray)
 | nilf:VRel X .nilf .nilFunc
 | ifc {t:Nat} {a:AV} {v:Value}:VRel X a v->VRel X (.ifc t a) (.iface t v)
 | nili:VRel X .nili .nilIface
 | mp {b g:Nat}:X.cm b=some (.map g)->VRel X (.mp b) (.map (some g))
 | nilm:VRel X .nilm (.map none)
 | tr {q:Cg} {t:Tr} {v:Value}:(∀b v0,q≠.ver b v0)->Fd X.w (X.Sof q) t v->VRel X (.tr q t) v
 | tup {as:List AV} {vs:List Value}:B2 X as vs->VRel X (.tup as) (.tuple vs.toArray)
inductive PRs (X:Cx):List AV->List Value->List Nat->Prop
 | nil:PRs X [] [] []
 | one {a:AV} {v:Value} {r:List AV} {cs:List Value} {fp:List Nat}:a.plain=true->v.oneCell'=true->VRel X a v->PRs X r cs fp->PRs X (a::r) (v::cs) fp
 | arr {n:Nat} {K:Ki} {l:List K.den} {r:List AV} {c1 cs:List Value} {f1 fp:List Nat}:l.length=n->Az X.w (X.S none) K l c1 f1->PRs X r cs fp->PRs X (.arr n K l::r) (c1++cs) (f1++fp)
 | nl {K:Ki} {l:List K.den} {v:Value} {r:List AV} {cs:List Value} {f1 fp:List Nat}:Gc X.w K.size l.length (Az X.w (X.S none) K l) v f1->PRs X r cs fp->PRs X (.nl K l::r) (v::cs) (f1++fp)
 | rw{K:Ki} {l:List K.den} {r:List AV} {c1 cs:List Value} {f1 fp:List Nat}:Az X.w (X.S none) K l c1 f1->PRs X r cs fp->PRs X (.rw K l::r) (c1++cs) (f1++fp)
inductive B2 (X:Cx):List AV->List Value->Prop
 | nil:B2 X [] []
 | cons {a:AV} {v:Value} {as:List AV} {vs:List Value}:VRel X a v->B2 X as vs->B2 X (a::as) (v::vs)
end
theorem Aid{w:World}{sz n:Nat}{Row:List Value->List Nat->Prop}{v:Value}{fp:List Nat}(h:Gc w sz n Row v fp):v.oneCell'=true:=by
 obtain⟨A,c,rfl,_⟩:=h;rfl
theorem Oj{X:Cx}:∀{ps:List AV} {cs:List Value} {fp:List Nat},PRs X ps cs fp->∀v∈cs,v.oneCell'=true
 | _,_,_,.nil,v,hv=>by simp at hv
 | _,_,_,.one _ h1 _ hr,v,hv=>by
  rcases List.mem_cons.1 hv with rfl|hv
  ·exact h1
  ·exact Oj hr v hv
 | _,_,_,.arr _ h1 hr,v,hv=>by
  rcases List.mem_append.1 hv with hv|hv
  ·exact Ji (λ x c f hx=>Jw hx) h1 v hv
  ·exact Oj hr v hv
 | _,_,_,.nl h1 hr,v,hv=>by
  rcases List.mem_cons.1 hv with rfl|hv
  ·exact Aid h1
  ·exact Oj hr v hv
 | _,_,_,.rw h1 hr,v,hv=>by
  rcases List.mem_append.1 hv with hv|hv
  ·exact Ji (λ x c f hx=>Jw hx) h1 v hv
  ·exact Oj hr v hv
def GS(S' S:Option Nat->Nat->Prop):Prop:=(∀n,S' (some n)=S (some n))/\∀g,S none g->S' none g
theorem GS.refl(S:Option Nat->Nat->Prop):GS S S:=⟨λ _=>rfl,λ _ h=>h⟩
theorem GS.of{S' S:Option Nat->Nat->Prop}(h:S'=S):GS S' S:=h▸GS.refl _
theorem GS.trans{A B C:Option Nat->Nat->Prop}(h:GS C B)(k:GS B A):GS C A:=⟨λ n=>(h.1 n).trans (k.1 n),λ g hg=>h.2 g (k.2 g hg)⟩
theorem GS.mono{S' S:Option Nat->Nat->Prop}(h:GS S' S):∀n g,S n g->S' n g
 | none,g,hg=>h.2 g hg
 | some n,g,hg=>by rw[h.1 n];exact hg
structure Ext(X X':Cx):Prop where
 cmx:∀b cb,X.cm b=some cb->∃cb',X'.cm b=some cb'/\cb.same cb'
 sts:∀n g,X.S n g->X'.S n g/\X'.w.heap[g]?=X.w.heap[g]?
 ver:∀b cb,X.cm b=some cb->∀ro' v' ps',look b X'.s.st=some (.cell ro' v' ps')->∃ro v ps,look b X.s.st=some (.cell ro v ps)/\v<=v'/\
  (v=v'->(∃K l,ps'=[.rw K l]/\K.nest=true)->ro=ro'/\ps=ps'/\X'.cm b=X.cm b/\∀g∈cb.fp,X'.w.heap[g]?=X.w.heap[g]?)
theorem Ext.refl(X:Cx):Ext X X:=⟨λ _ cb h=>⟨cb,h,cb.same_refl⟩,λ _ _ h=>⟨h,rfl⟩,λ _ _ _ ro v ps h=>⟨ro,v,ps,h,zG _,λ _ _=>⟨rfl,rfl,rfl,λ _ _=>rfl⟩⟩⟩
theorem Ext.trans{X Y Z:Cx}(h:Ext X Y)(k:Ext Y Z):Ext X Z where
 cmx b cb e:=by
  obtain⟨cb',e',s'⟩:=h.cmx b cb e
  obtain⟨cb2,e2,s2⟩:=k.cmx b cb' e'
  exact⟨cb2,e2,CB.same_trans s' s2⟩
 sts n g e:=by
  obtain⟨e1,e2⟩:=h.sts n g e
  obtain⟨e3,e4⟩:=k.sts n g e1
  exact⟨e3,e4.trans e2⟩
 ver b cb e ro2 v2 ps2 l2:=by
  obtain⟨cb',e',_⟩:=h.cmx b cb e
  obtain⟨ro1,v1,ps1,l1,le1,k1⟩:=k.ver b cb' e' ro2 v2 ps2 l2
  obtain⟨ro0,v0,ps0,l0,le0,h0⟩:=h.ver b cb e ro1 v1 ps1 l1
  refine⟨ro0,v0,ps0,l0,zW le0 le1,λ ev hn=> ?_⟩
  obtain⟨a1,a2,a3,a4⟩:=k1 (by omega) hn
  obtain⟨b1,b2,b3,b4⟩:=h0 (by omega) (by rw[a2];exact hn)
  refine⟨b1.trans a1,b2.trans a2,a3.trans b3,λ g hg=>(a4 g ?_).trans (b4 g hg)⟩
  have:some cb'=some cb:=e'.symm.trans (b3.trans e)
  cases this;exact hg
theorem Q5{s:St}{b v:Nat}(h:valid s (.ver b v)=true):∃ro K l,look b s.st=some (.cell ro v [.rw K l])/\K.nest=true:=by
 simp only[valid] at h
 split at h
 ·rename_i ro v' K l e
  simp only[zA] at h
  rw[z9 h.1]
  exact⟨ro,K,l,e,h.2⟩
 ·cases h
theorem Ans{s:St}{b v:Nat}{ro:Bool}{K:Ki}{l:List K.den}(h:look b s.st=some (.cell ro v [.rw K l]))(hn:K.nest=true):valid s (.ver b v)=true:=by
 simp only[valid,h,hn,Bool.and_true];exact zX v
structure Mp(X X':Cx):Prop where
 cmx:∀b cb,X.cm b=some cb->∃cb',X'.cm b=some cb'/\cb.same cb'
 stw:∀n g,X.S n g->IsC X.w g->X'.S n g/\X'.w.heap[g]?=X.w.heap[g]?
 ver:∀b cb,X.cm b=some cb->∀ro' v' ps',look b X'.s.st=some (.cell ro' v' ps')->∃ro v ps,look b X.s.st=some (.cell ro v ps)/\v<=v'/\
  (v=v'->(∃K l,ps'=[.rw K l]/\K.nest=true)->ro=ro'/\ps=ps'/\X'.cm b=X.cm b/\∀g∈cb.fp,X'.w.heap[g]?=X.w.heap[g]?)
theorem Ext.weak{X X':Cx}(h:Ext X X'):Mp X X':=⟨h.cmx,λ n g hg _=>h.sts n g hg,h.ver⟩
theorem Mp.view{X X':Cx}(h:Mp X X'){b v:Nat}(k:Kn X (.ver b v))(e:valid X'.s (.ver b v)=true):
  valid X.s (.ver b v)=true/\look b X'.s.st=look b X.s.st/\X'.cm b=X.cm b/\∀cb,X.cm b=some cb->∀g∈cb.fp,X'.w.heap[g]?=X.w.heap[g]?:=by
 obtain⟨cb,hc,hk⟩:=k
 obtain⟨ro',K,l,e',hn⟩:=Q5 e
 obtain⟨ro,v1,ps,l1,le1,h1⟩:=h.ver b cb hc _ _ _ e'
 have:=hk _ _ _ l1
 obtain⟨a1,a2,a3,a4⟩:=h1 (by omega) ⟨K,l,rfl,hn⟩
 have hv:v1=v:=by omega
 subst hv a1 a2
 exact⟨Ans l1 hn,e'.trans l1.symm,a3,λ cb' hc'=>by rw[hc] at hc';cases hc';exact a4⟩
theorem Mp.kn{X X':Cx}(h:Mp X X'){q:Cg}(k:Kn X q):Kn X' q:=by
 cases q with
 | frz=>trivial
 | reg n=>trivial
 | ver b v=>
  obtain⟨cb,hc,hk⟩:=k
  obtain⟨cb',hc',_⟩:=h.cmx b cb hc
  refine⟨cb',hc',λ ro' v' ps' e=> ?_⟩
  obtain⟨ro,v1,ps,l1,le1,_⟩:=h.ver b cb hc _ _ _ e
  exact zW (hk _ _ _ l1) le1
theorem Mp.valid{X X':Cx}(h:Mp X X'){q:Cg}(k:Kn X q)(e:valid X'.s q=true):valid X.s q=true:=by
 cases q with
 | frz=>rfl
 | reg n=>rfl
 | ver b v=>exact(h.view k e).1
theorem Mp.sof{X X':Cx}(h:Mp X X'){q:Cg}(k:Kn X q)(e:Ev.valid X'.s q=true):∀g,X.Sof q g->IsC X.w g->X'.Sof q g/\X'.w.heap[g]?=X.w.heap[g]?:=by
 cases q with
 | frz=>exact h.stw none
 | reg n=>
  rintro g (⟨m,hm,hg⟩|hg) hC
  ·exact⟨.inl ⟨m,hm,(h.stw _ g hg hC).1⟩,(h.stw _ g hg hC).2⟩
  ·exact⟨.inr (h.stw _ g hg hC).1,(h.stw _ g hg hC).2⟩
 | ver b v=>
  obtain⟨_,_,h3,h4⟩:=h.view k e
  rintro g ⟨cb,hc,hg⟩ _
  exact⟨⟨cb,h3.trans hc,hg⟩,h4 cb hc g hg⟩
theorem Mp.at{X X':Cx}(h:Mp X X'){b v0 i f:Nat}{K:Ki}{l:List K.den}{v:Value}(k:Kn X (.ver b v0))(e:Ev.valid X'.s (.ver b v0)=true)(ha:At X b i f K l v):At X' b i f K l v:=by
 obtain⟨_,h2,h3,h4⟩:=h.view k e
 obtain⟨g,og,n,c,sz,fp,K0,l0,vv,ro,a1,a2,a3,a4,a5,a6⟩:=ha
 refine⟨g,og,n,c,sz,fp,K0,l0,vv,ro,h3.trans a1,h2.trans a2,a3,a4,a5, ?_⟩
 have:=h4 _ a1 g a5
 simpa[World.cell?,this] using a6
theorem Az.moveW{w w':World}{Z Z':Nat->Prop}{K:Ki}{l:List K.den}{cs:List Value}{fp:List Nat}(h:Az w Z K l cs fp)(hZ:∀g,Z g->IsC w g->Z' g/\w'.heap[g]?=w.heap[g]?)(hp:∀g∈fp,w'.heap[g]?=w.heap[g]?):Az w' Z' K l cs fp:=
 Eo (P:=λ g=>w'.heap[g]?=w.heap[g]?) h (λ x c f hg hx=>E6 hZ hZ hg hx) hp
theorem Az.move{w w':World}{Z Z':Nat->Prop}{K:Ki}{l:List K.den}{cs:List Value}{fp:List Nat}(h:Az w Z K l cs fp)(hZ:∀g,Z g->Z' g/\w'.heap[g]?=w.heap[g]?)(hp:∀g∈fp,w'.heap[g]?=w.heap[g]?):Az w' Z' K l cs fp:=
 Eo (P:=λ g=>w'.heap[g]?=w.heap[g]?) h (λ x c f hg hx=>Y9 hZ hZ hg hx) hp
theorem Gc.moveW{w w':World}{Z Z':Nat->Prop}{K:Ki}{l:List K.den}{n:Nat}{v:Value}{fp:List Nat}(h:Gc w K.size n (Az w Z K l) v fp)(hZ:∀g,Z g->IsC w g->Z' g/\w'.heap[g]?=w.heap[g]?)(hp:∀g∈fp,w'.heap[g]?=w.heap[g]?):Gc w' K.size n (Az w' Z' K l) v fp:=
 Sx h hp λ cs fps hs hr=>Az.moveW hr hZ λ g hg=>hp g (hs g hg)
theorem Gc.move{w w':World}{Z Z':Nat->Prop}{K:Ki}{l:List K.den}{n:Nat}{v:Value}{fp:List Nat}(h:Gc w K.size n (Az w Z K l) v fp)(hZ:∀g,Z g->Z' g/\w'.heap[g]?=w.heap[g]?)(hp:∀g∈fp,w'.heap[g]?=w.heap[g]?):Gc w' K.size n (Az w' Z' K l) v fp:=
 Sx h hp λ cs fps hs hr=>Az.move hr hZ λ g hg=>hp g (hs g hg)
theorem Q7{w w':World}{S S' Z Z':Nat->Prop}{K:Ki}{l:List K.den}{cs:List Value}(h:Cv (Rep w S Z K false) l cs [])(hp:∀g,S g->IsC w g->S' g/\w'.heap[g]?=w.heap[g]?)(hZ:∀g,Z g->IsC w g->Z' g/\w'.heap[g]?=w.heap[g]?):Cv (Rep w' S' Z' K false) l cs []:=
 Eo (P:=λ _=>True) h (λ x c f _ hx=>by
  have hf:=D2 (.inl rfl) hx
  subst hf
  exact E6 hp hZ (by simp) hx) (by simp)
theorem Di{w w':World}{S S' Z Z':Nat->Prop}{K:Ki}{l:List K.den}{cs:List Value}(h:Cv (Rep w S Z K false) l cs [])(hp:∀g,S g->S' g/\w'.heap[g]?=w.heap[g]?)(hZ:∀g,Z g->Z' g/\w'.heap[g]?=w.heap[g]?):Cv (Rep w' S' Z' K false) l cs []:=
 Eo (P:=λ _=>True) h (λ x c f _ hx=>by
  have hf:=D2 (.inl rfl) hx
  subst hf
  exact Y9 hp hZ (by simp) hx) (by simp)
theorem Ext.view{X X':Cx}(h:Ext X X'){b v:Nat}(k:Kn X (.ver b v))(e:valid X'.s (.ver b v)=true):
  valid X.s (.ver b v)=true/\look b X'.s.st=look b X.s.st/\X'.cm b=X.cm b/\∀cb,X.cm b=some cb->∀g∈cb.fp,X'.w.heap[g]?=X.w.heap[g]?:=h.weak.view k e
theorem Ext.kn{X X':Cx}(h:Ext X X'){q:Cg}(k:Kn X q):Kn X' q:=h.weak.kn k
theorem Ext.valid{X X':Cx}(h:Ext X X'){q:Cg}(k:Kn X q)(e:valid X'.s q=true):valid X.s q=true:=h.weak.valid k e
theorem Ext.sof{X X':Cx}(h:Ext X X'){q:Cg}(k:Kn X q)(e:Ev.valid X'.s q=true):∀g,X.Sof q g->X'.Sof q g/\X'.w.heap[g]?=X.w.heap[g]?:=by
 cases q with
 | frz=>exact h.sts none
 | reg n=>
  rintro g (⟨m,hm,hg⟩|hg)
  ·exact⟨.inl ⟨m,hm,(h.sts _ g hg).1⟩,(h.sts _ g hg).2⟩
  ·exact⟨.inr (h.sts _ g hg).1,(h.sts _ g hg).2⟩
 | ver b v=>
  obtain⟨_,_,h3,h4⟩:=h.view k e
  rintro g ⟨cb,hc,hg⟩
  exact⟨⟨cb,h3.trans hc,hg⟩,h4 cb hc g hg⟩
theorem Ext.at{X X':Cx}(h:Ext X X'){b v0 i f:Nat}{K:Ki}{l:List K.den}{v:Value}(k:Kn X (.ver b v0))(e:Ev.valid X'.s (.ver b v0)=true)(ha:At X b i f K l v):At X' b i f K l v:=h.weak.at k e ha
theorem Ct{cur:List Value}{o n:Nat}(h:o+n<=cur.length):(seg cur o n).length=n:=by simp[seg];omega
mutual
theorem VRel.extW{X X':Cx}(h:Mp X X'):∀{a:AV} {v:Value},VRel X a v->VRel X' a v
 | _,_,.un v=>.un v
 | _,_,.bool b=>.bool b
 | _,_,.int k n=>.int k n
 | _,_,.str t=>.str t
 | _,_,.nils=>.nils
 | _,_,.nz K=>.nz K
 | _,_,.sl e=>by
  obtain⟨cb',e',s'⟩:=h.cmx _ _ e
  cases cb'<;>simp[CB.same] at s'
  obtain⟨rfl,rfl,rfl,rfl⟩:=s'
  exact .sl e'
 | _,_,.ss0 e ho=>by
  obtain⟨cb',e',s'⟩:=h.cmx _ _ e
  cases cb'<;>simp[CB.same] at s'
  obtain⟨rfl,rfl,rfl,rfl⟩:=s'
  exact .ss0 e' ho
 | _,_,.ss e h1 h2 h3=>by
  obtain⟨cb',e',s'⟩:=h.cmx _ _ e
  cases cb'<;>simp[CB.same] at s'
  obtain⟨rfl,rfl,rfl,rfl⟩:=s'
  exact .ss e' h1 h2 h3
 | _,_,.ro h1 h2 hk hr=>.ro h1 h2 (h.kn hk) λ e=>Ol (hr (h.valid hk e)) (h.sof hk e) λ cs hc=>Q7 hc (h.sof hk e) (h.stw none)
 | _,_,.vw h1 h2 hk hr=>.vw h1 h2 (h.kn hk) λ e=>h.at hk e (hr (h.valid hk e))
 | _,_,.arr hl hr=>.arr hl (hr.moveW (h.stw none) (by simp))
 | _,_,.nilp=>.nilp
 | _,_,.pb e hb hp hn=>by
  obtain⟨cb',e',s'⟩:=h.cmx _ _ e
  exact .pb e' ((CB.same_base s').symm.trans hb) (CB.same_rowN s'▸hp) (CB.same_rowN s'▸hn)
 | _,_,.pn hn hp hk hr=>.pn hn hp (h.kn hk) λ e=>by
  obtain⟨n,c,ha⟩:=hr (h.valid hk e)
  exact⟨n,c,h.at hk e ha⟩
 | _,_,.po hn hp hk hr=>.po hn hp (h.kn hk) λ e=>by
  obtain⟨cur,t,fr,h3,h4,h5,h6⟩:=hr (h.valid hk e)
  exact⟨cur,t,fr,(h.sof hk e _ h3 ⟨_,_,_,h4⟩).1,(h.sof hk e _ h3 ⟨_,_,_,h4⟩).2.trans h4,h5,Q7 h6 (h.sof hk e) (h.stw none)⟩
 | _,_,.pr (q:=q) h1 h2 h3 h4 h7 h5 h6=>by
  have k:Kn X q:=by cases q with
   | frz=>trivial
   | reg n=>trivial
   | ver b v=>exact(h5 b v rfl).elim
  have e:Ev.valid X'.s q=true:=by cases q with
   | frz=>rfl
   | reg n=>rfl
   | ver b v=>exact(h5 b v rfl).elim
  exact .pr (h.sof k e _ h1 ⟨_,_,_,h2⟩).1 ((h.sof k e _ h1 ⟨_,_,_,h2⟩).2.trans h2) h3 (PRs.extW h (by simp) h4) h7 h5 h6
 | _,_,.agg hp hn=>.agg (PRs.extW h (by simp) hp) hn
 | _,_,.fn hv=>.fn (B2.extW h hv)
 | _,_,.nilf=>.nilf
 | _,_,.ifc hv=>.ifc (VRel.extW h hv)
 | _,_,.nili=>.nili
 | _,_,.mp e=>by
  obtain⟨cb',e',s'⟩:=h.cmx _ _ e
  cases cb'<;>simp[CB.same] at s'
  subst s'
  exact .mp e'
 | _,_,.nilm=>.nilm
 | _,_,.tr (q:=q) h5 ht=>by
  have k:Kn X q:=by cases q with
   | frz=>trivial
   | reg n=>trivial
   | ver b v=>exact(h5 b v rfl).elim
  have e:Ev.valid X'.s q=true:=by cases q with
   | frz=>rfl
   | reg n=>rfl
   | ver b v=>exact(h5 b v rfl).elim
  exact .tr h5 (ht.moveW (h.sof k e))
 | _,_,.tup hv=>.tup (B2.extW h hv)
theorem PRs.extW{X X':Cx}(h:Mp X X'):∀{ps:List AV} {cs:List Value} {fp:List Nat},(∀g∈fp,X'.w.heap[g]?=X.w.heap[g]?)->PRs X ps cs fp->PRs X' ps cs fp
 | _,_,_,_,.nil=>.nil
 | _,_,_,hf,.one h1 h2 h3 h4=>.one h1 h2 (VRel.extW h h3) (PRs.extW h hf h4)
 | _,_,_,hf,.arr h1 h2 h3=>.arr h1 (h2.moveW (h.stw none) λ g hg=>hf g (by simp[hg])) (PRs.extW h (λ g hg=>hf g (by simp[hg])) h3)
 | _,_,_,hf,.nl h1 h3=>.nl (h1.moveW (h.stw none) λ g hg=>hf g (by simp[hg])) (PRs.extW h (λ g hg=>hf g (by simp[hg])) h3)
 | _,_,_,hf,.rw h2 h3=>.rw (h2.moveW (h.stw none) λ g hg=>hf g (by simp[hg])) (PRs.extW h (λ g hg=>hf g (by simp[hg])) h3)
theorem B2.extW{X X':Cx}(h:Mp X X'):∀{as:List AV} {vs:List Value},B2 X as vs->B2 X' as vs
 | _,_,.nil=>.nil
 | _,_,.cons h1 h2=>.cons (VRel.extW h h1) (B2.extW h h2)
end
theorem VRel.ext{X X':Cx}(h:Ext X X'){a:AV}{v:Value}(hv:VRel X a v):VRel X' a v:=VRel.extW h.weak hv
theorem PRs.ext{X X':Cx}(h:Ext X X'){ps:List AV}{cs:List Value}{fp:List Nat}(hf:∀g∈fp,X'.w.heap[g]?=X.w.heap[g]?)(hp:PRs X ps cs fp):PRs X' ps cs fp:=PRs.extW h.weak hf hp
theorem B2.ext{X X':Cx}(h:Ext X X'){as:List AV}{vs:List Value}(hv:B2 X as vs):B2 X' as vs:=B2.extW h.weak hv
end Go.Ev
namespace Go.Ev
theorem Rw:∀a b:G9,Bd (a++b)=Bd a+Bd b
 | [],b=>by simp[Bd]
 | (sz,n,i,o)::r,b=>by simp only[yZ,Bd];rw[Rw r b];omega
theorem C3:∀a:G9,Bd a.reverse=Bd a
 | []=>rfl
 | (sz,n,i,o)::r=>by rw[zF,Rw,C3 r];simp only[Bd];omega
variable{X:Cx}
theorem Cf:∀{p q:List AV} {c1 c2:List Value} {f1 f2:List Nat},PRs X p c1 f1->PRs X q c2 f2->PRs X (p++q) (c1++c2) (f1++f2)
 | _,_,_,_,_,_,.nil,h=>h
 | _,_,_,_,_,_,.one h1 h2 h3 h4,h=>.one h1 h2 h3 (Cf h4 h)
 | _,_,_,_,_,_,.arr h1 h2 h3,h=>by
  rw[zD,zD];exact .arr h1 h2 (Cf h3 h)
 | _,_,_,_,_,_,.nl h1 h3,h=>by
  rw[zD];exact .nl h1 (Cf h3 h)
 | _,_,_,_,_,_,.rw h2 h3,h=>by
  rw[zD,zD];exact .rw h2 (Cf h3 h)
theorem Kp{a:AV}{r:List AV}{cs:List Value}{fp:List Nat}(h:PRs X (a::r) cs fp)(ha:a.norw=true):
  ∃c1 c2 f1 f2,cs=c1++c2/\fp=f1++f2/\c1.length=a.size/\PRs X [a] c1 f1/\PRs X r c2 f2:=by
 cases h with
 | @one _ v _ cs _ h1 h2 h3 h4=>
  refine⟨[v],cs,[],fp,rfl,rfl, ?_,.one h1 h2 h3 .nil,h4⟩
  cases a<;>first|rfl|simp[AV.plain] at h1
 | @arr n K l _ c1 cs f1 fp h1 h2 h3=>
  refine⟨c1,cs,f1,fp,rfl,rfl, ?_,by simpa using PRs.arr h1 h2 .nil,h3⟩
  rw[If (λ x c f hx=>Bw hx) h2,h1];rfl
 | @nl K l v _ cs f1 fp h1 h3=>exact⟨[v],cs,f1,fp,rfl,rfl,rfl,by simpa using PRs.nl h1 .nil,h3⟩
 | rw h2 h3=>simp[AV.norw] at ha
theorem D1:∀(K:Ki) (d:K.den),∀a∈Bq K d,a.norw=true
 | .int _,_,a,h|.bool,_,a,h|.str,_,a,h|.arr _ _,_,a,h|.lst _,_,a,h|.tr,_,a,h|.fl _,_,a,h=>by
  simp only[Bq,zO] at h;rw[h];rfl
 | .pair x y,d,a,h=>by
  simp only[Bq,yH] at h
  exact h.elim (D1 x d.1 a) (D1 y d.2 a)
 | .unit,_,a,h=>by simp[Bq] at h
theorem Do:∀{K:Ki} {d:K.den} {cs:List Value} {fp:List Nat},Rep X.w (X.S none) (X.S none) K true d cs fp->PRs X (Bq K d) cs fp
 | .int _,_,_,_,h=>by rw[h.1,h.2];exact .one rfl rfl (.int _ _) .nil
 | .bool,_,_,_,h=>by rw[h.1,h.2];exact .one rfl rfl (.bool _) .nil
 | .str,_,_,_,h=>by rw[h.1,h.2];exact .one rfl rfl (.str _) .nil
 | .lst e,l,_,fp,h=>by
  rcases h with⟨_,v,h1,h2⟩|⟨h1,_⟩
  ·rw[h1]
   have:=PRs.nl (X:=X) h2 .nil
   simpa[Bq] using this
  ·simp at h1
 | .arr n e,l,_,fp,h=>by
  have:=PRs.arr (X:=X) h.1 h.2 .nil
  simpa[Bq] using this
 | .pair a b,_,_,_,⟨c1,c2,f1,f2,e1,e2,h1,h2⟩=>by
  rw[e1,e2];exact Cf (Do h1) (Do h2)
 | .unit,_,_,_,h=>by rw[h.1,h.2];exact .nil
 | .tr,t,_,_,⟨h0,v,h1,h2,h3⟩=>by
  rw[h0,h1];exact .one rfl h2 (.tr (λ b v e=>by cases e) h3) .nil
 | .fl e,l,_,_,⟨h0,v,h1,h2⟩=>by
  have h3:=h2
  obtain⟨A,c,e1,e2,e3⟩:=h2
  rw[h0,h1]
  subst e1
  refine .one rfl rfl (.ro e2 ?_ trivial λ _=>h3) .nil
  rcases e3 with e3|⟨g,o,cur,t,fr,e3,_⟩
  ·exact .inl e3
  ·exact .inr ⟨g,o,e3⟩
theorem Gj{K K':Ki}{l:List K.den}{l':List K'.den}(h:Es K K' l=some l'):∃e:K=K',e▸l=l':=Ii h
theorem Y0(w:World)(sz:Nat)(Row:List Value->List Nat->Prop):Gc w sz 0 Row (.slice none 0 0) []:=⟨none,0,rfl,.inl ⟨rfl,rfl,rfl⟩⟩
theorem Aem(w:World)(S:Nat->Prop)(sz:Nat)(Row:List Value->Prop):RoS w S sz 0 Row (.slice none 0 0):=⟨none,0,rfl,zG _,.inl rfl⟩
theorem Adl:∀{e:Ki} {ps r:List AV} {d:List e.den} {cs:List Value} {fp:List Nat},PRs X ps cs fp->A3 (.fl e) ps=some (d,r)->
  ∃c1 c2 f1 f2,cs=c1++c2/\fp=f1++f2/\Rep X.w (X.S none) (X.S none) (.fl e) true d c1 f1/\PRs X r c2 f2:=by
 intro e ps r d cs fp hp h
 cases hp with
 | nil=>simp[A3] at h
 | @one a v r' cs' fp' h1 h2 h3 h4=>
  cases a with
  | nils=>
   simp[A3] at h
   obtain⟨rfl,rfl⟩:=h
   cases h3
   exact⟨[_],cs',[],fp,rfl,rfl,⟨rfl,_,rfl,Aem _ _ _ _⟩,h4⟩
  | nz K=>
   simp[A3] at h
   obtain⟨rfl,rfl⟩:=h
   cases h3
   exact⟨[_],cs',[],fp,rfl,rfl,⟨rfl,_,rfl,Aem _ _ _ _⟩,h4⟩
  | ro q K l=>
   cases q with
   | frz=>
    simp only[A3] at h
    cases e2:Es K e l with
    | none=>rw[e2] at h;cases h
    | some l'=>
     rw[e2] at h
     simp only[zC,zM] at h
     obtain⟨rfl,rfl⟩:=Gj e2
     obtain⟨rfl,rfl⟩:=h
     cases h3 with
     | ro q1 q2 q3 q4=>exact⟨[_],cs',[],fp,rfl,rfl,⟨rfl,_,rfl,q4 rfl⟩,h4⟩
   | _=>simp[A3] at h
  | _=>simp[A3] at h
 | arr=>simp[A3] at h
 | nl=>simp[A3] at h
 | rw=>simp[A3] at h
theorem Ns:∀{K:Ki} {ps r:List AV} {d:K.den} {cs:List Value} {fp:List Nat},PRs X ps cs fp->A3 K ps=some (d,r)->
  ∃c1 c2 f1 f2,cs=c1++c2/\fp=f1++f2/\Rep X.w (X.S none) (X.S none) K true d c1 f1/\PRs X r c2 f2
 | .int k,ps,r,d,cs,fp,hp,h=>by
  cases hp with
  | nil=>simp[A3] at h
  | @one a v r' cs' fp' h1 h2 h3 h4=>
   cases a<;>simp[A3] at h
   rename_i k' n
   cases e:Gx k k'<;>rw[e] at h<;>simp at h
   obtain⟨rfl,rfl⟩:=h
   cases h3
   rw[Eh e]
   exact⟨[_],cs',[],fp,rfl,rfl,⟨rfl,rfl⟩,h4⟩
  | arr=>simp[A3] at h
  | nl=>simp[A3] at h
  | rw=>simp[A3] at h
 | .bool,ps,r,d,cs,fp,hp,h=>by
  cases hp with
  | nil=>simp[A3] at h
  | @one a v r' cs' fp' h1 h2 h3 h4=>
   cases a<;>simp[A3] at h
   obtain⟨rfl,rfl⟩:=h
   cases h3
   exact⟨[_],cs',[],fp,rfl,rfl,⟨rfl,rfl⟩,h4⟩
  | arr=>simp[A3] at h
  | nl=>simp[A3] at h
  | rw=>simp[A3] at h
 | .str,ps,r,d,cs,fp,hp,h=>by
  cases hp with
  | nil=>simp[A3] at h
  | @one a v r' cs' fp' h1 h2 h3 h4=>
   cases a<;>simp[A3] at h
   obtain⟨rfl,rfl⟩:=h
   cases h3
   exact⟨[_],cs',[],fp,rfl,rfl,⟨rfl,rfl⟩,h4⟩
  | arr=>simp[A3] at h
  | nl=>simp[A3] at h
  | rw=>simp[A3] at h
 | .lst e,ps,r,d,cs,fp,hp,h=>by
  cases hp with
  | nil=>simp[A3] at h
  | @one a v r' cs' fp' h1 h2 h3 h4=>
   cases a<;>simp[A3,AV.plain] at h h1
   ·obtain⟨rfl,rfl⟩:=h
    cases h3
    exact⟨[_],cs',[],fp,rfl,rfl,.inl ⟨rfl,_,rfl,Y0 _ _ _⟩,h4⟩
   ·obtain⟨rfl,rfl⟩:=h
    cases h3
    exact⟨[_],cs',[],fp,rfl,rfl,.inl ⟨rfl,_,rfl,Y0 _ _ _⟩,h4⟩
  | arr=>simp[A3] at h
  | @nl K l v r' cs' f1 fp' h1 h3=>
   simp only[A3] at h
   cases e2:Es K e l with
   | none=>rw[e2] at h;cases h
   | some l'=>
    rw[e2] at h
    simp only[zC,zM] at h
    obtain⟨rfl,rfl⟩:=Gj e2
    obtain⟨rfl,rfl⟩:=h
    exact⟨[v],cs',f1,fp',rfl,rfl,.inl ⟨rfl,v,rfl,h1⟩,h3⟩
  | rw=>simp[A3] at h
 | .arr n e,ps,r,d,cs,fp,hp,h=>by
  cases hp with
  | nil=>simp[A3] at h
  | @one a v r' cs' fp' h1 h2 h3 h4=>cases a<;>simp[A3,AV.plain] at h h1
  | @arr n' K l r' c1 cs' f1 fp' h1 h2 h3=>
   simp only[A3] at h
   cases e3:zB n n'<;>rw[e3] at h<;>simp only[cond_true,cond_false] at h
   ·cases h
   cases e2:Es K e l with
   | none=>rw[e2] at h;cases h
   | some l'=>
    rw[e2] at h
    simp only[zC,zM] at h
    obtain⟨rfl,rfl⟩:=Gj e2
    obtain⟨rfl,rfl⟩:=h
    exact⟨c1,cs',f1,fp',rfl,rfl,⟨h1.trans (z9 e3).symm,h2⟩,h3⟩
  | nl=>simp[A3] at h
  | rw=>simp[A3] at h
 | .pair a b,ps,r,d,cs,fp,hp,h=>by
  simp only[A3] at h
  cases e1:A3 a ps with
  | none=>rw[e1] at h;cases h
  | some z=>
   obtain⟨x,r1⟩:=z
   rw[e1] at h
   simp only at h
   cases e2:A3 b r1 with
   | none=>rw[e2] at h;cases h
   | some z=>
    obtain⟨y,r2⟩:=z
    rw[e2] at h
    simp only[zC,zM] at h
    obtain⟨rfl,rfl⟩:=h
    obtain⟨c1,c2,f1,f2,g1,g2,g3,g4⟩:=Ns hp e1
    obtain⟨c3,c4,f3,f4,k1,k2,k3,k4⟩:=Ns g4 e2
    exact⟨c1++c3,c4,f1++f3,f4,by simp[g1,k1],by simp[g2,k2],⟨c1,c3,f1,f3,rfl,rfl,g3,k3⟩,k4⟩
 | .unit,ps,r,d,cs,fp,hp,h=>by
  simp only[A3,zC,zM] at h
  obtain⟨_,rfl⟩:=h
  exact⟨[],cs,[],fp,rfl,rfl,⟨rfl,rfl⟩,hp⟩
 | .fl e,ps,r,d,cs,fp,hp,h=>Adl hp h
 | .tr,ps,r,d,cs,fp,hp,h=>by
  cases hp with
  | nil=>simp[A3] at h
  | @one a v r' cs' fp' h1 h2 h3 h4=>
   cases a with
   | tr q t=>
    cases q<;>simp[A3] at h
    obtain⟨rfl,rfl⟩:=h
    cases h3 with
    | tr hq ht=>exact⟨[_],cs',[],fp,rfl,rfl,⟨rfl,v,rfl,h2,ht⟩,h4⟩
   | _=>simp[A3] at h
  | arr=>simp[A3] at h
  | nl=>simp[A3] at h
  | rw=>simp[A3] at h
theorem Fm{K:Ki}{ps:List AV}{d:K.den}{cs:List Value}{fp:List Nat}(hp:PRs X ps cs fp)(h:Dn K ps=some d):Rep X.w (X.S none) (X.S none) K true d cs fp:=by
 unfold Dn at h
 split at h
 ·rename_i x e
  cases h
  obtain⟨c1,c2,f1,f2,g1,g2,g3,g4⟩:=Ns hp e
  cases g4
  rw[g1,g2];simpa using g3
 ·cases h
end Go.Ev
namespace Go.Ev
structure PG(G:List AV->List Value->List Nat->Prop):Prop where
 nil:G [] [] []
 nil':∀cs fp,G [] cs fp->cs=[]/\fp=[]
 head:∀a r cs fp,G (a::r) cs fp->a.norw=true->∃c1 c2 f1 f2,cs=c1++c2/\fp=f1++f2/\c1.length=a.size/\G [a] c1 f1/\G r c2 f2
 app:∀p q c1 c2 f1 f2,G p c1 f1->G q c2 f2->G (p++q) (c1++c2) (f1++f2)
 arr:∀m K l c f,G [.arr m K l] c f->∀i,i<m->∃c1 c2 c3 f1 f2 f3,c=c1++c2++c3/\f=f1++f2++f3/\c1.length=i*K.size/\G (Bq K (K.get l i)) c2 f2
section
variable{G:List AV->List Value->List Nat->Prop}(hG:PG G)
include hG
theorem PG.drop:∀{ps:List AV} (o:Nat) {r:List AV} {cs:List Value} {fp:List Nat},G ps cs fp->(∀a∈ps,a.norw=true)->Aw o ps=some r->
  ∃p1 c1 c2 f1 f2,ps=p1++r/\cs=c1++c2/\fp=f1++f2/\c1.length=o/\G p1 c1 f1/\G r c2 f2
 | [],o,r,cs,fp,hp,_,h=>by
  simp only[Aw] at h
  cases e:zB o 0<;>rw[e] at h<;>simp only[cond_true,cond_false] at h
  ·cases h
  cases h
  exact⟨[],[],cs,[],fp,rfl,rfl,rfl,(z9 e).symm,hG.nil,hp⟩
 | p::ps,o,r,cs,fp,hp,hn,h=>by
  simp only[Aw] at h
  cases e0:zB o 0<;>rw[e0] at h<;>simp only[cond_true,cond_false] at h
  ·cases e:zN p.size o<;>rw[e] at h<;>simp only[cond_true,cond_false] at h
   ·cases h
   have hle:=zH e
   obtain⟨a1,a2,b1,b2,e1,e2,e3,h1,h2⟩:=hG.head _ _ _ _ hp (hn p (by simp))
   obtain⟨p1,c1,c2,f1,f2,g1,g2,g3,g4,g5,g6⟩:=PG.drop _ h2 (λ a ha=>hn a (by simp[ha])) h
   refine⟨p::p1,a1++c1,c2,b1++f1,f2,by simp[g1],by rw[e1,g2,zD],by rw[e2,g3,zD], ?_, ?_,g6⟩
   ·rw[zE,e3,g4];omega
   ·exact hG.app [p] _ _ _ _ _ h1 g5
  ·cases h
   exact⟨[],[],cs,[],fp,rfl,rfl,rfl,(z9 e0).symm,hG.nil,hp⟩
theorem PG.take:∀{ps:List AV} (n:Nat) {qs:List AV} {cs:List Value} {fp:List Nat},G ps cs fp->(∀a∈ps,a.norw=true)->Bp n ps=some qs->
  ∃r c1 c2 f1 f2,ps=qs++r/\cs=c1++c2/\fp=f1++f2/\c1.length=n/\G qs c1 f1/\G r c2 f2
 | [],n,qs,cs,fp,hp,_,h=>by
  simp only[Bp] at h
  cases e:zB n 0<;>rw[e] at h<;>simp only[cond_true,cond_false] at h
  ·cases h
  cases h
  exact⟨[],[],cs,[],fp,rfl,rfl,rfl,(z9 e).symm,hG.nil,hp⟩
 | p::ps,n,qs,cs,fp,hp,hn,h=>by
  simp only[Bp] at h
  cases e0:zB n 0<;>rw[e0] at h<;>simp only[cond_true,cond_false] at h
  ·cases e:zN p.size n<;>rw[e] at h<;>simp only[cond_true,cond_false] at h
   ·cases h
   have hle:=zH e
   cases e2:Bp (n-p.size) ps with
   | none=>rw[e2] at h;cases h
   | some x=>
    rw[e2] at h
    simp only[zC] at h
    subst h
    obtain⟨a1,a2,b1,b2,e1,e3,e4,h1,h2⟩:=hG.head _ _ _ _ hp (hn p (by simp))
    obtain⟨r,c1,c2,f1,f2,g1,g2,g3,g4,g5,g6⟩:=PG.take _ h2 (λ a ha=>hn a (by simp[ha])) e2
    refine⟨r,a1++c1,c2,b1++f1,f2,by simp[g1],by rw[e1,g2,zD],by rw[e3,g3,zD], ?_, ?_,g6⟩
    ·rw[zE,e4,g4];omega
    ·exact hG.app [p] _ _ _ _ _ h1 g5
  ·cases h
   exact⟨p::ps,[],cs,[],fp,rfl,rfl,rfl,(z9 e0).symm,hG.nil,hp⟩
theorem PG.nav:∀(p:G9) (o n:Nat) {ps qs:List AV} {cs:List Value} {fp:List Nat},G ps cs fp->(∀a∈ps,a.norw=true)->PIn none p->nav n p o ps=some qs->
  ∃c1 c2 c3 f1 f2 f3,cs=c1++c2++c3/\fp=f1++f2++f3/\c1.length=o+Bd p/\c2.length=n/\G qs c2 f2/\(∀a∈qs,a.norw=true)
 | [],o,n,ps,qs,cs,fp,hp,hn,_,h=>by
  simp only[Ev.nav] at h
  cases e:Aw o ps with
  | none=>rw[e] at h;cases h
  | some r=>
   rw[e] at h
   obtain⟨p1,c1,c2,f1,f2,g1,g2,g3,g4,g5,g6⟩:=hG.drop o hp hn e
   have hn':∀a∈r,a.norw=true:=λ a ha=>hn a (by rw[g1];simp[ha])
   obtain⟨r',d1,d2,k1,k2,j1,j2,j3,j4,j5,j6⟩:=hG.take n g6 hn' h
   exact⟨c1,d1,d2,f1,k1,k2,by rw[g2,j2,zD],by rw[g3,j3,zD],by simp[Bd,g4],j4,j5,λ a ha=>hn' a (by rw[j1];simp[ha])⟩
 | (sz,N,i,o')::p,o,n,ps,qs,cs,fp,hp,hn,hi,h=>by
  simp only[Ev.nav] at h
  cases e:Aw o ps with
  | none=>rw[e] at h;cases h
  | some r=>
   rw[e] at h
   obtain⟨p1,c1,c2,f1,f2,g1,g2,g3,g4,g5,g6⟩:=hG.drop o hp hn e
   have hn':∀a∈r,a.norw=true:=λ a ha=>hn a (by rw[g1];simp[ha])
   cases r with
   | nil=>cases h
   | cons a r=>
    cases a with
    | arr m K l=>
     simp only at h
     cases hb:(zB sz K.size&&zB m N)<;>rw[hb] at h<;>simp only[cond_true,cond_false] at h
     ·cases h
     simp only[zA] at hb
     have e1:=z9 hb.1
     have e2:=z9 hb.2
     obtain⟨a1,a2,b1,b2,k1,k2,k3,k4,k5⟩:=hG.head _ _ _ _ g6 rfl
     obtain⟨d1,d2,d3,x1,x2,x3,y1,y2,y3,y4⟩:=hG.arr _ _ _ _ _ k4 i (by rw[e2];exact hi.1)
     obtain⟨u1,u2,u3,z1,z2,z3,w1,w2,w3,w4,w5,w6⟩:=PG.nav p o' n y4 (D1 _ _) hi.2 h
     refine⟨c1++(d1++u1),u2,u3++(d3++a2),f1++(x1++z1),z2,z3++(x3++b2), ?_, ?_, ?_,w4,w5,w6⟩
     ·rw[g2,k1,y1,w1];simp
     ·rw[g3,k2,y2,w2];simp
     ·simp only[zE,Bd,g4,y3,w3,e1];omega
    | rw K l=>have:=hn' _ (zP ..);simp[AV.norw] at this
    | _=>cases h
end
variable{X:Cx}
theorem Ki.get_eq{K:Ki}{l:List K.den}{i:Nat}(h:i<zK l):K.get l i=l[i]:=by
 simp[Ki.get,List.getD_eq_getElem?_getD,h]
theorem Lw{m:Nat}{K:Ki}{l:List K.den}{c:List Value}{f:List Nat}(h:PRs X [.arr m K l] c f):l.length=m/\Az X.w (X.S none) K l c f:=by
 cases h with
 | one h1=>simp[AV.plain] at h1
 | arr h1 h2 h3=>cases h3;simpa using⟨h1,h2⟩
theorem Ko:PG (PRs X) where
 nil:=.nil
 nil' cs fp h:=by cases h;exact⟨rfl,rfl⟩
 head a r cs fp h ha:=Kp h ha
 app p q c1 c2 f1 f2 h k:=Cf h k
 arr m K l c f h i hi:=by
  obtain⟨h1,h2⟩:=Lw h
  have hi':i<l.length:=by omega
  obtain⟨c1,c2,c3,f1,f2,f3,e1,e2,e3,e4,_⟩:=Hz (λ x c f hx=>Bw hx) i hi' h2
  exact⟨c1,c2,c3,f1,f2,f3,e1,e2,e3,by rw[Ki.get_eq hi'];exact Do e4⟩
inductive RPs (w:World) (S Z:Nat->Prop):List AV->List Value->List Nat->Prop
 | nil:RPs w S Z [] [] []
 | int {k:IntKind} {n:Int} {r:List AV} {cs:List Value}:RPs w S Z r cs []->RPs w S Z (.int k n::r) (.int k n::cs) []
 | bool {b:Bool} {r:List AV} {cs:List Value}:RPs w S Z r cs []->RPs w S Z (.bool b::r) (.bool b::cs) []
 | str {t:List UInt8} {r:List AV} {cs:List Value}:RPs w S Z r cs []->RPs w S Z (.str t::r) (.string ⟨⟨t⟩⟩::cs) []
 | fl {K:Ki} {l:List K.den} {v:Value} {r:List AV} {cs:List Value}:RoS w Z K.size l.length (λ cs=>Cv (Rep w Z Z K false) l cs []) v->RPs w S Z r cs []->RPs w S Z (.ro .frz K l::r) (v::cs) []
 | tr {t:Tr} {v:Value} {r:List AV} {cs:List Value}:v.oneCell'=true->Fd w Z t v->RPs w S Z r cs []->RPs w S Z (.tr .frz t::r) (v::cs) []
 | arr {n:Nat} {K:Ki} {l:List K.den} {r:List AV} {c1 cs:List Value}:l.length=n->Cv (Rep w S Z K false) l c1 []->RPs w S Z r cs []->RPs w S Z (.arr n K l::r) (c1++cs) []
 | nl {K:Ki} {l:List K.den} {v:Value} {r:List AV} {cs:List Value}:RoS w S K.size l.length (λ cs=>Cv (Rep w S Z K false) l cs []) v->RPs w S Z r cs []->RPs w S Z (.nl K l::r) (v::cs) []
theorem M8{w:World}{S Z:Nat->Prop}{ps:List AV}{cs:List Value}{fp:List Nat}(h:RPs w S Z ps cs fp):fp=[]:=by cases h<;>rfl
theorem Dw{w:World}{S Z:Nat->Prop}:∀{p q:List AV} {c1 c2:List Value} {f1 f2:List Nat},RPs w S Z p c1 f1->RPs w S Z q c2 f2->RPs w S Z (p++q) (c1++c2) (f1++f2)
 | _,_,_,_,_,_,.nil,h=>h
 | _,_,_,_,_,_,.int h1,h=>by have:=M8 h;subst this;exact .int (Dw h1 h)
 | _,_,_,_,_,_,.bool h1,h=>by have:=M8 h;subst this;exact .bool (Dw h1 h)
 | _,_,_,_,_,_,.str h1,h=>by have:=M8 h;subst this;exact .str (Dw h1 h)
 | _,_,_,_,_,_,.tr h0 ht h1,h=>by have:=M8 h;subst this;exact .tr h0 ht (Dw h1 h)
 | _,_,_,_,_,_,.fl h0 h1,h=>by have:=M8 h;subst this;exact .fl h0 (Dw h1 h)
 | _,_,_,_,_,_,.arr h1 h2 h3,h=>by have:=M8 h;subst this;rw[zD];exact .arr h1 h2 (Dw h3 h)
 | _,_,_,_,_,_,.nl h1 h3,h=>by have:=M8 h;subst this;exact .nl h1 (Dw h3 h)
theorem Lz{w:World}{S Z:Nat->Prop}:∀{K:Ki} {d:K.den} {cs:List Value},Rep w S Z K false d cs []->RPs w S Z (Bq K d) cs []
 | .int _,_,_,h=>by rw[h.1];exact .int .nil
 | .bool,_,_,h=>by rw[h.1];exact .bool .nil
 | .str,_,_,h=>by rw[h.1];exact .str .nil
 | .tr,_,_,⟨_,v,h1,h2,ht⟩=>by rw[h1];exact .tr h2 ht .nil
 | .fl e,_,_,⟨_,v,h1,h2⟩=>by rw[h1];exact .fl h2 .nil
 | .lst e,l,_,h=>by
  rcases h with⟨h1,_⟩|⟨_,_,v,h1,h2⟩
  ·simp at h1
  ·rw[h1];exact .nl h2 .nil
 | .arr n e,l,_,h=>by
  have:=RPs.arr (w:=w) (S:=S) (Z:=Z) h.1 h.2 .nil
  simpa[Bq] using this
 | .pair a b,_,_,⟨c1,c2,f1,f2,e1,e2,h1,h2⟩=>by
  rw[e1]
  have e3:=D2 (.inl rfl) h1
  have e4:=D2 (.inl rfl) h2
  subst e3 e4
  exact Dw (Lz h1) (Lz h2)
 | .unit,_,_,h=>by rw[h.1];exact .nil
theorem As8{w:World}{S Z:Nat->Prop}:PG (RPs w S Z) where
 nil:=.nil
 nil' cs fp h:=by cases h;exact⟨rfl,rfl⟩
 head a r cs fp h ha:=by
  cases h with
  | int h1=>exact⟨[_],_,[],[],rfl,rfl,rfl,.int .nil,h1⟩
  | bool h1=>exact⟨[_],_,[],[],rfl,rfl,rfl,.bool .nil,h1⟩
  | str h1=>exact⟨[_],_,[],[],rfl,rfl,rfl,.str .nil,h1⟩
  | tr h0 ht h1=>exact⟨[_],_,[],[],rfl,rfl,rfl,.tr h0 ht .nil,h1⟩
  | fl h0 h1=>exact⟨[_],_,[],[],rfl,rfl,rfl,.fl h0 .nil,h1⟩
  | @arr n K l _ c1 cs h1 h2 h3=>
   refine⟨c1,cs,[],[],rfl,rfl, ?_,by simpa using RPs.arr h1 h2 .nil,h3⟩
   rw[If (λ x c f hx=>Bw hx) h2,h1];rfl
  | nl h1 h3=>exact⟨[_],_,[],[],rfl,rfl,rfl,.nl h1 .nil,h3⟩
 app p q c1 c2 f1 f2 h k:=Dw h k
 arr m K l c f h i hi:=by
  cases h with
  | @arr _ _ _ _ c1 cs h1 h2 h3=>
   cases h3
   have hi':i<l.length:=by omega
   obtain⟨c1,c2,c3,f1,f2,f3,e1,e2,e3,e4,_⟩:=Hz (λ x c f hx=>Bw hx) i hi' h2
   have hf:=D2 (.inl rfl) e4
   subst hf
   exact⟨c1,c2,c3,[],[],[],by simpa using e1,rfl,e3,by rw[Ki.get_eq hi'];exact Lz e4⟩
theorem X7{w:World}{S Z:Nat->Prop}{o:Bool}{G:List AV->List Value->List Nat->Prop}(hG:PG G){K:Ki}(hK:∀d c f,Rep w S Z K o d c f->G (Bq K d) c f)
  {n sz N i f:Nat} {p:G9} {l:List K.den} {qs:List AV} {cs:List Value} {fp:List Nat}
  (hr:Cv (Rep w S Z K o) l cs fp) (hi:i<l.length) (hp:PIn none p) (h:nav n ((sz,N,i,f)::p) 0 [.rw K l]=some qs):
  sz=K.size/\∃c1 c2 c3 f1 f2 f3,cs=c1++c2++c3/\fp=f1++f2++f3/\c1.length=i*K.size+f+Bd p/\c2.length=n/\G qs c2 f2/\(∀a∈qs,a.norw=true):=by
 simp only[nav,Aw,show zB 0 0=true from rfl,cond_true] at h
 cases hb:zB sz K.size<;>rw[hb] at h<;>simp only[cond_true,cond_false] at h
 ·cases h
 obtain⟨c1,c2,c3,f1,f2,f3,e1,e2,e3,e4,_⟩:=Hz (λ x c f hx=>Bw hx) i hi hr
 rw[Ki.get_eq hi] at h
 obtain⟨u1,u2,u3,z1,z2,z3,w1,w2,w3,w4,w5,w6⟩:=hG.nav p f n (hK _ _ _ e4) (D1 _ _) hp h
 refine⟨z9 hb,c1++u1,u2,u3++c3,f1++z1,z2,z3++f3, ?_, ?_, ?_,w4,w5,w6⟩
 ·rw[e1,w1];simp
 ·rw[e2,w2];simp
 ·simp only[zE,e3,w3];omega
theorem G6:∀{ps:List AV} (o:Nat) {ps':List AV} (n:Nat) (new:List AV),E4 o ps n new=some ps'->
  ∃p1 r0 r,Aw o ps=some r0/\ps=p1++r0/\ps'=p1++new++r/\Aw n r0=some r
 | [],o,ps',n,new,h=>by
  simp only[E4] at h
  cases e:(zB o 0&&zB n 0)<;>rw[e] at h<;>simp only[cond_true,cond_false] at h
  ·cases h
  simp only[zA] at e
  cases h
  exact⟨[],[],[],by simp[Aw,e.1],rfl,by simp,by simp[Aw,e.2]⟩
 | p::ps,o,ps',n,new,h=>by
  simp only[E4] at h
  cases e0:zB o 0<;>rw[e0] at h<;>simp only[cond_true,cond_false] at h
  ·cases e:zN p.size o<;>rw[e] at h<;>simp only[cond_true,cond_false] at h
   ·cases h
   cases e2:E4 (o-p.size) ps n new with
   | none=>rw[e2] at h;cases h
   | some x=>
    rw[e2] at h
    simp only[zC] at h
    subst h
    obtain⟨p1,r0,r,h0,h1,h2,h3⟩:=G6 _ n new e2
    exact⟨p::p1,r0,r,by simp[Aw,e0,e,h0],by simp[h1],by simp[h2],h3⟩
  ·cases e:Aw n (p::ps) with
   | none=>rw[e] at h;cases h
   | some r=>
    rw[e] at h
    simp only[zC] at h
    exact⟨[],p::ps,r,by simp[Aw,e0],rfl,by simp[h],e⟩
theorem I9{a:AV}{r:List AV}(h:1<=a.size):Aw a.size (a::r)=some r:=by
 have h0:zB a.size 0=false:=beq_f (by omega)
 have h1:zN a.size a.size=true:=Nat.ble_self_eq_true _
 simp only[Aw,h0,cond_false,h1,cond_true,yV]
 cases r<;>simp[Aw]
where
 beq_f {a b:Nat} (h:a≠b):zB a b=false:=by
  cases e:zB a b
  ·rfl
  ·exact(h (z9 e)).elim
structure Zc(X:Cx)(ps':List AV)(cs:List Value)(fp:List Nat)(o n:Nat)(nc:List Value)(nf:List Nat):Prop where
 out:∃c1 c2 c3 f1 f2 f3,cs=c1++c2++c3/\fp=f1++f2++f3/\c1.length=o/\c2.length=n/\PRs X ps' (c1++nc++c3) (f1++nf++f3)/\(∀a∈ps',a.norw=true)
theorem Lq{o:Nat}{ps ps':List AV}{cs:List Value}{fp:List Nat}{n:Nat}{new:List AV}{nc:List Value}{nf:List Nat}
  (hp:PRs X ps cs fp) (hn:∀a∈ps,a.norw=true) (hw:PRs X new nc nf) (hw':∀a∈new,a.norw=true) (h:E4 o ps n new=some ps'):Zc X ps' cs fp o n nc nf:=by
 obtain⟨p1,r0,r,hd,h1,h2,h3⟩:=G6 o n new h
 obtain⟨p1',c1,c2,f1,f2,g1,g2,g3,g4,g5,g6⟩:=Ko.drop o hp hn hd
 have e:p1'=p1:=yC (g1.symm.trans h1)
 subst e
 have hn0:∀a∈r0,a.norw=true:=λ a ha=>hn a (by rw[g1];simp[ha])
 obtain⟨q1,d1,d2,k1,k2,j1,j2,j3,j4,j5,j6⟩:=Ko.drop n g6 hn0 h3
 refine⟨c1,d1,d2,f1,k1,k2,by rw[g2,j2,zD],by rw[g3,j3,zD],g4,j4, ?_, ?_⟩
 ·rw[h2];exact Cf (Cf g5 hw) j6
 ·intro a ha
  rw[h2] at ha
  simp only[yH] at ha
  rcases ha with(ha|ha)|ha
  ·exact hn a (by rw[g1];simp[ha])
  ·exact hw' a ha
  ·exact hn0 a (by rw[j1];simp[ha])
theorem Mh:∀(p:G9) (o:Nat) {ps ps':List AV} {cs:List Value} {fp:List Nat} {n:Nat} {new:List AV} {nc:List Value} {nf:List Nat},
  PRs X ps cs fp->(∀a∈ps,a.norw=true)->PRs X new nc nf->(∀a∈new,a.norw=true)->PIn none p->Hs n new p o ps=some ps'->Zc X ps' cs fp (o+Bd p) n nc nf
 | [],o,ps,ps',cs,fp,n,new,nc,nf,hp,hn,hw,hw',_,h=>by
  simpa[Bd] using Lq hp hn hw hw' h
 | (sz,N,i,o')::p,o,ps,ps',cs,fp,n,new,nc,nf,hp,hn,hw,hw',hi,h=>by
  simp only[Hs] at h
  cases e:Aw o ps with
  | none=>rw[e] at h;cases h
  | some r=>
   rw[e] at h
   obtain⟨p1,c1,c2,f1,f2,g1,g2,g3,g4,g5,g6⟩:=Ko.drop o hp hn e
   have hn':∀a∈r,a.norw=true:=λ a ha=>hn a (by rw[g1];simp[ha])
   cases r with
   | nil=>cases h
   | cons a r=>
    cases a with
    | arr m K l=>
     simp only at h
     cases hb:(zB sz K.size&&zB m N&&zN 1 K.size)<;>rw[hb] at h<;>simp only[cond_true,cond_false] at h
     ·cases h
     simp only[zA] at hb
     have e1:=z9 hb.1.1
     have e2:=z9 hb.1.2
     have e3:=zH hb.2
     cases eq:Hs n new p o' (Bq K (K.get l i)) with
     | none=>rw[eq] at h;cases h
     | some qs=>
      rw[eq] at h
      simp only at h
      cases ed:Dn K qs with
      | none=>rw[ed] at h;cases h
      | some d=>
       rw[ed] at h
       simp only at h
       obtain⟨a1,a2,b1,b2,k1,k2,k3,k4,k5⟩:=Kp g6 rfl
       obtain⟨hl,hrow⟩:=Lw k4
       have hi':i<l.length:=by rw[hl,e2];exact hi.1
       obtain⟨d1,d2,d3,x1,x2,x3,y1,y2,y3,y4,y5⟩:=Hz (λ x c f hx=>Bw hx) i hi' hrow
       rw[Ki.get_eq hi'] at eq
       obtain⟨u1,u2,u3,z1,z2,z3,w1,w2,w3,w4,w5,w6⟩:=(Mh p o' (Do (X:=X) y4) (D1 _ _) hw hw' hi.2 eq).out
       have hd:=Fm w5 ed
       have hrow':=y5 _ _ _ hd
       have hm:1<=m*K.size:=by
        have:1<=m:=by omega
        exact Nat.mul_le_mul this e3
       obtain⟨q1,r0,r',h0,h1,h2,h3⟩:=G6 o _ _ h
       rw[e] at h0
       cases h0
       have ep:q1=p1:=yC (h1.symm.trans g1)
       subst ep
       have hr':r'=r:=by
        have h4:=I9 (a:=.arr m K l) (r:=r) hm
        exact yI (h3.symm.trans h4)
       subst hr'
       refine⟨c1++(d1++u1),u2,u3++(d3++a2),f1++(x1++z1),z2,z3++(x3++b2), ?_, ?_, ?_,w4, ?_, ?_⟩
       ·rw[g2,k1,y1,w1];simp
       ·rw[g3,k2,y2,w2];simp
       ·simp only[zE,Bd,g4,y3,w3,e1];omega
       ·rw[h2]
        have hl':(l.set i d).length=m:=by simpa using hl
        have:=Cf (Cf g5 (PRs.arr hl' hrow' .nil)) k5
        simpa using this
       ·intro a ha
        rw[h2] at ha
        simp only[yH,zO] at ha
        rcases ha with(ha|ha)|ha
        ·exact hn a (by rw[g1];simp[ha])
        ·rw[ha];rfl
        ·exact hn' a (by simp[ha])
    | rw K l=>have:=hn' _ (zP ..);simp[AV.norw] at this
    | _=>cases h
theorem Ue{K:Ki}{n sz N i f:Nat}{p:G9}{l:List K.den}{ps' new:List AV}{cs nc:List Value}{fp nf:List Nat}
  (hr:Az X.w (X.S none) K l cs fp) (hi:i<l.length) (hw:PRs X new nc nf) (hw':∀a∈new,a.norw=true) (hp:PIn none p) (h:Hs n new ((sz,N,i,f)::p) 0 [.rw K l]=some ps'):
  sz=K.size/\∃(l':List K.den) (c1 c2 c3:List Value) (f1 f2 f3:List Nat),ps'=[.rw K l']/\l'.length=l.length/\cs=c1++c2++c3/\fp=f1++f2++f3/\c1.length=i*K.size+f+Bd p/\c2.length=n/\
   Az X.w (X.S none) K l' (c1++nc++c3) (f1++nf++f3):=by
 simp only[Hs,Aw,show zB 0 0=true from rfl,cond_true] at h
 cases hb:zB sz K.size<;>rw[hb] at h<;>simp only[cond_true,cond_false] at h
 ·cases h
 obtain⟨c1,c2,c3,f1,f2,f3,e1,e2,e3,e4,e5⟩:=Hz (λ x c f hx=>Bw hx) i hi hr
 rw[Ki.get_eq hi] at h
 cases eq:Hs n new p f (Bq K l[i]) with
 | none=>rw[eq] at h;cases h
 | some qs=>
  rw[eq] at h
  simp only at h
  cases ed:Dn K qs with
  | none=>rw[ed] at h;cases h
  | some d=>
   rw[ed] at h
   simp only[zC] at h
   obtain⟨u1,u2,u3,z1,z2,z3,w1,w2,w3,w4,w5,w6⟩:=(Mh p f (Do (X:=X) e4) (D1 _ _) hw hw' hp eq).out
   have hrow':=e5 _ _ _ (Fm w5 ed)
   refine⟨z9 hb,l.set i d,c1++u1,u2,u3++c3,f1++z1,z2,z3++f3,h.symm,by simp, ?_, ?_, ?_,w4, ?_⟩
   ·rw[e1,w1];simp
   ·rw[e2,w2];simp
   ·simp only[zE,e3,w3];omega
   ·simpa using hrow'
end Go.Ev
namespace Go.Ev
theorem Ais{a b:Nat}(h:a<=b):zN a b=true:=by rw[Nat.ble_eq];exact h
theorem A6{a b:Nat}:zB a b=true<->a=b:=⟨z9,λ h=>h▸zX a⟩
theorem A7{a b:Nat}:zB a b=false<->a≠b:=by
 cases h:zB a b
 ·simp;intro e;rw[A6.2 e] at h;cases h
 ·simp;exact A6.1 h
section
variable{α:Type}
theorem M3(i:Nat)(x:α):∀l:List (Nat×α),look i (put i x l)=some x
 | []=>by simp[put,look]
 | (j,y)::r=>by
  simp only[put]
  cases h:zB j i
  ·simp only[cond_false,look,h];exact M3 i x r
  ·simp only[cond_true,look,h]
theorem Lg{i k:Nat}(x:α)(hne:k≠i):∀l:List (Nat×α),look k (put i x l)=look k l
 | []=>by simp[put,look,A7.2 (Ne.symm hne)]
 | (j,y)::r=>by
  simp only[put]
  cases h:zB j i
  ·simp only[cond_false,look,Lg x hne r]
  ·have:=A6.1 h
   subst this
   simp only[cond_true,look,A7.2 (Ne.symm hne),cond_false]
theorem Pf{i k:Nat}(x:α)(l:List (Nat×α)):look k (put i x l)=if k=i then some x else look k l:=by
 split
 ·rename_i h;subst h;exact M3 _ _ _
 ·rename_i h;exact Lg _ h _
def Bt:List (Nat×α)->Prop
 | []=>True
 | (j,_)::r=>look j r=none/\Bt r
theorem Hl{i k:Nat}(hne:k≠i):∀l:List (Nat×α),look k (del i l)=look k l
 | []=>rfl
 | (j,y)::r=>by
  simp only[del]
  cases h:zB j i
  ·simp only[cond_false,look,Hl hne r]
  ·have:=A6.1 h
   subst this
   simp only[cond_true,look,A7.2 (Ne.symm hne),cond_false]
theorem Lf{i k:Nat}:∀l:List (Nat×α),Bt l->look k (del i l)=if k=i then none else look k l
 | l,h=>by
  split
  ·rename_i e;subst e
   induction l with
   | nil=>rfl
   | cons x r ih=>
    obtain⟨j,y⟩:=x
    simp only[del]
    cases hb:zB j k
    ·simp only[cond_false,look,hb];exact ih h.2
    ·have:=A6.1 hb
     subst this
     simp only[cond_true];exact h.1
  ·rename_i e;exact Hl e l
theorem Ho{i:Nat}{x:α}:∀{l:List (Nat×α)},Bt l->Bt (put i x l)
 | [],_=>by simp[put,Bt,look]
 | (j,y)::r,h=>by
  simp only[put]
  cases hb:zB j i
  ·simp only[cond_false]
   exact⟨by rw[Lg x (A7.1 hb)];exact h.1,Ho h.2⟩
  ·simp only[cond_true];exact⟨h.1,h.2⟩
theorem Hn{i:Nat}:∀{l:List (Nat×α)},Bt l->Bt (del i l)
 | [],_=>trivial
 | (j,y)::r,h=>by
  simp only[del]
  cases hb:zB j i
  ·simp only[cond_false]
   exact⟨by rw[Hl (A7.1 hb)];exact h.1,Hn h.2⟩
  ·simp only[cond_true];exact h.2
theorem Hi(d x:α)(i k:Nat):∀l:List (Nat×α),getD d k (put i x l)=if k=i then x else getD d k l
 | []=>by
  simp only[put,getD]
  by_cases h:k=i
  ·subst h;simp
  ·simp[A7.2 (Ne.symm h),h]
 | (j,y)::r=>by
  simp only[put]
  cases hb:zB j i
  ·simp only[cond_false,getD,Hi d x i k r]
   by_cases h:k=i
   ·subst h;simp[hb]
   ·simp[h]
  ·have:=A6.1 hb
   subst this
   simp only[cond_true,getD]
   by_cases h:k=j
   ·subst h;simp
   ·simp[A7.2 (Ne.symm h),h]
theorem V8(d:α)(k:Nat):∀l:List (Nat×α),getD d k l=(look k l).getD d
 | []=>rfl
 | (j,y)::r=>by
  simp only[getD,look]
  cases zB j k
  ·simp only[cond_false];exact V8 d k r
  ·rfl
end
theorem Cn:∀(u:Upd) {st:List (Nat×Blk)},Bt st->Bt (A9 u st)
 | [],_,h=>h
 | (b,some x)::r,_,h=>Cn r (Ho h)
 | (b,none)::r,_,h=>Cn r (Hn h)
def Dc:Upd->Nat->Option (Option Blk)
 | [],_=>none
 | (b,x)::r,k=>match Dc r k with
  | some y=>some y
  | none=>if k=b then some x else none
theorem B3:∀(u:Upd) {st:List (Nat×Blk)} (k:Nat),Bt st->look k (A9 u st)=match Dc u k with|some x=>x|none=>look k st
  | [],_,_,_=>rfl
  | (b,some x)::r,st,k,h=>by
    simp only[A9,Dc]
    rw[B3 r k (Ho h)]
    cases Dc r k with
    | some y=>rfl
    | none=>
      simp only
      rw[Pf]
      split<;>rfl
  | (b,none)::r,st,k,h=>by
    simp only[A9,Dc]
    rw[B3 r k (Hn h)]
    cases Dc r k with
    | some y=>rfl
    | none=>
      simp only
      rw[Lf _ h]
      split<;>rfl
theorem S7:∀(u:Upd) (k:Nat),Dc u k≠none->k∈Bm u
 | [],_,h=>(h rfl).elim
 | (b,x)::r,k,h=>by
  simp only[Dc] at h
  simp only[Bm,yQ,xI]
  cases e:Dc r k with
  | some y=>exact .inr (S7 r k (by rw[e];simp))
  | none=>
   rw[e] at h
   simp only at h
   by_cases hb:k=b
   ·exact .inl hb
   ·simp[hb] at h
structure Env where
 w:World
 H:Nat->Prop
 Z:Nat->Prop
 kv:Nat->Option Value:=λ _=>none
 rnd:Option Nat:=none
 db:List Deferred:=[]
 nm:Bool:=false
structure Fr(E:Env)(w:World):Prop where
 os:w.os=E.w.os
 tape:w.tape=E.w.tape
 output:w.output=E.w.output
 size:E.w.heap.size<=w.heap.size
 block:∀g,g<E.w.heap.size->¬E.H g->w.heap[g]?=E.w.heap[g]?
def Co:(K:Ki)->K.den->Value->Prop
 | .int k,n,v=>v=.int k n
 | .bool,b,v=>v=.bool b
 | .str,s,v=>v=.string ⟨⟨s⟩⟩
 | .arr n (.int k),l,v=>zK (α:=Int) l=n/\v=.agg (xM (Value.int k) l).toArray
 | _,_,_=>False
def Ej(K V:Ki):Nat->List (K.den×V.den)->List MapEntry->Prop
 | _,[],[]=>True
 | n,p::l,e::es=>Co K p.1 e.key/\Co V p.2 e.val/\e.born=n/\Ej K V (n+1) l es
 | _,_,_=>False
theorem Ej.length{K V:Ki}:∀{n:Nat} {l:List (K.den×V.den)} {es:List MapEntry},Ej K V n l es->es.length=l.length
 | _,[],[],_=>rfl
 | _,_::_,_::_,h=>by simp only[zT,Ej.length h.2.2.2]
 | _,[],_::_,h=>h.elim
 | _,_::_,[],h=>h.elim
def Aei(w:World)(g t u:Nat)(l:List UInt8)(fp:List Nat):Prop:=
 ∃p v,(p=.pointer none\/p=.pointer (some ⟨g,0,none⟩))/\w.heap[g]?=some (.cells #[p,v] t (0,0))/\w.ownsRow 0 u 1 v l.length (Lib.byteCells l)/\fp=v.ownBlock.toList/\t≠u
theorem Aei.same{w w':World}{g t u:Nat}{l:List UInt8}{fp:List Nat}(h:Aei w g t u l fp)(hf:∀k∈g::fp,w'.heap[k]?=w.heap[k]?):Aei w' g t u l fp:=by
 obtain⟨p,v,h1,h2,h3,h4,h5⟩:=h
 refine⟨p,v,h1,(hf g (by simp)).trans h2,⟨h3.1, ?_⟩,h4,h5⟩
 rcases h3.2 with h3|⟨k,cap,cur,rfl,k1,k2,k3⟩
 ·exact .inl h3
 ·refine .inr ⟨k,cap,cur,rfl,k1,(hf k ?_).trans k2,k3⟩
  rw[h4]
  simp[Value.ownBlock]
inductive In (X:Cx):CB->Blk->Prop
 | box {g:Nat} {fps:List Nat} {ro:Bool} {v:Nat} {ps:List AV} {cur:List Value}:(∀a∈ps,a.norw=true)->F5 X.w g cur->PRs X ps cur fps->In X (.box g fps) (.cell ro v ps)
 | row {A:Option Addr} {n c sz:Nat} {fp:List Nat} {ro:Bool} {v:Nat} {K:Ki} {l:List K.den}:n=l.length->sz=K.size->Gc X.w K.size l.length (Az X.w (X.S none) K l) (.slice A n c) fp->In X (.row A n c sz fp) (.cell ro v [.rw K l])
 | iter {g gm m n:Nat} {ord:List Nat} {last:Nat} {seen:List Nat}:X.cm m=some (.map gm)->X.w.heap[g]?=some (.mapIter (some gm) n seen.toArray n)->ord.Nodup->(∀j,j∈ord<->j<n/\j∉seen)->(last=0/\seen=[]\/∃s0 j,seen=s0++[j]/\last=j+1)->In X (.iter g) (.iter m n ord last)
 | bld {g t u:Nat} {l:List UInt8} {fp:List Nat}:Aei X.w g t u l fp->In X (.bld g fp) (.bld t u l)
 | map {g:Nat} {K V:Ki} {l:List (K.den×V.den)} {es:List MapEntry}:X.w.heap[g]?=some (.map es.toArray es.length)->Ej K V 0 l es->In X (.map g) (.map K V l)
structure Rel(E:Env)(X:Cx):Prop where
 blk:∀b x,look b X.s.st=some x->∃cb,X.cm b=some cb/\In X cb x/\cb.fp.Nodup/\∀g∈cb.fp,g<X.w.heap.size/\(E.H g\/E.w.heap.size<=g)
 dis:∀b b' x x' cb cb' g,look b X.s.st=some x->look b' X.s.st=some x'->X.cm b=some cb->X.cm b'=some cb'->g∈cb.fp->g∈cb'.fp->b=b'
 out:∀n g,X.S (some n) g->g<E.w.heap.size/\¬E.H g
 frz:∀g,X.S none g->g<X.w.heap.size/\(E.Z g\/E.H g\/E.w.heap.size<=g)/\∀b x cb,look b X.s.st=some x->X.cm b=some cb->g∉cb.fp
 fr:Fr E X.w
 uq:Bt X.s.st
def Anz(X:Cx)(M:Nat->Prop)(g:Nat):Prop:=X.w.heap.size<=g\/∃b x cb,M b/\look b X.s.st=some x/\X.cm b=some cb/\g∈cb.fp
structure SMv(X X':Cx)(M:Nat->Prop):Prop where
 gs:GS X'.S X.S
 new:∀g,X'.S none g->X.S none g\/(g<X'.w.heap.size/\Anz X M g/\∀b x cb,M b->look b X'.s.st=some x->X'.cm b=some cb->g∉cb.fp)
theorem SMv.same{X X':Cx}{M:Nat->Prop}(h:X'.S=X.S):SMv X X' M:=⟨.of h,λ g hg=>.inl (h▸hg)⟩
structure Mv(X X':Cx)(M T:Nat->Prop):Prop where
 S:SMv X X' M
 os:X'.w.os=X.w.os
 tape:X'.w.tape=X.w.tape
 output:X'.w.output=X.w.output
 size:X.w.heap.size<=X'.w.heap.size
 heap:∀g,g<X.w.heap.size->¬T g->X'.w.heap[g]?=X.w.heap[g]?
 T:∀g,T g->∃b x cb,M b/\look b X.s.st=some x/\X.cm b=some cb/\g∈cb.fp
 look:∀b,¬M b->look b X'.s.st=look b X.s.st
 cm:∀b,¬M b->X'.cm b=X.cm b
 cmM:∀b cb,M b->X.cm b=some cb->∃cb',X'.cm b=some cb'/\cb.same cb'
 verM:∀b cb ro' v' ps',M b->X.cm b=some cb->Ev.look b X'.s.st=some (.cell ro' v' ps')->∃ro v ps,Ev.look b X.s.st=some (.cell ro v ps)/\v<=v'/\(v=v'->¬∃K l,ps'=[.rw K l]/\K.nest=true)
variable{E:Env}{X X':Cx}{M T:Nat->Prop}
theorem Mv.free(R:Rel E X)(h:Mv X X' M T){b:Nat}{x:Blk}{cb:CB}{g:Nat}(hM:¬M b)(hl:Ev.look b X.s.st=some x)(hc:X.cm b=some cb)(hg:g∈cb.fp):X'.w.heap[g]?=X.w.heap[g]?:=by
 obtain⟨cb',hc',_,_,hb⟩:=R.blk b x hl
 rw[hc] at hc';cases hc'
 refine h.heap g (hb g hg).1 λ hT=> ?_
 obtain⟨b0,x0,cb0,m0,l0,c0,g0⟩:=h.T g hT
 exact hM (R.dis b0 b x0 x cb0 cb g l0 hl c0 hc g0 hg▸m0)
theorem Mv.stay(R:Rel E X)(h:Mv X X' M T){n:Option Nat}{g:Nat}(hs:X.S n g):X'.w.heap[g]?=X.w.heap[g]?:=by
 cases n with
 | none=>
  obtain⟨h1,_,h2⟩:=R.frz g hs
  refine h.heap g h1 λ hT=> ?_
  obtain⟨b0,x0,cb0,m0,l0,c0,g0⟩:=h.T g hT
  exact h2 b0 x0 cb0 l0 c0 g0
 | some n=>
  obtain⟨h1,h2⟩:=R.out n g hs
  refine h.heap g (zU h1 R.fr.size) λ hT=> ?_
  obtain⟨b0,x0,cb0,m0,l0,c0,g0⟩:=h.T g hT
  obtain⟨cb',hc',_,_,hb⟩:=R.blk b0 x0 l0
  rw[c0] at hc';cases hc'
  rcases(hb g g0).2 with h3|h3
  ·exact h2 h3
  ·omega
theorem Mv.ext(R:Rel E X)(h:Mv X X' M T):Ext X X' where
 cmx b cb hc:=by
  by_cases hM:M b
  ·exact h.cmM b cb hM hc
  ·exact⟨cb,(h.cm b hM).trans hc,cb.same_refl⟩
 sts n g hs:=⟨h.S.gs.mono n g hs,h.stay R hs⟩
 ver b cb hc ro' v' ps' hl:=by
  by_cases hM:M b
  ·obtain⟨ro,v,ps,h1,h2,h3⟩:=h.verM b cb ro' v' ps' hM hc hl
   exact⟨ro,v,ps,h1,h2,λ e hn=>(h3 e hn).elim⟩
  ·have e:=h.look b hM
   rw[e] at hl
   exact⟨ro',v',ps',hl,zG _,λ _ _=>⟨rfl,rfl,h.cm b hM,λ g hg=>h.free R hM hl hc hg⟩⟩
theorem In.extW(h:Mp X X'){cb:CB}{x:Blk}(hf:∀g∈cb.fp,X'.w.heap[g]?=X.w.heap[g]?)(hb:In X cb x):In X' cb x:=by
 cases hb with
 | box h1 h2 h3=>exact .box h1 (h2.same (hf _ (by simp[CB.fp]))) (PRs.extW h (λ g' hg'=>hf g' (by simp[CB.fp,hg'])) h3)
 | row h1 h2 h3=>exact .row h1 h2 (h3.moveW (h.stw none) λ g hg=>hf g hg)
 | map h1 h2=>exact .map ((hf _ (by simp[CB.fp])).trans h1) h2
 | bld h1=>exact .bld (h1.same hf)
 | iter h1 h2 h3 h4 h5=>
  obtain⟨cb',k1,k2⟩:=h.cmx _ _ h1
  cases cb'<;>simp[CB.same] at k2
  subst k2
  exact .iter k1 ((hf _ (by simp[CB.fp])).trans h2) h3 h4 h5
theorem In.ext(h:Ext X X'){cb:CB}{x:Blk}(hf:∀g∈cb.fp,X'.w.heap[g]?=X.w.heap[g]?)(hb:In X cb x):In X' cb x:=In.extW h.weak hf hb
theorem Mv.fr(R:Rel E X)(h:Mv X X' M T):Fr E X'.w where
 os:=h.os.trans R.fr.os
 tape:=h.tape.trans R.fr.tape
 output:=h.output.trans R.fr.output
 size:=zW R.fr.size h.size
 block g hg hH:=by
  rw[<-R.fr.block g hg hH]
  refine h.heap g (zU hg R.fr.size) λ hT=> ?_
  obtain⟨b0,x0,cb0,m0,l0,c0,g0⟩:=h.T g hT
  obtain⟨cb',hc',_,_,hb⟩:=R.blk b0 x0 l0
  rw[c0] at hc';cases hc'
  rcases(hb g g0).2 with h3|h3
  ·exact hH h3
  ·omega
theorem Mv.rel(R:Rel E X)(h:Mv X X' M T)(huq:Bt X'.s.st)
  (new:∀b x',M b->Ev.look b X'.s.st=some x'->∃cb',X'.cm b=some cb'/\In X' cb' x'/\cb'.fp.Nodup/\∀g∈cb'.fp,g<X'.w.heap.size/\Anz X M g)
  (dis:∀b b' x x' cb cb' g,M b->M b'->Ev.look b X'.s.st=some x->Ev.look b' X'.s.st=some x'->X'.cm b=some cb->X'.cm b'=some cb'->g∈cb.fp->g∈cb'.fp->b=b'):Rel E X':=by
 have hx:=h.ext R
 have old:∀b x,¬M b->Ev.look b X'.s.st=some x->∃cb,X.cm b=some cb/\Ev.look b X.s.st=some x/\X'.cm b=some cb:=λ b x hM hl=>by
  rw[h.look b hM] at hl
  obtain⟨cb,hc,_⟩:=R.blk b x hl
  exact⟨cb,hc,hl,(h.cm b hM).trans hc⟩
 have apart:∀b b' x x' cb cb' g,¬M b->M b'->Ev.look b X'.s.st=some x->Ev.look b' X'.s.st=some x'->X'.cm b=some cb->X'.cm b'=some cb'->g∈cb.fp->g∈cb'.fp->False:=by
  intro b b' x x' cb cb' g hM hM' hl hl' hc hc' hg hg'
  obtain⟨cb0,h1,h2,h3⟩:=old b x hM hl
  rw[hc] at h3;cases h3
  obtain⟨cb1,k1,_,_,k4⟩:=new b' x' hM' hl'
  rw[hc'] at k1;cases k1
  rcases(k4 g hg').2 with hf|⟨b0,x0,cb0,m0,l0,c0,g0⟩
  ·obtain⟨cb2,j1,_,_,j4⟩:=R.blk b x h2
   rw[h1] at j1;cases j1
   have:=(j4 g hg).1
   omega
  ·exact hM (R.dis b0 b x0 x cb0 cb g l0 h2 c0 h1 g0 hg▸m0)
 constructor
 ·intro b x hl
  by_cases hM:M b
  ·obtain⟨cb',h1,h2,h3,h4⟩:=new b x hM hl
   refine⟨cb',h1,h2,h3,λ g hg=>⟨(h4 g hg).1, ?_⟩⟩
   rcases(h4 g hg).2 with hf|⟨b0,x0,cb0,m0,l0,c0,g0⟩
   ·exact .inr (zW R.fr.size hf)
   ·obtain⟨cb2,j1,_,_,j4⟩:=R.blk b0 x0 l0
    rw[c0] at j1;cases j1
    exact(j4 g g0).2
  ·obtain⟨cb,h1,h2,h3⟩:=old b x hM hl
   obtain⟨cb2,j1,j2,j3,j4⟩:=R.blk b x h2
   rw[h1] at j1;cases j1
   exact⟨cb,h3,j2.ext hx (λ g hg=>h.free R hM h2 h1 hg),j3,λ g hg=>⟨zU (j4 g hg).1 h.size,(j4 g hg).2⟩⟩
 ·intro b b' x x' cb cb' g hl hl' hc hc' hg hg'
  by_cases hM:M b
  ·by_cases hM':M b'
   ·exact dis b b' x x' cb cb' g hM hM' hl hl' hc hc' hg hg'
   ·exact(apart b' b x' x cb' cb g hM' hM hl' hl hc' hc hg' hg).elim
  ·by_cases hM':M b'
   ·exact(apart b b' x x' cb cb' g hM hM' hl hl' hc hc' hg hg').elim
   ·obtain⟨cb0,h1,h2,h3⟩:=old b x hM hl
    obtain⟨cb1,k1,k2,k3⟩:=old b' x' hM' hl'
    rw[hc] at h3;cases h3
    rw[hc'] at k3;cases k3
    exact R.dis b b' x x' cb cb' g h2 k2 h1 k1 hg hg'
 ·intro n g hs;rw[h.S.gs.1] at hs;exact R.out n g hs
 ·intro g hs
  rcases h.S.new g hs with hs|⟨h1,h2,h3⟩
  ·obtain⟨h1,h2,h3⟩:=R.frz g hs
   refine⟨zU h1 h.size,h2,λ b x cb hl hc hg=> ?_⟩
   by_cases hM:M b
   ·obtain⟨cb',k1,_,_,k4⟩:=new b x hM hl
    rw[hc] at k1;cases k1
    rcases(k4 g hg).2 with hf|⟨b0,x0,cb0,m0,l0,c0,g0⟩
    ·omega
    ·exact h3 b0 x0 cb0 l0 c0 g0
   ·obtain⟨cb',k1,k2,k3⟩:=old b x hM hl
    rw[hc] at k3;cases k3
    exact h3 b x cb k2 k1 hg
  ·refine⟨h1, ?_,λ b x cb hl hc hg=> ?_⟩
   ·rcases h2 with h2|⟨b0,x0,cb0,m0,l0,c0,g0⟩
    ·exact .inr (.inr (zW R.fr.size h2))
    ·obtain⟨cb',j1,_,_,j4⟩:=R.blk b0 x0 l0
     rw[c0] at j1;cases j1
     exact .inr (j4 g g0).2
   ·by_cases hM:M b
    ·exact h3 b x cb hM hl hc hg
    ·obtain⟨cb',k1,k2,k3⟩:=old b x hM hl
     rw[hc] at k3;cases k3
     rcases h2 with h2|⟨b0,x0,cb0,m0,l0,c0,g0⟩
     ·obtain⟨cb2,j1,_,_,j4⟩:=R.blk b x k2
      rw[k1] at j1;cases j1
      have:=(j4 g hg).1
      omega
     ·exact hM (R.dis b0 b x0 x cb0 cb g l0 k2 c0 k1 g0 hg▸m0)
 ·exact h.fr R
 ·exact huq
end Go.Ev
namespace Go.Ev
def Auz:Value->Value->Bool
 | .int k n,.int k' n'=>Gx k k'&&n==n'
 | .bool b,.bool b'=>b==b'
 | .string s,.string s'=>s.data.toList.isEmpty&&s'.data.toList.isEmpty
 | .slice none n c,.slice none n' c'=>zB n n'&&zB c c'
 | .pointer none,.pointer none|.map none,.map none|.nilFunc,.nilFunc|.nilIface,.nilIface=>true
 | _,_=>false
theorem Aqe{a b:Value}(h:Auz a b=true):a=b:=by
 unfold Auz at h
 split at h
 ·simp only[zA,beq_iff_eq] at h;rw[Eh h.1,h.2]
 ·simp only[beq_iff_eq] at h;rw[h]
 ·rename_i s s'
  simp only[zA,xA] at h
  obtain⟨⟨l⟩⟩:=s
  obtain⟨⟨l'⟩⟩:=s'
  simp at h
  rw[h.1,h.2]
 ·simp only[zA] at h;rw[z9 h.1,z9 h.2]
 ·rfl
 ·rfl
 ·rfl
 ·rfl
 ·cases h
def Ux:List Value->List Value->Bool
 | [],[]=>true
 | a::r,b::s=>Auz a b&&Ux r s
 | _,_=>false
theorem Uy:∀{a b:List Value},Ux a b=true->a=b
 | [],[],_=>rfl
 | a::r,b::s,h=>by
  simp only[Ux,zA] at h
  rw[Aqe h.1,Uy h.2]
 | [],_::_,h=>by simp[Ux] at h
 | _::_,[],h=>by simp[Ux] at h
def At1(n:Int):Bool:=n==0
def Aqo(b:Bool):Bool:=match b with|true=>false|false=>true
def Aur(s:List UInt8):Bool:=s.isEmpty
def At8{α:Type}(l:List α):Bool:=l.isEmpty
def An5{α:Type}(n:Nat)(f:α->Bool)(l:List α):Bool:=zB l.length n&&l.all f
def W8:(K:Ki)->K.den->Bool
 | .int _,n=>At1 n
 | .bool,b=>Aqo b
 | .str,s=>Aur s
 | .lst _,l|.fl _,l=>At8 l
 | .arr n e,l=>An5 n (W8 e) l
 | .pair a b,d=>W8 a d.1&&W8 b d.2
 | .unit,_=>true
 | .tr,t=>t.isNil
theorem Aus{t:Tr}(h:t.isNil=true):t=.nil:=by cases t<;>first|rfl|cases h
theorem Aen{α:Type}{n:Nat}{f:α->Bool}{l:List α}{z:α}(h:An5 n f l=true)(hf:∀x,f x=true->x=z):l=zJ n z:=by
 simp only[An5,zA,xB] at h
 rw[<-z9 h.1]
 exact List.eq_replicate_of_mem λ x hx=>hf x (h.2 x hx)
theorem Aox{n:Int}(h:At1 n=true):n=0:=by simpa[At1] using h
theorem Aiw{b:Bool}(h:Aqo b=true):b=false:=by cases b;rfl;cases h
theorem Apx{s:List UInt8}(h:Aur s=true):s=[]:=by simpa[Aur] using h
theorem Ao8{α:Type}{l:List α}(h:At8 l=true):l=[]:=by simpa[At8] using h
theorem P6:∀{K:Ki} {d:K.den},W8 K d=true->d=K.zero
 | .int _,d,h=>Aox h
 | .bool,d,h=>Aiw h
 | .str,d,h=>Apx h
 | .lst _,d,h|.fl _,d,h=>Ao8 h
 | .arr n e,d,h=>Aen (l:=d) h λ x hx=>P6 hx
 | .pair a b,d,h=>by
  simp only[W8,zA] at h
  exact Prod.ext (P6 h.1) (P6 h.2)
 | .unit,_,_=>rfl
 | .tr,_,h=>Aus h
def zOk:List AV->List Value->Bool
  | [],[]=>true
  | .int k n::r,.int k' n'::cs=>Gx k k'&&n==n'&&zOk r cs
  | .bool b::r,.bool b'::cs=>(match b,b' with|true,true|false,false=>true|_,_=>false)&&zOk r cs
  | .str t::r,.string s::cs=>List.isEmpty t&&s.data.toList.isEmpty&&zOk r cs
  | .nils::r,.slice none 0 0::cs=>zOk r cs
  | .nz _::r,.slice none 0 0::cs=>zOk r cs
  | .nilp::r,.pointer none::cs=>zOk r cs
  | .nilm::r,.map none::cs=>zOk r cs
  | .nilf::r,.nilFunc::cs=>zOk r cs
  | .nili::r,.nilIface::cs=>zOk r cs
  | .tr .frz .nil::r,.nilIface::cs=>zOk r cs
  | .un::r,c::cs=>c.oneCell'&&zOk r cs
  | .arr n K l::r,cs=>An5 n (W8 K) l&&Ux (zJ n (Hu K)).flatten (cs.take (n*K.size))&&zOk r (cs.drop (n*K.size))
  | _,_=>false
theorem P5{X:Cx}(ps:List AV)(cs:List Value)(h:zOk ps cs=true):PRs X ps cs []/\(∀a∈ps,a.norw=true):=by
 fun_induction zOk ps cs with
 | case1=>exact⟨.nil,by simp⟩
 | case2 k n r k' n' cs ih=>
  simp only[zA,beq_iff_eq] at h
  obtain⟨h1,h2⟩:=ih h.2
  rw[Eh h.1.1,h.1.2]
  exact⟨.one rfl rfl (.int _ _) h1,by simp;exact⟨rfl,h2⟩⟩
 | case3 b r b' cs ih=>
  simp only[zA] at h
  obtain⟨h1,h2⟩:=ih h.2
  have:b=b':=by cases b<;>cases b'<;>simp_all
  subst this
  exact⟨.one rfl rfl (.bool _) h1,by simp;exact⟨rfl,h2⟩⟩
 | case4 t r s cs ih=>
  simp only[zA,xA] at h
  obtain⟨h1,h2⟩:=ih h.2
  obtain⟨⟨l⟩⟩:=s
  simp at h
  rw[h.1.1,h.1.2]
  exact⟨.one rfl rfl (.str _) h1,by simp;exact⟨rfl,h2⟩⟩
 | case5 r cs ih=>
  obtain⟨h1,h2⟩:=ih h
  exact⟨.one rfl rfl .nils h1,by simp;exact⟨rfl,h2⟩⟩
 | case6 r cs K ih=>
  obtain⟨h1,h2⟩:=ih h
  exact⟨.one rfl rfl (.nz _) h1,by simp;exact⟨rfl,h2⟩⟩
 | case7 r cs ih=>
  obtain⟨h1,h2⟩:=ih h
  exact⟨.one rfl rfl .nilp h1,by simp;exact⟨rfl,h2⟩⟩
 | case8 r cs ih=>
  obtain⟨h1,h2⟩:=ih h
  exact⟨.one rfl rfl .nilm h1,by simp;exact⟨rfl,h2⟩⟩
 | case9 r cs ih=>
  obtain⟨h1,h2⟩:=ih h
  exact⟨.one rfl rfl .nilf h1,by simp;exact⟨rfl,h2⟩⟩
 | case10 r cs ih=>
  obtain⟨h1,h2⟩:=ih h
  exact⟨.one rfl rfl .nili h1,by simp;exact⟨rfl,h2⟩⟩
 | case11 r cs ih=>
  obtain⟨h1,h2⟩:=ih h
  exact⟨.one rfl rfl (.tr (by simp) rfl) h1,by simp;exact⟨rfl,h2⟩⟩
 | case12 r c cs ih=>
  simp only[zA] at h
  obtain⟨h1,h2⟩:=ih h.2
  exact⟨.one rfl h.1 (.un _) h1,by simp;exact⟨rfl,h2⟩⟩
 | case13 n K l r cs ih=>
  simp only[zA] at h
  obtain⟨⟨h1,h3⟩,h4⟩:=h
  obtain⟨h5,h6⟩:=ih h4
  refine⟨?_,by simp;exact⟨rfl,h6⟩⟩
  have hl:=Aen h1 λ x hx=>P6 hx
  have hr:Az X.w (X.S none) K l (cs.take (n*K.size)) []:=by
   rw[<-Uy h3,hl]
   exact Gg (Jh _ _ _ _ K) n
  have hn:l.length=n:=by rw[hl];exact yL
  have:=PRs.arr (X:=X) hn hr h5
  rwa[List.take_append_drop] at this
 | case14=>cases h
def F0(P:Program)(sz:Nat):List Field->List Nat->Nat->Bool
  | [],[],o=>zB o sz
  | f::fs,p::ps,o=>zB f.offset o&&zB p o&&(match P.info? f.type with|some i=>zN 1 i.size&&F0 P sz fs ps (o+i.size)|none=>false)
  | _,_,_=>false
def Dy(P:Program)(ti:TyI):TypeDesc->Bool
  | .struct fs=>zB ti.cls 1&&F0 P ti.sz fs.toList ti.offs 0
  | .array n e=>zB ti.cls 2&&zB n ti.alen&&zB e ti.elem
  | .slice e=>zB ti.cls 0&&zB ti.sz 1&&zB e ti.elem&&Fa ti
  | .int k=>zB ti.cls 0&&zB ti.sz 1&&(match Hy ti with|some k'=>Gx k k'|none=>false)
  | .string=>zB ti.cls 0&&zB ti.sz 1&&Hj ti
  | .bool=>zB ti.cls 0&&zB ti.sz 1&&(match ti.zero with|[.bool _]=>true|_=>false)
  | .map k e=>zB ti.cls 0&&zB ti.sz 1&&Jq ti&&(zB k ti.alen&&zB e ti.elem)
  | .named .. |.invalid|.tuple _=>false
  | .pointer _=>zB ti.cls 0&&zB ti.sz 1&&(match ti.zero with|[.nilp]|[.un]=>true|_=>false)
  | .interface _=>zB ti.cls 0&&zB ti.sz 1&&(match ti.zero with|[.nili]|[.tr .frz .nil]|[.un]=>true|_=>false)
  | _=>zB ti.cls 0&&zB ti.sz 1&&(match ti.zero with|[.nilf]|[.un]=>true|_=>false)
def Aqa(P:Program)(t:Nat)(ti:TyI):Bool:=
  match P.info? t,P.underlying t with
  | some i,some d=>zB i.size ti.sz&&zB i.bytes ti.bytes&&
    (match i.zero with
      | some z=>zOk ti.zero z.cells.toList&&(bif zB ti.cls 0 then z.oneCell' else true)&&(match ti.ki with|some K=>zB K.size ti.sz&&Ux (Hu K) z.cells.toList|none=>true)
      | none=>false)&&Dy P ti d
  | _,_=>false
structure Db(P:Program)(t:Nat)(ti:TyI):Prop where
 i:∃i z,P.info? t=some i/\i.size=ti.sz/\i.bytes=ti.bytes/\i.zero=some z/\zOk ti.zero z.cells.toList=true/\(ti.cls=0->z.oneCell'=true)/\∀K,ti.ki=some K->K.size=ti.sz/\Hu K=z.cells.toList
 d:∃d,P.underlying t=some d/\Dy P ti d=true
theorem Aqb{P:Program}{t:Nat}{ti:TyI}(h:Aqa P t ti=true):Db P t ti:=by
 unfold Aqa at h
 split at h
 ·rename_i i d hi hd
  simp only[zA] at h
  obtain⟨⟨⟨h1,h2⟩,h3⟩,h4⟩:=h
  refine⟨?_,d,hd,h4⟩
  split at h3
  ·rename_i z hz
   simp only[zA] at h3
   refine⟨i,z,hi,z9 h1,z9 h2,hz,h3.1.1,λ hc=>by simpa[hc] using h3.1.2,λ K hK=> ?_⟩
   have h5:=h3.2
   rw[hK] at h5
   simp only[zA] at h5
   exact⟨z9 h5.1,Uy h5.2⟩
  ·cases h3
 ·cases h
def Bi(P:Program)(c:Cfg):Bool:=c.ty.all λ x=>Aqa P x.1 x.2
theorem Bs{P:Program}{c:Cfg}(h:Bi P c=true){t:Nat}{ti:TyI}(ht:tyI c t=some ti):Db P t ti:=by
 unfold tyI at ht
 unfold Bi at h
 rw[xB] at h
 have key:∀l:List (Nat×TyI),(∀x∈l,Aqa P x.1 x.2=true)->look t l=some ti->Db P t ti:=by
  intro l
  induction l with
  | nil=>intro _ h;simp[look] at h
  | cons x r ih=>
   intro hl h
   obtain⟨j,y⟩:=x
   simp only[look] at h
   cases hb:zB j t<;>rw[hb] at h
   ·exact ih (λ x hx=>hl x (by simp[hx])) h
   ·simp only[cond_true,zC] at h
    have:=hl (j,y) (by simp)
    rw[z9 hb,h] at this
    exact Aqb this
 exact key _ h ht
section
variable{P:Program}{t:Nat}{ti:TyI}{w:World}
theorem Db.info(h:Db P t ti):∃i,(typeInfo t).run P w=.ok i w/\i.size=ti.sz/\i.bytes=ti.bytes:=by
 obtain⟨i,z,h1,h2,h3,_⟩:=h.i
 exact⟨i,by simp[typeInfo,h1],h2,h3⟩
theorem Db.size(h:Db P t ti):(sizeOf t).run P w=.ok ti.sz w:=by
 obtain⟨i,h1,h2,_⟩:=h.info (w:=w)
 simp[sizeOf,h1,h2]
theorem Db.zero(h:Db P t ti):∃z,(zeroValue t).run P w=.ok z w/\zOk ti.zero z.cells.toList=true/\∀K,ti.ki=some K->K.size=ti.sz/\Hu K=z.cells.toList:=by
 obtain⟨i,z,h1,h2,h3,h4,h5,_,h6⟩:=h.i
 exact⟨z,by simp[zeroValue,typeInfo,h1,h4],h5,h6⟩
theorem Db.zero1(h:Db P t ti)(hc:ti.cls=0):∃z,(∀w:World,(zeroValue t).run P w=.ok z w)/\zOk ti.zero [z]=true:=by
 obtain⟨i,z,h1,h2,h3,h4,h5,h6,_⟩:=h.i
 have h7:=h6 hc
 have e:z.cells.toList=[z]:=by cases z<;>first|rfl|simp[Value.oneCell'] at h7
 rw[e] at h5
 exact⟨z,λ w=>by simp[zeroValue,typeInfo,h1,h4],h5⟩
theorem Ay{d:TypeDesc}(h:P.underlying t=some d):(underlying t).run P w=.ok d w:=by simp[underlying,h]
theorem Db.agg(h:Db P t ti):(isAgg t).run P w=.ok (!(zB ti.cls 0)) w:=by
 obtain⟨d,h1,h2⟩:=h.d
 simp only[isAgg,Sem.run_bind,Ay h1,Result.andThen_ok]
 cases d<;>simp only[Dy,zA,Sem.run_pure] at h2⊢<;>
  first
   | (simp at h2;done)
   | (rw[h2.1.1];rfl)
   | (rw[h2.1.1.1];rfl)
   | (rw[z9 h2.1.1.1];rfl)
   | (rw[z9 h2.1];rfl)
   | (rw[z9 h2.1.1];rfl)
theorem Db.one(h:Db P t ti)(hc:ti.cls=0):ti.sz=1:=by
 obtain⟨d,h1,h2⟩:=h.d
 cases d<;>simp only[Dy,zA,hc] at h2<;>
  first
   | (simp at h2;done)
   | exact z9 h2.1.2
   | exact z9 h2.1.1.2
   | exact h2.1.1.2
end
end Go.Ev
namespace Go.Ev
variable{E:Env}{X:Cx}
def Jj(X:Cx)(a:Act):Prop:=∀t,VRel X (getD .un t X.s.tm) (a.tmps.getD t undef)
theorem Nr(v:Value):VRel X (Pl v) v:=by
 unfold Pl
 split
 ·exact .bool _
 ·exact .int _ _
 ·rename_i s;obtain⟨⟨l⟩⟩:=s;exact .str _
 ·exact .nilp
 ·rename_i n c
  cases h:(zB n 0&&zB c 0)
  ·exact .un _
  ·simp only[zA] at h
   rw[z9 h.1,z9 h.2]
   exact .nils
 ·exact .nilm
 ·exact .nilf
 ·exact .nili
 ·exact .un _
theorem Bj{a:Act}(h:Jj X a)(x:Operand):VRel X (ev X.s x) (a.eval x):=by
 cases x with
 | tmp t=>exact h t
 | const v=>exact Nr v
 | global g=>exact .un _
 | func f=>exact .fn .nil
theorem L3{w:World}{S Z:Nat->Prop}{o:Bool}{K:Ki}{l:List K.den}{cs:List Value}{fp:List Nat}(hn:K.nest=false)(h:Cv (Rep w S Z K o) l cs fp):fp=[]:=
 L5 (λ _ _ _ hx=>D2 (.inr hn) hx) h
theorem Sl:∀{ps:List AV} {cs:List Value} {fp:List Nat},PRs X ps cs fp->C6 ps=true->fp=[]
 | _,_,_,.nil,_=>rfl
 | _,_,_,.one _ _ _ h,hf=>Sl h (by simp[C6] at hf;exact hf.2)
 | _,_,_,.arr h1 h2 h3,hf=>by
  simp only[C6,O4,zA,yB] at hf
  rw[L3 hf.1 h2,Sl h3 hf.2];rfl
 | _,_,_,.nl _ _,hf=>by simp[C6,O4] at hf
 | _,_,_,.rw _ _,hf=>by simp[C6,O4] at hf
theorem E8{ps qs:List AV}{rd rd':List Nat}(h:K9 ps rd=some (qs,rd')):C6 ps=true/\qs=ps/\rd'=rd:=by
 unfold K9 at h
 cases e:C6 ps<;>rw[e] at h<;>simp at h
 exact⟨rfl,h.1.symm,h.2.symm⟩
theorem Mc:∀{ps:List AV},C6 ps=true->∀a∈ps,a.norw=true
 | [],_,a,h=>by simp at h
 | p::r,hf,a,h=>by
  simp only[C6,zA] at hf
  rcases List.mem_cons.1 h with rfl|h
  ·cases a<;>first|rfl|simp[O4] at hf
  ·exact Mc hf.2 a h
theorem B6{s:St}{b:Nat}{a:AV}(h:Dr s b=some a):∃ro v K l,look b s.st=some (.cell ro v [.rw K l])/\a=.rw K l:=by
 unfold Dr at h
 split at h
 ·rename_i ro v K l e
  simp only[zC] at h
  exact⟨ro,v,K,l,e,h.symm⟩
 ·cases h
theorem Cd(R:Rel E X){b:Nat}{ro:Bool}{v:Nat}{K:Ki}{l:List K.den}(h:look b X.s.st=some (.cell ro v [.rw K l])):
  ∃A c fp,X.cm b=some (.row A l.length c K.size fp)/\Gc X.w K.size l.length (Az X.w (X.S none) K l) (.slice A l.length c) fp/\fp.Nodup/\∀g∈fp,g<X.w.heap.size/\(E.H g\/E.w.heap.size<=g):=by
 obtain⟨cb,h1,h2,h3,h4⟩:=R.blk b _ h
 cases h2 with
 | box k1 k2 k3=>
  have:=k1 _ (zP ..)
  simp[AV.norw] at this
 | row k1 k2 k3=>
  subst k1 k2
  exact⟨_,_,_,h1,k3,h3,h4⟩
theorem U9{p:AV}{r:List AV}(h:p.size=1):Bp 1 (p::r)=some [p]:=by
 have h1:zN 1 1=true:=rfl
 have h0:zB 1 0=false:=rfl
 simp only[Bp,h,h0,h1,cond_true,cond_false,yV]
 cases r<;>simp[Bp]
theorem My:∀{ps r r':List AV} (o k:Nat),Aw o ps=some r->Aw k r=some r'->Aw (o+k) ps=some r'
 | [],r,r',o,k,h,h'=>by
  simp only[Aw] at h
  cases e:zB o 0<;>rw[e] at h<;>simp only[cond_true,cond_false] at h
  ·cases h
  cases h
  rw[z9 e,xK];exact h'
 | p::ps,r,r',o,k,h,h'=>by
  simp only[Aw] at h
  cases e0:zB o 0<;>rw[e0] at h<;>simp only[cond_true,cond_false] at h
  ·cases e:zN p.size o<;>rw[e] at h<;>simp only[cond_true,cond_false] at h
   ·cases h
   have hle:=zH e
   have h0:=A7.1 e0
   have:=My _ k h h'
   simp only[Aw,A7.2 (show o+k≠0 by omega),cond_false,Ais (show p.size<=o+k by omega),cond_true]
   rw[show o+k-p.size=o-p.size+k by omega];exact this
  ·cases h
   rw[z9 e0,xK];exact h'
theorem Ly:∀{ps:List AV} {cs:List Value} {fp:List Nat},PRs X ps cs fp->(∀a∈ps,a.norw=true)->cs.length=Kg ps
 | [],_,_,.nil,_=>rfl
 | a::r,_,_,h,hn=>by
  obtain⟨c1,c2,f1,f2,e1,e2,e3,h1,h2⟩:=Kp h (hn a (by simp))
  rw[e1,zE,e3,Ly h2 (λ b hb=>hn b (by simp[hb]))];rfl
theorem W9(R:Rel E X){b i f:Nat}{K:Ki}{l:List K.den}{v:Value}(h:At X b i f K l v):
  ∃cb f',X.cm b=some cb/\Gc X.w K.size l.length (Az X.w (X.S none) K l) v f'/\∀g∈f',g∈cb.fp:=by
 obtain⟨g,og,n,c,sz,fp,K0,l0,ver,ro,a1,a2,a3,a4,a5,a6⟩:=h
 obtain⟨A,c',fp',h1,h2,h3,h4⟩:=Cd R a2
 rw[a1] at h1
 cases h1
 obtain⟨A',c2,e1,e2⟩:=h2
 cases e1
 rcases e2 with⟨e2,_⟩|⟨g',o',cur,fps,k1,k2,k3,k4,k5,k6⟩
 ·omega
 cases k1
 obtain⟨_,c1,c2,c3,f1,f2,f3,y1,y2,y3,y4,y5,y6⟩:=X7 (G:=PRs X) Ko (λ _ _ _ h=>Do h) (p:=[]) k6 a3 (by simp[PIn]) a4
 refine⟨_,f2,a1, ?_, ?_⟩
 ·cases y5 with
  | one p1=>simp[AV.plain] at p1
  | @nl _ _ v' _ cs' f1' fp'' p1 p2=>
   cases p2
   have hv:v'=v:=by
    obtain⟨t,fr,hg,ht⟩:=k2
    rw[Hc hg] at a6
    have hlen:(seg cur og (l0.length*K0.size)).length=l0.length*K0.size:=by
     apply Ct
     have:=zI K0.size k3
     omega
    have hc:=congrArg (λ x=>x[i*K0.size+f]?) y1
    simp only[seg] at hc
    simp only[Bd,xL] at y3
    have e:(c1++[v']++c3)[i*K0.size+f]?=some v':=by
     rw[<-y3];simp
    rw[e] at hc
    rw[List.getElem?_take] at hc
    split at hc
    ·rw[List.getElem?_drop] at hc
     have h9:(cur.toArray)[og+(i*K0.size+f)]?=cur[og+(i*K0.size+f)]?:=by simp
     rw[h9,hc] at a6
     exact yI a6
    ·cases hc
   rw[<-hv]
   simpa using p1
 ·intro x hx
  rw[k5]
  simp[CB.fp,y2,hx]
theorem Af9{b v:Nat}{cb:CB}(hc:X.cm b=some cb){g:Nat}(hg:g∈cb.fp):X.Sof (.ver b v) g:=⟨cb,hc,hg⟩
theorem Az.ro{w:World}{Z S:Nat->Prop}{K:Ki}{l:List K.den}{cs:List Value}{fp:List Nat}(h:Az w Z K l cs fp)(hp:∀g∈fp,S g):Cv (Rep w S Z K false) l cs []:=
 Jx (P:=S) h (λ x c f hg hx=>Qb (λ e=>by cases e) hg hx) hp
theorem Gc.ro{w:World}{Z S:Nat->Prop}{K:Ki}{l:List K.den}{n:Nat}{A:Option Addr}{c:Nat}{fp:List Nat}(hn:n=l.length)(h:Gc w K.size n (Az w Z K l) (.slice A n c) fp)(hp:∀g∈fp,S g):
  n<=c/\(n=0\/∃g og,A=some ⟨g,og,none⟩)/\RoS w S K.size n (λ cs=>Cv (Rep w S Z K false) l cs []) (.slice A n c):=by
 obtain⟨A',c',e,h⟩:=h
 cases e
 rcases h with⟨h1,h2,h3⟩|⟨g,o,cur,fps,h1,h2,h3,h4,h5,h6⟩
 ·exact⟨by omega,.inl h1,A,c,rfl,by omega,.inl h1⟩
 ·obtain⟨t,fr,hg,ht⟩:=h2
  have hm:=zI K.size h3
  refine⟨h3,.inr ⟨g,o,h1⟩,A,c,rfl,h3,.inr ⟨g,o,cur.toArray,t,fr,h1,hp g (by simp[h5]),hg,by simp;omega, ?_⟩⟩
  exact h6.ro λ x hx=>hp x (by simp[h5,hx])
theorem J9(R:Rel E X){b v i:Nat}{K0:Ki}{l0:List K0.den}{ro:Bool}{g og n c sz:Nat}{fp:List Nat}(hl:look b X.s.st=some (.cell ro v [.rw K0 l0]))(hc:X.cm b=some (.row (some ⟨g,og,none⟩) n c sz fp))
  (hi:i<l0.length) (hg:g∈fp) {w0:Nat->Option Value} (hw:∀k,X.w.cell? ⟨g,og+(i*K0.size+k),none⟩=w0 k):
  ∀{qs r:List AV} (f:Nat) {cs:List Value} {fq:List Nat},PRs X qs cs fq->(∀a∈qs,a.norw=true)->Ahl qs=true->C6 (I7 b v i f qs)=true->
   Aw f (Bq K0 (K0.get l0 i))=some (qs++r)->(∀k u,cs[k]?=some u->w0 (f+k)=some u)->PRs X (I7 b v i f qs) cs []
 | [],_,_,_,_,.nil,_,_,_,_,_=>.nil
 | q::qs,r,f,cs,fq,hp,hn,hpos,hfl,hd,hcell=>by
  simp only[Ahl,zA] at hpos
  have hsz:=zH hpos.1
  obtain⟨c1,c2,f1,f2,e1,e2,e3,h1,h2⟩:=Kp hp (hn q (by simp))
  have hd':Aw (f+q.size) (Bq K0 (K0.get l0 i))=some (qs++r):=My _ _ hd (I9 hsz)
  have hcell':∀k u,c2[k]?=some u->w0 (f+q.size+k)=some u:=λ k u hk=>by
   rw[Nat.add_assoc]
   refine hcell (q.size+k) u ?_
   rw[e1,<-e3,List.getElem?_append_right (by omega)]
   simpa using hk
  cases q with
  | nl K l=>
   simp only[I7] at hfl⊢
   have ih:=J9 R hl hc hi hg hw (f+1) h2 (λ a ha=>hn a (by simp[ha])) hpos.2 (by simp[C6] at hfl;exact hfl.2) hd' hcell'
   cases h1 with
   | one p1=>simp[AV.plain] at p1
   | @nl _ _ u _ cs' f1' fp' p1 p2=>
    cases p2
    rw[e1]
    simp only[List.append_nil] at*
    obtain⟨A,cc,ev,hA⟩:=p1
    have p1':Gc X.w K.size l.length (Az X.w (X.S none) K l) (.slice A l.length cc) f1':=⟨A,cc,rfl,hA⟩
    subst ev
    obtain⟨k1,k2,k3⟩:=p1'.ro (S:=λ _=>True) rfl (by simp)
    refine .one rfl rfl (.vw k1 k2 ⟨_,hc,λ ro' v' ps' hl'=> ?_⟩ λ _=> ?_) ih
    ·rw[hl] at hl';cases hl';exact zG _
    ·refine⟨g,og,n,c,sz,fp,K0,l0,v,ro,hc,hl,hi, ?_,hg, ?_⟩
     ·simp only[nav,Aw,show zB 0 0=true from rfl,cond_true,show zB K0.size K0.size=true from zX _,hd]
      exact U9 rfl
     ·rw[hw]
      exact hcell 0 _ (by rw[e1];rfl)
  | rw K l=>have:=hn _ (zP ..);simp[AV.norw] at this
  | arr m K l=>
   simp only[I7] at hfl⊢
   simp only[C6,O4,zA,yB] at hfl
   have ih:=J9 R hl hc hi hg hw (f+m*K.size) h2 (λ a ha=>hn a (by simp[ha])) hpos.2 hfl.2 hd' hcell'
   obtain⟨j1,j2⟩:=Lw h1
   have:=L3 hfl.1 j2
   subst this
   rw[e1]
   exact .arr j1 j2 ih
  | _=>
   simp only[I7] at hfl⊢
   have ih:=J9 R hl hc hi hg hw _ h2 (λ a ha=>hn a (by simp[ha])) hpos.2 (by simp[C6] at hfl;exact hfl.2) hd' hcell'
   cases h1 with
   | one p1 p2 p3 p4=>
    cases p4
    rw[e1]
    exact .one p1 p2 p3 ih
end Go.Ev
namespace Go.Ev
variable{E:Env}{X:Cx}
theorem E3{q:Cg}(hk:Kn X q):∀{ps:List AV} {cs:List Value} {fp:List Nat},(valid X.s q=true)->RPs X.w (X.Sof q) (X.S none) ps cs fp->C6 (B5 q ps)=true->PRs X (B5 q ps) cs []
 | _,_,_,_,.nil,_=>.nil
 | _,_,_,hv,.int h,hf=>by
  simp only[B5,C6,zA] at hf⊢
  exact .one rfl rfl (.int _ _) (E3 hk hv h hf.2)
 | _,_,_,hv,.bool h,hf=>by
  simp only[B5,C6,zA] at hf⊢
  exact .one rfl rfl (.bool _) (E3 hk hv h hf.2)
 | _,_,_,hv,.str h,hf=>by
  simp only[B5,C6,zA] at hf⊢
  exact .one rfl rfl (.str _) (E3 hk hv h hf.2)
 | _,_,_,hv,.tr h0 ht h,hf=>by
  simp only[B5,C6,zA] at hf⊢
  exact .one rfl h0 (.tr (λ b v e=>by cases e) ht) (E3 hk hv h hf.2)
 | _,_,_,hv,.fl h1 h,hf=>by
  simp only[B5,C6,zA] at hf⊢
  have h2:=h1
  obtain⟨A,c,rfl,hc,hA⟩:=h1
  refine .one rfl rfl (.ro hc ?_ trivial λ _=>h2) (E3 hk hv h hf.2)
  rcases hA with hA|⟨g,o,cur,t,fr,e,_⟩
  ·exact .inl hA
  ·exact .inr ⟨g,o,e⟩
 | _,_,_,hv,.arr h1 h2 h,hf=>by
  simp only[B5,C6,O4,zA,yB] at hf⊢
  have:Az X.w (X.S none) _ _ _ []:=Eo (P:=λ _=>True) h2 (λ x c f _ hx=>Sg hf.1 hx) (by simp)
  exact .arr h1 this (E3 hk hv h hf.2)
 | _,_,_,hv,.nl h1 h,hf=>by
  simp only[B5,C6,zA] at hf⊢
  obtain⟨A,c,rfl,hc,hA⟩:=h1
  refine .one rfl rfl (.ro hc ?_ hk λ _=>⟨A,c,rfl,hc,hA⟩) (E3 hk hv h hf.2)
  rcases hA with hA|⟨g,o,cur,t,fr,e,_⟩
  ·exact .inl hA
  ·exact .inr ⟨g,o,e⟩
structure An0(X:Cx)(n:Nat)(av:Value)(ps:List AV):Prop where
 out:∃g o cur t fr,av=.pointer (some ⟨g,o,none⟩)/\X.w.heap[g]?=some (.cells cur t fr)/\o+n<=cur.size/\PRs X ps (seg cur.toList o n) []/\∀a∈ps,a.norw=true
theorem Yk(cur:List Value)(o m k n:Nat)(h:k+n<=m):seg (seg cur o m) k n=seg cur (o+k) n:=by
 simp only[seg,yA,yN,yO]
 congr 1
 omega
theorem Oi{m:Option Nat}{p:G9}(h:PIn m p.reverse)(hp:p≠[]):∃sz N i f q,p.reverse=(sz,N,i,f)::q/\i<m.getD N/\PIn none q:=by
 cases e:p.reverse with
 | nil=>exact(hp (by simpa using e)).elim
 | cons x q=>
  obtain⟨sz,N,i,f⟩:=x
  rw[e] at h
  exact⟨sz,N,i,f,q,rfl,h.1,h.2⟩
theorem Ak9{n o:Nat}{K:Ki}{l:List K.den}{x:Nat×Nat×Nat×Nat}{p:G9}{qs:List AV}(h:nav n (x::p) o [.rw K l]=some qs):o=0:=by
 obtain⟨sz,N,i,f⟩:=x
 by_cases ho:o=0
 ·exact ho
 ·simp only[nav,Aw,A7.2 ho,cond_false] at h
  cases hb:zN (AV.rw K l).size o<;>rw[hb] at h<;>simp only[cond_true,cond_false] at h
  ·cases h
  ·cases hb2:zB (o-(AV.rw K l).size) 0<;>rw[hb2] at h<;>simp only[cond_true,cond_false] at h<;>cases h
theorem Af4{q:Cg}{K:Ki}{l:List K.den}{g og:Nat}{cur:Array Value}{t:TypeId}{fr:Nat×Nat}(hk:Kn X q)(hv:valid X.s q=true)(hg:X.w.heap[g]?=some (.cells cur t fr))(hle:og+l.length*K.size<=cur.size)
  (hr:Cv (Rep X.w (X.Sof q) (X.S none) K false) l (seg cur.toList og (l.length*K.size)) []) {n:Nat} {p:G9} {qs:List AV} (hp:p≠[]) (hi:PIn (some l.length) p.reverse) (h:nav n p.reverse 0 [.rw K l]=some qs)
  (hf:C6 (B5 q qs)=true):An0 X n (.pointer (some ⟨g,og+Bd p,none⟩)) (B5 q qs):=by
 obtain⟨sz,N,i,f,p',e,h1,h2⟩:=Oi hi hp
 rw[e] at h
 obtain⟨hsz,c1,c2,c3,f1,f2,f3,y1,y2,y3,y4,y5,y6⟩:=X7 (As8 (w:=X.w) (S:=X.Sof q) (Z:=X.S none)) (λ d c f hx=>by
  have:=D2 (.inl rfl) hx
  subst this
  exact Lz hx) hr h1 h2 h
 have hoff:Bd p=i*K.size+f+Bd p':=by rw[<-C3,e];simp only[Bd,hsz]
 have hlen:=congrArg zK y1
 simp only[zE,y3,y4] at hlen
 rw[Ct (by simpa using hle)] at hlen
 refine⟨g,og+Bd p,cur,t,fr,rfl,hg,by omega, ?_,Mc hf⟩
 have:seg cur.toList (og+Bd p) n=c2:=by
  rw[<-Yk cur.toList og (l.length*K.size) (Bd p) n (by omega),y1]
  exact Sp c1 c2 c3 _ _ (by omega) y4.symm
 rw[this]
 exact E3 hk hv y5 hf
theorem We(R:Rel E X){n:Nat}{a:AV}{av:Value}{ps:List AV}{rd:List Nat}(hv:VRel X a av)(h:loadAt X.s n a=some (ps,rd)):An0 X n av ps:=by
 cases hv with
 | @pb b o p cb g og hc hbase hpin hnr=>
  simp only[loadAt] at h
  cases hl:look b X.s.st with
  | none=>rw[hl] at h;cases h
  | some x=>
   rw[hl] at h
   cases x with
   | map=>cases h
   | iter=>cases h
   | bld=>cases h
   | cell ro v qs=>
    simp only at h
    cases hn:nav n p.reverse o qs with
    | none=>rw[hn] at h;cases h
    | some zs=>
     rw[hn] at h
     simp only at h
     obtain⟨cb',k1,k2,k3,k4⟩:=R.blk b _ hl
     rw[hc] at k1
     cases k1
     cases k2 with
     | @box g' fps _ _ _ cur j1 j2 j3=>
      simp only[CB.base,zC,zM] at hbase
      obtain⟨rfl,rfl⟩:=hbase
      have hf:C6 zs=true/\ps=zs:=by
       revert h
       split
       ·split
        ·exact(by have:=j1 _ (zP ..);simp[AV.norw] at this)
        ·intro h;obtain⟨h1,h2,_⟩:=E8 h;exact⟨h1,h2⟩
       ·intro h;obtain⟨h1,h2,_⟩:=E8 h;exact⟨h1,h2⟩
      obtain⟨hf,rfl⟩:=hf
      obtain⟨c1,c2,c3,f1,f2,f3,y1,y2,y3,y4,y5,y6⟩:=Ko.nav _ _ _ j3 j1 hpin hn
      obtain⟨t,fr,hg,ht⟩:=j2
      have hlen:=congrArg zK y1
      simp only[zE,y3,y4] at hlen
      rw[C3] at y3 hlen
      have:=Sl y5 hf
      subst this
      refine⟨g',0+(o+Bd p),cur.toArray,t,fr,rfl,hg,by simp;omega, ?_,y6⟩
      rw[show seg cur.toArray.toList (0+(o+Bd p)) n=c2 from by
       show seg cur (0+(o+Bd p)) n=c2
       rw[y1]
       exact Sp c1 c2 c3 _ _ (by omega) y4.symm]
      exact y5
     | @row A m c sz fp _ _ K l j1 j2 j3=>
      subst j1 j2
      have hp:p≠[]:=by
       rcases hnr with h|h
       ·simp[CB.rowN] at h
       ·exact h
      obtain⟨sz,N,i,f,p',e,h1,h2⟩:=Oi hpin hp
      simp only[CB.rowN,xC] at h1
      obtain⟨A',c',e1,e2⟩:=j3
      cases e1
      rcases e2 with⟨e2,_⟩|⟨g',o',cur,fps,q1,q2,q3,q4,q5,q6⟩
      ·omega
      subst q1
      simp only[CB.base,Zh,zC,zM] at hbase
      obtain⟨rfl,rfl⟩:=hbase
      rw[e] at hn
      have ho:=Ak9 hn
      subst ho
      obtain⟨hsz,c1,c2,c3,f1,f2,f3,y1,y2,y3,y4,y5,y6⟩:=X7 (G:=PRs X) Ko (λ _ _ _ h=>Do h) q6 h1 h2 hn
      have hoff:Bd p=i*K.size+f+Bd p':=by rw[<-C3,e];simp only[Bd,hsz]
      obtain⟨t,fr,hg,ht⟩:=q2
      have hm:=zI K.size q3
      have hlen:=congrArg zK y1
      simp only[zE,y3,y4] at hlen
      rw[Ct (by omega)] at hlen
      have hseg:seg cur (o'+(0+Bd p)) n=c2:=by
       rw[<-Yk cur o' (l.length*K.size) (0+Bd p) n (by omega),y1]
       exact Sp c1 c2 c3 _ _ (by omega) y4.symm
      refine⟨g',o'+(0+Bd p),cur.toArray,t,fr,rfl,hg,by simp;omega, ?_⟩
      have plainCase:K9 zs [b]=some (ps,rd)->PRs X ps (seg cur.toArray.toList (o'+(0+Bd p)) n) []/\∀a∈ps,a.norw=true:=by
       intro h
       obtain⟨hf,rfl,_⟩:=E8 h
       have:=Sl y5 hf
       subst this
       exact⟨by rw[show seg cur.toArray.toList (o'+(0+Bd p)) n=c2 from hseg];exact y5,y6⟩
      revert h
      split
      ·rename_i sz1 N1 i1 f1'
       split
       ·rename_i K1 l1 heq
        cases heq
        cases hb:(K.nest&&Ahl zs)<;>simp only[cond_true,cond_false]
        ·exact plainCase
        ·intro h
         simp only[zA] at hb
         obtain⟨hf,rfl,_⟩:=E8 h
         simp only[zF,yE,xE,List.cons.injEq,zM] at e
         obtain⟨⟨rfl,rfl,rfl,rfl⟩,rfl⟩:=e
         simp only[nav,Aw,show zB 0 0=true from rfl,cond_true,hsz,show zB K.size K.size=true from zX _] at hn
         cases hd:Aw f1' (Bq K (K.get l i1)) with
         | none=>rw[hd] at hn;cases hn
         | some r0=>
          rw[hd] at hn
          simp only at hn
          have htk:∃r,r0=zs++r:=by
           have:∀(ps:List AV) (n:Nat) (qs:List AV),Bp n ps=some qs->∃r,ps=qs++r:=by
            intro ps
            induction ps with
            | nil=>intro n qs h;simp only[Bp] at h;cases e:zB n 0<;>rw[e] at h<;>simp at h;exact⟨[],by simp[h]⟩
            | cons p ps ih=>
             intro n qs h
             simp only[Bp] at h
             cases e:zB n 0<;>rw[e] at h<;>simp only[cond_true,cond_false] at h
             ·cases e2:zN p.size n<;>rw[e2] at h<;>simp only[cond_true,cond_false] at h
              ·cases h
              cases e3:Bp (n-p.size) ps with
              | none=>rw[e3] at h;cases h
              | some x=>
               rw[e3] at h
               obtain⟨r,hr⟩:=ih _ _ e3
               cases h
               exact⟨r,by simp[hr]⟩
             ·cases h;exact⟨p::ps,rfl⟩
           exact this _ _ _ hn
          obtain⟨r,rfl⟩:=htk
          refine⟨?_,Mc hf⟩
          rw[show seg cur.toArray.toList (o'+(0+Bd [(sz1,N1,i1,f1')])) n=c2 from hseg]
          refine J9 R hl hc h1 (by rw[q5];simp) (w0:=λ k=>cur[o'+(i1*K.size+k)]?) (λ k=>by rw[Hc hg];simp) f1' y5 y6 hb.2 hf hd ?_
          intro k u hu
          have hk:k<n:=by
           have:=(List.getElem?_eq_some_iff.1 hu).1
           omega
          have:(seg cur (o'+(0+Bd [(sz1,N1,i1,f1')])) n)[k]?=some u:=by rw[hseg];exact hu
          simp only[seg,List.getElem?_take,hk,if_true,List.getElem?_drop] at this
          rw[<-this]
          congr 1
          simp only[Bd,hsz]
          omega
       ·rename_i hne
        exact(hne K l rfl).elim
      ·exact plainCase
 | @pn b v i f K l p g og hp hpin hk hr=>
  simp only[loadAt] at h
  cases hval:valid X.s (.ver b v)<;>rw[hval] at h<;>simp only[cond_true,cond_false] at h
  ·cases h
  cases hn:nav n p.reverse 0 [.rw K l] with
  | none=>rw[hn] at h;cases h
  | some qs=>
   rw[hn] at h
   simp only at h
   obtain⟨hf,rfl,_⟩:=E8 h
   obtain⟨n',c,hat⟩:=hr hval
   obtain⟨cb,f',hc,how,hfp⟩:=W9 R hat
   have hl0:l.length≠0:=by
    obtain⟨sz,N,i',f0,p',e,h1,h2⟩:=Oi hpin hp
    simp only[xC] at h1
    omega
   obtain⟨A,c2,e1,e2⟩:=how
   cases e1
   rcases e2 with⟨e2,_⟩|⟨g',o',cur,fps,q1,q2,q3,q4,q5,q6⟩
   ·exact(hl0 e2).elim
   cases q1
   obtain⟨t,fr,hg,ht⟩:=q2
   have hm:=zI K.size q3
   exact Af4 hk hval hg (by simp;omega) (q6.ro λ x hx=>Af9 hc (hfp x (by simp[q5,hx]))) hp hpin hn hf
 | @po q K l p g og hp hpin hk hr=>
  simp only[loadAt] at h
  cases hval:valid X.s q<;>rw[hval] at h<;>simp only[cond_true,cond_false] at h
  ·cases h
  cases hn:nav n p.reverse 0 [.rw K l] with
  | none=>rw[hn] at h;cases h
  | some qs=>
   rw[hn] at h
   simp only at h
   obtain⟨hf,rfl,_⟩:=E8 h
   obtain⟨cur,t,fr,h1,h2,h3,h4⟩:=hr hval
   exact Af4 hk hval h2 h3 h4 hp hpin hn hf
 | @pr q qs o p g og cur t fr m h1 h2 h3 h4 h7 h5 h6=>
  simp only[loadAt] at h
  cases hval:valid X.s q<;>rw[hval] at h<;>simp only[cond_true,cond_false] at h
  ·cases h
  cases hn:nav n p.reverse o qs with
  | none=>rw[hn] at h;cases h
  | some zs=>
   rw[hn] at h
   simp only at h
   obtain⟨hf,rfl,_⟩:=E8 h
   obtain⟨c1,c2,c3,f1,f2,f3,y1,y2,y3,y4,y5,y6⟩:=Ko.nav _ _ _ h4 h7 h6 hn
   have hlen:=congrArg zK y1
   simp only[zE,y3,y4] at hlen
   rw[Ct (by simpa using h3),C3] at hlen
   rw[C3] at y3
   have hf2:f2=[]:=by
    have:=congrArg zK y2
    simp at this
    exact zR (by omega)
   subst hf2
   refine⟨g,og+(o+Bd p),cur,t,fr,rfl,h2,by omega, ?_,Mc hf⟩
   rw[show seg cur.toList (og+(o+Bd p)) n=c2 from by
    rw[<-Yk cur.toList og m (o+Bd p) n (by omega),y1]
    exact Sp c1 c2 c3 _ _ (by omega) y4.symm]
   refine roPr y5 hf ?_
   cases q with
   | frz=>trivial
   | reg=>trivial
   | ver b v=>exact(h5 b v rfl).elim
 | _=>simp[loadAt] at h
where
 roPr {X:Cx} {q:Cg} {ps:List AV} {cs:List Value} (h:PRs X ps cs []) (hf:C6 (Ft q ps)=true) (hk:Kn X q):PRs X (Ft q ps) cs []:=roPr' h rfl hf hk
 roPr' {X:Cx} {q:Cg}:∀{ps:List AV} {cs:List Value} {fp:List Nat},PRs X ps cs fp->fp=[]->C6 (Ft q ps)=true->Kn X q->PRs X (Ft q ps) cs []
  | _,_,_,.nil,_,_,_=>.nil
  | _,_,_, @PRs.one _ a v r cs fp h1 h2 h3 h4,hfp,hf,hk=>by
   have e:Ft q (a::r)=a::Ft q r:=by cases a<;>first|rfl|simp[AV.plain] at h1
   rw[e] at hf⊢
   simp only[C6,zA] at hf
   exact .one h1 h2 h3 (roPr' h4 hfp hf.2 hk)
  | _,_,_,.arr h1 h2 h3,hfp,hf,hk=>by
   simp only[Ft,C6,zA] at hf⊢
   simp only[zY] at hfp
   have:=hfp.1
   subst this
   exact .arr h1 h2 (roPr' h3 hfp.2 hf.2 hk)
  | _,_,_,.nl h1 h3,hfp,hf,hk=>by
   simp only[Ft,C6,zA] at hf⊢
   simp only[zY] at hfp
   have:=hfp.1
   subst this
   obtain⟨A,c,rfl,h⟩:=h1
   have hA:Gc X.w _ _ (Az X.w (X.S none) _ _) (.slice A _ c) []:=⟨A,c,rfl,h⟩
   obtain⟨k1,k2,k3⟩:=hA.ro (S:=X.Sof q) rfl (by simp)
   exact .one rfl rfl (.ro k1 k2 hk λ _=>k3) (roPr' h3 hfp.2 hf.2 hk)
  | _,_,_,.rw h1 h3,hfp,hf,hk=>by simp[Ft,C6,O4] at hf
end Go.Ev
namespace Go.Ev
variable{R:Type}
structure Good(E:Env)(X:Cx)(nb:Nat)(v:AV)(u:Upd)(val:Value)(X':Cx):Prop where
 rel:Rel E X'
 ext:Ext X X'
 S:GS X'.S X.S
 st:X'.s={X.s with st:=A9 u X.s.st}
 fresh:∀b,X'.cm b≠none->X.cm b≠none\/(nb<=b/\b<nb+16)
 val:VRel X' v val
def Of(X:Cx)(nb:Nat):Prop:=∀b,nb<=b->b<nb+16->X.cm b=none
def Xb(P:Program)(s:St)(o:Oper)(nb:Nat)(v:AV)(u:Upd):Prop:=
 ∀E X a,X.s=s->Rel E X->Jj X a->Of X nb->∀next Q,(∀val X',Good E X nb v u val X'->next (a.put o.dst val) X'.w)->o.wp P a X.w next Q
def Nu(t:Nat)(k:IntKind)(n:Int):List PanicEntry:=[{v:=.iface t (.int k n),recovered:=false}]
def Aql(P:Program)(s:St)(o:Oper)(nb:Nat)(t:Nat)(k:IntKind)(n:Int)(u:Upd):Prop:=
 ∀E X a,X.s=s->Rel E X->Jj X a->Of X nb->∀next Q,(∀val X',Good E X nb .un u val X'->Q (.panic (Nu t k n)) a X'.w)->o.wp P a X.w next Q
def Aqm(P:Program)(s:St)(o:Oper)(nb:Nat)(v:AV)(u:Upd):Prop:=match v with
 | .pan t k n=>Aql P s o nb t k n u
 | v=>Xb P s o nb v u
theorem Xb.x{P:Program}{s:St}{o:Oper}{nb:Nat}{v:AV}{u:Upd}(h:Xb P s o nb v u):Aqm P s o nb v u:=by
 cases v with
 | pan t k n=>
  intro E X a hs hR hT hF next Q hn
  refine h E X a hs hR hT hF next Q λ val X' hG=> ?_
  cases hG.val
 | _=>exact h
structure Mt(s s':St)(o:Oper)(u:Upd)(rd:List Nat):Prop where
 ev:∀x∈o.op.operands,ev s' x=ev s x
 pt:∀c∈rd,∀b o,U4 c=some (b,o)->slAt o (look b s'.st)=slAt o (look b s.st)
 rd:∀b∈rd,look b s'.st=look b s.st
 wr:∀b∈Bm u,look b s'.st=look b s.st
structure Res(P:Program)(c:Cfg)(s:St)(o:Oper)(nb:Nat)(cont:Cj R)(r:R)(F:∀{R':Type},St->Cj R'->Option R'):Prop where
 out:∃v u rd,cont v u rd=some r/\Xb P s o nb v u/\(∀s',Mt s s' o u rd->∀(R':Type) (cont':Cj R'),F s' cont'=cont' v u rd)/\True
theorem Ag2{E:Env}{X:Cx}{nb:Nat}{v:AV}{val:Value}(R:Rel E X)(hv:VRel X v val):Good E X nb v [] val X:=
 ⟨R,.refl X,.refl _,rfl,λ _ h=>.inl h,hv⟩
theorem Bz{P:Program}{s:St}{o:Oper}{nb:Nat}{v:AV}
  (h:∀E X a,X.s=s->Rel E X->Jj X a->∃val,(execOp a.eval o).run P X.w=.ok (.value val) X.w/\VRel X v val):Xb P s o nb v []:=by
 intro E X a hs hR hT hF next Q hn
 obtain⟨val,h1,h2⟩:=h E X a hs hR hT
 unfold Oper.wp
 rw[h1]
 exact hn val X (Ag2 hR h2)
theorem An{b:Bool}{k:Option R}{r:R}(h:chk b k=some r):b=true/\k=some r:=by
 cases b
 ·cases h
 ·exact⟨rfl,h⟩
theorem A1(k:Option R):chk true k=k:=rfl
theorem Cc{s s':St}{b:Nat}(h:look b s'.st=look b s.st):Dr s' b=Dr s b:=by simp only[Dr,h]
theorem Id{s s':St}{q:Cg}(h:∀b∈Jb q,look b s'.st=look b s.st):valid s' q=valid s q:=by
 cases q with
 | frz=>rfl
 | reg=>rfl
 | ver b v=>simp only[valid,h b (by simp[Jb])]
theorem Md{ps qs:List AV}{rd rd':List Nat}(h:K9 ps rd=some (qs,rd')):rd'=rd:=(E8 h).2.2
theorem Ac9{s s':St}{n:Nat}{a:AV}{ps:List AV}{rd:List Nat}(h:loadAt s n a=some (ps,rd))(hs:∀b∈rd,look b s'.st=look b s.st):loadAt s' n a=some (ps,rd):=by
 cases a<;>simp only[loadAt] at h⊢<;>(try cases h)
 ·rename_i b o p
  have hb:b∈rd:=by
   revert h
   split
   ·split
    ·split
     ·split
      ·rename_i K l _ _
       cases(K.nest&&Ahl _)<;>simp only[cond_true,cond_false]<;>intro h<;>rw[Md h]<;>simp
      ·intro h;rw[Md h];simp
     ·intro h;rw[Md h];simp
    ·intro h;cases h
   ·intro h;cases h
  rw[hs b hb];exact h
 ·rename_i b v i f K l p
  have hb:b∈rd:=by
   revert h
   cases valid s (.ver b v)<;>simp only[cond_true,cond_false]
   ·intro h;cases h
   ·split
    ·intro h;rw[Md h];simp
    ·intro h;cases h
  rw[Id (q:=.ver b v) (s:=s) (λ b' hb'=>by simp[Jb] at hb';rw[hb'];exact hs b hb)];exact h
 ·rename_i q K l p
  have hb:∀b∈Jb q,b∈rd:=by
   revert h
   cases valid s q<;>simp only[cond_true,cond_false]
   ·intro h;cases h
   ·split
    ·intro h;rw[Md h];cases q<;>simp[Jb]
    ·intro h;cases h
  rw[Id (q:=q) (s:=s) (λ b' hb'=>hs b' (hb b' hb'))];exact h
 ·rename_i q qs o p
  have hb:∀b∈Jb q,b∈rd:=by
   revert h
   cases valid s q<;>simp only[cond_true,cond_false]
   ·intro h;cases h
   ·split
    ·intro h;rw[Md h];cases q<;>simp[Jb]
    ·intro h;cases h
  rw[Id (q:=q) (s:=s) (λ b' hb'=>hs b' (hb b' hb'))];exact h
theorem An0.var{P:Program}{X:Cx}{t:Nat}{ti:TyI}{av:Value}{ps:List AV}{v:AV}(hT:Db P t ti)(hL:An0 X ti.sz av ps)(hc:Rv ti.cls ps=some v):
  ∃a val,av=.pointer (some a)/\(loadVar t a).run P X.w=.ok val X.w/\VRel X v val:=by
 obtain⟨g,o,cur,ty,fr,rfl,hg,hle,hp,hn⟩:=hL.out
 refine⟨⟨g,o,none⟩, ?_⟩
 simp only[loadVar,Sem.run_bind,hT.agg,Result.andThen_ok]
 unfold Rv at hc
 split at hc
 ·rename_i a e
  have hsz:=hT.one e
  rw[e]
  cases hpl:a.plain<;>rw[hpl] at hc<;>simp only[cond_true,cond_false] at hc
  ·cases hc
  cases hc
  rw[hsz] at hp hle
  generalize hseg:seg cur.toList o 1=sg at hp
  generalize([]:List Nat)=f0 at hp
  cases hp with
  | @one _ u _ cs' _ h1 h2 h3 h4=>
   refine⟨u,trivial, ?_,h3⟩
   have hu:cur[o]?=some u:=by
    have h9:(seg cur.toList o 1)[0]?=some u:=by rw[hseg];rfl
    simp only[seg,List.getElem?_take,List.getElem?_drop] at h9
    simpa using h9
   simp only[show(!zB 0 0)=false from rfl,zL,if_false,run_load,Hc hg,hu]
  | arr=>simp[AV.plain] at hpl
  | nl=>simp[AV.plain] at hpl
  | rw=>simp[AV.plain] at hpl
 ·rename_i e
  rw[e]
  cases hc
  simp only[show(!zB 1 0)=true from rfl,if_true,Sem.run_bind,hT.size,Result.andThen_ok,G5 hg o ti.sz hle,Sem.run_pure]
  exact⟨_,trivial,rfl,.agg hp hn⟩
 ·rename_i n K l e
  rw[e]
  cases hc
  simp only[show(!zB 2 0)=true from rfl,if_true,Sem.run_bind,hT.size,Result.andThen_ok,G5 hg o ti.sz hle,Sem.run_pure]
  obtain⟨h1,h2⟩:=Lw hp
  exact⟨_,trivial,rfl,.arr h1 h2⟩
 ·cases hc
theorem Rz:∀{ps:List AV} {n o k:Nat},look o (F2 n ps)=some k->n<=o/\∃r,Aw (o-n) ps=some (.sl k::r)
 | [],n,o,k,h=>by simp[F2,look] at h
 | p::r,n,o,k,h=>by
  have far:∀{z:Nat},p.size=z->1<=z->look o (F2 (n+z) r)=some k->n<=o/\∃r',Aw (o-n) (p::r)=some (.sl k::r'):=by
   intro z hz h1 h2
   obtain⟨h3,r',h4⟩:=Rz h2
   refine⟨by omega,r', ?_⟩
   have e0:zB (o-n) 0=false:=A7.2 (by omega)
   have e1:zN p.size (o-n)=true:=Nat.ble_eq_true_of_le (by omega)
   simp only[Aw,e0,cond_false,e1,cond_true]
   rw[show o-n-p.size=o-(n+z) by omega]
   exact h4
  have gen:(bif zN 1 p.size then F2 (n+p.size) r else [])=F2 n (p::r)->n<=o/\∃r',Aw (o-n) (p::r)=some (.sl k::r'):=by
   intro e
   rw[<-e] at h
   cases e1:zN 1 p.size<;>rw[e1] at h
   ·simp[look] at h
   ·exact far rfl (zH e1) h
  cases p with
  | sl k'=>
   simp only[F2,look] at h
   cases e:zB n o<;>rw[e] at h
   ·exact far rfl (zG 1) h
   ·simp only[cond_true,zC] at h
    have:=z9 e
    subst this h
    exact⟨zG _,r,by simp[Aw]⟩
  | _=>exact gen rfl
theorem Ahm{b o:Nat}(h:b<4294967296):U4 (Fj b o)=some (b,o):=by
 have e:zB ((4294967296*(o+1)+b)/4294967296) 0=false:=A7.2 (by omega)
 simp only[U4,Fj,e,cond_false,zC,zM]
 omega
theorem T8{s:St}{n b o:Nat}{ps:List AV}{rd:List Nat}(h:loadAt s n (.pb b o [])=some (ps,rd)):rd=[b]/\∃ro v qs r,look b s.st=some (.cell ro v qs)/\Aw o qs=some r/\Bp n r=some ps:=by
 simp only[loadAt,yE] at h
 revert h
 split
 ·rename_i ro v qs hl
  split
  ·rename_i q hq
   simp only[nav] at hq
   cases e:Aw o qs with
   | none=>rw[e] at hq;cases hq
   | some r=>
    rw[e] at hq
    intro h
    obtain⟨h1,h2,h3⟩:=E8 h
    refine⟨h3,ro,v,qs,r,hl,e, ?_⟩
    rw[h2];exact hq
  ·intro h;cases h
 ·intro h;cases h
theorem Yp{n k:Nat}{r:List AV}(h:Bp n r=some [.sl k]):n=1:=by
 cases r with
 | nil=>simp only[Bp] at h;cases e:zB n 0<;>rw[e] at h<;>simp at h
 | cons p r=>
  simp only[Bp] at h
  cases e:zB n 0<;>rw[e] at h<;>simp only[cond_true,cond_false] at h
  ·cases e1:zN p.size n<;>rw[e1] at h<;>simp only[cond_true,cond_false] at h
   ·cases h
   ·split at h
    ·rename_i x hx
     simp only[zC,List.cons.injEq] at h
     obtain⟨rfl,rfl⟩:=h
     have hn:n-1=0:=by
      cases r with
      | nil=>simp only[AV.size,Bp] at hx;cases e2:zB (n-1) 0<;>rw[e2] at hx<;>simp at hx;exact z9 e2
      | cons q r=>
       have hs1:(AV.sl k).size=1:=rfl
       rw[hs1] at hx
       simp only[Bp] at hx
       cases e2:zB (n-1) 0<;>rw[e2] at hx<;>simp only[cond_true,cond_false] at hx
       ·cases e3:zN q.size (n-1)<;>rw[e3] at hx<;>simp only[cond_true,cond_false] at hx
        ·cases hx
        ·split at hx<;>cases hx
       ·exact z9 e2
     have:=A7.1 e
     omega
    ·cases h
  ·cases h
theorem Ak0{s s':St}{n cls:Nat}{a v:AV}{ps:List AV}{rd:List Nat}(h2:loadAt s n a=some (ps,rd))(h3:Rv cls ps=some v)(hrd:∀b∈U5 s a v rd,look b s'.st=look b s.st)
  (hpt:∀c∈U5 s a v rd,∀b o,U4 c=some (b,o)->slAt o (look b s'.st)=slAt o (look b s.st)):∃ps' rd',loadAt s' n a=some (ps',rd')/\Rv cls ps'=some v/\U5 s' a v rd'=U5 s a v rd:=by
 by_cases hx:∃b o k,a=.pb b o []/\v=.sl k/\slAt o (look b s.st)=some k/\Nat.blt b 4294967296=true
 ·obtain⟨b,o,k,rfl,rfl,h4,h5⟩:=hx
  have e:U5 s (.pb b o []) (.sl k) rd=[Fj b o]:=by simp[U5,h4,h5]
  rw[e] at hpt⊢
  have hb:b<4294967296:=by rw[Nat.blt_eq] at h5;exact h5
  have h6:=hpt _ (by simp) b o (Ahm hb)
  rw[h4] at h6
  obtain⟨rfl,ro,v0,qs,r,k1,k2,k3⟩:=T8 h2
  have hps:ps=[.sl k]/\cls=0:=by
   unfold Rv at h3
   split at h3
   ·rename_i a'
    cases hp:a'.plain<;>rw[hp] at h3<;>simp at h3
    exact⟨by rw[h3],rfl⟩
   ·cases h3
   ·cases h3
   ·cases h3
  obtain⟨rfl,rfl⟩:=hps
  have hn:=Yp k3
  subst hn
  have h7:∃ro v ps2,look b s'.st=some (.cell ro v ps2)/\look o (F2 0 ps2)=some k:=by
   revert h6
   unfold slAt
   split
   ·rename_i ro v ps2 hl
    intro h
    exact⟨ro,v,ps2,hl,h⟩
   ·intro h;cases h
  obtain⟨ro',v',ps2,k4,k5⟩:=h7
  obtain⟨_,r',k6⟩:=Rz k5
  rw[Nat.sub_zero] at k6
  refine⟨[.sl k],[b], ?_,rfl,by simp[U5,h6,h5]⟩
  have:Bp 1 (AV.sl k::r')=some [.sl k]:=by
   cases r'<;>rfl
  simp only[loadAt,k4,yE,nav,k6,this,K9,C6,O4,zS,cond_true]
 ·have e:∀s1:St,(∀b o,a=.pb b o []->slAt o (look b s1.st)=slAt o (look b s.st))->U5 s1 a v rd=rd:=by
   intro s1 h
   unfold U5
   split
   ·rename_i b o k
    rw[h b o rfl]
    split
    ·rename_i k' hk
     cases e2:zB k' k&&Nat.blt b 4294967296
     ·rfl
     ·exfalso
      simp only[zA] at e2
      have:=z9 e2.1
      subst this
      exact hx ⟨b,o,k',rfl,rfl,hk,e2.2⟩
    ·rfl
   ·rfl
  have e0:=e s λ _ _ _=>rfl
  rw[e0] at hrd⊢
  refine⟨ps,rd,Ac9 h2 hrd,h3,e s' ?_⟩
  rintro b o rfl
  obtain⟨rfl,_⟩:=T8 h2
  rw[hrd b (by simp)]
theorem Ao5{P:Program}{c:Cfg}(hC:Bi P c=true){s:St}{o:Oper}{nb:Nat}{cont:Cj R}{r:R}{t:Nat}{a:Operand}(hop:o.op=.load t a)(h:As c s o nb cont=some r):
  Res P c s o nb cont r λ s' k=>As c s' o nb k:=by
 simp only[As,hop] at h
 cases h1:tyI c t with
 | none=>rw[h1] at h;cases h
 | some ti=>
  rw[h1] at h
  simp only at h
  cases h2:loadAt s ti.sz (ev s a) with
  | none=>rw[h2] at h;cases h
  | some x=>
   obtain⟨ps,rd⟩:=x
   rw[h2] at h
   simp only at h
   cases h3:Rv ti.cls ps with
   | none=>rw[h3] at h;cases h
   | some v=>
    rw[h3] at h
    refine⟨v,[],_,h,Bz ?_, ?_,trivial⟩
    ·intro E X ac hs hR hT
     subst hs
     obtain⟨ad,val,e1,e2,e3⟩:=(We hR (Bj hT a) h2).var (Bs hC h1) h3
     refine⟨val, ?_,e3⟩
     simp only[execOp,hop,Instr.loadAt,e1,Instr.sureAddr,Sem.run_bind,Sem.run_pure,Result.andThen_ok,e2]
    ·intro s' ha R' k
     simp only[As,hop,h1]
     rw[ha.ev a (by simp[hop,Op.operands])]
     obtain⟨ps',rd',k1,k2,k3⟩:=Ak0 h2 h3 ha.rd ha.pt
     rw[k1]
     simp only[k2,k3]
end Go.Ev
namespace Go.Ev
variable{R:Type}{E:Env}{X:Cx}{P:Program}{t:Nat}{ti:TyI}{w:World}
theorem Db.slice(h:Db P t ti)(hs:Fa ti=true):P.underlying t=some (.slice ti.elem):=by
 obtain⟨d,h1,h2⟩:=h.d
 have hc:ti.cls=0/\((∃K,ti.zero=[.nz K])\/ti.zero=[.nils]):=by
  unfold Fa at hs
  split at hs
  ·rename_i K e1 e2;exact⟨e1,.inl ⟨K,e2⟩⟩
  ·rename_i e1 e2;exact⟨e1,.inr e2⟩
  ·cases hs
 cases d with
 | slice e=>
  simp only[Dy,zA] at h2
  rw[h1,z9 h2.1.2]
 | _=>
  exfalso
  rcases hc with⟨hc,⟨K,hz⟩|hz⟩<;>simp[Dy,hc,hz,Hy,Hj,Jq] at h2
theorem Db.array(h:Db P t ti)(hs:ti.cls=2):P.underlying t=some (.array ti.alen ti.elem):=by
 obtain⟨d,h1,h2⟩:=h.d
 cases d with
 | array n e=>
  simp only[Dy,zA] at h2
  rw[h1,z9 h2.1.2,z9 h2.2]
 | _=>
  exfalso
  simp[Dy,hs] at h2
theorem Db.string(h:Db P t ti)(hs:Hj ti=true):P.underlying t=some .string:=by
 obtain⟨d,h1,h2⟩:=h.d
 have hc:ti.cls=0/\(∃s,ti.zero=[.str s]):=by
  unfold Hj at hs
  split at hs
  ·rename_i s e1 e2;exact⟨e1,s,e2⟩
  ·cases hs
 obtain⟨hc,s,hz⟩:=hc
 cases d with
 | string=>exact h1
 | _=>
  exfalso
  simp[Dy,hc,hz,Hy,Fa,Jq] at h2
theorem Db.int(h:Db P t ti){k:IntKind}(hs:Hy ti=some k):P.underlying t=some (.int k):=by
 obtain⟨d,h1,h2⟩:=h.d
 have hc:ti.cls=0/\(∃n,ti.zero=[.int k n]):=by
  unfold Hy at hs
  split at hs
  ·rename_i k' n e1 e2;cases hs;exact⟨e1,n,e2⟩
  ·cases hs
 obtain⟨hc,s,hz⟩:=hc
 cases d with
 | int k'=>
  simp only[Dy,hs,zA] at h2
  rw[h1,Eh h2.2]
 | _=>
  exfalso
  simp[Dy,hc,hz,Hj,Fa,Jq] at h2
theorem Db.notInt(h:Db P t ti)(hs:Hy ti=none):∃d,P.underlying t=some d/\∀k,d≠.int k:=by
 obtain⟨d,h1,h2⟩:=h.d
 refine⟨d,h1,λ k e=> ?_⟩
 subst e
 simp[Dy,hs] at h2
theorem Db.bool(h:Db P t ti)(h0:ti.cls=0){b:Bool}(hs:ti.zero=[.bool b]):P.underlying t=some .bool:=by
 obtain⟨d,h1,h2⟩:=h.d
 cases d with
 | bool=>exact h1
 | _=>
  exfalso
  simp[Dy,h0,hs,Hj,Fa,Jq,Hy] at h2
theorem Db.map(h:Db P t ti)(hs:Jq ti=true):P.underlying t=some (.map ti.alen ti.elem):=by
 obtain⟨d,h1,h2⟩:=h.d
 have hc:ti.cls=0/\ti.zero=[.nilm]:=by
  unfold Jq at hs
  split at hs
  ·rename_i e1 e2;exact⟨e1,e2⟩
  ·cases hs
 obtain⟨hc,hz⟩:=hc
 cases d with
 | map k e=>
  simp only[Dy,zA] at h2
  rw[h1,z9 h2.2.1,z9 h2.2.2]
 | _=>
  exfalso
  simp[Dy,hc,hz,Hy,Fa,Hj] at h2
theorem Yc:∀{fs:List Field} {offs:List Nat} {o i off sz:Nat},F0 P sz fs offs o=true->offs[i]?=some off->
  ∃fd j,fs[i]?=some fd/\fd.offset=off/\P.info? fd.type=some j/\1<=j.size/\j.size=J0 sz offs i/\off+j.size<=sz
 | [],[],_,_,_,_,_,h=>by simp at h
 | [],_::_,_,_,_,_,h,_=>by simp[F0] at h
 | _::_,[],_,_,_,_,h,_=>by simp[F0] at h
 | f::fs,p::ps,o,i,off,sz,h,hi=>by
  simp only[F0,zA] at h
  obtain⟨⟨h1,h2⟩,h3⟩:=h
  have e1:=z9 h1
  have e2:=z9 h2
  split at h3
  ·rename_i j hj
   simp only[zA] at h3
   have e3:=zH h3.1
   have ub:∀{fs:List Field} {ps:List Nat} {o:Nat},F0 P sz fs ps o=true->o<=sz/\ps.head?.getD sz=o:=by
    intro fs
    induction fs with
    | nil=>intro ps o h;cases ps<;>simp[F0] at h;subst h;exact⟨zG _,rfl⟩
    | cons f fs ih=>
     intro ps o h
     cases ps with
     | nil=>simp[F0] at h
     | cons p ps=>
      simp only[F0,zA] at h
      obtain⟨⟨h1,h2⟩,h3⟩:=h
      split at h3
      ·simp only[zA] at h3
       have:=(ih h3.2).1
       exact⟨by omega,by simpa using z9 h2⟩
      ·cases h3
   obtain⟨u1,u2⟩:=ub h3.2
   cases i with
   | zero=>
    simp only[List.getElem?_cons_zero,zC] at hi
    subst hi
    refine⟨f,j,rfl,e1.trans e2.symm,hj,e3, ?_,by omega⟩
    cases ps with
    | nil=>simp only[J0];simp at u2;omega
    | cons q ps=>simp only[J0];simp at u2;omega
   | succ i=>
    simp only[List.getElem?_cons_succ] at hi
    obtain⟨fd,j',k1,k2,k3,k4,k5,k6⟩:=Yc h3.2 hi
    refine⟨fd,j',by simpa using k1,k2,k3,k4, ?_,k6⟩
    rw[k5]
    cases ps with
    | nil=>simp at hi
    | cons q ps=>simp[J0]
  ·cases h3
theorem Db.struct(h:Db P t ti)(hc:ti.cls=1):∃fs,P.underlying t=some (.struct fs)/\F0 P ti.sz fs.toList ti.offs 0=true:=by
 obtain⟨d,h1,h2⟩:=h.d
 cases d with
 | struct fs=>
  simp only[Dy,zA] at h2
  exact⟨fs,h1,h2.2⟩
 | _=>
  exfalso
  simp[Dy,hc] at h2
theorem Km:∀{m:Option Nat} {p:G9} {sz n i o:Nat},PIn m p->(m=none\/p≠[])->i<n->PIn m (p++[(sz,n,i,o)])
 | m,[],_,_,_,_,_,hm,hi=>by
  rcases hm with hm|hm
  ·subst hm;exact⟨by simpa using hi,by simp[PIn]⟩
  ·exact(hm rfl).elim
 | m,(a,b,c,d)::p,_,_,_,_,h,_,hi=>⟨h.1,Km h.2 (.inl rfl) hi⟩
theorem Oh:∀{m:Option Nat} {p:G9} {sz n i o o':Nat},PIn m (p++[(sz,n,i,o)])->PIn m (p++[(sz,n,i,o')])
 | m,[],_,_,_,_,_,h=>h
 | m,(a,b,c,d)::p,_,_,_,_,_,h=>⟨h.1,Oh h.2⟩
theorem Agl{a a':AV}{av:Value}{o:Nat}(hv:VRel X a av)(h:Jy a o=some a'):∃g x,av=.pointer (some ⟨g,x,none⟩)/\VRel X a' (.pointer (some ⟨g,x+o,none⟩)):=by
 cases hv with
 | @pb b x p cb g og h1 h2 h3 h4=>
  cases p with
  | nil=>
   simp only[Jy,zC] at h
   subst h
   refine⟨g,_,rfl, ?_⟩
   have:=VRel.pb (X:=X) (o:=x+o) h1 h2 h3 h4
   simp only[Bd] at this⊢
   rwa[show og+(x+0)+o=og+(x+o+0) by omega]
  | cons y p=>
   obtain⟨sz,n,i,f⟩:=y
   simp only[Jy,zC] at h
   subst h
   refine⟨g,_,rfl, ?_⟩
   rw[zF] at h3
   have:=VRel.pb (X:=X) (o:=x) (p:=(sz,n,i,f+o)::p) h1 h2 (by rw[zF];exact Oh h3) (.inr (by simp))
   simp only[Bd] at this⊢
   rwa[show og+(x+(i*sz+f+Bd p))+o=og+(x+(i*sz+(f+o)+Bd p)) by omega]
 | @pn b v i f K l p g og h1 h2 h3 h4=>
  cases p with
  | nil=>cases h
  | cons y p=>
   obtain⟨sz,n,j,f'⟩:=y
   simp only[Jy,zC] at h
   subst h
   refine⟨g,_,rfl, ?_⟩
   rw[zF] at h2
   have:=VRel.pn (X:=X) (p:=(sz,n,j,f'+o)::p) (by simp) (by rw[zF];exact Oh h2) h3 h4
   simp only[Bd] at this⊢
   rwa[show og+(j*sz+f'+Bd p)+o=og+(j*sz+(f'+o)+Bd p) by omega]
 | @po q K l p g og h1 h2 h3 h4=>
  cases p with
  | nil=>cases h
  | cons y p=>
   obtain⟨sz,n,j,f'⟩:=y
   simp only[Jy,zC] at h
   subst h
   refine⟨g,_,rfl, ?_⟩
   rw[zF] at h2
   have:=VRel.po (X:=X) (p:=(sz,n,j,f'+o)::p) (by simp) (by rw[zF];exact Oh h2) h3 h4
   simp only[Bd] at this⊢
   rwa[show og+(j*sz+f'+Bd p)+o=og+(j*sz+(f'+o)+Bd p) by omega]
 | @pr q ps x p g og cur ty fr n h1 h2 h3 h4 h5 h6 h7=>
  cases p with
  | nil=>
   simp only[Jy,zC] at h
   subst h
   refine⟨g,_,rfl, ?_⟩
   have:=VRel.pr (X:=X) (o:=x+o) h1 h2 h3 h4 h5 h6 h7
   simp only[Bd] at this⊢
   rwa[show og+(x+0)+o=og+(x+o+0) by omega]
  | cons y p=>
   obtain⟨sz,m,i,f⟩:=y
   simp only[Jy,zC] at h
   subst h
   refine⟨g,_,rfl, ?_⟩
   rw[zF] at h7
   have:=VRel.pr (X:=X) (o:=x) (p:=(sz,m,i,f+o)::p) h1 h2 h3 h4 h5 h6 (by rw[zF];exact Oh h7)
   simp only[Bd] at this⊢
   rwa[show og+(x+(i*sz+f+Bd p))+o=og+(x+(i*sz+(f+o)+Bd p)) by omega]
 | _=>cases h
theorem Aig{a a':AV}{av:Value}{sz n i:Nat}(hv:VRel X a av)(hi:i<n)(h:Vj a sz n i=some a'):∃g x,av=.pointer (some ⟨g,x,none⟩)/\VRel X a' (.pointer (some ⟨g,x+i*sz,none⟩)):=by
 cases hv with
 | @pb b x p cb g og h1 h2 h3 h4=>
  simp only[Vj,zC] at h
  subst h
  refine⟨g,_,rfl, ?_⟩
  have:=VRel.pb (X:=X) (o:=x) (p:=(sz,n,i,0)::p) h1 h2 (by rw[zF];exact Km h3 (h4.imp id (by simp)) hi) (.inr (by simp))
  simp only[Bd] at this⊢
  rwa[show og+(x+Bd p)+i*sz=og+(x+(i*sz+0+Bd p)) by omega]
 | @pn b v i' f K l p g og h1 h2 h3 h4=>
  simp only[Vj,zC] at h
  subst h
  refine⟨g,_,rfl, ?_⟩
  have:=VRel.pn (X:=X) (p:=(sz,n,i,0)::p) (by simp) (by rw[zF];exact Km h2 (.inr (by simpa using h1)) hi) h3 h4
  simp only[Bd] at this⊢
  rwa[show og+Bd p+i*sz=og+(i*sz+0+Bd p) by omega]
 | @po q K l p g og h1 h2 h3 h4=>
  simp only[Vj,zC] at h
  subst h
  refine⟨g,_,rfl, ?_⟩
  have:=VRel.po (X:=X) (p:=(sz,n,i,0)::p) (by simp) (by rw[zF];exact Km h2 (.inr (by simpa using h1)) hi) h3 h4
  simp only[Bd] at this⊢
  rwa[show og+Bd p+i*sz=og+(i*sz+0+Bd p) by omega]
 | @pr q ps x p g og cur ty fr m h1 h2 h3 h4 h5 h6 h7=>
  simp only[Vj,zC] at h
  subst h
  refine⟨g,_,rfl, ?_⟩
  have:=VRel.pr (X:=X) (o:=x) (p:=(sz,n,i,0)::p) h1 h2 h3 h4 h5 h6 (by rw[zF];exact Km h7 (.inl rfl) hi)
  simp only[Bd] at this⊢
  rwa[show og+(x+Bd p)+i*sz=og+(x+(i*sz+0+Bd p)) by omega]
 | _=>cases h
theorem Xo{c:Cfg}(hC:Bi P c=true){s:St}{o:Oper}{nb:Nat}{cont:Cj R}{r:R}{x:Operand}{f:Nat}(hop:o.op=.fieldAddr t x f)(h:As c s o nb cont=some r):
  Res P c s o nb cont r λ s' k=>As c s' o nb k:=by
 simp only[As,hop] at h
 cases h1:tyI c t with
 | none=>rw[h1] at h;cases h
 | some ti=>
  rw[h1] at h
  simp only at h
  cases hb:zB ti.cls 1<;>rw[hb] at h<;>simp only[cond_true,cond_false] at h
  ·cases h
  cases h2:ti.offs[f]? with
  | none=>rw[h2] at h;cases h
  | some off=>
   rw[h2] at h
   simp only at h
   cases h3:Jy (ev s x) off with
   | none=>rw[h3] at h;cases h
   | some a=>
    rw[h3] at h
    refine⟨a,[],[],h,Bz ?_, ?_,trivial⟩
    ·intro E X ac hs hR hT
     subst hs
     obtain⟨g,y,e1,e2⟩:=Agl (Bj hT x) h3
     refine⟨_, ?_,e2⟩
     obtain⟨fs,k1,k2⟩:=(Bs hC h1).struct (z9 hb)
     obtain⟨fd,j,q1,q2,q3,q4,q5,q6⟩:=Yc k2 h2
     have q1':fs[f]?=some fd:=by simpa using q1
     have hsz:(sizeOf fd.type).run P X.w=.ok j.size X.w:=by simp[sizeOf,typeInfo,q3]
     simp only[execOp,hop,Instr.fieldAt,e1,Instr.sureAddr,fieldPlace,Sem.run_bind,Ay k1,Result.andThen_ok,q1',Sem.run_pure,hsz,Sem.run_ite,if_neg (show¬j.size=0 by omega),Cw,q2]
    ·intro s' ha R' k
     simp only[As,hop,h1,hb,cond_true,h2]
     rw[ha.ev x (by simp[hop,Op.operands]),h3]
end Go.Ev
namespace Go.Ev
variable{R:Type}{E:Env}{X:Cx}{P:Program}{t:Nat}{ti:TyI}{w:World}
theorem Ew{a:AV}{v:Value}{i:Int}(hv:VRel X a v)(h:La a=some i):∃k,v=.int k i:=by
 cases hv<;>simp only[La] at h<;>(try cases h)
 exact⟨_,rfl⟩
theorem Nj{i:Int}{n:Nat}(h:inB i n=true):0<=i/\i<(n:Int)/\i.toNat<n:=by
 simp only[inB,zA,decide_eq_true_eq] at h
 exact⟨h.1,h.2,by omega⟩
theorem Fu{e:TypeId}{sz:Nat}(hu:P.underlying t=some (.slice e))(hs:(sizeOf e).run P w=.ok sz w){k:IntKind}{i:Int}{n c:Nat}{ad:Addr}(h0:0<=i)(h1:i<(n:Int)):
  (Instr.indexAt t (.slice (some ad) n c) (.int k i)).run P w=.ok (.pointer (some (ad.add (i.toNat*sz)))) w:=by
 simp[Instr.indexAt,asIntOf,Ay hu,hs,h0,h1]
theorem Sc{e:TypeId}{sz n:Nat}(hu:P.underlying t=some (.array n e))(hs:(sizeOf e).run P w=.ok sz w){k:IntKind}{i:Int}{ad:Addr}(h0:0<=i)(h1:i<(n:Int)):
  (Instr.indexAt t (.pointer (some ad)) (.int k i)).run P w=.ok (.pointer (some (ad.add (i.toNat*sz)))) w:=by
 simp[Instr.indexAt,asIntOf,Ay hu,hs,h0,h1,Instr.sureAddr]
theorem VRel.pbAt{b o:Nat}{p:G9}{cb:CB}{g og x:Nat}(h1:X.cm b=some cb)(h2:cb.base=some (g,og))(h3:PIn cb.rowN p.reverse)(h4:cb.rowN=none\/p≠[])(hx:x=og+(o+Bd p)):
  VRel X (.pb b o p) (.pointer (some ⟨g,x,none⟩)):=hx▸.pb h1 h2 h3 h4
theorem Vf{w:World}{sz n:Nat}{Row:List Value->List Nat->Prop}{A:Option Addr}{c:Nat}{fp:List Nat}(h:Gc w sz n Row (.slice A n c) fp):(n=0/\c=0)\/∃g og,A=some ⟨g,og,none⟩:=by
 obtain⟨A',c',e,h⟩:=h
 cases e
 rcases h with⟨h1,h2,_⟩|⟨g,o,_,_,h1,_⟩
 ·exact .inl ⟨h1,h2⟩
 ·exact .inr ⟨g,o,h1⟩
theorem Atz{c:Cfg}(hC:Bi P c=true){s:St}{x i:AV}{cont:AV->List Nat->Option R}{r:R}(h:Xu c s t x i cont=some r):
  ∃v rd,cont v rd=some r/\
   (∀E X xv iv,X.s=s->Rel E X->VRel X x xv->VRel X i iv->∃val,(Instr.indexAt t xv iv).run P X.w=.ok val X.w/\VRel X v val)/\
   (∀s',(∀b∈rd,look b s'.st=look b s.st)->∀(R':Type) (k:AV->List Nat->Option R'),Xu c s' t x i k=k v rd):=by
 unfold Xu at h
 split at h
 case h_2=>cases h
 rename_i i0 ti hi ht
 have hT:=Bs hC ht
 split at h
 case h_2=>cases h
 rename_i te hte
 have hTe:=Bs hC hte
 split at h
 ·rename_i b
  split at h
  case h_2=>cases h
  rename_i K l hrow
  obtain⟨h1,h⟩:=An h
  obtain⟨h2,h⟩:=An h
  simp only[zA] at h1
  obtain⟨j0,j1,j2⟩:=Nj h2
  refine⟨_,_,h, ?_, ?_⟩
  ·intro E X xv iv hs hR hx hiv
   subst hs
   obtain⟨k,rfl⟩:=Ew hiv hi
   obtain⟨ro,ver,K',l',hl,e⟩:=B6 hrow
   cases e
   obtain⟨A,cc,fp,q1,q2,q3,q4⟩:=Cd hR hl
   cases hx with
   | sl hc=>
    rw[q1] at hc
    cases hc
    rcases Vf q2 with⟨z1,_⟩|⟨g,og,rfl⟩
    ·omega
    refine⟨_,Fu (hT.slice h1.1) hTe.size j0 j1, ?_⟩
    rw[Cw]
    refine .pbAt q1 rfl (by simp[PIn,CB.rowN];exact j2) (.inr (by simp)) ?_
    simp only[Bd,z9 h1.2]
    omega
  ·intro s' hs R' k
   simp only[Xu,hi,ht,hte,Cc (hs b (by simp)),hrow,h1.1,h1.2,h2,zS,A1]
 ·rename_i b o n
  split at h
  case h_2=>cases h
  rename_i K l hrow
  obtain⟨h1,h⟩:=An h
  obtain⟨h2,h⟩:=An h
  simp only[zA] at h1
  obtain⟨j0,j1,j2⟩:=Nj h2
  refine⟨_,_,h, ?_, ?_⟩
  ·intro E X xv iv hs hR hx hiv
   subst hs
   obtain⟨k,rfl⟩:=Ew hiv hi
   obtain⟨ro,ver,K',l',hl,e⟩:=B6 hrow
   cases e
   obtain⟨A,cc,fp,q1,q2,q3,q4⟩:=Cd hR hl
   cases hx with
   | ss0=>omega
   | ss hc u1 u2 u3=>
    rw[q1] at hc
    cases hc
    refine⟨_,Fu (hT.slice h1.1) hTe.size j0 j1, ?_⟩
    rw[Cw]
    refine .pbAt q1 rfl (by simp[PIn,CB.rowN];omega) (.inr (by simp)) ?_
    simp only[Bd,z9 h1.2,yM]
    omega
  ·intro s' hs R' k
   simp only[Xu,hi,ht,hte,Cc (hs b (by simp)),hrow,h1.1,h1.2,h2,zS,A1]
 ·rename_i p K l
  obtain⟨h1,h⟩:=An h
  obtain⟨h2,h⟩:=An h
  simp only[zA] at h1
  obtain⟨j0,j1,j2⟩:=Nj h2
  refine⟨_,_,h, ?_, ?_⟩
  ·intro E X xv iv hs hR hx hiv
   subst hs
   obtain⟨k,rfl⟩:=Ew hiv hi
   cases hx with
   | @ro _ _ _ A cc u1 u2 u3 u4=>
    rcases u2 with u2|⟨g,og,rfl⟩
    ·omega
    refine⟨_,Fu (hT.slice h1.1) hTe.size j0 j1, ?_⟩
    rw[Cw]
    have:=VRel.po (X:=X) (q:=p) (K:=K) (l:=l) (p:=[(K.size,0,i0.toNat,0)]) (g:=g) (og:=og) (by simp) (by simp[PIn];exact j2) u3 λ hv=>by
     obtain⟨A',c',e,hc,hA⟩:=u4 hv
     cases e
     rcases hA with hA|⟨g',o',cur,ty,fr,e1,e2,e3,e4,e5⟩
     ·omega
     ·cases e1;exact⟨cur,ty,fr,e2,e3,e4,e5⟩
    simp only[Bd] at this
    rwa[<-z9 h1.2,show og+i0.toNat*K.size=og+(i0.toNat*K.size+0+0) by omega]
  ·intro s' hs R' k
   simp only[Xu,hi,ht,hte,h1.1,h1.2,h2,zS,A1]
 ·rename_i b v j f K l
  obtain⟨h1,h⟩:=An h
  obtain⟨h2,h⟩:=An h
  simp only[zA] at h1
  obtain⟨j0,j1,j2⟩:=Nj h2
  refine⟨_,_,h, ?_, ?_⟩
  ·intro E X xv iv hs hR hx hiv
   subst hs
   obtain⟨k,rfl⟩:=Ew hiv hi
   cases hx with
   | @vw _ _ _ _ _ _ A cc u1 u2 u3 u4=>
    rcases u2 with u2|⟨g,og,rfl⟩
    ·omega
    refine⟨_,Fu (hT.slice h1.1) hTe.size j0 j1, ?_⟩
    rw[Cw]
    have:=VRel.pn (X:=X) (b:=b) (v0:=v) (i:=j) (f:=f) (K:=K) (l:=l) (p:=[(K.size,0,i0.toNat,0)]) (g:=g) (og:=og) (by simp) (by simp[PIn];exact j2) u3 λ hv=>⟨_,_,u4 hv⟩
    simp only[Bd] at this
    rwa[<-z9 h1.2,show og+i0.toNat*K.size=og+(i0.toNat*K.size+0+0) by omega]
  ·intro s' hs R' k
   simp only[Xu,hi,ht,hte,h1.1,h1.2,h2,zS,A1]
 ·rename_i x0 n1 n2 n3 n4
  obtain⟨h1,h⟩:=An h
  obtain⟨h3,h⟩:=An h
  obtain⟨h2,h⟩:=An h
  obtain⟨j0,j1,j2⟩:=Nj h2
  split at h
  case h_2=>cases h
  rename_i a' ha'
  refine⟨_,_,h, ?_, ?_⟩
  ·intro E X xv iv hs hR hx hiv
   subst hs
   obtain⟨k,rfl⟩:=Ew hiv hi
   obtain⟨g,y,rfl,hv⟩:=Aig hx j2 ha'
   refine⟨_,Sc (hT.array (z9 h1)) hTe.size j0 j1, ?_⟩
   rw[Cw]
   exact hv
  ·intro s' hs R' k
   unfold Xu
   simp only[hi,ht,hte]
   cases x<;>first
    | exact(n1 _ rfl).elim
    | exact(n2 _ _ _ rfl).elim
    | exact(n3 _ _ _ rfl).elim
    | exact(n4 _ _ _ _ _ _ rfl).elim
    | simp only[h1,h3,h2,A1,ha']
theorem Xw{c:Cfg}(hC:Bi P c=true){s:St}{o:Oper}{nb:Nat}{cont:Cj R}{r:R}{x i:Operand}(hop:o.op=.indexAddr t x i)(h:As c s o nb cont=some r):
  Res P c s o nb cont r λ s' k=>As c s' o nb k:=by
 simp only[As,hop] at h
 obtain⟨v,rd,h1,h2,h3⟩:=Atz hC h
 refine⟨v,[],rd,h1,Bz ?_, ?_,trivial⟩
 ·intro E X ac hs hR hT
  obtain⟨val,e1,e2⟩:=h2 E X _ _ hs hR (hs▸Bj hT x) (hs▸Bj hT i)
  exact⟨val,by simp only[execOp,hop,Sem.run_bind,e1,Result.andThen_ok,Sem.run_pure],e2⟩
 ·intro s' ha R' k
  simp only[As,hop]
  rw[ha.ev x (by simp[hop,Op.operands]),ha.ev i (by simp[hop,Op.operands])]
  exact h3 s' ha.rd R' _
end Go.Ev
namespace Go.Ev
variable{R:Type}{E:Env}{X:Cx}{P:Program}{t:Nat}{ti:TyI}{w:World}
theorem Ai1{t:List UInt8}{k:Nat}(h:k<t.length):(⟨⟨t⟩⟩:ByteArray)[k]?=some (t.getD k 0):=by
 have h1:k<(⟨⟨t⟩⟩:ByteArray).size:=h
 rw[getElem?_pos (⟨⟨t⟩⟩:ByteArray) k h1]
 congr 1
 show t[k]=_
 simp[List.getD_eq_getElem?_getD,h]
theorem Akt{c:Cfg}(hC:Bi P c=true){s:St}{o:Oper}{nb:Nat}{cont:Cj R}{r:R}{x i:Operand}(hop:o.op=.index t x i)(h:As c s o nb cont=some r):
  Res P c s o nb cont r λ s' k=>As c s' o nb k:=by
 simp only[As,hop] at h
 cases h1:tyI c t with
 | none=>rw[h1] at h;cases h
 | some ti=>
  rw[h1] at h
  simp only at h
  have hT:=Bs hC h1
  split at h
  ·rename_i str i0 hx hi
   obtain⟨k1,h⟩:=An h
   obtain⟨k2,h⟩:=An h
   obtain⟨j0,j1,j2⟩:=Nj k2
   refine⟨_,[],[],h,Bz ?_, ?_,trivial⟩
   ·intro E X ac hs hR hT'
    subst hs
    have hxv:=Bj hT' x
    rw[hx] at hxv
    obtain⟨k,hk⟩:=Ew (Bj hT' i) hi
    cases hv:ac.eval x<;>rw[hv] at hxv<;>cases hxv
    refine⟨_, ?_,.int _ _⟩
    simp only[execOp,hop,hv,hk,Instr.index,asIntOf,Sem.run_bind,Sem.run_pure,Result.andThen_ok,Ay (hT.string k1),if_pos j0,Ai1 j2,Ao]
   ·intro s' ha R' k
    simp only[As,hop,h1]
    rw[ha.ev x (by simp[hop,Op.operands]),ha.ev i (by simp[hop,Op.operands]),hx,hi]
    simp only[k1,k2,A1]
  ·rename_i n K l i0 hx hi
   split at h
   ·rename_i te a hte hpt
    obtain⟨k1,h⟩:=An h
    obtain⟨k2,h⟩:=An h
    obtain⟨j0,j1,j2⟩:=Nj k2
    have k1':=k1
    simp only[zA] at k1'
    obtain⟨⟨⟨⟨⟨q1,q2⟩,q3⟩,q4⟩,q5⟩,q6⟩:=k1'
    refine⟨_,[],[],h,Bz ?_, ?_,trivial⟩
    ·intro E X ac hs hR hT'
     subst hs
     have hxv:=Bj hT' x
     rw[hx] at hxv
     obtain⟨k,hk⟩:=Ew (Bj hT' i) hi
     cases hv:ac.eval x<;>rw[hv] at hxv<;>cases hxv
     rename_i cs hrow hl
     have hi':i0.toNat<l.length:=by omega
     obtain⟨c1,c2,c3,f1,f2,f3,e1,e2,e3,e4,_⟩:=Hz (λ x c f hx=>Bw hx) i0.toNat hi' hrow
     have hp:=Do (X:=X) e4
     rw[Ki.get_eq hi'] at hpt
     rw[hpt] at hp
     have hTe:=Bs hC hte
     cases hp with
     | @one _ u _ cs' _ p1 p2 p3 p4=>
      cases p4
      refine⟨u, ?_,p3⟩
      have hu:cs.toArray[i0.toNat]?=some u:=by
       rw[z9 q1] at e3
       simp only[List.getElem?_toArray]
       rw[e1,show i0.toNat=c1.length by omega]
       simp
      simp only[execOp,hop,hv,hk,Instr.index,asIntOf,Sem.run_bind,Sem.run_pure,Result.andThen_ok,Ay (hT.array (z9 q4)),
       show(0<=i0/\i0<(ti.alen:Int))=True by rw[z9 q5];simp[j0,j1],if_true,hTe.size,part,hTe.agg,z9 q3,z9 q2]
      simp[hu]
     | arr=>simp[AV.plain] at q6
     | nl=>simp[AV.plain] at q6
     | rw=>simp[AV.plain] at q6
    ·intro s' ha R' k
     simp only[As,hop,h1]
     rw[ha.ev x (by simp[hop,Op.operands]),ha.ev i (by simp[hop,Op.operands]),hx,hi]
     simp only[hte,hpt,k1,k2,A1]
   ·cases h
  ·cases h
def Xe(X:Cx):Option AV->Option Value->Prop
 | none,none=>True
 | some a,some v=>VRel X a v
 | _,_=>False
theorem Ia{v:Value}{k:IntKind}{i:Int}{y:Nat}{code:BoundsCode}(hv:v=.int k i)(h0:0<=i)(h1:i<=(y:Int)):(Instr.sliceBound v y code).run P w=.ok i.toNat w:=by
 subst hv
 simp[Instr.sliceBound,asIntOf,h0,h1]
theorem F3{lo hi:Option AV}{len:Nat}{mk:Nat->Nat->AV}{rd:List Nat}{cont:AV->List Nat->Option R}{r:R}(h:Fc lo hi len mk rd cont=some r):
  ∃l h',l<=h'/\h'<=len/\cont (mk l h') rd=some r/\
   (∀X w b cap lv hv,Xe X lo lv->Xe X hi hv->len<=cap->(Instr.sliceBounds b len cap lv hv none).run P w=.ok (l,h',cap) w)/\
   ∀(R':Type) (mk':Nat->Nat->AV) (rd':List Nat) (k:AV->List Nat->Option R'),Fc lo hi len mk' rd' k=k (mk' l h') rd':=by
 unfold Fc at h
 split at h
 ·refine⟨0,len,by omega,by omega,h, ?_,λ _ _ _ _=>rfl⟩
  intro X w b cap lv hv h1 h2 hc
  cases lv<;>cases hv<;>simp only[Xe] at h1 h2
  simp[Instr.sliceBounds]
 ·rename_i a
  split at h
  case h_2=>cases h
  rename_i i hi
  obtain⟨k1,h⟩:=An h
  have k1':=k1
  simp only[zA,decide_eq_true_eq] at k1'
  refine⟨i.toNat,len,by omega,by omega,h, ?_,λ _ _ _ _=>by simp only[Fc,hi,k1,A1]⟩
  intro X w b cap lv hv h1 h2 hc
  cases lv<;>cases hv<;>simp only[Xe] at h1 h2
  obtain⟨k,hk⟩:=Ew h1 hi
  simp[Instr.sliceBounds,Ia (P:=P) (w:=w) (code:=.sliceB) hk k1'.1 k1'.2]
 ·rename_i a
  split at h
  case h_2=>cases h
  rename_i i hi
  obtain⟨k1,h⟩:=An h
  have k1':=k1
  simp only[zA,decide_eq_true_eq] at k1'
  refine⟨0,i.toNat,by omega,by omega,h, ?_,λ _ _ _ _=>by simp only[Fc,hi,k1,A1]⟩
  intro X w b cap lv hv h1 h2 hc
  cases lv<;>cases hv<;>simp only[Xe] at h1 h2
  obtain⟨k,hk⟩:=Ew h2 hi
  cases b<;>simp[Instr.sliceBounds,Ia (P:=P) (w:=w) (y:=cap) (code:=.sliceAcap) hk k1'.1 (by omega),Ia (P:=P) (w:=w) (y:=cap) (code:=.sliceAlen) hk k1'.1 (by omega)]
 ·rename_i a a'
  split at h
  case h_2=>cases h
  rename_i i j hi hj
  obtain⟨k1,h⟩:=An h
  obtain⟨k2,h⟩:=An h
  have k1':=k1
  have k2':=k2
  simp only[zA,decide_eq_true_eq] at k1' k2'
  refine⟨i.toNat,j.toNat,by omega,by omega,h, ?_,λ _ _ _ _=>by simp only[Fc,hi,hj,k1,k2,A1]⟩
  intro X w b cap lv hv h1 h2 hc
  cases lv<;>cases hv<;>simp only[Xe] at h1 h2
  obtain⟨k,hk⟩:=Ew h1 hi
  obtain⟨k',hk'⟩:=Ew h2 hj
  have hb:∀code,(Instr.sliceBound _ j.toNat code).run P w=.ok i.toNat w:=λ code=>Ia (P:=P) (w:=w) (y:=j.toNat) (code:=code) hk k2'.1 (by omega)
  cases b<;>simp[Instr.sliceBounds,Ia (P:=P) (w:=w) (y:=cap) (code:=.sliceAcap) hk' k1'.1 (by omega),Ia (P:=P) (w:=w) (y:=cap) (code:=.sliceAlen) hk' k1'.1 (by omega),hb]
theorem G3{e:TypeId}{sz:Nat}(hu:P.underlying t=some (.slice e))(hs:(sizeOf e).run P w=.ok sz w){A:Option Addr}{n c l h:Nat}{lv hv:Option Value}
  (hb:(Instr.sliceBounds true n c lv hv none).run P w=.ok (l,h,c) w):(Instr.sliceAt t (.slice A n c) lv hv none).run P w=.ok (.slice (if c=l then A else A.map (·.add (l*sz))) (h-l) (c-l)) w:=by
 simp[Instr.sliceAt,Instr.slice,Ay hu,hb,hs]
theorem Zb{w:World}{S Z:Nat->Prop}{K:Ki}{l:List K.den}{A:Option Addr}{c lo hi:Nat}(h:RoS w S K.size l.length (λ cs=>Cv (Rep w S Z K false) l cs []) (.slice A l.length c))(h1:lo<=hi)(h2:hi<=l.length):
  RoS w S K.size (hi-lo) (λ cs=>Cv (Rep w S Z K false) ((l.take hi).drop lo) cs []) (.slice (if c=lo then A else A.map (·.add (lo*K.size))) (hi-lo) (c-lo)):=by
 obtain⟨A',c',e,hc,h⟩:=h
 cases e
 refine⟨_,_,rfl,by omega, ?_⟩
 by_cases hz:hi-lo=0
 ·exact .inl hz
 rcases h with h|⟨g,o,cur,ty,fr,q1,q2,q3,q4,q5⟩
 ·omega
 subst q1
 rw[if_neg (by omega)]
 have hm:(hi-lo)*K.size+lo*K.size<=l.length*K.size:=by rw[<-yM];exact zI _ (by omega)
 refine .inr ⟨g,o+lo*K.size,cur,ty,fr,by simp[Cw],q2,q3,by omega, ?_⟩
 have hl:=If (λ x c f hx=>Bw hx) q5
 obtain⟨f1,f2,e1,r1,r2⟩:=Ep (λ x c f hx=>Bw hx) hi q5
 obtain⟨f3,f4,e2,r3,r4⟩:=Ep (λ x c f hx=>Bw hx) lo r1
 have e3:f1=[]:=(List.append_eq_nil_iff.1 e1.symm).1
 rw[e3] at e2
 have e4:f4=[]:=(List.append_eq_nil_iff.1 e2.symm).2
 rw[e4] at r4
 have:seg cur.toList (o+lo*K.size) ((hi-lo)*K.size)=((seg cur.toList o (l.length*K.size)).take (hi*K.size)).drop (lo*K.size):=by
  simp only[seg,yO,yA,yN]
  congr 1
  have:hi*K.size<=l.length*K.size:=zI _ h2
  rw[yG this,Nat.sub_mul]
 rw[this]
 exact r4
theorem Wt(l:List UInt8)(lo hi:Nat):(⟨⟨l⟩⟩:ByteArray).extract lo hi=⟨⟨(l.take hi).drop lo⟩⟩:=by
 have:((⟨⟨l⟩⟩:ByteArray).extract lo hi).data=(⟨(l.take hi).drop lo⟩:Array UInt8):=by
  rw[ByteArray.data_extract]
  apply yD
  simp[yA]
 cases h:(⟨⟨l⟩⟩:ByteArray).extract lo hi
 rw[h] at this
 simp only at this
 rw[this]
end Go.Ev
namespace Go.Ev
variable{R:Type}{E:Env}{X:Cx}{P:Program}{t:Nat}{ti:TyI}{w:World}
theorem Ahy{c:Cfg}(hC:Bi P c=true){s:St}{x:AV}{lo hi:Option AV}{cont:AV->List Nat->Option R}{r:R}(h:Im c s t x lo hi cont=some r):
  ∃v rd,cont v rd=some r/\
   (∀E X xv lv hv,X.s=s->Rel E X->VRel X x xv->Xe X lo lv->Xe X hi hv->∃val,(Instr.sliceAt t xv lv hv none).run P X.w=.ok val X.w/\VRel X v val)/\
   (∀s',(∀b∈rd,look b s'.st=look b s.st)->∀(R':Type) (k:AV->List Nat->Option R'),Im c s' t x lo hi k=k v rd):=by
 unfold Im at h
 cases ht:tyI c t with
 | none=>rw[ht] at h;cases h
 | some ti=>
  rw[ht] at h
  simp only at h
  have hT:=Bs hC ht
  split at h
  ·rename_i str
   obtain⟨k1,h⟩:=An h
   obtain⟨l,h',q1,q2,q3,q4,q5⟩:=F3 (P:=P) h
   refine⟨_,_,q3, ?_, ?_⟩
   ·intro E X xv lv hv hs hR hx hlo hhi
    cases hx
    refine⟨_, ?_,.str _⟩
    have:=q4 X X.w false str.length lv hv hlo hhi (zG _)
    have hsz:(⟨⟨str⟩⟩:ByteArray).size=str.length:=rfl
    simp only[Instr.sliceAt,Instr.slice,Sem.run_bind,Ay (hT.string k1),Result.andThen_ok,yT,zL,if_false,Sem.run_pure,hsz,this,Wt]
   ·intro s' hs R' k
    simp only[Im,ht,k1,A1,q5]
  ·rename_i x0 hnstr
   cases hte:tyI c ti.elem with
   | none=>rw[hte] at h;cases h
   | some te=>
    rw[hte] at h
    simp only at h
    have hTe:=Bs hC hte
    split at h
    ·obtain⟨k1,h⟩:=An h
     obtain⟨l,h',q1,q2,q3,q4,q5⟩:=F3 (P:=P) h
     refine⟨_,_,q3, ?_, ?_⟩
     ·intro E X xv lv hv hs hR hx hlo hhi
      cases hx
      have h0:h'=0:=by omega
      have h1:l=0:=by omega
      subst h0 h1
      exact⟨_,G3 (hT.slice k1) hTe.size (q4 X X.w true 0 lv hv hlo hhi (zG _)),by simpa using VRel.nils⟩
     ·intro s' hs R' k
      simp only[Im,ht,hte,k1,A1,q5]
    ·rename_i K
     obtain⟨k1,h⟩:=An h
     obtain⟨l,h',q1,q2,q3,q4,q5⟩:=F3 (P:=P) h
     refine⟨_,_,q3, ?_, ?_⟩
     ·intro E X xv lv hv hs hR hx hlo hhi
      cases hx
      have h0:h'=0:=by omega
      have h1:l=0:=by omega
      subst h0 h1
      exact⟨_,G3 (hT.slice k1) hTe.size (q4 X X.w true 0 lv hv hlo hhi (zG _)),by simpa using VRel.nz K⟩
     ·intro s' hs R' k
      simp only[Im,ht,hte,k1,A1,q5]
    ·rename_i b
     split at h
     case h_2=>cases h
     rename_i K l0 hrow
     obtain⟨k1,h⟩:=An h
     obtain⟨l,h',q1,q2,q3,q4,q5⟩:=F3 (P:=P) h
     have k1':=k1
     simp only[zA] at k1'
     refine⟨_,_,q3, ?_, ?_⟩
     ·intro E X xv lv hv hs hR hx hlo hhi
      subst hs
      obtain⟨ro,ver,K',l',hl,e⟩:=B6 hrow
      cases e
      obtain⟨A,cc,fp,u1,u2,u3,u4⟩:=Cd hR hl
      cases hx with
      | sl hc=>
       rw[u1] at hc
       cases hc
       have hcap:l0.length<=cc:=by
        obtain⟨A',c',e,hA⟩:=u2
        cases e
        rcases hA with⟨h1,h2,_⟩|⟨_,_,_,_,_,_,h3,_⟩<;>omega
       refine⟨_,G3 (hT.slice k1'.1) hTe.size (q4 X X.w true cc lv hv hlo hhi hcap), ?_⟩
       by_cases hz:cc=l
       ·rw[if_pos hz,show h'-l=0 by omega,show cc-l=0 by omega]
        exact .ss0 u1 (by omega)
       ·rw[if_neg hz]
        rcases Vf u2 with⟨z1,z2⟩|⟨g,og,rfl⟩
        ·omega
        simp only[zQ,Cw]
        rw[<-z9 k1'.2]
        exact .ss u1 (by omega) (by omega) (by omega)
     ·intro s' hs R' k
      simp only[Im,ht,hte,Cc (hs b (by simp)),hrow,k1,A1,q5]
    ·rename_i b o n
     split at h
     case h_2=>cases h
     rename_i K l0 hrow
     obtain⟨k1,h⟩:=An h
     obtain⟨l,h',q1,q2,q3,q4,q5⟩:=F3 (P:=P) h
     have k1':=k1
     simp only[zA] at k1'
     refine⟨_,_,q3, ?_, ?_⟩
     ·intro E X xv lv hv hs hR hx hlo hhi
      subst hs
      obtain⟨ro,ver,K',l',hl,e⟩:=B6 hrow
      cases e
      obtain⟨A,cc,fp,u1,u2,u3,u4⟩:=Cd hR hl
      cases hx with
      | ss0 hc ho=>
       have h0:h'=0:=by omega
       have h1:l=0:=by omega
       subst h0 h1
       refine⟨_,G3 (hT.slice k1'.1) hTe.size (q4 X X.w true 0 lv hv hlo hhi (zG _)), ?_⟩
       simpa using VRel.ss0 hc ho
      | @ss _ _ _ g og n' c0 c' sz fp' hc v1 v2 v3=>
       rw[u1] at hc
       cases hc
       refine⟨_,G3 (hT.slice k1'.1) hTe.size (q4 X X.w true c' lv hv hlo hhi v2), ?_⟩
       by_cases hz:c'=l
       ·rw[if_pos hz,show h'-l=0 by omega,show c'-l=0 by omega]
        exact .ss0 u1 (by omega)
       ·rw[if_neg hz]
        simp only[zQ,Cw]
        rw[<-z9 k1'.2]
        have:=VRel.ss (X:=X) (b:=b) (o:=o+l) (m:=h'-l) (c':=c'-l) u1 (by omega) (by omega) (by omega)
        rwa[show og+(o+l)*K.size=og+o*K.size+l*K.size by rw[yM];omega] at this
     ·intro s' hs R' k
      simp only[Im,ht,hte,Cc (hs b (by simp)),hrow,k1,A1,q5]
    ·rename_i p K l0
     obtain⟨k1,h⟩:=An h
     obtain⟨l,h',q1,q2,q3,q4,q5⟩:=F3 (P:=P) h
     have k1':=k1
     simp only[zA] at k1'
     refine⟨_,_,q3, ?_, ?_⟩
     ·intro E X xv lv hv hs hR hx hlo hhi
      cases hx with
      | @ro _ _ _ A cc u1 u2 u3 u4=>
       refine⟨_,G3 (hT.slice k1'.1) hTe.size (q4 X X.w true cc lv hv hlo hhi u1), ?_⟩
       rw[<-z9 k1'.2]
       have hlen:((l0.take h').drop l).length=h'-l:=by simp;omega
       have:=VRel.ro (X:=X) (q:=p) (K:=K) (l:=(l0.take h').drop l) (A:=if cc=l then A else A.map (·.add (l*K.size))) (c:=cc-l) (by omega)
        (by
         by_cases hz:h'-l=0
         ·exact .inl (by omega)
         ·rcases u2 with u2|⟨g,og,rfl⟩
          ·omega
          ·right;rw[if_neg (by omega)];exact⟨g,og+l*K.size,by simp[Cw]⟩) u3 (λ hv=>by rw[hlen];exact Zb (u4 hv) q1 q2)
       rwa[hlen] at this
     ·intro s' hs R' k
      simp only[Im,ht,hte,k1,A1,q5]
    ·rename_i b v i0 f K l0
     obtain⟨k1,h⟩:=An h
     obtain⟨l,h',q1,q2,q3,q4,q5⟩:=F3 (P:=P) h
     have k1':=k1
     simp only[zA] at k1'
     refine⟨_,_,q3, ?_, ?_⟩
     ·intro E X xv lv hv hs hR hx hlo hhi
      cases hx with
      | @vw _ _ _ _ _ _ A cc u1 u2 u3 u4=>
       refine⟨_,G3 (hT.slice k1'.1) hTe.size (q4 X X.w true cc lv hv hlo hhi u1), ?_⟩
       rw[<-z9 k1'.2]
       have hlen:((l0.take h').drop l).length=h'-l:=by simp;omega
       have:=VRel.ro (X:=X) (q:=.ver b v) (K:=K) (l:=(l0.take h').drop l) (A:=if cc=l then A else A.map (·.add (l*K.size))) (c:=cc-l) (by omega)
        (by
         by_cases hz:h'-l=0
         ·exact .inl (by omega)
         ·rcases u2 with u2|⟨g,og,rfl⟩
          ·omega
          ·right;rw[if_neg (by omega)];exact⟨g,og+l*K.size,by simp[Cw]⟩) u3 (λ hv=>by
         rw[hlen]
         obtain⟨cb,f',hc,how,hfp⟩:=W9 hR (u4 hv)
         obtain⟨_,_,hro⟩:=how.ro (S:=X.Sof (.ver b v)) rfl (λ g hg=>Af9 hc (hfp g hg))
         exact Zb hro q1 q2)
       rwa[hlen] at this
     ·intro s' hs R' k
      simp only[Im,ht,hte,k1,A1,q5]
    ·cases h
theorem Ad5{c:Cfg}(hC:Bi P c=true){s:St}{o:Oper}{nb:Nat}{cont:Cj R}{r:R}{x:Operand}{lo hi:Option Operand}(hop:o.op=.slice t x lo hi none)(h:As c s o nb cont=some r):
  Res P c s o nb cont r λ s' k=>As c s' o nb k:=by
 simp only[As,hop] at h
 obtain⟨v,rd,h1,h2,h3⟩:=Ahy hC h
 have oev:∀{X:Cx} {ac:Act} (_:Jj X ac) (y:Option Operand),Xe X (y.map (ev X.s)) (y.map ac.eval):=by
  intro X ac hT y
  cases y
  ·trivial
  ·exact Bj hT _
 refine⟨v,[],rd,h1,Bz ?_, ?_,trivial⟩
 ·intro E X ac hs hR hT
  obtain⟨val,e1,e2⟩:=h2 E X _ _ _ hs hR (hs▸Bj hT x) (hs▸oev hT lo) (hs▸oev hT hi)
  exact⟨val,by simp only[execOp,hop,Sem.run_bind,Option.map_none,e1,Result.andThen_ok,Sem.run_pure],e2⟩
 ·intro s' ha R' k
  simp only[As,hop]
  have hl:lo.map (ev s')=lo.map (ev s):=by cases lo<;>simp;exact ha.ev _ (by simp[hop,Op.operands])
  have hh:hi.map (ev s')=hi.map (ev s):=by cases hi<;>simp;exact ha.ev _ (by simp[hop,Op.operands])
  rw[ha.ev x (by simp[hop,Op.operands]),hl,hh]
  exact h3 s' ha.rd R' _
end Go.Ev
namespace Go.Ev
variable{R:Type}{E:Env}{X:Cx}{P:Program}{t:Nat}{ti:TyI}{w:World}
theorem Uv{c:Cfg}{t:Nat}{a:AV}{v:Value}(h:VRel X a v):VRel X (Jv c t a) v:=by
 unfold Jv
 split
 ·cases h
  split
  ·split
   ·split
    ·exact .nz _
    ·exact .nils
   ·exact .nils
  ·exact .nils
 ·generalize hvv:v=vv at h
  cases h
  split
  ·split
   ·exact .tr (by simp) rfl
   ·exact .nili
  ·exact .nili
 ·exact h
theorem Aft{c:Cfg}{s:St}{o:Oper}{nb:Nat}{cont:Cj R}{r:R}{x:Operand}(hop:o.op=.move x\/o.op=.assign x)(h:As c s o nb cont=some r):
  Res P c s o nb cont r λ s' k=>As c s' o nb k:=by
 have hE:∀(R':Type) (s':St) (k:Cj R'),As c s' o nb k=k (Jv c o.type (ev s' x)) [] []:=by
  intro R' s' k
  rcases hop with hop|hop<;>simp only[As,hop]
 rw[hE] at h
 refine⟨_,[],[],h,Bz ?_, ?_,trivial⟩
 ·intro E X ac hs hR hT
  refine⟨ac.eval x, ?_,Uv (hs▸Bj hT x)⟩
  rcases hop with hop|hop<;>simp only[execOp,hop,Sem.run_pure]
 ·intro s' ha R' k
  rw[hE,ha.ev x (by rcases hop with hop|hop<;>simp[hop,Op.operands])]
theorem Aax{c:Cfg}{s:St}{o:Oper}{nb:Nat}{cont:Cj R}{r:R}{f:Nat}{fs caps:Array Operand}(hop:o.op=.makeFunc (.func f) fs caps)(h:As c s o nb cont=some r):
  Res P c s o nb cont r λ s' k=>As c s' o nb k:=by
 simp only[As,hop] at h
 cases hb:zB fs.size 0<;>rw[hb] at h<;>simp only[cond_true,cond_false] at h
 ·cases h
 have hfs:fs= #[]:=by have:=z9 hb;simpa using this
 refine⟨_,[],[],h,Bz ?_, ?_,trivial⟩
 ·intro E X ac hs hR hT
  refine⟨.func (.func f) #[] (caps.map ac.eval),by simp[execOp,hop,Instr.makeFunc,hfs], ?_⟩
  have:∀l:List Operand,B2 X (l.map (ev s)) (l.map ac.eval):=by
   intro l
   induction l with
   | nil=>exact .nil
   | cons y l ih=>exact .cons (hs▸Bj hT y) ih
  have:=VRel.fn (f:=f) (this caps.toList)
  rwa[show(caps.toList.map ac.eval).toArray=caps.map ac.eval from by simp[<-yF]] at this
 ·intro s' ha R' k
  simp only[As,hop,hb,cond_true]
  have:caps.toList.map (ev s')=caps.toList.map (ev s):=yR λ y hy=>ha.ev y (by simp[hop,Op.operands];exact .inr (Array.mem_toList_iff.1 hy))
  rw[this]
theorem Qg{α:Type}{a:Array α}{x:α}(h:a.toList=[x]):a= #[x]:=by cases a;simp_all
theorem L9{α:Type}{a:Array α}{x y:α}(h:a.toList=[x,y]):a= #[x,y]:=by cases a;simp_all
theorem Nb{o:Oper}{cl:Call}{b:Builtin}(hop:o.op=.call cl)(hb:cl.callee=.builtin b)(ac:Act):
    execOp ac.eval o=builtin b cl.argTypes o.type (cl.args.map λ|.const _=>true|_=>false) (cl.args.map ac.eval):=by
  simp only[execOp,hop,resolve,hb]
  rfl
theorem Ao4{c:Cfg}(hC:Bi P c=true){s:St}{a:AV}{n:Nat}{rd:List Nat}(h:Mq s c t a=some (n,rd)):
  (∀E X av ty,X.s=s->Rel E X->VRel X a av->(Builtin.len_ #[t] ty #[av]).run P X.w=.ok (.int .i64 n) X.w)/\
  (∀s',(∀b∈rd,look b s'.st=look b s.st)->Mq s' c t a=some (n,rd)):=by
 unfold Mq at h
 cases ht:tyI c t with
 | none=>rw[ht] at h;cases h
 | some ti=>
  rw[ht] at h
  simp only at h
  have hT:=Bs hC ht
  have pure_:∀{b:Bool} {x:Nat×List Nat},(bif b then some x else none)=some (n,rd)->b=true/\x=(n,rd):=by
   intro b x h
   cases b
   ·cases h
   ·exact⟨rfl,yI h⟩
  cases a<;>simp only at h<;>(try cases h)
  ·rename_i str
   obtain⟨h1,h2⟩:=pure_ h
   cases h2
   refine⟨λ E X av ty hs hR hv=> ?_,λ s' _=>by simp only[Mq,ht,h1,cond_true]⟩
   cases hv
   simp[Builtin.len_,Ay (hT.string h1),goInt]
   rfl
  ·obtain⟨h1,h2⟩:=pure_ h
   cases h2
   refine⟨λ E X av ty hs hR hv=> ?_,λ s' _=>by simp only[Mq,ht,h1,cond_true]⟩
   cases hv
   simp[Builtin.len_,Ay (hT.slice h1),goInt]
  ·obtain⟨h1,h2⟩:=pure_ h
   cases h2
   refine⟨λ E X av ty hs hR hv=> ?_,λ s' _=>by simp only[Mq,ht,h1,cond_true]⟩
   cases hv
   simp[Builtin.len_,Ay (hT.slice h1),goInt]
  ·rename_i b
   split at h
   case h_2=>cases h
   rename_i K l hrow
   obtain⟨h1,h2⟩:=pure_ h
   cases h2
   refine⟨λ E X av ty hs hR hv=> ?_,λ s' hs=>by simp only[Mq,ht,Cc (hs b (by simp)),hrow,h1,cond_true]⟩
   subst hs
   obtain⟨ro,ver,K',l',hl,e⟩:=B6 hrow
   cases e
   obtain⟨A,cc,fp,u1,u2,u3,u4⟩:=Cd hR hl
   cases hv with
   | sl hc=>
    rw[u1] at hc
    cases hc
    simp[Builtin.len_,Ay (hT.slice h1),goInt]
  ·obtain⟨h1,h2⟩:=pure_ h
   cases h2
   refine⟨λ E X av ty hs hR hv=> ?_,λ s' _=>by simp only[Mq,ht,h1,cond_true]⟩
   cases hv<;>simp[Builtin.len_,Ay (hT.slice h1),goInt]
  ·obtain⟨h1,h2⟩:=pure_ h
   cases h2
   refine⟨λ E X av ty hs hR hv=> ?_,λ s' _=>by simp only[Mq,ht,h1,cond_true]⟩
   cases hv<;>simp[Builtin.len_,Ay (hT.slice h1),goInt]
  ·obtain⟨h1,h2⟩:=pure_ h
   cases h2
   refine⟨λ E X av ty hs hR hv=> ?_,λ s' _=>by simp only[Mq,ht,h1,cond_true]⟩
   cases hv<;>simp[Builtin.len_,Ay (hT.slice h1),goInt]
  ·obtain⟨h1,h2⟩:=pure_ h
   cases h2
   refine⟨λ E X av ty hs hR hv=> ?_,λ s' _=>by simp only[Mq,ht,h1,cond_true]⟩
   simp[Builtin.len_,Ay (hT.array (z9 h1)),goInt]
  ·obtain⟨h1,h2⟩:=pure_ h
   cases h2
   refine⟨λ E X av ty hs hR hv=> ?_,λ s' _=>by simp only[Mq,ht,h1,cond_true]⟩
   simp[Builtin.len_,Ay (hT.array (z9 h1)),goInt]
  ·obtain⟨h1,h2⟩:=pure_ h
   cases h2
   refine⟨λ E X av ty hs hR hv=> ?_,λ s' _=>by simp only[Mq,ht,h1,cond_true]⟩
   simp[Builtin.len_,Ay (hT.array (z9 h1)),goInt]
  ·split at h
   case h_2=>cases h
   rename_i b _ K V l hl
   obtain⟨h1,h2⟩:=pure_ h
   cases h2
   refine⟨λ E X av ty hs hR hv=> ?_,λ s' hs=>by simp only[Mq,ht,hs b (by simp),hl,h1,cond_true]⟩
   subst hs
   have hu:=hT.map h1
   cases hv with
   | mp hc=>
    obtain⟨cb,k1,k2,_⟩:=hR.blk b _ hl
    rw[hc] at k1
    cases k1
    cases k2 with
    | map m1 m2=>
     have hlen:=m2.length
     simp[Builtin.len_,Ay hu,goInt,Go.MapKept.run_getObj_map m1,hlen]
  ·obtain⟨h1,h2⟩:=pure_ h
   cases h2
   refine⟨λ E X av ty hs hR hv=> ?_,λ s' _=>by simp only[Mq,ht,h1,cond_true]⟩
   have hu:=hT.map h1
   cases hv
   simp[Builtin.len_,Ay hu,goInt]
theorem At4{c:Cfg}(hC:Bi P c=true){s:St}{o:Oper}{nb:Nat}{cont:Cj R}{r:R}{cl:Call}(hop:o.op=.call cl)(hb:cl.callee=.builtin .len)(h:As c s o nb cont=some r):
  Res P c s o nb cont r λ s' k=>As c s' o nb k:=by
 simp only[As,hop,hb] at h
 split at h
 case h_2=>cases h
 rename_i x t h1 h2
 split at h
 case h_2=>cases h
 rename_i n rd h3
 obtain⟨k1,k2⟩:=Ao4 hC h3
 refine⟨_,[],rd,h,Bz ?_, ?_,trivial⟩
 ·intro E X ac hs hR hT
  refine⟨_, ?_,.int _ _⟩
  rw[Nb hop hb,Qg h1,Qg h2]
  simp only[builtin,Sem.run_bind,yF,yQ,List.map_nil,k1 E X _ o.type hs hR (hs▸Bj hT x),Result.andThen_ok,Sem.run_pure]
 ·intro s' ha R' k
  simp only[As,hop,hb]
  rw[h1,h2]
  simp only
  rw[ha.ev x (by simp[hop,Op.operands,Call.operands,hb,Qg h1]),k2 s' ha.rd]
end Go.Ev
namespace Go.Ev
variable{R:Type}{E:Env}{X:Cx}{P:Program}{t:Nat}{ti:TyI}{w:World}
theorem W5{X:Cx}{ac:Act}(hT:Jj X ac):∀l:List Operand,B2 X (l.map (ev X.s)) (l.map ac.eval)
 | []=>.nil
 | y::l=>.cons (Bj hT y) (W5 hT l)
theorem Uc{k:IntKind}:∀{l:List AV} {mx:Bool} {a:Int} {v:AV} {vs:List Value},B2 X l vs->Pj mx k a l=some v->
  ∃n,v=.int k n/\(vs.foldlM (if mx then Builtin.max2 else Builtin.min2) (.int k a)).run P w=.ok (.int k n) w
 | [],mx,a,v,_,.nil,h=>by
  simp only[Pj,zC] at h
  exact⟨a,h.symm,by simp⟩
 | b::l,mx,a,v,_,.cons hb hl,h=>by
  cases hb<;>simp only[Pj] at h<;>(try cases h)
  rename_i k' m
  cases e:Gx k k'<;>rw[e] at h<;>simp only[cond_true,cond_false] at h
  ·cases h
  obtain⟨n,h1,h2⟩:=Uc hl h
  refine⟨n,h1, ?_⟩
  rw[<-h2]
  cases mx<;>simp[List.foldlM_cons,Builtin.max2,Builtin.min2]
  ·by_cases hlt:m<a<;>simp[hlt]
  ·by_cases hlt:a<m<;>simp[hlt]
theorem Ahc{mx:Bool}{l:List AV}{v:AV}{vs:List Value}(hl:B2 X l vs)(h:Ub mx l=some v)(t:TypeId)(ts:Array TypeId):
  ∃val,(if mx then Builtin.max_ ts t vs.toArray else Builtin.min_ ts t vs.toArray).run P w=.ok val w/\VRel X v val:=by
 cases hl with
 | nil=>cases h
 | cons ha hl=>
  cases ha<;>simp only[Ub] at h<;>(try cases h)
  obtain⟨n,rfl,h2⟩:=Uc (P:=P) (w:=w) hl h
  refine⟨_, ?_,.int _ _⟩
  cases mx<;>simpa[Builtin.max_,Builtin.min_] using h2
theorem Ak5{c:Cfg}{s:St}{o:Oper}{nb:Nat}{cont:Cj R}{r:R}{cl:Call}{mx:Bool}(hop:o.op=.call cl)(hb:cl.callee=.builtin (if mx then .max else .min))(h:As c s o nb cont=some r):
  Res P c s o nb cont r λ s' k=>As c s' o nb k:=by
 have hE:∀(R':Type) (s':St) (k:Cj R'),As c s' o nb k=match Ub mx (cl.args.toList.map (ev s')) with
   | some v=>k v [] []
   | none=>none:=by
  intro R' s' k
  cases mx
  ·have hb':cl.callee=.builtin .min:=hb
   simp only[As,hop,hb']
   rfl
  ·have hb':cl.callee=.builtin .max:=hb
   simp only[As,hop,hb']
   rfl
 rw[hE] at h
 split at h
 case h_2=>cases h
 rename_i v hv
 refine⟨v,[],[],h,Bz ?_, ?_,trivial⟩
 ·intro E X ac hs hR hT
  obtain⟨val,h1,h2⟩:=Ahc (P:=P) (w:=X.w) (hs▸W5 hT cl.args.toList) hv o.type cl.argTypes
  refine⟨val, ?_,h2⟩
  rw[Nb hop hb]
  rw[show(cl.args.toList.map ac.eval).toArray=cl.args.map ac.eval from by simp[<-yF]] at h1
  cases mx
  ·simp only[zL,if_false] at h1⊢
   simp only[builtin,Sem.run_bind,h1,Result.andThen_ok,Sem.run_pure]
  ·simp only[if_true] at h1⊢
   simp only[builtin,Sem.run_bind,h1,Result.andThen_ok,Sem.run_pure]
 ·intro s' ha R' k
  rw[hE]
  have:cl.args.toList.map (ev s')=cl.args.toList.map (ev s):=yR λ y hy=>ha.ev y (by
   cases mx
   ·have hb':cl.callee=.builtin .min:=hb
    simp[hop,Op.operands,Call.operands,hb'];exact Array.mem_toList_iff.1 hy
   ·have hb':cl.callee=.builtin .max:=hb
    simp[hop,Op.operands,Call.operands,hb'];exact Array.mem_toList_iff.1 hy)
  rw[this,hv]
theorem Aku{op:BinOp}{k:IntKind}{a b:Int}{cont:AV->Option R}{r:R}(h:Ro op k a b cont=some r):
  ∃v,cont v=some r/\(∀k' t X w,(Gx k k'=true\/O8 op=true)->∃val,(binOp op t (.int k a) (.int k' b)).run P w=.ok val w/\VRel X v val)/\
   ∀(R':Type) (c:AV->Option R'),Ro op k a b c=c v:=by
 have kk:∀{k k':IntKind} {op:BinOp},(Gx k k'=true\/O8 op=true)->O8 op=false->k=k':=by
  intro k k' op h1 h2
  rcases h1 with h1|h1
  ·exact Eh h1
  ·rw[h2] at h1;cases h1
 cases op<;>simp only[Ro] at h<;>(try cases h)
 case add=>exact⟨_,h,λ k' t X w hk=>⟨_,by have:=kk hk rfl;subst this;simp[binOp,Op.intArith,Aa],.int _ _⟩,λ _ _=>rfl⟩
 case sub=>exact⟨_,h,λ k' t X w hk=>⟨_,by have:=kk hk rfl;subst this;simp[binOp,Op.intArith,Aa],.int _ _⟩,λ _ _=>rfl⟩
 case mul=>exact⟨_,h,λ k' t X w hk=>⟨_,by have:=kk hk rfl;subst this;simp[binOp,Op.intArith,Aa],.int _ _⟩,λ _ _=>rfl⟩
 case quo=>
  obtain⟨h1,h⟩:=An h
  have h0:¬b=0:=by simpa using h1
  exact⟨_,h,λ k' t X w hk=>⟨_,by have:=kk hk rfl;subst this;simp[binOp,Op.intDiv,Aa,h0],.int _ _⟩,λ _ _=>by simp only[Ro,h1,A1]⟩
 case rem=>
  obtain⟨h1,h⟩:=An h
  have h0:¬b=0:=by simpa using h1
  exact⟨_,h,λ k' t X w hk=>⟨_,by have:=kk hk rfl;subst this;simp[binOp,Op.intDiv,h0],.int _ _⟩,λ _ _=>by simp only[Ro,h1,A1]⟩
 case and=>exact⟨_,h,λ k' t X w hk=>⟨_,by have:=kk hk rfl;subst this;simp only[binOp,Op.intBits,ne_eq,not_true,if_false,Sem.run_pure,Aa],.int _ _⟩,λ _ _=>rfl⟩
 case or=>exact⟨_,h,λ k' t X w hk=>⟨_,by have:=kk hk rfl;subst this;simp only[binOp,Op.intBits,ne_eq,not_true,if_false,Sem.run_pure,Aa],.int _ _⟩,λ _ _=>rfl⟩
 case xor=>exact⟨_,h,λ k' t X w hk=>⟨_,by have:=kk hk rfl;subst this;simp only[binOp,Op.intBits,ne_eq,not_true,if_false,Sem.run_pure,Aa],.int _ _⟩,λ _ _=>rfl⟩
 case shl=>
  obtain⟨h1,h⟩:=An h
  have h0:¬b<0:=by simp at h1;omega
  exact⟨_,h,λ k' t X w hk=>⟨_,by simp[binOp,Op.shift,Aa,h0],.int _ _⟩,λ _ _=>by simp only[Ro,h1,A1]⟩
 case shr=>
  obtain⟨h1,h⟩:=An h
  have h0:¬b<0:=by simp at h1;omega
  exact⟨_,h,λ k' t X w hk=>⟨_,by simp[binOp,Op.shift,h0],.int _ _⟩,λ _ _=>by simp only[Ro,h1,A1]⟩
 case eql=>exact⟨_,h,λ k' t X w hk=>⟨_,by have:=kk hk rfl;subst this;simp[binOp,Op.intCmp],.bool _⟩,λ _ _=>rfl⟩
 case neq=>exact⟨_,h,λ k' t X w hk=>⟨_,by have:=kk hk rfl;subst this;simp[binOp,Op.intCmp],.bool _⟩,λ _ _=>rfl⟩
 case lss=>exact⟨_,h,λ k' t X w hk=>⟨_,by have:=kk hk rfl;subst this;simp[binOp,Op.intCmp],.bool _⟩,λ _ _=>rfl⟩
 case leq=>exact⟨_,h,λ k' t X w hk=>⟨_,by have:=kk hk rfl;subst this;simp[binOp,Op.intCmp],.bool _⟩,λ _ _=>rfl⟩
 case gtr=>exact⟨_,h,λ k' t X w hk=>⟨_,by have:=kk hk rfl;subst this;simp[binOp,Op.intCmp],.bool _⟩,λ _ _=>rfl⟩
 case geq=>exact⟨_,h,λ k' t X w hk=>⟨_,by have:=kk hk rfl;subst this;simp[binOp,Op.intCmp],.bool _⟩,λ _ _=>rfl⟩
theorem Wd{c:Cfg}(hC:Bi P c=true)(h:Qs c t=true):P.underlying t=some .bool:=by
 unfold Qs at h
 split at h
 ·rename_i ti ht
  split at h
  ·rename_i b e1 e2
   exact(Bs hC ht).bool e1 e2
  ·cases h
 ·cases h
theorem Gb{op:BinOp}{x y:Operand}{a b:Value}(ha:a.oneCell'=true)(hb:a≠.nilIface):(eqGuard op t x y a b).run P w=.ok () w:=by
 unfold eqGuard
 cases a with
 | agg=>simp[Value.oneCell'] at ha
 | nilIface=>exact(hb rfl).elim
 | _=>cases op<;>rfl
theorem Lo(hu:P.underlying t=some .bool)(d:Nat)(a b:Bool):(Op.equalIn (d+1) t (.bool a) (.bool b)).run P w=.ok (a==b) w:=by
 rw[Op.equalIn,Sem.run_bind,Ay hu]
 rfl
theorem Abj(hu:P.underlying t=some .bool)(a b:Bool):(binOp .eql t (.bool a) (.bool b)).run P w=.ok (.bool (a==b)) w:=by
 have:(Op.equal t (.bool a) (.bool b)).run P w=.ok (a==b) w:=Lo hu 9999 a b
 show(do pure (.bool (<-Op.equal t (.bool a) (.bool b))):Sem Value).run P w=_
 rw[Sem.run_bind,this];rfl
theorem Abk(hu:P.underlying t=some .bool)(a b:Bool):(binOp .neq t (.bool a) (.bool b)).run P w=.ok (.bool (!(a==b))) w:=by
 have:(Op.equal t (.bool a) (.bool b)).run P w=.ok (a==b) w:=Lo hu 9999 a b
 show(do pure (.bool (!(<-Op.equal t (.bool a) (.bool b)))):Sem Value).run P w=_
 rw[Sem.run_bind,this];rfl
theorem Ate{c:Cfg}(hC:Bi P c=true){op:BinOp}{a b:AV}{cont:AV->Option R}{r:R}(h:U0 op (Qs c t) a b cont=some r):
  ∃v,cont v=some r/\(∀X w av bv x y,VRel X a av->VRel X b bv->∃val,(do eqGuard op t x y av bv;binOp op t av bv:Sem Value).run P w=.ok val w/\VRel X v val)/\
   ∀(R':Type) (k:AV->Option R'),U0 op (Qs c t) a b k=k v:=by
 unfold U0 at h
 split at h
 ·rename_i k m k' n
  cases hb:(O8 op||Gx k k')<;>rw[hb] at h<;>simp only[cond_true,cond_false] at h
  ·cases h
  obtain⟨v,h1,h2,h3⟩:=Aku (P:=P) h
  refine⟨v,h1, ?_,λ R' k0=>by simp only[U0,hb,cond_true,h3]⟩
  intro X w av bv x y hav hbv
  cases hav
  cases hbv
  obtain⟨val,e1,e2⟩:=h2 k' t X w (by simp only[Bool.or_eq_true] at hb;exact hb.symm)
  exact⟨val,by rw[Sem.run_bind,Gb rfl (by simp),Result.andThen_ok,e1],e2⟩
 ·rename_i l l'
  split at h
  ·obtain⟨h1,h⟩:=An h
   refine⟨_,h, ?_,λ R' k=>by simp only[U0,h1,A1]⟩
   intro X w av bv x y hav hbv
   cases hav
   cases hbv
   refine⟨_, ?_,.str _⟩
   have hle:=zH h1
   have e1:(⟨⟨l⟩⟩:ByteArray).size=l.length:=rfl
   have e2:(⟨⟨l'⟩⟩:ByteArray).size=l'.length:=rfl
   have e3:¬((l.length+l'.length:Nat):Int)>IntKind.i64.max:=by
    have:IntKind.i64.max=9223372036854775807:=by decide
    rw[this]
    simp only[big] at hle
    omega
   have e4:(⟨⟨l⟩⟩:ByteArray)++(⟨⟨l'⟩⟩:ByteArray)=⟨⟨l++l'⟩⟩:=by
    have:((⟨⟨l⟩⟩:ByteArray)++(⟨⟨l'⟩⟩:ByteArray)).data=(⟨l++l'⟩:Array UInt8):=by
     rw[ByteArray.data_append]
     apply yD
     simp
    cases h:(⟨⟨l⟩⟩:ByteArray)++(⟨⟨l'⟩⟩:ByteArray)
    rw[h] at this
    simp only at this
    rw[this]
   rw[Sem.run_bind,Gb rfl (by simp),Result.andThen_ok]
   simp only[binOp,Op.stringOp,e1,e2,if_neg e3,Sem.run_pure,e4]
  ·refine⟨_,h, ?_,λ R' k=>by simp only[U0]⟩
   intro X w av bv x y hav hbv
   cases hav
   cases hbv
   refine⟨_, ?_,.bool _⟩
   rw[Sem.run_bind,Gb rfl (by simp),Result.andThen_ok]
   simp only[binOp,Op.stringOp,ByteArray.toList_eq,Sem.run_pure]
  ·refine⟨_,h, ?_,λ R' k=>by simp only[U0]⟩
   intro X w av bv x y hav hbv
   cases hav
   cases hbv
   refine⟨_, ?_,.bool _⟩
   rw[Sem.run_bind,Gb rfl (by simp),Result.andThen_ok]
   simp only[binOp,Op.stringOp,ByteArray.toList_eq,Sem.run_pure]
  ·cases h
 ·rename_i p q
  split at h
  ·obtain⟨h1,h⟩:=An h
   refine⟨_,h, ?_,λ R' k=>by simp only[U0,h1,A1]⟩
   intro X w av bv x y hav hbv
   cases hav
   cases hbv
   refine⟨_, ?_,.bool _⟩
   rw[Sem.run_bind,Gb rfl (by simp),Result.andThen_ok]
   exact Abj (Wd hC h1) _ _
  ·obtain⟨h1,h⟩:=An h
   refine⟨_,h, ?_,λ R' k=>by simp only[U0,h1,A1]⟩
   intro X w av bv x y hav hbv
   cases hav
   cases hbv
   refine⟨_, ?_,.bool _⟩
   rw[Sem.run_bind,Gb rfl (by simp),Result.andThen_ok]
   exact Abk (Wd hC h1) _ _
  ·cases h
 ·cases h
end Go.Ev
namespace Go.Ev
variable{R:Type}{E:Env}{X:Cx}{P:Program}{t:Nat}{ti:TyI}{w:World}
theorem Fn{c:Cfg}{s:St}{o:Oper}{nb:Nat}{cont:Cj R}{r:R}{v:AV}
  (hE:∀(R':Type) (s':St) (k:Cj R'),(∀x∈o.op.operands,ev s' x=ev s x)->As c s' o nb k=k v [] []) (h:As c s o nb cont=some r)
  (hg:∀E X a,X.s=s->Rel E X->Jj X a->∃val,(execOp a.eval o).run P X.w=.ok (.value val) X.w/\VRel X v val):
  Res P c s o nb cont r λ s' k=>As c s' o nb k:=by
 rw[hE R s cont λ _ _=>rfl] at h
 exact⟨v,[],[],h,Bz hg,λ s' ha R' k=>hE R' s' k ha.ev,trivial⟩
theorem Ape{c:Cfg}{s:St}{o:Oper}{nb:Nat}{cont:Cj R}{r:R}{x a b:Operand}(hop:o.op=.pick x a b)(h:As c s o nb cont=some r):
  Res P c s o nb cont r λ s' k=>As c s' o nb k:=by
 have h0:=h
 simp only[As,hop,Ey] at h0
 split at h0
 case h_2=>cases h0
 rename_i q hq
 refine Fn (v:=if q then ev s a else ev s b) ?_ h ?_
 ·intro R' s' k hs
  simp only[As,hop,Ey]
  rw[hs x (by simp[hop,Op.operands]),hs a (by simp[hop,Op.operands]),hs b (by simp[hop,Op.operands]),hq]
  cases q<;>rfl
 ·intro E X ac hs hR hT
  subst hs
  have hx:=Bj hT x
  rw[hq] at hx
  generalize hv:ac.eval x=xv at hx
  cases hx
  refine⟨if q then ac.eval a else ac.eval b, ?_,by cases q<;>exact Bj hT _⟩
  simp only[execOp,hop,hv,asBool,Sem.run_bind,Sem.run_pure,Result.andThen_ok]
theorem Aa8{c:Cfg}{s:St}{o:Oper}{nb:Nat}{cont:Cj R}{r:R}{x:Operand}(hop:o.op=.nilCheck x)(h:As c s o nb cont=some r):
  Res P c s o nb cont r λ s' k=>As c s' o nb k:=by
 have h0:=h
 simp only[As,hop,Ey] at h0
 have hsh:(∀(R':Type) (s':St) (k:Cj R'),ev s' x=ev s x->As c s' o nb k=k (ev s x) [] [])/\
   ((∃b o p,ev s x=.pb b o p)\/(∃b v i f K l p,ev s x=.pn b v i f K l p)\/(∃q K l p,ev s x=.po q K l p)\/(∃q ps o p,ev s x=.pr q ps o p)\/∃f cs,ev s x=.fn f cs):=by
  split at h0
  ·rename_i hx
   exact⟨λ R' s' k hs=>by simp only[As,hop,Ey,hs,hx],.inl ⟨_,_,_,hx⟩⟩
  ·rename_i hx
   exact⟨λ R' s' k hs=>by simp only[As,hop,Ey,hs,hx],.inr (.inl ⟨_,_,_,_,_,_,_,hx⟩)⟩
  ·rename_i hx
   exact⟨λ R' s' k hs=>by simp only[As,hop,Ey,hs,hx],.inr (.inr (.inl ⟨_,_,_,_,hx⟩))⟩
  ·rename_i hx
   exact⟨λ R' s' k hs=>by simp only[As,hop,Ey,hs,hx],.inr (.inr (.inr (.inl ⟨_,_,_,_,hx⟩)))⟩
  ·rename_i hx
   exact⟨λ R' s' k hs=>by simp only[As,hop,Ey,hs,hx],.inr (.inr (.inr (.inr ⟨_,_,hx⟩)))⟩
  ·cases h0
 refine Fn (v:=ev s x) (λ R' s' k hs=>hsh.1 R' s' k (hs x (by simp[hop,Op.operands]))) h ?_
 intro E X ac hs hR hT
 subst hs
 have hx:=Bj hT x
 refine⟨ac.eval x, ?_,hx⟩
 rcases hsh.2 with⟨b,o',p,e⟩|⟨b,v,i,f,K,l,p,e⟩|⟨q,K,l,p,e⟩|⟨q,ps,o',p,e⟩|⟨f,cs,e⟩<;>rw[e] at hx<;>generalize hv:ac.eval x=xv at hx<;>cases hx<;>simp only[execOp,hop,hv,Sem.run_pure]
theorem Aa1{c:Cfg}{s:St}{o:Oper}{nb:Nat}{op:BinOp}{x y:Operand}{yt:Nat}(hop:o.op=.binOp op t x y yt)(hy:y≠.const .nilIface){R':Type}(k:Cj R'):
  As c s o nb k=Ey (Qs c) s (.binOp op t x y yt) (λ v rd=>k v [] rd):=by
 unfold As
 rw[hop]
 cases y with
 | const v=>cases v<;>first|rfl|exact(hy rfl).elim
 | _=>rfl
theorem Air{c:Cfg}(hC:Bi P c=true){s:St}{o:Oper}{nb:Nat}{cont:Cj R}{r:R}{op:BinOp}{x y:Operand}{yt:Nat}(hop:o.op=.binOp op t x y yt)(hy:y≠.const .nilIface)(h:As c s o nb cont=some r):
  Res P c s o nb cont r λ s' k=>As c s' o nb k:=by
 have h0:=h
 rw[Aa1 hop hy] at h0
 simp only[Ey] at h0
 obtain⟨v,h1,h2,h3⟩:=Ate hC h0
 refine Fn (v:=v) ?_ h ?_
 ·intro R' s' k hs
  rw[Aa1 hop hy]
  simp only[Ey]
  rw[hs x (by simp[hop,Op.operands]),hs y (by simp[hop,Op.operands])]
  exact h3 R' _
 ·intro E X ac hs hR hT
  subst hs
  obtain⟨val,e1,e2⟩:=h2 X X.w _ _ x y (Bj hT x) (Bj hT y)
  refine⟨val, ?_,e2⟩
  simp only[execOp,hop]
  rw[Sem.run_bind,e1]
  rfl
theorem Db.ifc(h:Db P t ti)(hi:Akw ti=true):∃ms,P.underlying t=some (.interface ms):=by
 obtain⟨d,h1,h2⟩:=h.d
 unfold Akw at hi
 cases d<;>simp only[Dy,zA] at h2
 case interface ms=>exact⟨ms,h1⟩
 all_goals(exfalso;revert hi h2;cases ti.cls<;>simp[Fa,Hy,Hj,Jq]<;>(try split)<;>simp_all)
theorem Db.ptr(h:Db P t ti)(hi:Aar ti=true):∃e,P.underlying t=some (.pointer e):=by
 obtain⟨d,h1,h2⟩:=h.d
 unfold Aar at hi
 cases d<;>simp only[Dy,zA] at h2
 case pointer e=>exact⟨e,h1⟩
 all_goals(exfalso;revert hi h2;cases ti.cls<;>simp[Fa,Hy,Hj,Jq]<;>(try split)<;>simp_all)
def Avp:BinOp->Bool
 | .eql=>true
 | _=>false
def Aqd:Value->Bool
 | .nilIface=>true
 | _=>false
theorem Zl{X:Cx}:∀bs:List Bool,Az X.w (X.S none) .bool bs (bs.map Value.bool) []
 | []=>⟨rfl,rfl⟩
 | b::bs=>⟨[.bool b],bs.map .bool,[],[],rfl,rfl,⟨rfl,rfl⟩,Zl bs⟩
theorem Ady{ms:Array (String×TypeId)}(hu:P.underlying t=some (.interface ms))(v:Value)(hv:v=.nilIface\/∃T u,v=.iface T u)(d:Nat):(Op.equalIn (d+1) t v .nilIface).run P w=.ok (Aqd v) w:=by
 rw[Op.equalIn,Sem.run_bind,Ay hu]
 rcases hv with rfl|⟨T,u,rfl⟩<;>rfl
theorem Ahg{c:Cfg}(hC:Bi P c=true){s:St}{o:Oper}{nb:Nat}{cont:Cj R}{r:R}{op:BinOp}{x:Operand}{yt:Nat}(hop:o.op=.binOp op t x (.const .nilIface) yt)(h:As c s o nb cont=some r):
  Res P c s o nb cont r λ s' k=>As c s' o nb k:=by
 have h0:=h
 simp only[As,hop] at h0
 split at h0
 case h_2=>cases h0
 rename_i ti ht
 obtain⟨hi,h0⟩:=An h0
 obtain⟨ms,hu⟩:=(Bs hC ht).ifc hi
 have key:∃(b:Bool),(∀(R':Type) (k:AV->Option R'),Auj op (ev s x) k=k (.bool b))/\∀X (v:Value),VRel X (ev s x) v->((op=.eql\/op=.neq)/\(v=.nilIface\/∃T u,v=.iface T u))/\b=(bif Avp op then Aqd v else !(Aqd v)):=by
  clear h hop
  generalize ev s x=ax at h0⊢
  unfold Auj at h0
  split at h0
  ·rename_i q tr _
   refine⟨tr.isNil,λ R' k=>rfl,λ X v hv=> ?_⟩
   cases hv with
   | tr h5 h6=>
    cases tr with
    | nil=>rw[show v=.nilIface from h6];exact⟨⟨.inl rfl,.inl rfl⟩,rfl⟩
    | nd=>obtain⟨g,cs,T,fr,k1,_⟩:=h6;rw[k1];exact⟨⟨.inl rfl,.inr ⟨_,_,rfl⟩⟩,rfl⟩
  ·rename_i q tr _
   refine⟨!tr.isNil,λ R' k=>rfl,λ X v hv=> ?_⟩
   cases hv with
   | tr h5 h6=>
    cases tr with
    | nil=>rw[show v=.nilIface from h6];exact⟨⟨.inr rfl,.inl rfl⟩,rfl⟩
    | nd=>obtain⟨g,cs,T,fr,k1,_⟩:=h6;rw[k1];exact⟨⟨.inr rfl,.inr ⟨_,_,rfl⟩⟩,rfl⟩
  ·refine⟨true,λ R' k=>rfl,λ X v hv=> ?_⟩
   cases hv
   exact⟨⟨.inl rfl,.inl rfl⟩,rfl⟩
  ·refine⟨false,λ R' k=>rfl,λ X v hv=> ?_⟩
   cases hv
   exact⟨⟨.inr rfl,.inl rfl⟩,rfl⟩
  ·refine⟨false,λ R' k=>rfl,λ X v hv=> ?_⟩
   cases hv
   exact⟨⟨.inl rfl,.inr ⟨_,_,rfl⟩⟩,rfl⟩
  ·refine⟨true,λ R' k=>rfl,λ X v hv=> ?_⟩
   cases hv
   exact⟨⟨.inr rfl,.inr ⟨_,_,rfl⟩⟩,rfl⟩
  ·cases h0
 obtain⟨b,k1,k2⟩:=key
 refine Fn (v:=.bool b) ?_ h ?_
 ·intro R' s' k hs
  simp only[As,hop,ht,hi,A1]
  rw[hs x (by simp[hop,Op.operands]),k1]
 ·intro E X ac hs hR hT
  subst hs
  obtain⟨⟨hop',hv⟩,hb⟩:=k2 X _ (Bj hT x)
  refine⟨.bool b, ?_,.bool _⟩
  simp only[execOp,hop]
  have hg:(eqGuard op t x (.const .nilIface) (ac.eval x) (ac.eval (.const .nilIface))).run P X.w=.ok () X.w:=by
   have he:ac.eval (.const .nilIface)=.nilIface:=rfl
   rw[he]
   unfold eqGuard
   rcases hop' with rfl|rfl<;>rcases hv with e|⟨T,u,e⟩<;>rw[e]<;>cases x<;>rfl
  have he:(Op.equal t (ac.eval x) .nilIface).run P X.w=.ok (Aqd (ac.eval x)) X.w:=Ady hu _ hv 9999
  have hb2:(binOp op t (ac.eval x) (ac.eval (.const .nilIface))).run P X.w=.ok (.bool b) X.w:=by
   have he':ac.eval (.const .nilIface)=.nilIface:=rfl
   rw[he',hb]
   rcases hop' with rfl|rfl
   ·have e0:binOp .eql t (ac.eval x) .nilIface=(do pure (.bool (<-Op.equal t (ac.eval x) .nilIface)):Sem Value):=by
     rcases hv with e|⟨T,u,e⟩<;>rw[e]<;>rfl
    rw[e0,Sem.run_bind,he]
    rfl
   ·have e0:binOp .neq t (ac.eval x) .nilIface=(do pure (.bool (!(<-Op.equal t (ac.eval x) .nilIface))):Sem Value):=by
     rcases hv with e|⟨T,u,e⟩<;>rw[e]<;>rfl
    rw[e0,Sem.run_bind,he]
    rfl
  simp only[Sem.run_bind,hg,Result.andThen_ok,hb2,Sem.run_pure]
theorem Ya{X:Cx}{q:Cg}{L ty:Nat}{bs:List Bool}{i j:Int}{l r:Tr}{cs:List Value}(hq:∀b v0,q≠.ver b v0)
  (h:match L with
   | 0=>cs=bs.map .bool/\bs.length=256
   | 1=>∃vl vr,cs=[vl,vr]/\Fd X.w (X.Sof q) l vl/\Fd X.w (X.Sof q) r vr
   | 2=>∃vl,cs=[vl,.int .i64 i]/\Fd X.w (X.Sof q) l vl
   | _=>∃vl u,cs=[vl,.int .i64 i,.int .i64 j,u]/\u.oneCell'=true/\Fd X.w (X.Sof q) l vl):PRs X (Eb L q (.nd L ty bs i j l r)) cs []/\∀a∈Eb L q (.nd L ty bs i j l r),a.norw=true:=by
 match L,h with
 | 0,⟨h1,h2⟩=>
  refine⟨?_,by simp[Eb,AV.norw]⟩
  have hr:Az X.w (X.S none) .bool bs (bs.map Value.bool) []:=Zl bs
  have:=PRs.arr (X:=X) (n:=256) (K:=.bool) (l:=bs) h2 hr .nil
  rw[h1]
  simpa[Eb,Tr.bs] using this
 | 1,⟨vl,vr,h1,h2,h3⟩=>
  refine⟨?_,by simp[Eb,AV.norw]⟩
  rw[h1]
  exact .one rfl h2.one (.tr hq h2) (.one rfl h3.one (.tr hq h3) .nil)
 | 2,⟨vl,h1,h2⟩=>
  refine⟨?_,by simp[Eb,AV.norw]⟩
  rw[h1]
  exact .one rfl h2.one (.tr hq h2) (.one rfl rfl (.int _ _) .nil)
 | _+3,⟨vl,u,h1,h2,h3⟩=>
  refine⟨?_,by simp[Eb,AV.norw]⟩
  rw[h1]
  exact .one rfl h3.one (.tr hq h3) (.one rfl rfl (.int _ _) (.one rfl rfl (.int _ _) (.one rfl h2 (.un _) .nil)))
theorem Aee{c:Cfg}(hC:Bi P c=true){s:St}{o:Oper}{nb:Nat}{cont:Cj R}{r:R}{x:Operand}{xt T:Nat}(hop:o.op=.typeAssert x xt T false)(h:As c s o nb cont=some r):
  Res P c s o nb cont r λ s' k=>As c s' o nb k:=by
 have h0:=h
 simp only[As,hop] at h0
 split at h0
 case h_2=>cases h0
 rename_i T' k n ti hx hti
 obtain⟨hk,h0⟩:=An h0
 have hk':=hk
 simp only[zA] at hk'
 have hT:=A6.1 hk'.1
 subst hT
 have hi:=hk'.2
 unfold isK at hi
 split at hi
 case h_2=>cases hi
 rename_i k' hi'
 have hu:=(Bs hC hti).int hi'
 refine Fn (v:=.int k n) ?_ h ?_
 ·intro R' s' kk hs
  simp only[As,hop]
  rw[hs x (by simp[hop,Op.operands]),hx,hti]
  simp only[hk,A1]
 ·intro E X ac hs hR hT
  subst hs
  have hv:=Bj hT x
  rw[hx] at hv
  generalize hxv:ac.eval x=xv at hv
  cases hv with
  | ifc hv=>
   cases hv
   refine⟨.int k n, ?_,.int _ _⟩
   simp only[execOp,hop,hxv,Instr.typeAssert,Sem.run_bind,Ay hu,Result.andThen_ok,if_true,Sem.run_pure]
   rfl
theorem Vb{c:Cfg}(hC:Bi P c=true){s:St}{o:Oper}{nb:Nat}{cont:Cj R}{r:R}{x:Operand}{xt T:Nat}(hop:o.op=.typeAssert x xt T true)(h:As c s o nb cont=some r):
  Res P c s o nb cont r λ s' k=>As c s' o nb k:=by
 have h0:=h
 simp only[As,hop] at h0
 split at h0
 case h_2=>cases h0
 rename_i q tr ti L hx hti hL
 obtain⟨hi,h0⟩:=An h0
 simp only[zA] at hi
 obtain⟨e,hu⟩:=(Bs hC hti).ptr hi.1
 have hq:∀b v0,q≠.ver b v0:=by
  rintro b v0 rfl
  simp[Gz] at hi
 cases his:tr.is T<;>rw[his] at h0<;>simp only[cond_true,cond_false] at h0
 ·refine Fn (v:=.tup [.nilp,.bool false]) ?_ h ?_
  ·intro R' s' k hs
   simp only[As,hop]
   rw[hs x (by simp[hop,Op.operands]),hx,hti,hL]
   simp only[hi,his,zS,A1,cond_false]
  ·intro E X ac hs hR hT
   subst hs
   have hv:=Bj hT x
   rw[hx] at hv
   generalize hxv:ac.eval x=xv at hv
   obtain⟨i,z,z1,_,_,z2,z3,z4,_⟩:=(Bs hC hti).i
   have hz:(zeroValue T).run P X.w=.ok z X.w:=by
    simp[zeroValue,typeInfo,z1,z2]
   have hzz:VRel X .nilp z:=by
    have hzero:ti.zero=[.nilp]/\ti.cls=0:=by
     have:=hi.1
     unfold Aar at this
     split at this
     ·rename_i a b;exact⟨b,a⟩
     ·cases this
    obtain⟨h1,_⟩:=P5 (X:=X) ti.zero z.cells.toList z3
    rw[hzero.1] at h1
    have ho:=z4 hzero.2
    have hc:z.cells.toList=[z]:=by cases z<;>first|rfl|simp[Value.oneCell'] at ho
    rw[hc] at h1
    cases h1 with
    | one _ _ h _=>exact h
   refine⟨.tuple #[z,.bool false], ?_,.tup (.cons hzz (.cons (.bool _) .nil))⟩
   cases hv with
   | tr h5 h6=>
    cases tr with
    | nil=>
     rw[show xv=.nilIface from h6] at hxv
     simp only[execOp,hop,hxv,Instr.typeAssert,Sem.run_bind,Ay hu,Result.andThen_ok,if_true,hz,Sem.run_pure]
    | nd lay ty bs i j l r=>
     obtain⟨g,cs,T',fr,k1,_⟩:=h6
     rw[k1] at hxv
     have hne:¬(ty:Nat)=T:=by
      simp only[Tr.is] at his
      exact A7.1 his
     simp only[execOp,hop,hxv,Instr.typeAssert,Sem.run_bind,Ay hu,Result.andThen_ok,if_neg hne,if_true,hz,Sem.run_pure]
 ·obtain⟨hl,h0⟩:=An h0
  have hl:=A6.1 hl
  refine Fn (v:=.tup [.pr q (Eb L q tr) 0 [],.bool true]) ?_ h ?_
  ·intro R' s' k hs
   simp only[As,hop]
   rw[hs x (by simp[hop,Op.operands]),hx,hti,hL]
   simp only[hi,his,zS,A1,cond_true,hl,zX]
  ·intro E X ac hs hR hT
   subst hs
   have hv:=Bj hT x
   rw[hx] at hv
   generalize hxv:ac.eval x=xv at hv
   cases hv with
   | tr h5 h6=>
    cases tr with
    | nil=>simp[Tr.is] at his
    | nd lay ty bs i j l r=>
     obtain⟨g,cs,T',fr,k1,k2,k3,k4⟩:=h6
     have ht:ty=T:=by
      simp only[Tr.is] at his
      exact A6.1 his
     subst ht
     have hl':lay=L:=hl
     subst hl'
     obtain⟨p1,p2⟩:=Ya (ty:=ty) hq k4
     have hsz:cs.toList.length=cs.size:=by simp
     refine⟨.tuple #[.pointer (some ⟨g,0,none⟩),.bool true], ?_,.tup (.cons ?_ (.cons (.bool _) .nil))⟩
     ·rw[k1] at hxv
      simp only[execOp,hop,hxv,Instr.typeAssert,Sem.run_bind,Ay hu,Result.andThen_ok,if_true,Sem.run_pure]
     ·have:=VRel.pr (X:=X) (q:=q) (ps:=Eb lay q (.nd lay ty bs i j l r)) (o:=0) (p:=[]) (g:=g) (og:=0) (cur:=cs) (t:=T') (fr:=fr) (n:=cs.size) k2 k3 (by omega) (by rw[show seg cs.toList 0 cs.size=cs.toList by simp[seg,yJ]];exact p1) p2 hq (by simp[PIn])
      simpa[Bd] using this
theorem Aqc{c:Cfg}{s:St}{o:Oper}{nb:Nat}{cont:Cj R}{r:R}{op:UnOp}{x:Operand}(hop:o.op=.unOp op t x)(h:As c s o nb cont=some r):
  Res P c s o nb cont r λ s' k=>As c s' o nb k:=by
 have h0:=h
 simp only[As,hop,Ey] at h0
 split at h0
 ·rename_i b hx
  refine Fn (v:=.bool (!b)) ?_ h ?_
  ·intro R' s' k hs
   simp only[As,hop,Ey]
   rw[hs x (by simp[hop,Op.operands]),hx]
  ·intro E X ac hs hR hT
   subst hs
   have hx':=Bj hT x
   rw[hx] at hx'
   generalize hv:ac.eval x=xv at hx'
   cases hx'
   exact⟨_,by simp only[execOp,hop,hv,Op.unary,Sem.run_bind,Sem.run_pure,Result.andThen_ok],.bool _⟩
 ·rename_i k n hx
  refine Fn (v:=.int k (Aa k (0-n))) ?_ h ?_
  ·intro R' s' k hs
   simp only[As,hop,Ey]
   rw[hs x (by simp[hop,Op.operands]),hx]
  ·intro E X ac hs hR hT
   subst hs
   have hx':=Bj hT x
   rw[hx] at hx'
   generalize hv:ac.eval x=xv at hx'
   cases hx'
   exact⟨_,by simp only[execOp,hop,hv,Op.unary,Op.intArith,Sem.run_bind,Sem.run_pure,Result.andThen_ok,Aa],.int _ _⟩
 ·cases h0
theorem Ace:∀{as:List AV} {vs:List Value} {i:Nat} {v:AV},B2 X as vs->as[i]?=some v->∃u,vs[i]?=some u/\VRel X v u
 | _,_,_,_,.nil,h=>by simp at h
 | _,_,0,_,.cons h1 _,h=>by simp at h;subst h;exact⟨_,rfl,h1⟩
 | _,_,i+1,_,.cons _ h2,h=>by simp at h;obtain⟨u,e1,e2⟩:=Ace h2 h;exact⟨u,by simpa using e1,e2⟩
theorem Ac3{c:Cfg}{s:St}{o:Oper}{nb:Nat}{cont:Cj R}{r:R}{x:Operand}{i:Nat}(hop:o.op=.extract x i)(h:As c s o nb cont=some r):
  Res P c s o nb cont r λ s' k=>As c s' o nb k:=by
 have h0:=h
 simp only[As,hop,Ey] at h0
 split at h0
 case h_2=>cases h0
 rename_i vs hx
 split at h0
 case h_2=>cases h0
 rename_i v hi
 refine Fn (v:=v) ?_ h ?_
 ·intro R' s' k hs
  simp only[As,hop,Ey]
  rw[hs x (by simp[hop,Op.operands]),hx]
  simp only[hi]
 ·intro E X ac hs hR hT
  subst hs
  have hx':=Bj hT x
  rw[hx] at hx'
  generalize hv:ac.eval x=xv at hx'
  cases hx' with
  | tup hvs=>
   obtain⟨u,e1,e2⟩:=Ace hvs hi
   refine⟨u, ?_,e2⟩
   simp[execOp,hop,hv,Instr.extract,e1]
end Go.Ev
namespace Go.Ev
variable{R:Type}{E:Env}{X:Cx}{P:Program}{t:Nat}{ti:TyI}{w:World}
theorem Gw:∀(ks:List Nat) (k:Nat),Dc (Bv ks) k=if k∈ks then some none else none
 | [],k=>by simp[Bv,Dc]
 | b::ks,k=>by
  have ih:=Gw ks k
  simp only[Bv,yQ,Dc] at ih⊢
  rw[ih]
  by_cases h:k∈ks
  ·simp[h]
  ·by_cases h2:k=b
   ·subst h2;simp[h]
   ·simp[h,h2]
structure Gf(E:Env)(X:Cx)(nb:Nat)(blk:Blk)(ks:List Nat)(cb:CB)(w':World)(T:Nat->Prop)(X':Cx):Prop where
 cmN:X'.cm=λ b=>if b=nb then some cb else X.cm b
 S:X'.S=X.S
 s:X'.s={X.s with st:=A9 ((nb,some blk)::Bv ks) X.s.st}
 w:X'.w=w'
 fresh:Of X nb
 live:∀b∈ks,∃x,look b X.s.st=some x
 os:w'.os=X.w.os
 tape:w'.tape=X.w.tape
 output:w'.output=X.w.output
 size:X.w.heap.size<=w'.heap.size
 heap:∀g,g<X.w.heap.size->¬T g->w'.heap[g]?=X.w.heap[g]?
 T:∀g,T g->∃b x c,b∈ks/\look b X.s.st=some x/\X.cm b=some c/\g∈c.fp
variable{nb:Nat}{blk:Blk}{ks:List Nat}{cb:CB}{w':World}{T:Nat->Prop}{X':Cx}
theorem Gf.look(R:Rel E X)(h:Gf E X nb blk ks cb w' T X')(b:Nat):look b X'.s.st=if b=nb then some blk else if b∈ks then none else Ev.look b X.s.st:=by
 have hnb:nb∉ks:=λ hm=>by
  obtain⟨x,hx⟩:=h.live nb hm
  obtain⟨c,hc,_⟩:=R.blk nb x hx
  rw[h.fresh nb (zG _) (by omega)] at hc
  cases hc
 rw[h.s]
 simp only
 rw[B3 _ _ R.uq]
 simp only[Dc,Gw]
 by_cases h1:b=nb
 ·subst h1;simp[hnb]
 ·by_cases h2:b∈ks<;>simp[h1,h2]
theorem Gf.mv(R:Rel E X)(h:Gf E X nb blk ks cb w' T X'):Mv X X' (λ b=>b=nb\/b∈ks) T where
 S:=.same h.S
 os:=by rw[h.w];exact h.os
 tape:=by rw[h.w];exact h.tape
 output:=by rw[h.w];exact h.output
 size:=by rw[h.w];exact h.size
 heap:=by rw[h.w];exact h.heap
 T g hg:=by
  obtain⟨b,x,c,h1,h2,h3,h4⟩:=h.T g hg
  exact⟨b,x,c,.inr h1,h2,h3,h4⟩
 look b hb:=by
  rw[h.look R]
  rw[if_neg (λ e=>hb (.inl e)),if_neg (λ e=>hb (.inr e))]
 cm b hb:=by rw[h.cmN];simp only;rw[if_neg (λ e=>hb (.inl e))]
 cmM b c hM hc:=by
  rw[h.cmN]
  simp only
  by_cases e:b=nb
  ·subst e
   rw[h.fresh b (zG _) (by omega)] at hc
   cases hc
  ·rw[if_neg e];exact⟨c,hc,c.same_refl⟩
 verM b c ro' v' ps' hM hc hl:=by
  rw[h.look R] at hl
  by_cases e:b=nb
  ·subst e
   rw[h.fresh b (zG _) (by omega)] at hc
   cases hc
  ·rw[if_neg e] at hl
   rcases hM with hM|hM
   ·exact(e hM).elim
   ·rw[if_pos hM] at hl;cases hl
theorem Gf.good(R:Rel E X)(h:Gf E X nb blk ks cb w' T X')(hb:Ext X X'->In X' cb blk)(hnd:cb.fp.Nodup)(hfp:∀g∈cb.fp,g<w'.heap.size/\Anz X (λ b=>b=nb\/b∈ks) g)
  {v:AV} {val:Value} (hv:Ext X X'->VRel X' v val):Good E X nb v ((nb,some blk)::Bv ks) val X':=by
 have hx:=(h.mv R).ext R
 have one:∀b x',(b=nb\/b∈ks)->Ev.look b X'.s.st=some x'->b=nb/\x'=blk:=by
  intro b x' hM hl
  rw[h.look R] at hl
  by_cases e:b=nb
  ·subst e;simp at hl;exact⟨rfl,hl.symm⟩
  ·rw[if_neg e] at hl
   rcases hM with hM|hM
   ·exact(e hM).elim
   ·rw[if_pos hM] at hl;cases hl
 have hcm:X'.cm nb=some cb:=by rw[h.cmN];simp
 refine⟨(h.mv R).rel R ?_ ?_ ?_,hx,.of h.S,h.s, ?_,hv hx⟩
 ·rw[h.s];exact Cn _ R.uq
 ·intro b x' hM hl
  obtain⟨rfl,rfl⟩:=one b x' hM hl
  exact⟨cb,hcm,hb hx,hnd,λ g hg=>by rw[h.w];exact hfp g hg⟩
 ·intro b b' x x' c c' g hM hM' hl hl' _ _ _ _
  exact(one b x hM hl).1.trans (one b' x' hM' hl').1.symm
 ·intro b hb'
  rw[h.cmN] at hb'
  simp only at hb'
  by_cases e:b=nb
  ·subst e;exact .inr ⟨zG _,by omega⟩
  ·rw[if_neg e] at hb';exact .inl hb'
def C2(X:Cx)(nb:Nat)(blk:Blk)(ks:List Nat)(cb:CB)(w':World):Cx:=
 {cm:=λ b=>if b=nb then some cb else X.cm b,S:=X.S,s:={X.s with st:=A9 ((nb,some blk)::Bv ks) X.s.st},w:=w'}
theorem Qr{w w':World}{ob:Obj}(h:w'.heap=w.heap.push ob):w'.heap.size=w.heap.size+1/\(∀g,g<w.heap.size->w'.heap[g]?=w.heap[g]?)/\w'.heap[w.heap.size]?=some ob:=by
 rw[h]
 refine⟨by simp,λ g hg=> ?_,by simp⟩
 rw[Array.getElem?_push,if_neg (by omega)]
theorem Aal(R:Rel E X)(hF:Of X nb){ps:List AV}{cs:Array Value}{ty:TypeId}(hp:PRs X ps cs.toList [])(hn:∀a∈ps,a.norw=true)(hh:w'.heap=X.w.heap.push (.cells cs ty))
  (h1:w'.os=X.w.os) (h2:w'.tape=X.w.tape) (h3:w'.output=X.w.output):
  ∃X',X'.w=w'/\Good E X nb (.pb nb 0 []) [(nb,some (.cell false 0 ps))] (.pointer (some ⟨X.w.heap.size,0,none⟩)) X':=by
 obtain⟨k1,k2,k3⟩:=Qr hh
 have hN:Gf E X nb (.cell false 0 ps) [] (.box X.w.heap.size []) w' (λ _=>False) (C2 X nb (.cell false 0 ps) [] (.box X.w.heap.size []) w'):=
  ⟨rfl,rfl,rfl,rfl,hF,by simp,h1,h2,h3,by omega,λ g hg _=>k2 g hg,λ g hg=>hg.elim⟩
 refine⟨_,rfl,hN.good R ?_ (by simp[CB.fp]) ?_ ?_⟩
 ·intro hx
  refine .box hn ⟨ty,(0,0), ?_, ?_⟩ (hp.ext hx (by simp))
  ·show w'.heap[X.w.heap.size]?=_
   rw[k3]
  ·exact .inl rfl
 ·intro g hg
  simp only[CB.fp,zO] at hg
  subst hg
  exact⟨by omega,.inl (zG _)⟩
 ·intro hx
  have:=VRel.pb (X:=C2 X nb (.cell false 0 ps) [] (.box X.w.heap.size []) w') (b:=nb) (o:=0) (p:=[]) (cb:=.box X.w.heap.size []) (g:=X.w.heap.size) (og:=0) (by simp[C2]) rfl (by simp[PIn]) (.inl rfl)
  simpa[Bd] using this
theorem O7(R:Rel E X)(hF:Of X nb){K:Ki}{l:List K.den}{cs:Array Value}{ty:TypeId}{fr:Nat×Nat}{c:Nat}{fps:List Nat}{ks:List Nat}(hks:∀b∈ks,∃x,look b X.s.st=some x)
  (hr:Az X.w (X.S none) K l (cs.toList.take (l.length*K.size)) fps) (hlc:l.length<=c) (hcs:c*K.size<=cs.size) (hfr:An4 fr cs.size) (hnd:fps.Nodup) (hfps:∀g∈fps,g<X.w.heap.size/\∃b x cb,b∈ks/\look b X.s.st=some x/\X.cm b=some cb/\g∈cb.fp)
  (hh:w'.heap=X.w.heap.push (.cells cs ty fr)) (h1:w'.os=X.w.os) (h2:w'.tape=X.w.tape) (h3:w'.output=X.w.output):
  ∃X',X'.w=w'/\Good E X nb (.sl nb) ((nb,some (.cell false 0 [.rw K l]))::Bv ks) (.slice (some ⟨X.w.heap.size,0,none⟩) l.length c) X':=by
 obtain⟨k1,k2,k3⟩:=Qr hh
 have hN:Gf E X nb (.cell false 0 [.rw K l]) ks (.row (some ⟨X.w.heap.size,0,none⟩) l.length c K.size (X.w.heap.size::fps)) w' (λ _=>False) (C2 X nb (.cell false 0 [.rw K l]) ks (.row (some ⟨X.w.heap.size,0,none⟩) l.length c K.size (X.w.heap.size::fps)) w'):=
  ⟨rfl,rfl,rfl,rfl,hF,hks,h1,h2,h3,by omega,λ g hg _=>k2 g hg,λ g hg=>hg.elim⟩
 refine⟨_,rfl,hN.good R ?_ ?_ ?_ ?_⟩
 ·intro hx
  refine .row rfl rfl ⟨_,_,rfl,.inr ⟨X.w.heap.size,0,cs.toList,fps,rfl,⟨ty,fr, ?_,hfr⟩,hlc,by simpa using hcs,rfl, ?_⟩⟩
  ·show w'.heap[X.w.heap.size]?=_
   rw[k3]
  ·exact Az.move (w:=X.w) (by simpa[seg] using hr) (hx.sts none) λ g hg=>k2 g (hfps g hg).1
 ·simp only[CB.fp,List.nodup_cons]
  exact⟨λ hm=>by have:=(hfps _ hm).1;omega,hnd⟩
 ·intro g hg
  simp only[CB.fp,xI] at hg
  rcases hg with rfl|hg
  ·exact⟨by omega,.inl (zG _)⟩
  ·obtain⟨q1,b,x,cb,q2,q3,q4,q5⟩:=hfps g hg
   exact⟨by omega,.inr ⟨b,x,cb,.inr q2,q3,q4,q5⟩⟩
 ·intro hx
  exact .sl (sz:=K.size) (fp:=X.w.heap.size::fps) (by simp[C2])
end Go.Ev
namespace Go.Ev
variable{R:Type}{E:Env}{X:Cx}{P:Program}{t:Nat}{ti:TyI}{w:World}
theorem VRel.one{a:AV}{v:Value}(h:VRel X a v)(hp:a.plain=true)(hu:a≠.un):v.oneCell'=true:=by
 cases h<;>first|rfl|(simp[AV.plain] at hp;done)|exact(hu rfl).elim|(rename_i h;exact Fd.one h)
theorem G0{a:AV}{v:Value}(h:VRel X a v)(hs:C0 a=true):PRs X (By a) v.cells.toList []/\(∀p∈By a,p.norw=true)/\(∀u∈v.cells.toList,u.oneCell'=true):=by
 have key:PRs X (By a) v.cells.toList []/\(∀p∈By a,p.norw=true):=by
  have pl:a.plain=true->a≠.un->PRs X (By a) v.cells.toList []/\(∀p∈By a,p.norw=true):=by
   intro hp hu
   have h1:=h.one hp hu
   have e1:By a=[a]:=by cases a<;>first|rfl|simp[AV.plain] at hp
   have e2:v.cells.toList=[v]:=by cases v<;>first|rfl|simp[Value.oneCell'] at h1
   rw[e1,e2]
   refine⟨.one hp h1 h .nil, ?_⟩
   intro p hp'
   simp only[zO] at hp'
   subst hp'
   cases p<;>first|rfl|simp[AV.plain] at hp
  cases h with
  | agg h1 h2=>exact⟨by simpa[By,Value.cells] using h1,h2⟩
  | arr h1 h2=>
   refine⟨?_,by simp[By];rfl⟩
   have:=PRs.arr (X:=X) h1 h2 .nil
   simpa[By,Value.cells] using this
  | un=>simp[C0] at hs
  | tup=>simp[C0,AV.plain] at hs
  | _=>exact pl rfl (by simp)
 exact⟨key.1,key.2,Oj key.1⟩
theorem Aii{c:Cfg}(hC:Bi P c=true){s:St}{o:Oper}{nb:Nat}{cont:Cj R}{r:R}(hop:o.op=.alloc t)(h:As c s o nb cont=some r):
  Res P c s o nb cont r λ s' k=>As c s' o nb k:=by
 simp only[As,hop] at h
 cases h1:tyI c t with
 | none=>rw[h1] at h;cases h
 | some ti=>
  rw[h1] at h
  simp only at h
  cases h2:look t c.bl with
  | none=>
   rw[h2] at h
   simp only at h
   refine⟨_,_,_,h, ?_,λ s' ha R' k=>by simp only[As,hop,h1,h2],trivial⟩
   intro E X ac hs hR hT hF next Q hn
   subst hs
   obtain⟨z,e1,e2,_⟩:=(Bs hC h1).zero (w:=X.w)
   obtain⟨p1,p2⟩:=P5 (X:=X) _ _ e2
   obtain⟨X',q1,q2⟩:=Aal (w':={X.w with heap:=X.w.heap.push (.cells z.cells t)}) hR hF p1 p2 rfl rfl rfl rfl
   unfold Oper.wp
   simp only[execOp,hop,Instr.alloc,Sem.run_bind,e1,Result.andThen_ok,newVar,newRow,run_newObj,Sem.run_pure,Oper.upon]
   have:=hn _ X' q2
   rw[q1] at this
   exact this
  | some u=>
   rw[h2] at h
   simp only at h
   split at h
   case h_2=>cases h
   rename_i K hz
   obtain⟨k1,h⟩:=An h
   have hne:t≠u:=by
    intro e
    rw[e,zX] at k1
    cases k1
   refine⟨_,_,_,h, ?_,λ s' ha R' k=>by simp only[As,hop,h1,h2,hz,k1,chk,cond_true],trivial⟩
   intro E X ac hs hR hT hF next Q hn
   subst hs
   obtain⟨z,e1,e2,_⟩:=(Bs hC h1).zero (w:=X.w)
   obtain⟨p1,p2⟩:=P5 (X:=X) _ _ e2
   have ez:z.cells= #[.pointer none,.slice none 0 0]:=by
    rw[hz] at p1
    have:z.cells.toList=[.pointer none,.slice none 0 0]:=by
     generalize z.cells.toList=cs at p1
     cases p1 with
     | one _ _ a3 a4=>
      cases a3
      cases a4 with
      | one _ _ b3 b4=>
       cases b3
       cases b4
       rfl
    rw[<-this,Array.toArray_toList]
   let w':World:={X.w with heap:=X.w.heap.push (.cells z.cells t)}
   have hh:w'.heap=X.w.heap.push (.cells z.cells t):=rfl
   obtain⟨j1,j2,j3⟩:=Qr hh
   have hN:Gf E X nb (.bld t u []) [] (.bld X.w.heap.size []) w' (λ _=>False) (C2 X nb (.bld t u []) [] (.bld X.w.heap.size []) w'):=
    ⟨rfl,rfl,rfl,rfl,hF,by simp,rfl,rfl,rfl,by omega,λ g hg _=>j2 g hg,λ g hg=>hg.elim⟩
   have hG:=hN.good (v:=.pb nb 0 []) (val:=.pointer (some ⟨X.w.heap.size,0,none⟩)) hR (λ _=>.bld ⟨.pointer none,.slice none 0 0,.inl rfl,by show w'.heap[X.w.heap.size]?=_;rw[j3,ez],World.ownsRow_nil _ _ _ _,rfl,hne⟩) (by simp[CB.fp])
    (λ g hg=>by
     simp only[CB.fp,zO] at hg
     subst hg
     exact⟨by omega,.inl (zG _)⟩)
    (λ hx=>by
     have:=VRel.pb (X:=C2 X nb (.bld t u []) [] (.bld X.w.heap.size []) w') (b:=nb) (o:=0) (p:=[]) (cb:=.bld X.w.heap.size []) (g:=X.w.heap.size) (og:=0) (by simp[C2]) rfl (by simp[PIn]) (.inl rfl)
     simpa[Bd] using this)
   unfold Oper.wp
   simp only[execOp,hop,Instr.alloc,Sem.run_bind,e1,Result.andThen_ok,newVar,newRow,run_newObj,Sem.run_pure,Oper.upon]
   exact hn _ _ (by simpa[Bv] using hG)
theorem Atf{c:Cfg}{s:St}{o:Oper}{nb:Nat}{cont:Cj R}{r:R}{x:Operand}(hop:o.op=.box t x)(h:As c s o nb cont=some r):
  Res P c s o nb cont r λ s' k=>As c s' o nb k:=by
 simp only[As,hop] at h
 cases h1:tyI c t with
 | none=>rw[h1] at h;cases h
 | some ti=>
  rw[h1] at h
  simp only at h
  obtain⟨k1,h⟩:=An h
  have k1':=k1
  simp only[zA] at k1'
  refine⟨_,_,_,h, ?_, ?_,trivial⟩
  ·intro E X ac hs hR hT hF next Q hn
   subst hs
   obtain⟨p1,p2,_⟩:=G0 (Bj hT x) k1'.1
   obtain⟨X',q1,q2⟩:=Aal (w':={X.w with heap:=X.w.heap.push (.cells (ac.eval x).cells t)}) hR hF p1 p2 rfl rfl rfl rfl
   unfold Oper.wp
   simp only[execOp,hop,Instr.box,Sem.run_bind,newVar,newRow,run_newObj,Result.andThen_ok,Sem.run_pure,Oper.upon]
   have:=hn _ X' q2
   rw[q1] at this
   exact this
  ·intro s' ha R' k
   simp only[As,hop,h1]
   rw[ha.ev x (by simp[hop,Op.operands])]
   simp only[k1,A1]
theorem Od:∀K:Ki,(Hu K).length=K.size:=λ K=>Bw (w:=default) (S:=λ _=>False) (Jh default (λ _=>False) (λ _=>False) true K)
theorem Adq{z:Array Value}{n:Nat}:((xD (n*z.size)).map (z[·%z.size]!)).toList=(zJ n z.toList).flatten:=by
 apply List.ext_getElem?
 intro i
 have hfl:∀(n i:Nat),((zJ n z.toList).flatten)[i]?=if i<n*z.size then z[i%z.size]? else none:=by
  intro n
  induction n with
  | zero=>intro i;simp
  | succ n ih=>
   intro i
   rw[yP,List.flatten_cons,List.getElem?_append]
   by_cases h:i<z.toList.length
   ·have h':i<z.size:=by simpa using h
    rw[if_pos h,Nat.mod_eq_of_lt h',if_pos (by rw[zV];omega)]
    simp
   ·have h':¬i<z.size:=by simpa using h
    rw[if_neg h,ih]
    have e:(i-z.toList.length)%z.size=i%z.size:=by
     rw[show z.toList.length=z.size by simp]
     conv=>rhs;rw[show i=i-z.size+z.size by omega,Nat.add_mod_right]
    rw[e]
    by_cases h2:i<(n+1)*z.size
    ·rw[if_pos h2,if_pos (by rw[zV] at h2;simp;omega)]
    ·rw[if_neg h2,if_neg (by rw[zV] at h2;simp;omega)]
 rw[hfl]
 simp only[Array.toList_map,yU,List.getElem?_map,List.getElem?_range']
 by_cases h:i<n*z.size
 ·rw[List.getElem?_range h,if_pos h]
  have hz:0<z.size:=by
   rcases Nat.eq_zero_or_pos z.size with h0|h0
   ·rw[h0] at h;simp at h
   ·exact h0
  have hm:i%z.size<z.size:=Nat.mod_lt _ hz
  rw[zQ,getElem!_pos z (i%z.size) hm,getElem?_pos z (i%z.size) hm]
 ·rw[if_neg h]
  simp[h]
end Go.Ev
namespace Go.Ev
variable{R:Type}{E:Env}{X:Cx}{P:Program}{t:Nat}{ti:TyI}{w:World}
theorem Aeg{n:Int}(h0:0<=n)(h1:n<9223372036854775808):IntKind.i64.wrap n=n:=by
 have e1:(2:Int)^IntKind.i64.bits=18446744073709551616:=by decide
 have e2:(2:Int)^(IntKind.i64.bits-1)=9223372036854775808:=by decide
 unfold IntKind.wrap
 simp only[e1,e2]
 have e:n%(18446744073709551616:Int)=n:=Int.emod_eq_of_lt h0 (by omega)
 simp only[e]
 rw[if_neg]
 simp
 intro _
 omega
theorem Zi{n b:Nat}(h:n<=Ap b):n*(b+1)<=70368744177664:=by
 unfold Ap at h
 exact zW (zI _ h) (Nat.div_mul_le_self _ _)
theorem Aln{te:TyI}{e:Nat}{K:Ki}(hu:P.underlying t=some (.slice e))(hTe:Db P e te)(hK:te.ki=some K){k k':IntKind}{n:Nat}(hn:n<=Ap te.bytes):
  ∃cs:Array Value,cs.toList=(zJ n (Hu K)).flatten/\(Instr.makeSlice t (.int k n) (.int k' n)).run P w=.ok (.slice (some ⟨w.heap.size,0,none⟩) n n) {w with heap:=w.heap.push (.cells cs e)}:=by
 obtain⟨i,z,i1,i2,i3,i4,i5,i6⟩:=hTe.i
 have hb:=Zi hn
 have hn':(n:Int)<9223372036854775808:=by
  have:n*1<=n*(te.bytes+1):=yS _ (by omega)
  omega
 have hw:IntKind.i64.wrap (n:Int)=(n:Int):=Aeg (by omega) hn'
 have hti:(typeInfo e).run P w=.ok i w:=by simp[typeInfo,i1]
 obtain⟨z',e1,e2,e3⟩:=hTe.zero (w:=w)
 obtain⟨k1,k2⟩:=e3 K hK
 have hbig:¬((i.bytes:Int)*(n:Int)>2^48):=by
  have:n*te.bytes<=n*(te.bytes+1):=yS _ (by omega)
  have h2:(i.bytes:Int)*(n:Int)=((n*te.bytes:Nat):Int):=by rw[i3];simp[Int.mul_comm]
  rw[h2]
  omega
 have hzs:z'.cells.size=te.sz:=by
  have:=Od K
  rw[k2,k1] at this
  simpa using this
 by_cases hz:n*te.sz=0
 ·refine⟨#[], ?_, ?_⟩
  ·rcases Nat.mul_eq_zero.1 hz with h|h
   ·subst h;simp
   ·have:Hu K=[]:=zR (by rw[Od,k1,h])
    rw[this]
    simp
  ·simp only[Instr.makeSlice,Sem.run_bind,Ay hu,Result.andThen_ok,asInt,asIntOf,Sem.run_pure,hti,hw,hTe.size]
   simp only[show¬((n:Int)<0) by omega,decide_false,xJ,decide_eq_true_eq,hbig,show¬((n:Int)>(n:Int)) by omega,or_self,if_false,zL,run_askRoom,yW,hTe.size,hz,if_true,Sem.run_pure,Result.andThen_ok,Sem.run_bind,Sem.run_ite]
   simp only[newRow,Sem.run_bind,run_newObj,Result.andThen_ok,Sem.run_pure]
   simp[hTe.size,hz]
   have e0:(xD 0).map (λ _:Nat=>(default:Value))= #[]:=by apply yD;simp[yU]
   rw[e0]
 ·refine⟨(xD (n*te.sz)).map (z'.cells[·%z'.cells.size]!), ?_, ?_⟩
  ·rw[k2,<-hzs];exact Adq
  ·simp only[Instr.makeSlice,Sem.run_bind,Ay hu,Result.andThen_ok,asInt,asIntOf,Sem.run_pure,hti,hw,hTe.size]
   simp only[show¬((n:Int)<0) by omega,decide_false,xJ,decide_eq_true_eq,hbig,show¬((n:Int)>(n:Int)) by omega,or_self,if_false,zL,run_askRoom,yW,hTe.size,hz,e1,Sem.run_pure,Result.andThen_ok,Sem.run_bind,Sem.run_ite]
   simp[newRow,hTe.size,hz,e1]
theorem Aci(w:World)(Z:Nat->Prop)(K:Ki)(n:Nat):Az w Z K (zJ n K.zero) (zJ n (Hu K)).flatten []:=Gg (Jh _ _ _ _ K) n
theorem Wi{s:St}{o:Oper}{nb:Nat}{te:TyI}{e:Nat}{K:Ki}{x y:Operand}(hop:o.op=.makeSlice t x y)(hu:P.underlying t=some (.slice e))(hTe:Db P e te)(hK:te.ki=some K){n:Int}
  (hx:∀X a,X.s=s->Jj X a->(∃k,a.eval x=.int k n)/\∃k,a.eval y=.int k n) (h0:0<=n) (hn:n.toNat<=Ap te.bytes):
  Xb P s o nb (.sl nb) [(nb,some (.cell false 0 [.rw K (zJ n.toNat K.zero)]))]:=by
 intro E X ac hs hR hT hF next Q hnx
 obtain⟨⟨k,e1⟩,k',e2⟩:=hx X ac hs hT
 have hnn:n=(n.toNat:Int):=by omega
 rw[hnn] at e1 e2
 obtain⟨cs,q1,q2⟩:=Aln (P:=P) (w:=X.w) hu hTe hK (k:=k) (k':=k') hn
 have hlen:cs.size=n.toNat*K.size:=by
  have:=congrArg zK q1
  rw[If (λ x c f hx=>Bw hx) (Aci X.w (X.S none) K n.toNat)] at this
  simpa using this
 obtain⟨X',r1,r2⟩:=O7 (w':={X.w with heap:=X.w.heap.push (.cells cs e)}) (K:=K) (l:=zJ n.toNat K.zero) (cs:=cs) (fr:=(0,0)) (c:=n.toNat) (fps:=[]) (ks:=[]) hR hF (by simp)
  (by
   rw[yJ (by simp[hlen]),q1]
   exact Aci X.w (X.S none) K n.toNat) (by simp) (by omega) (.inl rfl) (by simp) (by simp) rfl rfl rfl rfl
 unfold Oper.wp
 simp only[execOp,hop,e1,e2,Sem.run_bind,q2,Result.andThen_ok,Sem.run_pure,Oper.upon]
 have:=hnx _ X' (by simpa[Bv] using r2)
 rw[r1] at this
 simpa using this
theorem X4{c:Cfg}(hC:Bi P c=true){s:St}{o:Oper}{nb:Nat}{cont:Cj R}{r:R}{x y:Operand}(hop:o.op=.makeSlice t x y)(h:As c s o nb cont=some r):
  Res P c s o nb cont r λ s' k=>As c s' o nb k:=by
 cases x with
 | tmp a=>
  cases y with
  | tmp b=>
   simp only[As,hop] at h
   split at h
   case h_2=>cases h
   rename_i ti k n ht hn
   split at h
   case h_2=>cases h
   rename_i te hte
   split at h
   case h_2=>cases h
   rename_i K hK
   obtain⟨k1,h1⟩:=An h
   obtain⟨k2,h2⟩:=An h1
   obtain⟨k3,hc⟩:=An h2
   clear h h1 h2
   have k1':=k1
   have k2':=k2
   simp only[zA,decide_eq_true_eq] at k1' k2'
   have hab:=z9 k1'.2
   subst hab
   refine⟨_,_,_,hc,Wi hop ((Bs hC ht).slice k1'.1) (Bs hC hte) hK ?_ k2' (zH k3), ?_,trivial⟩
   ·intro X ac hs hT
    subst hs
    have:=Bj hT (.tmp a)
    rw[hn] at this
    generalize hv:ac.eval (.tmp a)=v at this
    cases this
    exact⟨⟨_,rfl⟩,_,rfl⟩
   ·intro s' ha R' k0
    simp only[As,hop]
    rw[ha.ev (.tmp a) (by simp[hop,Op.operands]),ht,hn]
    simp only[hte,hK,k1,k2,k3,A1]
  | _=>simp[As,hop,Ey] at h
 | const a=>
  cases y with
  | const b=>
   simp only[As,hop] at h
   split at h
   case h_2=>cases h
   rename_i ti k n k' m ht hn hm
   split at h
   case h_2=>cases h
   rename_i te hte
   split at h
   case h_2=>cases h
   rename_i K hK
   obtain⟨k1,h1⟩:=An h
   obtain⟨k2,h2⟩:=An h1
   obtain⟨k3,hc⟩:=An h2
   clear h h1 h2
   have k1':=k1
   have k2':=k2
   simp only[zA,decide_eq_true_eq,beq_iff_eq] at k1' k2'
   obtain⟨k11,rfl⟩:=k1'
   refine⟨_,_,_,hc,Wi hop ((Bs hC ht).slice k11) (Bs hC hte) hK ?_ k2' (zH k3), ?_,trivial⟩
   ·intro X ac hs hT
    have h1:=Nr (X:=X) a
    have h2:=Nr (X:=X) b
    rw[hn] at h1
    rw[hm] at h2
    simp only[Act.eval]
    cases h1
    cases h2
    exact⟨⟨_,rfl⟩,_,rfl⟩
   ·intro s' ha R' k0
    simp only[As,hop,ht,hn,hm,hte,hK,k1,k2,k3,A1]
  | _=>simp[As,hop,Ey] at h
 | _=>simp[As,hop,Ey] at h
end Go.Ev
namespace Go.Ev
variable{R:Type}{E:Env}{X:Cx}{P:Program}{t:Nat}{ti:TyI}{w:World}
structure Ve(X:Cx)(K:Ki)(l:List K.den)(av:Value):Prop where
 out:∃A c,av=.slice A l.length c/\l.length<=c/\(l.length=0\/∃g o cur ty fr S,A=some ⟨g,o,none⟩/\X.w.heap[g]?=some (.cells cur ty fr)/\o+l.length*K.size<=cur.size/\
  Cv (Rep X.w S (X.S none) K false) l (seg cur.toList o (l.length*K.size)) [])
theorem Qc{K:Ki}{l:List K.den}{S:Nat->Prop}{A:Option Addr}{c n:Nat}(hn:n=l.length)(h:RoS X.w S K.size n (λ cs=>Cv (Rep X.w S (X.S none) K false) l cs []) (.slice A n c)):Ve X K l (.slice A n c):=by
 obtain⟨A',c',e,hc,h⟩:=h
 cases e
 subst hn
 refine⟨A,c,rfl,hc, ?_⟩
 rcases h with h|⟨g,o,cur,ty,fr,q1,_,q3,q4,q5⟩
 ·exact .inl h
 ·exact .inr ⟨g,o,cur,ty,fr,S,q1,q3,q4,q5⟩
theorem Zu(R:Rel E X){K:Ki}{a:AV}{av:Value}{l:List K.den}(hv:VRel X a av)(h:Iy X.s K a=some l):Ve X K l av:=by
 cases hv<;>simp only[Iy] at h<;>(try cases h)
 ·exact⟨none,0,rfl,by simp,.inl rfl⟩
 ·exact⟨none,0,rfl,by simp,.inl rfl⟩
 ·rename_i b A n c sz fp hc
  split at h
  case h_2=>cases h
  rename_i K' l' hrow
  obtain⟨ro,ver,K2,l2,hl,e⟩:=B6 hrow
  cases e
  obtain⟨rfl,rfl⟩:=Gj h
  obtain⟨A',cc,fp',u1,u2,u3,u4⟩:=Cd R hl
  rw[u1] at hc
  cases hc
  obtain⟨_,_,k3⟩:=u2.ro (S:=λ _=>True) rfl (by simp)
  exact Qc rfl k3
 ·rename_i b o A A' n c sz fp hc ho
  split at h
  case h_2=>cases h
  rename_i K' l' hrow
  split at h
  case h_2=>cases h
  rename_i l2 hcast
  simp only[zC] at h
  subst h
  exact⟨A',0,by simp,by simp,.inl (by simp)⟩
 ·rename_i b o m g og n c c' sz fp hc h1 h2 h3
  split at h
  case h_2=>cases h
  rename_i K' l' hrow
  split at h
  case h_2=>cases h
  rename_i l2 hcast
  simp only[zC] at h
  subst h
  obtain⟨ro,ver,K2,l3,hl,e⟩:=B6 hrow
  cases e
  obtain⟨rfl,rfl⟩:=Gj hcast
  obtain⟨A',cc,fp',u1,u2,u3,u4⟩:=Cd R hl
  rw[u1] at hc
  cases hc
  simp only
  have hlen:((l'.drop o).take m).length=m:=by simp;omega
  obtain⟨A2,c2,e,u2⟩:=u2
  cases e
  refine⟨_,c',by rw[hlen],by omega, ?_⟩
  by_cases hm:m=0
  ·exact .inl (by omega)
  rcases u2 with⟨z,_⟩|⟨g',o',cur,fps,q1,q2,q3,q4,q5,q6⟩
  ·omega
  cases q1
  obtain⟨ty,fr,hg,_⟩:=q2
  have hmul:o*K'.size+m*K'.size<=l'.length*K'.size:=by rw[<-yM];exact zI _ h1
  have hmul2:=zI K'.size q3
  refine .inr ⟨g,og+o*K'.size,cur.toArray,ty,fr,λ _=>True,rfl,hg,by rw[hlen];simp;omega, ?_⟩
  have hro:=q6.ro (S:=λ _=>True) (by simp)
  obtain⟨f1,f2,e1,r1,r2⟩:=Ep (λ x c f hx=>Bw hx) o hro
  have e2:f2=[]:=(List.append_eq_nil_iff.1 e1.symm).2
  subst e2
  obtain⟨f3,f4,e3,r3,r4⟩:=Ep (λ x c f hx=>Bw hx) m r2
  have e4:f3=[]:=(List.append_eq_nil_iff.1 e3.symm).1
  subst e4
  rw[hlen]
  have:seg cur.toArray.toList (og+o*K'.size) (m*K'.size)=((seg cur og (l'.length*K'.size)).drop (o*K'.size)).take (m*K'.size):=by
   simp only[seg,yA,yN,yO]
   congr 1
   omega
  rw[this]
  exact r3
 ·rename_i q K' l' A c h1 h2 h3 h4
  cases hval:valid X.s q<;>rw[hval] at h<;>simp only[cond_true,cond_false] at h
  ·cases h
  obtain⟨rfl,rfl⟩:=Gj h
  exact Qc rfl (h4 hval)
 ·rename_i b v i f K' l' A c h1 h2 h3 h4
  cases hval:valid X.s (.ver b v)<;>rw[hval] at h<;>simp only[cond_true,cond_false] at h
  ·cases h
  obtain⟨rfl,rfl⟩:=Gj h
  obtain⟨cb,f',hc,how,hfp⟩:=W9 R (h4 hval)
  obtain⟨_,_,k3⟩:=how.ro (S:=λ _=>True) rfl (by simp)
  exact Qc rfl k3
theorem Ql{s s':St}{K:Ki}{a:AV}(hs:∀b∈Lu a,look b s'.st=look b s.st):Iy s' K a=Iy s K a:=by
 cases a<;>simp only[Iy]
 ·rw[Cc (hs _ (by simp[Lu]))]
 ·rw[Cc (hs _ (by simp[Lu]))]
 ·rename_i q K' l
  rw[Id (q:=q) (s:=s) λ b hb=>hs b (by cases q<;>simp[Jb] at hb;simp[Lu,hb])]
 ·rename_i b v i f K' l
  rw[Id (q:=.ver b v) (s:=s) λ b' hb=>hs b' (by simp[Jb] at hb;simp[Lu,hb])]
theorem Abl{w:World}{S Z:Nat->Prop}{k:IntKind}{o:Bool}:∀{l:List Int} {cs:List Value} {fp:List Nat},Cv (Rep w S Z (.int k) o) l cs fp->cs=l.map (Value.int k)/\fp=[]
 | [],_,_,h=>⟨h.1,h.2⟩
 | x::l,_,_,⟨c1,c2,f1,f2,e1,e2,hx,hl⟩=>by
  obtain⟨h1,h2⟩:=Abl hl
  rw[e1,e2,hx.1,hx.2,h1,h2]
  exact⟨rfl,rfl⟩
theorem T0{w:World}{Z:Nat->Prop}{k:IntKind}:∀l:List Int,Az w Z (.int k) l (l.map (Value.int k)) []
 | []=>⟨rfl,rfl⟩
 | x::l=>⟨[.int k x],l.map (Value.int k),[],[],rfl,rfl,⟨rfl,rfl⟩,T0 l⟩
theorem Tq:∀(ns:List Int) (s:ByteArray),ns.foldl (λ r n=>r.push (UInt8.ofNat n.toNat)) s=⟨⟨s.data.toList++C9 ns⟩⟩
 | [],s=>by
  obtain⟨⟨l⟩⟩:=s
  simp[C9]
 | n::ns,s=>by
  rw[xF,Tq ns]
  simp[C9,ByteArray.push]
theorem Ve.ints{k:IntKind}{l:List Int}{av:Value}(h:Ve X (.int k) l av):
  ∃A c,av=.slice A (zK (α:=Int) l) c/\(zK (α:=Int) l=0\/∃g o cur ty fr,A=some ⟨g,o,none⟩/\X.w.heap[g]?=some (.cells cur ty fr)/\o+zK (α:=Int) l<=cur.size/\
   seg cur.toList o (zK (α:=Int) l)=xM (α:=Int) (Value.int k) l):=by
 obtain⟨A,c,h1,hc,h⟩:=h.out
 refine⟨A,c,h1, ?_⟩
 rcases h with h|⟨g,o,cur,ty,fr,S,h2,hg,hle,hr⟩
 ·exact .inl h
 ·refine .inr ⟨g,o,cur,ty,fr,h2,hg, ?_, ?_⟩
  ·have:o+zK (α:=Int) l*1<=cur.size:=hle
   omega
  ·have e:seg cur.toList o (zK (α:=Int) l*1)=xM (α:=Int) (Value.int k) l:=(Abl hr).1
   rwa[Nat.mul_one] at e
theorem U6{l:List Int}{av:Value}(h:Ve X (.int .u8) l av):(Conv.bytesToString av).run P X.w=.ok (.string ⟨⟨C9 l⟩⟩) X.w:=by
 obtain⟨A,c,e,h'⟩:=h.ints
 clear h
 subst e
 rcases h' with h|⟨g,o,cur,ty,fr,rfl,hg,hle,hr⟩
 ·have h0:l=[]:=zR h
  subst h0
  cases A with
  | none=>rfl
  | some a=>
   have:=run_bytesToString (P:=P) X.w a 0 c [] (by simp[loadCells,loadCellsFrom])
   exact this
 ·have hl:=G5 (P:=P) hg o l.length hle
  rw[hr] at hl
  have h2:=run_bytesToString (P:=P) X.w ⟨g,o,none⟩ l.length c l hl
  rw[Tq] at h2
  exact h2
theorem Db.byte{te:TyI}{e:Nat}(h:Db P e te)(hb:Nk te=true):P.underlying e=some (.int .u8):=by
 unfold Nk at hb
 split at hb
 ·rename_i hk;exact h.int hk
 ·cases hb
end Go.Ev
namespace Go.Ev
variable{R:Type}{E:Env}{X:Cx}{P:Program}{t:Nat}{ti:TyI}{w:World}
theorem Aa7{α:Type}(a:Array α)(x:α)(f:α->α):(a.push x).modify a.size f=a.push (f x):=by
 apply Array.ext_getElem?
 intro i
 rw[Array.getElem?_modify,Array.getElem?_push,Array.getElem?_push]
 by_cases h:i=a.size
 ·subst h;simp
 ·have h':¬a.size=i:=λ e=>h e.symm
  simp[h,h']
theorem U7(e:Nat)(l:List UInt8):∃(c:Nat) (cs:Array Value) (w':World),l.length<=c/\c<=cs.size/\cs.toList.take l.length=(B8 l).map (Value.int .u8)/\
    (Conv.stringToBytes e ⟨⟨l⟩⟩).run P w=.ok (.slice (some ⟨w.heap.size,0,none⟩) l.length c) w'/\
    w'.heap=w.heap.push (.cells cs e (cs.size,cs.size+1))/\w'.os=w.os/\w'.tape=w.tape/\w'.output=w.output:=by
  have hsz:(⟨⟨l⟩⟩:ByteArray).size=l.length:=rfl
  let c:=(Question.appendCap l.length 0 e).cut (w.tape w.drawn (.appendCap l.length 0 e))
  let cs:Array Value:=(⟨⟨l⟩⟩:ByteArray).data.map (λ b=>Value.int .u8 b.toNat)++Array.replicate (c-l.length) (.int .u8 0)
  have hc:l.length<=c:=by simp only[c,Question.cut];omega
  have hcs:cs.size=c:=by simp[cs];omega
  let w1:World:={w with drawn:=w.drawn+1}
  let w2:World:={w1 with heap:=w1.heap.push (.cells cs e)}
  let w3:=w2.freeze {block:=w.heap.size,off:=cs.size} 1
  have hw3:w3.heap=w.heap.push (.cells cs e (cs.size,cs.size+1)):=by
    show(w2.freeze {block:=w.heap.size,off:=cs.size} 1).heap=_
    simp only[World.freeze,Nat.one_ne_zero,if_false]
    show(w.heap.push (.cells cs e)).modify w.heap.size _=_
    rw[Aa7]
    rfl
  refine⟨c,cs,w3,hc,by omega, ?_, ?_,hw3, ?_, ?_, ?_⟩
  · simp[cs,B8]
  · have h1:(choose (.appendCap l.length 0 e)).run P w=.ok c w1:=by
      simp only[choose,Sem.run,Question.forced,zL,if_false]
      rfl
    simp only[Conv.stringToBytes,Sem.run_bind,hsz,h1,Result.andThen_ok,newRow,run_newObj,Sem.run_pure,markStringish,run_shape]
    have h2:w2.shape? w.heap.size=some (e,cs.size):=by
      show(match(w.heap.push (.cells cs e))[w.heap.size]? with|some (.cells c elem _)=>some (elem,c.size)|_=>none)=_
      simp
    have h3:(World.shape? {heap:=w1.heap.push (Obj.cells cs e),tape:=w1.tape,drawn:=w1.drawn,os:=w1.os,output:=w1.output} w1.heap.size)=some (e,cs.size):=h2
    rw[h3]
    simp only[Sem.run_bind,run_freeze,Result.andThen_ok,Sem.run_pure]
    rfl
  · show w3.os=_;simp only[w3,World.freeze];rfl
  · show w3.tape=_;simp only[w3,World.freeze];rfl
  · show w3.output=_;simp only[w3,World.freeze];rfl
end Go.Ev
namespace Go.Ev
variable{R:Type}{E:Env}{X:Cx}{P:Program}{t:Nat}{ti:TyI}{w:World}
theorem Aae(off:Nat):∀(vs:List Value) (j:Nat) (cs:Array Value),off+j+vs.length<=cs.size->
  ((vs.zipIdx j).foldl (λ(cs:Array Value) (x:Value×Nat)=>cs.setIfInBounds (off+x.2) x.1) cs).toList=Bl cs.toList (off+j) vs
 | [],j,cs,_=>by simp[Bl]
 | v::vs,j,cs,h=>by
  simp only[List.zipIdx_cons,xF]
  simp only[zT] at h
  rw[Aae off vs (j+1) _ (by simp;omega)]
  simp only[Bl,Array.toList_setIfInBounds]
  have hlt:off+j<cs.toList.length:=by simp;omega
  rw[show off+(j+1)=off+j+1 by omega,xG,xH]
  simp only[zT]
  rw[if_pos (by omega),show off+j+1+vs.length=off+j+(vs.length+1) by omega,zZ hlt,yK _ _ (by simp;omega)]
  have hmin:min (off+j) cs.toList.length=off+j:=yG (by omega)
  simp only[List.length_take,hmin,yV,List.set_cons_zero,zD,List.singleton_append,yZ,xE]
theorem Qo{place:Nat->Option (Nat×Nat)}{cells:Array Value}{i off size:Nat}{v:Value}{rest:List (Nat×Value)}(hp:place i=some (off,size))(hs:v.cells.size=size)(hle:off+size<=cells.size):
  ∃cells':Array Value,cells'.toList=Bl cells.toList off v.cells.toList/\Instr.fill place cells ((i,v)::rest)=Instr.fill place cells' rest:=by
 refine⟨v.cells.zipIdx.foldl (λ cs (c,j)=>cs.setIfInBounds (off+j) c) cells, ?_, ?_⟩
 ·have:=Aae off v.cells.toList 0 cells (by simp;omega)
  rw[xL] at this
  rw[<-this]
  congr 1
  rw[<-Array.foldl_toList,Array.toList_zipIdx]
 ·have h1:¬(v.cells.size≠size||off+v.cells.size>cells.size)=true:=by simp[hs];omega
  rw[Instr.fill,hp]
  simp only
  rw[if_neg h1]
theorem Zc.pure{ps':List AV}{cs:List Value}{o n:Nat}{nc:List Value}(h:Zc X ps' cs [] o n nc [])(hn:nc.length=n):PRs X ps' (Bl cs o nc) []/\(∀a∈ps',a.norw=true)/\o+n<=cs.length:=by
 obtain⟨c1,c2,c3,f1,f2,f3,e1,e2,e3,e4,e5,e6⟩:=h.out
 have e7:f1=[]/\f2=[]/\f3=[]:=by
  have:=e2.symm
  simp only[zY] at this
  exact⟨this.1.1,this.1.2,this.2⟩
 obtain⟨rfl,rfl,rfl⟩:=e7
 refine⟨?_,e6, ?_⟩
 ·rw[e1,<-e3,Ib _ _ _ _ (by omega)]
  simpa using e5
 ·rw[e1];simp;omega
inductive Og (X:Cx):List (Nat×AV)->List (Nat×Value)->Prop
 | nil:Og X [] []
 | cons {i:Nat} {a:AV} {v:Value} {as:List (Nat×AV)} {vs:List (Nat×Value)}:VRel X a v->Og X as vs->Og X ((i,a)::as) ((i,v)::vs)
theorem Mj{ac:Act}(hT:Jj X ac):∀l:List (Nat×Operand),Og X (l.map λ x=>(x.1,ev X.s x.2)) (l.map λ x=>(x.1,ac.eval x.2))
 | []=>.nil
 | y::l=>.cons (Bj hT y.2) (Mj hT l)
theorem Mx{fs:List Field}{sz:Nat}{offs:List Nat}{place:Nat->Option (Nat×Nat)}(ho:F0 P sz fs offs 0=true)
  (hplace:∀(i:Nat) (fd:Field) (j:TypeInfo),fs[i]?=some fd->P.info? fd.type=some j->place i=some (fd.offset,j.size)):
  ∀{as:List (Nat×AV)} {vs:List (Nat×Value)} {ps qs:List AV} {cells:Array Value},Og X as vs->PRs X ps cells.toList []->(∀a∈ps,a.norw=true)->Ih sz offs as ps=some qs->
   ∃cells',Instr.fill place cells vs=some cells'/\PRs X qs cells'.toList []/\(∀a∈qs,a.norw=true)
 | _,_,ps,qs,cells,.nil,hp,hn,h=>by
  simp only[Ih,zC] at h
  subst h
  exact⟨cells,rfl,hp,hn⟩
 | _,_,ps,qs,cells, @Og.cons _ i a v as vs h1 h2,hp,hn,h=>by
  simp only[Ih] at h
  cases hi:offs[i]? with
  | none=>rw[hi] at h;cases h
  | some off=>
   rw[hi] at h
   simp only at h
   cases hb:(C0 a&&zB (Kg (By a)) (J0 sz offs i))<;>rw[hb] at h<;>simp only[cond_true,cond_false] at h
   ·cases h
   simp only[zA] at hb
   have hsz:=z9 hb.2
   cases hq:E4 off ps (Kg (By a)) (By a) with
   | none=>rw[hq] at h;cases h
   | some qs1=>
    rw[hq] at h
    simp only at h
    obtain⟨p1,p2,p3⟩:=G0 h1 hb.1
    have hlen:=Ly p1 p2
    obtain⟨fd,j,q1,q2,q3,q4,q5,q6⟩:=Yc ho hi
    have hW:=Lq hp hn p1 p2 hq
    obtain⟨r1,r2,r3⟩:=hW.pure hlen
    obtain⟨cells',e1,e2⟩:=Qo (place:=place) (cells:=cells) (v:=v) (rest:=vs) (hplace i fd j q1 q3) (by simp at hlen;omega) (by simp at r3 hlen;omega)
    rw[q2] at e1
    rw[<-e1] at r1
    obtain⟨c2,k1,k2,k3⟩:=Mx ho hplace h2 r1 r2 h
    exact⟨c2,by rw[e2];exact k1,k2,k3⟩
theorem Ad0{fs:List Field}(h:∀f∈fs,∃j,P.info? f.type=some j):
  ∃pl:Array (Nat×Nat),((fs.toArray).mapM λ f=>do pure (f.offset,<-sizeOf f.type):Sem (Array (Nat×Nat))).run P w=.ok pl w/\∀(i:Nat) (fd:Field) (j:TypeInfo),fs[i]?=some fd->P.info? fd.type=some j->pl[i]?=some (fd.offset,j.size):=by
 have key:∀fs:List Field,(∀f∈fs,∃j,P.info? f.type=some j)->∃pl:List (Nat×Nat),(fs.mapM λ f=>do pure (f.offset,<-sizeOf f.type):Sem (List (Nat×Nat))).run P w=.ok pl w/\∀(i:Nat) (fd:Field) (j:TypeInfo),fs[i]?=some fd->P.info? fd.type=some j->pl[i]?=some (fd.offset,j.size):=by
  intro fs
  induction fs with
  | nil=>intro _;exact⟨[],rfl,by simp⟩
  | cons f fs ih=>
   intro h
   obtain⟨j,hj⟩:=h f (by simp)
   obtain⟨pl,e1,e2⟩:=ih λ g hg=>h g (by simp[hg])
   refine⟨(f.offset,j.size)::pl, ?_, ?_⟩
   ·have hs:(sizeOf f.type).run P w=.ok j.size w:=by simp[sizeOf,typeInfo,hj]
    simp only[List.mapM_cons,Sem.run_bind,hs,Result.andThen_ok,Sem.run_pure]
    rw[e1]
    rfl
   ·intro i fd j' hi hj'
    cases i with
    | zero=>simp at hi;subst hi;rw[hj] at hj';cases hj';rfl
    | succ i=>simpa using e2 i fd j' (by simpa using hi) hj'
 obtain⟨pl,e1,e2⟩:=key fs h
 refine⟨pl.toArray, ?_,by simpa using e2⟩
 rw[List.mapM_toArray]
 simp only[Sem.run_map,e1,Result.andThen_ok]
theorem Wk:∀{fs:List Field} {offs:List Nat} {sz o:Nat},F0 P sz fs offs o=true->∀f∈fs,∃j,P.info? f.type=some j
 | [],_,_,_,_,f,hf=>by simp at hf
 | g::fs,[],_,_,h,f,hf=>by simp[F0] at h
 | g::fs,p::ps,sz,o,h,f,hf=>by
  simp only[F0,zA] at h
  obtain⟨_,h3⟩:=h
  split at h3
  ·rename_i j hj
   simp only[zA] at h3
   rcases List.mem_cons.1 hf with rfl|hf
   ·exact⟨j,hj⟩
   ·exact Wk h3.2 f hf
  ·cases h3
end Go.Ev
