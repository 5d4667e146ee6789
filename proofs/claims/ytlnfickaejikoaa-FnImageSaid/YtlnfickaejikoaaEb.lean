/- An abstract evaluator of Go code over plain data, and the proof that what it says of a function comes to pass. Part 2. -/
import Derived.Test.YtlnfickaejikoaaEa
import Derived.Below
import Derived.Orders
import Derived.Lib.UnsafeStr
import Derived.MapKept
import Derived.Laws.Strings
import Derived.Laws.BytesString
open Nat renaming eq_of_beq_eq_true->z8,beq->zA,le_refl->zF,le_of_ble_eq_true->zG,mul_le_mul_right->zH,ble->zM,lt_of_lt_of_le->zT,succ_mul->zU,le_trans->zV,beq_refl->zW,min_eq_left->yF,add_mul->yL,mul_le_mul_left->yR,sub_self->yU,zero_add->xJ,add_zero->xK
open Bool renaming and_eq_true->z9,false_eq_true->zK,and_self->zR,not_eq_true'->yA,false_or->xI
open Option.some renaming injEq->zB,inj->yH
open List renaming append_assoc->zC,length_append->zD,reverse_cons->zE,replicate->zI,length->zJ,mem_singleton->zN,mem_cons_self->zO,eq_nil_of_length_eq_zero->zQ,length_cons->zS,append_eq_nil_iff->zX,take_succ_eq_append_getElem->zY,drop_take->zZ,append_cancel_right->yB,reverse_nil->yD,map_toArray->yE,mem_append->yG,take_of_length_le->yI,set_append_right->yJ,length_replicate->yK,drop_drop->yM,take_take->yN,replicate_succ->yO,map_cons->yP,map_congr_left->yQ,take_append->yW,drop_append->yX,cons_append->yY,isEmpty_iff->yZ,all_eq_true->xA,nil_append->xD,foldl_cons->xE,take_set->xF,drop_set->xG,mem_cons->xH,map->xL
open Prod.mk renaming injEq->zL
open Option renaming map_some->zP,isSome_none->yS,getD_some->xB
open Array renaming ext'->yC,toList_range->yT,range->xC
open Int renaming toNat_natCast->yV
set_option linter.unusedVariables false
set_option linter.unusedSimpArgs false
namespace Go.Ev
open Go.RowKit
def Aqj(fr:Nat×Nat)(n:Nat):Prop:=fr.1=fr.2\/n<=fr.1
theorem Aqj.out{fr:Nat×Nat}{n i:Nat}(h:Aqj fr n)(hi:i<n):¬(fr.1<=i/\i<fr.2):=by
 rcases h with h|h<;>omega
def F8(w:World)(g:Nat)(cur:List Value):Prop:=∃t fr,w.heap[g]?=some (.cells cur.toArray t fr)/\Aqj fr cur.length
theorem F8.lt{w:World}{g:Nat}{cur:List Value}(h:F8 w g cur):g<w.heap.size:=by
 obtain⟨t,fr,h,_⟩:=h
 exact(Array.getElem?_eq_some_iff.1 h).1
theorem F8.same{w w':World}{g:Nat}{cur:List Value}(h:F8 w g cur)(e:w'.heap[g]?=w.heap[g]?):F8 w' g cur:=by
 obtain⟨t,fr,h,ht⟩:=h
 exact⟨t,fr,e.trans h,ht⟩
def B9(w:World)(g:Nat)(cur:List Value):World:=
 {w with heap:=w.heap.modify g λ
   | .cells _ t fr=>.cells cur.toArray t fr
   | o=>o}
theorem Do(w:World)(g:Nat)(cur:List Value)(k:Nat)(h:k≠g):(B9 w g cur).heap[k]?=w.heap[k]?:=by
 simp only[B9,Array.getElem?_modify]
 rw[if_neg (λ e=>h e.symm)]
theorem D6(w:World)(g:Nat)(cur:List Value):(B9 w g cur).heap.size=w.heap.size:=by simp[B9]
theorem Gr{w:World}{g:Nat}{cur:List Value}(h:F8 w g cur)(cur':List Value)(hl:cur'.length=cur.length):F8 (B9 w g cur') g cur':=by
 obtain⟨t,fr,hg,ht⟩:=h
 refine⟨t,fr, ?_,hl▸ht⟩
 simp only[B9,Array.getElem?_modify,if_true,hg,zP]
def seg(cur:List Value)(o n:Nat):List Value:=(cur.drop o).take n
def Bl(cur:List Value)(o:Nat)(vs:List Value):List Value:=cur.take o++vs++cur.drop (o+vs.length)
theorem Da(cur:List Value)(o:Nat)(vs:List Value)(h:o+vs.length<=cur.length):(Bl cur o vs).length=cur.length:=by
 simp[Bl];omega
theorem Is(a b c d:List Value)(h:b.length=d.length):Bl (a++b++c) a.length d=a++d++c:=by
 simp only[Bl,<-h]
 simp[yW,yX]
theorem Awv(a b c:List Value):seg (a++b++c) a.length b.length=b:=by
 simp[seg,yX,yW]
theorem T6(a b c:List Value)(o n:Nat)(ho:o=a.length)(hn:n=b.length):seg (a++b++c) o n=b:=by
 subst ho hn;exact Awv a b c
theorem Cy(g o i:Nat):(⟨g,o,none⟩:Addr).add i=⟨g,o+i,none⟩:=by
 unfold Addr.add
 split
 ·subst_vars;rfl
 ·rfl
theorem Hk{w:World}{g:Nat}{cur:Array Value}{t:TypeId}{fr:Nat×Nat}(h:w.heap[g]?=some (.cells cur t fr))(o:Nat):w.cell? ⟨g,o,none⟩=cur[o]?:=by
 simp[World.cell?,h]
theorem Qt{P:Program}{w:World}{g:Nat}{cur:Array Value}{t:TypeId}{fr:Nat×Nat}(h:w.heap[g]?=some (.cells cur t fr))(o:Nat):
  ∀(n i:Nat) (acc:Array Value),o+i+n<=cur.size->
   (loadCellsFrom ⟨g,o,none⟩ i n acc).run P w=.ok (acc++(seg cur.toList (o+i) n).toArray) w
 | 0,i,acc,_=>by simp[loadCellsFrom,seg]
 | n+1,i,acc,hn=>by
  have hlt:o+i<cur.size:=by omega
  have hc:w.cell? ⟨g,o+i,none⟩=some cur[o+i]:=by rw[Hk h];simp[hlt]
  simp only[loadCellsFrom,Cy,Sem.run_bind,run_load,hc,Result.andThen_ok]
  rw[Qt h o n (i+1) _ (by omega)]
  congr 1
  simp only[seg]
  rw[show o+(i+1)=o+i+1 by omega]
  rw[List.drop_eq_getElem_cons (l:=cur.toList) (i:=o+i) (by simpa using hlt)]
  simp only[List.take_succ_cons]
  apply yC
  simp
theorem He{P:Program}{w:World}{g:Nat}{cur:Array Value}{t:TypeId}{fr:Nat×Nat}(h:w.heap[g]?=some (.cells cur t fr))(o n:Nat)(hn:o+n<=cur.size):
  (loadCells ⟨g,o,none⟩ n).run P w=.ok (seg cur.toList o n).toArray w:=by
 unfold loadCells
 rw[Qt h o n 0 #[] (by omega)]
 simp
theorem Ac4{w:World}{g:Nat}{cur:List Value}(h:F8 w g cur):B9 w g cur=w:=by
 obtain⟨t,fr,hg,_⟩:=h
 have:(B9 w g cur).heap=w.heap:=by
  apply Array.ext_getElem?
  intro k
  by_cases e:k=g
  ·subst e;simp only[B9,Array.getElem?_modify,if_true,hg,zP]
  ·exact Do w g cur k e
 unfold B9 at*
 cases w;simp_all
theorem Aad{w:World}{g:Nat}(a b:List Value):B9 (B9 w g a) g b=B9 w g b:=by
 simp only[B9]
 congr 1
 apply Array.ext_getElem?
 intro k
 simp only[Array.getElem?_modify]
 split
 ·cases w.heap[k]? with
  | none=>rfl
  | some o=>cases o<;>rfl
 ·rfl
theorem Afq{w:World}{g:Nat}{cur:List Value}(h:F8 w g cur)(o:Nat)(v:Value):w.setCell ⟨g,o,none⟩ v=B9 w g (cur.set o v):=by
 obtain⟨t,fr,hg,_⟩:=h
 simp only[World.setCell,B9]
 congr 1
 apply Array.ext_getElem?
 intro k
 simp only[Array.getElem?_modify]
 split
 ·subst_vars
  rw[hg]
  simp only[zP,yS,zK,if_false,zB,Obj.cells.injEq,and_true]
  apply yC
  simp
 ·rfl
theorem Nv{P:Program}{g:Nat}(o:Nat):∀(vs:List Value) (i:Nat) (cur:List Value) (w:World),F8 w g cur->o+i+vs.length<=cur.length->
  (∀v∈vs,v.oneCell'=true)->(storeCells ⟨g,o,none⟩ vs i).run P w=.ok () (B9 w g (Bl cur (o+i) vs))
 | [],i,cur,w,h,hl,_=>by
  simp only[storeCells,Sem.run_pure]
  rw[show Bl cur (o+i) []=cur by simp[Bl],Ac4 h]
 | v::vs,i,cur,w,h,hl,h1=>by
  have hlt:o+i<cur.length:=by simp at hl;omega
  have hc:∃u,w.cell? ⟨g,o+i,none⟩=some u:=by
   obtain⟨t,fr,hg,_⟩:=h
   rw[Hk hg];exact⟨cur[o+i],by simp[hlt]⟩
  obtain⟨u,hc⟩:=hc
  have hf:w.frozen? ⟨g,o+i,none⟩=false:=by
   obtain⟨t,fr,hg,ht⟩:=h
   have:=ht.out hlt
   simp only[World.frozen?,hg]
   simp;omega
  simp only[storeCells,Cy,Sem.run_bind]
  rw[run_store P w ⟨g,o+i,none⟩ v .plain (h1 v (by simp)),hc]
  simp only[hf,zK,if_false,Result.andThen_ok]
  rw[Afq h,Nv o vs (i+1) (cur.set (o+i) v) _ (Gr h _ (by simp)) (by simp at hl⊢;omega) (λ x hx=>h1 x (by simp[hx])),Aad]
  congr 2
  simp only[Bl]
  rw[show o+(i+1)=o+i+1 by omega]
  rw[xF,xG]
  simp only[zS]
  rw[if_pos (by omega)]
  rw[show o+i+1+vs.length=o+i+(vs.length+1) by omega]
  rw[zY hlt]
  rw[yJ _ _ (by simp;omega)]
  simp[yF (Nat.le_of_lt hlt)]
theorem L9{P:Program}{g:Nat}(o:Nat)(vs:List Value)(cur:List Value)(w:World)(h:F8 w g cur)(hl:o+vs.length<=cur.length)(h1:∀v∈vs,v.oneCell'=true):
  (storeCells ⟨g,o,none⟩ vs).run P w=.ok () (B9 w g (Bl cur o vs)):=Nv o vs 0 cur w h hl h1
end Go.Ev
namespace Go.Ev
def Cw{α:Type}(R:α->List Value->List Nat->Prop):List α->List Value->List Nat->Prop
 | [],cs,fp=>cs=[]/\fp=[]
 | x::l,cs,fp=>∃c1 c2 f1 f2,cs=c1++c2/\fp=f1++f2/\R x c1 f1/\Cw R l c2 f2
section
variable{α:Type}{R R':α->List Value->List Nat->Prop}{sz:Nat}
theorem Iu(h1:∀x c f,R x c f->c.length=sz):∀{l:List α} {cs:List Value} {fp:List Nat},Cw R l cs fp->cs.length=l.length*sz
 | [],_,_,h=>by rw[h.1];simp
 | x::l,_,_,⟨c1,c2,f1,f2,e1,_,hx,hl⟩=>by
  rw[e1,zD,h1 _ _ _ hx,Iu h1 hl,zS,zU];omega
theorem Ez{P:Nat->Prop}:∀{l:List α} {cs:List Value} {fp:List Nat},Cw R l cs fp->(∀x c f,(∀g∈f,P g)->R x c f->R' x c f)->(∀g∈fp,P g)->Cw R' l cs fp
 | [],_,_,h,_,_=>h
 | x::l,_,_,⟨c1,c2,f1,f2,e1,e2,hx,hl⟩,hi,hp=>by
  subst e2
  exact⟨c1,c2,f1,f2,e1,rfl,hi _ _ _ (λ g hg=>hp g (by simp[hg])) hx,Ez hl hi (λ g hg=>hp g (by simp[hg]))⟩
theorem Ke{P:Nat->Prop}:∀{l:List α} {cs:List Value} {fp:List Nat},Cw R l cs fp->(∀x c f,(∀g∈f,P g)->R x c f->R' x c [])->(∀g∈fp,P g)->Cw R' l cs []
 | [],_,_,h,_,_=>⟨h.1,rfl⟩
 | x::l,_,_,⟨c1,c2,f1,f2,e1,e2,hx,hl⟩,hi,hp=>by
  subst e2
  exact⟨c1,c2,[],[],e1,rfl,hi _ _ _ (λ g hg=>hp g (by simp[hg])) hx,Ke hl hi (λ g hg=>hp g (by simp[hg]))⟩
theorem Jb:∀{l l':List α} {c1 c2:List Value} {f1 f2:List Nat},Cw R l c1 f1->Cw R l' c2 f2->Cw R (l++l') (c1++c2) (f1++f2)
 | [],_,_,_,_,_,h,h'=>by rw[h.1,h.2];exact h'
 | x::l,_,_,_,_,_,⟨a,b,p,q,e1,e2,hx,hl⟩,h'=>
  ⟨a,b++_,p,q++_,by rw[e1,zC],by rw[e2,zC],hx,Jb hl h'⟩
theorem E0(h1:∀x c f,R x c f->c.length=sz):∀{l:List α} {cs:List Value} {fp:List Nat} (n:Nat),Cw R l cs fp->
  ∃f1 f2,fp=f1++f2/\Cw R (l.take n) (cs.take (n*sz)) f1/\Cw R (l.drop n) (cs.drop (n*sz)) f2
 | l,cs,fp,0,h=>⟨[],fp,rfl,by simp[Cw],by simpa using h⟩
 | [],cs,fp,n+1,h=>⟨[],[],h.2,by simp[Cw,h.1],by simp[Cw,h.1]⟩
 | x::l,cs,fp,n+1,⟨c1,c2,f1,f2,e1,e2,hx,hl⟩=>by
  obtain⟨g1,g2,e3,h3,h4⟩:=E0 h1 n hl
  have hc:=h1 _ _ _ hx
  have e:(n+1)*sz=c1.length+n*sz:=by rw[hc,zU];omega
  refine⟨f1++g1,g2,by rw[e2,e3,zC],⟨c1,c2.take (n*sz),f1,g1, ?_,rfl,hx,h3⟩, ?_⟩
  ·rw[e1,e,List.take_length_add_append]
  ·rw[e1,e,List.drop_length_add_append];exact h4
theorem Ic(h1:∀x c f,R x c f->c.length=sz):∀{l:List α} {cs:List Value} {fp:List Nat} (i:Nat) (hi:i<l.length),Cw R l cs fp->
  ∃c1 c2 c3 f1 f2 f3,cs=c1++c2++c3/\fp=f1++f2++f3/\c1.length=i*sz/\R l[i] c2 f2/\
   ∀x' c' f',R x' c' f'->Cw R (l.set i x') (c1++c'++c3) (f1++f'++f3)
 | x::l,cs,fp,0,_,⟨c1,c2,f1,f2,e1,e2,hx,hl⟩=>
  ⟨[],c1,c2,[],f1,f2,by simp[e1],by simp[e2],by simp,hx,λ x' c' f' h'=>⟨c',c2,f',f2,by simp,by simp,h',hl⟩⟩
 | x::l,cs,fp,i+1,hi,⟨c1,c2,f1,f2,e1,e2,hx,hl⟩=>by
  obtain⟨a1,a2,a3,b1,b2,b3,e3,e4,e5,h2,h3⟩:=Ic h1 i (by simpa using hi) hl
  refine⟨c1++a1,a2,a3,f1++b1,b2,b3,by simp[e1,e3],by simp[e2,e4], ?_,h2,λ x' c' f' h'=> ?_⟩
  ·rw[zD,e5,h1 _ _ _ hx,zU];omega
  ·exact⟨c1,a1++c'++a3,f1,b1++f'++b3,by simp,by simp,hx,h3 x' c' f' h'⟩
 | [],_,_,i,hi,_=>by simp at hi
theorem Gi{x:α}{c:List Value}(h:R x c []):∀n,Cw R (zI n x) (zI n c).flatten []
 | 0=>⟨rfl,rfl⟩
 | n+1=>⟨c,(zI n c).flatten,[],[],by simp[yO],rfl,h,by simpa using Gi h n⟩
theorem Jz{Q:Value->Prop}(h1:∀x c f,R x c f->∀v∈c,Q v):∀{l:List α} {cs:List Value} {fp:List Nat},Cw R l cs fp->∀v∈cs,Q v
 | [],_,_,h,v,hv=>by rw[h.1] at hv;simp at hv
 | x::l,_,_,⟨c1,c2,f1,f2,e1,e2,hx,hl⟩,v,hv=>by
  rw[e1] at hv
  rcases List.mem_append.1 hv with hv|hv
  ·exact h1 _ _ _ hx v hv
  ·exact Jz h1 hl v hv
theorem Mn(h1:∀x c f,R x c f->f=[]):∀{l:List α} {cs:List Value} {fp:List Nat},Cw R l cs fp->fp=[]
 | [],_,_,h=>h.2
 | x::l,_,_,⟨c1,c2,f1,f2,e1,e2,hx,hl⟩=>by rw[e2,h1 _ _ _ hx,Mn h1 hl];rfl
end
def Gf(w:World)(sz n:Nat)(Row:List Value->List Nat->Prop)(v:Value)(fp:List Nat):Prop:=
 ∃A c,v=.slice A n c/\((n=0/\c=0/\fp=[])\/∃g o cur fps,A=some ⟨g,o,none⟩/\F8 w g cur/\n<=c/\o+c*sz<=cur.length/\fp=g::fps/\Row (seg cur o (n*sz)) fps)
def RoS(w:World)(S:Nat->Prop)(sz n:Nat)(Row:List Value->Prop)(v:Value):Prop:=
 ∃A c,v=.slice A n c/\n<=c/\(n=0\/∃g o cur t fr,A=some ⟨g,o,none⟩/\S g/\w.heap[g]?=some (.cells cur t fr)/\o+n*sz<=cur.size/\Row (seg cur.toList o (n*sz)))
def Fh(w:World)(S:Nat->Prop):Tr->Value->Prop
 | .nil,v=>v=.nilIface
 | .nd lay ty bs i j l r,v=>∃(g:Nat) (cs:Array Value) (T:TypeId) (fr:Nat×Nat),v=.iface ty (.pointer (some ⟨g,0,none⟩))/\S g/\w.heap[g]?=some (.cells cs T fr)/\
  match lay with
  | 0=>cs.toList=bs.map .bool/\bs.length=256
  | 1=>∃vl vr,cs.toList=[vl,vr]/\Fh w S l vl/\Fh w S r vr
  | 2=>∃vl,cs.toList=[vl,.int .i64 i]/\Fh w S l vl
  | _=>∃vl u,cs.toList=[vl,.int .i64 i,.int .i64 j,u]/\u.oneCell'=true/\Fh w S l vl
def IsC(w:World)(g:Nat):Prop:=∃cur t fr,w.heap[g]?=some (.cells cur t fr)
theorem Fh.moveW{w w':World}{S S':Nat->Prop}(h:∀g,S g->IsC w g->S' g/\w'.heap[g]?=w.heap[g]?):∀{t:Tr} {v:Value},Fh w S t v->Fh w' S' t v
 | .nil,_,hv=>hv
 | .nd lay ty bs i j l r,v,hv=>by
  obtain⟨g,cs,T,fr,h1,h2,h3,h4⟩:=hv
  refine⟨g,cs,T,fr,h1,(h g h2 ⟨_,_,_,h3⟩).1,(h g h2 ⟨_,_,_,h3⟩).2.trans h3, ?_⟩
  match lay,h4 with
  | 0,h4=>exact h4
  | 1,⟨vl,vr,k1,k2,k3⟩=>exact⟨vl,vr,k1,k2.moveW h,k3.moveW h⟩
  | 2,⟨vl,k1,k2⟩=>exact⟨vl,k1,k2.moveW h⟩
  | _+3,⟨vl,u,k1,k2,k3⟩=>exact⟨vl,u,k1,k2,k3.moveW h⟩
theorem Fh.move{w w':World}{S S':Nat->Prop}(h:∀g,S g->S' g/\w'.heap[g]?=w.heap[g]?){t:Tr}{v:Value}(hv:Fh w S t v):Fh w' S' t v:=hv.moveW λ g hg _=>h g hg
theorem Fh.one{w:World}{S:Nat->Prop}:∀{t:Tr} {v:Value},Fh w S t v->v.oneCell'=true
 | .nil,_,hv=>by rw[show _=Value.nilIface from hv];rfl
 | .nd ..,v,hv=>by obtain⟨g,cs,T,fr,h1,_⟩:=hv;rw[h1];rfl
def Rep(w:World)(S Z:Nat->Prop):(K:Ki)->Bool->K.den->List Value->List Nat->Prop
 | .int k,_,n,cs,fp=>cs=[.int k n]/\fp=[]
 | .bool,_,b,cs,fp=>cs=[.bool b]/\fp=[]
 | .str,_,s,cs,fp=>cs=[.string ⟨⟨s⟩⟩]/\fp=[]
 | .lst e,o,l,cs,fp=>
  (o=true/\∃v,cs=[v]/\Gf w e.size l.length (Cw (Rep w S Z e true) l) v fp)\/
  (o=false/\fp=[]/\∃v,cs=[v]/\RoS w S e.size l.length (λ cs=>Cw (Rep w S Z e false) l cs []) v)
 | .arr n e,o,l,cs,fp=>zJ l=n/\Cw (Rep w S Z e o) l cs fp
 | .pair a b,o,d,cs,fp=>∃c1 c2 f1 f2,cs=c1++c2/\fp=f1++f2/\Rep w S Z a o d.1 c1 f1/\Rep w S Z b o d.2 c2 f2
 | .unit,_,_,cs,fp=>cs=[]/\fp=[]
 | .tr,o,t,cs,fp=>fp=[]/\∃v,cs=[v]/\v.oneCell'=true/\Fh w Z t v
 | .fl e,_,l,cs,fp=>fp=[]/\∃v,cs=[v]/\RoS w Z e.size l.length (λ cs=>Cw (Rep w Z Z e false) l cs []) v
theorem B0{w:World}{S Z:Nat->Prop}:∀{K:Ki} {o:Bool} {d:K.den} {cs:List Value} {fp:List Nat},Rep w S Z K o d cs fp->cs.length=K.size
 | .int _,_,_,_,_,h|.bool,_,_,_,_,h|.str,_,_,_,_,h=>by rw[h.1];rfl
 | .lst _,_,_,_,_,h=>by rcases h with⟨_,v,h,_⟩|⟨_,_,v,h,_⟩<;>rw[h]<;>rfl
 | .arr n e,_,l,_,_,h=>by rw[Iu (λ x c f hx=>B0 hx) h.2,h.1];rfl
 | .pair a b,_,_,_,_,⟨c1,c2,f1,f2,e1,_,h1,h2⟩=>by rw[e1,zD,B0 h1,B0 h2];rfl
 | .unit,_,_,_,_,h=>by rw[h.1];rfl
 | .tr,_,_,_,_,h=>by obtain⟨_,v,h,_⟩:=h;rw[h];rfl
 | .fl _,_,_,_,_,h=>by obtain⟨_,v,h,_⟩:=h;rw[h];rfl
theorem Kd{w:World}{S Z:Nat->Prop}:∀{K:Ki} {o:Bool} {d:K.den} {cs:List Value} {fp:List Nat},Rep w S Z K o d cs fp->∀v∈cs,v.oneCell'=true
 | .int _,_,_,_,_,h,v,hv|.bool,_,_,_,_,h,v,hv|.str,_,_,_,_,h,v,hv=>by rw[h.1] at hv;simp at hv;rw[hv];rfl
 | .lst _,_,_,_,_,h,v,hv=>by
  rcases h with⟨_,u,h,A,c,e,_⟩|⟨_,_,u,h,A,c,e,_⟩<;>(rw[h] at hv;simp at hv;rw[hv,e];rfl)
 | .arr n e,_,l,_,_,h,v,hv=>Jz (λ x c f hx=>Kd hx) h.2 v hv
 | .pair a b,_,_,_,_,⟨c1,c2,f1,f2,e1,_,h1,h2⟩,v,hv=>by
  rw[e1] at hv
  rcases List.mem_append.1 hv with hv|hv
  ·exact Kd h1 v hv
  ·exact Kd h2 v hv
 | .unit,_,_,_,_,h,v,hv=>by rw[h.1] at hv;simp at hv
 | .tr,_,_,_,_,h,v,hv=>by obtain⟨_,u,h,h1,_⟩:=h;rw[h] at hv;simp at hv;rw[hv];exact h1
 | .fl _,_,_,_,_,h,v,hv=>by obtain⟨_,u,h,A,c,e,_⟩:=h;rw[h] at hv;simp at hv;rw[hv,e];rfl
theorem Ed{w:World}{S Z:Nat->Prop}:∀{K:Ki} {o:Bool} {d:K.den} {cs:List Value} {fp:List Nat},(o=false\/K.nest=false)->Rep w S Z K o d cs fp->fp=[]
 | .int _,_,_,_,_,_,h|.bool,_,_,_,_,_,h|.str,_,_,_,_,_,h|.unit,_,_,_,_,_,h=>h.2
 | .tr,_,_,_,_,_,h|.fl _,_,_,_,_,_,h=>h.1
 | .lst e,o,l,_,_,ho,h=>by
  rcases h with⟨h1,_⟩|⟨_,h,_⟩
  ·subst h1;simp[Ki.nest] at ho
  ·exact h
 | .arr n e,o,l,_,_,ho,h=>Mn (R:=Rep w S Z e o) (λ x c f hx=>Ed (K:=e) (by simpa[Ki.nest] using ho) hx) h.2
 | .pair a b,_,_,_,_,ho,⟨c1,c2,f1,f2,e1,e2,h1,h2⟩=>by
  have ha:=Ed (by rcases ho with h|h;exact .inl h;simp[Ki.nest] at h;exact .inr h.1) h1
  have hb:=Ed (by rcases ho with h|h;exact .inl h;simp[Ki.nest] at h;exact .inr h.2) h2
  rw[e2,ha,hb];rfl
theorem Uf{w w':World}{sz n:Nat}{Row Row':List Value->List Nat->Prop}{v:Value}{fp:List Nat}(h:Gf w sz n Row v fp)(hp:∀g∈fp,w'.heap[g]?=w.heap[g]?)
  (hr:∀cs fps,(∀g∈fps,g∈fp)->Row cs fps->Row' cs fps):Gf w' sz n Row' v fp:=by
 obtain⟨A,c,e,h⟩:=h
 refine⟨A,c,e, ?_⟩
 rcases h with h|⟨g,o,cur,fps,h1,h2,h3,h4,h5,h6⟩
 ·exact .inl h
 ·exact .inr ⟨g,o,cur,fps,h1,h2.same (hp g (by simp[h5])),h3,h4,h5,hr _ _ (λ x hx=>by simp[h5,hx]) h6⟩
theorem Pl{w w':World}{S S':Nat->Prop}{sz n:Nat}{Row Row':List Value->Prop}{v:Value}(h:RoS w S sz n Row v)(hp:∀g,S g->IsC w g->S' g/\w'.heap[g]?=w.heap[g]?)
  (hr:∀cs,Row cs->Row' cs):RoS w' S' sz n Row' v:=by
 obtain⟨A,c,e,hc,h⟩:=h
 refine⟨A,c,e,hc, ?_⟩
 rcases h with h|⟨g,o,cur,t,fr,h1,h2,h3,h4,h5⟩
 ·exact .inl h
 ·exact .inr ⟨g,o,cur,t,fr,h1,(hp g h2 ⟨_,_,_,h3⟩).1,(hp g h2 ⟨_,_,_,h3⟩).2.trans h3,h4,hr _ h5⟩
theorem Fv{w w':World}{S S':Nat->Prop}{sz n:Nat}{Row Row':List Value->Prop}{v:Value}(h:RoS w S sz n Row v)(hp:∀g,S g->S' g/\w'.heap[g]?=w.heap[g]?)
  (hr:∀cs,Row cs->Row' cs):RoS w' S' sz n Row' v:=
 Pl h (λ g hg _=>hp g hg) hr
theorem Fa{w w':World}{S S' Z Z':Nat->Prop}(hS:∀g,S g->IsC w g->S' g/\w'.heap[g]?=w.heap[g]?)(hZ:∀g,Z g->IsC w g->Z' g/\w'.heap[g]?=w.heap[g]?):∀{K:Ki} {o:Bool} {d:K.den} {cs:List Value} {fp:List Nat},
  (∀g∈fp,w'.heap[g]?=w.heap[g]?)->Rep w S Z K o d cs fp->Rep w' S' Z' K o d cs fp
 | .int _,_,_,_,_,_,h|.bool,_,_,_,_,_,h|.str,_,_,_,_,_,h|.unit,_,_,_,_,_,h=>h
 | .tr,_,_,_,_,_,⟨h0,v,h1,h2,h3⟩=>⟨h0,v,h1,h2,h3.moveW hZ⟩
 | .fl e,_,l,_,_,_,⟨h0,v,h1,h2⟩=>⟨h0,v,h1,Pl h2 hZ λ cs hr=>Ez (P:=λ _=>True) hr (λ x c f _ hx=>by
   have hf:=Ed (.inl rfl) hx
   subst hf
   exact Fa hZ hZ (by simp) hx) (by simp)⟩
 | .lst e,_,l,_,_,hp,h=>by
  rcases h with⟨h1,v,h3,h4⟩|⟨h1,h2,v,h3,h4⟩
  ·refine .inl ⟨h1,v,h3,Uf h4 hp λ cs fps hf hr=>Ez (P:=λ g=>w'.heap[g]?=w.heap[g]?) hr (λ x c f hg hx=>Fa hS hZ hg hx) (λ g hg=>hp g (hf g hg))⟩
  ·exact .inr ⟨h1,h2,v,h3,Pl h4 hS λ cs hr=>Ez (P:=λ g=>w'.heap[g]?=w.heap[g]?) hr (λ x c f hg hx=>Fa hS hZ hg hx) (by simp)⟩
 | .arr n e,_,l,_,_,hp,h=>⟨h.1,Ez (P:=λ g=>w'.heap[g]?=w.heap[g]?) h.2 (λ x c f hg hx=>Fa hS hZ hg hx) hp⟩
 | .pair a b,_,_,_,_,hp,⟨c1,c2,f1,f2,e1,e2,h1,h2⟩=>
  ⟨c1,c2,f1,f2,e1,e2,Fa hS hZ (λ g hg=>hp g (by simp[e2,hg])) h1,Fa hS hZ (λ g hg=>hp g (by simp[e2,hg])) h2⟩
theorem Aav{w w':World}{S S' Z Z':Nat->Prop}(hS:∀g,S g->S' g/\w'.heap[g]?=w.heap[g]?)(hZ:∀g,Z g->Z' g/\w'.heap[g]?=w.heap[g]?){K:Ki}{o:Bool}{d:K.den}{cs:List Value}{fp:List Nat}(hp:∀g∈fp,w'.heap[g]?=w.heap[g]?)(h:Rep w S Z K o d cs fp):Rep w' S' Z' K o d cs fp:=Fa (λ g hg _=>hS g hg) (λ g hg _=>hZ g hg) hp h
theorem Rb{w:World}{S S' Z:Nat->Prop}{o:Bool}(hS:o=false->∀g,S g->S' g):∀{K:Ki} {d:K.den} {cs:List Value} {fp:List Nat},
  (∀g∈fp,S' g)->Rep w S Z K o d cs fp->Rep w S' Z K false d cs []
 | .int _,_,_,_,_,h|.bool,_,_,_,_,h|.str,_,_,_,_,h|.unit,_,_,_,_,h=>⟨h.1,rfl⟩
 | .tr,_,_,_,_,⟨h0,v,h1,h2,h3⟩=>⟨rfl,v,h1,h2,h3⟩
 | .fl e,_,_,_,_,⟨h0,v,h1,h2⟩=>⟨rfl,v,h1,h2⟩
 | .lst e,l,_,_,hp,h=>by
  refine .inr ⟨rfl,rfl, ?_⟩
  rcases h with⟨h1,v,h3,A,c,h4,h5⟩|⟨h1,h2,v,h3,h4⟩
  ·refine⟨v,h3,A,c,h4, ?_⟩
   rcases h5 with h5|⟨g,o,cur,fps,e1,e2,e3,e4,e5,e6⟩
   ·exact⟨by omega,.inl h5.1⟩
   ·obtain⟨t,fr,hg,ht⟩:=e2
    have:zJ l*e.size<=c*e.size:=zH _ e3
    exact⟨e3,.inr ⟨g,o,cur.toArray,t,fr,e1,hp g (by simp[e5]),hg,by simp;omega,Ke (P:=S') e6 (λ x c f hg hx=>Rb (o:=true) (λ e=>by cases e) hg hx) (λ g hg=>hp g (by simp[e5,hg]))⟩⟩
  ·exact⟨v,h3,Fv h4 (λ g hg=>⟨hS h1 g hg,rfl⟩) λ cs hr=>Ke (P:=S') hr (λ x c f hg hx=>Rb (o:=false) (λ _=>hS h1) hg hx) (by simp)⟩
 | .arr n e,l,_,_,hp,h=>⟨h.1,Ke (P:=S') h.2 (λ x c f hg hx=>Rb hS hg hx) hp⟩
 | .pair a b,_,_,_,hp,⟨c1,c2,f1,f2,e1,e2,h1,h2⟩=>
  ⟨c1,c2,[],[],e1,rfl,Rb hS (λ g hg=>hp g (by simp[e2,hg])) h1,Rb hS (λ g hg=>hp g (by simp[e2,hg])) h2⟩
def H4:Ki->List Value
 | .int k=>[.int k 0]
 | .bool=>[.bool false]
 | .str=>[.string ⟨⟨[]⟩⟩]
 | .lst _=>[.slice none 0 0]
 | .arr n e=>(zI n (H4 e)).flatten
 | .pair a b=>H4 a++H4 b
 | .unit=>[]
 | .tr=>[.nilIface]
 | .fl _=>[.slice none 0 0]
theorem Jy(w:World)(S Z:Nat->Prop)(o:Bool):∀K:Ki,Rep w S Z K o K.zero (H4 K) []
 | .int _|.bool|.str|.unit=>⟨rfl,rfl⟩
 | .tr=>⟨rfl,_,rfl,rfl,rfl⟩
 | .fl e=>⟨rfl,_,rfl,none,0,rfl,zF _,.inl rfl⟩
 | .lst e=>by
  cases o
  ·exact .inr ⟨rfl,rfl,_,rfl,none,0,rfl,zF _,.inl rfl⟩
  ·exact .inl ⟨rfl,_,rfl,none,0,rfl,.inl ⟨rfl,rfl,rfl⟩⟩
 | .arr n e=>⟨yK,Gi (Jy w S Z o e) n⟩
 | .pair a b=>⟨_,_,[],[],rfl,rfl,Jy w S Z o a,Jy w S Z o b⟩
theorem Tw{w w':World}{S S' Z Z':Nat->Prop}{o o':Bool}:∀{K:Ki} {d:K.den} {cs:List Value} {fp:List Nat},K.nest=false->Rep w S Z K o d cs fp->Rep w' S' Z' K o' d cs fp
 | .int _,_,_,_,_,h|.bool,_,_,_,_,h|.str,_,_,_,_,h|.unit,_,_,_,_,h=>h
 | .lst e,_,_,_,hn,h=>by simp[Ki.nest] at hn
 | .tr,_,_,_,hn,h|.fl _,_,_,_,hn,h=>by simp[Ki.nest] at hn
 | .arr n e,l,_,_,hn,h=>⟨h.1,Ez (P:=λ _=>True) h.2 (λ x c f _ hx=>Tw (K:=e) hn hx) (by simp)⟩
 | .pair a b,_,_,_,hn,⟨c1,c2,f1,f2,e1,e2,h1,h2⟩=>by
  simp only[Ki.nest,Bool.or_eq_false_iff] at hn
  exact⟨c1,c2,f1,f2,e1,e2,Tw hn.1 h1,Tw hn.2 h2⟩
theorem Tx{w:World}{S S' Z:Nat->Prop}{o o':Bool}:∀{K:Ki} {d:K.den} {cs:List Value} {fp:List Nat},K.cpy=true->Rep w S Z K o d cs fp->Rep w S' Z K o' d cs []
 | .int _,_,_,_,_,h|.bool,_,_,_,_,h|.str,_,_,_,_,h|.unit,_,_,_,_,h=>⟨h.1,rfl⟩
 | .lst e,_,_,_,hn,h=>by simp[Ki.cpy] at hn
 | .tr,_,_,_,_,h|.fl _,_,_,_,_,h=>⟨rfl,h.2⟩
 | .arr n e,l,_,_,hn,h=>⟨h.1,Ke (P:=λ _=>True) h.2 (λ x c f _ hx=>Tx (K:=e) hn hx) (by simp)⟩
 | .pair a b,_,_,_,hn,⟨c1,c2,f1,f2,e1,e2,h1,h2⟩=>by
  simp only[Ki.cpy,z9] at hn
  exact⟨c1,c2,[],[],e1,rfl,Tx hn.1 h1,Tx hn.2 h2⟩
end Go.Ev
namespace Go.Ev
inductive CB where
 | box (g:Nat) (fps:List Nat)
 | row (A:Option Addr) (n c sz:Nat) (fp:List Nat)
 | map (g:Nat)
 | iter (g:Nat)
 | bld (g:Nat) (fp:List Nat)
def CB.fp:CB->List Nat
 | .box g fps=>g::fps
 | .row _ _ _ _ fp=>fp
 | .map g=>[g]
 | .iter g=>[g]
 | .bld g fp=>g::fp
def Aa3:Option Addr->Option (Nat×Nat)
 | some ⟨g,o,none⟩=>some (g,o)
 | _=>none
def CB.base:CB->Option (Nat×Nat)
 | .box g _=>some (g,0)
 | .row A _ _ _ _=>Aa3 A
 | .map _=>none
 | .iter g=>some (g,0)
 | .bld g _=>some (g,0)
def CB.same:CB->CB->Prop
 | .box g _,.box g' _=>g=g'
 | .row A n c sz _,.row A' n' c' sz' _=>A=A'/\n=n'/\c=c'/\sz=sz'
 | .map g,.map g'=>g=g'
 | .iter g,.iter g'=>g=g'
 | .bld g _,.bld g' _=>g=g'
 | _,_=>False
theorem CB.same_refl(c:CB):c.same c:=by cases c<;>simp[CB.same]
theorem CB.same_trans{a b c:CB}(h:a.same b)(k:b.same c):a.same c:=by
 cases a<;>cases b<;>cases c<;>simp_all[CB.same]
theorem CB.same_base{a b:CB}(h:a.same b):a.base=b.base:=by
 cases a<;>cases b<;>simp_all[CB.same,CB.base]
def CB.rowN:CB->Option Nat
 | .row _ n _ _ _=>some n
 | _=>none
theorem CB.same_rowN{a b:CB}(h:a.same b):a.rowN=b.rowN:=by
 cases a<;>cases b<;>simp_all[CB.same,CB.rowN]
structure Cx where
 cm:Nat->Option CB
 S:Option Nat->Nat->Prop
 s:St
 w:World
def Cx.Sof(X:Cx):Cj->Nat->Prop
 | .frz=>X.S none
 | .reg n=>λ g=>(∃m,n<=m/\X.S (some m) g)\/X.S none g
 | .ver b _=>λ g=>∃cb,X.cm b=some cb/\g∈cb.fp
def Bf:Hh->Nat
 | []=>0
 | (sz,_,i,o)::r=>i*sz+o+Bf r
def PIn:Option Nat->Hh->Prop
 | _,[]=>True
 | m,(_,n,i,_)::r=>i<m.getD n/\PIn none r
def Kn(X:Cx):Cj->Prop
 | .ver b v0=>∃cb,X.cm b=some cb/\∀ro v ps,look b X.s.st=some (.cell ro v ps)->v0<=v
 | _=>True
abbrev A0(w:World)(Z:Nat->Prop)(K:Ki)(l:List K.den)(cs:List Value)(fp:List Nat):Prop:=Cw (Rep w Z Z K true) l cs fp
def At(X:Cx)(b i f:Nat)(K:Ki)(l:List K.den)(v:Value):Prop:=
 ∃g og n c sz fp K0 l0 ver ro,X.cm b=some (.row (some ⟨g,og,none⟩) n c sz fp)/\look b X.s.st=some (.cell ro ver [.rw K0 l0])/\i<l0.length/\
  nav 1 [(K0.size,0,i,f)] 0 [.rw K0 l0]=some [.nl K l]/\g∈fp/\X.w.cell? ⟨g,og+(i*K0.size+f),none⟩=some v
mutual
inductive VRel (X:Cx):AV->Value->Prop
 | un (v:Value):VRel X .un v
 | bool (b:Bool):VRel X (.bool b) (.bool b)
 | int (k:IntKind) (n:Int):VRel X (.int k n) (.int k n)
 | str (t:List UInt8):VRel X (.str t) (.string ⟨⟨t⟩⟩)
 | nils:VRel X .nils (.slice none 0 0)
 | nz (K:Ki):VRel X (.nz K) (.slice none 0 0)
 | sl {b:Nat} {A:Option Addr} {n c sz:Nat} {fp:List Nat}:X.cm b=some (.row A n c sz fp)->VRel X (.sl b) (.slice A n c)
 | ss0 {b o:Nat} {A A':Option Addr} {n c sz:Nat} {fp:List Nat}:X.cm b=some (.row A n c sz fp)->o<=n->VRel X (.ss b o 0) (.slice A' 0 0)
 | ss {b o m g og n c c' sz:Nat} {fp:List Nat}:X.cm b=some (.row (some ⟨g,og,none⟩) n c sz fp)->o+m<=n->m<=c'->o+c'<=c->VRel X (.ss b o m) (.slice (some ⟨g,og+o*sz,none⟩) m c')
 | ro {q:Cj} {K:Ki} {l:List K.den} {A:Option Addr} {c:Nat}:l.length<=c->(l.length=0\/∃g og,A=some ⟨g,og,none⟩)->Kn X q->
   (valid X.s q=true->RoS X.w (X.Sof q) K.size l.length (λ cs=>Cw (Rep X.w (X.Sof q) (X.S none) K false) l cs []) (.slice A l.length c))->VRel X (.ro q K l) (.slice A l.length c)
 | vw {b v0 i f:Nat} {K:Ki} {l:List K.den} {A:Option Addr} {c:Nat}:l.length<=c->(l.length=0\/∃g og,A=some ⟨g,og,none⟩)->Kn X (.ver b v0)->
   (valid X.s (.ver b v0)=true->At X b i f K l (.slice A l.length c))->VRel X (.vw b v0 i f K l) (.slice A l.length c)
 | arr {n:Nat} {K:Ki} {l:List K.den} {cs:List Value}:l.length=n->A0 X.w (X.S none) K l cs []->VRel X (.arr n K l) (.agg cs.toArray)
 | nilp:VRel X .nilp (.pointer none)
 | pb {b o:Nat} {p:Hh} {cb:CB} {g og:Nat}:X.cm b=some cb->cb.base=some (g,og)->PIn cb.rowN p.reverse->(cb.rowN=none\/p≠[])->VRel X (.pb b o p) (.pointer (some ⟨g,og+(o+Bf p),none⟩))
 | pn {b v0 i f:Nat} {K:Ki} {l:List K.den} {p:Hh} {g og:Nat}:p≠[]->PIn (some l.length) p.reverse->Kn X (.ver b v0)->
   (valid X.s (.ver b v0)=true->∃n c,At X b i f K l (.slice (some ⟨g,og,none⟩) n c))->VRel X (.pn b v0 i f K l p) (.pointer (some ⟨g,og+Bf p,none⟩))
 | po {q:Cj} {K:Ki} {l:List K.den} {p:Hh} {g og:Nat}:p≠[]->PIn (some l.length) p.reverse->Kn X q->
   (valid X.s q=true->∃cur t fr,X.Sof q g/\X.w.heap[g]?=some (.cells cur t fr)/\og+l.length*K.size<=cur.size/\
    Cw (Rep X.w (X.Sof q) (X.S none) K false) l (seg cur.toList og (l.length*K.size)) [])->VRel X (.po q K l p) (.pointer (some ⟨g,og+Bf p,none⟩))
 | pr {q:Cj} {ps:List AV} {o:Nat} {p:Hh} {g og:Nat} {cur:Array Value} {t:TypeId} {fr:Nat×Nat} {n:Nat}:
   X.Sof q g->X.w.heap[g]?=some (.cells cur t fr)->og+n<=cur.size->PRs X ps (seg cur.toList og n) []->(∀a∈ps,a.norw=true)->(∀b v0,q≠.ver b v0)->PIn none p.reverse->
   VRel X (.pr q ps o p) (.pointer (some ⟨g,og+(o+Bf p),none⟩))
 | agg {ps:List AV} {cs:List Value}:PRs X ps cs []->(∀a∈ps,a.norw=true)->VRel X (.agg ps) (.agg cs.toArray)
 | fn {f:Nat} {caps:List AV} {vs:List Value}:B6 X caps vs->VRel X (.fn f caps) (.func (.func f) #[] vs.toArray)
 | nilf:VRel X .nilf .nilFunc
 | ifc {t:Nat} {a:AV} {v:Value}:VRel X a v->VRel X (.ifc t a) (.iface t v)
 | nili:VRel X .nili .nilIface
 | mp {b g:Nat}:X.cm b=some (.map g)->VRel X (.mp b) (.map (some g))
 | nilm:VRel X .nilm (.map none)
 | tr {q:Cj} {t:Tr} {v:Value}:(∀b v0,q≠.ver b v0)->Fh X.w (X.Sof q) t v->VRel X (.tr q t) v
 | tup {as:List AV} {vs:List Value}:B6 X as vs->VRel X (.tup as) (.tuple vs.toArray)
inductive PRs (X:Cx):List AV->List Value->List Nat->Prop
 | nil:PRs X [] [] []
 | one {a:AV} {v:Value} {r:List AV} {cs:List Value} {fp:List Nat}:a.plain=true->v.oneCell'=true->VRel X a v->PRs X r cs fp->PRs X (a::r) (v::cs) fp
 | arr {n:Nat} {K:Ki} {l:List K.den} {r:List AV} {c1 cs:List Value} {f1 fp:List Nat}:l.length=n->A0 X.w (X.S none) K l c1 f1->PRs X r cs fp->PRs X (.arr n K l::r) (c1++cs) (f1++fp)
 | nl {K:Ki} {l:List K.den} {v:Value} {r:List AV} {cs:List Value} {f1 fp:List Nat}:Gf X.w K.size l.length (A0 X.w (X.S none) K l) v f1->PRs X r cs fp->PRs X (.nl K l::r) (v::cs) (f1++fp)
 | rw{K:Ki} {l:List K.den} {r:List AV} {c1 cs:List Value} {f1 fp:List Nat}:A0 X.w (X.S none) K l c1 f1->PRs X r cs fp->PRs X (.rw K l::r) (c1++cs) (f1++fp)
inductive B6 (X:Cx):List AV->List Value->Prop
 | nil:B6 X [] []
 | cons {a:AV} {v:Value} {as:List AV} {vs:List Value}:VRel X a v->B6 X as vs->B6 X (a::as) (v::vs)
end
theorem Ajp{w:World}{sz n:Nat}{Row:List Value->List Nat->Prop}{v:Value}{fp:List Nat}(h:Gf w sz n Row v fp):v.oneCell'=true:=by
 obtain⟨A,c,rfl,_⟩:=h;rfl
theorem Pj{X:Cx}:∀{ps:List AV} {cs:List Value} {fp:List Nat},PRs X ps cs fp->∀v∈cs,v.oneCell'=true
 | _,_,_,.nil,v,hv=>by simp at hv
 | _,_,_,.one _ h1 _ hr,v,hv=>by
  rcases List.mem_cons.1 hv with rfl|hv
  ·exact h1
  ·exact Pj hr v hv
 | _,_,_,.arr _ h1 hr,v,hv=>by
  rcases List.mem_append.1 hv with hv|hv
  ·exact Jz (λ x c f hx=>Kd hx) h1 v hv
  ·exact Pj hr v hv
 | _,_,_,.nl h1 hr,v,hv=>by
  rcases List.mem_cons.1 hv with rfl|hv
  ·exact Ajp h1
  ·exact Pj hr v hv
 | _,_,_,.rw h1 hr,v,hv=>by
  rcases List.mem_append.1 hv with hv|hv
  ·exact Jz (λ x c f hx=>Kd hx) h1 v hv
  ·exact Pj hr v hv
def GS(S' S:Option Nat->Nat->Prop):Prop:=(∀n,S' (some n)=S (some n))/\∀g,S none g->S' none g
theorem GS.refl(S:Option Nat->Nat->Prop):GS S S:=⟨λ _=>rfl,λ _ h=>h⟩
theorem GS.of{S' S:Option Nat->Nat->Prop}(h:S'=S):GS S' S:=h▸GS.refl _
theorem GS.trans{A B C:Option Nat->Nat->Prop}(h:GS C B)(k:GS B A):GS C A:=⟨λ n=>(h.1 n).trans (k.1 n),λ g hg=>h.2 g (k.2 g hg)⟩
theorem GS.mono{S' S:Option Nat->Nat->Prop}(h:GS S' S):∀n g,S n g->S' n g
 | none,g,hg=>h.2 g hg
 | some n,g,hg=>by rw[h.1 n];exact hg
structure Ext(X X':Cx):Prop where
 cmx:∀b cb,X.cm b=some cb->∃cb',X'.cm b=some cb'/\cb.same cb'
 sts:∀n g,X.S n g->X'.S n g/\X'.w.heap[g]?=X.w.heap[g]?
 ver:∀b cb,X.cm b=some cb->∀ro' v' ps',look b X'.s.st=some (.cell ro' v' ps')->∃ro v ps,look b X.s.st=some (.cell ro v ps)/\v<=v'/\
  (v=v'->(∃K l,ps'=[.rw K l]/\K.nest=true)->ro=ro'/\ps=ps'/\X'.cm b=X.cm b/\∀g∈cb.fp,X'.w.heap[g]?=X.w.heap[g]?)
theorem Ext.refl(X:Cx):Ext X X:=⟨λ _ cb h=>⟨cb,h,cb.same_refl⟩,λ _ _ h=>⟨h,rfl⟩,λ _ _ _ ro v ps h=>⟨ro,v,ps,h,zF _,λ _ _=>⟨rfl,rfl,rfl,λ _ _=>rfl⟩⟩⟩
theorem Ext.trans{X Y Z:Cx}(h:Ext X Y)(k:Ext Y Z):Ext X Z where
 cmx b cb e:=by
  obtain⟨cb',e',s'⟩:=h.cmx b cb e
  obtain⟨cb2,e2,s2⟩:=k.cmx b cb' e'
  exact⟨cb2,e2,CB.same_trans s' s2⟩
 sts n g e:=by
  obtain⟨e1,e2⟩:=h.sts n g e
  obtain⟨e3,e4⟩:=k.sts n g e1
  exact⟨e3,e4.trans e2⟩
 ver b cb e ro2 v2 ps2 l2:=by
  obtain⟨cb',e',_⟩:=h.cmx b cb e
  obtain⟨ro1,v1,ps1,l1,le1,k1⟩:=k.ver b cb' e' ro2 v2 ps2 l2
  obtain⟨ro0,v0,ps0,l0,le0,h0⟩:=h.ver b cb e ro1 v1 ps1 l1
  refine⟨ro0,v0,ps0,l0,zV le0 le1,λ ev hn=> ?_⟩
  obtain⟨a1,a2,a3,a4⟩:=k1 (by omega) hn
  obtain⟨b1,b2,b3,b4⟩:=h0 (by omega) (by rw[a2];exact hn)
  refine⟨b1.trans a1,b2.trans a2,a3.trans b3,λ g hg=>(a4 g ?_).trans (b4 g hg)⟩
  have:some cb'=some cb:=e'.symm.trans (b3.trans e)
  cases this;exact hg
theorem Sb{s:St}{b v:Nat}(h:valid s (.ver b v)=true):∃ro K l,look b s.st=some (.cell ro v [.rw K l])/\K.nest=true:=by
 simp only[valid] at h
 split at h
 ·rename_i ro v' K l e
  simp only[z9] at h
  rw[z8 h.1]
  exact⟨ro,K,l,e,h.2⟩
 ·cases h
theorem Ap6{s:St}{b v:Nat}{ro:Bool}{K:Ki}{l:List K.den}(h:look b s.st=some (.cell ro v [.rw K l]))(hn:K.nest=true):valid s (.ver b v)=true:=by
 simp only[valid,h,hn,Bool.and_true];exact zW v
structure M7(X X':Cx):Prop where
 cmx:∀b cb,X.cm b=some cb->∃cb',X'.cm b=some cb'/\cb.same cb'
 stw:∀n g,X.S n g->IsC X.w g->X'.S n g/\X'.w.heap[g]?=X.w.heap[g]?
 ver:∀b cb,X.cm b=some cb->∀ro' v' ps',look b X'.s.st=some (.cell ro' v' ps')->∃ro v ps,look b X.s.st=some (.cell ro v ps)/\v<=v'/\
  (v=v'->(∃K l,ps'=[.rw K l]/\K.nest=true)->ro=ro'/\ps=ps'/\X'.cm b=X.cm b/\∀g∈cb.fp,X'.w.heap[g]?=X.w.heap[g]?)
theorem Ext.weak{X X':Cx}(h:Ext X X'):M7 X X':=⟨h.cmx,λ n g hg _=>h.sts n g hg,h.ver⟩
theorem M7.view{X X':Cx}(h:M7 X X'){b v:Nat}(k:Kn X (.ver b v))(e:valid X'.s (.ver b v)=true):
  valid X.s (.ver b v)=true/\look b X'.s.st=look b X.s.st/\X'.cm b=X.cm b/\∀cb,X.cm b=some cb->∀g∈cb.fp,X'.w.heap[g]?=X.w.heap[g]?:=by
 obtain⟨cb,hc,hk⟩:=k
 obtain⟨ro',K,l,e',hn⟩:=Sb e
 obtain⟨ro,v1,ps,l1,le1,h1⟩:=h.ver b cb hc _ _ _ e'
 have:=hk _ _ _ l1
 obtain⟨a1,a2,a3,a4⟩:=h1 (by omega) ⟨K,l,rfl,hn⟩
 have hv:v1=v:=by omega
 subst hv a1 a2
 exact⟨Ap6 l1 hn,e'.trans l1.symm,a3,λ cb' hc'=>by rw[hc] at hc';cases hc';exact a4⟩
theorem M7.kn{X X':Cx}(h:M7 X X'){q:Cj}(k:Kn X q):Kn X' q:=by
 cases q with
 | frz=>trivial
 | reg n=>trivial
 | ver b v=>
  obtain⟨cb,hc,hk⟩:=k
  obtain⟨cb',hc',_⟩:=h.cmx b cb hc
  refine⟨cb',hc',λ ro' v' ps' e=> ?_⟩
  obtain⟨ro,v1,ps,l1,le1,_⟩:=h.ver b cb hc _ _ _ e
  exact zV (hk _ _ _ l1) le1
theorem M7.valid{X X':Cx}(h:M7 X X'){q:Cj}(k:Kn X q)(e:valid X'.s q=true):valid X.s q=true:=by
 cases q with
 | frz=>rfl
 | reg n=>rfl
 | ver b v=>exact(h.view k e).1
theorem M7.sof{X X':Cx}(h:M7 X X'){q:Cj}(k:Kn X q)(e:Ev.valid X'.s q=true):∀g,X.Sof q g->IsC X.w g->X'.Sof q g/\X'.w.heap[g]?=X.w.heap[g]?:=by
 cases q with
 | frz=>exact h.stw none
 | reg n=>
  rintro g (⟨m,hm,hg⟩|hg) hC
  ·exact⟨.inl ⟨m,hm,(h.stw _ g hg hC).1⟩,(h.stw _ g hg hC).2⟩
  ·exact⟨.inr (h.stw _ g hg hC).1,(h.stw _ g hg hC).2⟩
 | ver b v=>
  obtain⟨_,_,h3,h4⟩:=h.view k e
  rintro g ⟨cb,hc,hg⟩ _
  exact⟨⟨cb,h3.trans hc,hg⟩,h4 cb hc g hg⟩
theorem M7.at{X X':Cx}(h:M7 X X'){b v0 i f:Nat}{K:Ki}{l:List K.den}{v:Value}(k:Kn X (.ver b v0))(e:Ev.valid X'.s (.ver b v0)=true)(ha:At X b i f K l v):At X' b i f K l v:=by
 obtain⟨_,h2,h3,h4⟩:=h.view k e
 obtain⟨g,og,n,c,sz,fp,K0,l0,vv,ro,a1,a2,a3,a4,a5,a6⟩:=ha
 refine⟨g,og,n,c,sz,fp,K0,l0,vv,ro,h3.trans a1,h2.trans a2,a3,a4,a5, ?_⟩
 have:=h4 _ a1 g a5
 simpa[World.cell?,this] using a6
theorem A0.moveW{w w':World}{Z Z':Nat->Prop}{K:Ki}{l:List K.den}{cs:List Value}{fp:List Nat}(h:A0 w Z K l cs fp)(hZ:∀g,Z g->IsC w g->Z' g/\w'.heap[g]?=w.heap[g]?)(hp:∀g∈fp,w'.heap[g]?=w.heap[g]?):A0 w' Z' K l cs fp:=
 Ez (P:=λ g=>w'.heap[g]?=w.heap[g]?) h (λ x c f hg hx=>Fa hZ hZ hg hx) hp
theorem A0.move{w w':World}{Z Z':Nat->Prop}{K:Ki}{l:List K.den}{cs:List Value}{fp:List Nat}(h:A0 w Z K l cs fp)(hZ:∀g,Z g->Z' g/\w'.heap[g]?=w.heap[g]?)(hp:∀g∈fp,w'.heap[g]?=w.heap[g]?):A0 w' Z' K l cs fp:=
 Ez (P:=λ g=>w'.heap[g]?=w.heap[g]?) h (λ x c f hg hx=>Aav hZ hZ hg hx) hp
theorem Gf.moveW{w w':World}{Z Z':Nat->Prop}{K:Ki}{l:List K.den}{n:Nat}{v:Value}{fp:List Nat}(h:Gf w K.size n (A0 w Z K l) v fp)(hZ:∀g,Z g->IsC w g->Z' g/\w'.heap[g]?=w.heap[g]?)(hp:∀g∈fp,w'.heap[g]?=w.heap[g]?):Gf w' K.size n (A0 w' Z' K l) v fp:=
 Uf h hp λ cs fps hs hr=>A0.moveW hr hZ λ g hg=>hp g (hs g hg)
theorem Gf.move{w w':World}{Z Z':Nat->Prop}{K:Ki}{l:List K.den}{n:Nat}{v:Value}{fp:List Nat}(h:Gf w K.size n (A0 w Z K l) v fp)(hZ:∀g,Z g->Z' g/\w'.heap[g]?=w.heap[g]?)(hp:∀g∈fp,w'.heap[g]?=w.heap[g]?):Gf w' K.size n (A0 w' Z' K l) v fp:=
 Uf h hp λ cs fps hs hr=>A0.move hr hZ λ g hg=>hp g (hs g hg)
theorem Se{w w':World}{S S' Z Z':Nat->Prop}{K:Ki}{l:List K.den}{cs:List Value}(h:Cw (Rep w S Z K false) l cs [])(hp:∀g,S g->IsC w g->S' g/\w'.heap[g]?=w.heap[g]?)(hZ:∀g,Z g->IsC w g->Z' g/\w'.heap[g]?=w.heap[g]?):Cw (Rep w' S' Z' K false) l cs []:=
 Ez (P:=λ _=>True) h (λ x c f _ hx=>by
  have hf:=Ed (.inl rfl) hx
  subst hf
  exact Fa hp hZ (by simp) hx) (by simp)
theorem Dq{w w':World}{S S' Z Z':Nat->Prop}{K:Ki}{l:List K.den}{cs:List Value}(h:Cw (Rep w S Z K false) l cs [])(hp:∀g,S g->S' g/\w'.heap[g]?=w.heap[g]?)(hZ:∀g,Z g->Z' g/\w'.heap[g]?=w.heap[g]?):Cw (Rep w' S' Z' K false) l cs []:=
 Ez (P:=λ _=>True) h (λ x c f _ hx=>by
  have hf:=Ed (.inl rfl) hx
  subst hf
  exact Aav hp hZ (by simp) hx) (by simp)
theorem Ext.view{X X':Cx}(h:Ext X X'){b v:Nat}(k:Kn X (.ver b v))(e:valid X'.s (.ver b v)=true):
  valid X.s (.ver b v)=true/\look b X'.s.st=look b X.s.st/\X'.cm b=X.cm b/\∀cb,X.cm b=some cb->∀g∈cb.fp,X'.w.heap[g]?=X.w.heap[g]?:=h.weak.view k e
theorem Ext.kn{X X':Cx}(h:Ext X X'){q:Cj}(k:Kn X q):Kn X' q:=h.weak.kn k
theorem Ext.valid{X X':Cx}(h:Ext X X'){q:Cj}(k:Kn X q)(e:valid X'.s q=true):valid X.s q=true:=h.weak.valid k e
theorem Ext.sof{X X':Cx}(h:Ext X X'){q:Cj}(k:Kn X q)(e:Ev.valid X'.s q=true):∀g,X.Sof q g->X'.Sof q g/\X'.w.heap[g]?=X.w.heap[g]?:=by
 cases q with
 | frz=>exact h.sts none
 | reg n=>
  rintro g (⟨m,hm,hg⟩|hg)
  ·exact⟨.inl ⟨m,hm,(h.sts _ g hg).1⟩,(h.sts _ g hg).2⟩
  ·exact⟨.inr (h.sts _ g hg).1,(h.sts _ g hg).2⟩
 | ver b v=>
  obtain⟨_,_,h3,h4⟩:=h.view k e
  rintro g ⟨cb,hc,hg⟩
  exact⟨⟨cb,h3.trans hc,hg⟩,h4 cb hc g hg⟩
theorem Ext.at{X X':Cx}(h:Ext X X'){b v0 i f:Nat}{K:Ki}{l:List K.den}{v:Value}(k:Kn X (.ver b v0))(e:Ev.valid X'.s (.ver b v0)=true)(ha:At X b i f K l v):At X' b i f K l v:=h.weak.at k e ha
theorem Cv{cur:List Value}{o n:Nat}(h:o+n<=cur.length):(seg cur o n).length=n:=by simp[seg];omega
mutual
theorem VRel.extW{X X':Cx}(h:M7 X X'):∀{a:AV} {v:Value},VRel X a v->VRel X' a v
 | _,_,.un v=>.un v
 | _,_,.bool b=>.bool b
 | _,_,.int k n=>.int k n
 | _,_,.str t=>.str t
 | _,_,.nils=>.nils
 | _,_,.nz K=>.nz K
 | _,_,.sl e=>by
  obtain⟨cb',e',s'⟩:=h.cmx _ _ e
  cases cb'<;>simp[CB.same] at s'
  obtain⟨rfl,rfl,rfl,rfl⟩:=s'
  exact .sl e'
 | _,_,.ss0 e ho=>by
  obtain⟨cb',e',s'⟩:=h.cmx _ _ e
  cases cb'<;>simp[CB.same] at s'
  obtain⟨rfl,rfl,rfl,rfl⟩:=s'
  exact .ss0 e' ho
 | _,_,.ss e h1 h2 h3=>by
  obtain⟨cb',e',s'⟩:=h.cmx _ _ e
  cases cb'<;>simp[CB.same] at s'
  obtain⟨rfl,rfl,rfl,rfl⟩:=s'
  exact .ss e' h1 h2 h3
 | _,_,.ro h1 h2 hk hr=>.ro h1 h2 (h.kn hk) λ e=>Pl (hr (h.valid hk e)) (h.sof hk e) λ cs hc=>Se hc (h.sof hk e) (h.stw none)
 | _,_,.vw h1 h2 hk hr=>.vw h1 h2 (h.kn hk) λ e=>h.at hk e (hr (h.valid hk e))
 | _,_,.arr hl hr=>.arr hl (hr.moveW (h.stw none) (by simp))
 | _,_,.nilp=>.nilp
 | _,_,.pb e hb hp hn=>by
  obtain⟨cb',e',s'⟩:=h.cmx _ _ e
  exact .pb e' ((CB.same_base s').symm.trans hb) (CB.same_rowN s'▸hp) (CB.same_rowN s'▸hn)
 | _,_,.pn hn hp hk hr=>.pn hn hp (h.kn hk) λ e=>by
  obtain⟨n,c,ha⟩:=hr (h.valid hk e)
  exact⟨n,c,h.at hk e ha⟩
 | _,_,.po hn hp hk hr=>.po hn hp (h.kn hk) λ e=>by
  obtain⟨cur,t,fr,h3,h4,h5,h6⟩:=hr (h.valid hk e)
  exact⟨cur,t,fr,(h.sof hk e _ h3 ⟨_,_,_,h4⟩).1,(h.sof hk e _ h3 ⟨_,_,_,h4⟩).2.trans h4,h5,Se h6 (h.sof hk e) (h.stw none)⟩
 | _,_,.pr (q:=q) h1 h2 h3 h4 h7 h5 h6=>by
  have k:Kn X q:=by cases q with
   | frz=>trivial
   | reg n=>trivial
   | ver b v=>exact(h5 b v rfl).elim
  have e:Ev.valid X'.s q=true:=by cases q with
   | frz=>rfl
   | reg n=>rfl
   | ver b v=>exact(h5 b v rfl).elim
  exact .pr (h.sof k e _ h1 ⟨_,_,_,h2⟩).1 ((h.sof k e _ h1 ⟨_,_,_,h2⟩).2.trans h2) h3 (PRs.extW h (by simp) h4) h7 h5 h6
 | _,_,.agg hp hn=>.agg (PRs.extW h (by simp) hp) hn
 | _,_,.fn hv=>.fn (B6.extW h hv)
 | _,_,.nilf=>.nilf
 | _,_,.ifc hv=>.ifc (VRel.extW h hv)
 | _,_,.nili=>.nili
 | _,_,.mp e=>by
  obtain⟨cb',e',s'⟩:=h.cmx _ _ e
  cases cb'<;>simp[CB.same] at s'
  subst s'
  exact .mp e'
 | _,_,.nilm=>.nilm
 | _,_,.tr (q:=q) h5 ht=>by
  have k:Kn X q:=by cases q with
   | frz=>trivial
   | reg n=>trivial
   | ver b v=>exact(h5 b v rfl).elim
  have e:Ev.valid X'.s q=true:=by cases q with
   | frz=>rfl
   | reg n=>rfl
   | ver b v=>exact(h5 b v rfl).elim
  exact .tr h5 (ht.moveW (h.sof k e))
 | _,_,.tup hv=>.tup (B6.extW h hv)
theorem PRs.extW{X X':Cx}(h:M7 X X'):∀{ps:List AV} {cs:List Value} {fp:List Nat},(∀g∈fp,X'.w.heap[g]?=X.w.heap[g]?)->PRs X ps cs fp->PRs X' ps cs fp
 | _,_,_,_,.nil=>.nil
 | _,_,_,hf,.one h1 h2 h3 h4=>.one h1 h2 (VRel.extW h h3) (PRs.extW h hf h4)
 | _,_,_,hf,.arr h1 h2 h3=>.arr h1 (h2.moveW (h.stw none) λ g hg=>hf g (by simp[hg])) (PRs.extW h (λ g hg=>hf g (by simp[hg])) h3)
 | _,_,_,hf,.nl h1 h3=>.nl (h1.moveW (h.stw none) λ g hg=>hf g (by simp[hg])) (PRs.extW h (λ g hg=>hf g (by simp[hg])) h3)
 | _,_,_,hf,.rw h2 h3=>.rw (h2.moveW (h.stw none) λ g hg=>hf g (by simp[hg])) (PRs.extW h (λ g hg=>hf g (by simp[hg])) h3)
theorem B6.extW{X X':Cx}(h:M7 X X'):∀{as:List AV} {vs:List Value},B6 X as vs->B6 X' as vs
 | _,_,.nil=>.nil
 | _,_,.cons h1 h2=>.cons (VRel.extW h h1) (B6.extW h h2)
end
theorem VRel.ext{X X':Cx}(h:Ext X X'){a:AV}{v:Value}(hv:VRel X a v):VRel X' a v:=VRel.extW h.weak hv
theorem PRs.ext{X X':Cx}(h:Ext X X'){ps:List AV}{cs:List Value}{fp:List Nat}(hf:∀g∈fp,X'.w.heap[g]?=X.w.heap[g]?)(hp:PRs X ps cs fp):PRs X' ps cs fp:=PRs.extW h.weak hf hp
theorem B6.ext{X X':Cx}(h:Ext X X'){as:List AV}{vs:List Value}(hv:B6 X as vs):B6 X' as vs:=B6.extW h.weak hv
end Go.Ev
namespace Go.Ev
theorem S8:∀a b:Hh,Bf (a++b)=Bf a+Bf b
 | [],b=>by simp[Bf]
 | (sz,n,i,o)::r,b=>by simp only[yY,Bf];rw[S8 r b];omega
theorem C3:∀a:Hh,Bf a.reverse=Bf a
 | []=>rfl
 | (sz,n,i,o)::r=>by rw[zE,S8,C3 r];simp only[Bf];omega
variable{X:Cx}
theorem Ci:∀{p q:List AV} {c1 c2:List Value} {f1 f2:List Nat},PRs X p c1 f1->PRs X q c2 f2->PRs X (p++q) (c1++c2) (f1++f2)
 | _,_,_,_,_,_,.nil,h=>h
 | _,_,_,_,_,_,.one h1 h2 h3 h4,h=>.one h1 h2 h3 (Ci h4 h)
 | _,_,_,_,_,_,.arr h1 h2 h3,h=>by
  rw[zC,zC];exact .arr h1 h2 (Ci h3 h)
 | _,_,_,_,_,_,.nl h1 h3,h=>by
  rw[zC];exact .nl h1 (Ci h3 h)
 | _,_,_,_,_,_,.rw h2 h3,h=>by
  rw[zC,zC];exact .rw h2 (Ci h3 h)
theorem K7{a:AV}{r:List AV}{cs:List Value}{fp:List Nat}(h:PRs X (a::r) cs fp)(ha:a.norw=true):
  ∃c1 c2 f1 f2,cs=c1++c2/\fp=f1++f2/\c1.length=a.size/\PRs X [a] c1 f1/\PRs X r c2 f2:=by
 cases h with
 | @one _ v _ cs _ h1 h2 h3 h4=>
  refine⟨[v],cs,[],fp,rfl,rfl, ?_,.one h1 h2 h3 .nil,h4⟩
  cases a<;>first|rfl|simp[AV.plain] at h1
 | @arr n K l _ c1 cs f1 fp h1 h2 h3=>
  refine⟨c1,cs,f1,fp,rfl,rfl, ?_,by simpa using PRs.arr h1 h2 .nil,h3⟩
  rw[Iu (λ x c f hx=>B0 hx) h2,h1];rfl
 | @nl K l v _ cs f1 fp h1 h3=>exact⟨[v],cs,f1,fp,rfl,rfl,rfl,by simpa using PRs.nl h1 .nil,h3⟩
 | rw h2 h3=>simp[AV.norw] at ha
theorem Ec:∀(K:Ki) (d:K.den),∀a∈Br K d,a.norw=true
 | .int _,_,a,h|.bool,_,a,h|.str,_,a,h|.arr _ _,_,a,h|.lst _,_,a,h|.tr,_,a,h|.fl _,_,a,h=>by
  simp only[Br,zN] at h;rw[h];rfl
 | .pair x y,d,a,h=>by
  simp only[Br,yG] at h
  exact h.elim (Ec x d.1 a) (Ec y d.2 a)
 | .unit,_,a,h=>by simp[Br] at h
theorem Dw:∀{K:Ki} {d:K.den} {cs:List Value} {fp:List Nat},Rep X.w (X.S none) (X.S none) K true d cs fp->PRs X (Br K d) cs fp
 | .int _,_,_,_,h=>by rw[h.1,h.2];exact .one rfl rfl (.int _ _) .nil
 | .bool,_,_,_,h=>by rw[h.1,h.2];exact .one rfl rfl (.bool _) .nil
 | .str,_,_,_,h=>by rw[h.1,h.2];exact .one rfl rfl (.str _) .nil
 | .lst e,l,_,fp,h=>by
  rcases h with⟨_,v,h1,h2⟩|⟨h1,_⟩
  ·rw[h1]
   have:=PRs.nl (X:=X) h2 .nil
   simpa[Br] using this
  ·simp at h1
 | .arr n e,l,_,fp,h=>by
  have:=PRs.arr (X:=X) h.1 h.2 .nil
  simpa[Br] using this
 | .pair a b,_,_,_,⟨c1,c2,f1,f2,e1,e2,h1,h2⟩=>by
  rw[e1,e2];exact Ci (Dw h1) (Dw h2)
 | .unit,_,_,_,h=>by rw[h.1,h.2];exact .nil
 | .tr,t,_,_,⟨h0,v,h1,h2,h3⟩=>by
  rw[h0,h1];exact .one rfl h2 (.tr (λ b v e=>by cases e) h3) .nil
 | .fl e,l,_,_,⟨h0,v,h1,h2⟩=>by
  have h3:=h2
  obtain⟨A,c,e1,e2,e3⟩:=h2
  rw[h0,h1]
  subst e1
  refine .one rfl rfl (.ro e2 ?_ trivial λ _=>h3) .nil
  rcases e3 with e3|⟨g,o,cur,t,fr,e3,_⟩
  ·exact .inl e3
  ·exact .inr ⟨g,o,e3⟩
theorem Gl{K K':Ki}{l:List K.den}{l':List K'.den}(h:E2 K K' l=some l'):∃e:K=K',e▸l=l':=Ix h
theorem Aas(w:World)(sz:Nat)(Row:List Value->List Nat->Prop):Gf w sz 0 Row (.slice none 0 0) []:=⟨none,0,rfl,.inl ⟨rfl,rfl,rfl⟩⟩
theorem Af6(w:World)(S:Nat->Prop)(sz:Nat)(Row:List Value->Prop):RoS w S sz 0 Row (.slice none 0 0):=⟨none,0,rfl,zF _,.inl rfl⟩
theorem Ae9:∀{e:Ki} {ps r:List AV} {d:List e.den} {cs:List Value} {fp:List Nat},PRs X ps cs fp->A4 (.fl e) ps=some (d,r)->
  ∃c1 c2 f1 f2,cs=c1++c2/\fp=f1++f2/\Rep X.w (X.S none) (X.S none) (.fl e) true d c1 f1/\PRs X r c2 f2:=by
 intro e ps r d cs fp hp h
 cases hp with
 | nil=>simp[A4] at h
 | @one a v r' cs' fp' h1 h2 h3 h4=>
  cases a with
  | nils=>
   simp[A4] at h
   obtain⟨rfl,rfl⟩:=h
   cases h3
   exact⟨[_],cs',[],fp,rfl,rfl,⟨rfl,_,rfl,Af6 _ _ _ _⟩,h4⟩
  | nz K=>
   simp[A4] at h
   obtain⟨rfl,rfl⟩:=h
   cases h3
   exact⟨[_],cs',[],fp,rfl,rfl,⟨rfl,_,rfl,Af6 _ _ _ _⟩,h4⟩
  | ro q K l=>
   cases q with
   | frz=>
    simp only[A4] at h
    cases e2:E2 K e l with
    | none=>rw[e2] at h;cases h
    | some l'=>
     rw[e2] at h
     simp only[zB,zL] at h
     obtain⟨rfl,rfl⟩:=Gl e2
     obtain⟨rfl,rfl⟩:=h
     cases h3 with
     | ro q1 q2 q3 q4=>exact⟨[_],cs',[],fp,rfl,rfl,⟨rfl,_,rfl,q4 rfl⟩,h4⟩
   | _=>simp[A4] at h
  | _=>simp[A4] at h
 | arr=>simp[A4] at h
 | nl=>simp[A4] at h
 | rw=>simp[A4] at h
theorem O1:∀{K:Ki} {ps r:List AV} {d:K.den} {cs:List Value} {fp:List Nat},PRs X ps cs fp->A4 K ps=some (d,r)->
  ∃c1 c2 f1 f2,cs=c1++c2/\fp=f1++f2/\Rep X.w (X.S none) (X.S none) K true d c1 f1/\PRs X r c2 f2
 | .int k,ps,r,d,cs,fp,hp,h=>by
  cases hp with
  | nil=>simp[A4] at h
  | @one a v r' cs' fp' h1 h2 h3 h4=>
   cases a<;>simp[A4] at h
   rename_i k' n
   cases e:G1 k k'<;>rw[e] at h<;>simp at h
   obtain⟨rfl,rfl⟩:=h
   cases h3
   rw[Er e]
   exact⟨[_],cs',[],fp,rfl,rfl,⟨rfl,rfl⟩,h4⟩
  | arr=>simp[A4] at h
  | nl=>simp[A4] at h
  | rw=>simp[A4] at h
 | .bool,ps,r,d,cs,fp,hp,h=>by
  cases hp with
  | nil=>simp[A4] at h
  | @one a v r' cs' fp' h1 h2 h3 h4=>
   cases a<;>simp[A4] at h
   obtain⟨rfl,rfl⟩:=h
   cases h3
   exact⟨[_],cs',[],fp,rfl,rfl,⟨rfl,rfl⟩,h4⟩
  | arr=>simp[A4] at h
  | nl=>simp[A4] at h
  | rw=>simp[A4] at h
 | .str,ps,r,d,cs,fp,hp,h=>by
  cases hp with
  | nil=>simp[A4] at h
  | @one a v r' cs' fp' h1 h2 h3 h4=>
   cases a<;>simp[A4] at h
   obtain⟨rfl,rfl⟩:=h
   cases h3
   exact⟨[_],cs',[],fp,rfl,rfl,⟨rfl,rfl⟩,h4⟩
  | arr=>simp[A4] at h
  | nl=>simp[A4] at h
  | rw=>simp[A4] at h
 | .lst e,ps,r,d,cs,fp,hp,h=>by
  cases hp with
  | nil=>simp[A4] at h
  | @one a v r' cs' fp' h1 h2 h3 h4=>
   cases a<;>simp[A4,AV.plain] at h h1
   ·obtain⟨rfl,rfl⟩:=h
    cases h3
    exact⟨[_],cs',[],fp,rfl,rfl,.inl ⟨rfl,_,rfl,Aas _ _ _⟩,h4⟩
   ·obtain⟨rfl,rfl⟩:=h
    cases h3
    exact⟨[_],cs',[],fp,rfl,rfl,.inl ⟨rfl,_,rfl,Aas _ _ _⟩,h4⟩
  | arr=>simp[A4] at h
  | @nl K l v r' cs' f1 fp' h1 h3=>
   simp only[A4] at h
   cases e2:E2 K e l with
   | none=>rw[e2] at h;cases h
   | some l'=>
    rw[e2] at h
    simp only[zB,zL] at h
    obtain⟨rfl,rfl⟩:=Gl e2
    obtain⟨rfl,rfl⟩:=h
    exact⟨[v],cs',f1,fp',rfl,rfl,.inl ⟨rfl,v,rfl,h1⟩,h3⟩
  | rw=>simp[A4] at h
 | .arr n e,ps,r,d,cs,fp,hp,h=>by
  cases hp with
  | nil=>simp[A4] at h
  | @one a v r' cs' fp' h1 h2 h3 h4=>cases a<;>simp[A4,AV.plain] at h h1
  | @arr n' K l r' c1 cs' f1 fp' h1 h2 h3=>
   simp only[A4] at h
   cases e3:zA n n'<;>rw[e3] at h<;>simp only[cond_true,cond_false] at h
   ·cases h
   cases e2:E2 K e l with
   | none=>rw[e2] at h;cases h
   | some l'=>
    rw[e2] at h
    simp only[zB,zL] at h
    obtain⟨rfl,rfl⟩:=Gl e2
    obtain⟨rfl,rfl⟩:=h
    exact⟨c1,cs',f1,fp',rfl,rfl,⟨h1.trans (z8 e3).symm,h2⟩,h3⟩
  | nl=>simp[A4] at h
  | rw=>simp[A4] at h
 | .pair a b,ps,r,d,cs,fp,hp,h=>by
  simp only[A4] at h
  cases e1:A4 a ps with
  | none=>rw[e1] at h;cases h
  | some z=>
   obtain⟨x,r1⟩:=z
   rw[e1] at h
   simp only at h
   cases e2:A4 b r1 with
   | none=>rw[e2] at h;cases h
   | some z=>
    obtain⟨y,r2⟩:=z
    rw[e2] at h
    simp only[zB,zL] at h
    obtain⟨rfl,rfl⟩:=h
    obtain⟨c1,c2,f1,f2,g1,g2,g3,g4⟩:=O1 hp e1
    obtain⟨c3,c4,f3,f4,k1,k2,k3,k4⟩:=O1 g4 e2
    exact⟨c1++c3,c4,f1++f3,f4,by simp[g1,k1],by simp[g2,k2],⟨c1,c3,f1,f3,rfl,rfl,g3,k3⟩,k4⟩
 | .unit,ps,r,d,cs,fp,hp,h=>by
  simp only[A4,zB,zL] at h
  obtain⟨_,rfl⟩:=h
  exact⟨[],cs,[],fp,rfl,rfl,⟨rfl,rfl⟩,hp⟩
 | .fl e,ps,r,d,cs,fp,hp,h=>Ae9 hp h
 | .tr,ps,r,d,cs,fp,hp,h=>by
  cases hp with
  | nil=>simp[A4] at h
  | @one a v r' cs' fp' h1 h2 h3 h4=>
   cases a with
   | tr q t=>
    cases q<;>simp[A4] at h
    obtain⟨rfl,rfl⟩:=h
    cases h3 with
    | tr hq ht=>exact⟨[_],cs',[],fp,rfl,rfl,⟨rfl,v,rfl,h2,ht⟩,h4⟩
   | _=>simp[A4] at h
  | arr=>simp[A4] at h
  | nl=>simp[A4] at h
  | rw=>simp[A4] at h
theorem Ft{K:Ki}{ps:List AV}{d:K.den}{cs:List Value}{fp:List Nat}(hp:PRs X ps cs fp)(h:Dv K ps=some d):Rep X.w (X.S none) (X.S none) K true d cs fp:=by
 unfold Dv at h
 split at h
 ·rename_i x e
  cases h
  obtain⟨c1,c2,f1,f2,g1,g2,g3,g4⟩:=O1 hp e
  cases g4
  rw[g1,g2];simpa using g3
 ·cases h
end Go.Ev
namespace Go.Ev
structure PG(G:List AV->List Value->List Nat->Prop):Prop where
 nil:G [] [] []
 nil':∀cs fp,G [] cs fp->cs=[]/\fp=[]
 head:∀a r cs fp,G (a::r) cs fp->a.norw=true->∃c1 c2 f1 f2,cs=c1++c2/\fp=f1++f2/\c1.length=a.size/\G [a] c1 f1/\G r c2 f2
 app:∀p q c1 c2 f1 f2,G p c1 f1->G q c2 f2->G (p++q) (c1++c2) (f1++f2)
 arr:∀m K l c f,G [.arr m K l] c f->∀i,i<m->∃c1 c2 c3 f1 f2 f3,c=c1++c2++c3/\f=f1++f2++f3/\c1.length=i*K.size/\G (Br K (K.get l i)) c2 f2
section
variable{G:List AV->List Value->List Nat->Prop}(hG:PG G)
include hG
theorem PG.drop:∀{ps:List AV} (o:Nat) {r:List AV} {cs:List Value} {fp:List Nat},G ps cs fp->(∀a∈ps,a.norw=true)->Aw o ps=some r->
  ∃p1 c1 c2 f1 f2,ps=p1++r/\cs=c1++c2/\fp=f1++f2/\c1.length=o/\G p1 c1 f1/\G r c2 f2
 | [],o,r,cs,fp,hp,_,h=>by
  simp only[Aw] at h
  cases e:zA o 0<;>rw[e] at h<;>simp only[cond_true,cond_false] at h
  ·cases h
  cases h
  exact⟨[],[],cs,[],fp,rfl,rfl,rfl,(z8 e).symm,hG.nil,hp⟩
 | p::ps,o,r,cs,fp,hp,hn,h=>by
  simp only[Aw] at h
  cases e0:zA o 0<;>rw[e0] at h<;>simp only[cond_true,cond_false] at h
  ·cases e:zM p.size o<;>rw[e] at h<;>simp only[cond_true,cond_false] at h
   ·cases h
   have hle:=zG e
   obtain⟨a1,a2,b1,b2,e1,e2,e3,h1,h2⟩:=hG.head _ _ _ _ hp (hn p (by simp))
   obtain⟨p1,c1,c2,f1,f2,g1,g2,g3,g4,g5,g6⟩:=PG.drop _ h2 (λ a ha=>hn a (by simp[ha])) h
   refine⟨p::p1,a1++c1,c2,b1++f1,f2,by simp[g1],by rw[e1,g2,zC],by rw[e2,g3,zC], ?_, ?_,g6⟩
   ·rw[zD,e3,g4];omega
   ·exact hG.app [p] _ _ _ _ _ h1 g5
  ·cases h
   exact⟨[],[],cs,[],fp,rfl,rfl,rfl,(z8 e0).symm,hG.nil,hp⟩
theorem PG.take:∀{ps:List AV} (n:Nat) {qs:List AV} {cs:List Value} {fp:List Nat},G ps cs fp->(∀a∈ps,a.norw=true)->Bo n ps=some qs->
  ∃r c1 c2 f1 f2,ps=qs++r/\cs=c1++c2/\fp=f1++f2/\c1.length=n/\G qs c1 f1/\G r c2 f2
 | [],n,qs,cs,fp,hp,_,h=>by
  simp only[Bo] at h
  cases e:zA n 0<;>rw[e] at h<;>simp only[cond_true,cond_false] at h
  ·cases h
  cases h
  exact⟨[],[],cs,[],fp,rfl,rfl,rfl,(z8 e).symm,hG.nil,hp⟩
 | p::ps,n,qs,cs,fp,hp,hn,h=>by
  simp only[Bo] at h
  cases e0:zA n 0<;>rw[e0] at h<;>simp only[cond_true,cond_false] at h
  ·cases e:zM p.size n<;>rw[e] at h<;>simp only[cond_true,cond_false] at h
   ·cases h
   have hle:=zG e
   cases e2:Bo (n-p.size) ps with
   | none=>rw[e2] at h;cases h
   | some x=>
    rw[e2] at h
    simp only[zB] at h
    subst h
    obtain⟨a1,a2,b1,b2,e1,e3,e4,h1,h2⟩:=hG.head _ _ _ _ hp (hn p (by simp))
    obtain⟨r,c1,c2,f1,f2,g1,g2,g3,g4,g5,g6⟩:=PG.take _ h2 (λ a ha=>hn a (by simp[ha])) e2
    refine⟨r,a1++c1,c2,b1++f1,f2,by simp[g1],by rw[e1,g2,zC],by rw[e3,g3,zC], ?_, ?_,g6⟩
    ·rw[zD,e4,g4];omega
    ·exact hG.app [p] _ _ _ _ _ h1 g5
  ·cases h
   exact⟨p::ps,[],cs,[],fp,rfl,rfl,rfl,(z8 e0).symm,hG.nil,hp⟩
theorem PG.nav:∀(p:Hh) (o n:Nat) {ps qs:List AV} {cs:List Value} {fp:List Nat},G ps cs fp->(∀a∈ps,a.norw=true)->PIn none p->nav n p o ps=some qs->
  ∃c1 c2 c3 f1 f2 f3,cs=c1++c2++c3/\fp=f1++f2++f3/\c1.length=o+Bf p/\c2.length=n/\G qs c2 f2/\(∀a∈qs,a.norw=true)
 | [],o,n,ps,qs,cs,fp,hp,hn,_,h=>by
  simp only[Ev.nav] at h
  cases e:Aw o ps with
  | none=>rw[e] at h;cases h
  | some r=>
   rw[e] at h
   obtain⟨p1,c1,c2,f1,f2,g1,g2,g3,g4,g5,g6⟩:=hG.drop o hp hn e
   have hn':∀a∈r,a.norw=true:=λ a ha=>hn a (by rw[g1];simp[ha])
   obtain⟨r',d1,d2,k1,k2,j1,j2,j3,j4,j5,j6⟩:=hG.take n g6 hn' h
   exact⟨c1,d1,d2,f1,k1,k2,by rw[g2,j2,zC],by rw[g3,j3,zC],by simp[Bf,g4],j4,j5,λ a ha=>hn' a (by rw[j1];simp[ha])⟩
 | (sz,N,i,o')::p,o,n,ps,qs,cs,fp,hp,hn,hi,h=>by
  simp only[Ev.nav] at h
  cases e:Aw o ps with
  | none=>rw[e] at h;cases h
  | some r=>
   rw[e] at h
   obtain⟨p1,c1,c2,f1,f2,g1,g2,g3,g4,g5,g6⟩:=hG.drop o hp hn e
   have hn':∀a∈r,a.norw=true:=λ a ha=>hn a (by rw[g1];simp[ha])
   cases r with
   | nil=>cases h
   | cons a r=>
    cases a with
    | arr m K l=>
     simp only at h
     cases hb:(zA sz K.size&&zA m N)<;>rw[hb] at h<;>simp only[cond_true,cond_false] at h
     ·cases h
     simp only[z9] at hb
     have e1:=z8 hb.1
     have e2:=z8 hb.2
     obtain⟨a1,a2,b1,b2,k1,k2,k3,k4,k5⟩:=hG.head _ _ _ _ g6 rfl
     obtain⟨d1,d2,d3,x1,x2,x3,y1,y2,y3,y4⟩:=hG.arr _ _ _ _ _ k4 i (by rw[e2];exact hi.1)
     obtain⟨u1,u2,u3,z1,z2,z3,w1,w2,w3,w4,w5,w6⟩:=PG.nav p o' n y4 (Ec _ _) hi.2 h
     refine⟨c1++(d1++u1),u2,u3++(d3++a2),f1++(x1++z1),z2,z3++(x3++b2), ?_, ?_, ?_,w4,w5,w6⟩
     ·rw[g2,k1,y1,w1];simp
     ·rw[g3,k2,y2,w2];simp
     ·simp only[zD,Bf,g4,y3,w3,e1];omega
    | rw K l=>have:=hn' _ (zO ..);simp[AV.norw] at this
    | _=>cases h
end
variable{X:Cx}
theorem Ki.get_eq{K:Ki}{l:List K.den}{i:Nat}(h:i<zJ l):K.get l i=l[i]:=by
 simp[Ki.get,List.getD_eq_getElem?_getD,h]
theorem Mi{m:Nat}{K:Ki}{l:List K.den}{c:List Value}{f:List Nat}(h:PRs X [.arr m K l] c f):l.length=m/\A0 X.w (X.S none) K l c f:=by
 cases h with
 | one h1=>simp[AV.plain] at h1
 | arr h1 h2 h3=>cases h3;simpa using⟨h1,h2⟩
theorem K6:PG (PRs X) where
 nil:=.nil
 nil' cs fp h:=by cases h;exact⟨rfl,rfl⟩
 head a r cs fp h ha:=K7 h ha
 app p q c1 c2 f1 f2 h k:=Ci h k
 arr m K l c f h i hi:=by
  obtain⟨h1,h2⟩:=Mi h
  have hi':i<l.length:=by omega
  obtain⟨c1,c2,c3,f1,f2,f3,e1,e2,e3,e4,_⟩:=Ic (λ x c f hx=>B0 hx) i hi' h2
  exact⟨c1,c2,c3,f1,f2,f3,e1,e2,e3,by rw[Ki.get_eq hi'];exact Dw e4⟩
inductive RPs (w:World) (S Z:Nat->Prop):List AV->List Value->List Nat->Prop
 | nil:RPs w S Z [] [] []
 | int {k:IntKind} {n:Int} {r:List AV} {cs:List Value}:RPs w S Z r cs []->RPs w S Z (.int k n::r) (.int k n::cs) []
 | bool {b:Bool} {r:List AV} {cs:List Value}:RPs w S Z r cs []->RPs w S Z (.bool b::r) (.bool b::cs) []
 | str {t:List UInt8} {r:List AV} {cs:List Value}:RPs w S Z r cs []->RPs w S Z (.str t::r) (.string ⟨⟨t⟩⟩::cs) []
 | fl {K:Ki} {l:List K.den} {v:Value} {r:List AV} {cs:List Value}:RoS w Z K.size l.length (λ cs=>Cw (Rep w Z Z K false) l cs []) v->RPs w S Z r cs []->RPs w S Z (.ro .frz K l::r) (v::cs) []
 | tr {t:Tr} {v:Value} {r:List AV} {cs:List Value}:v.oneCell'=true->Fh w Z t v->RPs w S Z r cs []->RPs w S Z (.tr .frz t::r) (v::cs) []
 | arr {n:Nat} {K:Ki} {l:List K.den} {r:List AV} {c1 cs:List Value}:l.length=n->Cw (Rep w S Z K false) l c1 []->RPs w S Z r cs []->RPs w S Z (.arr n K l::r) (c1++cs) []
 | nl {K:Ki} {l:List K.den} {v:Value} {r:List AV} {cs:List Value}:RoS w S K.size l.length (λ cs=>Cw (Rep w S Z K false) l cs []) v->RPs w S Z r cs []->RPs w S Z (.nl K l::r) (v::cs) []
theorem Oa{w:World}{S Z:Nat->Prop}{ps:List AV}{cs:List Value}{fp:List Nat}(h:RPs w S Z ps cs fp):fp=[]:=by cases h<;>rfl
theorem D7{w:World}{S Z:Nat->Prop}:∀{p q:List AV} {c1 c2:List Value} {f1 f2:List Nat},RPs w S Z p c1 f1->RPs w S Z q c2 f2->RPs w S Z (p++q) (c1++c2) (f1++f2)
 | _,_,_,_,_,_,.nil,h=>h
 | _,_,_,_,_,_,.int h1,h=>by have:=Oa h;subst this;exact .int (D7 h1 h)
 | _,_,_,_,_,_,.bool h1,h=>by have:=Oa h;subst this;exact .bool (D7 h1 h)
 | _,_,_,_,_,_,.str h1,h=>by have:=Oa h;subst this;exact .str (D7 h1 h)
 | _,_,_,_,_,_,.tr h0 ht h1,h=>by have:=Oa h;subst this;exact .tr h0 ht (D7 h1 h)
 | _,_,_,_,_,_,.fl h0 h1,h=>by have:=Oa h;subst this;exact .fl h0 (D7 h1 h)
 | _,_,_,_,_,_,.arr h1 h2 h3,h=>by have:=Oa h;subst this;rw[zC];exact .arr h1 h2 (D7 h3 h)
 | _,_,_,_,_,_,.nl h1 h3,h=>by have:=Oa h;subst this;exact .nl h1 (D7 h3 h)
theorem Ml{w:World}{S Z:Nat->Prop}:∀{K:Ki} {d:K.den} {cs:List Value},Rep w S Z K false d cs []->RPs w S Z (Br K d) cs []
 | .int _,_,_,h=>by rw[h.1];exact .int .nil
 | .bool,_,_,h=>by rw[h.1];exact .bool .nil
 | .str,_,_,h=>by rw[h.1];exact .str .nil
 | .tr,_,_,⟨_,v,h1,h2,ht⟩=>by rw[h1];exact .tr h2 ht .nil
 | .fl e,_,_,⟨_,v,h1,h2⟩=>by rw[h1];exact .fl h2 .nil
 | .lst e,l,_,h=>by
  rcases h with⟨h1,_⟩|⟨_,_,v,h1,h2⟩
  ·simp at h1
  ·rw[h1];exact .nl h2 .nil
 | .arr n e,l,_,h=>by
  have:=RPs.arr (w:=w) (S:=S) (Z:=Z) h.1 h.2 .nil
  simpa[Br] using this
 | .pair a b,_,_,⟨c1,c2,f1,f2,e1,e2,h1,h2⟩=>by
  rw[e1]
  have e3:=Ed (.inl rfl) h1
  have e4:=Ed (.inl rfl) h2
  subst e3 e4
  exact D7 (Ml h1) (Ml h2)
 | .unit,_,_,h=>by rw[h.1];exact .nil
theorem Avm{w:World}{S Z:Nat->Prop}:PG (RPs w S Z) where
 nil:=.nil
 nil' cs fp h:=by cases h;exact⟨rfl,rfl⟩
 head a r cs fp h ha:=by
  cases h with
  | int h1=>exact⟨[_],_,[],[],rfl,rfl,rfl,.int .nil,h1⟩
  | bool h1=>exact⟨[_],_,[],[],rfl,rfl,rfl,.bool .nil,h1⟩
  | str h1=>exact⟨[_],_,[],[],rfl,rfl,rfl,.str .nil,h1⟩
  | tr h0 ht h1=>exact⟨[_],_,[],[],rfl,rfl,rfl,.tr h0 ht .nil,h1⟩
  | fl h0 h1=>exact⟨[_],_,[],[],rfl,rfl,rfl,.fl h0 .nil,h1⟩
  | @arr n K l _ c1 cs h1 h2 h3=>
   refine⟨c1,cs,[],[],rfl,rfl, ?_,by simpa using RPs.arr h1 h2 .nil,h3⟩
   rw[Iu (λ x c f hx=>B0 hx) h2,h1];rfl
  | nl h1 h3=>exact⟨[_],_,[],[],rfl,rfl,rfl,.nl h1 .nil,h3⟩
 app p q c1 c2 f1 f2 h k:=D7 h k
 arr m K l c f h i hi:=by
  cases h with
  | @arr _ _ _ _ c1 cs h1 h2 h3=>
   cases h3
   have hi':i<l.length:=by omega
   obtain⟨c1,c2,c3,f1,f2,f3,e1,e2,e3,e4,_⟩:=Ic (λ x c f hx=>B0 hx) i hi' h2
   have hf:=Ed (.inl rfl) e4
   subst hf
   exact⟨c1,c2,c3,[],[],[],by simpa using e1,rfl,e3,by rw[Ki.get_eq hi'];exact Ml e4⟩
theorem Zx{w:World}{S Z:Nat->Prop}{o:Bool}{G:List AV->List Value->List Nat->Prop}(hG:PG G){K:Ki}(hK:∀d c f,Rep w S Z K o d c f->G (Br K d) c f)
  {n sz N i f:Nat} {p:Hh} {l:List K.den} {qs:List AV} {cs:List Value} {fp:List Nat}
  (hr:Cw (Rep w S Z K o) l cs fp) (hi:i<l.length) (hp:PIn none p) (h:nav n ((sz,N,i,f)::p) 0 [.rw K l]=some qs):
  sz=K.size/\∃c1 c2 c3 f1 f2 f3,cs=c1++c2++c3/\fp=f1++f2++f3/\c1.length=i*K.size+f+Bf p/\c2.length=n/\G qs c2 f2/\(∀a∈qs,a.norw=true):=by
 simp only[nav,Aw,show zA 0 0=true from rfl,cond_true] at h
 cases hb:zA sz K.size<;>rw[hb] at h<;>simp only[cond_true,cond_false] at h
 ·cases h
 obtain⟨c1,c2,c3,f1,f2,f3,e1,e2,e3,e4,_⟩:=Ic (λ x c f hx=>B0 hx) i hi hr
 rw[Ki.get_eq hi] at h
 obtain⟨u1,u2,u3,z1,z2,z3,w1,w2,w3,w4,w5,w6⟩:=hG.nav p f n (hK _ _ _ e4) (Ec _ _) hp h
 refine⟨z8 hb,c1++u1,u2,u3++c3,f1++z1,z2,z3++f3, ?_, ?_, ?_,w4,w5,w6⟩
 ·rw[e1,w1];simp
 ·rw[e2,w2];simp
 ·simp only[zD,e3,w3];omega
theorem Hf:∀{ps:List AV} (o:Nat) {ps':List AV} (n:Nat) (new:List AV),E8 o ps n new=some ps'->
  ∃p1 r0 r,Aw o ps=some r0/\ps=p1++r0/\ps'=p1++new++r/\Aw n r0=some r
 | [],o,ps',n,new,h=>by
  simp only[E8] at h
  cases e:(zA o 0&&zA n 0)<;>rw[e] at h<;>simp only[cond_true,cond_false] at h
  ·cases h
  simp only[z9] at e
  cases h
  exact⟨[],[],[],by simp[Aw,e.1],rfl,by simp,by simp[Aw,e.2]⟩
 | p::ps,o,ps',n,new,h=>by
  simp only[E8] at h
  cases e0:zA o 0<;>rw[e0] at h<;>simp only[cond_true,cond_false] at h
  ·cases e:zM p.size o<;>rw[e] at h<;>simp only[cond_true,cond_false] at h
   ·cases h
   cases e2:E8 (o-p.size) ps n new with
   | none=>rw[e2] at h;cases h
   | some x=>
    rw[e2] at h
    simp only[zB] at h
    subst h
    obtain⟨p1,r0,r,h0,h1,h2,h3⟩:=Hf _ n new e2
    exact⟨p::p1,r0,r,by simp[Aw,e0,e,h0],by simp[h1],by simp[h2],h3⟩
  ·cases e:Aw n (p::ps) with
   | none=>rw[e] at h;cases h
   | some r=>
    rw[e] at h
    simp only[zB] at h
    exact⟨[],p::ps,r,by simp[Aw,e0],rfl,by simp[h],e⟩
theorem Jr{a:AV}{r:List AV}(h:1<=a.size):Aw a.size (a::r)=some r:=by
 have h0:zA a.size 0=false:=beq_f (by omega)
 have h1:zM a.size a.size=true:=Nat.ble_self_eq_true _
 simp only[Aw,h0,cond_false,h1,cond_true,yU]
 cases r<;>simp[Aw]
where
 beq_f {a b:Nat} (h:a≠b):zA a b=false:=by
  cases e:zA a b
  ·rfl
  ·exact(h (z8 e)).elim
structure Aax(X:Cx)(ps':List AV)(cs:List Value)(fp:List Nat)(o n:Nat)(nc:List Value)(nf:List Nat):Prop where
 out:∃c1 c2 c3 f1 f2 f3,cs=c1++c2++c3/\fp=f1++f2++f3/\c1.length=o/\c2.length=n/\PRs X ps' (c1++nc++c3) (f1++nf++f3)/\(∀a∈ps',a.norw=true)
theorem Ma{o:Nat}{ps ps':List AV}{cs:List Value}{fp:List Nat}{n:Nat}{new:List AV}{nc:List Value}{nf:List Nat}
  (hp:PRs X ps cs fp) (hn:∀a∈ps,a.norw=true) (hw:PRs X new nc nf) (hw':∀a∈new,a.norw=true) (h:E8 o ps n new=some ps'):Aax X ps' cs fp o n nc nf:=by
 obtain⟨p1,r0,r,hd,h1,h2,h3⟩:=Hf o n new h
 obtain⟨p1',c1,c2,f1,f2,g1,g2,g3,g4,g5,g6⟩:=K6.drop o hp hn hd
 have e:p1'=p1:=yB (g1.symm.trans h1)
 subst e
 have hn0:∀a∈r0,a.norw=true:=λ a ha=>hn a (by rw[g1];simp[ha])
 obtain⟨q1,d1,d2,k1,k2,j1,j2,j3,j4,j5,j6⟩:=K6.drop n g6 hn0 h3
 refine⟨c1,d1,d2,f1,k1,k2,by rw[g2,j2,zC],by rw[g3,j3,zC],g4,j4, ?_, ?_⟩
 ·rw[h2];exact Ci (Ci g5 hw) j6
 ·intro a ha
  rw[h2] at ha
  simp only[yG] at ha
  rcases ha with(ha|ha)|ha
  ·exact hn a (by rw[g1];simp[ha])
  ·exact hw' a ha
  ·exact hn0 a (by rw[j1];simp[ha])
theorem Mz:∀(p:Hh) (o:Nat) {ps ps':List AV} {cs:List Value} {fp:List Nat} {n:Nat} {new:List AV} {nc:List Value} {nf:List Nat},
  PRs X ps cs fp->(∀a∈ps,a.norw=true)->PRs X new nc nf->(∀a∈new,a.norw=true)->PIn none p->H1 n new p o ps=some ps'->Aax X ps' cs fp (o+Bf p) n nc nf
 | [],o,ps,ps',cs,fp,n,new,nc,nf,hp,hn,hw,hw',_,h=>by
  simpa[Bf] using Ma hp hn hw hw' h
 | (sz,N,i,o')::p,o,ps,ps',cs,fp,n,new,nc,nf,hp,hn,hw,hw',hi,h=>by
  simp only[H1] at h
  cases e:Aw o ps with
  | none=>rw[e] at h;cases h
  | some r=>
   rw[e] at h
   obtain⟨p1,c1,c2,f1,f2,g1,g2,g3,g4,g5,g6⟩:=K6.drop o hp hn e
   have hn':∀a∈r,a.norw=true:=λ a ha=>hn a (by rw[g1];simp[ha])
   cases r with
   | nil=>cases h
   | cons a r=>
    cases a with
    | arr m K l=>
     simp only at h
     cases hb:(zA sz K.size&&zA m N&&zM 1 K.size)<;>rw[hb] at h<;>simp only[cond_true,cond_false] at h
     ·cases h
     simp only[z9] at hb
     have e1:=z8 hb.1.1
     have e2:=z8 hb.1.2
     have e3:=zG hb.2
     cases eq:H1 n new p o' (Br K (K.get l i)) with
     | none=>rw[eq] at h;cases h
     | some qs=>
      rw[eq] at h
      simp only at h
      cases ed:Dv K qs with
      | none=>rw[ed] at h;cases h
      | some d=>
       rw[ed] at h
       simp only at h
       obtain⟨a1,a2,b1,b2,k1,k2,k3,k4,k5⟩:=K7 g6 rfl
       obtain⟨hl,hrow⟩:=Mi k4
       have hi':i<l.length:=by rw[hl,e2];exact hi.1
       obtain⟨d1,d2,d3,x1,x2,x3,y1,y2,y3,y4,y5⟩:=Ic (λ x c f hx=>B0 hx) i hi' hrow
       rw[Ki.get_eq hi'] at eq
       obtain⟨u1,u2,u3,z1,z2,z3,w1,w2,w3,w4,w5,w6⟩:=(Mz p o' (Dw (X:=X) y4) (Ec _ _) hw hw' hi.2 eq).out
       have hd:=Ft w5 ed
       have hrow':=y5 _ _ _ hd
       have hm:1<=m*K.size:=by
        have:1<=m:=by omega
        exact Nat.mul_le_mul this e3
       obtain⟨q1,r0,r',h0,h1,h2,h3⟩:=Hf o _ _ h
       rw[e] at h0
       cases h0
       have ep:q1=p1:=yB (h1.symm.trans g1)
       subst ep
       have hr':r'=r:=by
        have h4:=Jr (a:=.arr m K l) (r:=r) hm
        exact yH (h3.symm.trans h4)
       subst hr'
       refine⟨c1++(d1++u1),u2,u3++(d3++a2),f1++(x1++z1),z2,z3++(x3++b2), ?_, ?_, ?_,w4, ?_, ?_⟩
       ·rw[g2,k1,y1,w1];simp
       ·rw[g3,k2,y2,w2];simp
       ·simp only[zD,Bf,g4,y3,w3,e1];omega
       ·rw[h2]
        have hl':(l.set i d).length=m:=by simpa using hl
        have:=Ci (Ci g5 (PRs.arr hl' hrow' .nil)) k5
        simpa using this
       ·intro a ha
        rw[h2] at ha
        simp only[yG,zN] at ha
        rcases ha with(ha|ha)|ha
        ·exact hn a (by rw[g1];simp[ha])
        ·rw[ha];rfl
        ·exact hn' a (by simp[ha])
    | rw K l=>have:=hn' _ (zO ..);simp[AV.norw] at this
    | _=>cases h
theorem Vs{K:Ki}{n sz N i f:Nat}{p:Hh}{l:List K.den}{ps' new:List AV}{cs nc:List Value}{fp nf:List Nat}
  (hr:A0 X.w (X.S none) K l cs fp) (hi:i<l.length) (hw:PRs X new nc nf) (hw':∀a∈new,a.norw=true) (hp:PIn none p) (h:H1 n new ((sz,N,i,f)::p) 0 [.rw K l]=some ps'):
  sz=K.size/\∃(l':List K.den) (c1 c2 c3:List Value) (f1 f2 f3:List Nat),ps'=[.rw K l']/\l'.length=l.length/\cs=c1++c2++c3/\fp=f1++f2++f3/\c1.length=i*K.size+f+Bf p/\c2.length=n/\
   A0 X.w (X.S none) K l' (c1++nc++c3) (f1++nf++f3):=by
 simp only[H1,Aw,show zA 0 0=true from rfl,cond_true] at h
 cases hb:zA sz K.size<;>rw[hb] at h<;>simp only[cond_true,cond_false] at h
 ·cases h
 obtain⟨c1,c2,c3,f1,f2,f3,e1,e2,e3,e4,e5⟩:=Ic (λ x c f hx=>B0 hx) i hi hr
 rw[Ki.get_eq hi] at h
 cases eq:H1 n new p f (Br K l[i]) with
 | none=>rw[eq] at h;cases h
 | some qs=>
  rw[eq] at h
  simp only at h
  cases ed:Dv K qs with
  | none=>rw[ed] at h;cases h
  | some d=>
   rw[ed] at h
   simp only[zB] at h
   obtain⟨u1,u2,u3,z1,z2,z3,w1,w2,w3,w4,w5,w6⟩:=(Mz p f (Dw (X:=X) e4) (Ec _ _) hw hw' hp eq).out
   have hrow':=e5 _ _ _ (Ft w5 ed)
   refine⟨z8 hb,l.set i d,c1++u1,u2,u3++c3,f1++z1,z2,z3++f3,h.symm,by simp, ?_, ?_, ?_,w4, ?_⟩
   ·rw[e1,w1];simp
   ·rw[e2,w2];simp
   ·simp only[zD,e3,w3];omega
   ·simpa using hrow'
end Go.Ev
namespace Go.Ev
theorem Aj0{a b:Nat}(h:a<=b):zM a b=true:=by rw[Nat.ble_eq];exact h
theorem beq_true{a b:Nat}:zA a b=true<->a=b:=⟨z8,λ h=>h▸zW a⟩
theorem Bd{a b:Nat}:zA a b=false<->a≠b:=by
 cases h:zA a b
 ·simp;intro e;rw[beq_true.2 e] at h;cases h
 ·simp;exact beq_true.1 h
section
variable{α:Type}
theorem Nu(i:Nat)(x:α):∀l:List (Nat×α),look i (put i x l)=some x
 | []=>by simp[put,look]
 | (j,y)::r=>by
  simp only[put]
  cases h:zA j i
  ·simp only[cond_false,look,h];exact Nu i x r
  ·simp only[cond_true,look,h]
theorem Lr{i k:Nat}(x:α)(hne:k≠i):∀l:List (Nat×α),look k (put i x l)=look k l
 | []=>by simp[put,look,Bd.2 (Ne.symm hne)]
 | (j,y)::r=>by
  simp only[put]
  cases h:zA j i
  ·simp only[cond_false,look,Lr x hne r]
  ·have:=beq_true.1 h
   subst this
   simp only[cond_true,look,Bd.2 (Ne.symm hne),cond_false]
theorem Qh{i k:Nat}(x:α)(l:List (Nat×α)):look k (put i x l)=if k=i then some x else look k l:=by
 split
 ·rename_i h;subst h;exact Nu _ _ _
 ·rename_i h;exact Lr _ h _
def uniq:List (Nat×α)->Prop
 | []=>True
 | (j,_)::r=>look j r=none/\uniq r
theorem Hr{i k:Nat}(hne:k≠i):∀l:List (Nat×α),look k (del i l)=look k l
 | []=>rfl
 | (j,y)::r=>by
  simp only[del]
  cases h:zA j i
  ·simp only[cond_false,look,Hr hne r]
  ·have:=beq_true.1 h
   subst this
   simp only[cond_true,look,Bd.2 (Ne.symm hne),cond_false]
theorem Lq{i k:Nat}:∀l:List (Nat×α),uniq l->look k (del i l)=if k=i then none else look k l
 | l,h=>by
  split
  ·rename_i e;subst e
   induction l with
   | nil=>rfl
   | cons x r ih=>
    obtain⟨j,y⟩:=x
    simp only[del]
    cases hb:zA j k
    ·simp only[cond_false,look,hb];exact ih h.2
    ·have:=beq_true.1 hb
     subst this
     simp only[cond_true];exact h.1
  ·rename_i e;exact Hr e l
theorem Hu{i:Nat}{x:α}:∀{l:List (Nat×α)},uniq l->uniq (put i x l)
 | [],_=>by simp[put,uniq,look]
 | (j,y)::r,h=>by
  simp only[put]
  cases hb:zA j i
  ·simp only[cond_false]
   exact⟨by rw[Lr x (Bd.1 hb)];exact h.1,Hu h.2⟩
  ·simp only[cond_true];exact⟨h.1,h.2⟩
theorem Ht{i:Nat}:∀{l:List (Nat×α)},uniq l->uniq (del i l)
 | [],_=>trivial
 | (j,y)::r,h=>by
  simp only[del]
  cases hb:zA j i
  ·simp only[cond_false]
   exact⟨by rw[Hr (Bd.1 hb)];exact h.1,Ht h.2⟩
  ·simp only[cond_true];exact h.2
theorem Fs(d x:α)(i k:Nat):∀l:List (Nat×α),getD d k (put i x l)=if k=i then x else getD d k l
 | []=>by
  simp only[put,getD]
  by_cases h:k=i
  ·subst h;simp
  ·simp[Bd.2 (Ne.symm h),h]
 | (j,y)::r=>by
  simp only[put]
  cases hb:zA j i
  ·simp only[cond_false,getD,Fs d x i k r]
   by_cases h:k=i
   ·subst h;simp[hb]
   ·simp[h]
  ·have:=beq_true.1 hb
   subst this
   simp only[cond_true,getD]
   by_cases h:k=j
   ·subst h;simp
   ·simp[Bd.2 (Ne.symm h),h]
theorem Rt(d:α)(k:Nat):∀l:List (Nat×α),getD d k l=(look k l).getD d
 | []=>rfl
 | (j,y)::r=>by
  simp only[getD,look]
  cases zA j k
  ·simp only[cond_false];exact Rt d k r
  ·rfl
end
theorem Cg:∀(u:Upd) {st:List (Nat×Blk)},uniq st->uniq (A6 u st)
 | [],_,h=>h
 | (b,some x)::r,_,h=>Cg r (Hu h)
 | (b,none)::r,_,h=>Cg r (Ht h)
def Dg:Upd->Nat->Option (Option Blk)
 | [],_=>none
 | (b,x)::r,k=>match Dg r k with
  | some y=>some y
  | none=>if k=b then some x else none
theorem B7:∀(u:Upd) {st:List (Nat×Blk)} (k:Nat),uniq st->look k (A6 u st)=match Dg u k with|some x=>x|none=>look k st
  | [],_,_,_=>rfl
  | (b,some x)::r,st,k,h=>by
    simp only[A6,Dg]
    rw[B7 r k (Hu h)]
    cases Dg r k with
    | some y=>rfl
    | none=>
      simp only
      rw[Qh]
      split<;>rfl
  | (b,none)::r,st,k,h=>by
    simp only[A6,Dg]
    rw[B7 r k (Ht h)]
    cases Dg r k with
    | some y=>rfl
    | none=>
      simp only
      rw[Lq _ h]
      split<;>rfl
theorem Up:∀(u:Upd) (k:Nat),Dg u k≠none->k∈Bm u
 | [],_,h=>(h rfl).elim
 | (b,x)::r,k,h=>by
  simp only[Dg] at h
  simp only[Bm,yP,xH]
  cases e:Dg r k with
  | some y=>exact .inr (Up r k (by rw[e];simp))
  | none=>
   rw[e] at h
   simp only at h
   by_cases hb:k=b
   ·exact .inl hb
   ·simp[hb] at h
structure Env where
 w:World
 H:Nat->Prop
 Z:Nat->Prop
 kv:Nat->Option Value:=λ _=>none
 rnd:Option Nat:=none
 db:List Deferred:=[]
 nm:Bool:=false
structure Fr(E:Env)(w:World):Prop where
 os:w.os=E.w.os
 tape:w.tape=E.w.tape
 output:w.output=E.w.output
 size:E.w.heap.size<=w.heap.size
 block:∀g,g<E.w.heap.size->¬E.H g->w.heap[g]?=E.w.heap[g]?
def Ck:(K:Ki)->K.den->Value->Prop
 | .int k,n,v=>v=.int k n
 | .bool,b,v=>v=.bool b
 | .str,s,v=>v=.string ⟨⟨s⟩⟩
 | .arr n (.int k),l,v=>zJ (α:=Int) l=n/\v=.agg (xL (Value.int k) l).toArray
 | _,_,_=>False
def Dj(K V:Ki):Nat->List (K.den×V.den)->List MapEntry->Prop
 | _,[],[]=>True
 | n,p::l,e::es=>Ck K p.1 e.key/\Ck V p.2 e.val/\e.born=n/\Dj K V (n+1) l es
 | _,_,_=>False
theorem Dj.length{K V:Ki}:∀{n:Nat} {l:List (K.den×V.den)} {es:List MapEntry},Dj K V n l es->es.length=l.length
 | _,[],[],_=>rfl
 | _,_::_,_::_,h=>by simp only[zS,Dj.length h.2.2.2]
 | _,[],_::_,h=>h.elim
 | _,_::_,[],h=>h.elim
def Af3(w:World)(g t u:Nat)(l:List UInt8)(fp:List Nat):Prop:=
 ∃p v,(p=.pointer none\/p=.pointer (some ⟨g,0,none⟩))/\w.heap[g]?=some (.cells #[p,v] t (0,0))/\w.ownsRow 0 u 1 v l.length (Lib.byteCells l)/\fp=v.ownBlock.toList/\t≠u
theorem Af3.same{w w':World}{g t u:Nat}{l:List UInt8}{fp:List Nat}(h:Af3 w g t u l fp)(hf:∀k∈g::fp,w'.heap[k]?=w.heap[k]?):Af3 w' g t u l fp:=by
 obtain⟨p,v,h1,h2,h3,h4,h5⟩:=h
 refine⟨p,v,h1,(hf g (by simp)).trans h2,⟨h3.1, ?_⟩,h4,h5⟩
 rcases h3.2 with h3|⟨k,cap,cur,rfl,k1,k2,k3⟩
 ·exact .inl h3
 ·refine .inr ⟨k,cap,cur,rfl,k1,(hf k ?_).trans k2,k3⟩
  rw[h4]
  simp[Value.ownBlock]
inductive I3 (X:Cx):CB->Blk->Prop
 | box {g:Nat} {fps:List Nat} {ro:Bool} {v:Nat} {ps:List AV} {cur:List Value}:(∀a∈ps,a.norw=true)->F8 X.w g cur->PRs X ps cur fps->I3 X (.box g fps) (.cell ro v ps)
 | row {A:Option Addr} {n c sz:Nat} {fp:List Nat} {ro:Bool} {v:Nat} {K:Ki} {l:List K.den}:n=l.length->sz=K.size->Gf X.w K.size l.length (A0 X.w (X.S none) K l) (.slice A n c) fp->I3 X (.row A n c sz fp) (.cell ro v [.rw K l])
 | iter {g gm m n:Nat} {ord:List Nat} {last:Nat} {seen:List Nat}:X.cm m=some (.map gm)->X.w.heap[g]?=some (.mapIter (some gm) n seen.toArray n)->ord.Nodup->(∀j,j∈ord<->j<n/\j∉seen)->(last=0/\seen=[]\/∃s0 j,seen=s0++[j]/\last=j+1)->I3 X (.iter g) (.iter m n ord last)
 | bld {g t u:Nat} {l:List UInt8} {fp:List Nat}:Af3 X.w g t u l fp->I3 X (.bld g fp) (.bld t u l)
 | map {g:Nat} {K V:Ki} {l:List (K.den×V.den)} {es:List MapEntry}:X.w.heap[g]?=some (.map es.toArray es.length)->Dj K V 0 l es->I3 X (.map g) (.map K V l)
structure Rel(E:Env)(X:Cx):Prop where
 blk:∀b x,look b X.s.st=some x->∃cb,X.cm b=some cb/\I3 X cb x/\cb.fp.Nodup/\∀g∈cb.fp,g<X.w.heap.size/\(E.H g\/E.w.heap.size<=g)
 dis:∀b b' x x' cb cb' g,look b X.s.st=some x->look b' X.s.st=some x'->X.cm b=some cb->X.cm b'=some cb'->g∈cb.fp->g∈cb'.fp->b=b'
 out:∀n g,X.S (some n) g->g<E.w.heap.size/\¬E.H g
 frz:∀g,X.S none g->g<X.w.heap.size/\(E.Z g\/E.H g\/E.w.heap.size<=g)/\∀b x cb,look b X.s.st=some x->X.cm b=some cb->g∉cb.fp
 fr:Fr E X.w
 uq:uniq X.s.st
def Aqd(X:Cx)(M:Nat->Prop)(g:Nat):Prop:=X.w.heap.size<=g\/∃b x cb,M b/\look b X.s.st=some x/\X.cm b=some cb/\g∈cb.fp
structure SMv(X X':Cx)(M:Nat->Prop):Prop where
 gs:GS X'.S X.S
 new:∀g,X'.S none g->X.S none g\/(g<X'.w.heap.size/\Aqd X M g/\∀b x cb,M b->look b X'.s.st=some x->X'.cm b=some cb->g∉cb.fp)
theorem SMv.same{X X':Cx}{M:Nat->Prop}(h:X'.S=X.S):SMv X X' M:=⟨.of h,λ g hg=>.inl (h▸hg)⟩
structure Mv(X X':Cx)(M T:Nat->Prop):Prop where
 S:SMv X X' M
 os:X'.w.os=X.w.os
 tape:X'.w.tape=X.w.tape
 output:X'.w.output=X.w.output
 size:X.w.heap.size<=X'.w.heap.size
 heap:∀g,g<X.w.heap.size->¬T g->X'.w.heap[g]?=X.w.heap[g]?
 T:∀g,T g->∃b x cb,M b/\look b X.s.st=some x/\X.cm b=some cb/\g∈cb.fp
 look:∀b,¬M b->look b X'.s.st=look b X.s.st
 cm:∀b,¬M b->X'.cm b=X.cm b
 cmM:∀b cb,M b->X.cm b=some cb->∃cb',X'.cm b=some cb'/\cb.same cb'
 verM:∀b cb ro' v' ps',M b->X.cm b=some cb->Ev.look b X'.s.st=some (.cell ro' v' ps')->∃ro v ps,Ev.look b X.s.st=some (.cell ro v ps)/\v<=v'/\(v=v'->¬∃K l,ps'=[.rw K l]/\K.nest=true)
variable{E:Env}{X X':Cx}{M T:Nat->Prop}
theorem Mv.free(R:Rel E X)(h:Mv X X' M T){b:Nat}{x:Blk}{cb:CB}{g:Nat}(hM:¬M b)(hl:Ev.look b X.s.st=some x)(hc:X.cm b=some cb)(hg:g∈cb.fp):X'.w.heap[g]?=X.w.heap[g]?:=by
 obtain⟨cb',hc',_,_,hb⟩:=R.blk b x hl
 rw[hc] at hc';cases hc'
 refine h.heap g (hb g hg).1 λ hT=> ?_
 obtain⟨b0,x0,cb0,m0,l0,c0,g0⟩:=h.T g hT
 exact hM (R.dis b0 b x0 x cb0 cb g l0 hl c0 hc g0 hg▸m0)
theorem Mv.stay(R:Rel E X)(h:Mv X X' M T){n:Option Nat}{g:Nat}(hs:X.S n g):X'.w.heap[g]?=X.w.heap[g]?:=by
 cases n with
 | none=>
  obtain⟨h1,_,h2⟩:=R.frz g hs
  refine h.heap g h1 λ hT=> ?_
  obtain⟨b0,x0,cb0,m0,l0,c0,g0⟩:=h.T g hT
  exact h2 b0 x0 cb0 l0 c0 g0
 | some n=>
  obtain⟨h1,h2⟩:=R.out n g hs
  refine h.heap g (zT h1 R.fr.size) λ hT=> ?_
  obtain⟨b0,x0,cb0,m0,l0,c0,g0⟩:=h.T g hT
  obtain⟨cb',hc',_,_,hb⟩:=R.blk b0 x0 l0
  rw[c0] at hc';cases hc'
  rcases(hb g g0).2 with h3|h3
  ·exact h2 h3
  ·omega
theorem Mv.ext(R:Rel E X)(h:Mv X X' M T):Ext X X' where
 cmx b cb hc:=by
  by_cases hM:M b
  ·exact h.cmM b cb hM hc
  ·exact⟨cb,(h.cm b hM).trans hc,cb.same_refl⟩
 sts n g hs:=⟨h.S.gs.mono n g hs,h.stay R hs⟩
 ver b cb hc ro' v' ps' hl:=by
  by_cases hM:M b
  ·obtain⟨ro,v,ps,h1,h2,h3⟩:=h.verM b cb ro' v' ps' hM hc hl
   exact⟨ro,v,ps,h1,h2,λ e hn=>(h3 e hn).elim⟩
  ·have e:=h.look b hM
   rw[e] at hl
   exact⟨ro',v',ps',hl,zF _,λ _ _=>⟨rfl,rfl,h.cm b hM,λ g hg=>h.free R hM hl hc hg⟩⟩
theorem I3.extW(h:M7 X X'){cb:CB}{x:Blk}(hf:∀g∈cb.fp,X'.w.heap[g]?=X.w.heap[g]?)(hb:I3 X cb x):I3 X' cb x:=by
 cases hb with
 | box h1 h2 h3=>exact .box h1 (h2.same (hf _ (by simp[CB.fp]))) (PRs.extW h (λ g' hg'=>hf g' (by simp[CB.fp,hg'])) h3)
 | row h1 h2 h3=>exact .row h1 h2 (h3.moveW (h.stw none) λ g hg=>hf g hg)
 | map h1 h2=>exact .map ((hf _ (by simp[CB.fp])).trans h1) h2
 | bld h1=>exact .bld (h1.same hf)
 | iter h1 h2 h3 h4 h5=>
  obtain⟨cb',k1,k2⟩:=h.cmx _ _ h1
  cases cb'<;>simp[CB.same] at k2
  subst k2
  exact .iter k1 ((hf _ (by simp[CB.fp])).trans h2) h3 h4 h5
theorem I3.ext(h:Ext X X'){cb:CB}{x:Blk}(hf:∀g∈cb.fp,X'.w.heap[g]?=X.w.heap[g]?)(hb:I3 X cb x):I3 X' cb x:=I3.extW h.weak hf hb
theorem Mv.fr(R:Rel E X)(h:Mv X X' M T):Fr E X'.w where
 os:=h.os.trans R.fr.os
 tape:=h.tape.trans R.fr.tape
 output:=h.output.trans R.fr.output
 size:=zV R.fr.size h.size
 block g hg hH:=by
  rw[<-R.fr.block g hg hH]
  refine h.heap g (zT hg R.fr.size) λ hT=> ?_
  obtain⟨b0,x0,cb0,m0,l0,c0,g0⟩:=h.T g hT
  obtain⟨cb',hc',_,_,hb⟩:=R.blk b0 x0 l0
  rw[c0] at hc';cases hc'
  rcases(hb g g0).2 with h3|h3
  ·exact hH h3
  ·omega
theorem Mv.rel(R:Rel E X)(h:Mv X X' M T)(huq:uniq X'.s.st)
  (new:∀b x',M b->Ev.look b X'.s.st=some x'->∃cb',X'.cm b=some cb'/\I3 X' cb' x'/\cb'.fp.Nodup/\∀g∈cb'.fp,g<X'.w.heap.size/\Aqd X M g)
  (dis:∀b b' x x' cb cb' g,M b->M b'->Ev.look b X'.s.st=some x->Ev.look b' X'.s.st=some x'->X'.cm b=some cb->X'.cm b'=some cb'->g∈cb.fp->g∈cb'.fp->b=b'):Rel E X':=by
 have hx:=h.ext R
 have old:∀b x,¬M b->Ev.look b X'.s.st=some x->∃cb,X.cm b=some cb/\Ev.look b X.s.st=some x/\X'.cm b=some cb:=λ b x hM hl=>by
  rw[h.look b hM] at hl
  obtain⟨cb,hc,_⟩:=R.blk b x hl
  exact⟨cb,hc,hl,(h.cm b hM).trans hc⟩
 have apart:∀b b' x x' cb cb' g,¬M b->M b'->Ev.look b X'.s.st=some x->Ev.look b' X'.s.st=some x'->X'.cm b=some cb->X'.cm b'=some cb'->g∈cb.fp->g∈cb'.fp->False:=by
  intro b b' x x' cb cb' g hM hM' hl hl' hc hc' hg hg'
  obtain⟨cb0,h1,h2,h3⟩:=old b x hM hl
  rw[hc] at h3;cases h3
  obtain⟨cb1,k1,_,_,k4⟩:=new b' x' hM' hl'
  rw[hc'] at k1;cases k1
  rcases(k4 g hg').2 with hf|⟨b0,x0,cb0,m0,l0,c0,g0⟩
  ·obtain⟨cb2,j1,_,_,j4⟩:=R.blk b x h2
   rw[h1] at j1;cases j1
   have:=(j4 g hg).1
   omega
  ·exact hM (R.dis b0 b x0 x cb0 cb g l0 h2 c0 h1 g0 hg▸m0)
 constructor
 ·intro b x hl
  by_cases hM:M b
  ·obtain⟨cb',h1,h2,h3,h4⟩:=new b x hM hl
   refine⟨cb',h1,h2,h3,λ g hg=>⟨(h4 g hg).1, ?_⟩⟩
   rcases(h4 g hg).2 with hf|⟨b0,x0,cb0,m0,l0,c0,g0⟩
   ·exact .inr (zV R.fr.size hf)
   ·obtain⟨cb2,j1,_,_,j4⟩:=R.blk b0 x0 l0
    rw[c0] at j1;cases j1
    exact(j4 g g0).2
  ·obtain⟨cb,h1,h2,h3⟩:=old b x hM hl
   obtain⟨cb2,j1,j2,j3,j4⟩:=R.blk b x h2
   rw[h1] at j1;cases j1
   exact⟨cb,h3,j2.ext hx (λ g hg=>h.free R hM h2 h1 hg),j3,λ g hg=>⟨zT (j4 g hg).1 h.size,(j4 g hg).2⟩⟩
 ·intro b b' x x' cb cb' g hl hl' hc hc' hg hg'
  by_cases hM:M b
  ·by_cases hM':M b'
   ·exact dis b b' x x' cb cb' g hM hM' hl hl' hc hc' hg hg'
   ·exact(apart b' b x' x cb' cb g hM' hM hl' hl hc' hc hg' hg).elim
  ·by_cases hM':M b'
   ·exact(apart b b' x x' cb cb' g hM hM' hl hl' hc hc' hg hg').elim
   ·obtain⟨cb0,h1,h2,h3⟩:=old b x hM hl
    obtain⟨cb1,k1,k2,k3⟩:=old b' x' hM' hl'
    rw[hc] at h3;cases h3
    rw[hc'] at k3;cases k3
    exact R.dis b b' x x' cb cb' g h2 k2 h1 k1 hg hg'
 ·intro n g hs;rw[h.S.gs.1] at hs;exact R.out n g hs
 ·intro g hs
  rcases h.S.new g hs with hs|⟨h1,h2,h3⟩
  ·obtain⟨h1,h2,h3⟩:=R.frz g hs
   refine⟨zT h1 h.size,h2,λ b x cb hl hc hg=> ?_⟩
   by_cases hM:M b
   ·obtain⟨cb',k1,_,_,k4⟩:=new b x hM hl
    rw[hc] at k1;cases k1
    rcases(k4 g hg).2 with hf|⟨b0,x0,cb0,m0,l0,c0,g0⟩
    ·omega
    ·exact h3 b0 x0 cb0 l0 c0 g0
   ·obtain⟨cb',k1,k2,k3⟩:=old b x hM hl
    rw[hc] at k3;cases k3
    exact h3 b x cb k2 k1 hg
  ·refine⟨h1, ?_,λ b x cb hl hc hg=> ?_⟩
   ·rcases h2 with h2|⟨b0,x0,cb0,m0,l0,c0,g0⟩
    ·exact .inr (.inr (zV R.fr.size h2))
    ·obtain⟨cb',j1,_,_,j4⟩:=R.blk b0 x0 l0
     rw[c0] at j1;cases j1
     exact .inr (j4 g g0).2
   ·by_cases hM:M b
    ·exact h3 b x cb hM hl hc hg
    ·obtain⟨cb',k1,k2,k3⟩:=old b x hM hl
     rw[hc] at k3;cases k3
     rcases h2 with h2|⟨b0,x0,cb0,m0,l0,c0,g0⟩
     ·obtain⟨cb2,j1,_,_,j4⟩:=R.blk b x k2
      rw[k1] at j1;cases j1
      have:=(j4 g hg).1
      omega
     ·exact hM (R.dis b0 b x0 x cb0 cb g l0 k2 c0 k1 g0 hg▸m0)
 ·exact h.fr R
 ·exact huq
end Go.Ev
namespace Go.Ev
def Aw7:Value->Value->Bool
 | .int k n,.int k' n'=>G1 k k'&&n==n'
 | .bool b,.bool b'=>b==b'
 | .string s,.string s'=>s.data.toList.isEmpty&&s'.data.toList.isEmpty
 | .slice none n c,.slice none n' c'=>zA n n'&&zA c c'
 | .pointer none,.pointer none|.map none,.map none|.nilFunc,.nilFunc|.nilIface,.nilIface=>true
 | _,_=>false
theorem Aso{a b:Value}(h:Aw7 a b=true):a=b:=by
 unfold Aw7 at h
 split at h
 ·simp only[z9,beq_iff_eq] at h;rw[Er h.1,h.2]
 ·simp only[beq_iff_eq] at h;rw[h]
 ·rename_i s s'
  simp only[z9,yZ] at h
  obtain⟨⟨l⟩⟩:=s
  obtain⟨⟨l'⟩⟩:=s'
  simp at h
  rw[h.1,h.2]
 ·simp only[z9] at h;rw[z8 h.1,z8 h.2]
 ·rfl
 ·rfl
 ·rfl
 ·rfl
 ·cases h
def Wh:List Value->List Value->Bool
 | [],[]=>true
 | a::r,b::s=>Aw7 a b&&Wh r s
 | _,_=>false
theorem Wi:∀{a b:List Value},Wh a b=true->a=b
 | [],[],_=>rfl
 | a::r,b::s,h=>by
  simp only[Wh,z9] at h
  rw[Aso h.1,Wi h.2]
 | [],_::_,h=>by simp[Wh] at h
 | _::_,[],h=>by simp[Wh] at h
def Av8(n:Int):Bool:=n==0
def Asu(b:Bool):Bool:=match b with|true=>false|false=>true
def Aww(s:List UInt8):Bool:=s.isEmpty
def Awj{α:Type}(l:List α):Bool:=l.isEmpty
def Aqk{α:Type}(n:Nat)(f:α->Bool)(l:List α):Bool:=zA l.length n&&l.all f
def Y1:(K:Ki)->K.den->Bool
 | .int _,n=>Av8 n
 | .bool,b=>Asu b
 | .str,s=>Aww s
 | .lst _,l|.fl _,l=>Awj l
 | .arr n e,l=>Aqk n (Y1 e) l
 | .pair a b,d=>Y1 a d.1&&Y1 b d.2
 | .unit,_=>true
 | .tr,t=>t.isNil
theorem Awz{t:Tr}(h:t.isNil=true):t=.nil:=by cases t<;>first|rfl|cases h
theorem Af7{α:Type}{n:Nat}{f:α->Bool}{l:List α}{z:α}(h:Aqk n f l=true)(hf:∀x,f x=true->x=z):l=zI n z:=by
 simp only[Aqk,z9,xA] at h
 rw[<-z8 h.1]
 exact List.eq_replicate_of_mem λ x hx=>hf x (h.2 x hx)
theorem Arc{n:Int}(h:Av8 n=true):n=0:=by simpa[Av8] using h
theorem Aj3{b:Bool}(h:Asu b=true):b=false:=by cases b;rfl;cases h
theorem Ar7{s:List UInt8}(h:Aww s=true):s=[]:=by simpa[Aww] using h
theorem Arl{α:Type}{l:List α}(h:Awj l=true):l=[]:=by simpa[Awj] using h
theorem Q7:∀{K:Ki} {d:K.den},Y1 K d=true->d=K.zero
 | .int _,d,h=>Arc h
 | .bool,d,h=>Aj3 h
 | .str,d,h=>Ar7 h
 | .lst _,d,h|.fl _,d,h=>Arl h
 | .arr n e,d,h=>Af7 (l:=d) h λ x hx=>Q7 hx
 | .pair a b,d,h=>by
  simp only[Y1,z9] at h
  exact Prod.ext (Q7 h.1) (Q7 h.2)
 | .unit,_,_=>rfl
 | .tr,_,h=>Awz h
def zOk:List AV->List Value->Bool
  | [],[]=>true
  | .int k n::r,.int k' n'::cs=>G1 k k'&&n==n'&&zOk r cs
  | .bool b::r,.bool b'::cs=>(match b,b' with|true,true|false,false=>true|_,_=>false)&&zOk r cs
  | .str t::r,.string s::cs=>List.isEmpty t&&s.data.toList.isEmpty&&zOk r cs
  | .nils::r,.slice none 0 0::cs=>zOk r cs
  | .nz _::r,.slice none 0 0::cs=>zOk r cs
  | .nilp::r,.pointer none::cs=>zOk r cs
  | .nilm::r,.map none::cs=>zOk r cs
  | .nilf::r,.nilFunc::cs=>zOk r cs
  | .nili::r,.nilIface::cs=>zOk r cs
  | .tr .frz .nil::r,.nilIface::cs=>zOk r cs
  | .un::r,c::cs=>c.oneCell'&&zOk r cs
  | .arr n K l::r,cs=>Aqk n (Y1 K) l&&Wh (zI n (H4 K)).flatten (cs.take (n*K.size))&&zOk r (cs.drop (n*K.size))
  | _,_=>false
theorem Q6{X:Cx}(ps:List AV)(cs:List Value)(h:zOk ps cs=true):PRs X ps cs []/\(∀a∈ps,a.norw=true):=by
 fun_induction zOk ps cs with
 | case1=>exact⟨.nil,by simp⟩
 | case2 k n r k' n' cs ih=>
  simp only[z9,beq_iff_eq] at h
  obtain⟨h1,h2⟩:=ih h.2
  rw[Er h.1.1,h.1.2]
  exact⟨.one rfl rfl (.int _ _) h1,by simp;exact⟨rfl,h2⟩⟩
 | case3 b r b' cs ih=>
  simp only[z9] at h
  obtain⟨h1,h2⟩:=ih h.2
  have:b=b':=by cases b<;>cases b'<;>simp_all
  subst this
  exact⟨.one rfl rfl (.bool _) h1,by simp;exact⟨rfl,h2⟩⟩
 | case4 t r s cs ih=>
  simp only[z9,yZ] at h
  obtain⟨h1,h2⟩:=ih h.2
  obtain⟨⟨l⟩⟩:=s
  simp at h
  rw[h.1.1,h.1.2]
  exact⟨.one rfl rfl (.str _) h1,by simp;exact⟨rfl,h2⟩⟩
 | case5 r cs ih=>
  obtain⟨h1,h2⟩:=ih h
  exact⟨.one rfl rfl .nils h1,by simp;exact⟨rfl,h2⟩⟩
 | case6 r cs K ih=>
  obtain⟨h1,h2⟩:=ih h
  exact⟨.one rfl rfl (.nz _) h1,by simp;exact⟨rfl,h2⟩⟩
 | case7 r cs ih=>
  obtain⟨h1,h2⟩:=ih h
  exact⟨.one rfl rfl .nilp h1,by simp;exact⟨rfl,h2⟩⟩
 | case8 r cs ih=>
  obtain⟨h1,h2⟩:=ih h
  exact⟨.one rfl rfl .nilm h1,by simp;exact⟨rfl,h2⟩⟩
 | case9 r cs ih=>
  obtain⟨h1,h2⟩:=ih h
  exact⟨.one rfl rfl .nilf h1,by simp;exact⟨rfl,h2⟩⟩
 | case10 r cs ih=>
  obtain⟨h1,h2⟩:=ih h
  exact⟨.one rfl rfl .nili h1,by simp;exact⟨rfl,h2⟩⟩
 | case11 r cs ih=>
  obtain⟨h1,h2⟩:=ih h
  exact⟨.one rfl rfl (.tr (by simp) rfl) h1,by simp;exact⟨rfl,h2⟩⟩
 | case12 r c cs ih=>
  simp only[z9] at h
  obtain⟨h1,h2⟩:=ih h.2
  exact⟨.one rfl h.1 (.un _) h1,by simp;exact⟨rfl,h2⟩⟩
 | case13 n K l r cs ih=>
  simp only[z9] at h
  obtain⟨⟨h1,h3⟩,h4⟩:=h
  obtain⟨h5,h6⟩:=ih h4
  refine⟨?_,by simp;exact⟨rfl,h6⟩⟩
  have hl:=Af7 h1 λ x hx=>Q7 hx
  have hr:A0 X.w (X.S none) K l (cs.take (n*K.size)) []:=by
   rw[<-Wi h3,hl]
   exact Gi (Jy _ _ _ _ K) n
  have hn:l.length=n:=by rw[hl];exact yK
  have:=PRs.arr (X:=X) hn hr h5
  rwa[List.take_append_drop] at this
 | case14=>cases h
def F5(P:Program)(sz:Nat):List Field->List Nat->Nat->Bool
  | [],[],o=>zA o sz
  | f::fs,p::ps,o=>zA f.offset o&&zA p o&&(match P.info? f.type with|some i=>zM 1 i.size&&F5 P sz fs ps (o+i.size)|none=>false)
  | _,_,_=>false
def D9(P:Program)(ti:TyI):TypeDesc->Bool
  | .struct fs=>zA ti.cls 1&&F5 P ti.sz fs.toList ti.offs 0
  | .array n e=>zA ti.cls 2&&zA n ti.alen&&zA e ti.elem
  | .slice e=>zA ti.cls 0&&zA ti.sz 1&&zA e ti.elem&&Fd ti
  | .int k=>zA ti.cls 0&&zA ti.sz 1&&(match H9 ti with|some k'=>G1 k k'|none=>false)
  | .string=>zA ti.cls 0&&zA ti.sz 1&&Hp ti
  | .bool=>zA ti.cls 0&&zA ti.sz 1&&(match ti.zero with|[.bool _]=>true|_=>false)
  | .map k e=>zA ti.cls 0&&zA ti.sz 1&&J6 ti&&(zA k ti.alen&&zA e ti.elem)
  | .named .. |.invalid|.tuple _=>false
  | .pointer _=>zA ti.cls 0&&zA ti.sz 1&&(match ti.zero with|[.nilp]|[.un]=>true|_=>false)
  | .interface _=>zA ti.cls 0&&zA ti.sz 1&&(match ti.zero with|[.nili]|[.tr .frz .nil]|[.un]=>true|_=>false)
  | _=>zA ti.cls 0&&zA ti.sz 1&&(match ti.zero with|[.nilf]|[.un]=>true|_=>false)
def Ask(P:Program)(t:Nat)(ti:TyI):Bool:=
  match P.info? t,P.underlying t with
  | some i,some d=>zA i.size ti.sz&&zA i.bytes ti.bytes&&
    (match i.zero with
      | some z=>zOk ti.zero z.cells.toList&&(bif zA ti.cls 0 then z.oneCell' else true)&&(match ti.ki with|some K=>zA K.size ti.sz&&Wh (H4 K) z.cells.toList|none=>true)
      | none=>false)&&D9 P ti d
  | _,_=>false
structure Df(P:Program)(t:Nat)(ti:TyI):Prop where
 i:∃i z,P.info? t=some i/\i.size=ti.sz/\i.bytes=ti.bytes/\i.zero=some z/\zOk ti.zero z.cells.toList=true/\(ti.cls=0->z.oneCell'=true)/\∀K,ti.ki=some K->K.size=ti.sz/\H4 K=z.cells.toList
 d:∃d,P.underlying t=some d/\D9 P ti d=true
theorem Asl{P:Program}{t:Nat}{ti:TyI}(h:Ask P t ti=true):Df P t ti:=by
 unfold Ask at h
 split at h
 ·rename_i i d hi hd
  simp only[z9] at h
  obtain⟨⟨⟨h1,h2⟩,h3⟩,h4⟩:=h
  refine⟨?_,d,hd,h4⟩
  split at h3
  ·rename_i z hz
   simp only[z9] at h3
   refine⟨i,z,hi,z8 h1,z8 h2,hz,h3.1.1,λ hc=>by simpa[hc] using h3.1.2,λ K hK=> ?_⟩
   have h5:=h3.2
   rw[hK] at h5
   simp only[z9] at h5
   exact⟨z8 h5.1,Wi h5.2⟩
  ·cases h3
 ·cases h
def Bk(P:Program)(c:Cfg):Bool:=c.ty.all λ x=>Ask P x.1 x.2
theorem Bs{P:Program}{c:Cfg}(h:Bk P c=true){t:Nat}{ti:TyI}(ht:tyI c t=some ti):Df P t ti:=by
 unfold tyI at ht
 unfold Bk at h
 rw[xA] at h
 have key:∀l:List (Nat×TyI),(∀x∈l,Ask P x.1 x.2=true)->look t l=some ti->Df P t ti:=by
  intro l
  induction l with
  | nil=>intro _ h;simp[look] at h
  | cons x r ih=>
   intro hl h
   obtain⟨j,y⟩:=x
   simp only[look] at h
   cases hb:zA j t<;>rw[hb] at h
   ·exact ih (λ x hx=>hl x (by simp[hx])) h
   ·simp only[cond_true,zB] at h
    have:=hl (j,y) (by simp)
    rw[z8 hb,h] at this
    exact Asl this
 exact key _ h ht
section
variable{P:Program}{t:Nat}{ti:TyI}{w:World}
theorem Df.info(h:Df P t ti):∃i,(typeInfo t).run P w=.ok i w/\i.size=ti.sz/\i.bytes=ti.bytes:=by
 obtain⟨i,z,h1,h2,h3,_⟩:=h.i
 exact⟨i,by simp[typeInfo,h1],h2,h3⟩
theorem Df.size(h:Df P t ti):(sizeOf t).run P w=.ok ti.sz w:=by
 obtain⟨i,h1,h2,_⟩:=h.info (w:=w)
 simp[sizeOf,h1,h2]
theorem Df.zero(h:Df P t ti):∃z,(zeroValue t).run P w=.ok z w/\zOk ti.zero z.cells.toList=true/\∀K,ti.ki=some K->K.size=ti.sz/\H4 K=z.cells.toList:=by
 obtain⟨i,z,h1,h2,h3,h4,h5,_,h6⟩:=h.i
 exact⟨z,by simp[zeroValue,typeInfo,h1,h4],h5,h6⟩
theorem Df.zero1(h:Df P t ti)(hc:ti.cls=0):∃z,(∀w:World,(zeroValue t).run P w=.ok z w)/\zOk ti.zero [z]=true:=by
 obtain⟨i,z,h1,h2,h3,h4,h5,h6,_⟩:=h.i
 have h7:=h6 hc
 have e:z.cells.toList=[z]:=by cases z<;>first|rfl|simp[Value.oneCell'] at h7
 rw[e] at h5
 exact⟨z,λ w=>by simp[zeroValue,typeInfo,h1,h4],h5⟩
theorem Ay{d:TypeDesc}(h:P.underlying t=some d):(underlying t).run P w=.ok d w:=by simp[underlying,h]
theorem Df.agg(h:Df P t ti):(isAgg t).run P w=.ok (!(zA ti.cls 0)) w:=by
 obtain⟨d,h1,h2⟩:=h.d
 simp only[isAgg,Sem.run_bind,Ay h1,Result.andThen_ok]
 cases d<;>simp only[D9,z9,Sem.run_pure] at h2⊢<;>
  first
   | (simp at h2;done)
   | (rw[h2.1.1];rfl)
   | (rw[h2.1.1.1];rfl)
   | (rw[z8 h2.1.1.1];rfl)
   | (rw[z8 h2.1];rfl)
   | (rw[z8 h2.1.1];rfl)
theorem Df.one(h:Df P t ti)(hc:ti.cls=0):ti.sz=1:=by
 obtain⟨d,h1,h2⟩:=h.d
 cases d<;>simp only[D9,z9,hc] at h2<;>
  first
   | (simp at h2;done)
   | exact z8 h2.1.2
   | exact z8 h2.1.1.2
   | exact h2.1.1.2
end
end Go.Ev
namespace Go.Ev
variable{E:Env}{X:Cx}
def Jo(X:Cx)(a:Act):Prop:=∀t,VRel X (getD .un t X.s.tm) (a.tmps.getD t undef)
theorem O0(v:Value):VRel X (Qn v) v:=by
 unfold Qn
 split
 ·exact .bool _
 ·exact .int _ _
 ·rename_i s;obtain⟨⟨l⟩⟩:=s;exact .str _
 ·exact .nilp
 ·rename_i n c
  cases h:(zA n 0&&zA c 0)
  ·exact .un _
  ·simp only[z9] at h
   rw[z8 h.1,z8 h.2]
   exact .nils
 ·exact .nilm
 ·exact .nilf
 ·exact .nili
 ·exact .un _
theorem Bh{a:Act}(h:Jo X a)(x:Operand):VRel X (ev X.s x) (a.eval x):=by
 cases x with
 | tmp t=>exact h t
 | const v=>exact O0 v
 | global g=>exact .un _
 | func f=>exact .fn .nil
theorem Mm{w:World}{S Z:Nat->Prop}{o:Bool}{K:Ki}{l:List K.den}{cs:List Value}{fp:List Nat}(hn:K.nest=false)(h:Cw (Rep w S Z K o) l cs fp):fp=[]:=
 Mn (λ _ _ _ hx=>Ed (.inr hn) hx) h
theorem T3:∀{ps:List AV} {cs:List Value} {fp:List Nat},PRs X ps cs fp->C9 ps=true->fp=[]
 | _,_,_,.nil,_=>rfl
 | _,_,_,.one _ _ _ h,hf=>T3 h (by simp[C9] at hf;exact hf.2)
 | _,_,_,.arr h1 h2 h3,hf=>by
  simp only[C9,P7,z9,yA] at hf
  rw[Mm hf.1 h2,T3 h3 hf.2];rfl
 | _,_,_,.nl _ _,hf=>by simp[C9,P7] at hf
 | _,_,_,.rw _ _,hf=>by simp[C9,P7] at hf
theorem Fc{ps qs:List AV}{rd rd':List Nat}(h:Ln ps rd=some (qs,rd')):C9 ps=true/\qs=ps/\rd'=rd:=by
 unfold Ln at h
 cases e:C9 ps<;>rw[e] at h<;>simp at h
 exact⟨rfl,h.1.symm,h.2.symm⟩
theorem Ms:∀{ps:List AV},C9 ps=true->∀a∈ps,a.norw=true
 | [],_,a,h=>by simp at h
 | p::r,hf,a,h=>by
  simp only[C9,z9] at hf
  rcases List.mem_cons.1 h with rfl|h
  ·cases a<;>first|rfl|simp[P7] at hf
  ·exact Ms hf.2 a h
theorem Cc{s:St}{b:Nat}{a:AV}(h:Bq s b=some a):∃ro v K l,look b s.st=some (.cell ro v [.rw K l])/\a=.rw K l:=by
 unfold Bq at h
 split at h
 ·rename_i ro v K l e
  simp only[zB] at h
  exact⟨ro,v,K,l,e,h.symm⟩
 ·cases h
theorem Ch(R:Rel E X){b:Nat}{ro:Bool}{v:Nat}{K:Ki}{l:List K.den}(h:look b X.s.st=some (.cell ro v [.rw K l])):
  ∃A c fp,X.cm b=some (.row A l.length c K.size fp)/\Gf X.w K.size l.length (A0 X.w (X.S none) K l) (.slice A l.length c) fp/\fp.Nodup/\∀g∈fp,g<X.w.heap.size/\(E.H g\/E.w.heap.size<=g):=by
 obtain⟨cb,h1,h2,h3,h4⟩:=R.blk b _ h
 cases h2 with
 | box k1 k2 k3=>
  have:=k1 _ (zO ..)
  simp[AV.norw] at this
 | row k1 k2 k3=>
  subst k1 k2
  exact⟨_,_,_,h1,k3,h3,h4⟩
theorem Wv{p:AV}{r:List AV}(h:p.size=1):Bo 1 (p::r)=some [p]:=by
 have h1:zM 1 1=true:=rfl
 have h0:zA 1 0=false:=rfl
 simp only[Bo,h,h0,h1,cond_true,cond_false,yU]
 cases r<;>simp[Bo]
theorem Ni:∀{ps r r':List AV} (o k:Nat),Aw o ps=some r->Aw k r=some r'->Aw (o+k) ps=some r'
 | [],r,r',o,k,h,h'=>by
  simp only[Aw] at h
  cases e:zA o 0<;>rw[e] at h<;>simp only[cond_true,cond_false] at h
  ·cases h
  cases h
  rw[z8 e,xJ];exact h'
 | p::ps,r,r',o,k,h,h'=>by
  simp only[Aw] at h
  cases e0:zA o 0<;>rw[e0] at h<;>simp only[cond_true,cond_false] at h
  ·cases e:zM p.size o<;>rw[e] at h<;>simp only[cond_true,cond_false] at h
   ·cases h
   have hle:=zG e
   have h0:=Bd.1 e0
   have:=Ni _ k h h'
   simp only[Aw,Bd.2 (show o+k≠0 by omega),cond_false,Aj0 (show p.size<=o+k by omega),cond_true]
   rw[show o+k-p.size=o-p.size+k by omega];exact this
  ·cases h
   rw[z8 e0,xJ];exact h'
theorem Mk:∀{ps:List AV} {cs:List Value} {fp:List Nat},PRs X ps cs fp->(∀a∈ps,a.norw=true)->cs.length=Ky ps
 | [],_,_,.nil,_=>rfl
 | a::r,_,_,h,hn=>by
  obtain⟨c1,c2,f1,f2,e1,e2,e3,h1,h2⟩:=K7 h (hn a (by simp))
  rw[e1,zD,e3,Mk h2 (λ b hb=>hn b (by simp[hb]))];rfl
theorem Y2(R:Rel E X){b i f:Nat}{K:Ki}{l:List K.den}{v:Value}(h:At X b i f K l v):
  ∃cb f',X.cm b=some cb/\Gf X.w K.size l.length (A0 X.w (X.S none) K l) v f'/\∀g∈f',g∈cb.fp:=by
 obtain⟨g,og,n,c,sz,fp,K0,l0,ver,ro,a1,a2,a3,a4,a5,a6⟩:=h
 obtain⟨A,c',fp',h1,h2,h3,h4⟩:=Ch R a2
 rw[a1] at h1
 cases h1
 obtain⟨A',c2,e1,e2⟩:=h2
 cases e1
 rcases e2 with⟨e2,_⟩|⟨g',o',cur,fps,k1,k2,k3,k4,k5,k6⟩
 ·omega
 cases k1
 obtain⟨_,c1,c2,c3,f1,f2,f3,y1,y2,y3,y4,y5,y6⟩:=Zx (G:=PRs X) K6 (λ _ _ _ h=>Dw h) (p:=[]) k6 a3 (by simp[PIn]) a4
 refine⟨_,f2,a1, ?_, ?_⟩
 ·cases y5 with
  | one p1=>simp[AV.plain] at p1
  | @nl _ _ v' _ cs' f1' fp'' p1 p2=>
   cases p2
   have hv:v'=v:=by
    obtain⟨t,fr,hg,ht⟩:=k2
    rw[Hk hg] at a6
    have hlen:(seg cur og (l0.length*K0.size)).length=l0.length*K0.size:=by
     apply Cv
     have:=zH K0.size k3
     omega
    have hc:=congrArg (λ x=>x[i*K0.size+f]?) y1
    simp only[seg] at hc
    simp only[Bf,xK] at y3
    have e:(c1++[v']++c3)[i*K0.size+f]?=some v':=by
     rw[<-y3];simp
    rw[e] at hc
    rw[List.getElem?_take] at hc
    split at hc
    ·rw[List.getElem?_drop] at hc
     have h9:(cur.toArray)[og+(i*K0.size+f)]?=cur[og+(i*K0.size+f)]?:=by simp
     rw[h9,hc] at a6
     exact yH a6
    ·cases hc
   rw[<-hv]
   simpa using p1
 ·intro x hx
  rw[k5]
  simp[CB.fp,y2,hx]
theorem Ahh{b v:Nat}{cb:CB}(hc:X.cm b=some cb){g:Nat}(hg:g∈cb.fp):X.Sof (.ver b v) g:=⟨cb,hc,hg⟩
theorem A0.ro{w:World}{Z S:Nat->Prop}{K:Ki}{l:List K.den}{cs:List Value}{fp:List Nat}(h:A0 w Z K l cs fp)(hp:∀g∈fp,S g):Cw (Rep w S Z K false) l cs []:=
 Ke (P:=S) h (λ x c f hg hx=>Rb (λ e=>by cases e) hg hx) hp
theorem Gf.ro{w:World}{Z S:Nat->Prop}{K:Ki}{l:List K.den}{n:Nat}{A:Option Addr}{c:Nat}{fp:List Nat}(hn:n=l.length)(h:Gf w K.size n (A0 w Z K l) (.slice A n c) fp)(hp:∀g∈fp,S g):
  n<=c/\(n=0\/∃g og,A=some ⟨g,og,none⟩)/\RoS w S K.size n (λ cs=>Cw (Rep w S Z K false) l cs []) (.slice A n c):=by
 obtain⟨A',c',e,h⟩:=h
 cases e
 rcases h with⟨h1,h2,h3⟩|⟨g,o,cur,fps,h1,h2,h3,h4,h5,h6⟩
 ·exact⟨by omega,.inl h1,A,c,rfl,by omega,.inl h1⟩
 ·obtain⟨t,fr,hg,ht⟩:=h2
  have hm:=zH K.size h3
  refine⟨h3,.inr ⟨g,o,h1⟩,A,c,rfl,h3,.inr ⟨g,o,cur.toArray,t,fr,h1,hp g (by simp[h5]),hg,by simp;omega, ?_⟩⟩
  exact h6.ro λ x hx=>hp x (by simp[h5,hx])
theorem Kt(R:Rel E X){b v i:Nat}{K0:Ki}{l0:List K0.den}{ro:Bool}{g og n c sz:Nat}{fp:List Nat}(hl:look b X.s.st=some (.cell ro v [.rw K0 l0]))(hc:X.cm b=some (.row (some ⟨g,og,none⟩) n c sz fp))
  (hi:i<l0.length) (hg:g∈fp) {w0:Nat->Option Value} (hw:∀k,X.w.cell? ⟨g,og+(i*K0.size+k),none⟩=w0 k):
  ∀{qs r:List AV} (f:Nat) {cs:List Value} {fq:List Nat},PRs X qs cs fq->(∀a∈qs,a.norw=true)->Aiz qs=true->C9 (Jn b v i f qs)=true->
   Aw f (Br K0 (K0.get l0 i))=some (qs++r)->(∀k u,cs[k]?=some u->w0 (f+k)=some u)->PRs X (Jn b v i f qs) cs []
 | [],_,_,_,_,.nil,_,_,_,_,_=>.nil
 | q::qs,r,f,cs,fq,hp,hn,hpos,hfl,hd,hcell=>by
  simp only[Aiz,z9] at hpos
  have hsz:=zG hpos.1
  obtain⟨c1,c2,f1,f2,e1,e2,e3,h1,h2⟩:=K7 hp (hn q (by simp))
  have hd':Aw (f+q.size) (Br K0 (K0.get l0 i))=some (qs++r):=Ni _ _ hd (Jr hsz)
  have hcell':∀k u,c2[k]?=some u->w0 (f+q.size+k)=some u:=λ k u hk=>by
   rw[Nat.add_assoc]
   refine hcell (q.size+k) u ?_
   rw[e1,<-e3,List.getElem?_append_right (by omega)]
   simpa using hk
  cases q with
  | nl K l=>
   simp only[Jn] at hfl⊢
   have ih:=Kt R hl hc hi hg hw (f+1) h2 (λ a ha=>hn a (by simp[ha])) hpos.2 (by simp[C9] at hfl;exact hfl.2) hd' hcell'
   cases h1 with
   | one p1=>simp[AV.plain] at p1
   | @nl _ _ u _ cs' f1' fp' p1 p2=>
    cases p2
    rw[e1]
    simp only[List.append_nil] at*
    obtain⟨A,cc,ev,hA⟩:=p1
    have p1':Gf X.w K.size l.length (A0 X.w (X.S none) K l) (.slice A l.length cc) f1':=⟨A,cc,rfl,hA⟩
    subst ev
    obtain⟨k1,k2,k3⟩:=p1'.ro (S:=λ _=>True) rfl (by simp)
    refine .one rfl rfl (.vw k1 k2 ⟨_,hc,λ ro' v' ps' hl'=> ?_⟩ λ _=> ?_) ih
    ·rw[hl] at hl';cases hl';exact zF _
    ·refine⟨g,og,n,c,sz,fp,K0,l0,v,ro,hc,hl,hi, ?_,hg, ?_⟩
     ·simp only[nav,Aw,show zA 0 0=true from rfl,cond_true,show zA K0.size K0.size=true from zW _,hd]
      exact Wv rfl
     ·rw[hw]
      exact hcell 0 _ (by rw[e1];rfl)
  | rw K l=>have:=hn _ (zO ..);simp[AV.norw] at this
  | arr m K l=>
   simp only[Jn] at hfl⊢
   simp only[C9,P7,z9,yA] at hfl
   have ih:=Kt R hl hc hi hg hw (f+m*K.size) h2 (λ a ha=>hn a (by simp[ha])) hpos.2 hfl.2 hd' hcell'
   obtain⟨j1,j2⟩:=Mi h1
   have:=Mm hfl.1 j2
   subst this
   rw[e1]
   exact .arr j1 j2 ih
  | _=>
   simp only[Jn] at hfl⊢
   have ih:=Kt R hl hc hi hg hw _ h2 (λ a ha=>hn a (by simp[ha])) hpos.2 (by simp[C9] at hfl;exact hfl.2) hd' hcell'
   cases h1 with
   | one p1 p2 p3 p4=>
    cases p4
    rw[e1]
    exact .one p1 p2 p3 ih
end Go.Ev
namespace Go.Ev
variable{E:Env}{X:Cx}
theorem E7{q:Cj}(hk:Kn X q):∀{ps:List AV} {cs:List Value} {fp:List Nat},(valid X.s q=true)->RPs X.w (X.Sof q) (X.S none) ps cs fp->C9 (Ca q ps)=true->PRs X (Ca q ps) cs []
 | _,_,_,_,.nil,_=>.nil
 | _,_,_,hv,.int h,hf=>by
  simp only[Ca,C9,z9] at hf⊢
  exact .one rfl rfl (.int _ _) (E7 hk hv h hf.2)
 | _,_,_,hv,.bool h,hf=>by
  simp only[Ca,C9,z9] at hf⊢
  exact .one rfl rfl (.bool _) (E7 hk hv h hf.2)
 | _,_,_,hv,.str h,hf=>by
  simp only[Ca,C9,z9] at hf⊢
  exact .one rfl rfl (.str _) (E7 hk hv h hf.2)
 | _,_,_,hv,.tr h0 ht h,hf=>by
  simp only[Ca,C9,z9] at hf⊢
  exact .one rfl h0 (.tr (λ b v e=>by cases e) ht) (E7 hk hv h hf.2)
 | _,_,_,hv,.fl h1 h,hf=>by
  simp only[Ca,C9,z9] at hf⊢
  have h2:=h1
  obtain⟨A,c,rfl,hc,hA⟩:=h1
  refine .one rfl rfl (.ro hc ?_ trivial λ _=>h2) (E7 hk hv h hf.2)
  rcases hA with hA|⟨g,o,cur,t,fr,e,_⟩
  ·exact .inl hA
  ·exact .inr ⟨g,o,e⟩
 | _,_,_,hv,.arr h1 h2 h,hf=>by
  simp only[Ca,C9,P7,z9,yA] at hf⊢
  have:A0 X.w (X.S none) _ _ _ []:=Ez (P:=λ _=>True) h2 (λ x c f _ hx=>Tw hf.1 hx) (by simp)
  exact .arr h1 this (E7 hk hv h hf.2)
 | _,_,_,hv,.nl h1 h,hf=>by
  simp only[Ca,C9,z9] at hf⊢
  obtain⟨A,c,rfl,hc,hA⟩:=h1
  refine .one rfl rfl (.ro hc ?_ hk λ _=>⟨A,c,rfl,hc,hA⟩) (E7 hk hv h hf.2)
  rcases hA with hA|⟨g,o,cur,t,fr,e,_⟩
  ·exact .inl hA
  ·exact .inr ⟨g,o,e⟩
structure Aqe(X:Cx)(n:Nat)(av:Value)(ps:List AV):Prop where
 out:∃g o cur t fr,av=.pointer (some ⟨g,o,none⟩)/\X.w.heap[g]?=some (.cells cur t fr)/\o+n<=cur.size/\PRs X ps (seg cur.toList o n) []/\∀a∈ps,a.norw=true
theorem Aab(cur:List Value)(o m k n:Nat)(h:k+n<=m):seg (seg cur o m) k n=seg cur (o+k) n:=by
 simp only[seg,zZ,yM,yN]
 congr 1
 omega
theorem Pi{m:Option Nat}{p:Hh}(h:PIn m p.reverse)(hp:p≠[]):∃sz N i f q,p.reverse=(sz,N,i,f)::q/\i<m.getD N/\PIn none q:=by
 cases e:p.reverse with
 | nil=>exact(hp (by simpa using e)).elim
 | cons x q=>
  obtain⟨sz,N,i,f⟩:=x
  rw[e] at h
  exact⟨sz,N,i,f,q,rfl,h.1,h.2⟩
theorem Am4{n o:Nat}{K:Ki}{l:List K.den}{x:Nat×Nat×Nat×Nat}{p:Hh}{qs:List AV}(h:nav n (x::p) o [.rw K l]=some qs):o=0:=by
 obtain⟨sz,N,i,f⟩:=x
 by_cases ho:o=0
 ·exact ho
 ·simp only[nav,Aw,Bd.2 ho,cond_false] at h
  cases hb:zM (AV.rw K l).size o<;>rw[hb] at h<;>simp only[cond_true,cond_false] at h
  ·cases h
  ·cases hb2:zA (o-(AV.rw K l).size) 0<;>rw[hb2] at h<;>simp only[cond_true,cond_false] at h<;>cases h
theorem Aha{q:Cj}{K:Ki}{l:List K.den}{g og:Nat}{cur:Array Value}{t:TypeId}{fr:Nat×Nat}(hk:Kn X q)(hv:valid X.s q=true)(hg:X.w.heap[g]?=some (.cells cur t fr))(hle:og+l.length*K.size<=cur.size)
  (hr:Cw (Rep X.w (X.Sof q) (X.S none) K false) l (seg cur.toList og (l.length*K.size)) []) {n:Nat} {p:Hh} {qs:List AV} (hp:p≠[]) (hi:PIn (some l.length) p.reverse) (h:nav n p.reverse 0 [.rw K l]=some qs)
  (hf:C9 (Ca q qs)=true):Aqe X n (.pointer (some ⟨g,og+Bf p,none⟩)) (Ca q qs):=by
 obtain⟨sz,N,i,f,p',e,h1,h2⟩:=Pi hi hp
 rw[e] at h
 obtain⟨hsz,c1,c2,c3,f1,f2,f3,y1,y2,y3,y4,y5,y6⟩:=Zx (Avm (w:=X.w) (S:=X.Sof q) (Z:=X.S none)) (λ d c f hx=>by
  have:=Ed (.inl rfl) hx
  subst this
  exact Ml hx) hr h1 h2 h
 have hoff:Bf p=i*K.size+f+Bf p':=by rw[<-C3,e];simp only[Bf,hsz]
 have hlen:=congrArg zJ y1
 simp only[zD,y3,y4] at hlen
 rw[Cv (by simpa using hle)] at hlen
 refine⟨g,og+Bf p,cur,t,fr,rfl,hg,by omega, ?_,Ms hf⟩
 have:seg cur.toList (og+Bf p) n=c2:=by
  rw[<-Aab cur.toList og (l.length*K.size) (Bf p) n (by omega),y1]
  exact T6 c1 c2 c3 _ _ (by omega) y4.symm
 rw[this]
 exact E7 hk hv y5 hf
theorem Xz(R:Rel E X){n:Nat}{a:AV}{av:Value}{ps:List AV}{rd:List Nat}(hv:VRel X a av)(h:loadAt X.s n a=some (ps,rd)):Aqe X n av ps:=by
 cases hv with
 | @pb b o p cb g og hc hbase hpin hnr=>
  simp only[loadAt] at h
  cases hl:look b X.s.st with
  | none=>rw[hl] at h;cases h
  | some x=>
   rw[hl] at h
   cases x with
   | map=>cases h
   | iter=>cases h
   | bld=>cases h
   | cell ro v qs=>
    simp only at h
    cases hn:nav n p.reverse o qs with
    | none=>rw[hn] at h;cases h
    | some zs=>
     rw[hn] at h
     simp only at h
     obtain⟨cb',k1,k2,k3,k4⟩:=R.blk b _ hl
     rw[hc] at k1
     cases k1
     cases k2 with
     | @box g' fps _ _ _ cur j1 j2 j3=>
      simp only[CB.base,zB,zL] at hbase
      obtain⟨rfl,rfl⟩:=hbase
      have hf:C9 zs=true/\ps=zs:=by
       revert h
       split
       ·split
        ·exact(by have:=j1 _ (zO ..);simp[AV.norw] at this)
        ·intro h;obtain⟨h1,h2,_⟩:=Fc h;exact⟨h1,h2⟩
       ·intro h;obtain⟨h1,h2,_⟩:=Fc h;exact⟨h1,h2⟩
      obtain⟨hf,rfl⟩:=hf
      obtain⟨c1,c2,c3,f1,f2,f3,y1,y2,y3,y4,y5,y6⟩:=K6.nav _ _ _ j3 j1 hpin hn
      obtain⟨t,fr,hg,ht⟩:=j2
      have hlen:=congrArg zJ y1
      simp only[zD,y3,y4] at hlen
      rw[C3] at y3 hlen
      have:=T3 y5 hf
      subst this
      refine⟨g',0+(o+Bf p),cur.toArray,t,fr,rfl,hg,by simp;omega, ?_,y6⟩
      rw[show seg cur.toArray.toList (0+(o+Bf p)) n=c2 from by
       show seg cur (0+(o+Bf p)) n=c2
       rw[y1]
       exact T6 c1 c2 c3 _ _ (by omega) y4.symm]
      exact y5
     | @row A m c sz fp _ _ K l j1 j2 j3=>
      subst j1 j2
      have hp:p≠[]:=by
       rcases hnr with h|h
       ·simp[CB.rowN] at h
       ·exact h
      obtain⟨sz,N,i,f,p',e,h1,h2⟩:=Pi hpin hp
      simp only[CB.rowN,xB] at h1
      obtain⟨A',c',e1,e2⟩:=j3
      cases e1
      rcases e2 with⟨e2,_⟩|⟨g',o',cur,fps,q1,q2,q3,q4,q5,q6⟩
      ·omega
      subst q1
      simp only[CB.base,Aa3,zB,zL] at hbase
      obtain⟨rfl,rfl⟩:=hbase
      rw[e] at hn
      have ho:=Am4 hn
      subst ho
      obtain⟨hsz,c1,c2,c3,f1,f2,f3,y1,y2,y3,y4,y5,y6⟩:=Zx (G:=PRs X) K6 (λ _ _ _ h=>Dw h) q6 h1 h2 hn
      have hoff:Bf p=i*K.size+f+Bf p':=by rw[<-C3,e];simp only[Bf,hsz]
      obtain⟨t,fr,hg,ht⟩:=q2
      have hm:=zH K.size q3
      have hlen:=congrArg zJ y1
      simp only[zD,y3,y4] at hlen
      rw[Cv (by omega)] at hlen
      have hseg:seg cur (o'+(0+Bf p)) n=c2:=by
       rw[<-Aab cur o' (l.length*K.size) (0+Bf p) n (by omega),y1]
       exact T6 c1 c2 c3 _ _ (by omega) y4.symm
      refine⟨g',o'+(0+Bf p),cur.toArray,t,fr,rfl,hg,by simp;omega, ?_⟩
      have plainCase:Ln zs [b]=some (ps,rd)->PRs X ps (seg cur.toArray.toList (o'+(0+Bf p)) n) []/\∀a∈ps,a.norw=true:=by
       intro h
       obtain⟨hf,rfl,_⟩:=Fc h
       have:=T3 y5 hf
       subst this
       exact⟨by rw[show seg cur.toArray.toList (o'+(0+Bf p)) n=c2 from hseg];exact y5,y6⟩
      revert h
      split
      ·rename_i sz1 N1 i1 f1'
       split
       ·rename_i K1 l1 heq
        cases heq
        cases hb:(K.nest&&Aiz zs)<;>simp only[cond_true,cond_false]
        ·exact plainCase
        ·intro h
         simp only[z9] at hb
         obtain⟨hf,rfl,_⟩:=Fc h
         simp only[zE,yD,xD,List.cons.injEq,zL] at e
         obtain⟨⟨rfl,rfl,rfl,rfl⟩,rfl⟩:=e
         simp only[nav,Aw,show zA 0 0=true from rfl,cond_true,hsz,show zA K.size K.size=true from zW _] at hn
         cases hd:Aw f1' (Br K (K.get l i1)) with
         | none=>rw[hd] at hn;cases hn
         | some r0=>
          rw[hd] at hn
          simp only at hn
          have htk:∃r,r0=zs++r:=by
           have:∀(ps:List AV) (n:Nat) (qs:List AV),Bo n ps=some qs->∃r,ps=qs++r:=by
            intro ps
            induction ps with
            | nil=>intro n qs h;simp only[Bo] at h;cases e:zA n 0<;>rw[e] at h<;>simp at h;exact⟨[],by simp[h]⟩
            | cons p ps ih=>
             intro n qs h
             simp only[Bo] at h
             cases e:zA n 0<;>rw[e] at h<;>simp only[cond_true,cond_false] at h
             ·cases e2:zM p.size n<;>rw[e2] at h<;>simp only[cond_true,cond_false] at h
              ·cases h
              cases e3:Bo (n-p.size) ps with
              | none=>rw[e3] at h;cases h
              | some x=>
               rw[e3] at h
               obtain⟨r,hr⟩:=ih _ _ e3
               cases h
               exact⟨r,by simp[hr]⟩
             ·cases h;exact⟨p::ps,rfl⟩
           exact this _ _ _ hn
          obtain⟨r,rfl⟩:=htk
          refine⟨?_,Ms hf⟩
          rw[show seg cur.toArray.toList (o'+(0+Bf [(sz1,N1,i1,f1')])) n=c2 from hseg]
          refine Kt R hl hc h1 (by rw[q5];simp) (w0:=λ k=>cur[o'+(i1*K.size+k)]?) (λ k=>by rw[Hk hg];simp) f1' y5 y6 hb.2 hf hd ?_
          intro k u hu
          have hk:k<n:=by
           have:=(List.getElem?_eq_some_iff.1 hu).1
           omega
          have:(seg cur (o'+(0+Bf [(sz1,N1,i1,f1')])) n)[k]?=some u:=by rw[hseg];exact hu
          simp only[seg,List.getElem?_take,hk,if_true,List.getElem?_drop] at this
          rw[<-this]
          congr 1
          simp only[Bf,hsz]
          omega
       ·rename_i hne
        exact(hne K l rfl).elim
      ·exact plainCase
 | @pn b v i f K l p g og hp hpin hk hr=>
  simp only[loadAt] at h
  cases hval:valid X.s (.ver b v)<;>rw[hval] at h<;>simp only[cond_true,cond_false] at h
  ·cases h
  cases hn:nav n p.reverse 0 [.rw K l] with
  | none=>rw[hn] at h;cases h
  | some qs=>
   rw[hn] at h
   simp only at h
   obtain⟨hf,rfl,_⟩:=Fc h
   obtain⟨n',c,hat⟩:=hr hval
   obtain⟨cb,f',hc,how,hfp⟩:=Y2 R hat
   have hl0:l.length≠0:=by
    obtain⟨sz,N,i',f0,p',e,h1,h2⟩:=Pi hpin hp
    simp only[xB] at h1
    omega
   obtain⟨A,c2,e1,e2⟩:=how
   cases e1
   rcases e2 with⟨e2,_⟩|⟨g',o',cur,fps,q1,q2,q3,q4,q5,q6⟩
   ·exact(hl0 e2).elim
   cases q1
   obtain⟨t,fr,hg,ht⟩:=q2
   have hm:=zH K.size q3
   exact Aha hk hval hg (by simp;omega) (q6.ro λ x hx=>Ahh hc (hfp x (by simp[q5,hx]))) hp hpin hn hf
 | @po q K l p g og hp hpin hk hr=>
  simp only[loadAt] at h
  cases hval:valid X.s q<;>rw[hval] at h<;>simp only[cond_true,cond_false] at h
  ·cases h
  cases hn:nav n p.reverse 0 [.rw K l] with
  | none=>rw[hn] at h;cases h
  | some qs=>
   rw[hn] at h
   simp only at h
   obtain⟨hf,rfl,_⟩:=Fc h
   obtain⟨cur,t,fr,h1,h2,h3,h4⟩:=hr hval
   exact Aha hk hval h2 h3 h4 hp hpin hn hf
 | @pr q qs o p g og cur t fr m h1 h2 h3 h4 h7 h5 h6=>
  simp only[loadAt] at h
  cases hval:valid X.s q<;>rw[hval] at h<;>simp only[cond_true,cond_false] at h
  ·cases h
  cases hn:nav n p.reverse o qs with
  | none=>rw[hn] at h;cases h
  | some zs=>
   rw[hn] at h
   simp only at h
   obtain⟨hf,rfl,_⟩:=Fc h
   obtain⟨c1,c2,c3,f1,f2,f3,y1,y2,y3,y4,y5,y6⟩:=K6.nav _ _ _ h4 h7 h6 hn
   have hlen:=congrArg zJ y1
   simp only[zD,y3,y4] at hlen
   rw[Cv (by simpa using h3),C3] at hlen
   rw[C3] at y3
   have hf2:f2=[]:=by
    have:=congrArg zJ y2
    simp at this
    exact zQ (by omega)
   subst hf2
   refine⟨g,og+(o+Bf p),cur,t,fr,rfl,h2,by omega, ?_,Ms hf⟩
   rw[show seg cur.toList (og+(o+Bf p)) n=c2 from by
    rw[<-Aab cur.toList og m (o+Bf p) n (by omega),y1]
    exact T6 c1 c2 c3 _ _ (by omega) y4.symm]
   refine roPr y5 hf ?_
   cases q with
   | frz=>trivial
   | reg=>trivial
   | ver b v=>exact(h5 b v rfl).elim
 | _=>simp[loadAt] at h
where
 roPr {X:Cx} {q:Cj} {ps:List AV} {cs:List Value} (h:PRs X ps cs []) (hf:C9 (Fz q ps)=true) (hk:Kn X q):PRs X (Fz q ps) cs []:=roPr' h rfl hf hk
 roPr' {X:Cx} {q:Cj}:∀{ps:List AV} {cs:List Value} {fp:List Nat},PRs X ps cs fp->fp=[]->C9 (Fz q ps)=true->Kn X q->PRs X (Fz q ps) cs []
  | _,_,_,.nil,_,_,_=>.nil
  | _,_,_, @PRs.one _ a v r cs fp h1 h2 h3 h4,hfp,hf,hk=>by
   have e:Fz q (a::r)=a::Fz q r:=by cases a<;>first|rfl|simp[AV.plain] at h1
   rw[e] at hf⊢
   simp only[C9,z9] at hf
   exact .one h1 h2 h3 (roPr' h4 hfp hf.2 hk)
  | _,_,_,.arr h1 h2 h3,hfp,hf,hk=>by
   simp only[Fz,C9,z9] at hf⊢
   simp only[zX] at hfp
   have:=hfp.1
   subst this
   exact .arr h1 h2 (roPr' h3 hfp.2 hf.2 hk)
  | _,_,_,.nl h1 h3,hfp,hf,hk=>by
   simp only[Fz,C9,z9] at hf⊢
   simp only[zX] at hfp
   have:=hfp.1
   subst this
   obtain⟨A,c,rfl,h⟩:=h1
   have hA:Gf X.w _ _ (A0 X.w (X.S none) _ _) (.slice A _ c) []:=⟨A,c,rfl,h⟩
   obtain⟨k1,k2,k3⟩:=hA.ro (S:=X.Sof q) rfl (by simp)
   exact .one rfl rfl (.ro k1 k2 hk λ _=>k3) (roPr' h3 hfp.2 hf.2 hk)
  | _,_,_,.rw h1 h3,hfp,hf,hk=>by simp[Fz,C9,P7] at hf
end Go.Ev
namespace Go.Ev
variable{R:Type}
structure Good(E:Env)(X:Cx)(nb:Nat)(v:AV)(u:Upd)(val:Value)(X':Cx):Prop where
 rel:Rel E X'
 ext:Ext X X'
 S:GS X'.S X.S
 st:X'.s={X.s with st:=A6 u X.s.st}
 fresh:∀b,X'.cm b≠none->X.cm b≠none\/(nb<=b/\b<nb+16)
 val:VRel X' v val
def Pe(X:Cx)(nb:Nat):Prop:=∀b,nb<=b->b<nb+16->X.cm b=none
def Wk(P:Program)(s:St)(o:Oper)(nb:Nat)(v:AV)(u:Upd):Prop:=
 ∀E X a,X.s=s->Rel E X->Jo X a->Pe X nb->∀next Q,(∀val X',Good E X nb v u val X'->next (a.put o.dst val) X'.w)->o.wp P a X.w next Q
def Lt(t:Nat)(k:IntKind)(n:Int):List PanicEntry:=[{v:=.iface t (.int k n),recovered:=false}]
def Asr(P:Program)(s:St)(o:Oper)(nb:Nat)(t:Nat)(k:IntKind)(n:Int)(u:Upd):Prop:=
 ∀E X a,X.s=s->Rel E X->Jo X a->Pe X nb->∀next Q,(∀val X',Good E X nb .un u val X'->Q (.panic (Lt t k n)) a X'.w)->o.wp P a X.w next Q
def Ass(P:Program)(s:St)(o:Oper)(nb:Nat)(v:AV)(u:Upd):Prop:=match v with
 | .pan t k n=>Asr P s o nb t k n u
 | v=>Wk P s o nb v u
theorem Wk.x{P:Program}{s:St}{o:Oper}{nb:Nat}{v:AV}{u:Upd}(h:Wk P s o nb v u):Ass P s o nb v u:=by
 cases v with
 | pan t k n=>
  intro E X a hs hR hT hF next Q hn
  refine h E X a hs hR hT hF next Q λ val X' hG=> ?_
  cases hG.val
 | _=>exact h
structure Nc(s s':St)(o:Oper)(u:Upd)(rd:List Nat):Prop where
 ev:∀x∈o.op.operands,ev s' x=ev s x
 pt:∀c∈rd,∀b o,Wo c=some (b,o)->slAt o (look b s'.st)=slAt o (look b s.st)
 rd:∀b∈rd,look b s'.st=look b s.st
 wr:∀b∈Bm u,look b s'.st=look b s.st
structure Res(P:Program)(c:Cfg)(s:St)(o:Oper)(nb:Nat)(cont:Cm R)(r:R)(F:∀{R':Type},St->Cm R'->Option R'):Prop where
 out:∃v u rd,cont v u rd=some r/\Wk P s o nb v u/\(∀s',Nc s s' o u rd->∀(R':Type) (cont':Cm R'),F s' cont'=cont' v u rd)/\True
theorem Aij{E:Env}{X:Cx}{nb:Nat}{v:AV}{val:Value}(R:Rel E X)(hv:VRel X v val):Good E X nb v [] val X:=
 ⟨R,.refl X,.refl _,rfl,λ _ h=>.inl h,hv⟩
theorem B5{P:Program}{s:St}{o:Oper}{nb:Nat}{v:AV}
  (h:∀E X a,X.s=s->Rel E X->Jo X a->∃val,(execOp a.eval o).run P X.w=.ok (.value val) X.w/\VRel X v val):Wk P s o nb v []:=by
 intro E X a hs hR hT hF next Q hn
 obtain⟨val,h1,h2⟩:=h E X a hs hR hT
 unfold Oper.wp
 rw[h1]
 exact hn val X (Aij hR h2)
theorem Ao{b:Bool}{k:Option R}{r:R}(h:chk b k=some r):b=true/\k=some r:=by
 cases b
 ·cases h
 ·exact⟨rfl,h⟩
theorem A3(k:Option R):chk true k=k:=rfl
theorem Cf{s s':St}{b:Nat}(h:look b s'.st=look b s.st):Bq s' b=Bq s b:=by simp only[Bq,h]
theorem It{s s':St}{q:Cj}(h:∀b∈Js q,look b s'.st=look b s.st):valid s' q=valid s q:=by
 cases q with
 | frz=>rfl
 | reg=>rfl
 | ver b v=>simp only[valid,h b (by simp[Js])]
theorem Mt{ps qs:List AV}{rd rd':List Nat}(h:Ln ps rd=some (qs,rd')):rd'=rd:=(Fc h).2.2
theorem Ae0{s s':St}{n:Nat}{a:AV}{ps:List AV}{rd:List Nat}(h:loadAt s n a=some (ps,rd))(hs:∀b∈rd,look b s'.st=look b s.st):loadAt s' n a=some (ps,rd):=by
 cases a<;>simp only[loadAt] at h⊢<;>(try cases h)
 ·rename_i b o p
  have hb:b∈rd:=by
   revert h
   split
   ·split
    ·split
     ·split
      ·rename_i K l _ _
       cases(K.nest&&Aiz _)<;>simp only[cond_true,cond_false]<;>intro h<;>rw[Mt h]<;>simp
      ·intro h;rw[Mt h];simp
     ·intro h;rw[Mt h];simp
    ·intro h;cases h
   ·intro h;cases h
  rw[hs b hb];exact h
 ·rename_i b v i f K l p
  have hb:b∈rd:=by
   revert h
   cases valid s (.ver b v)<;>simp only[cond_true,cond_false]
   ·intro h;cases h
   ·split
    ·intro h;rw[Mt h];simp
    ·intro h;cases h
  rw[It (q:=.ver b v) (s:=s) (λ b' hb'=>by simp[Js] at hb';rw[hb'];exact hs b hb)];exact h
 ·rename_i q K l p
  have hb:∀b∈Js q,b∈rd:=by
   revert h
   cases valid s q<;>simp only[cond_true,cond_false]
   ·intro h;cases h
   ·split
    ·intro h;rw[Mt h];cases q<;>simp[Js]
    ·intro h;cases h
  rw[It (q:=q) (s:=s) (λ b' hb'=>hs b' (hb b' hb'))];exact h
 ·rename_i q qs o p
  have hb:∀b∈Js q,b∈rd:=by
   revert h
   cases valid s q<;>simp only[cond_true,cond_false]
   ·intro h;cases h
   ·split
    ·intro h;rw[Mt h];cases q<;>simp[Js]
    ·intro h;cases h
  rw[It (q:=q) (s:=s) (λ b' hb'=>hs b' (hb b' hb'))];exact h
theorem Aqe.var{P:Program}{X:Cx}{t:Nat}{ti:TyI}{av:Value}{ps:List AV}{v:AV}(hT:Df P t ti)(hL:Aqe X ti.sz av ps)(hc:S6 ti.cls ps=some v):
  ∃a val,av=.pointer (some a)/\(loadVar t a).run P X.w=.ok val X.w/\VRel X v val:=by
 obtain⟨g,o,cur,ty,fr,rfl,hg,hle,hp,hn⟩:=hL.out
 refine⟨⟨g,o,none⟩, ?_⟩
 simp only[loadVar,Sem.run_bind,hT.agg,Result.andThen_ok]
 unfold S6 at hc
 split at hc
 ·rename_i a e
  have hsz:=hT.one e
  rw[e]
  cases hpl:a.plain<;>rw[hpl] at hc<;>simp only[cond_true,cond_false] at hc
  ·cases hc
  cases hc
  rw[hsz] at hp hle
  generalize hseg:seg cur.toList o 1=sg at hp
  generalize([]:List Nat)=f0 at hp
  cases hp with
  | @one _ u _ cs' _ h1 h2 h3 h4=>
   refine⟨u,trivial, ?_,h3⟩
   have hu:cur[o]?=some u:=by
    have h9:(seg cur.toList o 1)[0]?=some u:=by rw[hseg];rfl
    simp only[seg,List.getElem?_take,List.getElem?_drop] at h9
    simpa using h9
   simp only[show(!zA 0 0)=false from rfl,zK,if_false,run_load,Hk hg,hu]
  | arr=>simp[AV.plain] at hpl
  | nl=>simp[AV.plain] at hpl
  | rw=>simp[AV.plain] at hpl
 ·rename_i e
  rw[e]
  cases hc
  simp only[show(!zA 1 0)=true from rfl,if_true,Sem.run_bind,hT.size,Result.andThen_ok,He hg o ti.sz hle,Sem.run_pure]
  exact⟨_,trivial,rfl,.agg hp hn⟩
 ·rename_i n K l e
  rw[e]
  cases hc
  simp only[show(!zA 2 0)=true from rfl,if_true,Sem.run_bind,hT.size,Result.andThen_ok,He hg o ti.sz hle,Sem.run_pure]
  obtain⟨h1,h2⟩:=Mi hp
  exact⟨_,trivial,rfl,.arr h1 h2⟩
 ·cases hc
theorem S9:∀{ps:List AV} {n o k:Nat},look o (F6 n ps)=some k->n<=o/\∃r,Aw (o-n) ps=some (.sl k::r)
 | [],n,o,k,h=>by simp[F6,look] at h
 | p::r,n,o,k,h=>by
  have far:∀{z:Nat},p.size=z->1<=z->look o (F6 (n+z) r)=some k->n<=o/\∃r',Aw (o-n) (p::r)=some (.sl k::r'):=by
   intro z hz h1 h2
   obtain⟨h3,r',h4⟩:=S9 h2
   refine⟨by omega,r', ?_⟩
   have e0:zA (o-n) 0=false:=Bd.2 (by omega)
   have e1:zM p.size (o-n)=true:=Nat.ble_eq_true_of_le (by omega)
   simp only[Aw,e0,cond_false,e1,cond_true]
   rw[show o-n-p.size=o-(n+z) by omega]
   exact h4
  have gen:(bif zM 1 p.size then F6 (n+p.size) r else [])=F6 n (p::r)->n<=o/\∃r',Aw (o-n) (p::r)=some (.sl k::r'):=by
   intro e
   rw[<-e] at h
   cases e1:zM 1 p.size<;>rw[e1] at h
   ·simp[look] at h
   ·exact far rfl (zG e1) h
  cases p with
  | sl k'=>
   simp only[F6,look] at h
   cases e:zA n o<;>rw[e] at h
   ·exact far rfl (zF 1) h
   ·simp only[cond_true,zB] at h
    have:=z8 e
    subst this h
    exact⟨zF _,r,by simp[Aw]⟩
  | _=>exact gen rfl
theorem Ai0{b o:Nat}(h:b<4294967296):Wo (Fp b o)=some (b,o):=by
 have e:zA ((4294967296*(o+1)+b)/4294967296) 0=false:=Bd.2 (by omega)
 simp only[Wo,Fp,e,cond_false,zB,zL]
 omega
theorem Vn{s:St}{n b o:Nat}{ps:List AV}{rd:List Nat}(h:loadAt s n (.pb b o [])=some (ps,rd)):rd=[b]/\∃ro v qs r,look b s.st=some (.cell ro v qs)/\Aw o qs=some r/\Bo n r=some ps:=by
 simp only[loadAt,yD] at h
 revert h
 split
 ·rename_i ro v qs hl
  split
  ·rename_i q hq
   simp only[nav] at hq
   cases e:Aw o qs with
   | none=>rw[e] at hq;cases hq
   | some r=>
    rw[e] at hq
    intro h
    obtain⟨h1,h2,h3⟩:=Fc h
    refine⟨h3,ro,v,qs,r,hl,e, ?_⟩
    rw[h2];exact hq
  ·intro h;cases h
 ·intro h;cases h
theorem Aai{n k:Nat}{r:List AV}(h:Bo n r=some [.sl k]):n=1:=by
 cases r with
 | nil=>simp only[Bo] at h;cases e:zA n 0<;>rw[e] at h<;>simp at h
 | cons p r=>
  simp only[Bo] at h
  cases e:zA n 0<;>rw[e] at h<;>simp only[cond_true,cond_false] at h
  ·cases e1:zM p.size n<;>rw[e1] at h<;>simp only[cond_true,cond_false] at h
   ·cases h
   ·split at h
    ·rename_i x hx
     simp only[zB,List.cons.injEq] at h
     obtain⟨rfl,rfl⟩:=h
     have hn:n-1=0:=by
      cases r with
      | nil=>simp only[AV.size,Bo] at hx;cases e2:zA (n-1) 0<;>rw[e2] at hx<;>simp at hx;exact z8 e2
      | cons q r=>
       have hs1:(AV.sl k).size=1:=rfl
       rw[hs1] at hx
       simp only[Bo] at hx
       cases e2:zA (n-1) 0<;>rw[e2] at hx<;>simp only[cond_true,cond_false] at hx
       ·cases e3:zM q.size (n-1)<;>rw[e3] at hx<;>simp only[cond_true,cond_false] at hx
        ·cases hx
        ·split at hx<;>cases hx
       ·exact z8 e2
     have:=Bd.1 e
     omega
    ·cases h
  ·cases h
theorem Amy{s s':St}{n cls:Nat}{a v:AV}{ps:List AV}{rd:List Nat}(h2:loadAt s n a=some (ps,rd))(h3:S6 cls ps=some v)(hrd:∀b∈Wq s a v rd,look b s'.st=look b s.st)
  (hpt:∀c∈Wq s a v rd,∀b o,Wo c=some (b,o)->slAt o (look b s'.st)=slAt o (look b s.st)):∃ps' rd',loadAt s' n a=some (ps',rd')/\S6 cls ps'=some v/\Wq s' a v rd'=Wq s a v rd:=by
 by_cases hx:∃b o k,a=.pb b o []/\v=.sl k/\slAt o (look b s.st)=some k/\Nat.blt b 4294967296=true
 ·obtain⟨b,o,k,rfl,rfl,h4,h5⟩:=hx
  have e:Wq s (.pb b o []) (.sl k) rd=[Fp b o]:=by simp[Wq,h4,h5]
  rw[e] at hpt⊢
  have hb:b<4294967296:=by rw[Nat.blt_eq] at h5;exact h5
  have h6:=hpt _ (by simp) b o (Ai0 hb)
  rw[h4] at h6
  obtain⟨rfl,ro,v0,qs,r,k1,k2,k3⟩:=Vn h2
  have hps:ps=[.sl k]/\cls=0:=by
   unfold S6 at h3
   split at h3
   ·rename_i a'
    cases hp:a'.plain<;>rw[hp] at h3<;>simp at h3
    exact⟨by rw[h3],rfl⟩
   ·cases h3
   ·cases h3
   ·cases h3
  obtain⟨rfl,rfl⟩:=hps
  have hn:=Aai k3
  subst hn
  have h7:∃ro v ps2,look b s'.st=some (.cell ro v ps2)/\look o (F6 0 ps2)=some k:=by
   revert h6
   unfold slAt
   split
   ·rename_i ro v ps2 hl
    intro h
    exact⟨ro,v,ps2,hl,h⟩
   ·intro h;cases h
  obtain⟨ro',v',ps2,k4,k5⟩:=h7
  obtain⟨_,r',k6⟩:=S9 k5
  rw[Nat.sub_zero] at k6
  refine⟨[.sl k],[b], ?_,rfl,by simp[Wq,h6,h5]⟩
  have:Bo 1 (AV.sl k::r')=some [.sl k]:=by
   cases r'<;>rfl
  simp only[loadAt,k4,yD,nav,k6,this,Ln,C9,P7,zR,cond_true]
 ·have e:∀s1:St,(∀b o,a=.pb b o []->slAt o (look b s1.st)=slAt o (look b s.st))->Wq s1 a v rd=rd:=by
   intro s1 h
   unfold Wq
   split
   ·rename_i b o k
    rw[h b o rfl]
    split
    ·rename_i k' hk
     cases e2:zA k' k&&Nat.blt b 4294967296
     ·rfl
     ·exfalso
      simp only[z9] at e2
      have:=z8 e2.1
      subst this
      exact hx ⟨b,o,k',rfl,rfl,hk,e2.2⟩
    ·rfl
   ·rfl
  have e0:=e s λ _ _ _=>rfl
  rw[e0] at hrd⊢
  refine⟨ps,rd,Ae0 h2 hrd,h3,e s' ?_⟩
  rintro b o rfl
  obtain⟨rfl,_⟩:=Vn h2
  rw[hrd b (by simp)]
theorem Arj{P:Program}{c:Cfg}(hC:Bk P c=true){s:St}{o:Oper}{nb:Nat}{cont:Cm R}{r:R}{t:Nat}{a:Operand}(hop:o.op=.load t a)(h:Au c s o nb cont=some r):
  Res P c s o nb cont r λ s' k=>Au c s' o nb k:=by
 simp only[Au,hop] at h
 cases h1:tyI c t with
 | none=>rw[h1] at h;cases h
 | some ti=>
  rw[h1] at h
  simp only at h
  cases h2:loadAt s ti.sz (ev s a) with
  | none=>rw[h2] at h;cases h
  | some x=>
   obtain⟨ps,rd⟩:=x
   rw[h2] at h
   simp only at h
   cases h3:S6 ti.cls ps with
   | none=>rw[h3] at h;cases h
   | some v=>
    rw[h3] at h
    refine⟨v,[],_,h,B5 ?_, ?_,trivial⟩
    ·intro E X ac hs hR hT
     subst hs
     obtain⟨ad,val,e1,e2,e3⟩:=(Xz hR (Bh hT a) h2).var (Bs hC h1) h3
     refine⟨val, ?_,e3⟩
     simp only[execOp,hop,Instr.loadAt,e1,Instr.sureAddr,Sem.run_bind,Sem.run_pure,Result.andThen_ok,e2]
    ·intro s' ha R' k
     simp only[Au,hop,h1]
     rw[ha.ev a (by simp[hop,Op.operands])]
     obtain⟨ps',rd',k1,k2,k3⟩:=Amy h2 h3 ha.rd ha.pt
     rw[k1]
     simp only[k2,k3]
end Go.Ev
namespace Go.Ev
variable{R:Type}{E:Env}{X:Cx}{P:Program}{t:Nat}{ti:TyI}{w:World}
theorem Df.slice(h:Df P t ti)(hs:Fd ti=true):P.underlying t=some (.slice ti.elem):=by
 obtain⟨d,h1,h2⟩:=h.d
 have hc:ti.cls=0/\((∃K,ti.zero=[.nz K])\/ti.zero=[.nils]):=by
  unfold Fd at hs
  split at hs
  ·rename_i K e1 e2;exact⟨e1,.inl ⟨K,e2⟩⟩
  ·rename_i e1 e2;exact⟨e1,.inr e2⟩
  ·cases hs
 cases d with
 | slice e=>
  simp only[D9,z9] at h2
  rw[h1,z8 h2.1.2]
 | _=>
  exfalso
  rcases hc with⟨hc,⟨K,hz⟩|hz⟩<;>simp[D9,hc,hz,H9,Hp,J6] at h2
theorem Df.array(h:Df P t ti)(hs:ti.cls=2):P.underlying t=some (.array ti.alen ti.elem):=by
 obtain⟨d,h1,h2⟩:=h.d
 cases d with
 | array n e=>
  simp only[D9,z9] at h2
  rw[h1,z8 h2.1.2,z8 h2.2]
 | _=>
  exfalso
  simp[D9,hs] at h2
theorem Df.string(h:Df P t ti)(hs:Hp ti=true):P.underlying t=some .string:=by
 obtain⟨d,h1,h2⟩:=h.d
 have hc:ti.cls=0/\(∃s,ti.zero=[.str s]):=by
  unfold Hp at hs
  split at hs
  ·rename_i s e1 e2;exact⟨e1,s,e2⟩
  ·cases hs
 obtain⟨hc,s,hz⟩:=hc
 cases d with
 | string=>exact h1
 | _=>
  exfalso
  simp[D9,hc,hz,H9,Fd,J6] at h2
theorem Df.int(h:Df P t ti){k:IntKind}(hs:H9 ti=some k):P.underlying t=some (.int k):=by
 obtain⟨d,h1,h2⟩:=h.d
 have hc:ti.cls=0/\(∃n,ti.zero=[.int k n]):=by
  unfold H9 at hs
  split at hs
  ·rename_i k' n e1 e2;cases hs;exact⟨e1,n,e2⟩
  ·cases hs
 obtain⟨hc,s,hz⟩:=hc
 cases d with
 | int k'=>
  simp only[D9,hs,z9] at h2
  rw[h1,Er h2.2]
 | _=>
  exfalso
  simp[D9,hc,hz,Hp,Fd,J6] at h2
theorem Df.notInt(h:Df P t ti)(hs:H9 ti=none):∃d,P.underlying t=some d/\∀k,d≠.int k:=by
 obtain⟨d,h1,h2⟩:=h.d
 refine⟨d,h1,λ k e=> ?_⟩
 subst e
 simp[D9,hs] at h2
theorem Df.bool(h:Df P t ti)(h0:ti.cls=0){b:Bool}(hs:ti.zero=[.bool b]):P.underlying t=some .bool:=by
 obtain⟨d,h1,h2⟩:=h.d
 cases d with
 | bool=>exact h1
 | _=>
  exfalso
  simp[D9,h0,hs,Hp,Fd,J6,H9] at h2
theorem Df.map(h:Df P t ti)(hs:J6 ti=true):P.underlying t=some (.map ti.alen ti.elem):=by
 obtain⟨d,h1,h2⟩:=h.d
 have hc:ti.cls=0/\ti.zero=[.nilm]:=by
  unfold J6 at hs
  split at hs
  ·rename_i e1 e2;exact⟨e1,e2⟩
  ·cases hs
 obtain⟨hc,hz⟩:=hc
 cases d with
 | map k e=>
  simp only[D9,z9] at h2
  rw[h1,z8 h2.2.1,z8 h2.2.2]
 | _=>
  exfalso
  simp[D9,hc,hz,H9,Fd,Hp] at h2
theorem Z1:∀{fs:List Field} {offs:List Nat} {o i off sz:Nat},F5 P sz fs offs o=true->offs[i]?=some off->
  ∃fd j,fs[i]?=some fd/\fd.offset=off/\P.info? fd.type=some j/\1<=j.size/\j.size=Kh sz offs i/\off+j.size<=sz
 | [],[],_,_,_,_,_,h=>by simp at h
 | [],_::_,_,_,_,_,h,_=>by simp[F5] at h
 | _::_,[],_,_,_,_,h,_=>by simp[F5] at h
 | f::fs,p::ps,o,i,off,sz,h,hi=>by
  simp only[F5,z9] at h
  obtain⟨⟨h1,h2⟩,h3⟩:=h
  have e1:=z8 h1
  have e2:=z8 h2
  split at h3
  ·rename_i j hj
   simp only[z9] at h3
   have e3:=zG h3.1
   have ub:∀{fs:List Field} {ps:List Nat} {o:Nat},F5 P sz fs ps o=true->o<=sz/\ps.head?.getD sz=o:=by
    intro fs
    induction fs with
    | nil=>intro ps o h;cases ps<;>simp[F5] at h;subst h;exact⟨zF _,rfl⟩
    | cons f fs ih=>
     intro ps o h
     cases ps with
     | nil=>simp[F5] at h
     | cons p ps=>
      simp only[F5,z9] at h
      obtain⟨⟨h1,h2⟩,h3⟩:=h
      split at h3
      ·simp only[z9] at h3
       have:=(ih h3.2).1
       exact⟨by omega,by simpa using z8 h2⟩
      ·cases h3
   obtain⟨u1,u2⟩:=ub h3.2
   cases i with
   | zero=>
    simp only[List.getElem?_cons_zero,zB] at hi
    subst hi
    refine⟨f,j,rfl,e1.trans e2.symm,hj,e3, ?_,by omega⟩
    cases ps with
    | nil=>simp only[Kh];simp at u2;omega
    | cons q ps=>simp only[Kh];simp at u2;omega
   | succ i=>
    simp only[List.getElem?_cons_succ] at hi
    obtain⟨fd,j',k1,k2,k3,k4,k5,k6⟩:=Z1 h3.2 hi
    refine⟨fd,j',by simpa using k1,k2,k3,k4, ?_,k6⟩
    rw[k5]
    cases ps with
    | nil=>simp at hi
    | cons q ps=>simp[Kh]
  ·cases h3
theorem Df.struct(h:Df P t ti)(hc:ti.cls=1):∃fs,P.underlying t=some (.struct fs)/\F5 P ti.sz fs.toList ti.offs 0=true:=by
 obtain⟨d,h1,h2⟩:=h.d
 cases d with
 | struct fs=>
  simp only[D9,z9] at h2
  exact⟨fs,h1,h2.2⟩
 | _=>
  exfalso
  simp[D9,hc] at h2
theorem K5:∀{m:Option Nat} {p:Hh} {sz n i o:Nat},PIn m p->(m=none\/p≠[])->i<n->PIn m (p++[(sz,n,i,o)])
 | m,[],_,_,_,_,_,hm,hi=>by
  rcases hm with hm|hm
  ·subst hm;exact⟨by simpa using hi,by simp[PIn]⟩
  ·exact(hm rfl).elim
 | m,(a,b,c,d)::p,_,_,_,_,h,_,hi=>⟨h.1,K5 h.2 (.inl rfl) hi⟩
theorem Ph:∀{m:Option Nat} {p:Hh} {sz n i o o':Nat},PIn m (p++[(sz,n,i,o)])->PIn m (p++[(sz,n,i,o')])
 | m,[],_,_,_,_,_,h=>h
 | m,(a,b,c,d)::p,_,_,_,_,_,h=>⟨h.1,Ph h.2⟩
theorem Ahz{a a':AV}{av:Value}{o:Nat}(hv:VRel X a av)(h:Kf a o=some a'):∃g x,av=.pointer (some ⟨g,x,none⟩)/\VRel X a' (.pointer (some ⟨g,x+o,none⟩)):=by
 cases hv with
 | @pb b x p cb g og h1 h2 h3 h4=>
  cases p with
  | nil=>
   simp only[Kf,zB] at h
   subst h
   refine⟨g,_,rfl, ?_⟩
   have:=VRel.pb (X:=X) (o:=x+o) h1 h2 h3 h4
   simp only[Bf] at this⊢
   rwa[show og+(x+0)+o=og+(x+o+0) by omega]
  | cons y p=>
   obtain⟨sz,n,i,f⟩:=y
   simp only[Kf,zB] at h
   subst h
   refine⟨g,_,rfl, ?_⟩
   rw[zE] at h3
   have:=VRel.pb (X:=X) (o:=x) (p:=(sz,n,i,f+o)::p) h1 h2 (by rw[zE];exact Ph h3) (.inr (by simp))
   simp only[Bf] at this⊢
   rwa[show og+(x+(i*sz+f+Bf p))+o=og+(x+(i*sz+(f+o)+Bf p)) by omega]
 | @pn b v i f K l p g og h1 h2 h3 h4=>
  cases p with
  | nil=>cases h
  | cons y p=>
   obtain⟨sz,n,j,f'⟩:=y
   simp only[Kf,zB] at h
   subst h
   refine⟨g,_,rfl, ?_⟩
   rw[zE] at h2
   have:=VRel.pn (X:=X) (p:=(sz,n,j,f'+o)::p) (by simp) (by rw[zE];exact Ph h2) h3 h4
   simp only[Bf] at this⊢
   rwa[show og+(j*sz+f'+Bf p)+o=og+(j*sz+(f'+o)+Bf p) by omega]
 | @po q K l p g og h1 h2 h3 h4=>
  cases p with
  | nil=>cases h
  | cons y p=>
   obtain⟨sz,n,j,f'⟩:=y
   simp only[Kf,zB] at h
   subst h
   refine⟨g,_,rfl, ?_⟩
   rw[zE] at h2
   have:=VRel.po (X:=X) (p:=(sz,n,j,f'+o)::p) (by simp) (by rw[zE];exact Ph h2) h3 h4
   simp only[Bf] at this⊢
   rwa[show og+(j*sz+f'+Bf p)+o=og+(j*sz+(f'+o)+Bf p) by omega]
 | @pr q ps x p g og cur ty fr n h1 h2 h3 h4 h5 h6 h7=>
  cases p with
  | nil=>
   simp only[Kf,zB] at h
   subst h
   refine⟨g,_,rfl, ?_⟩
   have:=VRel.pr (X:=X) (o:=x+o) h1 h2 h3 h4 h5 h6 h7
   simp only[Bf] at this⊢
   rwa[show og+(x+0)+o=og+(x+o+0) by omega]
  | cons y p=>
   obtain⟨sz,m,i,f⟩:=y
   simp only[Kf,zB] at h
   subst h
   refine⟨g,_,rfl, ?_⟩
   rw[zE] at h7
   have:=VRel.pr (X:=X) (o:=x) (p:=(sz,m,i,f+o)::p) h1 h2 h3 h4 h5 h6 (by rw[zE];exact Ph h7)
   simp only[Bf] at this⊢
   rwa[show og+(x+(i*sz+f+Bf p))+o=og+(x+(i*sz+(f+o)+Bf p)) by omega]
 | _=>cases h
theorem Ajr{a a':AV}{av:Value}{sz n i:Nat}(hv:VRel X a av)(hi:i<n)(h:W7 a sz n i=some a'):∃g x,av=.pointer (some ⟨g,x,none⟩)/\VRel X a' (.pointer (some ⟨g,x+i*sz,none⟩)):=by
 cases hv with
 | @pb b x p cb g og h1 h2 h3 h4=>
  simp only[W7,zB] at h
  subst h
  refine⟨g,_,rfl, ?_⟩
  have:=VRel.pb (X:=X) (o:=x) (p:=(sz,n,i,0)::p) h1 h2 (by rw[zE];exact K5 h3 (h4.imp id (by simp)) hi) (.inr (by simp))
  simp only[Bf] at this⊢
  rwa[show og+(x+Bf p)+i*sz=og+(x+(i*sz+0+Bf p)) by omega]
 | @pn b v i' f K l p g og h1 h2 h3 h4=>
  simp only[W7,zB] at h
  subst h
  refine⟨g,_,rfl, ?_⟩
  have:=VRel.pn (X:=X) (p:=(sz,n,i,0)::p) (by simp) (by rw[zE];exact K5 h2 (.inr (by simpa using h1)) hi) h3 h4
  simp only[Bf] at this⊢
  rwa[show og+Bf p+i*sz=og+(i*sz+0+Bf p) by omega]
 | @po q K l p g og h1 h2 h3 h4=>
  simp only[W7,zB] at h
  subst h
  refine⟨g,_,rfl, ?_⟩
  have:=VRel.po (X:=X) (p:=(sz,n,i,0)::p) (by simp) (by rw[zE];exact K5 h2 (.inr (by simpa using h1)) hi) h3 h4
  simp only[Bf] at this⊢
  rwa[show og+Bf p+i*sz=og+(i*sz+0+Bf p) by omega]
 | @pr q ps x p g og cur ty fr m h1 h2 h3 h4 h5 h6 h7=>
  simp only[W7,zB] at h
  subst h
  refine⟨g,_,rfl, ?_⟩
  have:=VRel.pr (X:=X) (o:=x) (p:=(sz,n,i,0)::p) h1 h2 h3 h4 h5 h6 (by rw[zE];exact K5 h7 (.inl rfl) hi)
  simp only[Bf] at this⊢
  rwa[show og+(x+Bf p)+i*sz=og+(x+(i*sz+0+Bf p)) by omega]
 | _=>cases h
theorem Zj{c:Cfg}(hC:Bk P c=true){s:St}{o:Oper}{nb:Nat}{cont:Cm R}{r:R}{x:Operand}{f:Nat}(hop:o.op=.fieldAddr t x f)(h:Au c s o nb cont=some r):
  Res P c s o nb cont r λ s' k=>Au c s' o nb k:=by
 simp only[Au,hop] at h
 cases h1:tyI c t with
 | none=>rw[h1] at h;cases h
 | some ti=>
  rw[h1] at h
  simp only at h
  cases hb:zA ti.cls 1<;>rw[hb] at h<;>simp only[cond_true,cond_false] at h
  ·cases h
  cases h2:ti.offs[f]? with
  | none=>rw[h2] at h;cases h
  | some off=>
   rw[h2] at h
   simp only at h
   cases h3:Kf (ev s x) off with
   | none=>rw[h3] at h;cases h
   | some a=>
    rw[h3] at h
    refine⟨a,[],[],h,B5 ?_, ?_,trivial⟩
    ·intro E X ac hs hR hT
     subst hs
     obtain⟨g,y,e1,e2⟩:=Ahz (Bh hT x) h3
     refine⟨_, ?_,e2⟩
     obtain⟨fs,k1,k2⟩:=(Bs hC h1).struct (z8 hb)
     obtain⟨fd,j,q1,q2,q3,q4,q5,q6⟩:=Z1 k2 h2
     have q1':fs[f]?=some fd:=by simpa using q1
     have hsz:(sizeOf fd.type).run P X.w=.ok j.size X.w:=by simp[sizeOf,typeInfo,q3]
     simp only[execOp,hop,Instr.fieldAt,e1,Instr.sureAddr,fieldPlace,Sem.run_bind,Ay k1,Result.andThen_ok,q1',Sem.run_pure,hsz,Sem.run_ite,if_neg (show¬j.size=0 by omega),Cy,q2]
    ·intro s' ha R' k
     simp only[Au,hop,h1,hb,cond_true,h2]
     rw[ha.ev x (by simp[hop,Op.operands]),h3]
end Go.Ev
namespace Go.Ev
variable{R:Type}{E:Env}{X:Cx}{P:Program}{t:Nat}{ti:TyI}{w:World}
theorem E6{a:AV}{v:Value}{i:Int}(hv:VRel X a v)(h:Lp a=some i):∃k,v=.int k i:=by
 cases hv<;>simp only[Lp] at h<;>(try cases h)
 exact⟨_,rfl⟩
theorem Ou{i:Int}{n:Nat}(h:inB i n=true):0<=i/\i<(n:Int)/\i.toNat<n:=by
 simp only[inB,z9,decide_eq_true_eq] at h
 exact⟨h.1,h.2,by omega⟩
theorem F0{e:TypeId}{sz:Nat}(hu:P.underlying t=some (.slice e))(hs:(sizeOf e).run P w=.ok sz w){k:IntKind}{i:Int}{n c:Nat}{ad:Addr}(h0:0<=i)(h1:i<(n:Int)):
  (Instr.indexAt t (.slice (some ad) n c) (.int k i)).run P w=.ok (.pointer (some (ad.add (i.toNat*sz)))) w:=by
 simp[Instr.indexAt,asIntOf,Ay hu,hs,h0,h1]
theorem Ts{e:TypeId}{sz n:Nat}(hu:P.underlying t=some (.array n e))(hs:(sizeOf e).run P w=.ok sz w){k:IntKind}{i:Int}{ad:Addr}(h0:0<=i)(h1:i<(n:Int)):
  (Instr.indexAt t (.pointer (some ad)) (.int k i)).run P w=.ok (.pointer (some (ad.add (i.toNat*sz)))) w:=by
 simp[Instr.indexAt,asIntOf,Ay hu,hs,h0,h1,Instr.sureAddr]
theorem VRel.pbAt{b o:Nat}{p:Hh}{cb:CB}{g og x:Nat}(h1:X.cm b=some cb)(h2:cb.base=some (g,og))(h3:PIn cb.rowN p.reverse)(h4:cb.rowN=none\/p≠[])(hx:x=og+(o+Bf p)):
  VRel X (.pb b o p) (.pointer (some ⟨g,x,none⟩)):=hx▸.pb h1 h2 h3 h4
theorem W3{w:World}{sz n:Nat}{Row:List Value->List Nat->Prop}{A:Option Addr}{c:Nat}{fp:List Nat}(h:Gf w sz n Row (.slice A n c) fp):(n=0/\c=0)\/∃g og,A=some ⟨g,og,none⟩:=by
 obtain⟨A',c',e,h⟩:=h
 cases e
 rcases h with⟨h1,h2,_⟩|⟨g,o,_,_,h1,_⟩
 ·exact .inl ⟨h1,h2⟩
 ·exact .inr ⟨g,o,h1⟩
theorem Aew{c:Cfg}(hC:Bk P c=true){s:St}{x i:AV}{cont:AV->List Nat->Option R}{r:R}(h:Zp c s t x i cont=some r):
  ∃v rd,cont v rd=some r/\
   (∀E X xv iv,X.s=s->Rel E X->VRel X x xv->VRel X i iv->∃val,(Instr.indexAt t xv iv).run P X.w=.ok val X.w/\VRel X v val)/\
   (∀s',(∀b∈rd,look b s'.st=look b s.st)->∀(R':Type) (k:AV->List Nat->Option R'),Zp c s' t x i k=k v rd):=by
 unfold Zp at h
 split at h
 case h_2=>cases h
 rename_i i0 ti hi ht
 have hT:=Bs hC ht
 split at h
 case h_2=>cases h
 rename_i te hte
 have hTe:=Bs hC hte
 split at h
 ·rename_i b
  split at h
  case h_2=>cases h
  rename_i K l hrow
  obtain⟨h1,h⟩:=Ao h
  obtain⟨h2,h⟩:=Ao h
  simp only[z9] at h1
  obtain⟨j0,j1,j2⟩:=Ou h2
  refine⟨_,_,h, ?_, ?_⟩
  ·intro E X xv iv hs hR hx hiv
   subst hs
   obtain⟨k,rfl⟩:=E6 hiv hi
   obtain⟨ro,ver,K',l',hl,e⟩:=Cc hrow
   cases e
   obtain⟨A,cc,fp,q1,q2,q3,q4⟩:=Ch hR hl
   cases hx with
   | sl hc=>
    rw[q1] at hc
    cases hc
    rcases W3 q2 with⟨z1,_⟩|⟨g,og,rfl⟩
    ·omega
    refine⟨_,F0 (hT.slice h1.1) hTe.size j0 j1, ?_⟩
    rw[Cy]
    refine .pbAt q1 rfl (by simp[PIn,CB.rowN];exact j2) (.inr (by simp)) ?_
    simp only[Bf,z8 h1.2]
    omega
  ·intro s' hs R' k
   simp only[Zp,hi,ht,hte,Cf (hs b (by simp)),hrow,h1.1,h1.2,h2,zR,A3]
 ·rename_i b o n
  split at h
  case h_2=>cases h
  rename_i K l hrow
  obtain⟨h1,h⟩:=Ao h
  obtain⟨h2,h⟩:=Ao h
  simp only[z9] at h1
  obtain⟨j0,j1,j2⟩:=Ou h2
  refine⟨_,_,h, ?_, ?_⟩
  ·intro E X xv iv hs hR hx hiv
   subst hs
   obtain⟨k,rfl⟩:=E6 hiv hi
   obtain⟨ro,ver,K',l',hl,e⟩:=Cc hrow
   cases e
   obtain⟨A,cc,fp,q1,q2,q3,q4⟩:=Ch hR hl
   cases hx with
   | ss0=>omega
   | ss hc u1 u2 u3=>
    rw[q1] at hc
    cases hc
    refine⟨_,F0 (hT.slice h1.1) hTe.size j0 j1, ?_⟩
    rw[Cy]
    refine .pbAt q1 rfl (by simp[PIn,CB.rowN];omega) (.inr (by simp)) ?_
    simp only[Bf,z8 h1.2,yL]
    omega
  ·intro s' hs R' k
   simp only[Zp,hi,ht,hte,Cf (hs b (by simp)),hrow,h1.1,h1.2,h2,zR,A3]
 ·rename_i p K l
  obtain⟨h1,h⟩:=Ao h
  obtain⟨h2,h⟩:=Ao h
  simp only[z9] at h1
  obtain⟨j0,j1,j2⟩:=Ou h2
  refine⟨_,_,h, ?_, ?_⟩
  ·intro E X xv iv hs hR hx hiv
   subst hs
   obtain⟨k,rfl⟩:=E6 hiv hi
   cases hx with
   | @ro _ _ _ A cc u1 u2 u3 u4=>
    rcases u2 with u2|⟨g,og,rfl⟩
    ·omega
    refine⟨_,F0 (hT.slice h1.1) hTe.size j0 j1, ?_⟩
    rw[Cy]
    have:=VRel.po (X:=X) (q:=p) (K:=K) (l:=l) (p:=[(K.size,0,i0.toNat,0)]) (g:=g) (og:=og) (by simp) (by simp[PIn];exact j2) u3 λ hv=>by
     obtain⟨A',c',e,hc,hA⟩:=u4 hv
     cases e
     rcases hA with hA|⟨g',o',cur,ty,fr,e1,e2,e3,e4,e5⟩
     ·omega
     ·cases e1;exact⟨cur,ty,fr,e2,e3,e4,e5⟩
    simp only[Bf] at this
    rwa[<-z8 h1.2,show og+i0.toNat*K.size=og+(i0.toNat*K.size+0+0) by omega]
  ·intro s' hs R' k
   simp only[Zp,hi,ht,hte,h1.1,h1.2,h2,zR,A3]
 ·rename_i b v j f K l
  obtain⟨h1,h⟩:=Ao h
  obtain⟨h2,h⟩:=Ao h
  simp only[z9] at h1
  obtain⟨j0,j1,j2⟩:=Ou h2
  refine⟨_,_,h, ?_, ?_⟩
  ·intro E X xv iv hs hR hx hiv
   subst hs
   obtain⟨k,rfl⟩:=E6 hiv hi
   cases hx with
   | @vw _ _ _ _ _ _ A cc u1 u2 u3 u4=>
    rcases u2 with u2|⟨g,og,rfl⟩
    ·omega
    refine⟨_,F0 (hT.slice h1.1) hTe.size j0 j1, ?_⟩
    rw[Cy]
    have:=VRel.pn (X:=X) (b:=b) (v0:=v) (i:=j) (f:=f) (K:=K) (l:=l) (p:=[(K.size,0,i0.toNat,0)]) (g:=g) (og:=og) (by simp) (by simp[PIn];exact j2) u3 λ hv=>⟨_,_,u4 hv⟩
    simp only[Bf] at this
    rwa[<-z8 h1.2,show og+i0.toNat*K.size=og+(i0.toNat*K.size+0+0) by omega]
  ·intro s' hs R' k
   simp only[Zp,hi,ht,hte,h1.1,h1.2,h2,zR,A3]
 ·rename_i x0 n1 n2 n3 n4
  obtain⟨h1,h⟩:=Ao h
  obtain⟨h3,h⟩:=Ao h
  obtain⟨h2,h⟩:=Ao h
  obtain⟨j0,j1,j2⟩:=Ou h2
  split at h
  case h_2=>cases h
  rename_i a' ha'
  refine⟨_,_,h, ?_, ?_⟩
  ·intro E X xv iv hs hR hx hiv
   subst hs
   obtain⟨k,rfl⟩:=E6 hiv hi
   obtain⟨g,y,rfl,hv⟩:=Ajr hx j2 ha'
   refine⟨_,Ts (hT.array (z8 h1)) hTe.size j0 j1, ?_⟩
   rw[Cy]
   exact hv
  ·intro s' hs R' k
   unfold Zp
   simp only[hi,ht,hte]
   cases x<;>first
    | exact(n1 _ rfl).elim
    | exact(n2 _ _ _ rfl).elim
    | exact(n3 _ _ _ rfl).elim
    | exact(n4 _ _ _ _ _ _ rfl).elim
    | simp only[h1,h3,h2,A3,ha']
theorem Zr{c:Cfg}(hC:Bk P c=true){s:St}{o:Oper}{nb:Nat}{cont:Cm R}{r:R}{x i:Operand}(hop:o.op=.indexAddr t x i)(h:Au c s o nb cont=some r):
  Res P c s o nb cont r λ s' k=>Au c s' o nb k:=by
 simp only[Au,hop] at h
 obtain⟨v,rd,h1,h2,h3⟩:=Aew hC h
 refine⟨v,[],rd,h1,B5 ?_, ?_,trivial⟩
 ·intro E X ac hs hR hT
  obtain⟨val,e1,e2⟩:=h2 E X _ _ hs hR (hs▸Bh hT x) (hs▸Bh hT i)
  exact⟨val,by simp only[execOp,hop,Sem.run_bind,e1,Result.andThen_ok,Sem.run_pure],e2⟩
 ·intro s' ha R' k
  simp only[Au,hop]
  rw[ha.ev x (by simp[hop,Op.operands]),ha.ev i (by simp[hop,Op.operands])]
  exact h3 s' ha.rd R' _
end Go.Ev
namespace Go.Ev
variable{R:Type}{E:Env}{X:Cx}{P:Program}{t:Nat}{ti:TyI}{w:World}
theorem Aj7{t:List UInt8}{k:Nat}(h:k<t.length):(⟨⟨t⟩⟩:ByteArray)[k]?=some (t.getD k 0):=by
 have h1:k<(⟨⟨t⟩⟩:ByteArray).size:=h
 rw[getElem?_pos (⟨⟨t⟩⟩:ByteArray) k h1]
 congr 1
 show t[k]=_
 simp[List.getD_eq_getElem?_getD,h]
theorem Amo{c:Cfg}(hC:Bk P c=true){s:St}{o:Oper}{nb:Nat}{cont:Cm R}{r:R}{x i:Operand}(hop:o.op=.index t x i)(h:Au c s o nb cont=some r):
  Res P c s o nb cont r λ s' k=>Au c s' o nb k:=by
 simp only[Au,hop] at h
 cases h1:tyI c t with
 | none=>rw[h1] at h;cases h
 | some ti=>
  rw[h1] at h
  simp only at h
  have hT:=Bs hC h1
  split at h
  ·rename_i str i0 hx hi
   obtain⟨k1,h⟩:=Ao h
   obtain⟨k2,h⟩:=Ao h
   obtain⟨j0,j1,j2⟩:=Ou k2
   refine⟨_,[],[],h,B5 ?_, ?_,trivial⟩
   ·intro E X ac hs hR hT'
    subst hs
    have hxv:=Bh hT' x
    rw[hx] at hxv
    obtain⟨k,hk⟩:=E6 (Bh hT' i) hi
    cases hv:ac.eval x<;>rw[hv] at hxv<;>cases hxv
    refine⟨_, ?_,.int _ _⟩
    simp only[execOp,hop,hv,hk,Instr.index,asIntOf,Sem.run_bind,Sem.run_pure,Result.andThen_ok,Ay (hT.string k1),if_pos j0,Aj7 j2,Aq]
   ·intro s' ha R' k
    simp only[Au,hop,h1]
    rw[ha.ev x (by simp[hop,Op.operands]),ha.ev i (by simp[hop,Op.operands]),hx,hi]
    simp only[k1,k2,A3]
  ·rename_i n K l i0 hx hi
   split at h
   ·rename_i te a hte hpt
    obtain⟨k1,h⟩:=Ao h
    obtain⟨k2,h⟩:=Ao h
    obtain⟨j0,j1,j2⟩:=Ou k2
    have k1':=k1
    simp only[z9] at k1'
    obtain⟨⟨⟨⟨⟨q1,q2⟩,q3⟩,q4⟩,q5⟩,q6⟩:=k1'
    refine⟨_,[],[],h,B5 ?_, ?_,trivial⟩
    ·intro E X ac hs hR hT'
     subst hs
     have hxv:=Bh hT' x
     rw[hx] at hxv
     obtain⟨k,hk⟩:=E6 (Bh hT' i) hi
     cases hv:ac.eval x<;>rw[hv] at hxv<;>cases hxv
     rename_i cs hrow hl
     have hi':i0.toNat<l.length:=by omega
     obtain⟨c1,c2,c3,f1,f2,f3,e1,e2,e3,e4,_⟩:=Ic (λ x c f hx=>B0 hx) i0.toNat hi' hrow
     have hp:=Dw (X:=X) e4
     rw[Ki.get_eq hi'] at hpt
     rw[hpt] at hp
     have hTe:=Bs hC hte
     cases hp with
     | @one _ u _ cs' _ p1 p2 p3 p4=>
      cases p4
      refine⟨u, ?_,p3⟩
      have hu:cs.toArray[i0.toNat]?=some u:=by
       rw[z8 q1] at e3
       simp only[List.getElem?_toArray]
       rw[e1,show i0.toNat=c1.length by omega]
       simp
      simp only[execOp,hop,hv,hk,Instr.index,asIntOf,Sem.run_bind,Sem.run_pure,Result.andThen_ok,Ay (hT.array (z8 q4)),
       show(0<=i0/\i0<(ti.alen:Int))=True by rw[z8 q5];simp[j0,j1],if_true,hTe.size,part,hTe.agg,z8 q3,z8 q2]
      simp[hu]
     | arr=>simp[AV.plain] at q6
     | nl=>simp[AV.plain] at q6
     | rw=>simp[AV.plain] at q6
    ·intro s' ha R' k
     simp only[Au,hop,h1]
     rw[ha.ev x (by simp[hop,Op.operands]),ha.ev i (by simp[hop,Op.operands]),hx,hi]
     simp only[hte,hpt,k1,k2,A3]
   ·cases h
  ·cases h
def Y6(X:Cx):Option AV->Option Value->Prop
 | none,none=>True
 | some a,some v=>VRel X a v
 | _,_=>False
theorem Ir{v:Value}{k:IntKind}{i:Int}{y:Nat}{code:BoundsCode}(hv:v=.int k i)(h0:0<=i)(h1:i<=(y:Int)):(Instr.sliceBound v y code).run P w=.ok i.toNat w:=by
 subst hv
 simp[Instr.sliceBound,asIntOf,h0,h1]
theorem F7{lo hi:Option AV}{len:Nat}{mk:Nat->Nat->AV}{rd:List Nat}{cont:AV->List Nat->Option R}{r:R}(h:Fg lo hi len mk rd cont=some r):
  ∃l h',l<=h'/\h'<=len/\cont (mk l h') rd=some r/\
   (∀X w b cap lv hv,Y6 X lo lv->Y6 X hi hv->len<=cap->(Instr.sliceBounds b len cap lv hv none).run P w=.ok (l,h',cap) w)/\
   ∀(R':Type) (mk':Nat->Nat->AV) (rd':List Nat) (k:AV->List Nat->Option R'),Fg lo hi len mk' rd' k=k (mk' l h') rd':=by
 unfold Fg at h
 split at h
 ·refine⟨0,len,by omega,by omega,h, ?_,λ _ _ _ _=>rfl⟩
  intro X w b cap lv hv h1 h2 hc
  cases lv<;>cases hv<;>simp only[Y6] at h1 h2
  simp[Instr.sliceBounds]
 ·rename_i a
  split at h
  case h_2=>cases h
  rename_i i hi
  obtain⟨k1,h⟩:=Ao h
  have k1':=k1
  simp only[z9,decide_eq_true_eq] at k1'
  refine⟨i.toNat,len,by omega,by omega,h, ?_,λ _ _ _ _=>by simp only[Fg,hi,k1,A3]⟩
  intro X w b cap lv hv h1 h2 hc
  cases lv<;>cases hv<;>simp only[Y6] at h1 h2
  obtain⟨k,hk⟩:=E6 h1 hi
  simp[Instr.sliceBounds,Ir (P:=P) (w:=w) (code:=.sliceB) hk k1'.1 k1'.2]
 ·rename_i a
  split at h
  case h_2=>cases h
  rename_i i hi
  obtain⟨k1,h⟩:=Ao h
  have k1':=k1
  simp only[z9,decide_eq_true_eq] at k1'
  refine⟨0,i.toNat,by omega,by omega,h, ?_,λ _ _ _ _=>by simp only[Fg,hi,k1,A3]⟩
  intro X w b cap lv hv h1 h2 hc
  cases lv<;>cases hv<;>simp only[Y6] at h1 h2
  obtain⟨k,hk⟩:=E6 h2 hi
  cases b<;>simp[Instr.sliceBounds,Ir (P:=P) (w:=w) (y:=cap) (code:=.sliceAcap) hk k1'.1 (by omega),Ir (P:=P) (w:=w) (y:=cap) (code:=.sliceAlen) hk k1'.1 (by omega)]
 ·rename_i a a'
  split at h
  case h_2=>cases h
  rename_i i j hi hj
  obtain⟨k1,h⟩:=Ao h
  obtain⟨k2,h⟩:=Ao h
  have k1':=k1
  have k2':=k2
  simp only[z9,decide_eq_true_eq] at k1' k2'
  refine⟨i.toNat,j.toNat,by omega,by omega,h, ?_,λ _ _ _ _=>by simp only[Fg,hi,hj,k1,k2,A3]⟩
  intro X w b cap lv hv h1 h2 hc
  cases lv<;>cases hv<;>simp only[Y6] at h1 h2
  obtain⟨k,hk⟩:=E6 h1 hi
  obtain⟨k',hk'⟩:=E6 h2 hj
  have hb:∀code,(Instr.sliceBound _ j.toNat code).run P w=.ok i.toNat w:=λ code=>Ir (P:=P) (w:=w) (y:=j.toNat) (code:=code) hk k2'.1 (by omega)
  cases b<;>simp[Instr.sliceBounds,Ir (P:=P) (w:=w) (y:=cap) (code:=.sliceAcap) hk' k1'.1 (by omega),Ir (P:=P) (w:=w) (y:=cap) (code:=.sliceAlen) hk' k1'.1 (by omega),hb]
theorem G7{e:TypeId}{sz:Nat}(hu:P.underlying t=some (.slice e))(hs:(sizeOf e).run P w=.ok sz w){A:Option Addr}{n c l h:Nat}{lv hv:Option Value}
  (hb:(Instr.sliceBounds true n c lv hv none).run P w=.ok (l,h,c) w):(Instr.sliceAt t (.slice A n c) lv hv none).run P w=.ok (.slice (if c=l then A else A.map (·.add (l*sz))) (h-l) (c-l)) w:=by
 simp[Instr.sliceAt,Instr.slice,Ay hu,hb,hs]
theorem Aaw{w:World}{S Z:Nat->Prop}{K:Ki}{l:List K.den}{A:Option Addr}{c lo hi:Nat}(h:RoS w S K.size l.length (λ cs=>Cw (Rep w S Z K false) l cs []) (.slice A l.length c))(h1:lo<=hi)(h2:hi<=l.length):
  RoS w S K.size (hi-lo) (λ cs=>Cw (Rep w S Z K false) ((l.take hi).drop lo) cs []) (.slice (if c=lo then A else A.map (·.add (lo*K.size))) (hi-lo) (c-lo)):=by
 obtain⟨A',c',e,hc,h⟩:=h
 cases e
 refine⟨_,_,rfl,by omega, ?_⟩
 by_cases hz:hi-lo=0
 ·exact .inl hz
 rcases h with h|⟨g,o,cur,ty,fr,q1,q2,q3,q4,q5⟩
 ·omega
 subst q1
 rw[if_neg (by omega)]
 have hm:(hi-lo)*K.size+lo*K.size<=l.length*K.size:=by rw[<-yL];exact zH _ (by omega)
 refine .inr ⟨g,o+lo*K.size,cur,ty,fr,by simp[Cy],q2,q3,by omega, ?_⟩
 have hl:=Iu (λ x c f hx=>B0 hx) q5
 obtain⟨f1,f2,e1,r1,r2⟩:=E0 (λ x c f hx=>B0 hx) hi q5
 obtain⟨f3,f4,e2,r3,r4⟩:=E0 (λ x c f hx=>B0 hx) lo r1
 have e3:f1=[]:=(List.append_eq_nil_iff.1 e1.symm).1
 rw[e3] at e2
 have e4:f4=[]:=(List.append_eq_nil_iff.1 e2.symm).2
 rw[e4] at r4
 have:seg cur.toList (o+lo*K.size) ((hi-lo)*K.size)=((seg cur.toList o (l.length*K.size)).take (hi*K.size)).drop (lo*K.size):=by
  simp only[seg,yN,zZ,yM]
  congr 1
  have:hi*K.size<=l.length*K.size:=zH _ h2
  rw[yF this,Nat.sub_mul]
 rw[this]
 exact r4
theorem Yl(l:List UInt8)(lo hi:Nat):(⟨⟨l⟩⟩:ByteArray).extract lo hi=⟨⟨(l.take hi).drop lo⟩⟩:=by
 have:((⟨⟨l⟩⟩:ByteArray).extract lo hi).data=(⟨(l.take hi).drop lo⟩:Array UInt8):=by
  rw[ByteArray.data_extract]
  apply yC
  simp[zZ]
 cases h:(⟨⟨l⟩⟩:ByteArray).extract lo hi
 rw[h] at this
 simp only at this
 rw[this]
end Go.Ev
namespace Go.Ev
variable{R:Type}{E:Env}{X:Cx}{P:Program}{t:Nat}{ti:TyI}{w:World}
theorem Aja{c:Cfg}(hC:Bk P c=true){s:St}{x:AV}{lo hi:Option AV}{cont:AV->List Nat->Option R}{r:R}(h:I1 c s t x lo hi cont=some r):
  ∃v rd,cont v rd=some r/\
   (∀E X xv lv hv,X.s=s->Rel E X->VRel X x xv->Y6 X lo lv->Y6 X hi hv->∃val,(Instr.sliceAt t xv lv hv none).run P X.w=.ok val X.w/\VRel X v val)/\
   (∀s',(∀b∈rd,look b s'.st=look b s.st)->∀(R':Type) (k:AV->List Nat->Option R'),I1 c s' t x lo hi k=k v rd):=by
 unfold I1 at h
 cases ht:tyI c t with
 | none=>rw[ht] at h;cases h
 | some ti=>
  rw[ht] at h
  simp only at h
  have hT:=Bs hC ht
  split at h
  ·rename_i str
   obtain⟨k1,h⟩:=Ao h
   obtain⟨l,h',q1,q2,q3,q4,q5⟩:=F7 (P:=P) h
   refine⟨_,_,q3, ?_, ?_⟩
   ·intro E X xv lv hv hs hR hx hlo hhi
    cases hx
    refine⟨_, ?_,.str _⟩
    have:=q4 X X.w false str.length lv hv hlo hhi (zF _)
    have hsz:(⟨⟨str⟩⟩:ByteArray).size=str.length:=rfl
    simp only[Instr.sliceAt,Instr.slice,Sem.run_bind,Ay (hT.string k1),Result.andThen_ok,yS,zK,if_false,Sem.run_pure,hsz,this,Yl]
   ·intro s' hs R' k
    simp only[I1,ht,k1,A3,q5]
  ·rename_i x0 hnstr
   cases hte:tyI c ti.elem with
   | none=>rw[hte] at h;cases h
   | some te=>
    rw[hte] at h
    simp only at h
    have hTe:=Bs hC hte
    split at h
    ·obtain⟨k1,h⟩:=Ao h
     obtain⟨l,h',q1,q2,q3,q4,q5⟩:=F7 (P:=P) h
     refine⟨_,_,q3, ?_, ?_⟩
     ·intro E X xv lv hv hs hR hx hlo hhi
      cases hx
      have h0:h'=0:=by omega
      have h1:l=0:=by omega
      subst h0 h1
      exact⟨_,G7 (hT.slice k1) hTe.size (q4 X X.w true 0 lv hv hlo hhi (zF _)),by simpa using VRel.nils⟩
     ·intro s' hs R' k
      simp only[I1,ht,hte,k1,A3,q5]
    ·rename_i K
     obtain⟨k1,h⟩:=Ao h
     obtain⟨l,h',q1,q2,q3,q4,q5⟩:=F7 (P:=P) h
     refine⟨_,_,q3, ?_, ?_⟩
     ·intro E X xv lv hv hs hR hx hlo hhi
      cases hx
      have h0:h'=0:=by omega
      have h1:l=0:=by omega
      subst h0 h1
      exact⟨_,G7 (hT.slice k1) hTe.size (q4 X X.w true 0 lv hv hlo hhi (zF _)),by simpa using VRel.nz K⟩
     ·intro s' hs R' k
      simp only[I1,ht,hte,k1,A3,q5]
    ·rename_i b
     split at h
     case h_2=>cases h
     rename_i K l0 hrow
     obtain⟨k1,h⟩:=Ao h
     obtain⟨l,h',q1,q2,q3,q4,q5⟩:=F7 (P:=P) h
     have k1':=k1
     simp only[z9] at k1'
     refine⟨_,_,q3, ?_, ?_⟩
     ·intro E X xv lv hv hs hR hx hlo hhi
      subst hs
      obtain⟨ro,ver,K',l',hl,e⟩:=Cc hrow
      cases e
      obtain⟨A,cc,fp,u1,u2,u3,u4⟩:=Ch hR hl
      cases hx with
      | sl hc=>
       rw[u1] at hc
       cases hc
       have hcap:l0.length<=cc:=by
        obtain⟨A',c',e,hA⟩:=u2
        cases e
        rcases hA with⟨h1,h2,_⟩|⟨_,_,_,_,_,_,h3,_⟩<;>omega
       refine⟨_,G7 (hT.slice k1'.1) hTe.size (q4 X X.w true cc lv hv hlo hhi hcap), ?_⟩
       by_cases hz:cc=l
       ·rw[if_pos hz,show h'-l=0 by omega,show cc-l=0 by omega]
        exact .ss0 u1 (by omega)
       ·rw[if_neg hz]
        rcases W3 u2 with⟨z1,z2⟩|⟨g,og,rfl⟩
        ·omega
        simp only[zP,Cy]
        rw[<-z8 k1'.2]
        exact .ss u1 (by omega) (by omega) (by omega)
     ·intro s' hs R' k
      simp only[I1,ht,hte,Cf (hs b (by simp)),hrow,k1,A3,q5]
    ·rename_i b o n
     split at h
     case h_2=>cases h
     rename_i K l0 hrow
     obtain⟨k1,h⟩:=Ao h
     obtain⟨l,h',q1,q2,q3,q4,q5⟩:=F7 (P:=P) h
     have k1':=k1
     simp only[z9] at k1'
     refine⟨_,_,q3, ?_, ?_⟩
     ·intro E X xv lv hv hs hR hx hlo hhi
      subst hs
      obtain⟨ro,ver,K',l',hl,e⟩:=Cc hrow
      cases e
      obtain⟨A,cc,fp,u1,u2,u3,u4⟩:=Ch hR hl
      cases hx with
      | ss0 hc ho=>
       have h0:h'=0:=by omega
       have h1:l=0:=by omega
       subst h0 h1
       refine⟨_,G7 (hT.slice k1'.1) hTe.size (q4 X X.w true 0 lv hv hlo hhi (zF _)), ?_⟩
       simpa using VRel.ss0 hc ho
      | @ss _ _ _ g og n' c0 c' sz fp' hc v1 v2 v3=>
       rw[u1] at hc
       cases hc
       refine⟨_,G7 (hT.slice k1'.1) hTe.size (q4 X X.w true c' lv hv hlo hhi v2), ?_⟩
       by_cases hz:c'=l
       ·rw[if_pos hz,show h'-l=0 by omega,show c'-l=0 by omega]
        exact .ss0 u1 (by omega)
       ·rw[if_neg hz]
        simp only[zP,Cy]
        rw[<-z8 k1'.2]
        have:=VRel.ss (X:=X) (b:=b) (o:=o+l) (m:=h'-l) (c':=c'-l) u1 (by omega) (by omega) (by omega)
        rwa[show og+(o+l)*K.size=og+o*K.size+l*K.size by rw[yL];omega] at this
     ·intro s' hs R' k
      simp only[I1,ht,hte,Cf (hs b (by simp)),hrow,k1,A3,q5]
    ·rename_i p K l0
     obtain⟨k1,h⟩:=Ao h
     obtain⟨l,h',q1,q2,q3,q4,q5⟩:=F7 (P:=P) h
     have k1':=k1
     simp only[z9] at k1'
     refine⟨_,_,q3, ?_, ?_⟩
     ·intro E X xv lv hv hs hR hx hlo hhi
      cases hx with
      | @ro _ _ _ A cc u1 u2 u3 u4=>
       refine⟨_,G7 (hT.slice k1'.1) hTe.size (q4 X X.w true cc lv hv hlo hhi u1), ?_⟩
       rw[<-z8 k1'.2]
       have hlen:((l0.take h').drop l).length=h'-l:=by simp;omega
       have:=VRel.ro (X:=X) (q:=p) (K:=K) (l:=(l0.take h').drop l) (A:=if cc=l then A else A.map (·.add (l*K.size))) (c:=cc-l) (by omega)
        (by
         by_cases hz:h'-l=0
         ·exact .inl (by omega)
         ·rcases u2 with u2|⟨g,og,rfl⟩
          ·omega
          ·right;rw[if_neg (by omega)];exact⟨g,og+l*K.size,by simp[Cy]⟩) u3 (λ hv=>by rw[hlen];exact Aaw (u4 hv) q1 q2)
       rwa[hlen] at this
     ·intro s' hs R' k
      simp only[I1,ht,hte,k1,A3,q5]
    ·rename_i b v i0 f K l0
     obtain⟨k1,h⟩:=Ao h
     obtain⟨l,h',q1,q2,q3,q4,q5⟩:=F7 (P:=P) h
     have k1':=k1
     simp only[z9] at k1'
     refine⟨_,_,q3, ?_, ?_⟩
     ·intro E X xv lv hv hs hR hx hlo hhi
      cases hx with
      | @vw _ _ _ _ _ _ A cc u1 u2 u3 u4=>
       refine⟨_,G7 (hT.slice k1'.1) hTe.size (q4 X X.w true cc lv hv hlo hhi u1), ?_⟩
       rw[<-z8 k1'.2]
       have hlen:((l0.take h').drop l).length=h'-l:=by simp;omega
       have:=VRel.ro (X:=X) (q:=.ver b v) (K:=K) (l:=(l0.take h').drop l) (A:=if cc=l then A else A.map (·.add (l*K.size))) (c:=cc-l) (by omega)
        (by
         by_cases hz:h'-l=0
         ·exact .inl (by omega)
         ·rcases u2 with u2|⟨g,og,rfl⟩
          ·omega
          ·right;rw[if_neg (by omega)];exact⟨g,og+l*K.size,by simp[Cy]⟩) u3 (λ hv=>by
         rw[hlen]
         obtain⟨cb,f',hc,how,hfp⟩:=Y2 hR (u4 hv)
         obtain⟨_,_,hro⟩:=how.ro (S:=X.Sof (.ver b v)) rfl (λ g hg=>Ahh hc (hfp g hg))
         exact Aaw hro q1 q2)
       rwa[hlen] at this
     ·intro s' hs R' k
      simp only[I1,ht,hte,k1,A3,q5]
    ·cases h
theorem Afr{c:Cfg}(hC:Bk P c=true){s:St}{o:Oper}{nb:Nat}{cont:Cm R}{r:R}{x:Operand}{lo hi:Option Operand}(hop:o.op=.slice t x lo hi none)(h:Au c s o nb cont=some r):
  Res P c s o nb cont r λ s' k=>Au c s' o nb k:=by
 simp only[Au,hop] at h
 obtain⟨v,rd,h1,h2,h3⟩:=Aja hC h
 have oev:∀{X:Cx} {ac:Act} (_:Jo X ac) (y:Option Operand),Y6 X (y.map (ev X.s)) (y.map ac.eval):=by
  intro X ac hT y
  cases y
  ·trivial
  ·exact Bh hT _
 refine⟨v,[],rd,h1,B5 ?_, ?_,trivial⟩
 ·intro E X ac hs hR hT
  obtain⟨val,e1,e2⟩:=h2 E X _ _ _ hs hR (hs▸Bh hT x) (hs▸oev hT lo) (hs▸oev hT hi)
  exact⟨val,by simp only[execOp,hop,Sem.run_bind,Option.map_none,e1,Result.andThen_ok,Sem.run_pure],e2⟩
 ·intro s' ha R' k
  simp only[Au,hop]
  have hl:lo.map (ev s')=lo.map (ev s):=by cases lo<;>simp;exact ha.ev _ (by simp[hop,Op.operands])
  have hh:hi.map (ev s')=hi.map (ev s):=by cases hi<;>simp;exact ha.ev _ (by simp[hop,Op.operands])
  rw[ha.ev x (by simp[hop,Op.operands]),hl,hh]
  exact h3 s' ha.rd R' _
end Go.Ev
namespace Go.Ev
variable{R:Type}{E:Env}{X:Cx}{P:Program}{t:Nat}{ti:TyI}{w:World}
theorem Wf{c:Cfg}{t:Nat}{a:AV}{v:Value}(h:VRel X a v):VRel X (J9 c t a) v:=by
 unfold J9
 split
 ·cases h
  split
  ·split
   ·split
    ·exact .nz _
    ·exact .nils
   ·exact .nils
  ·exact .nils
 ·generalize hvv:v=vv at h
  cases h
  split
  ·split
   ·exact .tr (by simp) rfl
   ·exact .nili
  ·exact .nili
 ·exact h
theorem Agz{c:Cfg}{s:St}{o:Oper}{nb:Nat}{cont:Cm R}{r:R}{x:Operand}(hop:o.op=.move x\/o.op=.assign x)(h:Au c s o nb cont=some r):
  Res P c s o nb cont r λ s' k=>Au c s' o nb k:=by
 have hE:∀(R':Type) (s':St) (k:Cm R'),Au c s' o nb k=k (J9 c o.type (ev s' x)) [] []:=by
  intro R' s' k
  rcases hop with hop|hop<;>simp only[Au,hop]
 rw[hE] at h
 refine⟨_,[],[],h,B5 ?_, ?_,trivial⟩
 ·intro E X ac hs hR hT
  refine⟨ac.eval x, ?_,Wf (hs▸Bh hT x)⟩
  rcases hop with hop|hop<;>simp only[execOp,hop,Sem.run_pure]
 ·intro s' ha R' k
  rw[hE,ha.ev x (by rcases hop with hop|hop<;>simp[hop,Op.operands])]
theorem Acg{c:Cfg}{s:St}{o:Oper}{nb:Nat}{cont:Cm R}{r:R}{f:Nat}{fs caps:Array Operand}(hop:o.op=.makeFunc (.func f) fs caps)(h:Au c s o nb cont=some r):
  Res P c s o nb cont r λ s' k=>Au c s' o nb k:=by
 simp only[Au,hop] at h
 cases hb:zA fs.size 0<;>rw[hb] at h<;>simp only[cond_true,cond_false] at h
 ·cases h
 have hfs:fs= #[]:=by have:=z8 hb;simpa using this
 refine⟨_,[],[],h,B5 ?_, ?_,trivial⟩
 ·intro E X ac hs hR hT
  refine⟨.func (.func f) #[] (caps.map ac.eval),by simp[execOp,hop,Instr.makeFunc,hfs], ?_⟩
  have:∀l:List Operand,B6 X (l.map (ev s)) (l.map ac.eval):=by
   intro l
   induction l with
   | nil=>exact .nil
   | cons y l ih=>exact .cons (hs▸Bh hT y) ih
  have:=VRel.fn (f:=f) (this caps.toList)
  rwa[show(caps.toList.map ac.eval).toArray=caps.map ac.eval from by simp[<-yE]] at this
 ·intro s' ha R' k
  simp only[Au,hop,hb,cond_true]
  have:caps.toList.map (ev s')=caps.toList.map (ev s):=yQ λ y hy=>ha.ev y (by simp[hop,Op.operands];exact .inr (Array.mem_toList_iff.1 hy))
  rw[this]
theorem Rg{α:Type}{a:Array α}{x:α}(h:a.toList=[x]):a= #[x]:=by cases a;simp_all
theorem Mq{α:Type}{a:Array α}{x y:α}(h:a.toList=[x,y]):a= #[x,y]:=by cases a;simp_all
theorem Od{o:Oper}{cl:Call}{b:Builtin}(hop:o.op=.call cl)(hb:cl.callee=.builtin b)(ac:Act):
    execOp ac.eval o=builtin b cl.argTypes o.type (cl.args.map λ|.const _=>true|_=>false) (cl.args.map ac.eval):=by
  simp only[execOp,hop,resolve,hb]
  rfl
theorem Ari{c:Cfg}(hC:Bk P c=true){s:St}{a:AV}{n:Nat}{rd:List Nat}(h:Na s c t a=some (n,rd)):
  (∀E X av ty,X.s=s->Rel E X->VRel X a av->(Builtin.len_ #[t] ty #[av]).run P X.w=.ok (.int .i64 n) X.w)/\
  (∀s',(∀b∈rd,look b s'.st=look b s.st)->Na s' c t a=some (n,rd)):=by
 unfold Na at h
 cases ht:tyI c t with
 | none=>rw[ht] at h;cases h
 | some ti=>
  rw[ht] at h
  simp only at h
  have hT:=Bs hC ht
  have pure_:∀{b:Bool} {x:Nat×List Nat},(bif b then some x else none)=some (n,rd)->b=true/\x=(n,rd):=by
   intro b x h
   cases b
   ·cases h
   ·exact⟨rfl,yH h⟩
  cases a<;>simp only at h<;>(try cases h)
  ·rename_i str
   obtain⟨h1,h2⟩:=pure_ h
   cases h2
   refine⟨λ E X av ty hs hR hv=> ?_,λ s' _=>by simp only[Na,ht,h1,cond_true]⟩
   cases hv
   simp[Builtin.len_,Ay (hT.string h1),goInt]
   rfl
  ·obtain⟨h1,h2⟩:=pure_ h
   cases h2
   refine⟨λ E X av ty hs hR hv=> ?_,λ s' _=>by simp only[Na,ht,h1,cond_true]⟩
   cases hv
   simp[Builtin.len_,Ay (hT.slice h1),goInt]
  ·obtain⟨h1,h2⟩:=pure_ h
   cases h2
   refine⟨λ E X av ty hs hR hv=> ?_,λ s' _=>by simp only[Na,ht,h1,cond_true]⟩
   cases hv
   simp[Builtin.len_,Ay (hT.slice h1),goInt]
  ·rename_i b
   split at h
   case h_2=>cases h
   rename_i K l hrow
   obtain⟨h1,h2⟩:=pure_ h
   cases h2
   refine⟨λ E X av ty hs hR hv=> ?_,λ s' hs=>by simp only[Na,ht,Cf (hs b (by simp)),hrow,h1,cond_true]⟩
   subst hs
   obtain⟨ro,ver,K',l',hl,e⟩:=Cc hrow
   cases e
   obtain⟨A,cc,fp,u1,u2,u3,u4⟩:=Ch hR hl
   cases hv with
   | sl hc=>
    rw[u1] at hc
    cases hc
    simp[Builtin.len_,Ay (hT.slice h1),goInt]
  ·obtain⟨h1,h2⟩:=pure_ h
   cases h2
   refine⟨λ E X av ty hs hR hv=> ?_,λ s' _=>by simp only[Na,ht,h1,cond_true]⟩
   cases hv<;>simp[Builtin.len_,Ay (hT.slice h1),goInt]
  ·obtain⟨h1,h2⟩:=pure_ h
   cases h2
   refine⟨λ E X av ty hs hR hv=> ?_,λ s' _=>by simp only[Na,ht,h1,cond_true]⟩
   cases hv<;>simp[Builtin.len_,Ay (hT.slice h1),goInt]
  ·obtain⟨h1,h2⟩:=pure_ h
   cases h2
   refine⟨λ E X av ty hs hR hv=> ?_,λ s' _=>by simp only[Na,ht,h1,cond_true]⟩
   cases hv<;>simp[Builtin.len_,Ay (hT.slice h1),goInt]
  ·obtain⟨h1,h2⟩:=pure_ h
   cases h2
   refine⟨λ E X av ty hs hR hv=> ?_,λ s' _=>by simp only[Na,ht,h1,cond_true]⟩
   simp[Builtin.len_,Ay (hT.array (z8 h1)),goInt]
  ·obtain⟨h1,h2⟩:=pure_ h
   cases h2
   refine⟨λ E X av ty hs hR hv=> ?_,λ s' _=>by simp only[Na,ht,h1,cond_true]⟩
   simp[Builtin.len_,Ay (hT.array (z8 h1)),goInt]
  ·obtain⟨h1,h2⟩:=pure_ h
   cases h2
   refine⟨λ E X av ty hs hR hv=> ?_,λ s' _=>by simp only[Na,ht,h1,cond_true]⟩
   simp[Builtin.len_,Ay (hT.array (z8 h1)),goInt]
  ·split at h
   case h_2=>cases h
   rename_i b _ K V l hl
   obtain⟨h1,h2⟩:=pure_ h
   cases h2
   refine⟨λ E X av ty hs hR hv=> ?_,λ s' hs=>by simp only[Na,ht,hs b (by simp),hl,h1,cond_true]⟩
   subst hs
   have hu:=hT.map h1
   cases hv with
   | mp hc=>
    obtain⟨cb,k1,k2,_⟩:=hR.blk b _ hl
    rw[hc] at k1
    cases k1
    cases k2 with
    | map m1 m2=>
     have hlen:=m2.length
     simp[Builtin.len_,Ay hu,goInt,Go.MapKept.run_getObj_map m1,hlen]
  ·obtain⟨h1,h2⟩:=pure_ h
   cases h2
   refine⟨λ E X av ty hs hR hv=> ?_,λ s' _=>by simp only[Na,ht,h1,cond_true]⟩
   have hu:=hT.map h1
   cases hv
   simp[Builtin.len_,Ay hu,goInt]
theorem Awf{c:Cfg}(hC:Bk P c=true){s:St}{o:Oper}{nb:Nat}{cont:Cm R}{r:R}{cl:Call}(hop:o.op=.call cl)(hb:cl.callee=.builtin .len)(h:Au c s o nb cont=some r):
  Res P c s o nb cont r λ s' k=>Au c s' o nb k:=by
 simp only[Au,hop,hb] at h
 split at h
 case h_2=>cases h
 rename_i x t h1 h2
 split at h
 case h_2=>cases h
 rename_i n rd h3
 obtain⟨k1,k2⟩:=Ari hC h3
 refine⟨_,[],rd,h,B5 ?_, ?_,trivial⟩
 ·intro E X ac hs hR hT
  refine⟨_, ?_,.int _ _⟩
  rw[Od hop hb,Rg h1,Rg h2]
  simp only[builtin,Sem.run_bind,yE,yP,List.map_nil,k1 E X _ o.type hs hR (hs▸Bh hT x),Result.andThen_ok,Sem.run_pure]
 ·intro s' ha R' k
  simp only[Au,hop,hb]
  rw[h1,h2]
  simp only
  rw[ha.ev x (by simp[hop,Op.operands,Call.operands,hb,Rg h1]),k2 s' ha.rd]
end Go.Ev
namespace Go.Ev
variable{R:Type}{E:Env}{X:Cx}{P:Program}{t:Nat}{ti:TyI}{w:World}
theorem Yz{X:Cx}{ac:Act}(hT:Jo X ac):∀l:List Operand,B6 X (l.map (ev X.s)) (l.map ac.eval)
 | []=>.nil
 | y::l=>.cons (Bh hT y) (Yz hT l)
theorem Vq{k:IntKind}:∀{l:List AV} {mx:Bool} {a:Int} {v:AV} {vs:List Value},B6 X l vs->Ql mx k a l=some v->
  ∃n,v=.int k n/\(vs.foldlM (if mx then Builtin.max2 else Builtin.min2) (.int k a)).run P w=.ok (.int k n) w
 | [],mx,a,v,_,.nil,h=>by
  simp only[Ql,zB] at h
  exact⟨a,h.symm,by simp⟩
 | b::l,mx,a,v,_,.cons hb hl,h=>by
  cases hb<;>simp only[Ql] at h<;>(try cases h)
  rename_i k' m
  cases e:G1 k k'<;>rw[e] at h<;>simp only[cond_true,cond_false] at h
  ·cases h
  obtain⟨n,h1,h2⟩:=Vq hl h
  refine⟨n,h1, ?_⟩
  rw[<-h2]
  cases mx<;>simp[List.foldlM_cons,Builtin.max2,Builtin.min2]
  ·by_cases hlt:m<a<;>simp[hlt]
  ·by_cases hlt:a<m<;>simp[hlt]
theorem Ais{mx:Bool}{l:List AV}{v:AV}{vs:List Value}(hl:B6 X l vs)(h:Vp mx l=some v)(t:TypeId)(ts:Array TypeId):
  ∃val,(if mx then Builtin.max_ ts t vs.toArray else Builtin.min_ ts t vs.toArray).run P w=.ok val w/\VRel X v val:=by
 cases hl with
 | nil=>cases h
 | cons ha hl=>
  cases ha<;>simp only[Vp] at h<;>(try cases h)
  obtain⟨n,rfl,h2⟩:=Vq (P:=P) (w:=w) hl h
  refine⟨_, ?_,.int _ _⟩
  cases mx<;>simpa[Builtin.max_,Builtin.min_] using h2
theorem Am3{c:Cfg}{s:St}{o:Oper}{nb:Nat}{cont:Cm R}{r:R}{cl:Call}{mx:Bool}(hop:o.op=.call cl)(hb:cl.callee=.builtin (if mx then .max else .min))(h:Au c s o nb cont=some r):
  Res P c s o nb cont r λ s' k=>Au c s' o nb k:=by
 have hE:∀(R':Type) (s':St) (k:Cm R'),Au c s' o nb k=match Vp mx (cl.args.toList.map (ev s')) with
   | some v=>k v [] []
   | none=>none:=by
  intro R' s' k
  cases mx
  ·have hb':cl.callee=.builtin .min:=hb
   simp only[Au,hop,hb']
   rfl
  ·have hb':cl.callee=.builtin .max:=hb
   simp only[Au,hop,hb']
   rfl
 rw[hE] at h
 split at h
 case h_2=>cases h
 rename_i v hv
 refine⟨v,[],[],h,B5 ?_, ?_,trivial⟩
 ·intro E X ac hs hR hT
  obtain⟨val,h1,h2⟩:=Ais (P:=P) (w:=X.w) (hs▸Yz hT cl.args.toList) hv o.type cl.argTypes
  refine⟨val, ?_,h2⟩
  rw[Od hop hb]
  rw[show(cl.args.toList.map ac.eval).toArray=cl.args.map ac.eval from by simp[<-yE]] at h1
  cases mx
  ·simp only[zK,if_false] at h1⊢
   simp only[builtin,Sem.run_bind,h1,Result.andThen_ok,Sem.run_pure]
  ·simp only[if_true] at h1⊢
   simp only[builtin,Sem.run_bind,h1,Result.andThen_ok,Sem.run_pure]
 ·intro s' ha R' k
  rw[hE]
  have:cl.args.toList.map (ev s')=cl.args.toList.map (ev s):=yQ λ y hy=>ha.ev y (by
   cases mx
   ·have hb':cl.callee=.builtin .min:=hb
    simp[hop,Op.operands,Call.operands,hb'];exact Array.mem_toList_iff.1 hy
   ·have hb':cl.callee=.builtin .max:=hb
    simp[hop,Op.operands,Call.operands,hb'];exact Array.mem_toList_iff.1 hy)
  rw[this,hv]
theorem Amp{op:BinOp}{k:IntKind}{a b:Int}{cont:AV->Option R}{r:R}(h:Sy op k a b cont=some r):
  ∃v,cont v=some r/\(∀k' t X w,(G1 k k'=true\/Qa op=true)->∃val,(binOp op t (.int k a) (.int k' b)).run P w=.ok val w/\VRel X v val)/\
   ∀(R':Type) (c:AV->Option R'),Sy op k a b c=c v:=by
 have kk:∀{k k':IntKind} {op:BinOp},(G1 k k'=true\/Qa op=true)->Qa op=false->k=k':=by
  intro k k' op h1 h2
  rcases h1 with h1|h1
  ·exact Er h1
  ·rw[h2] at h1;cases h1
 cases op<;>simp only[Sy] at h<;>(try cases h)
 case add=>exact⟨_,h,λ k' t X w hk=>⟨_,by have:=kk hk rfl;subst this;simp[binOp,Op.intArith,Aa],.int _ _⟩,λ _ _=>rfl⟩
 case sub=>exact⟨_,h,λ k' t X w hk=>⟨_,by have:=kk hk rfl;subst this;simp[binOp,Op.intArith,Aa],.int _ _⟩,λ _ _=>rfl⟩
 case mul=>exact⟨_,h,λ k' t X w hk=>⟨_,by have:=kk hk rfl;subst this;simp[binOp,Op.intArith,Aa],.int _ _⟩,λ _ _=>rfl⟩
 case quo=>
  obtain⟨h1,h⟩:=Ao h
  have h0:¬b=0:=by simpa using h1
  exact⟨_,h,λ k' t X w hk=>⟨_,by have:=kk hk rfl;subst this;simp[binOp,Op.intDiv,Aa,h0],.int _ _⟩,λ _ _=>by simp only[Sy,h1,A3]⟩
 case rem=>
  obtain⟨h1,h⟩:=Ao h
  have h0:¬b=0:=by simpa using h1
  exact⟨_,h,λ k' t X w hk=>⟨_,by have:=kk hk rfl;subst this;simp[binOp,Op.intDiv,h0],.int _ _⟩,λ _ _=>by simp only[Sy,h1,A3]⟩
 case and=>exact⟨_,h,λ k' t X w hk=>⟨_,by have:=kk hk rfl;subst this;simp only[binOp,Op.intBits,ne_eq,not_true,if_false,Sem.run_pure,Aa],.int _ _⟩,λ _ _=>rfl⟩
 case or=>exact⟨_,h,λ k' t X w hk=>⟨_,by have:=kk hk rfl;subst this;simp only[binOp,Op.intBits,ne_eq,not_true,if_false,Sem.run_pure,Aa],.int _ _⟩,λ _ _=>rfl⟩
 case xor=>exact⟨_,h,λ k' t X w hk=>⟨_,by have:=kk hk rfl;subst this;simp only[binOp,Op.intBits,ne_eq,not_true,if_false,Sem.run_pure,Aa],.int _ _⟩,λ _ _=>rfl⟩
 case shl=>
  obtain⟨h1,h⟩:=Ao h
  have h0:¬b<0:=by simp at h1;omega
  exact⟨_,h,λ k' t X w hk=>⟨_,by simp[binOp,Op.shift,Aa,h0],.int _ _⟩,λ _ _=>by simp only[Sy,h1,A3]⟩
 case shr=>
  obtain⟨h1,h⟩:=Ao h
  have h0:¬b<0:=by simp at h1;omega
  exact⟨_,h,λ k' t X w hk=>⟨_,by simp[binOp,Op.shift,h0],.int _ _⟩,λ _ _=>by simp only[Sy,h1,A3]⟩
 case eql=>exact⟨_,h,λ k' t X w hk=>⟨_,by have:=kk hk rfl;subst this;simp[binOp,Op.intCmp],.bool _⟩,λ _ _=>rfl⟩
 case neq=>exact⟨_,h,λ k' t X w hk=>⟨_,by have:=kk hk rfl;subst this;simp[binOp,Op.intCmp],.bool _⟩,λ _ _=>rfl⟩
 case lss=>exact⟨_,h,λ k' t X w hk=>⟨_,by have:=kk hk rfl;subst this;simp[binOp,Op.intCmp],.bool _⟩,λ _ _=>rfl⟩
 case leq=>exact⟨_,h,λ k' t X w hk=>⟨_,by have:=kk hk rfl;subst this;simp[binOp,Op.intCmp],.bool _⟩,λ _ _=>rfl⟩
 case gtr=>exact⟨_,h,λ k' t X w hk=>⟨_,by have:=kk hk rfl;subst this;simp[binOp,Op.intCmp],.bool _⟩,λ _ _=>rfl⟩
 case geq=>exact⟨_,h,λ k' t X w hk=>⟨_,by have:=kk hk rfl;subst this;simp[binOp,Op.intCmp],.bool _⟩,λ _ _=>rfl⟩
theorem Xx{c:Cfg}(hC:Bk P c=true)(h:Rv c t=true):P.underlying t=some .bool:=by
 unfold Rv at h
 split at h
 ·rename_i ti ht
  split at h
  ·rename_i b e1 e2
   exact(Bs hC ht).bool e1 e2
  ·cases h
 ·cases h
theorem Ge{op:BinOp}{x y:Operand}{a b:Value}(ha:a.oneCell'=true)(hb:a≠.nilIface):(eqGuard op t x y a b).run P w=.ok () w:=by
 unfold eqGuard
 cases a with
 | agg=>simp[Value.oneCell'] at ha
 | nilIface=>exact(hb rfl).elim
 | _=>cases op<;>rfl
theorem L3(hu:P.underlying t=some .bool)(d:Nat)(a b:Bool):(Op.equalIn (d+1) t (.bool a) (.bool b)).run P w=.ok (a==b) w:=by
 rw[Op.equalIn,Sem.run_bind,Ay hu]
 rfl
theorem Ac0(hu:P.underlying t=some .bool)(a b:Bool):(binOp .eql t (.bool a) (.bool b)).run P w=.ok (.bool (a==b)) w:=by
 have:(Op.equal t (.bool a) (.bool b)).run P w=.ok (a==b) w:=L3 hu 9999 a b
 show(do pure (.bool (<-Op.equal t (.bool a) (.bool b))):Sem Value).run P w=_
 rw[Sem.run_bind,this];rfl
theorem Ac1(hu:P.underlying t=some .bool)(a b:Bool):(binOp .neq t (.bool a) (.bool b)).run P w=.ok (.bool (!(a==b))) w:=by
 have:(Op.equal t (.bool a) (.bool b)).run P w=.ok (a==b) w:=L3 hu 9999 a b
 show(do pure (.bool (!(<-Op.equal t (.bool a) (.bool b)))):Sem Value).run P w=_
 rw[Sem.run_bind,this];rfl
theorem Avr{c:Cfg}(hC:Bk P c=true){op:BinOp}{a b:AV}{cont:AV->Option R}{r:R}(h:Wl op (Rv c t) a b cont=some r):
  ∃v,cont v=some r/\(∀X w av bv x y,VRel X a av->VRel X b bv->∃val,(do eqGuard op t x y av bv;binOp op t av bv:Sem Value).run P w=.ok val w/\VRel X v val)/\
   ∀(R':Type) (k:AV->Option R'),Wl op (Rv c t) a b k=k v:=by
 unfold Wl at h
 split at h
 ·rename_i k m k' n
  cases hb:(Qa op||G1 k k')<;>rw[hb] at h<;>simp only[cond_true,cond_false] at h
  ·cases h
  obtain⟨v,h1,h2,h3⟩:=Amp (P:=P) h
  refine⟨v,h1, ?_,λ R' k0=>by simp only[Wl,hb,cond_true,h3]⟩
  intro X w av bv x y hav hbv
  cases hav
  cases hbv
  obtain⟨val,e1,e2⟩:=h2 k' t X w (by simp only[Bool.or_eq_true] at hb;exact hb.symm)
  exact⟨val,by rw[Sem.run_bind,Ge rfl (by simp),Result.andThen_ok,e1],e2⟩
 ·rename_i l l'
  split at h
  ·obtain⟨h1,h⟩:=Ao h
   refine⟨_,h, ?_,λ R' k=>by simp only[Wl,h1,A3]⟩
   intro X w av bv x y hav hbv
   cases hav
   cases hbv
   refine⟨_, ?_,.str _⟩
   have hle:=zG h1
   have e1:(⟨⟨l⟩⟩:ByteArray).size=l.length:=rfl
   have e2:(⟨⟨l'⟩⟩:ByteArray).size=l'.length:=rfl
   have e3:¬((l.length+l'.length:Nat):Int)>IntKind.i64.max:=by
    have:IntKind.i64.max=9223372036854775807:=by decide
    rw[this]
    simp only[big] at hle
    omega
   have e4:(⟨⟨l⟩⟩:ByteArray)++(⟨⟨l'⟩⟩:ByteArray)=⟨⟨l++l'⟩⟩:=by
    have:((⟨⟨l⟩⟩:ByteArray)++(⟨⟨l'⟩⟩:ByteArray)).data=(⟨l++l'⟩:Array UInt8):=by
     rw[ByteArray.data_append]
     apply yC
     simp
    cases h:(⟨⟨l⟩⟩:ByteArray)++(⟨⟨l'⟩⟩:ByteArray)
    rw[h] at this
    simp only at this
    rw[this]
   rw[Sem.run_bind,Ge rfl (by simp),Result.andThen_ok]
   simp only[binOp,Op.stringOp,e1,e2,if_neg e3,Sem.run_pure,e4]
  ·refine⟨_,h, ?_,λ R' k=>by simp only[Wl]⟩
   intro X w av bv x y hav hbv
   cases hav
   cases hbv
   refine⟨_, ?_,.bool _⟩
   rw[Sem.run_bind,Ge rfl (by simp),Result.andThen_ok]
   simp only[binOp,Op.stringOp,ByteArray.toList_eq,Sem.run_pure]
  ·refine⟨_,h, ?_,λ R' k=>by simp only[Wl]⟩
   intro X w av bv x y hav hbv
   cases hav
   cases hbv
   refine⟨_, ?_,.bool _⟩
   rw[Sem.run_bind,Ge rfl (by simp),Result.andThen_ok]
   simp only[binOp,Op.stringOp,ByteArray.toList_eq,Sem.run_pure]
  ·cases h
 ·rename_i p q
  split at h
  ·obtain⟨h1,h⟩:=Ao h
   refine⟨_,h, ?_,λ R' k=>by simp only[Wl,h1,A3]⟩
   intro X w av bv x y hav hbv
   cases hav
   cases hbv
   refine⟨_, ?_,.bool _⟩
   rw[Sem.run_bind,Ge rfl (by simp),Result.andThen_ok]
   exact Ac0 (Xx hC h1) _ _
  ·obtain⟨h1,h⟩:=Ao h
   refine⟨_,h, ?_,λ R' k=>by simp only[Wl,h1,A3]⟩
   intro X w av bv x y hav hbv
   cases hav
   cases hbv
   refine⟨_, ?_,.bool _⟩
   rw[Sem.run_bind,Ge rfl (by simp),Result.andThen_ok]
   exact Ac1 (Xx hC h1) _ _
  ·cases h
 ·cases h
end Go.Ev
namespace Go.Ev
variable{R:Type}{E:Env}{X:Cx}{P:Program}{t:Nat}{ti:TyI}{w:World}
theorem Fu{c:Cfg}{s:St}{o:Oper}{nb:Nat}{cont:Cm R}{r:R}{v:AV}
  (hE:∀(R':Type) (s':St) (k:Cm R'),(∀x∈o.op.operands,ev s' x=ev s x)->Au c s' o nb k=k v [] []) (h:Au c s o nb cont=some r)
  (hg:∀E X a,X.s=s->Rel E X->Jo X a->∃val,(execOp a.eval o).run P X.w=.ok (.value val) X.w/\VRel X v val):
  Res P c s o nb cont r λ s' k=>Au c s' o nb k:=by
 rw[hE R s cont λ _ _=>rfl] at h
 exact⟨v,[],[],h,B5 hg,λ s' ha R' k=>hE R' s' k ha.ev,trivial⟩
theorem Arn{c:Cfg}{s:St}{o:Oper}{nb:Nat}{cont:Cm R}{r:R}{x a b:Operand}(hop:o.op=.pick x a b)(h:Au c s o nb cont=some r):
  Res P c s o nb cont r λ s' k=>Au c s' o nb k:=by
 have h0:=h
 simp only[Au,hop,D3] at h0
 split at h0
 case h_2=>cases h0
 rename_i q hq
 refine Fu (v:=if q then ev s a else ev s b) ?_ h ?_
 ·intro R' s' k hs
  simp only[Au,hop,D3]
  rw[hs x (by simp[hop,Op.operands]),hs a (by simp[hop,Op.operands]),hs b (by simp[hop,Op.operands]),hq]
  cases q<;>rfl
 ·intro E X ac hs hR hT
  subst hs
  have hx:=Bh hT x
  rw[hq] at hx
  generalize hv:ac.eval x=xv at hx
  cases hx
  refine⟨if q then ac.eval a else ac.eval b, ?_,by cases q<;>exact Bh hT _⟩
  simp only[execOp,hop,hv,asBool,Sem.run_bind,Sem.run_pure,Result.andThen_ok]
theorem Acp{c:Cfg}{s:St}{o:Oper}{nb:Nat}{cont:Cm R}{r:R}{x:Operand}(hop:o.op=.nilCheck x)(h:Au c s o nb cont=some r):
  Res P c s o nb cont r λ s' k=>Au c s' o nb k:=by
 have h0:=h
 simp only[Au,hop,D3] at h0
 have hsh:(∀(R':Type) (s':St) (k:Cm R'),ev s' x=ev s x->Au c s' o nb k=k (ev s x) [] [])/\
   ((∃b o p,ev s x=.pb b o p)\/(∃b v i f K l p,ev s x=.pn b v i f K l p)\/(∃q K l p,ev s x=.po q K l p)\/(∃q ps o p,ev s x=.pr q ps o p)\/∃f cs,ev s x=.fn f cs):=by
  split at h0
  ·rename_i hx
   exact⟨λ R' s' k hs=>by simp only[Au,hop,D3,hs,hx],.inl ⟨_,_,_,hx⟩⟩
  ·rename_i hx
   exact⟨λ R' s' k hs=>by simp only[Au,hop,D3,hs,hx],.inr (.inl ⟨_,_,_,_,_,_,_,hx⟩)⟩
  ·rename_i hx
   exact⟨λ R' s' k hs=>by simp only[Au,hop,D3,hs,hx],.inr (.inr (.inl ⟨_,_,_,_,hx⟩))⟩
  ·rename_i hx
   exact⟨λ R' s' k hs=>by simp only[Au,hop,D3,hs,hx],.inr (.inr (.inr (.inl ⟨_,_,_,_,hx⟩)))⟩
  ·rename_i hx
   exact⟨λ R' s' k hs=>by simp only[Au,hop,D3,hs,hx],.inr (.inr (.inr (.inr ⟨_,_,hx⟩)))⟩
  ·cases h0
 refine Fu (v:=ev s x) (λ R' s' k hs=>hsh.1 R' s' k (hs x (by simp[hop,Op.operands]))) h ?_
 intro E X ac hs hR hT
 subst hs
 have hx:=Bh hT x
 refine⟨ac.eval x, ?_,hx⟩
 rcases hsh.2 with⟨b,o',p,e⟩|⟨b,v,i,f,K,l,p,e⟩|⟨q,K,l,p,e⟩|⟨q,ps,o',p,e⟩|⟨f,cs,e⟩<;>rw[e] at hx<;>generalize hv:ac.eval x=xv at hx<;>cases hx<;>simp only[execOp,hop,hv,Sem.run_pure]
theorem Aci{c:Cfg}{s:St}{o:Oper}{nb:Nat}{op:BinOp}{x y:Operand}{yt:Nat}(hop:o.op=.binOp op t x y yt)(hy:y≠.const .nilIface){R':Type}(k:Cm R'):
  Au c s o nb k=D3 (Rv c) s (.binOp op t x y yt) (λ v rd=>k v [] rd):=by
 unfold Au
 rw[hop]
 cases y with
 | const v=>cases v<;>first|rfl|exact(hy rfl).elim
 | _=>rfl
theorem Ajz{c:Cfg}(hC:Bk P c=true){s:St}{o:Oper}{nb:Nat}{cont:Cm R}{r:R}{op:BinOp}{x y:Operand}{yt:Nat}(hop:o.op=.binOp op t x y yt)(hy:y≠.const .nilIface)(h:Au c s o nb cont=some r):
  Res P c s o nb cont r λ s' k=>Au c s' o nb k:=by
 have h0:=h
 rw[Aci hop hy] at h0
 simp only[D3] at h0
 obtain⟨v,h1,h2,h3⟩:=Avr hC h0
 refine Fu (v:=v) ?_ h ?_
 ·intro R' s' k hs
  rw[Aci hop hy]
  simp only[D3]
  rw[hs x (by simp[hop,Op.operands]),hs y (by simp[hop,Op.operands])]
  exact h3 R' _
 ·intro E X ac hs hR hT
  subst hs
  obtain⟨val,e1,e2⟩:=h2 X X.w _ _ x y (Bh hT x) (Bh hT y)
  refine⟨val, ?_,e2⟩
  simp only[execOp,hop]
  rw[Sem.run_bind,e1]
  rfl
theorem Df.ifc(h:Df P t ti)(hi:Amr ti=true):∃ms,P.underlying t=some (.interface ms):=by
 obtain⟨d,h1,h2⟩:=h.d
 unfold Amr at hi
 cases d<;>simp only[D9,z9] at h2
 case interface ms=>exact⟨ms,h1⟩
 all_goals(exfalso;revert hi h2;cases ti.cls<;>simp[Fd,H9,Hp,J6]<;>(try split)<;>simp_all)
theorem Df.ptr(h:Df P t ti)(hi:Aca ti=true):∃e,P.underlying t=some (.pointer e):=by
 obtain⟨d,h1,h2⟩:=h.d
 unfold Aca at hi
 cases d<;>simp only[D9,z9] at h2
 case pointer e=>exact⟨e,h1⟩
 all_goals(exfalso;revert hi h2;cases ti.cls<;>simp[Fd,H9,Hp,J6]<;>(try split)<;>simp_all)
def Axs:BinOp->Bool
 | .eql=>true
 | _=>false
def Asn:Value->Bool
 | .nilIface=>true
 | _=>false
theorem Aa8{X:Cx}:∀bs:List Bool,A0 X.w (X.S none) .bool bs (bs.map Value.bool) []
 | []=>⟨rfl,rfl⟩
 | b::bs=>⟨[.bool b],bs.map .bool,[],[],rfl,rfl,⟨rfl,rfl⟩,Aa8 bs⟩
theorem Afm{ms:Array (String×TypeId)}(hu:P.underlying t=some (.interface ms))(v:Value)(hv:v=.nilIface\/∃T u,v=.iface T u)(d:Nat):(Op.equalIn (d+1) t v .nilIface).run P w=.ok (Asn v) w:=by
 rw[Op.equalIn,Sem.run_bind,Ay hu]
 rcases hv with rfl|⟨T,u,rfl⟩<;>rfl
theorem Aiu{c:Cfg}(hC:Bk P c=true){s:St}{o:Oper}{nb:Nat}{cont:Cm R}{r:R}{op:BinOp}{x:Operand}{yt:Nat}(hop:o.op=.binOp op t x (.const .nilIface) yt)(h:Au c s o nb cont=some r):
  Res P c s o nb cont r λ s' k=>Au c s' o nb k:=by
 have h0:=h
 simp only[Au,hop] at h0
 split at h0
 case h_2=>cases h0
 rename_i ti ht
 obtain⟨hi,h0⟩:=Ao h0
 obtain⟨ms,hu⟩:=(Bs hC ht).ifc hi
 have key:∃(b:Bool),(∀(R':Type) (k:AV->Option R'),Awl op (ev s x) k=k (.bool b))/\∀X (v:Value),VRel X (ev s x) v->((op=.eql\/op=.neq)/\(v=.nilIface\/∃T u,v=.iface T u))/\b=(bif Axs op then Asn v else !(Asn v)):=by
  clear h hop
  generalize ev s x=ax at h0⊢
  unfold Awl at h0
  split at h0
  ·rename_i q tr _
   refine⟨tr.isNil,λ R' k=>rfl,λ X v hv=> ?_⟩
   cases hv with
   | tr h5 h6=>
    cases tr with
    | nil=>rw[show v=.nilIface from h6];exact⟨⟨.inl rfl,.inl rfl⟩,rfl⟩
    | nd=>obtain⟨g,cs,T,fr,k1,_⟩:=h6;rw[k1];exact⟨⟨.inl rfl,.inr ⟨_,_,rfl⟩⟩,rfl⟩
  ·rename_i q tr _
   refine⟨!tr.isNil,λ R' k=>rfl,λ X v hv=> ?_⟩
   cases hv with
   | tr h5 h6=>
    cases tr with
    | nil=>rw[show v=.nilIface from h6];exact⟨⟨.inr rfl,.inl rfl⟩,rfl⟩
    | nd=>obtain⟨g,cs,T,fr,k1,_⟩:=h6;rw[k1];exact⟨⟨.inr rfl,.inr ⟨_,_,rfl⟩⟩,rfl⟩
  ·refine⟨true,λ R' k=>rfl,λ X v hv=> ?_⟩
   cases hv
   exact⟨⟨.inl rfl,.inl rfl⟩,rfl⟩
  ·refine⟨false,λ R' k=>rfl,λ X v hv=> ?_⟩
   cases hv
   exact⟨⟨.inr rfl,.inl rfl⟩,rfl⟩
  ·refine⟨false,λ R' k=>rfl,λ X v hv=> ?_⟩
   cases hv
   exact⟨⟨.inl rfl,.inr ⟨_,_,rfl⟩⟩,rfl⟩
  ·refine⟨true,λ R' k=>rfl,λ X v hv=> ?_⟩
   cases hv
   exact⟨⟨.inr rfl,.inr ⟨_,_,rfl⟩⟩,rfl⟩
  ·cases h0
 obtain⟨b,k1,k2⟩:=key
 refine Fu (v:=.bool b) ?_ h ?_
 ·intro R' s' k hs
  simp only[Au,hop,ht,hi,A3]
  rw[hs x (by simp[hop,Op.operands]),k1]
 ·intro E X ac hs hR hT
  subst hs
  obtain⟨⟨hop',hv⟩,hb⟩:=k2 X _ (Bh hT x)
  refine⟨.bool b, ?_,.bool _⟩
  simp only[execOp,hop]
  have hg:(eqGuard op t x (.const .nilIface) (ac.eval x) (ac.eval (.const .nilIface))).run P X.w=.ok () X.w:=by
   have he:ac.eval (.const .nilIface)=.nilIface:=rfl
   rw[he]
   unfold eqGuard
   rcases hop' with rfl|rfl<;>rcases hv with e|⟨T,u,e⟩<;>rw[e]<;>cases x<;>rfl
  have he:(Op.equal t (ac.eval x) .nilIface).run P X.w=.ok (Asn (ac.eval x)) X.w:=Afm hu _ hv 9999
  have hb2:(binOp op t (ac.eval x) (ac.eval (.const .nilIface))).run P X.w=.ok (.bool b) X.w:=by
   have he':ac.eval (.const .nilIface)=.nilIface:=rfl
   rw[he',hb]
   rcases hop' with rfl|rfl
   ·have e0:binOp .eql t (ac.eval x) .nilIface=(do pure (.bool (<-Op.equal t (ac.eval x) .nilIface)):Sem Value):=by
     rcases hv with e|⟨T,u,e⟩<;>rw[e]<;>rfl
    rw[e0,Sem.run_bind,he]
    rfl
   ·have e0:binOp .neq t (ac.eval x) .nilIface=(do pure (.bool (!(<-Op.equal t (ac.eval x) .nilIface))):Sem Value):=by
     rcases hv with e|⟨T,u,e⟩<;>rw[e]<;>rfl
    rw[e0,Sem.run_bind,he]
    rfl
  simp only[Sem.run_bind,hg,Result.andThen_ok,hb2,Sem.run_pure]
theorem Zy{X:Cx}{q:Cj}{L ty:Nat}{bs:List Bool}{i j:Int}{l r:Tr}{cs:List Value}(hq:∀b v0,q≠.ver b v0)
  (h:match L with
   | 0=>cs=bs.map .bool/\bs.length=256
   | 1=>∃vl vr,cs=[vl,vr]/\Fh X.w (X.Sof q) l vl/\Fh X.w (X.Sof q) r vr
   | 2=>∃vl,cs=[vl,.int .i64 i]/\Fh X.w (X.Sof q) l vl
   | _=>∃vl u,cs=[vl,.int .i64 i,.int .i64 j,u]/\u.oneCell'=true/\Fh X.w (X.Sof q) l vl):PRs X (Ek L q (.nd L ty bs i j l r)) cs []/\∀a∈Ek L q (.nd L ty bs i j l r),a.norw=true:=by
 match L,h with
 | 0,⟨h1,h2⟩=>
  refine⟨?_,by simp[Ek,AV.norw]⟩
  have hr:A0 X.w (X.S none) .bool bs (bs.map Value.bool) []:=Aa8 bs
  have:=PRs.arr (X:=X) (n:=256) (K:=.bool) (l:=bs) h2 hr .nil
  rw[h1]
  simpa[Ek,Tr.bs] using this
 | 1,⟨vl,vr,h1,h2,h3⟩=>
  refine⟨?_,by simp[Ek,AV.norw]⟩
  rw[h1]
  exact .one rfl h2.one (.tr hq h2) (.one rfl h3.one (.tr hq h3) .nil)
 | 2,⟨vl,h1,h2⟩=>
  refine⟨?_,by simp[Ek,AV.norw]⟩
  rw[h1]
  exact .one rfl h2.one (.tr hq h2) (.one rfl rfl (.int _ _) .nil)
 | _+3,⟨vl,u,h1,h2,h3⟩=>
  refine⟨?_,by simp[Ek,AV.norw]⟩
  rw[h1]
  exact .one rfl h3.one (.tr hq h3) (.one rfl rfl (.int _ _) (.one rfl rfl (.int _ _) (.one rfl h2 (.un _) .nil)))
theorem Af0{c:Cfg}(hC:Bk P c=true){s:St}{o:Oper}{nb:Nat}{cont:Cm R}{r:R}{x:Operand}{xt T:Nat}(hop:o.op=.typeAssert x xt T false)(h:Au c s o nb cont=some r):
  Res P c s o nb cont r λ s' k=>Au c s' o nb k:=by
 have h0:=h
 simp only[Au,hop] at h0
 split at h0
 case h_2=>cases h0
 rename_i T' k n ti hx hti
 obtain⟨hk,h0⟩:=Ao h0
 have hk':=hk
 simp only[z9] at hk'
 have hT:=beq_true.1 hk'.1
 subst hT
 have hi:=hk'.2
 unfold isK at hi
 split at hi
 case h_2=>cases hi
 rename_i k' hi'
 have hu:=(Bs hC hti).int hi'
 refine Fu (v:=.int k n) ?_ h ?_
 ·intro R' s' kk hs
  simp only[Au,hop]
  rw[hs x (by simp[hop,Op.operands]),hx,hti]
  simp only[hk,A3]
 ·intro E X ac hs hR hT
  subst hs
  have hv:=Bh hT x
  rw[hx] at hv
  generalize hxv:ac.eval x=xv at hv
  cases hv with
  | ifc hv=>
   cases hv
   refine⟨.int k n, ?_,.int _ _⟩
   simp only[execOp,hop,hxv,Instr.typeAssert,Sem.run_bind,Ay hu,Result.andThen_ok,if_true,Sem.run_pure]
   rfl
theorem W0{c:Cfg}(hC:Bk P c=true){s:St}{o:Oper}{nb:Nat}{cont:Cm R}{r:R}{x:Operand}{xt T:Nat}(hop:o.op=.typeAssert x xt T true)(h:Au c s o nb cont=some r):
  Res P c s o nb cont r λ s' k=>Au c s' o nb k:=by
 have h0:=h
 simp only[Au,hop] at h0
 split at h0
 case h_2=>cases h0
 rename_i q tr ti L hx hti hL
 obtain⟨hi,h0⟩:=Ao h0
 simp only[z9] at hi
 obtain⟨e,hu⟩:=(Bs hC hti).ptr hi.1
 have hq:∀b v0,q≠.ver b v0:=by
  rintro b v0 rfl
  simp[G3] at hi
 cases his:tr.is T<;>rw[his] at h0<;>simp only[cond_true,cond_false] at h0
 ·refine Fu (v:=.tup [.nilp,.bool false]) ?_ h ?_
  ·intro R' s' k hs
   simp only[Au,hop]
   rw[hs x (by simp[hop,Op.operands]),hx,hti,hL]
   simp only[hi,his,zR,A3,cond_false]
  ·intro E X ac hs hR hT
   subst hs
   have hv:=Bh hT x
   rw[hx] at hv
   generalize hxv:ac.eval x=xv at hv
   obtain⟨i,z,z1,_,_,z2,z3,z4,_⟩:=(Bs hC hti).i
   have hz:(zeroValue T).run P X.w=.ok z X.w:=by
    simp[zeroValue,typeInfo,z1,z2]
   have hzz:VRel X .nilp z:=by
    have hzero:ti.zero=[.nilp]/\ti.cls=0:=by
     have:=hi.1
     unfold Aca at this
     split at this
     ·rename_i a b;exact⟨b,a⟩
     ·cases this
    obtain⟨h1,_⟩:=Q6 (X:=X) ti.zero z.cells.toList z3
    rw[hzero.1] at h1
    have ho:=z4 hzero.2
    have hc:z.cells.toList=[z]:=by cases z<;>first|rfl|simp[Value.oneCell'] at ho
    rw[hc] at h1
    cases h1 with
    | one _ _ h _=>exact h
   refine⟨.tuple #[z,.bool false], ?_,.tup (.cons hzz (.cons (.bool _) .nil))⟩
   cases hv with
   | tr h5 h6=>
    cases tr with
    | nil=>
     rw[show xv=.nilIface from h6] at hxv
     simp only[execOp,hop,hxv,Instr.typeAssert,Sem.run_bind,Ay hu,Result.andThen_ok,if_true,hz,Sem.run_pure]
    | nd lay ty bs i j l r=>
     obtain⟨g,cs,T',fr,k1,_⟩:=h6
     rw[k1] at hxv
     have hne:¬(ty:Nat)=T:=by
      simp only[Tr.is] at his
      exact Bd.1 his
     simp only[execOp,hop,hxv,Instr.typeAssert,Sem.run_bind,Ay hu,Result.andThen_ok,if_neg hne,if_true,hz,Sem.run_pure]
 ·obtain⟨hl,h0⟩:=Ao h0
  have hl:=beq_true.1 hl
  refine Fu (v:=.tup [.pr q (Ek L q tr) 0 [],.bool true]) ?_ h ?_
  ·intro R' s' k hs
   simp only[Au,hop]
   rw[hs x (by simp[hop,Op.operands]),hx,hti,hL]
   simp only[hi,his,zR,A3,cond_true,hl,zW]
  ·intro E X ac hs hR hT
   subst hs
   have hv:=Bh hT x
   rw[hx] at hv
   generalize hxv:ac.eval x=xv at hv
   cases hv with
   | tr h5 h6=>
    cases tr with
    | nil=>simp[Tr.is] at his
    | nd lay ty bs i j l r=>
     obtain⟨g,cs,T',fr,k1,k2,k3,k4⟩:=h6
     have ht:ty=T:=by
      simp only[Tr.is] at his
      exact beq_true.1 his
     subst ht
     have hl':lay=L:=hl
     subst hl'
     obtain⟨p1,p2⟩:=Zy (ty:=ty) hq k4
     have hsz:cs.toList.length=cs.size:=by simp
     refine⟨.tuple #[.pointer (some ⟨g,0,none⟩),.bool true], ?_,.tup (.cons ?_ (.cons (.bool _) .nil))⟩
     ·rw[k1] at hxv
      simp only[execOp,hop,hxv,Instr.typeAssert,Sem.run_bind,Ay hu,Result.andThen_ok,if_true,Sem.run_pure]
     ·have:=VRel.pr (X:=X) (q:=q) (ps:=Ek lay q (.nd lay ty bs i j l r)) (o:=0) (p:=[]) (g:=g) (og:=0) (cur:=cs) (t:=T') (fr:=fr) (n:=cs.size) k2 k3 (by omega) (by rw[show seg cs.toList 0 cs.size=cs.toList by simp[seg,yI]];exact p1) p2 hq (by simp[PIn])
      simpa[Bf] using this
theorem Asm{c:Cfg}{s:St}{o:Oper}{nb:Nat}{cont:Cm R}{r:R}{op:UnOp}{x:Operand}(hop:o.op=.unOp op t x)(h:Au c s o nb cont=some r):
  Res P c s o nb cont r λ s' k=>Au c s' o nb k:=by
 have h0:=h
 simp only[Au,hop,D3] at h0
 split at h0
 ·rename_i b hx
  refine Fu (v:=.bool (!b)) ?_ h ?_
  ·intro R' s' k hs
   simp only[Au,hop,D3]
   rw[hs x (by simp[hop,Op.operands]),hx]
  ·intro E X ac hs hR hT
   subst hs
   have hx':=Bh hT x
   rw[hx] at hx'
   generalize hv:ac.eval x=xv at hx'
   cases hx'
   exact⟨_,by simp only[execOp,hop,hv,Op.unary,Sem.run_bind,Sem.run_pure,Result.andThen_ok],.bool _⟩
 ·rename_i k n hx
  refine Fu (v:=.int k (Aa k (0-n))) ?_ h ?_
  ·intro R' s' k hs
   simp only[Au,hop,D3]
   rw[hs x (by simp[hop,Op.operands]),hx]
  ·intro E X ac hs hR hT
   subst hs
   have hx':=Bh hT x
   rw[hx] at hx'
   generalize hv:ac.eval x=xv at hx'
   cases hx'
   exact⟨_,by simp only[execOp,hop,hv,Op.unary,Op.intArith,Sem.run_bind,Sem.run_pure,Result.andThen_ok,Aa],.int _ _⟩
 ·cases h0
theorem Adx:∀{as:List AV} {vs:List Value} {i:Nat} {v:AV},B6 X as vs->as[i]?=some v->∃u,vs[i]?=some u/\VRel X v u
 | _,_,_,_,.nil,h=>by simp at h
 | _,_,0,_,.cons h1 _,h=>by simp at h;subst h;exact⟨_,rfl,h1⟩
 | _,_,i+1,_,.cons _ h2,h=>by simp at h;obtain⟨u,e1,e2⟩:=Adx h2 h;exact⟨u,by simpa using e1,e2⟩
theorem Aeu{c:Cfg}{s:St}{o:Oper}{nb:Nat}{cont:Cm R}{r:R}{x:Operand}{i:Nat}(hop:o.op=.extract x i)(h:Au c s o nb cont=some r):
  Res P c s o nb cont r λ s' k=>Au c s' o nb k:=by
 have h0:=h
 simp only[Au,hop,D3] at h0
 split at h0
 case h_2=>cases h0
 rename_i vs hx
 split at h0
 case h_2=>cases h0
 rename_i v hi
 refine Fu (v:=v) ?_ h ?_
 ·intro R' s' k hs
  simp only[Au,hop,D3]
  rw[hs x (by simp[hop,Op.operands]),hx]
  simp only[hi]
 ·intro E X ac hs hR hT
  subst hs
  have hx':=Bh hT x
  rw[hx] at hx'
  generalize hv:ac.eval x=xv at hx'
  cases hx' with
  | tup hvs=>
   obtain⟨u,e1,e2⟩:=Adx hvs hi
   refine⟨u, ?_,e2⟩
   simp[execOp,hop,hv,Instr.extract,e1]
end Go.Ev
namespace Go.Ev
variable{R:Type}{E:Env}{X:Cx}{P:Program}{t:Nat}{ti:TyI}{w:World}
theorem G0:∀(ks:List Nat) (k:Nat),Dg (By ks) k=if k∈ks then some none else none
 | [],k=>by simp[By,Dg]
 | b::ks,k=>by
  have ih:=G0 ks k
  simp only[By,yP,Dg] at ih⊢
  rw[ih]
  by_cases h:k∈ks
  ·simp[h]
  ·by_cases h2:k=b
   ·subst h2;simp[h]
   ·simp[h,h2]
structure Gh(E:Env)(X:Cx)(nb:Nat)(blk:Blk)(ks:List Nat)(cb:CB)(w':World)(T:Nat->Prop)(X':Cx):Prop where
 cmN:X'.cm=λ b=>if b=nb then some cb else X.cm b
 S:X'.S=X.S
 s:X'.s={X.s with st:=A6 ((nb,some blk)::By ks) X.s.st}
 w:X'.w=w'
 fresh:Pe X nb
 live:∀b∈ks,∃x,look b X.s.st=some x
 os:w'.os=X.w.os
 tape:w'.tape=X.w.tape
 output:w'.output=X.w.output
 size:X.w.heap.size<=w'.heap.size
 heap:∀g,g<X.w.heap.size->¬T g->w'.heap[g]?=X.w.heap[g]?
 T:∀g,T g->∃b x c,b∈ks/\look b X.s.st=some x/\X.cm b=some c/\g∈c.fp
variable{nb:Nat}{blk:Blk}{ks:List Nat}{cb:CB}{w':World}{T:Nat->Prop}{X':Cx}
theorem Gh.look(R:Rel E X)(h:Gh E X nb blk ks cb w' T X')(b:Nat):look b X'.s.st=if b=nb then some blk else if b∈ks then none else Ev.look b X.s.st:=by
 have hnb:nb∉ks:=λ hm=>by
  obtain⟨x,hx⟩:=h.live nb hm
  obtain⟨c,hc,_⟩:=R.blk nb x hx
  rw[h.fresh nb (zF _) (by omega)] at hc
  cases hc
 rw[h.s]
 simp only
 rw[B7 _ _ R.uq]
 simp only[Dg,G0]
 by_cases h1:b=nb
 ·subst h1;simp[hnb]
 ·by_cases h2:b∈ks<;>simp[h1,h2]
theorem Gh.mv(R:Rel E X)(h:Gh E X nb blk ks cb w' T X'):Mv X X' (λ b=>b=nb\/b∈ks) T where
 S:=.same h.S
 os:=by rw[h.w];exact h.os
 tape:=by rw[h.w];exact h.tape
 output:=by rw[h.w];exact h.output
 size:=by rw[h.w];exact h.size
 heap:=by rw[h.w];exact h.heap
 T g hg:=by
  obtain⟨b,x,c,h1,h2,h3,h4⟩:=h.T g hg
  exact⟨b,x,c,.inr h1,h2,h3,h4⟩
 look b hb:=by
  rw[h.look R]
  rw[if_neg (λ e=>hb (.inl e)),if_neg (λ e=>hb (.inr e))]
 cm b hb:=by rw[h.cmN];simp only;rw[if_neg (λ e=>hb (.inl e))]
 cmM b c hM hc:=by
  rw[h.cmN]
  simp only
  by_cases e:b=nb
  ·subst e
   rw[h.fresh b (zF _) (by omega)] at hc
   cases hc
  ·rw[if_neg e];exact⟨c,hc,c.same_refl⟩
 verM b c ro' v' ps' hM hc hl:=by
  rw[h.look R] at hl
  by_cases e:b=nb
  ·subst e
   rw[h.fresh b (zF _) (by omega)] at hc
   cases hc
  ·rw[if_neg e] at hl
   rcases hM with hM|hM
   ·exact(e hM).elim
   ·rw[if_pos hM] at hl;cases hl
theorem Gh.good(R:Rel E X)(h:Gh E X nb blk ks cb w' T X')(hb:Ext X X'->I3 X' cb blk)(hnd:cb.fp.Nodup)(hfp:∀g∈cb.fp,g<w'.heap.size/\Aqd X (λ b=>b=nb\/b∈ks) g)
  {v:AV} {val:Value} (hv:Ext X X'->VRel X' v val):Good E X nb v ((nb,some blk)::By ks) val X':=by
 have hx:=(h.mv R).ext R
 have one:∀b x',(b=nb\/b∈ks)->Ev.look b X'.s.st=some x'->b=nb/\x'=blk:=by
  intro b x' hM hl
  rw[h.look R] at hl
  by_cases e:b=nb
  ·subst e;simp at hl;exact⟨rfl,hl.symm⟩
  ·rw[if_neg e] at hl
   rcases hM with hM|hM
   ·exact(e hM).elim
   ·rw[if_pos hM] at hl;cases hl
 have hcm:X'.cm nb=some cb:=by rw[h.cmN];simp
 refine⟨(h.mv R).rel R ?_ ?_ ?_,hx,.of h.S,h.s, ?_,hv hx⟩
 ·rw[h.s];exact Cg _ R.uq
 ·intro b x' hM hl
  obtain⟨rfl,rfl⟩:=one b x' hM hl
  exact⟨cb,hcm,hb hx,hnd,λ g hg=>by rw[h.w];exact hfp g hg⟩
 ·intro b b' x x' c c' g hM hM' hl hl' _ _ _ _
  exact(one b x hM hl).1.trans (one b' x' hM' hl').1.symm
 ·intro b hb'
  rw[h.cmN] at hb'
  simp only at hb'
  by_cases e:b=nb
  ·subst e;exact .inr ⟨zF _,by omega⟩
  ·rw[if_neg e] at hb';exact .inl hb'
def C1(X:Cx)(nb:Nat)(blk:Blk)(ks:List Nat)(cb:CB)(w':World):Cx:=
 {cm:=λ b=>if b=nb then some cb else X.cm b,S:=X.S,s:={X.s with st:=A6 ((nb,some blk)::By ks) X.s.st},w:=w'}
theorem Ru{w w':World}{ob:Obj}(h:w'.heap=w.heap.push ob):w'.heap.size=w.heap.size+1/\(∀g,g<w.heap.size->w'.heap[g]?=w.heap[g]?)/\w'.heap[w.heap.size]?=some ob:=by
 rw[h]
 refine⟨by simp,λ g hg=> ?_,by simp⟩
 rw[Array.getElem?_push,if_neg (by omega)]
theorem Ab6(R:Rel E X)(hF:Pe X nb){ps:List AV}{cs:Array Value}{ty:TypeId}(hp:PRs X ps cs.toList [])(hn:∀a∈ps,a.norw=true)(hh:w'.heap=X.w.heap.push (.cells cs ty))
  (h1:w'.os=X.w.os) (h2:w'.tape=X.w.tape) (h3:w'.output=X.w.output):
  ∃X',X'.w=w'/\Good E X nb (.pb nb 0 []) [(nb,some (.cell false 0 ps))] (.pointer (some ⟨X.w.heap.size,0,none⟩)) X':=by
 obtain⟨k1,k2,k3⟩:=Ru hh
 have hN:Gh E X nb (.cell false 0 ps) [] (.box X.w.heap.size []) w' (λ _=>False) (C1 X nb (.cell false 0 ps) [] (.box X.w.heap.size []) w'):=
  ⟨rfl,rfl,rfl,rfl,hF,by simp,h1,h2,h3,by omega,λ g hg _=>k2 g hg,λ g hg=>hg.elim⟩
 refine⟨_,rfl,hN.good R ?_ (by simp[CB.fp]) ?_ ?_⟩
 ·intro hx
  refine .box hn ⟨ty,(0,0), ?_, ?_⟩ (hp.ext hx (by simp))
  ·show w'.heap[X.w.heap.size]?=_
   rw[k3]
  ·exact .inl rfl
 ·intro g hg
  simp only[CB.fp,zN] at hg
  subst hg
  exact⟨by omega,.inl (zF _)⟩
 ·intro hx
  have:=VRel.pb (X:=C1 X nb (.cell false 0 ps) [] (.box X.w.heap.size []) w') (b:=nb) (o:=0) (p:=[]) (cb:=.box X.w.heap.size []) (g:=X.w.heap.size) (og:=0) (by simp[C1]) rfl (by simp[PIn]) (.inl rfl)
  simpa[Bf] using this
theorem P9(R:Rel E X)(hF:Pe X nb){K:Ki}{l:List K.den}{cs:Array Value}{ty:TypeId}{fr:Nat×Nat}{c:Nat}{fps:List Nat}{ks:List Nat}(hks:∀b∈ks,∃x,look b X.s.st=some x)
  (hr:A0 X.w (X.S none) K l (cs.toList.take (l.length*K.size)) fps) (hlc:l.length<=c) (hcs:c*K.size<=cs.size) (hfr:Aqj fr cs.size) (hnd:fps.Nodup) (hfps:∀g∈fps,g<X.w.heap.size/\∃b x cb,b∈ks/\look b X.s.st=some x/\X.cm b=some cb/\g∈cb.fp)
  (hh:w'.heap=X.w.heap.push (.cells cs ty fr)) (h1:w'.os=X.w.os) (h2:w'.tape=X.w.tape) (h3:w'.output=X.w.output):
  ∃X',X'.w=w'/\Good E X nb (.sl nb) ((nb,some (.cell false 0 [.rw K l]))::By ks) (.slice (some ⟨X.w.heap.size,0,none⟩) l.length c) X':=by
 obtain⟨k1,k2,k3⟩:=Ru hh
 have hN:Gh E X nb (.cell false 0 [.rw K l]) ks (.row (some ⟨X.w.heap.size,0,none⟩) l.length c K.size (X.w.heap.size::fps)) w' (λ _=>False) (C1 X nb (.cell false 0 [.rw K l]) ks (.row (some ⟨X.w.heap.size,0,none⟩) l.length c K.size (X.w.heap.size::fps)) w'):=
  ⟨rfl,rfl,rfl,rfl,hF,hks,h1,h2,h3,by omega,λ g hg _=>k2 g hg,λ g hg=>hg.elim⟩
 refine⟨_,rfl,hN.good R ?_ ?_ ?_ ?_⟩
 ·intro hx
  refine .row rfl rfl ⟨_,_,rfl,.inr ⟨X.w.heap.size,0,cs.toList,fps,rfl,⟨ty,fr, ?_,hfr⟩,hlc,by simpa using hcs,rfl, ?_⟩⟩
  ·show w'.heap[X.w.heap.size]?=_
   rw[k3]
  ·exact A0.move (w:=X.w) (by simpa[seg] using hr) (hx.sts none) λ g hg=>k2 g (hfps g hg).1
 ·simp only[CB.fp,List.nodup_cons]
  exact⟨λ hm=>by have:=(hfps _ hm).1;omega,hnd⟩
 ·intro g hg
  simp only[CB.fp,xH] at hg
  rcases hg with rfl|hg
  ·exact⟨by omega,.inl (zF _)⟩
  ·obtain⟨q1,b,x,cb,q2,q3,q4,q5⟩:=hfps g hg
   exact⟨by omega,.inr ⟨b,x,cb,.inr q2,q3,q4,q5⟩⟩
 ·intro hx
  exact .sl (sz:=K.size) (fp:=X.w.heap.size::fps) (by simp[C1])
end Go.Ev
namespace Go.Ev
variable{R:Type}{E:Env}{X:Cx}{P:Program}{t:Nat}{ti:TyI}{w:World}
theorem VRel.one{a:AV}{v:Value}(h:VRel X a v)(hp:a.plain=true)(hu:a≠.un):v.oneCell'=true:=by
 cases h<;>first|rfl|(simp[AV.plain] at hp;done)|exact(hu rfl).elim|(rename_i h;exact Fh.one h)
theorem G4{a:AV}{v:Value}(h:VRel X a v)(hs:Cz a=true):PRs X (B4 a) v.cells.toList []/\(∀p∈B4 a,p.norw=true)/\(∀u∈v.cells.toList,u.oneCell'=true):=by
 have key:PRs X (B4 a) v.cells.toList []/\(∀p∈B4 a,p.norw=true):=by
  have pl:a.plain=true->a≠.un->PRs X (B4 a) v.cells.toList []/\(∀p∈B4 a,p.norw=true):=by
   intro hp hu
   have h1:=h.one hp hu
   have e1:B4 a=[a]:=by cases a<;>first|rfl|simp[AV.plain] at hp
   have e2:v.cells.toList=[v]:=by cases v<;>first|rfl|simp[Value.oneCell'] at h1
   rw[e1,e2]
   refine⟨.one hp h1 h .nil, ?_⟩
   intro p hp'
   simp only[zN] at hp'
   subst hp'
   cases p<;>first|rfl|simp[AV.plain] at hp
  cases h with
  | agg h1 h2=>exact⟨by simpa[B4,Value.cells] using h1,h2⟩
  | arr h1 h2=>
   refine⟨?_,by simp[B4];rfl⟩
   have:=PRs.arr (X:=X) h1 h2 .nil
   simpa[B4,Value.cells] using this
  | un=>simp[Cz] at hs
  | tup=>simp[Cz,AV.plain] at hs
  | _=>exact pl rfl (by simp)
 exact⟨key.1,key.2,Pj key.1⟩
theorem Ajs{c:Cfg}(hC:Bk P c=true){s:St}{o:Oper}{nb:Nat}{cont:Cm R}{r:R}(hop:o.op=.alloc t)(h:Au c s o nb cont=some r):
  Res P c s o nb cont r λ s' k=>Au c s' o nb k:=by
 simp only[Au,hop] at h
 cases h1:tyI c t with
 | none=>rw[h1] at h;cases h
 | some ti=>
  rw[h1] at h
  simp only at h
  cases h2:look t c.bl with
  | none=>
   rw[h2] at h
   simp only at h
   refine⟨_,_,_,h, ?_,λ s' ha R' k=>by simp only[Au,hop,h1,h2],trivial⟩
   intro E X ac hs hR hT hF next Q hn
   subst hs
   obtain⟨z,e1,e2,_⟩:=(Bs hC h1).zero (w:=X.w)
   obtain⟨p1,p2⟩:=Q6 (X:=X) _ _ e2
   obtain⟨X',q1,q2⟩:=Ab6 (w':={X.w with heap:=X.w.heap.push (.cells z.cells t)}) hR hF p1 p2 rfl rfl rfl rfl
   unfold Oper.wp
   simp only[execOp,hop,Instr.alloc,Sem.run_bind,e1,Result.andThen_ok,newVar,newRow,run_newObj,Sem.run_pure,Oper.upon]
   have:=hn _ X' q2
   rw[q1] at this
   exact this
  | some u=>
   rw[h2] at h
   simp only at h
   split at h
   case h_2=>cases h
   rename_i K hz
   obtain⟨k1,h⟩:=Ao h
   have hne:t≠u:=by
    intro e
    rw[e,zW] at k1
    cases k1
   refine⟨_,_,_,h, ?_,λ s' ha R' k=>by simp only[Au,hop,h1,h2,hz,k1,chk,cond_true],trivial⟩
   intro E X ac hs hR hT hF next Q hn
   subst hs
   obtain⟨z,e1,e2,_⟩:=(Bs hC h1).zero (w:=X.w)
   obtain⟨p1,p2⟩:=Q6 (X:=X) _ _ e2
   have ez:z.cells= #[.pointer none,.slice none 0 0]:=by
    rw[hz] at p1
    have:z.cells.toList=[.pointer none,.slice none 0 0]:=by
     generalize z.cells.toList=cs at p1
     cases p1 with
     | one _ _ a3 a4=>
      cases a3
      cases a4 with
      | one _ _ b3 b4=>
       cases b3
       cases b4
       rfl
    rw[<-this,Array.toArray_toList]
   let w':World:={X.w with heap:=X.w.heap.push (.cells z.cells t)}
   have hh:w'.heap=X.w.heap.push (.cells z.cells t):=rfl
   obtain⟨j1,j2,j3⟩:=Ru hh
   have hN:Gh E X nb (.bld t u []) [] (.bld X.w.heap.size []) w' (λ _=>False) (C1 X nb (.bld t u []) [] (.bld X.w.heap.size []) w'):=
    ⟨rfl,rfl,rfl,rfl,hF,by simp,rfl,rfl,rfl,by omega,λ g hg _=>j2 g hg,λ g hg=>hg.elim⟩
   have hG:=hN.good (v:=.pb nb 0 []) (val:=.pointer (some ⟨X.w.heap.size,0,none⟩)) hR (λ _=>.bld ⟨.pointer none,.slice none 0 0,.inl rfl,by show w'.heap[X.w.heap.size]?=_;rw[j3,ez],World.ownsRow_nil _ _ _ _,rfl,hne⟩) (by simp[CB.fp])
    (λ g hg=>by
     simp only[CB.fp,zN] at hg
     subst hg
     exact⟨by omega,.inl (zF _)⟩)
    (λ hx=>by
     have:=VRel.pb (X:=C1 X nb (.bld t u []) [] (.bld X.w.heap.size []) w') (b:=nb) (o:=0) (p:=[]) (cb:=.bld X.w.heap.size []) (g:=X.w.heap.size) (og:=0) (by simp[C1]) rfl (by simp[PIn]) (.inl rfl)
     simpa[Bf] using this)
   unfold Oper.wp
   simp only[execOp,hop,Instr.alloc,Sem.run_bind,e1,Result.andThen_ok,newVar,newRow,run_newObj,Sem.run_pure,Oper.upon]
   exact hn _ _ (by simpa[By] using hG)
theorem Avs{c:Cfg}{s:St}{o:Oper}{nb:Nat}{cont:Cm R}{r:R}{x:Operand}(hop:o.op=.box t x)(h:Au c s o nb cont=some r):
  Res P c s o nb cont r λ s' k=>Au c s' o nb k:=by
 simp only[Au,hop] at h
 cases h1:tyI c t with
 | none=>rw[h1] at h;cases h
 | some ti=>
  rw[h1] at h
  simp only at h
  obtain⟨k1,h⟩:=Ao h
  have k1':=k1
  simp only[z9] at k1'
  refine⟨_,_,_,h, ?_, ?_,trivial⟩
  ·intro E X ac hs hR hT hF next Q hn
   subst hs
   obtain⟨p1,p2,_⟩:=G4 (Bh hT x) k1'.1
   obtain⟨X',q1,q2⟩:=Ab6 (w':={X.w with heap:=X.w.heap.push (.cells (ac.eval x).cells t)}) hR hF p1 p2 rfl rfl rfl rfl
   unfold Oper.wp
   simp only[execOp,hop,Instr.box,Sem.run_bind,newVar,newRow,run_newObj,Result.andThen_ok,Sem.run_pure,Oper.upon]
   have:=hn _ X' q2
   rw[q1] at this
   exact this
  ·intro s' ha R' k
   simp only[Au,hop,h1]
   rw[ha.ev x (by simp[hop,Op.operands])]
   simp only[k1,A3]
theorem Pc:∀K:Ki,(H4 K).length=K.size:=λ K=>B0 (w:=default) (S:=λ _=>False) (Jy default (λ _=>False) (λ _=>False) true K)
theorem Afe{z:Array Value}{n:Nat}:((xC (n*z.size)).map (z[·%z.size]!)).toList=(zI n z.toList).flatten:=by
 apply List.ext_getElem?
 intro i
 have hfl:∀(n i:Nat),((zI n z.toList).flatten)[i]?=if i<n*z.size then z[i%z.size]? else none:=by
  intro n
  induction n with
  | zero=>intro i;simp
  | succ n ih=>
   intro i
   rw[yO,List.flatten_cons,List.getElem?_append]
   by_cases h:i<z.toList.length
   ·have h':i<z.size:=by simpa using h
    rw[if_pos h,Nat.mod_eq_of_lt h',if_pos (by rw[zU];omega)]
    simp
   ·have h':¬i<z.size:=by simpa using h
    rw[if_neg h,ih]
    have e:(i-z.toList.length)%z.size=i%z.size:=by
     rw[show z.toList.length=z.size by simp]
     conv=>rhs;rw[show i=i-z.size+z.size by omega,Nat.add_mod_right]
    rw[e]
    by_cases h2:i<(n+1)*z.size
    ·rw[if_pos h2,if_pos (by rw[zU] at h2;simp;omega)]
    ·rw[if_neg h2,if_neg (by rw[zU] at h2;simp;omega)]
 rw[hfl]
 simp only[Array.toList_map,yT,List.getElem?_map,List.getElem?_range']
 by_cases h:i<n*z.size
 ·rw[List.getElem?_range h,if_pos h]
  have hz:0<z.size:=by
   rcases Nat.eq_zero_or_pos z.size with h0|h0
   ·rw[h0] at h;simp at h
   ·exact h0
  have hm:i%z.size<z.size:=Nat.mod_lt _ hz
  rw[zP,getElem!_pos z (i%z.size) hm,getElem?_pos z (i%z.size) hm]
 ·rw[if_neg h]
  simp[h]
end Go.Ev
namespace Go.Ev
variable{R:Type}{E:Env}{X:Cx}{P:Program}{t:Nat}{ti:TyI}{w:World}
theorem Af2{n:Int}(h0:0<=n)(h1:n<9223372036854775808):IntKind.i64.wrap n=n:=by
 have e1:(2:Int)^IntKind.i64.bits=18446744073709551616:=by decide
 have e2:(2:Int)^(IntKind.i64.bits-1)=9223372036854775808:=by decide
 unfold IntKind.wrap
 simp only[e1,e2]
 have e:n%(18446744073709551616:Int)=n:=Int.emod_eq_of_lt h0 (by omega)
 simp only[e]
 rw[if_neg]
 simp
 intro _
 omega
theorem Aa4{n b:Nat}(h:n<=Ar b):n*(b+1)<=70368744177664:=by
 unfold Ar at h
 exact zV (zH _ h) (Nat.div_mul_le_self _ _)
theorem Ani{te:TyI}{e:Nat}{K:Ki}(hu:P.underlying t=some (.slice e))(hTe:Df P e te)(hK:te.ki=some K){k k':IntKind}{n:Nat}(hn:n<=Ar te.bytes):
  ∃cs:Array Value,cs.toList=(zI n (H4 K)).flatten/\(Instr.makeSlice t (.int k n) (.int k' n)).run P w=.ok (.slice (some ⟨w.heap.size,0,none⟩) n n) {w with heap:=w.heap.push (.cells cs e)}:=by
 obtain⟨i,z,i1,i2,i3,i4,i5,i6⟩:=hTe.i
 have hb:=Aa4 hn
 have hn':(n:Int)<9223372036854775808:=by
  have:n*1<=n*(te.bytes+1):=yR _ (by omega)
  omega
 have hw:IntKind.i64.wrap (n:Int)=(n:Int):=Af2 (by omega) hn'
 have hti:(typeInfo e).run P w=.ok i w:=by simp[typeInfo,i1]
 obtain⟨z',e1,e2,e3⟩:=hTe.zero (w:=w)
 obtain⟨k1,k2⟩:=e3 K hK
 have hbig:¬((i.bytes:Int)*(n:Int)>2^48):=by
  have:n*te.bytes<=n*(te.bytes+1):=yR _ (by omega)
  have h2:(i.bytes:Int)*(n:Int)=((n*te.bytes:Nat):Int):=by rw[i3];simp[Int.mul_comm]
  rw[h2]
  omega
 have hzs:z'.cells.size=te.sz:=by
  have:=Pc K
  rw[k2,k1] at this
  simpa using this
 by_cases hz:n*te.sz=0
 ·refine⟨#[], ?_, ?_⟩
  ·rcases Nat.mul_eq_zero.1 hz with h|h
   ·subst h;simp
   ·have:H4 K=[]:=zQ (by rw[Pc,k1,h])
    rw[this]
    simp
  ·simp only[Instr.makeSlice,Sem.run_bind,Ay hu,Result.andThen_ok,asInt,asIntOf,Sem.run_pure,hti,hw,hTe.size]
   simp only[show¬((n:Int)<0) by omega,decide_false,xI,decide_eq_true_eq,hbig,show¬((n:Int)>(n:Int)) by omega,or_self,if_false,zK,run_askRoom,yV,hTe.size,hz,if_true,Sem.run_pure,Result.andThen_ok,Sem.run_bind,Sem.run_ite]
   simp only[newRow,Sem.run_bind,run_newObj,Result.andThen_ok,Sem.run_pure]
   simp[hTe.size,hz]
   have e0:(xC 0).map (λ _:Nat=>(default:Value))= #[]:=by apply yC;simp[yT]
   rw[e0]
 ·refine⟨(xC (n*te.sz)).map (z'.cells[·%z'.cells.size]!), ?_, ?_⟩
  ·rw[k2,<-hzs];exact Afe
  ·simp only[Instr.makeSlice,Sem.run_bind,Ay hu,Result.andThen_ok,asInt,asIntOf,Sem.run_pure,hti,hw,hTe.size]
   simp only[show¬((n:Int)<0) by omega,decide_false,xI,decide_eq_true_eq,hbig,show¬((n:Int)>(n:Int)) by omega,or_self,if_false,zK,run_askRoom,yV,hTe.size,hz,e1,Sem.run_pure,Result.andThen_ok,Sem.run_bind,Sem.run_ite]
   simp[newRow,hTe.size,hz,e1]
theorem Ad1(w:World)(Z:Nat->Prop)(K:Ki)(n:Nat):A0 w Z K (zI n K.zero) (zI n (H4 K)).flatten []:=Gi (Jy _ _ _ _ K) n
theorem Ya{s:St}{o:Oper}{nb:Nat}{te:TyI}{e:Nat}{K:Ki}{x y:Operand}(hop:o.op=.makeSlice t x y)(hu:P.underlying t=some (.slice e))(hTe:Df P e te)(hK:te.ki=some K){n:Int}
  (hx:∀X a,X.s=s->Jo X a->(∃k,a.eval x=.int k n)/\∃k,a.eval y=.int k n) (h0:0<=n) (hn:n.toNat<=Ar te.bytes):
  Wk P s o nb (.sl nb) [(nb,some (.cell false 0 [.rw K (zI n.toNat K.zero)]))]:=by
 intro E X ac hs hR hT hF next Q hnx
 obtain⟨⟨k,e1⟩,k',e2⟩:=hx X ac hs hT
 have hnn:n=(n.toNat:Int):=by omega
 rw[hnn] at e1 e2
 obtain⟨cs,q1,q2⟩:=Ani (P:=P) (w:=X.w) hu hTe hK (k:=k) (k':=k') hn
 have hlen:cs.size=n.toNat*K.size:=by
  have:=congrArg zJ q1
  rw[Iu (λ x c f hx=>B0 hx) (Ad1 X.w (X.S none) K n.toNat)] at this
  simpa using this
 obtain⟨X',r1,r2⟩:=P9 (w':={X.w with heap:=X.w.heap.push (.cells cs e)}) (K:=K) (l:=zI n.toNat K.zero) (cs:=cs) (fr:=(0,0)) (c:=n.toNat) (fps:=[]) (ks:=[]) hR hF (by simp)
  (by
   rw[yI (by simp[hlen]),q1]
   exact Ad1 X.w (X.S none) K n.toNat) (by simp) (by omega) (.inl rfl) (by simp) (by simp) rfl rfl rfl rfl
 unfold Oper.wp
 simp only[execOp,hop,e1,e2,Sem.run_bind,q2,Result.andThen_ok,Sem.run_pure,Oper.upon]
 have:=hnx _ X' (by simpa[By] using r2)
 rw[r1] at this
 simpa using this
theorem Zv{c:Cfg}(hC:Bk P c=true){s:St}{o:Oper}{nb:Nat}{cont:Cm R}{r:R}{x y:Operand}(hop:o.op=.makeSlice t x y)(h:Au c s o nb cont=some r):
  Res P c s o nb cont r λ s' k=>Au c s' o nb k:=by
 cases x with
 | tmp a=>
  cases y with
  | tmp b=>
   simp only[Au,hop] at h
   split at h
   case h_2=>cases h
   rename_i ti k n ht hn
   split at h
   case h_2=>cases h
   rename_i te hte
   split at h
   case h_2=>cases h
   rename_i K hK
   obtain⟨k1,h1⟩:=Ao h
   obtain⟨k2,h2⟩:=Ao h1
   obtain⟨k3,hc⟩:=Ao h2
   clear h h1 h2
   have k1':=k1
   have k2':=k2
   simp only[z9,decide_eq_true_eq] at k1' k2'
   have hab:=z8 k1'.2
   subst hab
   refine⟨_,_,_,hc,Ya hop ((Bs hC ht).slice k1'.1) (Bs hC hte) hK ?_ k2' (zG k3), ?_,trivial⟩
   ·intro X ac hs hT
    subst hs
    have:=Bh hT (.tmp a)
    rw[hn] at this
    generalize hv:ac.eval (.tmp a)=v at this
    cases this
    exact⟨⟨_,rfl⟩,_,rfl⟩
   ·intro s' ha R' k0
    simp only[Au,hop]
    rw[ha.ev (.tmp a) (by simp[hop,Op.operands]),ht,hn]
    simp only[hte,hK,k1,k2,k3,A3]
  | _=>simp[Au,hop,D3] at h
 | const a=>
  cases y with
  | const b=>
   simp only[Au,hop] at h
   split at h
   case h_2=>cases h
   rename_i ti k n k' m ht hn hm
   split at h
   case h_2=>cases h
   rename_i te hte
   split at h
   case h_2=>cases h
   rename_i K hK
   obtain⟨k1,h1⟩:=Ao h
   obtain⟨k2,h2⟩:=Ao h1
   obtain⟨k3,hc⟩:=Ao h2
   clear h h1 h2
   have k1':=k1
   have k2':=k2
   simp only[z9,decide_eq_true_eq,beq_iff_eq] at k1' k2'
   obtain⟨k11,rfl⟩:=k1'
   refine⟨_,_,_,hc,Ya hop ((Bs hC ht).slice k11) (Bs hC hte) hK ?_ k2' (zG k3), ?_,trivial⟩
   ·intro X ac hs hT
    have h1:=O0 (X:=X) a
    have h2:=O0 (X:=X) b
    rw[hn] at h1
    rw[hm] at h2
    simp only[Act.eval]
    cases h1
    cases h2
    exact⟨⟨_,rfl⟩,_,rfl⟩
   ·intro s' ha R' k0
    simp only[Au,hop,ht,hn,hm,hte,hK,k1,k2,k3,A3]
  | _=>simp[Au,hop,D3] at h
 | _=>simp[Au,hop,D3] at h
end Go.Ev
namespace Go.Ev
variable{R:Type}{E:Env}{X:Cx}{P:Program}{t:Nat}{ti:TyI}{w:World}
structure W2(X:Cx)(K:Ki)(l:List K.den)(av:Value):Prop where
 out:∃A c,av=.slice A l.length c/\l.length<=c/\(l.length=0\/∃g o cur ty fr S,A=some ⟨g,o,none⟩/\X.w.heap[g]?=some (.cells cur ty fr)/\o+l.length*K.size<=cur.size/\
  Cw (Rep X.w S (X.S none) K false) l (seg cur.toList o (l.length*K.size)) [])
theorem Rd{K:Ki}{l:List K.den}{S:Nat->Prop}{A:Option Addr}{c n:Nat}(hn:n=l.length)(h:RoS X.w S K.size n (λ cs=>Cw (Rep X.w S (X.S none) K false) l cs []) (.slice A n c)):W2 X K l (.slice A n c):=by
 obtain⟨A',c',e,hc,h⟩:=h
 cases e
 subst hn
 refine⟨A,c,rfl,hc, ?_⟩
 rcases h with h|⟨g,o,cur,ty,fr,q1,_,q3,q4,q5⟩
 ·exact .inl h
 ·exact .inr ⟨g,o,cur,ty,fr,S,q1,q3,q4,q5⟩
theorem Abg(R:Rel E X){K:Ki}{a:AV}{av:Value}{l:List K.den}(hv:VRel X a av)(h:Jg X.s K a=some l):W2 X K l av:=by
 cases hv<;>simp only[Jg] at h<;>(try cases h)
 ·exact⟨none,0,rfl,by simp,.inl rfl⟩
 ·exact⟨none,0,rfl,by simp,.inl rfl⟩
 ·rename_i b A n c sz fp hc
  split at h
  case h_2=>cases h
  rename_i K' l' hrow
  obtain⟨ro,ver,K2,l2,hl,e⟩:=Cc hrow
  cases e
  obtain⟨rfl,rfl⟩:=Gl h
  obtain⟨A',cc,fp',u1,u2,u3,u4⟩:=Ch R hl
  rw[u1] at hc
  cases hc
  obtain⟨_,_,k3⟩:=u2.ro (S:=λ _=>True) rfl (by simp)
  exact Rd rfl k3
 ·rename_i b o A A' n c sz fp hc ho
  split at h
  case h_2=>cases h
  rename_i K' l' hrow
  split at h
  case h_2=>cases h
  rename_i l2 hcast
  simp only[zB] at h
  subst h
  exact⟨A',0,by simp,by simp,.inl (by simp)⟩
 ·rename_i b o m g og n c c' sz fp hc h1 h2 h3
  split at h
  case h_2=>cases h
  rename_i K' l' hrow
  split at h
  case h_2=>cases h
  rename_i l2 hcast
  simp only[zB] at h
  subst h
  obtain⟨ro,ver,K2,l3,hl,e⟩:=Cc hrow
  cases e
  obtain⟨rfl,rfl⟩:=Gl hcast
  obtain⟨A',cc,fp',u1,u2,u3,u4⟩:=Ch R hl
  rw[u1] at hc
  cases hc
  simp only
  have hlen:((l'.drop o).take m).length=m:=by simp;omega
  obtain⟨A2,c2,e,u2⟩:=u2
  cases e
  refine⟨_,c',by rw[hlen],by omega, ?_⟩
  by_cases hm:m=0
  ·exact .inl (by omega)
  rcases u2 with⟨z,_⟩|⟨g',o',cur,fps,q1,q2,q3,q4,q5,q6⟩
  ·omega
  cases q1
  obtain⟨ty,fr,hg,_⟩:=q2
  have hmul:o*K'.size+m*K'.size<=l'.length*K'.size:=by rw[<-yL];exact zH _ h1
  have hmul2:=zH K'.size q3
  refine .inr ⟨g,og+o*K'.size,cur.toArray,ty,fr,λ _=>True,rfl,hg,by rw[hlen];simp;omega, ?_⟩
  have hro:=q6.ro (S:=λ _=>True) (by simp)
  obtain⟨f1,f2,e1,r1,r2⟩:=E0 (λ x c f hx=>B0 hx) o hro
  have e2:f2=[]:=(List.append_eq_nil_iff.1 e1.symm).2
  subst e2
  obtain⟨f3,f4,e3,r3,r4⟩:=E0 (λ x c f hx=>B0 hx) m r2
  have e4:f3=[]:=(List.append_eq_nil_iff.1 e3.symm).1
  subst e4
  rw[hlen]
  have:seg cur.toArray.toList (og+o*K'.size) (m*K'.size)=((seg cur og (l'.length*K'.size)).drop (o*K'.size)).take (m*K'.size):=by
   simp only[seg,zZ,yM,yN]
   congr 1
   omega
  rw[this]
  exact r3
 ·rename_i q K' l' A c h1 h2 h3 h4
  cases hval:valid X.s q<;>rw[hval] at h<;>simp only[cond_true,cond_false] at h
  ·cases h
  obtain⟨rfl,rfl⟩:=Gl h
  exact Rd rfl (h4 hval)
 ·rename_i b v i f K' l' A c h1 h2 h3 h4
  cases hval:valid X.s (.ver b v)<;>rw[hval] at h<;>simp only[cond_true,cond_false] at h
  ·cases h
  obtain⟨rfl,rfl⟩:=Gl h
  obtain⟨cb,f',hc,how,hfp⟩:=Y2 R (h4 hval)
  obtain⟨_,_,k3⟩:=how.ro (S:=λ _=>True) rfl (by simp)
  exact Rd rfl k3
theorem Rl{s s':St}{K:Ki}{a:AV}(hs:∀b∈Mg a,look b s'.st=look b s.st):Jg s' K a=Jg s K a:=by
 cases a<;>simp only[Jg]
 ·rw[Cf (hs _ (by simp[Mg]))]
 ·rw[Cf (hs _ (by simp[Mg]))]
 ·rename_i q K' l
  rw[It (q:=q) (s:=s) λ b hb=>hs b (by cases q<;>simp[Js] at hb;simp[Mg,hb])]
 ·rename_i b v i f K' l
  rw[It (q:=.ver b v) (s:=s) λ b' hb=>hs b' (by simp[Js] at hb;simp[Mg,hb])]
theorem Ac2{w:World}{S Z:Nat->Prop}{k:IntKind}{o:Bool}:∀{l:List Int} {cs:List Value} {fp:List Nat},Cw (Rep w S Z (.int k) o) l cs fp->cs=l.map (Value.int k)/\fp=[]
 | [],_,_,h=>⟨h.1,h.2⟩
 | x::l,_,_,⟨c1,c2,f1,f2,e1,e2,hx,hl⟩=>by
  obtain⟨h1,h2⟩:=Ac2 hl
  rw[e1,e2,hx.1,hx.2,h1,h2]
  exact⟨rfl,rfl⟩
theorem Vh{w:World}{Z:Nat->Prop}{k:IntKind}:∀l:List Int,A0 w Z (.int k) l (l.map (Value.int k)) []
 | []=>⟨rfl,rfl⟩
 | x::l=>⟨[.int k x],l.map (Value.int k),[],[],rfl,rfl,⟨rfl,rfl⟩,Vh l⟩
theorem Vc:∀(ns:List Int) (s:ByteArray),ns.foldl (λ r n=>r.push (UInt8.ofNat n.toNat)) s=⟨⟨s.data.toList++B2 ns⟩⟩
 | [],s=>by
  obtain⟨⟨l⟩⟩:=s
  simp[B2]
 | n::ns,s=>by
  rw[xE,Vc ns]
  simp[B2,ByteArray.push]
theorem W2.ints{k:IntKind}{l:List Int}{av:Value}(h:W2 X (.int k) l av):
  ∃A c,av=.slice A (zJ (α:=Int) l) c/\(zJ (α:=Int) l=0\/∃g o cur ty fr,A=some ⟨g,o,none⟩/\X.w.heap[g]?=some (.cells cur ty fr)/\o+zJ (α:=Int) l<=cur.size/\
   seg cur.toList o (zJ (α:=Int) l)=xL (α:=Int) (Value.int k) l):=by
 obtain⟨A,c,h1,hc,h⟩:=h.out
 refine⟨A,c,h1, ?_⟩
 rcases h with h|⟨g,o,cur,ty,fr,S,h2,hg,hle,hr⟩
 ·exact .inl h
 ·refine .inr ⟨g,o,cur,ty,fr,h2,hg, ?_, ?_⟩
  ·have:o+zJ (α:=Int) l*1<=cur.size:=hle
   omega
  ·have e:seg cur.toList o (zJ (α:=Int) l*1)=xL (α:=Int) (Value.int k) l:=(Ac2 hr).1
   rwa[Nat.mul_one] at e
theorem Ws{l:List Int}{av:Value}(h:W2 X (.int .u8) l av):(Conv.bytesToString av).run P X.w=.ok (.string ⟨⟨B2 l⟩⟩) X.w:=by
 obtain⟨A,c,e,h'⟩:=h.ints
 clear h
 subst e
 rcases h' with h|⟨g,o,cur,ty,fr,rfl,hg,hle,hr⟩
 ·have h0:l=[]:=zQ h
  subst h0
  cases A with
  | none=>rfl
  | some a=>
   have:=run_bytesToString (P:=P) X.w a 0 c [] (by simp[loadCells,loadCellsFrom])
   exact this
 ·have hl:=He (P:=P) hg o l.length hle
  rw[hr] at hl
  have h2:=run_bytesToString (P:=P) X.w ⟨g,o,none⟩ l.length c l hl
  rw[Vc] at h2
  exact h2
theorem Df.byte{te:TyI}{e:Nat}(h:Df P e te)(hb:Ov te=true):P.underlying e=some (.int .u8):=by
 unfold Ov at hb
 split at hb
 ·rename_i hk;exact h.int hk
 ·cases hb
end Go.Ev
namespace Go.Ev
variable{R:Type}{E:Env}{X:Cx}{P:Program}{t:Nat}{ti:TyI}{w:World}
theorem Acn{α:Type}(a:Array α)(x:α)(f:α->α):(a.push x).modify a.size f=a.push (f x):=by
 apply Array.ext_getElem?
 intro i
 rw[Array.getElem?_modify,Array.getElem?_push,Array.getElem?_push]
 by_cases h:i=a.size
 ·subst h;simp
 ·have h':¬a.size=i:=λ e=>h e.symm
  simp[h,h']
theorem Wt(e:Nat)(l:List UInt8):∃(c:Nat) (cs:Array Value) (w':World),l.length<=c/\c<=cs.size/\cs.toList.take l.length=(Bj l).map (Value.int .u8)/\
    (Conv.stringToBytes e ⟨⟨l⟩⟩).run P w=.ok (.slice (some ⟨w.heap.size,0,none⟩) l.length c) w'/\
    w'.heap=w.heap.push (.cells cs e (cs.size,cs.size+1))/\w'.os=w.os/\w'.tape=w.tape/\w'.output=w.output:=by
  have hsz:(⟨⟨l⟩⟩:ByteArray).size=l.length:=rfl
  let c:=(Question.appendCap l.length 0 e).cut (w.tape w.drawn (.appendCap l.length 0 e))
  let cs:Array Value:=(⟨⟨l⟩⟩:ByteArray).data.map (λ b=>Value.int .u8 b.toNat)++Array.replicate (c-l.length) (.int .u8 0)
  have hc:l.length<=c:=by simp only[c,Question.cut];omega
  have hcs:cs.size=c:=by simp[cs];omega
  let w1:World:={w with drawn:=w.drawn+1}
  let w2:World:={w1 with heap:=w1.heap.push (.cells cs e)}
  let w3:=w2.freeze {block:=w.heap.size,off:=cs.size} 1
  have hw3:w3.heap=w.heap.push (.cells cs e (cs.size,cs.size+1)):=by
    show(w2.freeze {block:=w.heap.size,off:=cs.size} 1).heap=_
    simp only[World.freeze,Nat.one_ne_zero,if_false]
    show(w.heap.push (.cells cs e)).modify w.heap.size _=_
    rw[Acn]
    rfl
  refine⟨c,cs,w3,hc,by omega, ?_, ?_,hw3, ?_, ?_, ?_⟩
  · simp[cs,Bj]
  · have h1:(choose (.appendCap l.length 0 e)).run P w=.ok c w1:=by
      simp only[choose,Sem.run,Question.forced,zK,if_false]
      rfl
    simp only[Conv.stringToBytes,Sem.run_bind,hsz,h1,Result.andThen_ok,newRow,run_newObj,Sem.run_pure,markStringish,run_shape]
    have h2:w2.shape? w.heap.size=some (e,cs.size):=by
      show(match(w.heap.push (.cells cs e))[w.heap.size]? with|some (.cells c elem _)=>some (elem,c.size)|_=>none)=_
      simp
    have h3:(World.shape? {heap:=w1.heap.push (Obj.cells cs e),tape:=w1.tape,drawn:=w1.drawn,os:=w1.os,output:=w1.output} w1.heap.size)=some (e,cs.size):=h2
    rw[h3]
    simp only[Sem.run_bind,run_freeze,Result.andThen_ok,Sem.run_pure]
    rfl
  · show w3.os=_;simp only[w3,World.freeze];rfl
  · show w3.tape=_;simp only[w3,World.freeze];rfl
  · show w3.output=_;simp only[w3,World.freeze];rfl
end Go.Ev
namespace Go.Ev
variable{R:Type}{E:Env}{X:Cx}{P:Program}{t:Nat}{ti:TyI}{w:World}
theorem Ab0(off:Nat):∀(vs:List Value) (j:Nat) (cs:Array Value),off+j+vs.length<=cs.size->
  ((vs.zipIdx j).foldl (λ(cs:Array Value) (x:Value×Nat)=>cs.setIfInBounds (off+x.2) x.1) cs).toList=Bl cs.toList (off+j) vs
 | [],j,cs,_=>by simp[Bl]
 | v::vs,j,cs,h=>by
  simp only[List.zipIdx_cons,xE]
  simp only[zS] at h
  rw[Ab0 off vs (j+1) _ (by simp;omega)]
  simp only[Bl,Array.toList_setIfInBounds]
  have hlt:off+j<cs.toList.length:=by simp;omega
  rw[show off+(j+1)=off+j+1 by omega,xF,xG]
  simp only[zS]
  rw[if_pos (by omega),show off+j+1+vs.length=off+j+(vs.length+1) by omega,zY hlt,yJ _ _ (by simp;omega)]
  have hmin:min (off+j) cs.toList.length=off+j:=yF (by omega)
  simp only[List.length_take,hmin,yU,List.set_cons_zero,zC,List.singleton_append,yY,xD]
theorem Ro{place:Nat->Option (Nat×Nat)}{cells:Array Value}{i off size:Nat}{v:Value}{rest:List (Nat×Value)}(hp:place i=some (off,size))(hs:v.cells.size=size)(hle:off+size<=cells.size):
  ∃cells':Array Value,cells'.toList=Bl cells.toList off v.cells.toList/\Instr.fill place cells ((i,v)::rest)=Instr.fill place cells' rest:=by
 refine⟨v.cells.zipIdx.foldl (λ cs (c,j)=>cs.setIfInBounds (off+j) c) cells, ?_, ?_⟩
 ·have:=Ab0 off v.cells.toList 0 cells (by simp;omega)
  rw[xK] at this
  rw[<-this]
  congr 1
  rw[<-Array.foldl_toList,Array.toList_zipIdx]
 ·have h1:¬(v.cells.size≠size||off+v.cells.size>cells.size)=true:=by simp[hs];omega
  rw[Instr.fill,hp]
  simp only
  rw[if_neg h1]
theorem Aax.pure{ps':List AV}{cs:List Value}{o n:Nat}{nc:List Value}(h:Aax X ps' cs [] o n nc [])(hn:nc.length=n):PRs X ps' (Bl cs o nc) []/\(∀a∈ps',a.norw=true)/\o+n<=cs.length:=by
 obtain⟨c1,c2,c3,f1,f2,f3,e1,e2,e3,e4,e5,e6⟩:=h.out
 have e7:f1=[]/\f2=[]/\f3=[]:=by
  have:=e2.symm
  simp only[zX] at this
  exact⟨this.1.1,this.1.2,this.2⟩
 obtain⟨rfl,rfl,rfl⟩:=e7
 refine⟨?_,e6, ?_⟩
 ·rw[e1,<-e3,Is _ _ _ _ (by omega)]
  simpa using e5
 ·rw[e1];simp;omega
inductive Pf (X:Cx):List (Nat×AV)->List (Nat×Value)->Prop
 | nil:Pf X [] []
 | cons {i:Nat} {a:AV} {v:Value} {as:List (Nat×AV)} {vs:List (Nat×Value)}:VRel X a v->Pf X as vs->Pf X ((i,a)::as) ((i,v)::vs)
theorem M1{ac:Act}(hT:Jo X ac):∀l:List (Nat×Operand),Pf X (l.map λ x=>(x.1,ev X.s x.2)) (l.map λ x=>(x.1,ac.eval x.2))
 | []=>.nil
 | y::l=>.cons (Bh hT y.2) (M1 hT l)
theorem Nh{fs:List Field}{sz:Nat}{offs:List Nat}{place:Nat->Option (Nat×Nat)}(ho:F5 P sz fs offs 0=true)
  (hplace:∀(i:Nat) (fd:Field) (j:TypeInfo),fs[i]?=some fd->P.info? fd.type=some j->place i=some (fd.offset,j.size)):
  ∀{as:List (Nat×AV)} {vs:List (Nat×Value)} {ps qs:List AV} {cells:Array Value},Pf X as vs->PRs X ps cells.toList []->(∀a∈ps,a.norw=true)->Iw sz offs as ps=some qs->
   ∃cells',Instr.fill place cells vs=some cells'/\PRs X qs cells'.toList []/\(∀a∈qs,a.norw=true)
 | _,_,ps,qs,cells,.nil,hp,hn,h=>by
  simp only[Iw,zB] at h
  subst h
  exact⟨cells,rfl,hp,hn⟩
 | _,_,ps,qs,cells, @Pf.cons _ i a v as vs h1 h2,hp,hn,h=>by
  simp only[Iw] at h
  cases hi:offs[i]? with
  | none=>rw[hi] at h;cases h
  | some off=>
   rw[hi] at h
   simp only at h
   cases hb:(Cz a&&zA (Ky (B4 a)) (Kh sz offs i))<;>rw[hb] at h<;>simp only[cond_true,cond_false] at h
   ·cases h
   simp only[z9] at hb
   have hsz:=z8 hb.2
   cases hq:E8 off ps (Ky (B4 a)) (B4 a) with
   | none=>rw[hq] at h;cases h
   | some qs1=>
    rw[hq] at h
    simp only at h
    obtain⟨p1,p2,p3⟩:=G4 h1 hb.1
    have hlen:=Mk p1 p2
    obtain⟨fd,j,q1,q2,q3,q4,q5,q6⟩:=Z1 ho hi
    have hW:=Ma hp hn p1 p2 hq
    obtain⟨r1,r2,r3⟩:=hW.pure hlen
    obtain⟨cells',e1,e2⟩:=Ro (place:=place) (cells:=cells) (v:=v) (rest:=vs) (hplace i fd j q1 q3) (by simp at hlen;omega) (by simp at r3 hlen;omega)
    rw[q2] at e1
    rw[<-e1] at r1
    obtain⟨c2,k1,k2,k3⟩:=Nh ho hplace h2 r1 r2 h
    exact⟨c2,by rw[e2];exact k1,k2,k3⟩
theorem Afo{fs:List Field}(h:∀f∈fs,∃j,P.info? f.type=some j):
  ∃pl:Array (Nat×Nat),((fs.toArray).mapM λ f=>do pure (f.offset,<-sizeOf f.type):Sem (Array (Nat×Nat))).run P w=.ok pl w/\∀(i:Nat) (fd:Field) (j:TypeInfo),fs[i]?=some fd->P.info? fd.type=some j->pl[i]?=some (fd.offset,j.size):=by
 have key:∀fs:List Field,(∀f∈fs,∃j,P.info? f.type=some j)->∃pl:List (Nat×Nat),(fs.mapM λ f=>do pure (f.offset,<-sizeOf f.type):Sem (List (Nat×Nat))).run P w=.ok pl w/\∀(i:Nat) (fd:Field) (j:TypeInfo),fs[i]?=some fd->P.info? fd.type=some j->pl[i]?=some (fd.offset,j.size):=by
  intro fs
  induction fs with
  | nil=>intro _;exact⟨[],rfl,by simp⟩
  | cons f fs ih=>
   intro h
   obtain⟨j,hj⟩:=h f (by simp)
   obtain⟨pl,e1,e2⟩:=ih λ g hg=>h g (by simp[hg])
   refine⟨(f.offset,j.size)::pl, ?_, ?_⟩
   ·have hs:(sizeOf f.type).run P w=.ok j.size w:=by simp[sizeOf,typeInfo,hj]
    simp only[List.mapM_cons,Sem.run_bind,hs,Result.andThen_ok,Sem.run_pure]
    rw[e1]
    rfl
   ·intro i fd j' hi hj'
    cases i with
    | zero=>simp at hi;subst hi;rw[hj] at hj';cases hj';rfl
    | succ i=>simpa using e2 i fd j' (by simpa using hi) hj'
 obtain⟨pl,e1,e2⟩:=key fs h
 refine⟨pl.toArray, ?_,by simpa using e2⟩
 rw[List.mapM_toArray]
 simp only[Sem.run_map,e1,Result.andThen_ok]
theorem Yd:∀{fs:List Field} {offs:List Nat} {sz o:Nat},F5 P sz fs offs o=true->∀f∈fs,∃j,P.info? f.type=some j
 | [],_,_,_,_,f,hf=>by simp at hf
 | g::fs,[],_,_,h,f,hf=>by simp[F5] at h
 | g::fs,p::ps,sz,o,h,f,hf=>by
  simp only[F5,z9] at h
  obtain⟨_,h3⟩:=h
  split at h3
  ·rename_i j hj
   simp only[z9] at h3
   rcases List.mem_cons.1 hf with rfl|hf
   ·exact⟨j,hj⟩
   ·exact Yd h3.2 f hf
  ·cases h3
end Go.Ev
