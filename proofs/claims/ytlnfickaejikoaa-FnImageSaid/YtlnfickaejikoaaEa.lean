/- An abstract evaluator of Go code over plain data, and the proof that what it says of a function comes to pass. Part 1. -/
import GoSem.Step
import GoSem.ClaimData
open Nat renaming beq->z8,eq_of_beq_eq_true->z9,ble->zA,blt->zD,testBit->zG
open Bool renaming and_eq_true->zB,and_self->zF
open List renaming range->zC,replicate->zE,length->zH
set_option linter.unusedVariables false
set_option linter.unusedSimpArgs false
namespace Go.Ev
inductive Tr where
 | nil
 | nd (lay ty:Nat) (bs:List Bool) (i j:Int) (l r:Tr)
 deriving Inhabited
def Tr.isNil:Tr->Bool
 | .nil=>true
 | _=>false
def Tr.is(T:Nat):Tr->Bool
 | .nil=>false
 | .nd _ ty .. =>z8 ty T
def Tr.lay:Tr->Nat
 | .nil=>0
 | .nd a .. =>a
def Tr.bs:Tr->List Bool
 | .nil=>[]
 | .nd _ _ b .. =>b
def Tr.i:Tr->Int
 | .nil=>0
 | .nd _ _ _ i .. =>i
def Tr.j:Tr->Int
 | .nil=>0
 | .nd _ _ _ _ j .. =>j
def Tr.l:Tr->Tr
 | .nil=>.nil
 | .nd _ _ _ _ _ l _=>l
def Tr.r:Tr->Tr
 | .nil=>.nil
 | .nd _ _ _ _ _ _ r=>r
inductive Ki where
 | int (k:IntKind)|bool|str
 | lst (e:Ki)
 | arr (n:Nat) (e:Ki)
 | pair (a b:Ki)|unit
 | tr
 | fl (e:Ki)
 deriving Inhabited
def Ki.den:Ki->Type
 | .int _=>Int|.bool=>Bool|.str=>List UInt8
 | .lst e=>List e.den|.arr _ e=>List e.den
 | .pair a b=>a.den×b.den|.unit=>Unit
 | .tr=>Tr
 | .fl e=>List e.den
def Ki.size:Ki->Nat
 | .int _|.bool|.str|.lst .. |.fl _=>1
 | .arr n e=>n*e.size
 | .pair a b=>a.size+b.size|.unit=>0
 | .tr=>1
def Ki.zero:(K:Ki)->K.den
 | .int _=>(0:Int)|.bool=>false|.str=>([]:List UInt8)
 | .lst _=>[]|.arr n e=>zE n e.zero
 | .pair a b=>(a.zero,b.zero)|.unit=>()
 | .tr=>Tr.nil
 | .fl _=>[]
def G1:IntKind->IntKind->Bool
 | .i8,.i8|.i16,.i16|.i32,.i32|.i64,.i64|.u8,.u8|.u16,.u16|.u32,.u32|.u64,.u64=>true
 | _,_=>false
def Ki.beq:Ki->Ki->Bool
 | .int a,.int b=>G1 a b
 | .bool,.bool|.str,.str|.unit,.unit|.tr,.tr=>true
 | .lst e,.lst e'=>e.beq e'
 | .fl e,.fl e'=>e.beq e'
 | .arr n e,.arr n' e'=>z8 n n'&&e.beq e'
 | .pair a b,.pair a' b'=>a.beq a'&&b.beq b'
 | _,_=>false
theorem Er{a b:IntKind}(h:G1 a b=true):a=b:=by cases a<;>cases b<;>first|rfl|cases h
theorem Ki.beq_eq:∀{a b:Ki},a.beq b=true->a=b
 | .int a,.int b,h=>by simp only[Ki.beq] at h;rw[Er h]
 | .bool,.bool,_|.str,.str,_|.unit,.unit,_|.tr,.tr,_=>rfl
 | .lst e,.lst e',h=>by
  simp only[Ki.beq] at h
  rw[Ki.beq_eq h]
 | .fl e,.fl e',h=>by
  simp only[Ki.beq] at h
  rw[Ki.beq_eq h]
 | .arr n e,.arr n' e',h=>by
  simp only[Ki.beq,zB] at h
  rw[z9 h.1,Ki.beq_eq h.2]
 | .pair a b,.pair a' b',h=>by
  simp only[Ki.beq,zB] at h
  rw[Ki.beq_eq h.1,Ki.beq_eq h.2]
def Ki.nest:Ki->Bool
 | .lst _=>true
 | .arr _ e=>e.nest
 | .pair a b=>a.nest||b.nest
 | .tr=>true
 | .fl _=>true
 | _=>false
def Ki.cpy:Ki->Bool
 | .lst _=>false
 | .arr _ e=>e.cpy
 | .pair a b=>a.cpy&&b.cpy
 | _=>true
def Ki.own(K:Ki):Bool:= !K.cpy
def Ki.shr(K:Ki):Bool:=K.nest&&K.cpy
theorem Ki.cpy_of{K:Ki}(h:K.own=false):K.cpy=true:=by simpa[Ki.own] using h
def eqI(a b:Int):Bool:=a==b
def eqB(a b:Bool):Bool:=a==b
def eqS(a b:List UInt8):Bool:=a==b
def eqL(a b:List Int):Bool:=a==b
def Ki.eqb:(K:Ki)->K.den->K.den->Bool
 | .int _=>eqI
 | .bool=>eqB
 | .str=>eqS
 | .arr _ (.int _)=>eqL
 | _=>λ _ _=>false
def De{α β:Type}(e:α->α->Bool)(k:α)(z:β):List (α×β)->β
 | []=>z
 | (a,x)::r=>bif e k a then x else De e k z r
def I6{α β:Type}(e:α->α->Bool)(k:α):List (α×β)->Bool
 | []=>false
 | (a,_)::r=>bif e k a then true else I6 e k r
def El{α β:Type}(e:α->α->Bool)(k:α):List (α×β)->Nat
 | []=>0
 | (a,_)::r=>bif e k a then 0 else El e k r+1
def Ii{α β:Type}(e:α->α->Bool)(k:α)(v:β):List (α×β)->List (α×β)
 | []=>[(k,v)]
 | (a,x)::r=>bif e k a then(k,v)::r else(a,x)::Ii e k v r
def Ait{α β:Type}(v:β):Nat->List (α×β)->List (α×β)
 | _,[]=>[]
 | 0,(a,_)::r=>(a,v)::r
 | i+1,p::r=>p::Ait v i r
def Ki.get(K:Ki)(l:List K.den)(i:Nat):K.den:=l.getD i K.zero
inductive Cj where
 | frz|reg (n:Nat)|ver (b v:Nat)
abbrev Hh:=List (Nat×Nat×Nat×Nat)
inductive AV where
 | un
 | bool (b:Bool)|int (k:IntKind) (n:Int)|str (s:List UInt8)
 | nils|nz (K:Ki)
 | sl (b:Nat)|ss (b o n:Nat)
 | ro (p:Cj) (K:Ki) (l:List K.den)
 | vw (b v i f:Nat) (K:Ki) (l:List K.den)
 | nl (K:Ki) (l:List K.den)
 | rw(K:Ki) (l:List K.den)
 | arr (n:Nat) (K:Ki) (l:List K.den)
 | nilp
 | pb (b o:Nat) (p:Hh)
 | pn (b v i f:Nat) (K:Ki) (l:List K.den) (p:Hh)
 | po (q:Cj) (K:Ki) (l:List K.den) (p:Hh)
 | pr (q:Cj) (ps:List AV) (o:Nat) (p:Hh)
 | agg (ps:List AV)
 | fn (f:Nat) (caps:List AV)|nilf
 | ifc (t:Nat) (v:AV)|nili
 | mp (b:Nat)|nilm
 | tr (q:Cj) (t:Tr)
 | tup (vs:List AV)
 | pan (t:Nat) (k:IntKind) (n:Int)
 deriving Inhabited
inductive Blk where
 | cell (ro:Bool) (ver:Nat) (ps:List AV)
 | map (KK VV:Ki) (l:List (KK.den×VV.den))
 | iter (m n:Nat) (ord:List Nat) (last:Nat)
 | bld (t u:Nat) (l:List UInt8)
structure St where
 tm:List (Nat×AV)
 st:List (Nat×Blk)
 nx:Nat
structure TyI where
 sz:Nat
 cls:Nat
 offs:List Nat
 elem:Nat
 alen:Nat
 bytes:Nat
 zero:List AV
 ki:Option Ki
structure Cfg where
 ty:List (Nat×TyI)
 wr:List (Nat×List Nat)
 tr:List (Nat×Nat):=[]
 bl:List (Nat×Nat):=[]
 wk:List Nat:=[]
def look{α:Type}(i:Nat):List (Nat×α)->Option α
 | []=>none
 | (j,x)::r=>bif z8 j i then some x else look i r
def getD{α:Type}(d:α)(i:Nat):List (Nat×α)->α
 | []=>d
 | (j,x)::r=>bif z8 j i then x else getD d i r
def put{α:Type}(i:Nat)(x:α):List (Nat×α)->List (Nat×α)
 | []=>[(i,x)]
 | (j,y)::r=>bif z8 j i then(j,x)::r else(j,y)::put i x r
def del{α:Type}(i:Nat):List (Nat×α)->List (Nat×α)
 | []=>[]
 | (j,y)::r=>bif z8 j i then r else(j,y)::del i r
def H0(i:Nat):List Nat->Bool
 | []=>false
 | j::r=>bif z8 j i then true else H0 i r
def big:Nat:=17592186044416
def Ar(bytes:Nat):Nat:=70368744177664/(bytes+1)
def AV.norw:AV->Bool
 | .rw .. =>false
 | _=>true
def AV.plain:AV->Bool
 | .agg _|.tup _|.arr .. |.nl .. |.rw .. |.pan .. =>false
 | _=>true
def AV.size:AV->Nat
 | .arr n K _=>n*K.size
 | _=>1
def E2(K K':Ki)(l:List K.den):Option (List K'.den):=
 match h:K.beq K' with
 | true=>some (Ki.beq_eq h▸l)
 | false=>none
def Br:(K:Ki)->K.den->List AV
 | .int k,n=>[.int k n]
 | .bool,b=>[.bool b]
 | .str,s=>[.str s]
 | .lst e,l=>[.nl e l]
 | .arr n e,l=>[.arr n e l]
 | .pair a b,d=>Br a d.1++Br b d.2
 | .unit,_=>[]
 | .tr,t=>[.tr .frz t]
 | .fl e,l=>[.ro .frz e l]
def A4:(K:Ki)->List AV->Option (K.den×List AV)
  | .int k,.int k' n::r=>bif G1 k k' then some (n,r) else none
  | .bool,.bool b::r=>some (b,r)
  | .str,.str s::r=>some (s,r)
  | .lst e,.nl e' l::r=>match E2 e' e l with|some l=>some (l,r)|none=>none
  | .lst e,.nils::r=>some (([]:List e.den),r)
  | .lst e,.nz _::r=>some (([]:List e.den),r)
  | .arr n e,.arr n' e' l::r=>bif z8 n n' then(match E2 e' e l with|some l=>some (l,r)|none=>none) else none
  | .pair a b,ps=>match A4 a ps with
    | some (x,r)=>match A4 b r with
      | some (y,r)=>some ((x,y),r)
      | none=>none
    | none=>none
  | .unit,r=>some ((),r)
  | .tr,.tr .frz t::r=>some (t,r)
  | .fl e,.ro .frz e' l::r=>match E2 e' e l with|some l=>some (l,r)|none=>none
  | .fl e,.nils::r=>some (([]:List e.den),r)
  | .fl e,.nz _::r=>some (([]:List e.den),r)
  | _,_=>none
def Dv(K:Ki)(ps:List AV):Option K.den:=
 match A4 K ps with
 | some (x,[])=>some x
 | _=>none
def Aw(o:Nat)(ps:List AV):Option (List AV):=
 match ps with
 | []=>bif z8 o 0 then some [] else none
 | p::r=>bif z8 o 0 then some (p::r) else bif zA p.size o then Aw (o-p.size) r else none
def Bo(n:Nat)(ps:List AV):Option (List AV):=
  match ps with
  | []=>bif z8 n 0 then some [] else none
  | p::r=>bif z8 n 0 then some [] else bif zA p.size n then(match Bo (n-p.size) r with|some x=>some (p::x)|none=>none) else none
def nav(n:Nat):Hh->Nat->List AV->Option (List AV)
 | [],o,ps=>match Aw o ps with
  | some r=>Bo n r
  | none=>none
 | (sz,N,i,o')::p,o,ps=>match Aw o ps with
  | some (.arr m K l::_)=>bif z8 sz K.size&&z8 m N then nav n p o' (Br K (K.get l i)) else none
  | some [.rw K l]=>bif z8 sz K.size then nav n p o' (Br K (K.get l i)) else none
  | _=>none
def E8(o:Nat)(ps:List AV)(n:Nat)(new:List AV):Option (List AV):=
  match ps with
  | []=>bif z8 o 0&&z8 n 0 then some new else none
  | p::r=>bif z8 o 0 then(match Aw n (p::r) with|some r=>some (new++r)|none=>none)
    else bif zA p.size o then(match E8 (o-p.size) r n new with|some x=>some (p::x)|none=>none) else none
def H1(n:Nat)(new:List AV):Hh->Nat->List AV->Option (List AV)
 | [],o,ps=>E8 o ps n new
 | (sz,N,i,o')::p,o,ps=>match Aw o ps with
  | some (.arr m K l::_)=>bif z8 sz K.size&&z8 m N&&zA 1 K.size then
    (match H1 n new p o' (Br K (K.get l i)) with
     | some qs=>match Dv K qs with
      | some d=>E8 o ps (m*K.size) [.arr m K (l.set i d)]
      | none=>none
     | none=>none) else none
  | some [.rw K l]=>bif z8 o 0 then bif z8 sz K.size then
    (match H1 n new p o' (Br K (K.get l i)) with
     | some qs=>match Dv K qs with
      | some d=>some [.rw K (l.set i d)]
      | none=>none
     | none=>none) else none else none
  | _=>none
end Go.Ev
namespace Go.Ev
def G3:Cj->Bool
 | .ver .. =>false
 | _=>true
def R7:Nat->AV->List Nat
 | 0,_=>[]
 | n+1,a=>match a with
  | .sl b|.ss b _ _|.pb b _ _|.mp b=>[b]
  | .vw b .. |.pn b .. =>[b]
  | .ro (.ver b _) _ _|.po (.ver b _) _ _ _=>[b]
  | .agg ps|.tup ps|.fn _ ps=>ps.flatMap (R7 n)
  | .pr (.ver b _) ps _ _=>b::ps.flatMap (R7 n)
  | .pr _ ps _ _=>ps.flatMap (R7 n)
  | .ifc _ v=>R7 n v
  | _=>[]
def Auj(b:Blk):List Nat:=match b with
 | .cell _ _ ps=>ps.flatMap (R7 8)
 | .map .. =>[]
 | .iter m .. =>[m]
 | .bld .. =>[]
def valid(s:St):Cj->Bool
 | .frz|.reg _=>true
 | .ver b v=>match look b s.st with
  | some (.cell _ v' [.rw K _])=>z8 v v'&&K.nest
  | _=>false
def Bq(s:St)(b:Nat):Option AV:=
 match look b s.st with
 | some (.cell _ _ [.rw K l])=>some (.rw K l)
 | _=>none
def chk{R:Type}(b:Bool)(k:Option R):Option R:=bif b then k else none
def Qf(s:St)(hs:List Nat)(p:Cj):Bool:=match p with
 | .ver b _=>valid s p&& !(H0 b hs)
 | _=>true
def atP(p:Cj):List Nat:=match p with
 | .ver b _=>[b]
 | _=>[]
def Nt:Cj->Cj
 | .frz=>.frz
 | .reg _=>.reg 1
 | .ver .. =>.reg 0
def Bn(s:St)(hs:List Nat):Nat->AV->Option (AV×List Nat)
 | 0,_=>none
 | n+1,a=>
  match a with
  | .un|.bool _|.int .. |.str _|.nils|.nilp|.nilf|.nili|.nilm|.arr .. =>some (a,[])
  | .nz K=>some (.ro .frz K [],[])
  | .sl b=>match Bq s b with
   | some (.rw K l)=>chk (!(H0 b hs)) (some (.ro (.reg 0) K l,[b]))
   | _=>none
  | .ss b o m=>match Bq s b with
   | some (.rw K l)=>chk (!(H0 b hs)) (some (.ro (.reg 0) K ((l.drop o).take m),[b]))
   | _=>none
  | .ro p K l=>chk (Qf s hs p) (some (.ro (Nt p) K l,atP p))
  | .vw b v _ _ K l=>chk (Qf s hs (.ver b v)) (some (.ro (.reg 0) K l,[b]))
  | .agg ps=>match snapL (Bn s hs n) ps with
   | some (qs,r)=>some (.agg qs,r)
   | none=>none
  | .pb b o []=>match look b s.st with
   | some (.cell _ _ ps)=>chk (!(H0 b hs||hasRow ps)) (match snapL (Bn s hs n) ps with
    | some (qs,r)=>some (.pr (.reg 0) qs o [],b::r)
    | none=>none)
   | _=>none
  | .pb b o [(sz,_,i,f)]=>match Bq s b with
   | some (.rw K l)=>chk (!(H0 b hs)&&(z8 sz K.size&&z8 o 0)) (match snapL snapP (Br K (K.get l i)) with
    | some (qs,_)=>some (.pr (.reg 0) qs f [],[b])
    | none=>none)
   | _=>none
  | .pr p ps o q=>match p with
   | .ver .. =>none
   | _=>match snapL (Bn s hs n) ps with
    | some (qs,r)=>some (.pr (Nt p) qs o q,r)
    | none=>none
  | .po p K l q=>chk (Qf s hs p) (some (.po (Nt p) K l q,atP p))
  | .tr p t=>chk (G3 p) (some (.tr (Nt p) t,[]))
  | .ifc t v=>match Bn s hs n v with
   | some (x,r)=>some (.ifc t x,r)
   | none=>none
  | _=>none
where
 snapP:AV->Option (AV×List Nat)
  | .nl K l=>some (.ro (.reg 0) K l,[])
  | .bool b=>some (.bool b,[])
  | .int k m=>some (.int k m,[])
  | .str t=>some (.str t,[])
  | .arr m K l=>bif K.nest then none else some (.arr m K l,[])
  | .ro .frz K l=>some (.ro .frz K l,[])
  | _=>none
 hasRow:List AV->Bool
  | []=>false
  | .rw .. ::_=>true
  | .nl .. ::_=>true
  | .arr _ K _::r=>K.nest||hasRow r
  | _::r=>hasRow r
 snapL (f:AV->Option (AV×List Nat)):List AV->Option (List AV×List Nat)
  | []=>some ([],[])
  | p::r=>match f p with
   | some (x,l)=>match snapL f r with
    | some (y,l')=>some (x::y,l++l')
    | none=>none
   | none=>none
def Iz(up:Bool):Cj->Option Cj
  | .frz=>some .frz
  | .reg n=>bif up then some (.reg (n+1)) else(match n with|0=>none|n+1=>some (.reg n))
  | .ver .. =>none
def pvR(sh:Nat)(m:List (Nat×Nat))(p:Cj):Option Cj:=
  match sh with
  | 0=>match p with
    | .ver b _=>match look b m with|some b'=>some (.ver b' 0)|none=>none
    | p=>some p
  | 1=>Iz true p
  | _=>Iz false p
def ren(ok:Nat->Nat->Bool)(sh:Nat)(m:List (Nat×Nat)):Nat->AV->Option AV
  | 0,_=>none
  | n+1,a=>
    let good (p:Cj):Bool:=match p with|.ver b v=>ok b v|_=>true
    let pv (p:Cj):Option Cj:=pvR sh m p
    match a with
    | .un|.bool _|.int .. |.str _|.nils|.nz _|.nilp|.nilf|.nili|.nilm|.arr .. |.nl .. |.rw .. |.pan .. =>some a
    | .sl b=>match look b m with|some b'=>some (.sl b')|none=>none
    | .ss b o k=>match look b m with|some b'=>some (.ss b' o k)|none=>none
    | .mp b=>match look b m with|some b'=>some (.mp b')|none=>none
    | .pb b o p=>match look b m with|some b'=>some (.pb b' o p)|none=>none
    | .vw b v i f K l=>match sh with
      | 0=>bif ok b v then(match look b m with|some b'=>some (.vw b' 0 i f K l)|none=>none) else some .un
      | _=>none
    | .pn b v i f K l p=>match sh with
      | 0=>bif ok b v then(match look b m with|some b'=>some (.pn b' 0 i f K l p)|none=>none) else some .un
      | _=>none
    | .ro p K l=>bif good p then(match pv p with|some p=>some (.ro p K l)|none=>none) else some .un
    | .po p K l q=>bif good p then(match pv p with|some p=>some (.po p K l q)|none=>none) else some .un
    | .pr p ps o q=>bif good p then(match pv p with
      | some p=>match ps.mapM (ren ok sh m n) with|some qs=>some (.pr p qs o q)|none=>none
      | none=>none) else some .un
    | .agg ps=>match ps.mapM (ren ok sh m n) with|some qs=>some (.agg qs)|none=>none
    | .tup ps=>match ps.mapM (ren ok sh m n) with|some qs=>some (.tup qs)|none=>none
    | .fn f ps=>match ps.mapM (ren ok sh m n) with|some qs=>some (.fn f qs)|none=>none
    | .ifc t v=>match ren ok sh m n v with|some x=>some (.ifc t x)|none=>none
    | .tr p t=>bif G3 p then(match pv p with|some p=>some (.tr p t)|none=>none) else none
def Lx(ok:Nat->Nat->Bool)(sh:Nat)(m:List (Nat×Nat)):Blk->Option Blk
 | .cell ro _ ps=>match ps.mapM (ren ok sh m 8) with
  | some qs=>some (.cell ro 0 qs)
  | none=>none
 | .map K V l=>some (.map K V l)
 | .iter b n ord last=>match look b m with
  | some b'=>some (.iter b' n ord last)
  | none=>none
 | .bld t u l=>some (.bld t u l)
def Tj(st:List (Nat×Blk)):Nat->List Nat->List Nat->List Nat
 | 0,_,acc=>acc
 | f+1,todo,acc=>match todo with
  | []=>acc
  | b::r=>bif H0 b acc then Tj st f r acc else
   match look b st with
   | some x=>Tj st f (r++Auj x) (acc++[b])
   | none=>Tj st f r acc
def Bi:Nat->List Nat->List (Nat×Nat)
 | _,[]=>[]
 | n,b::r=>(b,n)::Bi (n+1) r
def Hy(ok:Nat->Nat->Bool)(sh:Nat)(m:List (Nat×Nat))(st:List (Nat×Blk)):List Nat->Option (List Blk)
 | []=>some []
 | b::r=>match look b st with
  | some x=>match Lx ok sh m x with
   | some y=>match Hy ok sh m st r with
    | some z=>some (y::z)
    | none=>none
   | none=>none
  | none=>none
abbrev Upd:=List (Nat×Option Blk)
def A6:Upd->List (Nat×Blk)->List (Nat×Blk)
 | [],st=>st
 | (b,some x)::r,st=>A6 r (put b x st)
 | (b,none)::r,st=>A6 r (del b st)
def Qn:Value->AV
 | .bool b=>.bool b
 | .int k n=>.int k n
 | .string s=>.str s.data.toList
 | .pointer none=>.nilp
 | .slice none n c=>bif z8 n 0&&z8 c 0 then .nils else .un
 | .map none=>.nilm
 | .nilFunc=>.nilf
 | .nilIface=>.nili
 | _=>.un
def ev(s:St):Operand->AV
 | .tmp t=>getD .un t s.tm
 | .const v=>Qn v
 | .global _=>.un
 | .func f=>.fn f []
section
variable{R:Type}
def Aa(k:IntKind)(n:Int):Int:=k.wrap n
def Sy(op:BinOp)(k:IntKind)(a b:Int)(cont:AV->Option R):Option R:=
 match op with
 | .add=>cont (.int k (Aa k (a+b)))
 | .sub=>cont (.int k (Aa k (a-b)))
 | .mul=>cont (.int k (Aa k (a*b)))
 | .quo=>chk (!(b==0)) (cont (.int k (Aa k (a.tdiv b))))
 | .rem=>chk (!(b==0)) (cont (.int k (a.tmod b)))
 | .eql=>cont (.bool (a==b))
 | .neq=>cont (.bool (a !=b))
 | .lss=>cont (.bool (decide (a<b)))
 | .leq=>cont (.bool (decide (a<=b)))
 | .gtr=>cont (.bool (decide (a>b)))
 | .geq=>cont (.bool (decide (a>=b)))
 | .shl=>chk (decide (0<=b)) (cont (.int k (Aa k (a*2^min b.toNat k.bits))))
 | .shr=>chk (decide (0<=b)) (cont (.int k (a.fdiv (2^min b.toNat k.bits))))
 | .and=>cont (.int k (Aa k (BitVec.ofInt k.bits a&&&BitVec.ofInt k.bits b).toNat))
 | .or=>cont (.int k (Aa k (BitVec.ofInt k.bits a|||BitVec.ofInt k.bits b).toNat))
 | .xor=>cont (.int k (Aa k (BitVec.ofInt k.bits a^^^BitVec.ofInt k.bits b).toNat))
 | _=>none
def Qa:BinOp->Bool
 | .shl|.shr=>true
 | _=>false
def isNil:Operand->Bool
 | .const (.pointer none)|.const (.slice none _ _)|.const (.map none)|.const .nilFunc|.const .nilIface=>true
 | _=>false
def Wl(op:BinOp)(bt:Bool)(a b:AV)(cont:AV->Option R):Option R:=
 match a,b with
 | .int k m,.int k' n=>bif Qa op||G1 k k' then Sy op k m n cont else none
 | .str s,.str t=>match op with
  | .add=>chk (zA (s.length+t.length) big) (cont (.str (s++t)))
  | .eql=>cont (.bool (s==t))
  | .neq=>cont (.bool (!(s==t)))
  | _=>none
 | .bool p,.bool q=>match op with
  | .eql=>chk bt (cont (.bool (p==q)))
  | .neq=>chk bt (cont (.bool (!(p==q))))
  | _=>none
 | _,_=>none
def D3(bt:Nat->Bool)(s:St)(op:Op)(cont:AV->List Nat->Option R):Option R:=
 match op with
 | .move x|.assign x=>cont (ev s x) []
 | .pick x a b=>match ev s x with
  | .bool t=>bif t then cont (ev s a) [] else cont (ev s b) []
  | _=>none
 | .nilCheck x=>match ev s x with
  | .pb b o p=>cont (.pb b o p) []
  | .pn b v i f K l p=>cont (.pn b v i f K l p) []
  | .po q K l p=>cont (.po q K l p) []
  | .pr q ps o p=>cont (.pr q ps o p) []
  | .fn f cs=>cont (.fn f cs) []
  | _=>none
 | .binOp o t x y _=>Wl o (bt t) (ev s x) (ev s y) (λ v=>cont v [])
 | .unOp o _ x=>match o,ev s x with
  | .not,.bool b=>cont (.bool (!b)) []
  | .neg,.int k n=>cont (.int k (Aa k (0-n))) []
  | _,_=>none
 | .extract x i=>match ev s x with
  | .tup vs=>match vs[i]? with
   | some v=>cont v []
   | none=>none
  | _=>none
 | _=>none
end
end Go.Ev
namespace Go.Ev
def tyI(c:Cfg)(t:Nat):Option TyI:=look t c.ty
def Fd(ti:TyI):Bool:=
 match ti.cls,ti.zero with
 | 0,[.nz _]|0,[.nils]=>true
 | _,_=>false
def H9(ti:TyI):Option IntKind:=
 match ti.cls,ti.zero with
 | 0,[.int k _]=>some k
 | _,_=>none
def isK(ti:TyI)(k:IntKind):Bool:=match H9 ti with
 | some k'=>G1 k k'
 | none=>false
def Hp(ti:TyI):Bool:=
 match ti.cls,ti.zero with
 | 0,[.str _]=>true
 | _,_=>false
def Rv(c:Cfg)(t:Nat):Bool:=
 match tyI c t with
 | some ti=>match ti.cls,ti.zero with
  | 0,[.bool _]=>true
  | _,_=>false
 | none=>false
def notInt(c:Cfg)(t:Nat):Bool:=
 match tyI c t with
 | some ti=>match H9 ti with
  | some _=>false
  | none=>true
 | none=>false
def Aca(ti:TyI):Bool:=
 match ti.cls,ti.zero with
 | 0,[.nilp]=>true
 | _,_=>false
def Amr(ti:TyI):Bool:=
 match ti.cls,ti.zero with
 | 0,[.nili]=>true
 | 0,[.tr .frz .nil]=>true
 | _,_=>false
def J6(ti:TyI):Bool:=
 match ti.cls,ti.zero with
 | 0,[.nilm]=>true
 | _,_=>false
def R5(ti:TyI):Option Ki:=
 match ti.cls,ti.zero with
 | 0,[.int k n]=>bif n==0 then some (.int k) else none
 | 0,[.str []]=>some .str
 | 0,[.bool false]=>some .bool
 | _,_=>none
def Av9(c:Cfg)(ti:TyI):Option Ki:=
 match R5 ti with
 | some K=>some K
 | none=>match ti.cls,ti.zero,tyI c ti.elem with
  | 2,[.arr n (.int k) _],some te=>match H9 te with
   | some k'=>bif G1 k k'&&(z8 ti.alen n&&z8 te.sz 1) then some (.arr n (.int k)) else none
   | none=>none
  | _,_,_=>none
def S2(c:Cfg)(t:Nat):Option (Ki×Ki):=
 match tyI c t with
 | some ti=>match tyI c ti.alen,tyI c ti.elem with
  | some tk,some tv=>match Av9 c tk,R5 tv with
   | some K,some V=>bif J6 ti then some (K,V) else none
   | _,_=>none
  | _,_=>none
 | none=>none
def Aex:(K:Ki)->AV->Option K.den
 | .int k,.int k' n=>bif G1 k' k then some n else none
 | .bool,.bool b=>some b
 | .str,.str s=>some s
 | .arr n (.int k),.arr n' (.int k') l=>bif z8 n n'&&G1 k k' then some l else none
 | _,_=>none
def ofD:(K:Ki)->K.den->AV
 | .int k,n=>.int k n
 | .bool,b=>.bool b
 | .str,s=>.str s
 | .arr n (.int k),l=>.arr n (.int k) l
 | _,_=>.un
def Zo:Option Operand->Bool
 | none=>true
 | some (.const (.int ..))=>true
 | _=>false
def Ov(ti:TyI):Bool:=
 match H9 ti with
 | some .u8=>true
 | _=>false
def Jn(b v i:Nat):Nat->List AV->List AV
 | _,[]=>[]
 | f,.nl K l::r=>.vw b v i f K l::Jn b v i (f+1) r
 | f,p::r=>p::Jn b v i (f+p.size) r
def Ca(q:Cj):List AV->List AV
 | []=>[]
 | .nl K l::r=>.ro q K l::Ca q r
 | p::r=>p::Ca q r
def Fz(q:Cj):List AV->List AV
 | []=>[]
 | .nl K l::r=>.ro q K l::Fz q r
 | p::r=>p::Fz q r
def S6(cls:Nat)(ps:List AV):Option AV:=
 match cls,ps with
 | 0,[a]=>bif a.plain then some a else none
 | 1,ps=>some (.agg ps)
 | 2,[.arr n K l]=>some (.arr n K l)
 | _,_=>none
def J9(c:Cfg)(t:Nat)(a:AV):AV:=
 match a with
 | .nils=>match tyI c t with
  | some ti=>match tyI c ti.elem with
   | some te=>match te.ki with
    | some K=>.nz K
    | none=>.nils
   | none=>.nils
  | none=>.nils
 | .nili=>match tyI c t with
  | some ti=>match ti.zero with
   | [.tr .frz .nil]=>.tr .frz .nil
   | _=>.nili
  | none=>.nili
 | a=>a
def B4:AV->List AV
 | .agg ps=>ps
 | a=>[a]
def Ky:List AV->Nat
 | []=>0
 | p::r=>p.size+Ky r
def Aiz:List AV->Bool
 | []=>true
 | p::r=>zA 1 p.size&&Aiz r
def P7:AV->Bool
 | .nl .. =>false
 | .rw .. =>false
 | .arr _ K _=> !K.nest
 | _=>true
def C9:List AV->Bool
 | []=>true
 | p::r=>P7 p&&C9 r
def Ln(ps:List AV)(rd:List Nat):Option (List AV×List Nat):=bif C9 ps then some (ps,rd) else none
def loadAt(s:St)(n:Nat)(a:AV):Option (List AV×List Nat):=
  match a with
  | .pb b o p=>match look b s.st with
    | some (.cell _ v ps)=>match nav n p.reverse o ps with
      | some qs=>match p with
        | [(_,_,i,f)]=>(match ps with
          | [.rw K _]=>bif K.nest&&Aiz qs then Ln (Jn b v i f qs) [b] else Ln qs [b]
          | _=>Ln qs [b])
        | _=>Ln qs [b]
      | none=>none
    | _=>none
  | .pn b v _ _ K l p=>bif valid s (.ver b v) then(match nav n p.reverse 0 [.rw K l] with
      | some qs=>Ln (Ca (.ver b v) qs) [b]
      | none=>none) else none
  | .po q K l p=>bif valid s q then(match nav n p.reverse 0 [.rw K l] with
      | some qs=>Ln (Ca q qs) (match q with|.ver b _=>[b]|_=>[])
      | none=>none) else none
  | .pr q ps o p=>bif valid s q then(match nav n p.reverse o ps with
      | some qs=>Ln (Fz q qs) (match q with|.ver b _=>[b]|_=>[])
      | none=>none) else none
  | _=>none
def Cp(s:St):List AV->Option (List AV×List Nat)
 | []=>some ([],[])
 | p::r=>match Cp s r with
  | none=>none
  | some (qs,ks)=>match p with
   | .sl b=>match Bq s b with
    | some (.rw K l)=>some (.nl K l::qs,b::ks)
    | _=>none
   | .ss b o m=>match Bq s b with
    | some (.rw K l)=>some (.nl K ((l.drop o).take m)::qs,b::ks)
    | _=>none
   | .vw .. |.ro (.reg _) .. |.ro (.ver ..) .. |.pb .. |.pn .. |.po .. |.pr .. |.fn .. |.mp _|.agg _|.tup _=>none
   | p=>some (p::qs,ks)
def F4:List Nat->Bool
 | []=>true
 | a::r=> !(H0 a r)&&F4 r
def By(ks:List Nat):Upd:=ks.map λ b=>(b,none)
def Tq:List AV->Option Ki
 | [.rw K _]=>some K
 | _=>none
def Cz:AV->Bool
 | .agg _|.arr .. =>true
 | .un=>false
 | a=>a.plain
def storeAt(s:St)(n:Nat)(a v:AV):Option Upd:=
  let ps:=B4 v
  bif z8 (Ky ps) n&&Cz v then
  match a with
  | .pb b o []=>match look b s.st with
    | some (.cell false v qs)=>match Tq qs,H1 n ps [] o qs with
      | none,some qs'=>some [(b,some (.cell false v qs'))]
      | _,_=>none
    | _=>none
  | .pb b o p=>match look b s.st with
    | some (.cell false v qs)=>match Cp s ps with
      | some (ps',ks)=>bif F4 (b::ks) then(match H1 n ps' p.reverse o qs with
        | some qs'=>some ((b,some (.cell false (match Tq qs with|some K=>bif K.nest then v+1 else v|none=>v) qs'))::By ks)
        | none=>none) else none
      | none=>none
    | _=>none
  | .pn b v i f K l p=>bif valid s (.ver b v)&& !K.nest then(match look b s.st,Cp s ps with
    | some (.cell false v2 [.rw K0 l0]),some (ps',[])=>match H1 n ps' p.reverse 0 [.rw K l] with
      | some [.rw K' l']=>match E2 K' K l' with
        | some l2=>match E8 f (Br K0 (K0.get l0 i)) 1 [.nl K l2] with
          | some qs=>match Dv K0 qs with
            | some d=>some [(b,some (.cell false (v2+1) [.rw K0 (l0.set i d)]))]
            | none=>none
          | none=>none
        | none=>none
      | _=>none
    | _,_=>none) else none
  | _=>none
  else none
def Kf(a:AV)(o:Nat):Option AV:=
 match a with
 | .pb b x []=>some (.pb b (x+o) [])
 | .pb b x ((sz,n,i,f)::p)=>some (.pb b x ((sz,n,i,f+o)::p))
 | .pn b v i f K l ((sz,n,j,g)::p)=>some (.pn b v i f K l ((sz,n,j,g+o)::p))
 | .po q K l ((sz,n,j,g)::p)=>some (.po q K l ((sz,n,j,g+o)::p))
 | .pr q ps x []=>some (.pr q ps (x+o) [])
 | .pr q ps x ((sz,n,j,g)::p)=>some (.pr q ps x ((sz,n,j,g+o)::p))
 | _=>none
def W7(a:AV)(sz n i:Nat):Option AV:=
 match a with
 | .pb b x p=>some (.pb b x ((sz,n,i,0)::p))
 | .pn b v i' f K l p=>some (.pn b v i' f K l ((sz,n,i,0)::p))
 | .po q K l p=>some (.po q K l ((sz,n,i,0)::p))
 | .pr q ps x p=>some (.pr q ps x ((sz,n,i,0)::p))
 | _=>none
def Jg(s:St)(K:Ki)(a:AV):Option (List K.den):=
 match a with
 | .nils|.nz _=>some []
 | .sl b=>match Bq s b with
  | some (.rw K' l)=>E2 K' K l
  | _=>none
 | .ss b o n=>match Bq s b with
  | some (.rw K' l)=>match E2 K' K l with
   | some l=>some ((l.drop o).take n)
   | none=>none
  | _=>none
 | .ro p K' l=>bif valid s p then E2 K' K l else none
 | .vw b v _ _ K' l=>bif valid s (.ver b v) then E2 K' K l else none
 | _=>none
def B2(l:List Int):List UInt8:=l.map λ n=>UInt8.ofNat n.toNat
def Bj(s:List UInt8):List Int:=s.map λ b=>(b.toNat:Int)
def Gt(s:St)(K:Ki)(a:AV):Option (List K.den):=
 match K,a with
 | .int .u8,.str t=>some (Bj t)
 | K,a=>Jg s K a
def Js:Cj->List Nat
 | .ver b _=>[b]
 | _=>[]
def Gd:AV->List Nat
 | .sl b|.ss b _ _=>[b]
 | _=>[]
def Mg:AV->List Nat
 | .sl b|.ss b _ _=>[b]
 | .vw b .. =>[b]
 | .ro (.ver b _) _ _=>[b]
 | _=>[]
def F1:AV->Bool
 | .nils|.nz _|.sl _|.ss .. =>true
 | _=>false
def Aam:AV->Bool
 | .sl _|.nils|.nz _=>true
 | _=>false
def Aq(t:List UInt8)(i:Int):Int:=((t.getD i.toNat 0).toNat:Int)
section
variable{R:Type}
def Lp:AV->Option Int
 | .int _ n=>some n
 | _=>none
def inB(i:Int)(n:Nat):Bool:=decide (0<=i)&&decide (i<(n:Int))
def Zp(c:Cfg)(s:St)(t:Nat)(x i:AV)(cont:AV->List Nat->Option R):Option R:=
 match Lp i,tyI c t with
 | some i,some ti=>match tyI c ti.elem with
  | some te=>match x with
   | .sl b=>match Bq s b with
    | some (.rw K l)=>chk (Fd ti&&z8 K.size te.sz) (chk (inB i l.length) (cont (.pb b 0 [(K.size,0,i.toNat,0)]) [b]))
    | _=>none
   | .ss b o n=>match Bq s b with
    | some (.rw K _)=>chk (Fd ti&&z8 K.size te.sz) (chk (inB i n) (cont (.pb b 0 [(K.size,0,o+i.toNat,0)]) [b]))
    | _=>none
   | .ro p K l=>chk (Fd ti&&z8 K.size te.sz) (chk (inB i l.length) (cont (.po p K l [(K.size,0,i.toNat,0)]) []))
   | .vw b v j f K l=>chk (Fd ti&&z8 K.size te.sz) (chk (inB i l.length) (cont (.pn b v j f K l [(K.size,0,i.toNat,0)]) []))
   | x=>chk (z8 ti.cls 2) (chk (zA 2 ti.alen) (chk (inB i ti.alen) (match W7 x te.sz ti.alen i.toNat with
    | some a=>cont a []
    | none=>none)))
  | none=>none
 | _,_=>none
def Fg(lo hi:Option AV)(len:Nat)(mk:Nat->Nat->AV)(rd:List Nat)(cont:AV->List Nat->Option R):Option R:=
 match lo,hi with
 | none,none=>cont (mk 0 len) rd
 | some a,none=>match Lp a with
  | some a=>chk (decide (0<=a)&&decide (a<=(len:Int))) (cont (mk a.toNat len) rd)
  | none=>none
 | none,some b=>match Lp b with
  | some b=>chk (decide (0<=b)&&decide (b<=(len:Int))) (cont (mk 0 b.toNat) rd)
  | none=>none
 | some a,some b=>match Lp a,Lp b with
  | some a,some b=>chk (decide (0<=b)&&decide (b<=(len:Int))) (chk (decide (0<=a)&&decide (a<=b)) (cont (mk a.toNat b.toNat) rd))
  | _,_=>none
def I1(c:Cfg)(s:St)(t:Nat)(x:AV)(lo hi:Option AV)(cont:AV->List Nat->Option R):Option R:=
 match tyI c t with
 | some ti=>match x with
  | .str t=>chk (Hp ti) (Fg lo hi t.length (λ l h=>.str ((t.take h).drop l)) [] cont)
  | x=>match tyI c ti.elem with
   | some te=>match x with
    | .nils=>chk (Fd ti) (Fg lo hi 0 (λ _ _=>.nils) [] cont)
    | .nz K=>chk (Fd ti) (Fg lo hi 0 (λ _ _=>.nz K) [] cont)
    | .sl b=>match Bq s b with
     | some (.rw K l)=>chk (Fd ti&&z8 K.size te.sz) (Fg lo hi l.length (λ lo hi=>.ss b lo (hi-lo)) [b] cont)
     | _=>none
    | .ss b o n=>match Bq s b with
     | some (.rw K _)=>chk (Fd ti&&z8 K.size te.sz) (Fg lo hi n (λ lo hi=>.ss b (o+lo) (hi-lo)) [b] cont)
     | _=>none
    | .ro p K l=>chk (Fd ti&&z8 K.size te.sz) (Fg lo hi l.length (λ lo hi=>.ro p K ((l.take hi).drop lo)) [] cont)
    | .vw b v _ _ K l=>chk (Fd ti&&z8 K.size te.sz) (Fg lo hi l.length (λ lo hi=>.ro (.ver b v) K ((l.take hi).drop lo)) [] cont)
    | _=>none
   | none=>none
 | none=>none
def Na(s:St)(c:Cfg)(t:Nat)(a:AV):Option (Nat×List Nat):=
 match tyI c t with
 | some ti=>match a with
  | .str x=>bif Hp ti then some (x.length,[]) else none
  | .nils|.nz _=>bif Fd ti then some (0,[]) else none
  | .sl b=>match Bq s b with
   | some (.rw _ l)=>bif Fd ti then some (l.length,[b]) else none
   | _=>none
  | .ss _ _ n=>bif Fd ti then some (n,[]) else none
  | .ro _ _ l=>bif Fd ti then some (l.length,[]) else none
  | .vw _ _ _ _ _ l=>bif Fd ti then some (l.length,[]) else none
  | .nilm=>bif J6 ti then some (0,[]) else none
  | .mp b=>match look b s.st with
   | some (.map _ _ l)=>bif J6 ti then some (l.length,[b]) else none
   | _=>none
  | .arr .. |.pb .. |.pr .. =>bif z8 ti.cls 2 then some (ti.alen,[]) else none
  | _=>none
 | none=>none
def Ql(mx:Bool)(k:IntKind):Int->List AV->Option AV
 | a,[]=>some (.int k a)
 | a,.int k' b::r=>bif G1 k k' then Ql mx k (bif mx then(bif decide (b>a) then b else a) else(bif decide (b<a) then b else a)) r else none
 | _,_=>none
def Vp(mx:Bool):List AV->Option AV
 | .int k a::r=>Ql mx k a r
 | _=>none
def Eg(s:St)(K:Ki)(j:Nat):Nat->List (Nat×AV)->Option (List K.den×List Nat)
 | 0,[]=>some ([],[])
 | n+1,(i,x)::r=>bif z8 i j&&Cz x then
   (match Cp s (B4 x) with
   | some (ps,ks)=>match Dv K ps with
    | some d=>match Eg s K (j+1) n r with
     | some (l,ks')=>some (d::l,ks++ks')
     | none=>none
    | none=>none
   | none=>none) else none
 | _,_=>none
def Kh(sz:Nat):List Nat->Nat->Nat
 | [],_=>0
 | [o],0=>sz-o
 | o::p::_,0=>p-o
 | _::r,i+1=>Kh sz r i
def Iw(sz:Nat)(offs:List Nat):List (Nat×AV)->List AV->Option (List AV)
 | [],ps=>some ps
 | (i,x)::r,ps=>match offs[i]? with
  | some o=>bif Cz x&&z8 (Ky (B4 x)) (Kh sz offs i) then(match E8 o ps (Ky (B4 x)) (B4 x) with
   | some qs=>Iw sz offs r qs
   | none=>none) else none
  | none=>none
def K9(K:Ki)(n:Nat):List (Nat×AV)->List K.den->Option (List K.den)
 | [],l=>some l
 | (i,x)::r,l=>bif Cz x&&zD i n then(match Dv K (B4 x) with
  | some d=>K9 K n r (l.set i d)
  | none=>none) else none
abbrev Cm(R:Type):=AV->Upd->List Nat->Option R
def Ake{R:Type}(s:St)(ok:Bool)(x:AV)(cont:AV->Upd->List Nat->Option R):Option R:=
 match x with
 | .sl b=>match look b s.st with
  | some (.cell false v [.rw K l])=>chk (ok&&zA 1 l.length) (cont (.sl b) [(b,some (.cell false (v+1) [.rw K l]))] [])
  | _=>none
 | _=>none
def Awl{R:Type}(o:BinOp)(a:AV)(cont:AV->Option R):Option R:=
 match o,a with
 | .eql,.tr _ t=>cont (.bool t.isNil)
 | .neq,.tr _ t=>cont (.bool (!t.isNil))
 | .eql,.nili=>cont (.bool true)
 | .neq,.nili=>cont (.bool false)
 | .eql,.ifc _ _=>cont (.bool false)
 | .neq,.ifc _ _=>cont (.bool true)
 | _,_=>none
def Ek(L:Nat)(q:Cj)(t:Tr):List AV:=
 match L with
 | 0=>[.arr 256 .bool t.bs]
 | 1=>[.tr q t.l,.tr q t.r]
 | 2=>[.tr q t.l,.int .i64 t.i]
 | _=>[.tr q t.l,.int .i64 t.i,.int .i64 t.j,.un]
def Afy(L T:Nat)(ps:List AV):Option Tr:=
 match L,ps with
 | 0,[.arr n .bool l]=>bif z8 n 256 then some (.nd 0 T l 0 0 .nil .nil) else none
 | 1,[.tr .frz a,.tr .frz b]=>some (.nd 1 T [] 0 0 a b)
 | 2,[.tr .frz a,.int .i64 i]=>some (.nd 2 T [] i 0 a .nil)
 | 3,[.tr .frz a,.int .i64 i,.int .i64 j,u]=>bif u.plain then some (.nd 3 T [] i j a .nil) else none
 | _,_=>none
def F6:Nat->List AV->List (Nat×Nat)
 | _,[]=>[]
 | n,p::r=>match p with
  | .sl k=>(n,k)::F6 (n+1) r
  | p=>bif zA 1 p.size then F6 (n+p.size) r else []
def slAt(o:Nat)(x:Option Blk):Option Nat:=
 match x with
 | some (.cell _ _ ps)=>look o (F6 0 ps)
 | _=>none
def Fp(b o:Nat):Nat:=4294967296*(o+1)+b
def Wo(c:Nat):Option (Nat×Nat):=bif z8 (c/4294967296) 0 then none else some (c%4294967296,c/4294967296-1)
def G5(c:Nat):Nat:=c+18446744073709551616
def Wq(s:St)(a v:AV)(rd:List Nat):List Nat:=
 match a,v with
 | .pb b o [],.sl k=>match slAt o (look b s.st) with
  | some k'=>bif z8 k' k&&zD b 4294967296 then [Fp b o] else rd
  | none=>rd
 | _,_=>rd
def Au(c:Cfg)(s:St)(o:Oper)(nb:Nat)(cont:Cm R):Option R:=
  match o.op with
  | .load t a=>match tyI c t with
    | some ti=>match loadAt s ti.sz (ev s a) with
      | some (ps,rd)=>match S6 ti.cls ps with
        | some v=>cont v [] (Wq s (ev s a) v rd)
        | none=>none
      | none=>none
    | none=>none
  | .store t a v=>match tyI c t with
    | some ti=>match storeAt s ti.sz (ev s a) (J9 c t (ev s v)) with
      | some u=>cont .un u []
      | none=>none
    | none=>none
  | .fieldAddr t x f=>match tyI c t with
    | some ti=>bif z8 ti.cls 1 then(match ti.offs[f]? with
      | some off=>match Kf (ev s x) off with
        | some a=>cont a [] []
        | none=>none
      | none=>none) else none
    | none=>none
  | .indexAddr t x i=>Zp c s t (ev s x) (ev s i) (λ a rd=>cont a [] rd)
  | .index t x i=>match tyI c t with
    | some ti=>match ev s x,Lp (ev s i) with
      | .str t,some i=>chk (Hp ti) (chk (inB i t.length) (cont (.int .u8 (Aq t i)) [] []))
      | .arr n K l,some i=>match tyI c ti.elem,Br K (K.get l i.toNat) with
        | some te,[a]=>chk (z8 K.size 1&&z8 te.sz 1&&z8 te.cls 0&&z8 ti.cls 2&&z8 ti.alen n&&a.plain) (chk (inB i n) (cont a [] []))
        | _,_=>none
      | _,_=>none
    | none=>none
  | .slice t x lo hi none=>I1 c s t (ev s x) (lo.map (ev s)) (hi.map (ev s)) (λ a rd=>cont a [] rd)
  | .alloc t=>match tyI c t with
    | some ti=>match look t c.bl with
      | some u=>match ti.zero with
        | [.nilp,.nz _]=>chk (!(z8 t u)) (cont (.pb nb 0 []) [(nb,some (.bld t u []))] [])
        | _=>none
      | none=>cont (.pb nb 0 []) [(nb,some (.cell false 0 ti.zero))] []
    | none=>none
  | .box t v=>match tyI c t with
    | some ti=>chk (Cz (ev s v)&&z8 (Ky (B4 (ev s v))) ti.sz) (cont (.pb nb 0 []) [(nb,some (.cell false 0 (B4 (ev s v))))] [])
    | none=>none
  | .build t ps=>match tyI c t with
    | some ti=>match ti.cls with
      | 1=>match Iw ti.sz ti.offs (ps.toList.map λ(i,x)=>(i,ev s x)) ti.zero with
        | some qs=>cont (.agg qs) [] []
        | none=>none
      | 2=>match ti.zero,tyI c ti.elem with
        | [.arr n K l],some te=>bif z8 K.size te.sz then(match K9 K n (ps.toList.map λ(i,x)=>(i,ev s x)) l with
          | some l'=>cont (.arr n K l') [] []
          | none=>none) else none
        | _,_=>none
      | _=>none
    | none=>none
  | .buildSlice t n ps=>match tyI c t with
    | some ti=>match tyI c ti.elem with
      | some te=>match te.ki with
        | some K=>match Eg s K 0 n (ps.toList.map λ(i,x)=>(i,ev s x)) with
          | some (l,ks)=>bif Fd ti&&zA (n*te.sz) 16777216&&F4 ks then cont (.sl nb) ((nb,some (.cell false 0 [.rw K l]))::By ks) [] else none
          | none=>none
        | none=>none
      | none=>none
    | none=>none
  | .makeSlice t (.tmp a) (.tmp b)=>match tyI c t,ev s (.tmp a) with
    | some ti,.int _ n=>match tyI c ti.elem with
      | some te=>match te.ki with
        | some K=>chk (Fd ti&&z8 a b) (chk (decide (0<=n)) (chk (zA n.toNat (Ar te.bytes)) (cont (.sl nb) [(nb,some (.cell false 0 [.rw K (zE n.toNat K.zero)]))] [])))
        | none=>none
      | none=>none
    | _,_=>none
  | .makeSlice t (.const a) (.const b)=>match tyI c t,Qn a,Qn b with
    | some ti,.int _ n,.int _ m=>match tyI c ti.elem with
      | some te=>match te.ki with
        | some K=>chk (Fd ti&&n==m) (chk (decide (0<=n)) (chk (zA n.toNat (Ar te.bytes)) (cont (.sl nb) [(nb,some (.cell false 0 [.rw K (zE n.toNat K.zero)]))] [])))
        | none=>none
      | none=>none
    | _,_,_=>none
  | .convert t d x=>match tyI c t,tyI c d with
    | some ts,some ti=>match H9 ti,ev s x with
      | some k,.int _ n=>cont (.int k (Aa k n)) [] []
      | none,.str l=>bif Hp ti then cont (.str l) [] [] else(bif Fd ti then(match tyI c ti.elem with
        | some te=>bif Ov te then chk (zA l.length big) (cont (.sl nb) [(nb,some (.cell false 0 [.rw (.int .u8) (Bj l)]))] []) else none
        | none=>none) else none)
      | none,x=>bif Hp ti&&Fd ts then(match tyI c ts.elem with
        | some te=>bif Ov te then(match Jg s (.int .u8) x with
          | some l=>cont (.str (B2 l)) [] (Mg x)
          | none=>none) else none
        | none=>none) else Ake s (Fd ts&&z8 t d&&(match tyI c ts.elem with|some te=>Ov te|none=>false)) x cont
      | _,_=>none
    | _,_=>none
  | .makeMap t rv=>match S2 c t with
    | some (K,V)=>bif Zo rv then cont (.mp nb) [(nb,some (.map K V []))] [] else none
    | none=>none
  | .lookup t m k ok=>match S2 c t,ev s m with
    | some (K,V),.mp b=>match look b s.st with
      | some (.map K' V' l)=>match Aex K' (ev s k) with
        | some x=>bif K.beq K'&&V.beq V' then cont (bif ok then .tup [ofD V' (De K'.eqb x V'.zero l),.bool (I6 K'.eqb x l)] else ofD V' (De K'.eqb x V'.zero l)) [] [b] else none
        | none=>none
      | _=>none
    | _,_=>none
  | .range t x=>match S2 c t,ev s x with
    | some _,.mp b=>match look b s.st with
      | some (.map _ _ l)=>cont (.pb nb 0 []) [(nb,some (.iter b l.length (zC l.length) 0))] [b]
      | _=>none
    | _,_=>none
  | .entry x=>match ev s x with
    | .pb b 0 []=>match look b s.st with
      | some (.iter m n _ last)=>match look m s.st with
        | some (.map K V l)=>chk (z8 n l.length&&zA 1 last&&zA last l.length) (cont (.tup [ofD K (l.getD (last-1) (K.zero,V.zero)).1,ofD V (l.getD (last-1) (K.zero,V.zero)).2]) [] [b,m])
        | _=>none
      | _=>none
    | _=>none
  | .mapUpdate t m k v=>match S2 c t,ev s m with
    | some (K,V),.mp b=>match look b s.st with
      | some (.map K' V' l)=>match Aex K' (ev s k),Aex V' (ev s v) with
        | some x,some y=>bif K.beq K'&&V.beq V' then cont .un [(b,some (.map K' V' (Ii K'.eqb x y l)))] [] else none
        | _,_=>none
      | _=>none
    | _,_=>none
  | .mapEntry t m k=>match S2 c t,ev s m with
    | some (K,V),.mp b=>match look b s.st with
      | some (.map K' V' l)=>match Aex K' (ev s k) with
        | some x=>bif K.beq K'&&V.beq V' then cont (.tup [ofD V' (De K'.eqb x V'.zero l),.int .i64 (El K'.eqb x l:Int)]) [(b,some (.map K' V' (Ii K'.eqb x (De K'.eqb x V'.zero l) l)))] [] else none
        | none=>none
      | _=>none
    | _,_=>none
  | .entryStore t m i v=>match S2 c t,ev s m,ev s i with
    | some (K,V),.mp b,.int _ n=>match look b s.st with
      | some (.map K' V' l)=>match Aex V' (ev s v) with
        | some y=>bif K.beq K'&&V.beq V' then chk (inB n l.length) (cont .un [(b,some (.map K' V' (Ait y n.toNat l)))] []) else none
        | none=>none
      | _=>none
    | _,_,_=>none
  | .makeFunc (.func f) fs caps=>bif z8 fs.size 0 then cont (.fn f (caps.toList.map (ev s))) [] [] else none
  | .call cl=>match cl.callee with
    | .builtin .len=>match cl.args.toList,cl.argTypes.toList with
      | [x],[t]=>match Na s c t (ev s x) with
        | some (n,rd)=>cont (.int .i64 (n:Int)) [] rd
        | none=>none
      | _,_=>none
    | .builtin .min=>match Vp false (cl.args.toList.map (ev s)) with
      | some v=>cont v [] []
      | none=>none
    | .builtin .max=>match Vp true (cl.args.toList.map (ev s)) with
      | some v=>cont v [] []
      | none=>none
    | .builtin .append=>match cl.args.toList,cl.argTypes.toList with
      | [x,y],[t,t2]=>match tyI c t with
        | some ti=>bif Fd ti&&notInt c t2 then match tyI c ti.elem with
          | some te=>match te.ki with
            | some K=>match Jg s K (ev s x),Gt s K (ev s y) with
              | some l,some l'=>
                let ks:=Gd (ev s x)++(bif K.own then Gd (ev s y) else [])
                let rd:=bif K.own then [] else Mg (ev s y)
                bif F1 (ev s x)&&F4 (Gd (ev s x)++Mg (ev s y))&&(!K.own||Aam (ev s y)) then
                  chk (zA (l.length+l'.length) (Ar te.bytes)) (cont (.sl nb) ((nb,some (.cell false 0 [.rw K (l++l')]))::By ks) rd)
                else none
              | _,_=>none
            | none=>none
          | none=>none else none
        | none=>none
      | _,_=>none
    | _=>none
  | .binOp op t x (.const .nilIface) _=>match tyI c t with
    | some ti=>chk (Amr ti) (Awl op (ev s x) (λ v=>cont v [] []))
    | none=>none
  | .typeAssert x _ T true=>match ev s x,tyI c T,look T c.tr with
    | .tr q t,some ti,some L=>chk (Aca ti&&G3 q) (bif t.is T then chk (z8 t.lay L) (cont (.tup [.pr q (Ek L q t) 0 [],.bool true]) [] []) else cont (.tup [.nilp,.bool false]) [] [])
    | _,_,_=>none
  | .typeAssert x _ T false=>match ev s x,tyI c T with
    | .ifc T' (.int k n),some ti=>chk (z8 T' T&&isK ti k) (cont (.int k n) [] [])
    | _,_=>none
  | .makeInterface T x=>match ev s x,look T c.tr,tyI c T with
    | .int k n,_,some ti=>chk (isK ti k) (cont (.ifc T (.int k n)) [] [])
    | .pb b 0 [],some L,some ti=>match look b s.st with
      | some (.cell _ _ ps)=>match Afy L T ps with
        | some t=>chk (Aca ti) (cont (.tr .frz t) [(b,none)] [])
        | none=>none
      | _=>none
    | _,_,_=>none
  | .assign x=>cont (J9 c o.type (ev s x)) [] []
  | .move x=>cont (J9 c o.type (ev s x)) [] []
  | _=>D3 (Rv c) s o.op (λ v rd=>cont v [] rd)
abbrev Orc(R:Type):=Nat->List AV->List Blk->(AV->List (Option Blk)->List Blk->Option R)->Option R
def Zn(ws:List Nat)(j:Nat)(a:AV):Bool:=
 match a with
 | .fn .. =>true
 | _=>H0 j ws
def Vf(ws:List Nat):Nat->List AV->List Nat
 | _,[]=>[]
 | j,a::r=>(bif Zn ws j a then R7 8 a else [])++Vf ws (j+1) r
def Fo(_ _:Nat):Bool:=false
def Gk(s:St)(ws hs:List Nat)(m:List (Nat×Nat)):Nat->List AV->Option (List AV×List Nat)
 | _,[]=>some ([],[])
 | j,a::r=>match Gk s ws hs m (j+1) r with
  | some (r',l)=>bif Zn ws j a then(match ren Fo 1 m 8 a with
    | some a'=>some (a'::r',l)
    | none=>none) else(match Bn s hs 6 a with
   | some (a',l')=>some (a'::r',l'++l)
   | none=>none)
  | none=>none
def Ae6:List Nat->List Nat->Bool
 | [],_=>false
 | a::r,l=>H0 a l||Ae6 r l
def Nw(s:St)(b:Nat):Nat:=
 match look b s.st with
 | some (.cell _ v _)=>v
 | _=>0
def Ku(v:Nat):Blk->Blk
 | .cell ro _ ps=>.cell ro v ps
 | x=>x
def En(s:St)(m:List (Nat×Nat)):List (Nat×Nat)->List (Option Blk)->Option Upd
 | [],[]=>some []
 | (b,_)::r,none::q=>match En s m r q with
  | some u=>some ((b,none)::u)
  | none=>none
 | (b,_)::r,some x::q=>match Lx Fo 2 m x,En s m r q with
  | some y,some u=>some ((b,some (Ku (Nw s b+1) y))::u)
  | _,_=>none
 | _,_=>none
def R2(m:List (Nat×Nat)):Nat->List Blk->Option Upd
 | _,[]=>some []
 | n,x::r=>match Lx Fo 2 m x,R2 m (n+1) r with
  | some y,some u=>some ((n,some y)::u)
  | _,_=>none
def Rp:List (Nat×Nat)->List (Nat×Nat)
 | []=>[]
 | (a,b)::r=>(b,a)::Rp r
def Ff(m:Nat)(nb:Nat):Nat->List (Nat×Nat)
 | 0=>[]
 | n+1=>Ff m nb n++[(m+n,nb+n)]
def wkP:Cj->Cj
 | .reg _=>.reg 0
 | p=>p
def wk1(a:AV):AV:=
 match a with
 | .ro p K l=>.ro (wkP p) K l
 | .tr p t=>.tr (wkP p) t
 | a=>a
def wkA(a:AV):AV:=
 match a with
 | .agg ps=>.agg (ps.map wk1)
 | .pr p ps o q=>.pr (wkP p) (ps.map wk1) o q
 | a=>wk1 a
def wkL(b:Bool)(as:List AV):List AV:=bif b then as.map wkA else as
def Asx(c:Cfg)(C:Orc R)(s:St)(f:Nat)(args:List AV)(nb:Nat)(cont:Cm R):Option R:=
 let ws:=(look f c.wr).getD []
 let ids:=Tj s.st 64 (Vf ws 0 args) []
 let m:=Bi 0 ids
 match Gk s ws ids m 0 args,Hy Fo 1 m s.st ids with
 | some (as',lent),some bs=>
  chk (F4 ids) (C f (wkL (H0 f c.wk) as') bs λ v fin new=>
    let m':=Rp m++Ff ids.length nb new.length
    chk (zA new.length 16) (match ren Fo 2 m' 8 v,En s m' m fin,R2 m' nb new with
    | some v',some u,some u'=>cont v' (u++u') lent
    | _,_,_=>none))
 | _,_=>none
def Bm(u:Upd):List Nat:=u.map (·.1)
def fz1(s:St)(a:AV):Option (AV×List Nat):=
 match a with
 | .sl b=>match Bq s b with
  | some (.rw K l)=>some (.ro .frz K l,[b])
  | _=>none
 | .ss b o n=>match Bq s b with
  | some (.rw K l)=>some (.ro .frz K ((l.drop o).take n),[b])
  | _=>none
 | a=>some (a,[])
def fzL(s:St):List AV->Option (List AV×List Nat)
 | []=>some ([],[])
 | a::r=>match fz1 s a,fzL s r with
  | some (a',k),some (r',k')=>some (a'::r',k++k')
  | _,_=>none
def fzA(s:St)(a:AV):Option (AV×List Nat):=
 match a with
 | .agg ps=>match fzL s ps with
  | some (qs,k)=>some (.agg qs,k)
  | none=>none
 | a=>fz1 s a
def fzT(s:St):List Nat->Option (List (Nat×AV)×List Nat)
 | []=>some ([],[])
 | i::r=>match fzA s (getD .un i s.tm),fzT s r with
  | some (a,k),some (l,k')=>some ((i,a)::l,k++k')
  | _,_=>none
def Lw:List (Nat×AV)->List (Nat×AV)->List (Nat×AV)
 | [],tm=>tm
 | (i,x)::r,tm=>Lw r (put i x tm)
def Jt:List Operand->List Nat
 | []=>[]
 | .tmp t::r=>t::Jt r
 | _::r=>Jt r
def Kj(c:Cfg)(s:St)(o:Oper):List Nat×List Nat:=
 match o.op with
 | .store _ a v=>match ev s a with
  | .pb b _ (_::_)=>match Bq s b with
   | some (.rw K _)=>(bif K.shr then Jt [v] else [],[b])
   | _=>([],[b])
  | _=>([],[])
 | .buildSlice t _ ps=>match(tyI c t).bind λ ti=>tyI c ti.elem with
  | some te=>match te.ki with
   | some K=>(bif K.shr then Jt (ps.toList.map (·.2)) else [],[])
   | none=>([],[])
  | none=>([],[])
 | _=>([],[])
def fzE(c:Cfg)(s:St)(o:Oper)(nb:Nat)(cont:Cm R):Option R:=
 match Kj c s o with
 | ([],rb)=>Au c s o nb λ v u rd=>cont v u (rb++rd)
 | (sl,rb)=>match fzT s sl with
  | some (l,ks)=>chk (F4 ks) (Au c {s with tm:=Lw l s.tm,st:=A6 (By ks) s.st} o nb λ v u rd=>match rd with
   | []=>chk (!(Ae6 ks (Bm u))) (cont v (By ks++u) rb)
   | _=>none)
  | none=>none
def Qo(c:Cfg)(C:Orc R)(s:St)(o:Oper)(nb:Nat)(cont:Cm R):Option R:=
 match o.op with
 | .call cl=>match cl.callee with
  | .value x=>match ev s x with
   | .fn f caps=>chk (z8 cl.args.size cl.argTypes.size) (Asx c C s f ((cl.args.toList.zip cl.argTypes.toList).map (λ x=>J9 c x.2 (ev s x.1))++caps) nb cont)
   | _=>none
  | _=>fzE c s o nb cont
 | .panic x=>match ev s x with
  | .ifc t (.int k n)=>cont (.pan t k n) [] []
  | _=>none
 | _=>fzE c s o nb cont
abbrev Rec:=Nat×List Nat×List Nat
def binds(o:Oper):List Nat:=(o.after.toList.filter (Region.binds .any)).map (·.on)
def Dl:List Oper->List Nat->List Nat
 | [],acc=>acc
 | o::r,acc=>Dl r (acc++[(binds o).foldl (λ x j=>x|||2^j|||acc.getD j 0) 0])
def Ag4(w r:Rec):Bool:=r.2.1.any λ c=>match Wo c with
 | some (b,_)=>H0 b w.2.2&& !(H0 (G5 c) w.2.1)
 | none=>false
def Je(x y:Rec):Bool:=(Ae6 x.2.2 y.2.1||Ae6 x.2.2 y.2.2||Ae6 x.2.1 y.2.2)||(Ag4 x y||Ag4 y x)
def Gp(pr:List Nat):List Rec->Bool
 | []=>true
 | x::r=>r.all (λ y=> !(Je x y)||zG (pr.getD y.1 0) x.1)&&Gp pr r
def Vk(s:St)(b:Nat)(ps:List AV):List (Nat×Nat)->List Nat
 | []=>[]
 | (o,_)::r=>match slAt o (look b s.st),look o (F6 0 ps) with
  | some k,some k'=>bif z8 k k' then G5 (Fp b o)::Vk s b ps r else Vk s b ps r
  | _,_=>Vk s b ps r
def Hq(s:St):Upd->List Nat
 | []=>[]
 | (b,some (.cell _ _ ps))::r=>(bif zD b 4294967296&& !(H0 b (Bm r)) then Vk s b ps (F6 0 ps) else [])++Hq s r
 | _::r=>Hq s r
def Kq:List Nat->Bool
 | []=>true
 | c::r=>zD c 18446744073709551616&&Kq r
def Vw(c:Cfg)(C:Orc R)(all:List Oper)(nb:Nat):Nat->List Oper->St->List Rec->(St->List Rec->Option R)->(Nat->IntKind->Int->St->List Rec->Bool->Option R)->Option R
  | _,[],s,rec,k,_=>k s rec
  | i,o::r,s,rec,k,kp=>
    let go (s:St):Option R:=
      Qo c C s o (nb+16*i) λ v u rd=>match v with
        | .pan t k' n=>kp t k' n {s with st:=A6 u s.st} rec r.isEmpty
        | v=>bif Kq rd then Vw c C all nb (i+1) r {s with tm:=(match o.dst with|some d=>put d v s.tm|none=>s.tm),st:=A6 u s.st} (rec++[(i,rd++Hq s u,Bm u)]) k kp else none
    match o.guard with
    | none=>go s
    | some (j,want)=>match(all[j]?).bind (·.dst) with
      | none=>none
      | some d=>match getD .un d s.tm with
        | .bool b=>
          let off (s:St):Option R:=Vw c C all nb (i+1) r {s with tm:=(match o.dst with|some d=>put d (.tup []) s.tm|none=>s.tm)} rec k kp
          bif b then(let s':={s with tm:=put d (.bool true) s.tm};bif want then go s' else off s')
          else(let s':={s with tm:=put d (.bool false) s.tm};bif want then off s' else go s')
        | .tup []=>Vw c C all nb (i+1) r {s with tm:=(match o.dst with|some d=>put d (.tup []) s.tm|none=>s.tm)} rec k kp
        | _=>none
inductive Ex where
 | normal|exit (id:Nat)|ret
 | pan (t:Nat) (k:IntKind) (n:Int)
def Zu(all:List Oper):Bool:=(zC (all.length-1)).all λ k=>zG ((Dl all []).getD (all.length-1) 0) k
abbrev Kc(R:Type):=Nat->St->(Ex->St->Option R)->Option R
def cnt(b:Nat):List Nat->Nat
 | []=>0
 | a::r=>bif z8 a b then cnt b r+1 else cnt b r
def La(m:Nat)(all:List Nat)(a:AV)(s:St):AV×St:=
 match a with
 | .nz K=>(.sl s.nx,{s with st:=put s.nx (.cell false 0 [.rw K []]) s.st,nx:=s.nx+1})
 | .ss b o n=>bif z8 (cnt b all) 1 then
   (match look b s.st with
   | some (.cell false _ [.rw K l])=>(.sl s.nx,{s with st:=put s.nx (.cell false 0 [.rw K ((l.drop o).take n)]) (del b s.st),nx:=s.nx+1})
   | _=>(.ss b o n,s))
   else(.ss b o n,s)
 | .sl b=>bif zD b m&&z8 (cnt b all) 1 then
   (match look b s.st with
   | some (.cell false _ [.rw K l])=>(.sl s.nx,{s with st:=put s.nx (.cell false 0 [.rw K l]) (del b s.st),nx:=s.nx+1})
   | _=>(.sl b,s))
   else(.sl b,s)
 | a=>(a,s)
def F2(m:Nat)(all:List Nat):List AV->St->List AV×St
 | [],s=>([],s)
 | a::r,s=>match La m all a s with
  | (a',s')=>match F2 m all r s' with
   | (r',s'')=>(a'::r',s'')
def Uk(all:List Nat)(a:AV)(s:St):AV×St:=
 match a with
 | .agg ps=>match F2 0 all ps s with
  | (qs,s')=>(.agg qs,s')
 | a=>La 0 all a s
def Og(all:List Nat):List AV->St->List AV×St
 | [],s=>([],s)
 | a::r,s=>match Uk all a s with
  | (a',s')=>match Og all r s' with
   | (r',s'')=>(a'::r',s'')
def Rh(all:List Nat)(a:AV)(s:St):AV×St:=
 match a with
 | .tup vs=>match Og all vs s with
  | (qs,s')=>(.tup qs,s')
 | a=>Uk all a s
def Oe(m:Nat)(all:List Nat):List Nat->St->St
 | [],s=>s
 | b::r,s=>match look b s.st with
  | some (.cell ro v ps)=>match Tq ps with
   | some _=>Oe m all r s
   | none=>match F2 m all ps s with
    | (qs,s')=>Oe m all r {s' with st:=put b (.cell ro v qs) s'.st}
  | _=>Oe m all r s
def Of(all:List Nat):List (Nat×AV)->St->List (Nat×AV)×St
 | [],s=>([],s)
 | (i,a)::r,s=>match Rh all a s with
  | (a',s')=>match Of all r s' with
   | (r',s'')=>((i,a')::r',s'')
def D2{α:Type}:Nat->List α->List (Nat×α)
 | _,[]=>[]
 | n,x::r=>(n,x)::D2 (n+1) r
def Yi(m:Nat)(s:St)(roots:List Nat):Option (List (Nat×Nat)×List (Nat×Blk)×List Blk):=
 let ids:=Tj s.st 64 (zC m++roots) []
 let old:=ids.filter λ b=>zD b m
 let new:=ids.filter λ b=> !(zD b m)
 let nm:=(old.map λ b=>(b,b))++Bi m new
 let ok:=λ b v=>valid s (.ver b v)
 match Hy ok 0 nm s.st old,Hy ok 0 nm s.st new with
 | some os,some ns=>chk (F4 ids) (some (nm,old.zip os++D2 m ns,ns))
 | _,_=>none
def Lv(st:List (Nat×Blk)):List Nat->List Nat
  | []=>[]
  | b::r=>(match look b st with|some x=>Auj x|none=>[])++Lv st r
def Anb(ok:Nat->Nat->Bool)(nm:List (Nat×Nat)):List (Nat×AV)->Option (List (Nat×AV))
 | []=>some []
 | (i,a)::r=>match ren ok 0 nm 8 a,Anb ok nm r with
  | some a',some r'=>some ((i,a')::r')
  | _,_=>none
def fzP:Nat->Cj
 | 0=>.frz
 | _=>.reg 0
def Ab1(md:Nat)(a:AV)(s:St):AV×St:=
 match a with
 | .nz K=>(.ro (fzP md) K [],s)
 | .sl b=>match look b s.st with
  | some (.cell false _ [.rw K l])=>(.ro (fzP md) K l,{s with st:=del b s.st})
  | _=>(.sl b,s)
 | .ss b o n=>match look b s.st with
  | some (.cell false _ [.rw K l])=>(.ro (fzP md) K ((l.drop o).take n),{s with st:=del b s.st})
  | _=>(.ss b o n,s)
 | .ro q K l=>bif G3 q&& !(z8 md 0) then(.ro (.reg 0) K l,s) else(.ro q K l,s)
 | .tr q t=>bif G3 q&& !(z8 md 0) then(.tr (.reg 0) t,s) else(.tr q t,s)
 | a=>(a,s)
def Rq(md:Nat):List AV->St->List AV×St
 | [],s=>([],s)
 | a::r,s=>match Ab1 md a s with
  | (a',s')=>match Rq md r s' with
   | (r',s'')=>(a'::r',s'')
def Aqz(md:Nat)(a:AV)(s:St):AV×St:=
 match a with
 | .agg ps=>match Rq md ps s with
  | (qs,s')=>(.agg qs,s')
 | a=>Ab1 md a s
def Amb:List (Nat×Nat)->St->St
 | [],s=>s
 | (i,md)::r,s=>match Aqz md (getD .un i s.tm) s with
  | (a,s')=>Amb r {s' with tm:=put i a s'.tm}
def Acq(m:Nat)(slots:List Nat)(s:St):Option St:=
 let keep:=slots.map λ i=>(i,getD .un i s.tm)
 let rs:=keep.flatMap λ x=>R7 8 x.2
 let ids:=Tj s.st 64 (zC m++rs) []
 let all:=rs++Lv s.st ids
 match Of all keep s with
 | (keep,s1)=>
  let s2:=Oe m all ids s1
  match Yi m s2 (keep.flatMap λ x=>R7 8 x.2) with
  | some (nm,st,ns)=>match Anb (λ b v=>valid s2 (.ver b v)) nm keep with
   | some tm=>some {tm,st,nx:=m+ns.length}
   | none=>none
  | none=>none
def Qm(m:Nat)(fz:List (Nat×Nat))(slots:List Nat)(s:St):Option St:=Acq m slots (Amb fz s)
structure Enc(X:Type) where
 D:Type
 to:D->X
 of:X->Option D
 ok:∀x d,of x=some d->x=to d
 ko:∀d,of (to d)=some d
structure A1 where
 lp:List (Nat×List Nat×List Nat)
 fz:List (Nat×Nat):=[]
 rz:List (Nat×Nat):=[]
 keep:Bool:=false
 jn:List (Nat×List Nat×Enc St):=[]
def jn{D:Type}(f:D->Option R)(d:D):Option R:=f d
def Ams(i:Nat):List (Nat×List Nat×Enc St)->Option (List Nat×Enc St)
 | []=>none
 | (j,x)::r=>bif z8 j i then some x else Ams i r
def Qb(m:Nat)(h:A1)(i:Nat)(k:Ex->St->Option R):Ex->St->Option R:=match Ams i h.jn with
 | none=>k
 | some (o,e)=>λ x s=>match x with
  | .normal=>match Qm m h.fz o s with
   | some s2=>match e.of s2 with
    | some d=>jn (λ d=>k .normal (e.to d)) d
    | none=>none
   | none=>none
  | x=>k x s
def Axt:Operand->Nat
 | .tmp n=>2*n+1
 | _=>1
def Fj(c:Cfg)(C:Orc R)(L:Kc R)(m:Nat)(h:A1):Nat->Code->St->(Ex->St->Option R)->Option R
 | _,.skip,s,k=>k .normal s
 | _,.label _,s,k=>k .normal s
 | _,.region id ops draw,s,k=>Vw c C ops.toList s.nx 0 ops.toList s [] (λ s' rec=>
   let s'':={s' with nx:=s.nx+16*ops.size}
   bif draw then(bif Gp (Dl ops.toList []) rec then Qb m h (2*id) k .normal s'' else none) else Qb m h (2*id) k .normal s'') λ t k' n s' rec last=>
   let s'':={s' with nx:=s.nx+16*ops.size}
   bif draw then(bif last&&Zu ops.toList&&Gp (Dl ops.toList []) rec then Qb m h (2*id) k (.pan t k' n) s'' else none) else Qb m h (2*id) k (.pan t k' n) s''
 | b,.seq x y,s,k=>Fj c C L m h b x s λ e s'=>match e with
  | .normal=>Fj c C L m h b y s' k
  | e=>k e s'
 | b,.cond x t f,s,k=>match ev s x with
  | .bool v=>bif v then Fj c C L m h b t s (Qb m h (Axt x) k) else Fj c C L m h b f s (Qb m h (Axt x) k)
  | _=>none
 | _,.block id body,s,k=>Fj c C L m h id body s λ e s'=>match e with
  | .exit j=>bif z8 j id then k .normal s' else k (.exit j) s'
  | e=>k e s'
 | b,.loop _,s,k=>match look b h.lp with
  | some (i,_)=>match Qm m h.fz i s with
   | some s'=>L b s' k
   | none=>none
  | none=>none
 | b,.rangeFunc ..,s,k=>match look b h.lp with
  | some (i,_)=>match Qm m h.fz i s with
   | some s'=>L b s' k
   | none=>none
  | none=>none
 | _,.exit id,s,k=>k (.exit id) s
 | _,.ret,s,k=>k .ret s
 | _,_,_,_=>none
def stepE(c:Cfg)(C:Orc R)(L:Kc R)(m:Nat)(h:A1)(b:Nat)(body:Code)(i o:List Nat)(s:St)(next:St->Option R)(out:Ex->St->Option R):Option R:=
 Fj c C L m h b body s λ e s'=>match e with
  | .normal=>match Qm m h.fz i s' with
   | some s''=>next s''
   | none=>none
  | e=>match Qm m h.fz o s' with
   | some s''=>out e s''
   | none=>none
def Axu(c:Cfg)(C:Orc R)(L:Kc R)(m:Nat)(h:A1)(b:Nat)(body:Code)(i o:List Nat):Nat->St->(Ex->St->Option R)->Option R
 | 0,_,_=>none
 | n+1,s,k=>stepE c C L m h b body i o s (λ s'=>Axu c C L m h b body i o n s' k) k
def Ayd(i:List Nat)(s:St):St:={s with tm:=i.map λ t=>(t,getD .un t s.tm)}
def Afi(c:Cfg)(s:St):List ResultVar->Option (List AV)
 | []=>some []
 | .tmp t::r=>match Afi c s r with
  | some l=>some (getD .un t s.tm::l)
  | none=>none
 | .cell a t::r=>match tyI c t,Afi c s r with
  | some ti,some l=>match loadAt s ti.sz (getD .un a s.tm) with
   | some (ps,_)=>match S6 ti.cls ps with
    | some v=>some (v::l)
    | none=>none
   | none=>none
  | _,_=>none
def Am7:List AV->AV
 | [v]=>v
 | vs=>.tup vs
def Ane(c:Cfg)(fn:Func)(kp:Bool)(m:Nat)(s:St)(k:AV->List (Option Blk)->List Blk->Option R):Option R:=
 match Afi c s fn.results.toList with
 | none=>none
 | some vs=>
  let v:=Am7 vs
  let ids:=Tj s.st 64 (zC m++R7 8 v) []
  let all:=R7 8 v++Lv s.st ids
  match Rh all v s with
  | (v,s1)=>
   let s2:=Oe (bif kp then 0 else m) all ids s1
   match Yi m s2 (R7 8 v) with
   | some (nm,st,ns)=>match ren (λ b v=>valid s2 (.ver b v)) 0 nm 8 v with
    | some v'=>k v' ((zC m).map λ b=>look b st) ns
    | none=>none
   | none=>none
def Afj(c:Cfg)(fn:Func)(h:A1)(m:Nat)(s:St)(k:AV->List (Option Blk)->List Blk->Option R):Option R:=Ane c fn h.keep m (Amb h.rz s) k
def To(args:List AV)(blks:List Blk):St:=
 {tm:=D2 0 args,st:=D2 0 blks,nx:=blks.length}
def Rr(c:Cfg)(C:Orc R)(L:Kc R)(h:A1)(fn:Func)(args:List AV)(blks:List Blk)(k:AV->List (Option Blk)->List Blk->Option R):Option R:=
 match fn.body with
 | some code=>chk (zA args.length fn.ntmps) (Fj c C L blks.length h 0 code (To args blks) λ e s=>match e with
  | .normal|.ret=>Afj c fn h blks.length s k
  | .pan t k' n=>k (.pan t k' n) (blks.map λ _=>none) []
  | _=>none)
 | none=>none
end
end Go.Ev
namespace Go.Ev
theorem Ix{K K':Ki}{l:List K.den}{l':List K'.den}(h:E2 K K' l=some l'):∃e:K=K',e▸l=l':=by
 unfold E2 at h
 split at h
 ·rename_i hb
  exact⟨Ki.beq_eq hb,by simpa using h⟩
 ·cases h
theorem Be(k:IntKind):G1 k k=true:=by cases k<;>rfl
theorem Ki.beq_refl:∀K:Ki,K.beq K=true
 | .int k=>Be k
 | .bool|.str|.unit|.tr=>rfl
 | .lst e|.fl e=>by simp only[Ki.beq,Ki.beq_refl e]
 | .arr n e=>by simp only[Ki.beq,Ki.beq_refl e,Nat.beq_refl,zF]
 | .pair a b=>by simp only[Ki.beq,Ki.beq_refl a,Ki.beq_refl b,zF]
theorem Ba{K:Ki}(l:List K.den):E2 K K l=some l:=by
 unfold E2
 split
 ·rfl
 ·rename_i h;rw[Ki.beq_refl] at h;cases h
theorem Aa9{p:Cj}{K K':Ki}{l:List K.den}{l':List K'.den}(h:E2 K K' l=some l'):AV.ro p K l=AV.ro p K' l':=by
 obtain⟨rfl,rfl⟩:=Ix h;rfl
theorem Aka{K K':Ki}{l:List K.den}{l':List K'.den}(h:E2 K K' l=some l'):AV.rw K l=AV.rw K' l':=by
 obtain⟨rfl,rfl⟩:=Ix h;rfl
theorem Aia{n:Nat}{K K':Ki}{l:List K.den}{l':List K'.den}(h:E2 K K' l=some l'):AV.arr n K l=AV.arr n K' l':=by
 obtain⟨rfl,rfl⟩:=Ix h;rfl
def Aba(K V K' V':Ki)(l:List (K.den×V.den)):Option (List (K'.den×V'.den)):=
 match h:K.beq K',h':V.beq V' with
 | true,true=>some (Ki.beq_eq h'▸Ki.beq_eq h▸l)
 | _,_=>none
theorem Aeh{K V:Ki}(l:List (K.den×V.den)):Aba K V K V l=some l:=by
 unfold Aba
 split
 ·rfl
 ·rename_i h;exact(h (Ki.beq_refl K) (Ki.beq_refl V)).elim
theorem Aib{K V K' V':Ki}{l:List (K.den×V.den)}{l':List (K'.den×V'.den)}(h:Aba K V K' V' l=some l'):Blk.map K V l=.map K' V' l':=by
 unfold Aba at h
 split at h
 ·rename_i h1 h2
  have e1:=Ki.beq_eq h1
  have e2:=Ki.beq_eq h2
  subst e1 e2
  simp only[Option.some.injEq] at h
  rw[<-h]
 ·cases h
namespace Enc
def bB:Enc AV where
  D:=Bool
  to:=.bool
  of|.bool b=>some b|_=>none
  ko d:=by simp[Ba,Be]
  ok x d h:=by cases x<;>simp_all
def iN(k:IntKind):Enc AV where
  D:=Int
  to:=.int k
  of|.int k' n=>bif G1 k' k then some n else none|_=>none
  ko d:=by simp[Ba,Be]
  ok x d h:=by
    cases x<;>(try simp at h)
    rename_i k' n
    cases e:G1 k' k<;>rw[e] at h<;>simp at h
    rw[Er e,h]
def tR:Enc AV where
  D:=List UInt8
  to:=.str
  of|.str b=>some b|_=>none
  ko d:=by simp[Ba,Be]
  ok x d h:=by cases x<;>simp_all
def uN:Enc AV where
  D:=Unit
  to _:=.un
  of|.un=>some ()|_=>none
  ko d:=by simp[Ba,Be]
  ok x d h:=by cases x<;>simp_all
def nilp:Enc AV where
  D:=Unit
  to _:=.nilp
  of|.nilp=>some ()|_=>none
  ko d:=by simp[Ba,Be]
  ok x d h:=by cases x<;>simp_all
def nili:Enc AV where
  D:=Unit
  to _:=.nili
  of|.nili=>some ()|_=>none
  ko d:=by simp[Ba,Be]
  ok x d h:=by cases x<;>simp_all
def nz(K:Ki):Enc AV where
  D:=Unit
  to _:=.nz K
  of|.nz K'=>bif K'.beq K then some () else none|_=>none
  ko d:=by simp[Ki.beq_refl]
  ok x d h:=by
    cases x<;>(try simp at h)
    rename_i K'
    cases e:K'.beq K<;>rw[e] at h<;>simp at h
    rw[Ki.beq_eq e]
def rO(n:Nat)(K:Ki):Enc AV where
  D:=List K.den
  to l:=.ro (.reg n) K l
  of|.ro (.reg n') K' l=>bif z8 n' n then E2 K' K l else none|_=>none
  ko d:=by simp[Ba,Be]
  ok x d h:=by
    cases x<;>(try simp at h)
    rename_i p K' l
    cases p<;>(try(simp at h;done))
    simp only at h
    rename_i n'
    cases e:z8 n' n<;>rw[e] at h<;>simp at h
    rw[z9 e,Aa9 h]
def tr(n:Nat):Enc AV where
  D:=Tr
  to t:=.tr (.reg n) t
  of|.tr (.reg n') t=>bif z8 n' n then some t else none|_=>none
  ko d:=by simp
  ok x d h:=by
    cases x<;>(try simp at h)
    rename_i p t
    cases p<;>(try(simp at h;done))
    simp only at h
    rename_i n'
    cases e:z8 n' n<;>rw[e] at h<;>simp at h
    rw[z9 e,h]
def fZ(K:Ki):Enc AV where
  D:=List K.den
  to l:=.ro .frz K l
  of|.ro .frz K' l=>E2 K' K l|_=>none
  ko d:=by simp[Ba,Be]
  ok x d h:=by
    cases x<;>(try simp at h)
    rename_i p K' l
    cases p<;>(try(simp at h;done))
    simp only at h
    exact Aa9 h
def aR(n:Nat)(K:Ki):Enc AV where
  D:=List K.den
  to l:=.arr n K l
  of|.arr n' K' l=>bif z8 n' n then E2 K' K l else none|_=>none
  ko d:=by simp[Ba,Be]
  ok x d h:=by
    cases x<;>(try simp at h)
    rename_i n' K' l
    cases e:z8 n' n<;>rw[e] at h<;>simp at h
    rw[z9 e,Aia h]
def rW(K:Ki):Enc AV where
  D:=List K.den
  to l:=.rw K l
  of|.rw K' l=>E2 K' K l|_=>none
  ko d:=by simp[Ba,Be]
  ok x d h:=by
    cases x<;>(try simp at h)
    exact Aka h
def sL(b:Nat):Enc AV where
  D:=Unit
  to _:=.sl b
  of|.sl b'=>bif z8 b' b then some () else none|_=>none
  ko d:=by simp[Ba,Be]
  ok x d h:=by
    cases x<;>(try simp at h)
    rename_i b'
    cases e:z8 b' b<;>rw[e] at h<;>simp at h
    rw[z9 e]
def ss(b:Nat):Enc AV where
  D:=Nat×Nat
  to d:=.ss b d.1 d.2
  of|.ss b' o n=>bif z8 b' b then some (o,n) else none|_=>none
  ko d:=by simp
  ok x d h:=by
    cases x<;>(try simp at h)
    rename_i b' o n
    cases e:z8 b' b<;>rw[e] at h<;>simp at h
    rw[z9 e,<-h]
def pB(b o:Nat):Enc AV where
  D:=Unit
  to _:=.pb b o []
  of|.pb b' o' []=>bif z8 b' b&&z8 o' o then some () else none|_=>none
  ko d:=by simp[Ba,Be]
  ok x d h:=by
    cases x<;>(try simp at h)
    rename_i b' o' p
    cases p<;>(try(simp at h;done))
    simp only at h
    cases e:(z8 b' b&&z8 o' o)<;>rw[e] at h<;>simp at h
    simp only[zB] at e
    rw[z9 e.1,z9 e.2]
def nL:Enc (List AV) where
  D:=Unit
  to _:=[]
  of|[]=>some ()|_=>none
  ko d:=by simp[Ba,Be]
  ok x d h:=by cases x<;>simp_all
def cO(a:Enc AV)(r:Enc (List AV)):Enc (List AV) where
  D:=a.D×r.D
  to d:=a.to d.1::r.to d.2
  of|x::y=>match a.of x with
        | some u=>match r.of y with
          | some v=>some (u,v)
          | none=>none
        | none=>none
      | []=>none
  ko d:=by simp[Ba,Be,a.ko,r.ko]
  ok x d h:=by
    cases x with
    | nil=>simp at h
    | cons x y=>
      simp only at h
      cases e1:a.of x<;>rw[e1] at h<;>simp only at h
      · cases h
      cases e2:r.of y<;>rw[e2] at h<;>simp only at h
      · cases h
      cases h
      rw[a.ok _ _ e1,r.ok _ _ e2]
def aG(r:Enc (List AV)):Enc AV where
  D:=r.D
  to d:=.agg (r.to d)
  of|.agg l=>r.of l|_=>none
  ko d:=by simp[Ba,Be,r.ko]
  ok x d h:=by
    cases x<;>(try simp at h)
    rw[r.ok _ _ h]
def tP(r:Enc (List AV)):Enc AV where
  D:=r.D
  to d:=.tup (r.to d)
  of|.tup l=>r.of l|_=>none
  ko d:=by simp[Ba,Be,r.ko]
  ok x d h:=by
    cases x<;>(try simp at h)
    rw[r.ok _ _ h]
def pR(n o:Nat)(r:Enc (List AV)):Enc AV where
  D:=r.D
  to d:=.pr (.reg n) (r.to d) o []
  of|.pr (.reg n') l o' []=>bif z8 n' n&&z8 o' o then r.of l else none|_=>none
  ko d:=by simp[Ba,Be,r.ko]
  ok x d h:=by
    cases x<;>(try simp at h)
    rename_i p l o' q
    cases p<;>(try(simp at h;done))
    cases q<;>(try(simp at h;done))
    simp only at h
    rename_i n'
    cases e:(z8 n' n&&z8 o' o)<;>rw[e] at h<;>simp at h
    simp only[zB] at e
    rw[z9 e.1,z9 e.2,r.ok _ _ h]
def fN(f:Nat)(r:Enc (List AV)):Enc AV where
  D:=r.D
  to d:=.fn f (r.to d)
  of|.fn f' l=>bif z8 f' f then r.of l else none|_=>none
  ko d:=by simp[Ba,Be,r.ko]
  ok x d h:=by
    cases x<;>(try simp at h)
    rename_i f' l
    cases e:z8 f' f<;>rw[e] at h<;>simp at h
    rw[z9 e,r.ok _ _ h]
def cE(r:Enc (List AV)):Enc Blk where
  D:=r.D
  to d:=.cell false 0 (r.to d)
  of|.cell false 0 l=>r.of l|_=>none
  ko d:=by simp[Ba,Be,r.ko]
  ok x d h:=by
    cases x<;>(try simp at h)
    rename_i ro v l
    cases ro<;>(try(simp at h;done))
    cases v<;>(try(simp at h;done))
    simp only at h
    rw[r.ok _ _ h]
def lN(X:Type):Enc (List X) where
  D:=Unit
  to _:=[]
  of|[]=>some ()|_=>none
  ko d:=by simp[Ba,Be]
  ok x d h:=by cases x<;>simp_all
def lC{X:Type}(a:Enc X)(r:Enc (List X)):Enc (List X) where
  D:=a.D×r.D
  to d:=a.to d.1::r.to d.2
  of|x::y=>match a.of x with
        | some u=>match r.of y with
          | some v=>some (u,v)
          | none=>none
        | none=>none
      | []=>none
  ko d:=by simp[Ba,Be,a.ko,r.ko]
  ok x d h:=by
    cases x with
    | nil=>simp at h
    | cons x y=>
      simp only at h
      cases e1:a.of x<;>rw[e1] at h<;>simp only at h
      · cases h
      cases e2:r.of y<;>rw[e2] at h<;>simp only at h
      · cases h
      cases h
      rw[a.ok _ _ e1,r.ok _ _ e2]
def sM{X:Type}(a:Enc X):Enc (Option X) where
  D:=a.D
  to d:=some (a.to d)
  of|some x=>a.of x|none=>none
  ko d:=by simp[Ba,Be,a.ko]
  ok x d h:=by
    cases x<;>(try simp at h)
    rw[a.ok _ _ h]
def nO(X:Type):Enc (Option X) where
  D:=Unit
  to _:=none
  of|none=>some ()|_=>none
  ko d:=by simp[Ba,Be]
  ok x d h:=by cases x<;>simp_all
def bO{X Y:Type}(a:Enc X)(b:Enc Y):Enc (X×Y) where
 D:=a.D×b.D
 to d:=(a.to d.1,b.to d.2)
 of x:=match a.of x.1 with
  | some u=>match b.of x.2 with
   | some v=>some (u,v)
   | none=>none
  | none=>none
 ko d:=by simp[Ba,Be,a.ko,b.ko]
 ok x d h:=by
  obtain⟨x,y⟩:=x
  simp only at h
  cases e1:a.of x<;>rw[e1] at h<;>simp only at h
  ·cases h
  cases e2:b.of y<;>rw[e2] at h<;>simp only at h
  ·cases h
  cases h
  rw[a.ok _ _ e1,b.ok _ _ e2]
def alt{X:Type}(a b:Enc X)(h:∀d,a.of (b.to d)=none):Enc X where
  D:=a.D⊕b.D
  to:=λ|.inl d=>a.to d|.inr d=>b.to d
  of x:=match a.of x with
    | some u=>some (.inl u)
    | none=>match b.of x with
      | some v=>some (.inr v)
      | none=>none
  ko d:=by
    cases d with
    | inl d=>simp only[a.ko]
    | inr d=>simp only[h,b.ko]
  ok x d hx:=by
    cases e1:a.of x<;>rw[e1] at hx<;>simp only at hx
    · cases e2:b.of x<;>rw[e2] at hx<;>simp only at hx
      · cases hx
      · cases hx
        exact b.ok _ _ e2
    · cases hx
      exact a.ok _ _ e1
def pan(t:Nat)(k:IntKind):Enc AV where
  D:=Int
  to n:=.pan t k n
  of|.pan t' k' n=>bif z8 t' t&&G1 k' k then some n else none|_=>none
  ko d:=by simp[Be]
  ok x d h:=by
    cases x<;>(try simp at h)
    rename_i t' k' n
    cases e:(z8 t' t&&G1 k' k)<;>rw[e] at h<;>simp at h
    simp only[zB] at e
    rw[z9 e.1,Er e.2,h]
def mP(b:Nat):Enc AV where
  D:=Unit
  to _:=.mp b
  of|.mp b'=>bif z8 b' b then some () else none|_=>none
  ko d:=by simp
  ok x d h:=by
    cases x<;>(try simp at h)
    rename_i b'
    cases e:z8 b' b<;>rw[e] at h<;>simp at h
    rw[z9 e]
def iter(m:Nat):Enc Blk where
  D:=Nat×List Nat×Nat
  to d:=.iter m d.1 d.2.1 d.2.2
  of|.iter m' n ord last=>bif z8 m' m then some (n,ord,last) else none|_=>none
  ko d:=by simp
  ok x d h:=by
    cases x<;>(try simp at h)
    rename_i m' n ord last
    cases e:z8 m' m<;>rw[e] at h<;>simp at h
    rw[z9 e,<-h]
def bld(t u:Nat):Enc Blk where
  D:=List UInt8
  to l:=.bld t u l
  of|.bld t' u' l=>bif z8 t' t&&z8 u' u then some l else none|_=>none
  ko d:=by simp
  ok x d h:=by
    cases x<;>(try simp at h)
    rename_i t' u' l
    cases e:(z8 t' t&&z8 u' u)<;>rw[e] at h<;>simp at h
    simp only[zB] at e
    rw[z9 e.1,z9 e.2,h]
def mA(K V:Ki):Enc Blk where
  D:=List (K.den×V.den)
  to l:=.map K V l
  of|.map K' V' l=>Aba K' V' K V l|_=>none
  ko d:=Aeh d
  ok x d h:=by
    cases x<;>(try simp at h)
    exact Aib h
def kY{X:Type}(i:Nat)(a:Enc X):Enc (Nat×X) where
 D:=a.D
 to d:=(i,a.to d)
 of x:=bif z8 x.1 i then a.of x.2 else none
 ko d:=by simp[Ba,Be,a.ko]
 ok x d h:=by
  obtain⟨j,x⟩:=x
  simp only at h
  cases e:z8 j i<;>rw[e] at h<;>simp at h
  rw[z9 e,a.ok _ _ h]
def sT(n:Nat)(t:Enc (List (Nat×AV)))(b:Enc (List (Nat×Blk))):Enc St where
 D:=t.D×b.D
 to d:={tm:=t.to d.1,st:=b.to d.2,nx:=n}
 of s:=match t.of s.tm with
  | some u=>match b.of s.st with
   | some v=>bif z8 s.nx n then some (u,v) else none
   | none=>none
  | none=>none
 ko d:=by simp[Ba,Be,t.ko,b.ko]
 ok x d h:=by
  obtain⟨tm,s,nx⟩:=x
  simp only at h
  cases e1:t.of tm<;>rw[e1] at h<;>simp only at h
  ·cases h
  cases e2:b.of s<;>rw[e2] at h<;>simp only at h
  ·cases h
  cases e:z8 nx n<;>rw[e] at h<;>simp at h
  cases h
  rw[t.ok _ _ e1,b.ok _ _ e2,z9 e]
def iso{X:Type}(e:Enc X)(D':Type)(f:D'->e.D)(g:e.D->D')(h1:∀d,f (g d)=d)(h2:∀d,g (f d)=d):Enc X where
 D:=D'
 to d:=e.to (f d)
 of x:=match e.of x with
  | some d=>some (g d)
  | none=>none
 ko d:=by simp[e.ko,h2]
 ok x d h:=by
  cases e1:e.of x<;>rw[e1] at h<;>simp only at h
  ·cases h
  cases h
  rw[h1]
  exact e.ok _ _ e1
def u{A:Type}(h:A=Unit):A:=h▸()
theorem Ajh{A:Type}(h:A=Unit)(d:A):u h=d:=by subst h;rfl
def lU{X:Type}(a:Enc X)(h:a.D=Unit)(r:Enc (List X)):Enc (List X):=iso (lC a r) r.D (λ d=>(u h,d)) (λ d=>d.2) (λ d=>Prod.ext (Ajh h _) rfl) (λ _=>rfl)
def lR{X:Type}(a:Enc X)(r:Enc (List X))(h:r.D=Unit):Enc (List X):=iso (lC a r) a.D (λ d=>(d,u h)) (λ d=>d.1) (λ d=>Prod.ext rfl (Ajh h _)) (λ _=>rfl)
def lO{X:Type}(a:Enc X):Enc (List X):=lR a (lN X) rfl
def bQ{X Y:Type}(a:Enc X)(b:Enc Y)(h:b.D=Unit):Enc (X×Y):=iso (bO a b) a.D (λ d=>(d,u h)) (λ d=>d.1) (λ d=>Prod.ext rfl (Ajh h _)) (λ _=>rfl)
def bS{X Y:Type}(a:Enc X)(h:a.D=Unit)(b:Enc Y):Enc (X×Y):=iso (bO a b) b.D (λ d=>(u h,d)) (λ d=>d.2) (λ d=>Prod.ext (Ajh h _) rfl) (λ _=>rfl)
def sQ(n:Nat)(t:Enc (List (Nat×AV)))(b:Enc (List (Nat×Blk)))(h:b.D=Unit):Enc St:=iso (sT n t b) t.D (λ d=>(d,u h)) (λ d=>d.1) (λ d=>Prod.ext rfl (Ajh h _)) (λ _=>rfl)
def sR(n:Nat)(t:Enc (List (Nat×AV)))(h:t.D=Unit)(b:Enc (List (Nat×Blk))):Enc St:=iso (sT n t b) b.D (λ d=>(u h,d)) (λ d=>d.2) (λ d=>Prod.ext (Ajh h _) rfl) (λ _=>rfl)
end Enc
def lp{D K R:Type}(s:D->(D->Option R)->K->Option R):Nat->D->K->Option R
 | 0,_,_=>none
 | n+1,d,k=>s d (λ e=>lp s n e k) k
def rc{D K R:Type}(s:(D->K->Option R)->D->K->Option R):Nat->D->K->Option R
 | 0,_,_=>none
 | n+1,d,k=>s (rc s n) d k
def Enc.aL{X:Type}:List (Enc X)->Enc (List X)
 | []=>Enc.lN X
 | a::r=>Enc.lC a (Enc.aL r)
def Enc.vA:List (Enc AV)->Enc (List AV)
 | []=>Enc.nL
 | a::r=>Enc.cO a (Enc.vA r)
section
variable{R:Type}
structure As(R:Type) where
 f:Nat
 arg:Enc (List AV×List Blk)
 res:Enc (AV×List (Option Blk)×List Blk)
 fn:arg.D->(res.D->Option R)->Option R
def Fl:List (As R)->Orc R
 | [],_,_,_,_=>none
 | e::r,f,args,blks,k=>bif z8 e.f f then(match e.arg.of (args,blks) with
   | some d=>e.fn d λ x=>k (e.res.to x).1 (e.res.to x).2.1 (e.res.to x).2.2
   | none=>Fl r f args blks k) else Fl r f args blks k
structure An(R:Type) where
 b:Nat
 st:Enc St
 fn:st.D->(Ex->St->Option R)->Option R
def Dk:List (An R)->Kc R
 | [],_,_,_=>none
 | e::r,b,s,k=>bif z8 e.b b then(match e.st.of s with
   | some d=>e.fn d k
   | none=>Dk r b s k) else Dk r b s k
def Av:Nat->Code->List (Nat×Code)
 | b,.seq x y=>Av b x++Av b y
 | _,.block j body=>Av j body
 | b,.cond _ x y=>Av b x++Av b y
 | b,.loop c=>(b,c)::Av b c
 | b,.scope c=>Av b c
 | b,.rangeFunc g ps a c=>(b,.rangeFunc g ps a c)::Av b a++Av b c
 | _,_=>[]
def bodyOf(fn:Func)(i:Nat):Code:=
 match fn.body with
 | some c=>match look i (Av 0 c) with
  | some x=>x
  | none=>.skip
 | none=>.skip
end
def Cd(b p:Int×Int):Int×Int:=
 bif decide (b.1<0)||(decide (p.2>b.2)||(decide (p.2=b.2)&&decide (p.1<b.1))) then p else b
def Sk(l:List (Int×Int)):Int:=(l.foldl Cd (-1,0)).1
def C2:List (Int×Int)->Bool
 | []=>true
 | p::r=>decide (0<=p.1)&& !(r.any λ q=>q.1==p.1)&&C2 r
def Oh(best:Int)(l:List (Int×Int))(n:Nat)(ord:List Nat)(_last:Nat):Bool:=
 best==-1&&z8 n l.length&&ord==zC n&&C2 l
def Fit:(K:Ki)->K.den->Prop
 | .int k,n=>(Lit.int k n).wf=true
 | .bool,_=>True
 | .str,s=>zH (α:=UInt8) s<=maxLen
 | .lst e,l=>zH (α:=e.den) l<=maxLen/\∀x,List.Mem (α:=e.den) x l->Fit e x
 | .arr _ e,l=>∀x,List.Mem (α:=e.den) x l->Fit e x
 | .pair a b,d=>Fit a d.1/\Fit b d.2
 | .unit,_|.tr,_|.fl _,_=>True
end Go.Ev
