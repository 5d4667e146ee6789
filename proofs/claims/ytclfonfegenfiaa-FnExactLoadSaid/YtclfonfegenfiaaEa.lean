/- An abstract evaluator of Go code over plain data, and the proof that what it says of a function comes to pass. Part 1. -/
import GoSem.Step
import GoSem.ClaimData

set_option linter.unusedVariables false
set_option linter.unusedSimpArgs false

/- The abstract evaluator: values, blocks, states. Plain definitions; nothing is proved of any program here. -/
namespace Go.Ev

/-- A node of a tree that is never written. lay: how it lies (0: a row of 256 truth values; 1: two nodes; 2: a node and a number; 3: a node, two numbers and something more); ty: the type of a pointer to it. -/
inductive Tr where
  | nil
  | nd (lay ty : Nat) (bs : List Bool) (i j : Int) (l r : Tr)
  deriving Inhabited

def Tr.isNil : Tr → Bool
  | .nil => true
  | _ => false
/-- Is it there, and of that type? -/
def Tr.is (T : Nat) : Tr → Bool
  | .nil => false
  | .nd _ ty .. => Nat.beq ty T
def Tr.lay : Tr → Nat
  | .nil => 0
  | .nd a .. => a
def Tr.bs : Tr → List Bool
  | .nil => []
  | .nd _ _ b .. => b
def Tr.i : Tr → Int
  | .nil => 0
  | .nd _ _ _ i .. => i
def Tr.j : Tr → Int
  | .nil => 0
  | .nd _ _ _ _ j .. => j
def Tr.l : Tr → Tr
  | .nil => .nil
  | .nd _ _ _ _ _ l _ => l
def Tr.r : Tr → Tr
  | .nil => .nil
  | .nd _ _ _ _ _ _ r => r

/-- The kind of what one element of a row is. -/
inductive Ki where
  | int (k : IntKind) | bool | str
  | lst (e : Ki)
  | arr (n : Nat) (e : Ki)
  | pair (a b : Ki) | unit
  | tr
  deriving Inhabited

def Ki.den : Ki → Type
  | .int _ => Int | .bool => Bool | .str => List UInt8
  | .lst e => List e.den | .arr _ e => List e.den
  | .pair a b => a.den × b.den | .unit => Unit
  | .tr => Tr

/-- How many cells. -/
def Ki.size : Ki → Nat
  | .int _ | .bool | .str | .lst .. => 1
  | .arr n e => n * e.size
  | .pair a b => a.size + b.size | .unit => 0
  | .tr => 1

def Ki.zero : (K : Ki) → K.den
  | .int _ => (0 : Int) | .bool => false | .str => ([] : List UInt8)
  | .lst _ => [] | .arr n e => List.replicate n e.zero
  | .pair a b => (a.zero, b.zero) | .unit => ()
  | .tr => Tr.nil

def kbeq : IntKind → IntKind → Bool
  | .i8, .i8 | .i16, .i16 | .i32, .i32 | .i64, .i64 | .u8, .u8 | .u16, .u16 | .u32, .u32 | .u64, .u64 => true
  | _, _ => false

def Ki.beq : Ki → Ki → Bool
  | .int a, .int b => kbeq a b
  | .bool, .bool | .str, .str | .unit, .unit | .tr, .tr => true
  | .lst e, .lst e' => e.beq e'
  | .arr n e, .arr n' e' => Nat.beq n n' && e.beq e'
  | .pair a b, .pair a' b' => a.beq a' && b.beq b'
  | _, _ => false

theorem kbeq_eq {a b : IntKind} (h : kbeq a b = true) : a = b := by cases a <;> cases b <;> first | rfl | cases h

theorem Ki.beq_eq : ∀ {a b : Ki}, a.beq b = true → a = b
  | .int a, .int b, h => by simp only [Ki.beq] at h; rw [kbeq_eq h]
  | .bool, .bool, _ | .str, .str, _ | .unit, .unit, _ | .tr, .tr, _ => rfl
  | .lst e, .lst e', h => by
    simp only [Ki.beq] at h
    rw [Ki.beq_eq h]
  | .arr n e, .arr n' e', h => by
    simp only [Ki.beq, Bool.and_eq_true] at h
    rw [Nat.eq_of_beq_eq_true h.1, Ki.beq_eq h.2]
  | .pair a b, .pair a' b', h => by
    simp only [Ki.beq, Bool.and_eq_true] at h
    rw [Ki.beq_eq h.1, Ki.beq_eq h.2]

/-- Does it hold rows of its own? -/
def Ki.nest : Ki → Bool
  | .lst _ => true
  | .arr _ e => e.nest
  | .pair a b => a.nest || b.nest
  | .tr => true
  | _ => false

def eqI (a b : Int) : Bool := a == b
def eqB (a b : Bool) : Bool := a == b
def eqS (a b : List UInt8) : Bool := a == b
def eqL (a b : List Int) : Bool := a == b

/-- Are two keys alike? -/
def Ki.eqb : (K : Ki) → K.den → K.den → Bool
  | .int _ => eqI
  | .bool => eqB
  | .str => eqS
  | .arr _ (.int _) => eqL
  | _ => fun _ _ => false

/-- What stands under a key; z where there is nothing. -/
def mget {α β : Type} (e : α → α → Bool) (k : α) (z : β) : List (α × β) → β
  | [] => z
  | (a, x) :: r => bif e k a then x else mget e k z r

def mhas {α β : Type} (e : α → α → Bool) (k : α) : List (α × β) → Bool
  | [] => false
  | (a, _) :: r => bif e k a then true else mhas e k r

/-- Where a key stands. -/
def midx {α β : Type} (e : α → α → Bool) (k : α) : List (α × β) → Nat
  | [] => 0
  | (a, _) :: r => bif e k a then 0 else midx e k r + 1

def mset {α β : Type} (e : α → α → Bool) (k : α) (v : β) : List (α × β) → List (α × β)
  | [] => [(k, v)]
  | (a, x) :: r => bif e k a then (k, v) :: r else (a, x) :: mset e k v r

def mupd {α β : Type} (v : β) : Nat → List (α × β) → List (α × β)
  | _, [] => []
  | 0, (a, _) :: r => (a, v) :: r
  | i + 1, p :: r => p :: mupd v i r

/-- Element i of a row (behind a look at the bounds). -/
def Ki.get (K : Ki) (l : List K.den) (i : Nat) : K.den := l.getD i K.zero

/-- Where data that is only read comes from: of for ever; region n (0: lent to this very call; n + 1: region n of the caller); row b's at its version v. -/
inductive Prov where
  | frz | reg (n : Nat) | ver (b v : Nat)

/-- A step of a path: (size of an element, how many there are (of an array), its index, offset in it). The last step stands first. -/
abbrev Path := List (Nat × Nat × Nat × Nat)

inductive AV where
  | un
  | bool (b : Bool) | int (k : IntKind) (n : Int) | str (s : List UInt8)
  | nils | nz (K : Ki)
  | sl (b : Nat) | ss (b o n : Nat)
  | ro (p : Prov) (K : Ki) (l : List K.den)
  | vw (b v i f : Nat) (K : Ki) (l : List K.den)
  | nl (K : Ki) (l : List K.den)
  | rw (K : Ki) (l : List K.den)
  | arr (n : Nat) (K : Ki) (l : List K.den)
  | nilp
  | pb (b o : Nat) (p : Path)
  | pn (b v i f : Nat) (K : Ki) (l : List K.den) (p : Path)
  | po (q : Prov) (K : Ki) (l : List K.den) (p : Path)
  | pr (q : Prov) (ps : List AV) (o : Nat) (p : Path)
  | agg (ps : List AV)
  | fn (f : Nat) (caps : List AV) | nilf
  | ifc (t : Nat) (v : AV) | nili
  | mp (b : Nat) | nilm
  /-- A value of an interface type, that holds a node or nothing. -/
  | tr (q : Prov) (t : Tr)
  | tup (vs : List AV)
  /-- Not a value: what is thrown. -/
  | pan (t : Nat) (k : IntKind) (n : Int)
  deriving Inhabited

inductive Blk where
  | cell (ro : Bool) (ver : Nat) (ps : List AV)
  | map (KK VV : Ki) (l : List (KK.den × VV.den))
  /-- A walk over map m, which had n entries: the places that have not been seen; 0, or the place seen last and one. -/
  | iter (m n : Nat) (ord : List Nat) (last : Nat)
  /-- A strings.Builder (its type; a byte's), and what it holds. -/
  | bld (t u : Nat) (l : List UInt8)

structure St where
  tm : List (Nat × AV)
  st : List (Nat × Blk)
  nx : Nat

/-- What is known of a type. cls: 0 one cell, 1 a struct, 2 an array. -/
structure TyI where
  sz : Nat
  cls : Nat
  offs : List Nat
  elem : Nat
  alen : Nat
  bytes : Nat
  zero : List AV
  ki : Option Ki

structure Cfg where
  ty : List (Nat × TyI)
  /-- which parameters of which function come to be written: (function, parameters) -/
  wr : List (Nat × List Nat)
  /-- how nodes lie: (type of a pointer, lay) -/
  tr : List (Nat × Nat) := []
  /-- builders: (type, a byte's type) -/
  bl : List (Nat × Nat) := []

def look {α : Type} (i : Nat) : List (Nat × α) → Option α
  | [] => none
  | (j, x) :: r => bif Nat.beq j i then some x else look i r

def getD {α : Type} (d : α) (i : Nat) : List (Nat × α) → α
  | [] => d
  | (j, x) :: r => bif Nat.beq j i then x else getD d i r

def put {α : Type} (i : Nat) (x : α) : List (Nat × α) → List (Nat × α)
  | [] => [(i, x)]
  | (j, y) :: r => bif Nat.beq j i then (j, x) :: r else (j, y) :: put i x r

def del {α : Type} (i : Nat) : List (Nat × α) → List (Nat × α)
  | [] => []
  | (j, y) :: r => bif Nat.beq j i then r else (j, y) :: del i r

def memN (i : Nat) : List Nat → Bool
  | [] => false
  | j :: r => bif Nat.beq j i then true else memN i r

/-- A bound on a string. -/
def big : Nat := 17592186044416

/-- A bound on a row of elements of so many bytes. -/
def bigOf (bytes : Nat) : Nat := 70368744177664 / (bytes + 1)

def AV.norw : AV → Bool
  | .rw .. => false
  | _ => true

/-- Neither a struct, an array nor several. -/
def AV.plain : AV → Bool
  | .agg _ | .tup _ | .arr .. | .nl .. | .rw .. | .pan .. => false
  | _ => true

/-- Cells of a part. -/
def AV.size : AV → Nat
  | .arr n K _ => n * K.size
  | _ => 1

def castK (K K' : Ki) (l : List K.den) : Option (List K'.den) :=
  match h : K.beq K' with
  | true => some (Ki.beq_eq h ▸ l)
  | false => none

def toParts : (K : Ki) → K.den → List AV
  | .int k, n => [.int k n]
  | .bool, b => [.bool b]
  | .str, s => [.str s]
  | .lst e, l => [.nl e l]
  | .arr n e, l => [.arr n e l]
  | .pair a b, d => toParts a d.1 ++ toParts b d.2
  | .unit, _ => []
  | .tr, t => [.tr .frz t]

/-- An element back out of parts; what is left of them. -/
def ofParts : (K : Ki) → List AV → Option (K.den × List AV)
  | .int k, .int k' n :: r => bif kbeq k k' then some (n, r) else none
  | .bool, .bool b :: r => some (b, r)
  | .str, .str s :: r => some (s, r)
  | .lst e, .nl e' l :: r => match castK e' e l with | some l => some (l, r) | none => none
  | .lst e, .nils :: r => some (([] : List e.den), r)
  | .lst e, .nz _ :: r => some (([] : List e.den), r)
  | .arr n e, .arr n' e' l :: r => bif Nat.beq n n' then (match castK e' e l with | some l => some (l, r) | none => none) else none
  | .pair a b, ps => match ofParts a ps with
    | some (x, r) => match ofParts b r with
      | some (y, r) => some ((x, y), r)
      | none => none
    | none => none
  | .unit, r => some ((), r)
  | .tr, .tr .frz t :: r => some (t, r)
  | _, _ => none

def ofPartsAll (K : Ki) (ps : List AV) : Option K.den :=
  match ofParts K ps with
  | some (x, []) => some x
  | _ => none

/-- The parts from cell o on (o at a part's beginning). -/
def dropCells (o : Nat) (ps : List AV) : Option (List AV) :=
  match ps with
  | [] => bif Nat.beq o 0 then some [] else none
  | p :: r => bif Nat.beq o 0 then some (p :: r) else bif Nat.ble p.size o then dropCells (o - p.size) r else none

/-- The first parts, n cells. -/
def takeCells (n : Nat) (ps : List AV) : Option (List AV) :=
  match ps with
  | [] => bif Nat.beq n 0 then some [] else none
  | p :: r => bif Nat.beq n 0 then some [] else bif Nat.ble p.size n then (match takeCells (n - p.size) r with | some x => some (p :: x) | none => none) else none

/-- n cells at offset o, then along the steps (first step first). -/
def nav (n : Nat) : Path → Nat → List AV → Option (List AV)
  | [], o, ps => match dropCells o ps with
    | some r => takeCells n r
    | none => none
  | (sz, N, i, o') :: p, o, ps => match dropCells o ps with
    | some (.arr m K l :: _) => bif Nat.beq sz K.size && Nat.beq m N then nav n p o' (toParts K (K.get l i)) else none
    | some [.rw K l] => bif Nat.beq sz K.size then nav n p o' (toParts K (K.get l i)) else none
    | _ => none

/-- Parts with those at cell o replaced by 'new' (as many cells). -/
def setCells (o : Nat) (ps : List AV) (n : Nat) (new : List AV) : Option (List AV) :=
  match ps with
  | [] => bif Nat.beq o 0 && Nat.beq n 0 then some new else none
  | p :: r => bif Nat.beq o 0 then (match dropCells n (p :: r) with | some r => some (new ++ r) | none => none)
    else bif Nat.ble p.size o then (match setCells (o - p.size) r n new with | some x => some (p :: x) | none => none) else none

def navSet (n : Nat) (new : List AV) : Path → Nat → List AV → Option (List AV)
  | [], o, ps => setCells o ps n new
  | (sz, N, i, o') :: p, o, ps => match dropCells o ps with
    | some (.arr m K l :: _) => bif Nat.beq sz K.size && Nat.beq m N && Nat.ble 1 K.size then
        (match navSet n new p o' (toParts K (K.get l i)) with
          | some qs => match ofPartsAll K qs with
            | some d => setCells o ps (m * K.size) [.arr m K (l.set i d)]
            | none => none
          | none => none) else none
    | some [.rw K l] => bif Nat.beq o 0 then bif Nat.beq sz K.size then
        (match navSet n new p o' (toParts K (K.get l i)) with
          | some qs => match ofPartsAll K qs with
            | some d => some [.rw K (l.set i d)]
            | none => none
          | none => none) else none else none
    | _ => none

end Go.Ev

/- The abstract evaluator: references, renumbering, snapshots, operations. Plain definitions. -/
namespace Go.Ev

def notVer : Prov → Bool
  | .ver .. => false
  | _ => true

/-- The blocks that a value points to. -/
def refs : Nat → AV → List Nat
  | 0, _ => []
  | n + 1, a => match a with
    | .sl b | .ss b _ _ | .pb b _ _ | .mp b => [b]
    | .vw b .. | .pn b .. => [b]
    | .ro (.ver b _) _ _ | .po (.ver b _) _ _ _ => [b]
    | .agg ps | .tup ps | .fn _ ps => ps.flatMap (refs n)
    | .pr (.ver b _) ps _ _ => b :: ps.flatMap (refs n)
    | .pr _ ps _ _ => ps.flatMap (refs n)
    | .ifc _ v => refs n v
    | _ => []

def refsB (b : Blk) : List Nat := match b with
  | .cell _ _ ps => ps.flatMap (refs 8)
  | .map .. => []
  | .iter m .. => [m]
  | .bld .. => []

/-- Is data of this place still as it was? -/
def valid (s : St) : Prov → Bool
  | .frz | .reg _ => true
  | .ver b v => match look b s.st with
    | some (.cell _ v' [.rw K _]) => Nat.beq v v' && K.nest
    | _ => false

def rowOf (s : St) (b : Nat) : Option AV :=
  match look b s.st with
  | some (.cell _ _ [.rw K l]) => some (.rw K l)
  | _ => none

/-- A look that must come out well. -/
def chk {R : Type} (b : Bool) (k : Option R) : Option R := bif b then k else none

def liveP (s : St) (hs : List Nat) (p : Prov) : Bool := match p with
  | .ver b _ => valid s p && !(memN b hs)
  | _ => true

def atP (p : Prov) : List Nat := match p with
  | .ver b _ => [b]
  | _ => []

/-- Where what is lent comes from, for the one who gets it: 1: from further outside. -/
def lentP : Prov → Prov
  | .frz => .frz
  | .reg _ => .reg 1
  | .ver .. => .reg 0

/-- A value that is lent: read alone, by nobody written while the call runs; and the blocks looked at. hs: blocks that are handed over. -/
def snap (s : St) (hs : List Nat) : Nat → AV → Option (AV × List Nat)
  | 0, _ => none
  | n + 1, a =>
    match a with
    | .un | .bool _ | .int .. | .str _ | .nils | .nilp | .nilf | .nili | .nilm | .arr .. => some (a, [])
    | .nz K => some (.ro (.reg 0) K [], [])
    | .sl b => match rowOf s b with
      | some (.rw K l) => chk (!(memN b hs)) (some (.ro (.reg 0) K l, [b]))
      | _ => none
    | .ss b o m => match rowOf s b with
      | some (.rw K l) => chk (!(memN b hs)) (some (.ro (.reg 0) K ((l.drop o).take m), [b]))
      | _ => none
    | .ro p K l => chk (liveP s hs p) (some (.ro (lentP p) K l, atP p))
    | .vw b v _ _ K l => chk (liveP s hs (.ver b v)) (some (.ro (.reg 0) K l, [b]))
    | .agg ps => match snapL (snap s hs n) ps with
      | some (qs, r) => some (.agg qs, r)
      | none => none
    | .pb b o [] => match look b s.st with
      | some (.cell _ _ ps) => chk (!(memN b hs || hasRow ps)) (match snapL (snap s hs n) ps with
        | some (qs, r) => some (.pr (.reg 0) qs o [], b :: r)
        | none => none)
      | _ => none
    | .pb b o [(sz, _, i, f)] => match rowOf s b with
      | some (.rw K l) => chk (!(memN b hs) && (Nat.beq sz K.size && Nat.beq o 0)) (match snapL snapP (toParts K (K.get l i)) with
        | some (qs, _) => some (.pr (.reg 0) qs f [], [b])
        | none => none)
      | _ => none
    | .pr p ps o q => match p with
      | .ver .. => none
      | _ => match snapL (snap s hs n) ps with
        | some (qs, r) => some (.pr (lentP p) qs o q, r)
        | none => none
    | .po p K l q => chk (liveP s hs p) (some (.po (lentP p) K l q, atP p))
    | .tr p t => chk (notVer p) (some (.tr (lentP p) t, []))
    | .ifc t v => match snap s hs n v with
      | some (x, r) => some (.ifc t x, r)
      | none => none
    | _ => none
where
  snapP : AV → Option (AV × List Nat)
    | .nl K l => some (.ro (.reg 0) K l, [])
    | .bool b => some (.bool b, [])
    | .int k m => some (.int k m, [])
    | .str t => some (.str t, [])
    | .arr m K l => bif K.nest then none else some (.arr m K l, [])
    | _ => none
  hasRow : List AV → Bool
    | [] => false
    | .rw .. :: _ => true
    | .nl .. :: _ => true
    | .arr _ K _ :: r => K.nest || hasRow r
    | _ :: r => hasRow r
  snapL (f : AV → Option (AV × List Nat)) : List AV → Option (List AV × List Nat)
    | [] => some ([], [])
    | p :: r => match f p with
      | some (x, l) => match snapL f r with
        | some (y, l') => some (x :: y, l ++ l')
        | none => none
      | none => none

/-- Regions one further out (at a call), or one further in (behind it; none where a region ends). -/
def shiftP (up : Bool) : Prov → Option Prov
  | .frz => some .frz
  | .reg n => bif up then some (.reg (n + 1)) else (match n with | 0 => none | n + 1 => some (.reg n))
  | .ver .. => none

def pvR (sh : Nat) (m : List (Nat × Nat)) (p : Prov) : Option Prov :=
  match sh with
  | 0 => match p with
    | .ver b _ => match look b m with | some b' => some (.ver b' 0) | none => none
    | p => some p
  | 1 => shiftP true p
  | _ => shiftP false p

/-- Another numbering of blocks; regions shifted (0: not, 1: outward, 2: inward, 3: not, and no views). ok: is a view still good? Views come to version 0. -/
def ren (ok : Nat → Nat → Bool) (sh : Nat) (m : List (Nat × Nat)) : Nat → AV → Option AV
  | 0, _ => none
  | n + 1, a =>
    let good (p : Prov) : Bool := match p with | .ver b v => ok b v | _ => true
    let pv (p : Prov) : Option Prov := pvR sh m p
    match a with
    | .un | .bool _ | .int .. | .str _ | .nils | .nz _ | .nilp | .nilf | .nili | .nilm | .arr .. | .nl .. | .rw .. | .pan .. => some a
    | .sl b => match look b m with | some b' => some (.sl b') | none => none
    | .ss b o k => match look b m with | some b' => some (.ss b' o k) | none => none
    | .mp b => match look b m with | some b' => some (.mp b') | none => none
    | .pb b o p => match look b m with | some b' => some (.pb b' o p) | none => none
    | .vw b v i f K l => match sh with
      | 0 => bif ok b v then (match look b m with | some b' => some (.vw b' 0 i f K l) | none => none) else some .un
      | _ => none
    | .pn b v i f K l p => match sh with
      | 0 => bif ok b v then (match look b m with | some b' => some (.pn b' 0 i f K l p) | none => none) else some .un
      | _ => none
    | .ro p K l => bif good p then (match pv p with | some p => some (.ro p K l) | none => none) else some .un
    | .po p K l q => bif good p then (match pv p with | some p => some (.po p K l q) | none => none) else some .un
    | .pr p ps o q => bif good p then (match pv p with
      | some p => match ps.mapM (ren ok sh m n) with | some qs => some (.pr p qs o q) | none => none
      | none => none) else some .un
    | .agg ps => match ps.mapM (ren ok sh m n) with | some qs => some (.agg qs) | none => none
    | .tup ps => match ps.mapM (ren ok sh m n) with | some qs => some (.tup qs) | none => none
    | .fn f ps => match ps.mapM (ren ok sh m n) with | some qs => some (.fn f qs) | none => none
    | .ifc t v => match ren ok sh m n v with | some x => some (.ifc t x) | none => none
    | .tr p t => bif notVer p then (match pv p with | some p => some (.tr p t) | none => none) else none

def renB (ok : Nat → Nat → Bool) (sh : Nat) (m : List (Nat × Nat)) : Blk → Option Blk
  | .cell ro _ ps => match ps.mapM (ren ok sh m 8) with
    | some qs => some (.cell ro 0 qs)
    | none => none
  | .map K V l => some (.map K V l)
  | .iter b n ord last => match look b m with
    | some b' => some (.iter b' n ord last)
    | none => none
  | .bld t u l => some (.bld t u l)

/-- What can be reached, in the order of a walk. -/
def clos (st : List (Nat × Blk)) : Nat → List Nat → List Nat → List Nat
  | 0, _, acc => acc
  | f + 1, todo, acc => match todo with
    | [] => acc
    | b :: r => bif memN b acc then clos st f r acc else
      match look b st with
      | some x => clos st f (r ++ refsB x) (acc ++ [b])
      | none => clos st f r acc

def number : Nat → List Nat → List (Nat × Nat)
  | _, [] => []
  | n, b :: r => (b, n) :: number (n + 1) r

def blksOf (ok : Nat → Nat → Bool) (sh : Nat) (m : List (Nat × Nat)) (st : List (Nat × Blk)) : List Nat → Option (List Blk)
  | [] => some []
  | b :: r => match look b st with
    | some x => match renB ok sh m x with
      | some y => match blksOf ok sh m st r with
        | some z => some (y :: z)
        | none => none
      | none => none
    | none => none

/-- What an operation does to the blocks: (block, what it is now; none: it is given up). -/
abbrev Upd := List (Nat × Option Blk)

def applyU : Upd → List (Nat × Blk) → List (Nat × Blk)
  | [], st => st
  | (b, some x) :: r, st => applyU r (put b x st)
  | (b, none) :: r, st => applyU r (del b st)

def ofConst : Value → AV
  | .bool b => .bool b
  | .int k n => .int k n
  | .string s => .str s.data.toList
  | .pointer none => .nilp
  | .slice none n c => bif Nat.beq n 0 && Nat.beq c 0 then .nils else .un
  | .map none => .nilm
  | .nilFunc => .nilf
  | .nilIface => .nili
  | _ => .un

def ev (s : St) : Operand → AV
  | .tmp t => getD .un t s.tm
  | .const v => ofConst v
  | .global _ => .un
  | .func f => .fn f []

section
variable {R : Type}

def wrapK (k : IntKind) (n : Int) : Int := k.wrap n

def intOp (op : BinOp) (k : IntKind) (a b : Int) (cont : AV → Option R) : Option R :=
  match op with
  | .add => cont (.int k (wrapK k (a + b)))
  | .sub => cont (.int k (wrapK k (a - b)))
  | .mul => cont (.int k (wrapK k (a * b)))
  | .quo => chk (!(b == 0)) (cont (.int k (wrapK k (a.tdiv b))))
  | .rem => chk (!(b == 0)) (cont (.int k (a.tmod b)))
  | .eql => cont (.bool (a == b))
  | .neq => cont (.bool (a != b))
  | .lss => cont (.bool (decide (a < b)))
  | .leq => cont (.bool (decide (a ≤ b)))
  | .gtr => cont (.bool (decide (a > b)))
  | .geq => cont (.bool (decide (a ≥ b)))
  | .shl => chk (decide (0 ≤ b)) (cont (.int k (wrapK k (a * 2 ^ min b.toNat k.bits))))
  | .shr => chk (decide (0 ≤ b)) (cont (.int k (a.fdiv (2 ^ min b.toNat k.bits))))
  | .and => cont (.int k (wrapK k (BitVec.ofInt k.bits a &&& BitVec.ofInt k.bits b).toNat))
  | .or => cont (.int k (wrapK k (BitVec.ofInt k.bits a ||| BitVec.ofInt k.bits b).toNat))
  | .xor => cont (.int k (wrapK k (BitVec.ofInt k.bits a ^^^ BitVec.ofInt k.bits b).toNat))
  | _ => none

def isShift : BinOp → Bool
  | .shl | .shr => true
  | _ => false

def isNil : Operand → Bool
  | .const (.pointer none) | .const (.slice none _ _) | .const (.map none) | .const .nilFunc | .const .nilIface => true
  | _ => false

def binE (op : BinOp) (bt : Bool) (a b : AV) (cont : AV → Option R) : Option R :=
  match a, b with
  | .int k m, .int k' n => bif isShift op || kbeq k k' then intOp op k m n cont else none
  | .str s, .str t => match op with
    | .add => chk (Nat.ble (s.length + t.length) big) (cont (.str (s ++ t)))
    | .eql => cont (.bool (s == t))
    | .neq => cont (.bool (!(s == t)))
    | _ => none
  | .bool p, .bool q => match op with
    | .eql => chk bt (cont (.bool (p == q)))
    | .neq => chk bt (cont (.bool (!(p == q))))
    | _ => none
  | _, _ => none

/-- Operations that make no block and write to none: the value, and which blocks were looked at. -/
def pureE (bt : Nat → Bool) (s : St) (op : Op) (cont : AV → List Nat → Option R) : Option R :=
  match op with
  | .move x | .assign x => cont (ev s x) []
  | .pick x a b => match ev s x with
    | .bool t => bif t then cont (ev s a) [] else cont (ev s b) []
    | _ => none
  | .nilCheck x => match ev s x with
    | .pb b o p => cont (.pb b o p) []
    | .pn b v i f K l p => cont (.pn b v i f K l p) []
    | .po q K l p => cont (.po q K l p) []
    | .pr q ps o p => cont (.pr q ps o p) []
    | .fn f cs => cont (.fn f cs) []
    | _ => none
  | .binOp o t x y _ => binE o (bt t) (ev s x) (ev s y) (fun v => cont v [])
  | .unOp o _ x => match o, ev s x with
    | .not, .bool b => cont (.bool (!b)) []
    | .neg, .int k n => cont (.int k (wrapK k (0 - n))) []
    | _, _ => none
  | .extract x i => match ev s x with
    | .tup vs => match vs[i]? with
      | some v => cont v []
      | none => none
    | _ => none
  | _ => none

end
end Go.Ev

/- The abstract evaluator: memory, calls, code. Plain definitions. -/
namespace Go.Ev

def tyI (c : Cfg) (t : Nat) : Option TyI := look t c.ty

/-- A slice's type. -/
def isSl (ti : TyI) : Bool :=
  match ti.cls, ti.zero with
  | 0, [.nz _] | 0, [.nils] => true
  | _, _ => false

/-- An integer's type. -/
def isInt (ti : TyI) : Option IntKind :=
  match ti.cls, ti.zero with
  | 0, [.int k _] => some k
  | _, _ => none

def isK (ti : TyI) (k : IntKind) : Bool := match isInt ti with
  | some k' => kbeq k k'
  | none => false

def isStr (ti : TyI) : Bool :=
  match ti.cls, ti.zero with
  | 0, [.str _] => true
  | _, _ => false

def isBool (c : Cfg) (t : Nat) : Bool :=
  match tyI c t with
  | some ti => match ti.cls, ti.zero with
    | 0, [.bool _] => true
    | _, _ => false
  | none => false

def notInt (c : Cfg) (t : Nat) : Bool :=
  match tyI c t with
  | some ti => match isInt ti with
    | some _ => false
    | none => true
  | none => false

/-- A pointer's type. -/
def isPtr (ti : TyI) : Bool :=
  match ti.cls, ti.zero with
  | 0, [.nilp] => true
  | _, _ => false

/-- An interface's type. -/
def isIfc (ti : TyI) : Bool :=
  match ti.cls, ti.zero with
  | 0, [.nili] => true
  | 0, [.tr .frz .nil] => true
  | _, _ => false

def isMap (ti : TyI) : Bool :=
  match ti.cls, ti.zero with
  | 0, [.nilm] => true
  | _, _ => false

/-- The kind of a type of plain things. -/
def plainK (ti : TyI) : Option Ki :=
  match ti.cls, ti.zero with
  | 0, [.int k n] => bif n == 0 then some (.int k) else none
  | 0, [.str []] => some .str
  | 0, [.bool false] => some .bool
  | _, _ => none

/-- The kind of a type of keys: plain things, and rows of numbers. -/
def keyK (c : Cfg) (ti : TyI) : Option Ki :=
  match plainK ti with
  | some K => some K
  | none => match ti.cls, ti.zero, tyI c ti.elem with
    | 2, [.arr n (.int k) _], some te => match isInt te with
      | some k' => bif kbeq k k' && (Nat.beq ti.alen n && Nat.beq te.sz 1) then some (.arr n (.int k)) else none
      | none => none
    | _, _, _ => none

/-- The kinds of a map's keys and values. -/
def mapTy (c : Cfg) (t : Nat) : Option (Ki × Ki) :=
  match tyI c t with
  | some ti => match tyI c ti.alen, tyI c ti.elem with
    | some tk, some tv => match keyK c tk, plainK tv with
      | some K, some V => bif isMap ti then some (K, V) else none
      | _, _ => none
    | _, _ => none
  | none => none

def keyD : (K : Ki) → AV → Option K.den
  | .int k, .int k' n => bif kbeq k' k then some n else none
  | .bool, .bool b => some b
  | .str, .str s => some s
  | .arr n (.int k), .arr n' (.int k') l => bif Nat.beq n n' && kbeq k k' then some l else none
  | _, _ => none

def ofD : (K : Ki) → K.den → AV
  | .int k, n => .int k n
  | .bool, b => .bool b
  | .str, s => .str s
  | .arr n (.int k), l => .arr n (.int k) l
  | _, _ => .un

def hintOk : Option Operand → Bool
  | none => true
  | some (.const (.int ..)) => true
  | _ => false

/-- A type of bytes. -/
def isByte (ti : TyI) : Bool :=
  match isInt ti with
  | some .u8 => true
  | _ => false

/-- Rows inside loaded parts become views of the block that they lie in. -/
def vwParts (b v i : Nat) : Nat → List AV → List AV
  | _, [] => []
  | f, .nl K l :: r => .vw b v i f K l :: vwParts b v i (f + 1) r
  | f, p :: r => p :: vwParts b v i (f + p.size) r

def roParts (q : Prov) : List AV → List AV
  | [] => []
  | .nl K l :: r => .ro q K l :: roParts q r
  | .tr .. :: r => .un :: roParts q r
  | p :: r => p :: roParts q r

/-- The same, of parts that are read as they stand. -/
def prParts (q : Prov) : List AV → List AV
  | [] => []
  | .nl K l :: r => .ro q K l :: prParts q r
  | p :: r => p :: prParts q r

/-- A value out of parts. -/
def ofCls (cls : Nat) (ps : List AV) : Option AV :=
  match cls, ps with
  | 0, [a] => bif a.plain then some a else none
  | 1, ps => some (.agg ps)
  | 2, [.arr n K l] => some (.arr n K l)
  | _, _ => none

/-- A nil slice that stands where type t is known. -/
def typed (c : Cfg) (t : Nat) (a : AV) : AV :=
  match a with
  | .nils => match tyI c t with
    | some ti => match tyI c ti.elem with
      | some te => match te.ki with
        | some K => .nz K
        | none => .nils
      | none => .nils
    | none => .nils
  | .nili => match tyI c t with
    | some ti => match ti.zero with
      | [.tr .frz .nil] => .tr .frz .nil
      | _ => .nili
    | none => .nili
  | a => a

def partsOf : AV → List AV
  | .agg ps => ps
  | a => [a]

def sizes : List AV → Nat
  | [] => 0
  | p :: r => p.size + sizes r

def posL : List AV → Bool
  | [] => true
  | p :: r => Nat.ble 1 p.size && posL r

/-- A part that may be had as a value. -/
def flatP : AV → Bool
  | .nl .. => false
  | .rw .. => false
  | .arr _ K _ => !K.nest
  | _ => true

def flatL : List AV → Bool
  | [] => true
  | p :: r => flatP p && flatL r

def flat (ps : List AV) (rd : List Nat) : Option (List AV × List Nat) := bif flatL ps then some (ps, rd) else none

/-- What lies at an address: parts, and the block looked at. -/
def loadAt (s : St) (n : Nat) (a : AV) : Option (List AV × List Nat) :=
  match a with
  | .pb b o p => match look b s.st with
    | some (.cell _ v ps) => match nav n p.reverse o ps with
      | some qs => match p with
        | [(_, _, i, f)] => (match ps with
          | [.rw K _] => bif K.nest && posL qs then flat (vwParts b v i f qs) [b] else flat qs [b]
          | _ => flat qs [b])
        | _ => flat qs [b]
      | none => none
    | _ => none
  | .pn b v _ _ K l p => bif valid s (.ver b v) then (match nav n p.reverse 0 [.rw K l] with
      | some qs => flat (roParts (.ver b v) qs) [b]
      | none => none) else none
  | .po q K l p => bif valid s q then (match nav n p.reverse 0 [.rw K l] with
      | some qs => flat (roParts q qs) (match q with | .ver b _ => [b] | _ => [])
      | none => none) else none
  | .pr q ps o p => bif valid s q then (match nav n p.reverse o ps with
      | some qs => flat (prParts q qs) (match q with | .ver b _ => [b] | _ => [])
      | none => none) else none
  | _ => none

/-- Rows that are handed over into a row: parts without references, and the blocks given up. -/
def giveParts (s : St) : List AV → Option (List AV × List Nat)
  | [] => some ([], [])
  | p :: r => match giveParts s r with
    | none => none
    | some (qs, ks) => match p with
      | .sl b => match rowOf s b with
        | some (.rw K l) => some (.nl K l :: qs, b :: ks)
        | _ => none
      | .ss b o m => match rowOf s b with
        | some (.rw K l) => some (.nl K ((l.drop o).take m) :: qs, b :: ks)
        | _ => none
      | .vw .. | .ro (.reg _) .. | .ro (.ver ..) .. | .pb .. | .pn .. | .po .. | .pr .. | .fn .. | .mp _ | .agg _ | .tup _ => none
      | p => some (p :: qs, ks)

def nodupN : List Nat → Bool
  | [] => true
  | a :: r => !(memN a r) && nodupN r

def kills (ks : List Nat) : Upd := ks.map fun b => (b, none)

def rowK : List AV → Option Ki
  | [.rw K _] => some K
  | _ => none

/-- May it be stored? -/
def storable : AV → Bool
  | .agg _ | .arr .. => true
  | .un => false
  | a => a.plain

def storeAt (s : St) (n : Nat) (a v : AV) : Option Upd :=
  let ps := partsOf v
  bif Nat.beq (sizes ps) n && storable v then
  match a with
  | .pb b o [] => match look b s.st with
    | some (.cell false v qs) => match rowK qs, navSet n ps [] o qs with
      | none, some qs' => some [(b, some (.cell false v qs'))]
      | _, _ => none
    | _ => none
  | .pb b o p => match look b s.st with
    | some (.cell false v qs) => match giveParts s ps with
      | some (ps', ks) => bif nodupN (b :: ks) then (match navSet n ps' p.reverse o qs with
        | some qs' => some ((b, some (.cell false (match rowK qs with | some K => bif K.nest then v + 1 else v | none => v) qs')) :: kills ks)
        | none => none) else none
      | none => none
    | _ => none
  | .pn b v i f K l p => bif valid s (.ver b v) && !K.nest then (match look b s.st, giveParts s ps with
    | some (.cell false v2 [.rw K0 l0]), some (ps', []) => match navSet n ps' p.reverse 0 [.rw K l] with
      | some [.rw K' l'] => match castK K' K l' with
        | some l2 => match setCells f (toParts K0 (K0.get l0 i)) 1 [.nl K l2] with
          | some qs => match ofPartsAll K0 qs with
            | some d => some [(b, some (.cell false (v2 + 1) [.rw K0 (l0.set i d)]))]
            | none => none
          | none => none
        | none => none
      | _ => none
    | _, _ => none) else none
  | _ => none
  else none

def addOff (a : AV) (o : Nat) : Option AV :=
  match a with
  | .pb b x [] => some (.pb b (x + o) [])
  | .pb b x ((sz, n, i, f) :: p) => some (.pb b x ((sz, n, i, f + o) :: p))
  | .pn b v i f K l ((sz, n, j, g) :: p) => some (.pn b v i f K l ((sz, n, j, g + o) :: p))
  | .po q K l ((sz, n, j, g) :: p) => some (.po q K l ((sz, n, j, g + o) :: p))
  | .pr q ps x [] => some (.pr q ps (x + o) [])
  | .pr q ps x ((sz, n, j, g) :: p) => some (.pr q ps x ((sz, n, j, g + o) :: p))
  | _ => none

def addIx (a : AV) (sz n i : Nat) : Option AV :=
  match a with
  | .pb b x p => some (.pb b x ((sz, n, i, 0) :: p))
  | .pn b v i' f K l p => some (.pn b v i' f K l ((sz, n, i, 0) :: p))
  | .po q K l p => some (.po q K l ((sz, n, i, 0) :: p))
  | .pr q ps x p => some (.pr q ps x ((sz, n, i, 0) :: p))
  | _ => none

/-- The elements of a slice value, as they are now; K is their kind. -/
def elems (s : St) (K : Ki) (a : AV) : Option (List K.den) :=
  match a with
  | .nils | .nz _ => some []
  | .sl b => match rowOf s b with
    | some (.rw K' l) => castK K' K l
    | _ => none
  | .ss b o n => match rowOf s b with
    | some (.rw K' l) => match castK K' K l with
      | some l => some ((l.drop o).take n)
      | none => none
    | _ => none
  | .ro p K' l => bif valid s p then castK K' K l else none
  | .vw b v _ _ K' l => bif valid s (.ver b v) then castK K' K l else none
  | _ => none

def intsStr (l : List Int) : List UInt8 := l.map fun n => UInt8.ofNat n.toNat

def strInts (s : List UInt8) : List Int := s.map fun b => (b.toNat : Int)

/-- The same of a string, for rows of bytes. -/
def srcElems (s : St) (K : Ki) (a : AV) : Option (List K.den) :=
  match K, a with
  | .int .u8, .str t => some (strInts t)
  | K, a => elems s K a

def provId : Prov → List Nat
  | .ver b _ => [b]
  | _ => []

/-- The block of a slice's own row. -/
def ownId : AV → List Nat
  | .sl b | .ss b _ _ => [b]
  | _ => []

def verId : AV → List Nat
  | .sl b | .ss b _ _ => [b]
  | .vw b .. => [b]
  | .ro (.ver b _) _ _ => [b]
  | _ => []

/-- May it be appended to (its row is given up)? -/
def appendable : AV → Bool
  | .nils | .nz _ | .sl _ | .ss .. => true
  | _ => false

/-- A whole row, or none. -/
def wholeSl : AV → Bool
  | .sl _ | .nils | .nz _ => true
  | _ => false

def byteAt (t : List UInt8) (i : Int) : Int := ((t.getD i.toNat 0).toNat : Int)

section
variable {R : Type}

def intOf? : AV → Option Int
  | .int _ n => some n
  | _ => none

/-- 0 ≤ i < n. -/
def inB (i : Int) (n : Nat) : Bool := decide (0 ≤ i) && decide (i < (n : Int))

def idxE (c : Cfg) (s : St) (t : Nat) (x i : AV) (cont : AV → List Nat → Option R) : Option R :=
  match intOf? i, tyI c t with
  | some i, some ti => match tyI c ti.elem with
    | some te => match x with
      | .sl b => match rowOf s b with
        | some (.rw K l) => chk (isSl ti && Nat.beq K.size te.sz) (chk (inB i l.length) (cont (.pb b 0 [(K.size, 0, i.toNat, 0)]) [b]))
        | _ => none
      | .ss b o n => match rowOf s b with
        | some (.rw K _) => chk (isSl ti && Nat.beq K.size te.sz) (chk (inB i n) (cont (.pb b 0 [(K.size, 0, o + i.toNat, 0)]) [b]))
        | _ => none
      | .ro p K l => chk (isSl ti && Nat.beq K.size te.sz) (chk (inB i l.length) (cont (.po p K l [(K.size, 0, i.toNat, 0)]) []))
      | .vw b v j f K l => chk (isSl ti && Nat.beq K.size te.sz) (chk (inB i l.length) (cont (.pn b v j f K l [(K.size, 0, i.toNat, 0)]) []))
      | x => chk (Nat.beq ti.cls 2) (chk (Nat.ble 2 ti.alen) (chk (inB i ti.alen) (match addIx x te.sz ti.alen i.toNat with
        | some a => cont a []
        | none => none)))
    | none => none
  | _, _ => none

def sliceGo (lo hi : Option AV) (len : Nat) (mk : Nat → Nat → AV) (rd : List Nat) (cont : AV → List Nat → Option R) : Option R :=
  match lo, hi with
  | none, none => cont (mk 0 len) rd
  | some a, none => match intOf? a with
    | some a => chk (decide (0 ≤ a) && decide (a ≤ (len : Int))) (cont (mk a.toNat len) rd)
    | none => none
  | none, some b => match intOf? b with
    | some b => chk (decide (0 ≤ b) && decide (b ≤ (len : Int))) (cont (mk 0 b.toNat) rd)
    | none => none
  | some a, some b => match intOf? a, intOf? b with
    | some a, some b => chk (decide (0 ≤ b) && decide (b ≤ (len : Int))) (chk (decide (0 ≤ a) && decide (a ≤ b)) (cont (mk a.toNat b.toNat) rd))
    | _, _ => none

def sliceE (c : Cfg) (s : St) (t : Nat) (x : AV) (lo hi : Option AV) (cont : AV → List Nat → Option R) : Option R :=
  match tyI c t with
  | some ti => match x with
    | .str t => chk (isStr ti) (sliceGo lo hi t.length (fun l h => .str ((t.take h).drop l)) [] cont)
    | x => match tyI c ti.elem with
      | some te => match x with
        | .nils => chk (isSl ti) (sliceGo lo hi 0 (fun _ _ => .nils) [] cont)
        | .nz K => chk (isSl ti) (sliceGo lo hi 0 (fun _ _ => .nz K) [] cont)
        | .sl b => match rowOf s b with
          | some (.rw K l) => chk (isSl ti && Nat.beq K.size te.sz) (sliceGo lo hi l.length (fun lo hi => .ss b lo (hi - lo)) [b] cont)
          | _ => none
        | .ss b o n => match rowOf s b with
          | some (.rw K _) => chk (isSl ti && Nat.beq K.size te.sz) (sliceGo lo hi n (fun lo hi => .ss b (o + lo) (hi - lo)) [b] cont)
          | _ => none
        | .ro p K l => chk (isSl ti && Nat.beq K.size te.sz) (sliceGo lo hi l.length (fun lo hi => .ro p K ((l.take hi).drop lo)) [] cont)
        | .vw b v _ _ K l => chk (isSl ti && Nat.beq K.size te.sz) (sliceGo lo hi l.length (fun lo hi => .ro (.ver b v) K ((l.take hi).drop lo)) [] cont)
        | _ => none
      | none => none
  | none => none

def lenE (s : St) (c : Cfg) (t : Nat) (a : AV) : Option (Nat × List Nat) :=
  match tyI c t with
  | some ti => match a with
    | .str x => bif isStr ti then some (x.length, []) else none
    | .nils | .nz _ => bif isSl ti then some (0, []) else none
    | .sl b => match rowOf s b with
      | some (.rw _ l) => bif isSl ti then some (l.length, [b]) else none
      | _ => none
    | .ss _ _ n => bif isSl ti then some (n, []) else none
    | .ro _ _ l => bif isSl ti then some (l.length, []) else none
    | .vw _ _ _ _ _ l => bif isSl ti then some (l.length, []) else none
    | .nilm => bif isMap ti then some (0, []) else none
    | .mp b => match look b s.st with
      | some (.map _ _ l) => bif isMap ti then some (l.length, [b]) else none
      | _ => none
    | .arr .. | .pb .. | .pr .. => bif Nat.beq ti.cls 2 then some (ti.alen, []) else none
    | _ => none
  | none => none

def minmaxL (mx : Bool) (k : IntKind) : Int → List AV → Option AV
  | a, [] => some (.int k a)
  | a, .int k' b :: r => bif kbeq k k' then minmaxL mx k (bif mx then (bif decide (b > a) then b else a) else (bif decide (b < a) then b else a)) r else none
  | _, _ => none

def minmax (mx : Bool) : List AV → Option AV
  | .int k a :: r => minmaxL mx k a r
  | _ => none

/-- Elements of a slice that is written out: from place j on, n of them. -/
def litElems (s : St) (K : Ki) (j : Nat) : Nat → List (Nat × AV) → Option (List K.den × List Nat)
  | 0, [] => some ([], [])
  | n + 1, (i, x) :: r => bif Nat.beq i j && storable x then
      (match giveParts s (partsOf x) with
      | some (ps, ks) => match ofPartsAll K ps with
        | some d => match litElems s K (j + 1) n r with
          | some (l, ks') => some (d :: l, ks ++ ks')
          | none => none
        | none => none
      | none => none) else none
  | _, _ => none

/-- The cells of field i. -/
def fieldSz (sz : Nat) : List Nat → Nat → Nat
  | [], _ => 0
  | [o], 0 => sz - o
  | o :: p :: _, 0 => p - o
  | _ :: r, i + 1 => fieldSz sz r i

/-- The parts of a struct that is written out: the zero value's, with those given. -/
def buildParts (sz : Nat) (offs : List Nat) : List (Nat × AV) → List AV → Option (List AV)
  | [], ps => some ps
  | (i, x) :: r, ps => match offs[i]? with
    | some o => bif storable x && Nat.beq (sizes (partsOf x)) (fieldSz sz offs i) then (match setCells o ps (sizes (partsOf x)) (partsOf x) with
      | some qs => buildParts sz offs r qs
      | none => none) else none
    | none => none

/-- An array that is written out. -/
def buildArr (K : Ki) (n : Nat) : List (Nat × AV) → List K.den → Option (List K.den)
  | [], l => some l
  | (i, x) :: r, l => bif storable x && Nat.blt i n then (match ofPartsAll K (partsOf x) with
    | some d => buildArr K n r (l.set i d)
    | none => none) else none

abbrev Cont (R : Type) := AV → Upd → List Nat → Option R

/-- Bytes to bytes: the row is marked as one that was converted. -/
def convB {R : Type} (s : St) (ok : Bool) (x : AV) (cont : AV → Upd → List Nat → Option R) : Option R :=
  match x with
  | .sl b => match look b s.st with
    | some (.cell false v [.rw K l]) => chk (ok && Nat.ble 1 l.length) (cont (.sl b) [(b, some (.cell false (v + 1) [.rw K l]))] [])
    | _ => none
  | _ => none

/-- Held against nil. -/
def nilE {R : Type} (o : BinOp) (a : AV) (cont : AV → Option R) : Option R :=
  match o, a with
  | .eql, .tr _ t => cont (.bool t.isNil)
  | .neq, .tr _ t => cont (.bool (!t.isNil))
  | .eql, .nili => cont (.bool true)
  | .neq, .nili => cont (.bool false)
  | .eql, .ifc _ _ => cont (.bool false)
  | .neq, .ifc _ _ => cont (.bool true)
  | _, _ => none

/-- What stands in a node. -/
def nodeParts (L : Nat) (q : Prov) (t : Tr) : List AV :=
  match L with
  | 0 => [.arr 256 .bool t.bs]
  | 1 => [.tr q t.l, .tr q t.r]
  | 2 => [.tr q t.l, .int .i64 t.i]
  | _ => [.tr q t.l, .int .i64 t.i, .int .i64 t.j, .un]

/-- A node out of the parts of a variable that is written no more. -/
def treeOf (L T : Nat) (ps : List AV) : Option Tr :=
  match L, ps with
  | 0, [.arr n .bool l] => bif Nat.beq n 256 then some (.nd 0 T l 0 0 .nil .nil) else none
  | 1, [.tr .frz a, .tr .frz b] => some (.nd 1 T [] 0 0 a b)
  | 2, [.tr .frz a, .int .i64 i] => some (.nd 2 T [] i 0 a .nil)
  | 3, [.tr .frz a, .int .i64 i, .int .i64 j, u] => bif u.plain then some (.nd 3 T [] i j a .nil) else none
  | _, _ => none

/-- Where a row's block stands in parts: (cell, block). -/
def slOffs : Nat → List AV → List (Nat × Nat)
  | _, [] => []
  | n, p :: r => match p with
    | .sl k => (n, k) :: slOffs (n + 1) r
    | p => bif Nat.ble 1 p.size then slOffs (n + p.size) r else []

def slAt (o : Nat) (x : Option Blk) : Option Nat :=
  match x with
  | some (.cell _ _ ps) => look o (slOffs 0 ps)
  | _ => none

/-- Cell o of block b, looked at alone; and the same, left as it was. -/
def ptCode (b o : Nat) : Nat := 4294967296 * (o + 1) + b
def ptOf (c : Nat) : Option (Nat × Nat) := bif Nat.beq (c / 4294967296) 0 then none else some (c % 4294967296, c / 4294967296 - 1)
def ptKept (c : Nat) : Nat := c + 18446744073709551616

/-- What a load looks at: where it brings a row's block out of a box, that cell alone. -/
def rdOf (s : St) (a v : AV) (rd : List Nat) : List Nat :=
  match a, v with
  | .pb b o [], .sl k => match slAt o (look b s.st) with
    | some k' => bif Nat.beq k' k && Nat.blt b 4294967296 then [ptCode b o] else rd
    | none => rd
  | _, _ => rd

def memE (c : Cfg) (s : St) (o : Oper) (nb : Nat) (cont : Cont R) : Option R :=
  match o.op with
  | .load t a => match tyI c t with
    | some ti => match loadAt s ti.sz (ev s a) with
      | some (ps, rd) => match ofCls ti.cls ps with
        | some v => cont v [] (rdOf s (ev s a) v rd)
        | none => none
      | none => none
    | none => none
  | .store t a v => match tyI c t with
    | some ti => match storeAt s ti.sz (ev s a) (typed c t (ev s v)) with
      | some u => cont .un u []
      | none => none
    | none => none
  | .fieldAddr t x f => match tyI c t with
    | some ti => bif Nat.beq ti.cls 1 then (match ti.offs[f]? with
      | some off => match addOff (ev s x) off with
        | some a => cont a [] []
        | none => none
      | none => none) else none
    | none => none
  | .indexAddr t x i => idxE c s t (ev s x) (ev s i) (fun a rd => cont a [] rd)
  | .index t x i => match tyI c t with
    | some ti => match ev s x, intOf? (ev s i) with
      | .str t, some i => chk (isStr ti) (chk (inB i t.length) (cont (.int .u8 (byteAt t i)) [] []))
      | .arr n K l, some i => match tyI c ti.elem, toParts K (K.get l i.toNat) with
        | some te, [a] => chk (Nat.beq K.size 1 && Nat.beq te.sz 1 && Nat.beq te.cls 0 && Nat.beq ti.cls 2 && Nat.beq ti.alen n && a.plain) (chk (inB i n) (cont a [] []))
        | _, _ => none
      | _, _ => none
    | none => none
  | .slice t x lo hi none => sliceE c s t (ev s x) (lo.map (ev s)) (hi.map (ev s)) (fun a rd => cont a [] rd)
  | .alloc t => match tyI c t with
    | some ti => match look t c.bl with
      | some u => match ti.zero with
        | [.nilp, .nz _] => chk (!(Nat.beq t u)) (cont (.pb nb 0 []) [(nb, some (.bld t u []))] [])
        | _ => none
      | none => cont (.pb nb 0 []) [(nb, some (.cell false 0 ti.zero))] []
    | none => none
  | .box t v => match tyI c t with
    | some ti => chk (storable (ev s v) && Nat.beq (sizes (partsOf (ev s v))) ti.sz) (cont (.pb nb 0 []) [(nb, some (.cell false 0 (partsOf (ev s v))))] [])
    | none => none
  | .build t ps => match tyI c t with
    | some ti => match ti.cls with
      | 1 => match buildParts ti.sz ti.offs (ps.toList.map fun (i, x) => (i, ev s x)) ti.zero with
        | some qs => cont (.agg qs) [] []
        | none => none
      | 2 => match ti.zero, tyI c ti.elem with
        | [.arr n K l], some te => bif Nat.beq K.size te.sz then (match buildArr K n (ps.toList.map fun (i, x) => (i, ev s x)) l with
          | some l' => cont (.arr n K l') [] []
          | none => none) else none
        | _, _ => none
      | _ => none
    | none => none
  | .buildSlice t n ps => match tyI c t with
    | some ti => match tyI c ti.elem with
      | some te => match te.ki with
        | some K => match litElems s K 0 n (ps.toList.map fun (i, x) => (i, ev s x)) with
          | some (l, ks) => bif isSl ti && Nat.ble (n * te.sz) 16777216 && nodupN ks then cont (.sl nb) ((nb, some (.cell false 0 [.rw K l])) :: kills ks) [] else none
          | none => none
        | none => none
      | none => none
    | none => none
  | .makeSlice t (.tmp a) (.tmp b) => match tyI c t, ev s (.tmp a) with
    | some ti, .int _ n => match tyI c ti.elem with
      | some te => match te.ki with
        | some K => chk (isSl ti && Nat.beq a b) (chk (decide (0 ≤ n)) (chk (Nat.ble n.toNat (bigOf te.bytes)) (cont (.sl nb) [(nb, some (.cell false 0 [.rw K (List.replicate n.toNat K.zero)]))] [])))
        | none => none
      | none => none
    | _, _ => none
  | .makeSlice t (.const a) (.const b) => match tyI c t, ofConst a, ofConst b with
    | some ti, .int _ n, .int _ m => match tyI c ti.elem with
      | some te => match te.ki with
        | some K => chk (isSl ti && n == m) (chk (decide (0 ≤ n)) (chk (Nat.ble n.toNat (bigOf te.bytes)) (cont (.sl nb) [(nb, some (.cell false 0 [.rw K (List.replicate n.toNat K.zero)]))] [])))
        | none => none
      | none => none
    | _, _, _ => none
  | .convert t d x => match tyI c t, tyI c d with
    | some ts, some ti => match isInt ti, ev s x with
      | some k, .int _ n => cont (.int k (wrapK k n)) [] []
      | none, .str l => bif isStr ti then cont (.str l) [] [] else (bif isSl ti then (match tyI c ti.elem with
        | some te => bif isByte te then chk (Nat.ble l.length big) (cont (.sl nb) [(nb, some (.cell false 0 [.rw (.int .u8) (strInts l)]))] []) else none
        | none => none) else none)
      | none, x => bif isStr ti && isSl ts then (match tyI c ts.elem with
        | some te => bif isByte te then (match elems s (.int .u8) x with
          | some l => cont (.str (intsStr l)) [] (verId x)
          | none => none) else none
        | none => none) else convB s (isSl ts && Nat.beq t d && (match tyI c ts.elem with | some te => isByte te | none => false)) x cont
      | _, _ => none
    | _, _ => none
  | .makeMap t rv => match mapTy c t with
    | some (K, V) => bif hintOk rv then cont (.mp nb) [(nb, some (.map K V []))] [] else none
    | none => none
  | .lookup t m k ok => match mapTy c t, ev s m with
    | some (K, V), .mp b => match look b s.st with
      | some (.map K' V' l) => match keyD K' (ev s k) with
        | some x => bif K.beq K' && V.beq V' then cont (bif ok then .tup [ofD V' (mget K'.eqb x V'.zero l), .bool (mhas K'.eqb x l)] else ofD V' (mget K'.eqb x V'.zero l)) [] [b] else none
        | none => none
      | _ => none
    | _, _ => none
  | .range t x => match mapTy c t, ev s x with
    | some _, .mp b => match look b s.st with
      | some (.map _ _ l) => cont (.pb nb 0 []) [(nb, some (.iter b l.length (List.range l.length) 0))] [b]
      | _ => none
    | _, _ => none
  | .entry x => match ev s x with
    | .pb b 0 [] => match look b s.st with
      | some (.iter m n _ last) => match look m s.st with
        | some (.map K V l) => chk (Nat.beq n l.length && Nat.ble 1 last && Nat.ble last l.length) (cont (.tup [ofD K (l.getD (last - 1) (K.zero, V.zero)).1, ofD V (l.getD (last - 1) (K.zero, V.zero)).2]) [] [b, m])
        | _ => none
      | _ => none
    | _ => none
  | .mapUpdate t m k v => match mapTy c t, ev s m with
    | some (K, V), .mp b => match look b s.st with
      | some (.map K' V' l) => match keyD K' (ev s k), keyD V' (ev s v) with
        | some x, some y => bif K.beq K' && V.beq V' then cont .un [(b, some (.map K' V' (mset K'.eqb x y l)))] [] else none
        | _, _ => none
      | _ => none
    | _, _ => none
  | .mapEntry t m k => match mapTy c t, ev s m with
    | some (K, V), .mp b => match look b s.st with
      | some (.map K' V' l) => match keyD K' (ev s k) with
        | some x => bif K.beq K' && V.beq V' then cont (.tup [ofD V' (mget K'.eqb x V'.zero l), .int .i64 (midx K'.eqb x l : Int)]) [(b, some (.map K' V' (mset K'.eqb x (mget K'.eqb x V'.zero l) l)))] [] else none
        | none => none
      | _ => none
    | _, _ => none
  | .entryStore t m i v => match mapTy c t, ev s m, ev s i with
    | some (K, V), .mp b, .int _ n => match look b s.st with
      | some (.map K' V' l) => match keyD V' (ev s v) with
        | some y => bif K.beq K' && V.beq V' then chk (inB n l.length) (cont .un [(b, some (.map K' V' (mupd y n.toNat l)))] []) else none
        | none => none
      | _ => none
    | _, _, _ => none
  | .makeFunc (.func f) fs caps => bif Nat.beq fs.size 0 then cont (.fn f (caps.toList.map (ev s))) [] [] else none
  | .call cl => match cl.callee with
    | .builtin .len => match cl.args.toList, cl.argTypes.toList with
      | [x], [t] => match lenE s c t (ev s x) with
        | some (n, rd) => cont (.int .i64 (n : Int)) [] rd
        | none => none
      | _, _ => none
    | .builtin .min => match minmax false (cl.args.toList.map (ev s)) with
      | some v => cont v [] []
      | none => none
    | .builtin .max => match minmax true (cl.args.toList.map (ev s)) with
      | some v => cont v [] []
      | none => none
    | .builtin .append => match cl.args.toList, cl.argTypes.toList with
      | [x, y], [t, t2] => match tyI c t with
        | some ti => bif isSl ti && notInt c t2 then match tyI c ti.elem with
          | some te => match te.ki with
            | some K => match elems s K (ev s x), srcElems s K (ev s y) with
              | some l, some l' =>
                let ks := ownId (ev s x) ++ (bif K.nest then ownId (ev s y) else [])
                let rd := bif K.nest then [] else verId (ev s y)
                bif appendable (ev s x) && nodupN (ownId (ev s x) ++ verId (ev s y)) && (!K.nest || wholeSl (ev s y)) then
                  chk (Nat.ble (l.length + l'.length) (bigOf te.bytes)) (cont (.sl nb) ((nb, some (.cell false 0 [.rw K (l ++ l')])) :: kills ks) rd)
                else none
              | _, _ => none
            | none => none
          | none => none else none
        | none => none
      | _, _ => none
    | _ => none
  | .binOp op t x (.const .nilIface) _ => match tyI c t with
    | some ti => chk (isIfc ti) (nilE op (ev s x) (fun v => cont v [] []))
    | none => none
  | .typeAssert x _ T true => match ev s x, tyI c T, look T c.tr with
    | .tr q t, some ti, some L => chk (isPtr ti && notVer q) (bif t.is T then chk (Nat.beq t.lay L) (cont (.tup [.pr q (nodeParts L q t) 0 [], .bool true]) [] []) else cont (.tup [.nilp, .bool false]) [] [])
    | _, _, _ => none
  | .typeAssert x _ T false => match ev s x, tyI c T with
    | .ifc T' (.int k n), some ti => chk (Nat.beq T' T && isK ti k) (cont (.int k n) [] [])
    | _, _ => none
  | .makeInterface T x => match ev s x, look T c.tr, tyI c T with
    | .int k n, _, some ti => chk (isK ti k) (cont (.ifc T (.int k n)) [] [])
    | .pb b 0 [], some L, some ti => match look b s.st with
      | some (.cell _ _ ps) => match treeOf L T ps with
        | some t => chk (isPtr ti) (cont (.tr .frz t) [(b, none)] [])
        | none => none
      | _ => none
    | _, _, _ => none
  | .assign x => cont (typed c o.type (ev s x)) [] []
  | .move x => cont (typed c o.type (ev s x)) [] []
  | _ => pureE (isBool c) s o.op (fun v rd => cont v [] rd)

/-- Who answers calls: function, arguments, the blocks handed over; behind it: the value, what became of those blocks, new blocks. -/
abbrev Orc (R : Type) := Nat → List AV → List Blk → (AV → List (Option Blk) → List Blk → Option R) → Option R

/-- Is an argument handed over? -/
def handed (ws : List Nat) (j : Nat) (a : AV) : Bool :=
  match a with
  | .fn .. => true
  | _ => memN j ws

/-- The blocks that come to be handed over, to begin with. -/
def handRefs (ws : List Nat) : Nat → List AV → List Nat
  | _, [] => []
  | j, a :: r => (bif handed ws j a then refs 8 a else []) ++ handRefs ws (j + 1) r

def noView (_ _ : Nat) : Bool := false

/-- The arguments as the callee gets them, and the blocks that are looked at. -/
def callArgs (s : St) (ws hs : List Nat) (m : List (Nat × Nat)) : Nat → List AV → Option (List AV × List Nat)
  | _, [] => some ([], [])
  | j, a :: r => match callArgs s ws hs m (j + 1) r with
    | some (r', l) => bif handed ws j a then (match ren noView 1 m 8 a with
        | some a' => some (a' :: r', l)
        | none => none) else (match snap s hs 6 a with
      | some (a', l') => some (a' :: r', l' ++ l)
      | none => none)
    | none => none

def meet : List Nat → List Nat → Bool
  | [], _ => false
  | a :: r, l => memN a l || meet r l

def verOf (s : St) (b : Nat) : Nat :=
  match look b s.st with
  | some (.cell _ v _) => v
  | _ => 0

def withVer (v : Nat) : Blk → Blk
  | .cell ro _ ps => .cell ro v ps
  | x => x

def backUpd (s : St) (m : List (Nat × Nat)) : List (Nat × Nat) → List (Option Blk) → Option Upd
  | [], [] => some []
  | (b, _) :: r, none :: q => match backUpd s m r q with
    | some u => some ((b, none) :: u)
    | none => none
  | (b, _) :: r, some x :: q => match renB noView 2 m x, backUpd s m r q with
    | some y, some u => some ((b, some (withVer (verOf s b + 1) y)) :: u)
    | _, _ => none
  | _, _ => none

def newUpd (m : List (Nat × Nat)) : Nat → List Blk → Option Upd
  | _, [] => some []
  | n, x :: r => match renB noView 2 m x, newUpd m (n + 1) r with
    | some y, some u => some ((n, some y) :: u)
    | _, _ => none

def flip : List (Nat × Nat) → List (Nat × Nat)
  | [] => []
  | (a, b) :: r => (b, a) :: flip r

def newNums (m : Nat) (nb : Nat) : Nat → List (Nat × Nat)
  | 0 => []
  | n + 1 => newNums m nb n ++ [(m + n, nb + n)]

def callE (c : Cfg) (C : Orc R) (s : St) (f : Nat) (args : List AV) (nb : Nat) (cont : Cont R) : Option R :=
  let ws := (look f c.wr).getD []
  let ids := clos s.st 64 (handRefs ws 0 args) []
  let m := number 0 ids
  match callArgs s ws ids m 0 args, blksOf noView 1 m s.st ids with
  | some (as', lent), some bs =>
    chk (nodupN ids) (C f as' bs fun v fin new =>
        let m' := flip m ++ newNums ids.length nb new.length
        chk (Nat.ble new.length 16) (match ren noView 2 m' 8 v, backUpd s m' m fin, newUpd m' nb new with
        | some v', some u, some u' => cont v' (u ++ u') lent
        | _, _, _ => none))
  | _, _ => none

def operE (c : Cfg) (C : Orc R) (s : St) (o : Oper) (nb : Nat) (cont : Cont R) : Option R :=
  match o.op with
  | .call cl => match cl.callee with
    | .value x => match ev s x with
      | .fn f caps => chk (Nat.beq cl.args.size cl.argTypes.size) (callE c C s f ((cl.args.toList.zip cl.argTypes.toList).map (fun x => typed c x.2 (ev s x.1)) ++ caps) nb cont)
      | _ => none
    | _ => memE c s o nb cont
  | .panic x => match ev s x with
    | .ifc t (.int k n) => cont (.pan t k n) [] []
    | _ => none
  | _ => memE c s o nb cont

/-- What an operation came to: its place, the blocks it looked at, those it changed. -/
abbrev Rec := Nat × List Nat × List Nat

def binds (o : Oper) : List Nat := (o.after.toList.filter (Region.binds .any)).map (·.on)

/-- All operations that must stand before each (a row of bits for each). -/
def priors : List Oper → List Nat → List Nat
  | [], acc => acc
  | o :: r, acc => priors r (acc ++ [(binds o).foldl (fun x j => x ||| 2 ^ j ||| acc.getD j 0) 0])

/-- Does the first write a cell that the second looks at alone? -/
def ptHit (w r : Rec) : Bool := r.2.1.any fun c => match ptOf c with
  | some (b, _) => memN b w.2.2 && !(memN (ptKept c) w.2.1)
  | none => false

def clash (x y : Rec) : Bool := (meet x.2.2 y.2.1 || meet x.2.2 y.2.2 || meet x.2.1 y.2.2) || (ptHit x y || ptHit y x)

def pairsOk (pr : List Nat) : List Rec → Bool
  | [] => true
  | x :: r => r.all (fun y => !(clash x y) || Nat.testBit (pr.getD y.1 0) x.1) && pairsOk pr r

def upIds (u : Upd) : List Nat := u.map (·.1)

/-- Cells of a written box in which a row's block stands as ere now. -/
def keptB (s : St) (b : Nat) (ps : List AV) : List (Nat × Nat) → List Nat
  | [] => []
  | (o, _) :: r => match slAt o (look b s.st), look o (slOffs 0 ps) with
    | some k, some k' => bif Nat.beq k k' then ptKept (ptCode b o) :: keptB s b ps r else keptB s b ps r
    | _, _ => keptB s b ps r

def keptU (s : St) : Upd → List Nat
  | [] => []
  | (b, some (.cell _ _ ps)) :: r => (bif Nat.blt b 4294967296 && !(memN b (upIds r)) then keptB s b ps (slOffs 0 ps) else []) ++ keptU s r
  | _ :: r => keptU s r

def smallL : List Nat → Bool
  | [] => true
  | c :: r => Nat.blt c 18446744073709551616 && smallL r

/-- kp: something is thrown; is it the last operation? -/
def opsE (c : Cfg) (C : Orc R) (all : List Oper) (nb : Nat) : Nat → List Oper → St → List Rec → (St → List Rec → Option R) → (Nat → IntKind → Int → St → List Rec → Bool → Option R) → Option R
  | _, [], s, rec, k, _ => k s rec
  | i, o :: r, s, rec, k, kp =>
    let go (s : St) : Option R :=
      operE c C s o (nb + 16 * i) fun v u rd => match v with
        | .pan t k' n => kp t k' n { s with st := applyU u s.st } rec r.isEmpty
        | v => bif smallL rd then opsE c C all nb (i + 1) r { s with tm := (match o.dst with | some d => put d v s.tm | none => s.tm), st := applyU u s.st } (rec ++ [(i, rd ++ keptU s u, upIds u)]) k kp else none
    match o.guard with
    | none => go s
    | some (j, want) => match (all[j]?).bind (·.dst) with
      | none => none
      | some d => match getD .un d s.tm with
        | .bool b =>
          let off (s : St) : Option R := opsE c C all nb (i + 1) r { s with tm := (match o.dst with | some d => put d (.tup []) s.tm | none => s.tm) } rec k kp
          bif b then (let s' := { s with tm := put d (.bool true) s.tm }; bif want then go s' else off s')
          else (let s' := { s with tm := put d (.bool false) s.tm }; bif want then off s' else go s')
        | .tup [] => opsE c C all nb (i + 1) r { s with tm := (match o.dst with | some d => put d (.tup []) s.tm | none => s.tm) } rec k kp
        | _ => none

inductive Ex where
  | normal | exit (id : Nat) | ret
  | pan (t : Nat) (k : IntKind) (n : Int)

/-- Do all others come ahead of the last? -/
def lastOk (all : List Oper) : Bool := (List.range (all.length - 1)).all fun k => Nat.testBit ((priors all []).getD (all.length - 1) 0) k

/-- Who answers loops. -/
abbrev LOrc (R : Type) := Nat → St → (Ex → St → Option R) → Option R

/-- How often a block is pointed to. -/
def cnt (b : Nat) : List Nat → Nat
  | [] => 0
  | a :: r => bif Nat.beq a b then cnt b r + 1 else cnt b r

/-- Fixed forms: a nil slice becomes an empty row; a part of a row that nobody else holds becomes a row of its own, and so does a row with a number below m. all: every pointer there is. nx: a number that is free. -/
def canon1 (m : Nat) (all : List Nat) (a : AV) (s : St) : AV × St :=
  match a with
  | .nz K => (.sl s.nx, { s with st := put s.nx (.cell false 0 [.rw K []]) s.st, nx := s.nx + 1 })
  | .ss b o n => bif Nat.beq (cnt b all) 1 then
      (match look b s.st with
      | some (.cell false _ [.rw K l]) => (.sl s.nx, { s with st := put s.nx (.cell false 0 [.rw K ((l.drop o).take n)]) (del b s.st), nx := s.nx + 1 })
      | _ => (.ss b o n, s))
      else (.ss b o n, s)
  | .sl b => bif Nat.blt b m && Nat.beq (cnt b all) 1 then
      (match look b s.st with
      | some (.cell false _ [.rw K l]) => (.sl s.nx, { s with st := put s.nx (.cell false 0 [.rw K l]) (del b s.st), nx := s.nx + 1 })
      | _ => (.sl b, s))
      else (.sl b, s)
  | a => (a, s)

def canonL (m : Nat) (all : List Nat) : List AV → St → List AV × St
  | [], s => ([], s)
  | a :: r, s => match canon1 m all a s with
    | (a', s') => match canonL m all r s' with
      | (r', s'') => (a' :: r', s'')

/-- The same in the parts of a struct value. -/
def canonA (all : List Nat) (a : AV) (s : St) : AV × St :=
  match a with
  | .agg ps => match canonL 0 all ps s with
    | (qs, s') => (.agg qs, s')
  | a => canon1 0 all a s

def canonT (all : List Nat) : List AV → St → List AV × St
  | [], s => ([], s)
  | a :: r, s => match canonA all a s with
    | (a', s') => match canonT all r s' with
      | (r', s'') => (a' :: r', s'')

def canonV (all : List Nat) (a : AV) (s : St) : AV × St :=
  match a with
  | .tup vs => match canonT all vs s with
    | (qs, s') => (.tup qs, s')
  | a => canonA all a s

/-- .. and in boxes. -/
def canonB (m : Nat) (all : List Nat) : List Nat → St → St
  | [], s => s
  | b :: r, s => match look b s.st with
    | some (.cell ro v ps) => match rowK ps with
      | some _ => canonB m all r s
      | none => match canonL m all ps s with
        | (qs, s') => canonB m all r { s' with st := put b (.cell ro v qs) s'.st }
    | _ => canonB m all r s

def canonK (all : List Nat) : List (Nat × AV) → St → List (Nat × AV) × St
  | [], s => ([], s)
  | (i, a) :: r, s => match canonV all a s with
    | (a', s') => match canonK all r s' with
      | (r', s'') => ((i, a') :: r', s'')

def enum {α : Type} : Nat → List α → List (Nat × α)
  | _, [] => []
  | n, x :: r => (n, x) :: enum (n + 1) r

/-- What can be reached, numbered anew (those below m keep their numbers): the numbering, the blocks, the new ones. -/
def renum (m : Nat) (s : St) (roots : List Nat) : Option (List (Nat × Nat) × List (Nat × Blk) × List Blk) :=
  let ids := clos s.st 64 (List.range m ++ roots) []
  let old := ids.filter fun b => Nat.blt b m
  let new := ids.filter fun b => !(Nat.blt b m)
  let nm := (old.map fun b => (b, b)) ++ number m new
  let ok := fun b v => valid s (.ver b v)
  match blksOf ok 0 nm s.st old, blksOf ok 0 nm s.st new with
  | some os, some ns => chk (nodupN ids) (some (nm, old.zip os ++ enum m ns, ns))
  | _, _ => none

def pointers (st : List (Nat × Blk)) : List Nat → List Nat
  | [] => []
  | b :: r => (match look b st with | some x => refsB x | none => []) ++ pointers st r

def renK (ok : Nat → Nat → Bool) (nm : List (Nat × Nat)) : List (Nat × AV) → Option (List (Nat × AV))
  | [] => some []
  | (i, a) :: r => match ren ok 0 nm 8 a, renK ok nm r with
    | some a', some r' => some ((i, a') :: r')
    | _, _ => none

/-- Rows that come to lie for ever: where they are found then (0: for ever; else: lent, or for ever). -/
def fzP : Nat → Prov
  | 0 => .frz
  | _ => .reg 0

def frz1 (md : Nat) (a : AV) (s : St) : AV × St :=
  match a with
  | .nz K => (.ro (fzP md) K [], s)
  | .sl b => match look b s.st with
    | some (.cell false _ [.rw K l]) => (.ro (fzP md) K l, { s with st := del b s.st })
    | _ => (.sl b, s)
  | .ss b o n => match look b s.st with
    | some (.cell false _ [.rw K l]) => (.ro (fzP md) K ((l.drop o).take n), { s with st := del b s.st })
    | _ => (.ss b o n, s)
  | .ro q K l => bif notVer q && !(Nat.beq md 0) then (.ro (.reg 0) K l, s) else (.ro q K l, s)
  | .tr q t => bif notVer q && !(Nat.beq md 0) then (.tr (.reg 0) t, s) else (.tr q t, s)
  | a => (a, s)

def frzL (md : Nat) : List AV → St → List AV × St
  | [], s => ([], s)
  | a :: r, s => match frz1 md a s with
    | (a', s') => match frzL md r s' with
      | (r', s'') => (a' :: r', s'')

def frzA (md : Nat) (a : AV) (s : St) : AV × St :=
  match a with
  | .agg ps => match frzL md ps s with
    | (qs, s') => (.agg qs, s')
  | a => frz1 md a s

/-- .. in these slots. -/
def frzS : List (Nat × Nat) → St → St
  | [], s => s
  | (i, md) :: r, s => match frzA md (getD .un i s.tm) s with
    | (a, s') => frzS r { s' with tm := put i a s'.tm }

/-- A frame brought into a fixed form: the slots named, the blocks handed over (numbers below m), what can be reached, numbered anew. -/
def norm0 (m : Nat) (slots : List Nat) (s : St) : Option St :=
  let keep := slots.map fun i => (i, getD .un i s.tm)
  let rs := keep.flatMap fun x => refs 8 x.2
  let ids := clos s.st 64 (List.range m ++ rs) []
  let all := rs ++ pointers s.st ids
  match canonK all keep s with
  | (keep, s1) =>
    let s2 := canonB m all ids s1
    match renum m s2 (keep.flatMap fun x => refs 8 x.2) with
    | some (nm, st, ns) => match renK (fun b v => valid s2 (.ver b v)) nm keep with
      | some tm => some { tm, st, nx := m + ns.length }
      | none => none
    | none => none

def norm (m : Nat) (fz : List (Nat × Nat)) (slots : List Nat) (s : St) : Option St := norm0 m slots (frzS fz s)

/-- Of a function: its loops' slots at the head and behind; the slots whose rows come to lie for ever at loops' heads, and at the end. -/
structure Hint where
  lp : List (Nat × List Nat × List Nat)
  fz : List (Nat × Nat) := []
  rz : List (Nat × Nat) := []
  /-- At the end rows in boxes keep their numbers. -/
  keep : Bool := false

def codeE (c : Cfg) (C : Orc R) (L : LOrc R) (m : Nat) (h : Hint) : Nat → Code → St → (Ex → St → Option R) → Option R
  | _, .skip, s, k => k .normal s
  | _, .label _, s, k => k .normal s
  | _, .region _ ops draw, s, k => opsE c C ops.toList s.nx 0 ops.toList s [] (fun s' rec =>
      let s'' := { s' with nx := s.nx + 16 * ops.size }
      bif draw then (bif pairsOk (priors ops.toList []) rec then k .normal s'' else none) else k .normal s'') fun t k' n s' rec last =>
      let s'' := { s' with nx := s.nx + 16 * ops.size }
      bif draw then (bif last && lastOk ops.toList && pairsOk (priors ops.toList []) rec then k (.pan t k' n) s'' else none) else k (.pan t k' n) s''
  | b, .seq x y, s, k => codeE c C L m h b x s fun e s' => match e with
    | .normal => codeE c C L m h b y s' k
    | e => k e s'
  | b, .cond x t f, s, k => match ev s x with
    | .bool v => bif v then codeE c C L m h b t s k else codeE c C L m h b f s k
    | _ => none
  | _, .block id body, s, k => codeE c C L m h id body s fun e s' => match e with
    | .exit j => bif Nat.beq j id then k .normal s' else k (.exit j) s'
    | e => k e s'
  | b, .loop _, s, k => match look b h.lp with
    | some (i, _) => match norm m h.fz i s with
      | some s' => L b s' k
      | none => none
    | none => none
  | b, .rangeFunc .., s, k => match look b h.lp with
    | some (i, _) => match norm m h.fz i s with
      | some s' => L b s' k
      | none => none
    | none => none
  | _, .exit id, s, k => k (.exit id) s
  | _, .ret, s, k => k .ret s
  | _, _, _, _ => none

/-- One round of a loop: on to the next head, or out. -/
def stepE (c : Cfg) (C : Orc R) (L : LOrc R) (m : Nat) (h : Hint) (b : Nat) (body : Code) (i o : List Nat) (s : St) (next : St → Option R) (out : Ex → St → Option R) : Option R :=
  codeE c C L m h b body s fun e s' => match e with
    | .normal => match norm m h.fz i s' with
      | some s'' => next s''
      | none => none
    | e => match norm m h.fz o s' with
      | some s'' => out e s''
      | none => none

def loopE (c : Cfg) (C : Orc R) (L : LOrc R) (m : Nat) (h : Hint) (b : Nat) (body : Code) (i o : List Nat) : Nat → St → (Ex → St → Option R) → Option R
  | 0, _, _ => none
  | n + 1, s, k => stepE c C L m h b body i o s (fun s' => loopE c C L m h b body i o n s' k) k

/-- These slots alone. -/
def cutT (i : List Nat) (s : St) : St := { s with tm := i.map fun t => (t, getD .un t s.tm) }

/-- One round of a range over a counted iterator: number j. -/
def roundE (c : Cfg) (C : Orc R) (L : LOrc R) (m : Nat) (h : Hint) (b p : Nat) (assign body : Code) (i : List Nat) (j : Nat) (s : St) (next : St → Option R) : Option R :=
  codeE c C L m h b assign { s with tm := put p (.int .i64 (j : Int)) s.tm } fun e s1 => match e with
    | .normal => codeE c C L m h b body s1 fun e s2 => match e with
      | .normal => match norm m h.fz i (cutT i s2) with
        | some s3 => next s3
        | none => none
      | _ => none
    | _ => none

/-- Behind the last. -/
def rangeOut (m : Nat) (h : Hint) (o : List Nat) (s : St) (k : Ex → St → Option R) : Option R := match norm m h.fz o s with
  | some s' => k .normal s'
  | none => none

def resE (c : Cfg) (s : St) : List ResultVar → Option (List AV)
  | [] => some []
  | .tmp t :: r => match resE c s r with
    | some l => some (getD .un t s.tm :: l)
    | none => none
  | .cell a t :: r => match tyI c t, resE c s r with
    | some ti, some l => match loadAt s ti.sz (getD .un a s.tm) with
      | some (ps, _) => match ofCls ti.cls ps with
        | some v => some (v :: l)
        | none => none
      | none => none
    | _, _ => none

/-- Results, as one value. -/
def packV : List AV → AV
  | [v] => v
  | vs => .tup vs

def retE0 (c : Cfg) (fn : Func) (kp : Bool) (m : Nat) (s : St) (k : AV → List (Option Blk) → List Blk → Option R) : Option R :=
  match resE c s fn.results.toList with
  | none => none
  | some vs =>
    let v := packV vs
    let ids := clos s.st 64 (List.range m ++ refs 8 v) []
    let all := refs 8 v ++ pointers s.st ids
    match canonV all v s with
    | (v, s1) =>
      let s2 := canonB (bif kp then 0 else m) all ids s1
      match renum m s2 (refs 8 v) with
      | some (nm, st, ns) => match ren (fun b v => valid s2 (.ver b v)) 0 nm 8 v with
        | some v' => k v' ((List.range m).map fun b => look b st) ns
        | none => none
      | none => none

def retE (c : Cfg) (fn : Func) (h : Hint) (m : Nat) (s : St) (k : AV → List (Option Blk) → List Blk → Option R) : Option R := retE0 c fn h.keep m (frzS h.rz s) k

def init (args : List AV) (blks : List Blk) : St :=
  { tm := enum 0 args, st := enum 0 blks, nx := blks.length }

def funE (c : Cfg) (C : Orc R) (L : LOrc R) (h : Hint) (fn : Func) (args : List AV) (blks : List Blk) (k : AV → List (Option Blk) → List Blk → Option R) : Option R :=
  match fn.body with
  | some code => chk (Nat.ble args.length fn.ntmps) (codeE c C L blks.length h 0 code (init args blks) fun e s => match e with
    | .normal | .ret => retE c fn h blks.length s k
    | .pan t k' n => k (.pan t k' n) (blks.map fun _ => none) []
    | _ => none)
  | none => none

end
end Go.Ev

/- Encodings of data as values and blocks; tables that answer calls and loops. -/
namespace Go.Ev

/-- Data written as an X, and read back. -/
structure Enc (X : Type) where
  D : Type
  to : D → X
  of : X → Option D
  ok : ∀ x d, of x = some d → x = to d
  ko : ∀ d, of (to d) = some d

theorem castK_same {K K' : Ki} {l : List K.den} {l' : List K'.den} (h : castK K K' l = some l') : ∃ e : K = K', e ▸ l = l' := by
  unfold castK at h
  split at h
  · rename_i hb
    exact ⟨Ki.beq_eq hb, by simpa using h⟩
  · cases h

theorem kbeq_refl (k : IntKind) : kbeq k k = true := by cases k <;> rfl

theorem Ki.beq_refl : ∀ K : Ki, K.beq K = true
  | .int k => kbeq_refl k
  | .bool | .str | .unit | .tr => rfl
  | .lst e => by simp only [Ki.beq, Ki.beq_refl e]
  | .arr n e => by simp only [Ki.beq, Ki.beq_refl e, Nat.beq_refl, Bool.and_self]
  | .pair a b => by simp only [Ki.beq, Ki.beq_refl a, Ki.beq_refl b, Bool.and_self]

theorem castK_refl {K : Ki} (l : List K.den) : castK K K l = some l := by
  unfold castK
  split
  · rfl
  · rename_i h; rw [Ki.beq_refl] at h; cases h

theorem castK_ro {p : Prov} {K K' : Ki} {l : List K.den} {l' : List K'.den} (h : castK K K' l = some l') : AV.ro p K l = AV.ro p K' l' := by
  obtain ⟨rfl, rfl⟩ := castK_same h; rfl
theorem castK_nl {K K' : Ki} {l : List K.den} {l' : List K'.den} (h : castK K K' l = some l') : AV.nl K l = AV.nl K' l' := by
  obtain ⟨rfl, rfl⟩ := castK_same h; rfl
theorem castK_rw {K K' : Ki} {l : List K.den} {l' : List K'.den} (h : castK K K' l = some l') : AV.rw K l = AV.rw K' l' := by
  obtain ⟨rfl, rfl⟩ := castK_same h; rfl
theorem castK_arr {n : Nat} {K K' : Ki} {l : List K.den} {l' : List K'.den} (h : castK K K' l = some l') : AV.arr n K l = AV.arr n K' l' := by
  obtain ⟨rfl, rfl⟩ := castK_same h; rfl

def castM (K V K' V' : Ki) (l : List (K.den × V.den)) : Option (List (K'.den × V'.den)) :=
  match h : K.beq K', h' : V.beq V' with
  | true, true => some (Ki.beq_eq h' ▸ Ki.beq_eq h ▸ l)
  | _, _ => none

theorem castM_refl {K V : Ki} (l : List (K.den × V.den)) : castM K V K V l = some l := by
  unfold castM
  split
  · rfl
  · rename_i h; exact (h (Ki.beq_refl K) (Ki.beq_refl V)).elim

theorem castM_map {K V K' V' : Ki} {l : List (K.den × V.den)} {l' : List (K'.den × V'.den)} (h : castM K V K' V' l = some l') : Blk.map K V l = .map K' V' l' := by
  unfold castM at h
  split at h
  · rename_i h1 h2
    have e1 := Ki.beq_eq h1
    have e2 := Ki.beq_eq h2
    subst e1 e2
    simp only [Option.some.injEq] at h
    rw [← h]
  · cases h

namespace Enc

def bool : Enc AV where
  D := Bool
  to := .bool
  of | .bool b => some b | _ => none
  ko d := by simp [castK_refl, kbeq_refl]
  ok x d h := by cases x <;> simp_all

def int (k : IntKind) : Enc AV where
  D := Int
  to := .int k
  of | .int k' n => bif kbeq k' k then some n else none | _ => none
  ko d := by simp [castK_refl, kbeq_refl]
  ok x d h := by
    cases x <;> (try simp at h)
    rename_i k' n
    cases e : kbeq k' k <;> rw [e] at h <;> simp at h
    rw [kbeq_eq e, h]

def str : Enc AV where
  D := List UInt8
  to := .str
  of | .str b => some b | _ => none
  ko d := by simp [castK_refl, kbeq_refl]
  ok x d h := by cases x <;> simp_all

def un : Enc AV where
  D := Unit
  to _ := .un
  of | .un => some () | _ => none
  ko d := by simp [castK_refl, kbeq_refl]
  ok x d h := by cases x <;> simp_all

def nilp : Enc AV where
  D := Unit
  to _ := .nilp
  of | .nilp => some () | _ => none
  ko d := by simp [castK_refl, kbeq_refl]
  ok x d h := by cases x <;> simp_all

def nili : Enc AV where
  D := Unit
  to _ := .nili
  of | .nili => some () | _ => none
  ko d := by simp [castK_refl, kbeq_refl]
  ok x d h := by cases x <;> simp_all

def nz (K : Ki) : Enc AV where
  D := Unit
  to _ := .nz K
  of | .nz K' => bif K'.beq K then some () else none | _ => none
  ko d := by simp [Ki.beq_refl]
  ok x d h := by
    cases x <;> (try simp at h)
    rename_i K'
    cases e : K'.beq K <;> rw [e] at h <;> simp at h
    rw [Ki.beq_eq e]

/-- Lent: region n. -/
def ro (n : Nat) (K : Ki) : Enc AV where
  D := List K.den
  to l := .ro (.reg n) K l
  of | .ro (.reg n') K' l => bif Nat.beq n' n then castK K' K l else none | _ => none
  ko d := by simp [castK_refl, kbeq_refl]
  ok x d h := by
    cases x <;> (try simp at h)
    rename_i p K' l
    cases p <;> (try (simp at h; done))
    simp only at h
    rename_i n'
    cases e : Nat.beq n' n <;> rw [e] at h <;> simp at h
    rw [Nat.eq_of_beq_eq_true e, castK_ro h]

def tr (n : Nat) : Enc AV where
  D := Tr
  to t := .tr (.reg n) t
  of | .tr (.reg n') t => bif Nat.beq n' n then some t else none | _ => none
  ko d := by simp
  ok x d h := by
    cases x <;> (try simp at h)
    rename_i p t
    cases p <;> (try (simp at h; done))
    simp only at h
    rename_i n'
    cases e : Nat.beq n' n <;> rw [e] at h <;> simp at h
    rw [Nat.eq_of_beq_eq_true e, h]

def trf : Enc AV where
  D := Tr
  to t := .tr .frz t
  of | .tr .frz t => some t | _ => none
  ko d := by simp
  ok x d h := by
    cases x <;> (try simp at h)
    rename_i p t
    cases p <;> (try (simp at h; done))
    simp only [Option.some.injEq] at h
    rw [h]

/-- For ever. -/
def frz (K : Ki) : Enc AV where
  D := List K.den
  to l := .ro .frz K l
  of | .ro .frz K' l => castK K' K l | _ => none
  ko d := by simp [castK_refl, kbeq_refl]
  ok x d h := by
    cases x <;> (try simp at h)
    rename_i p K' l
    cases p <;> (try (simp at h; done))
    simp only at h
    exact castK_ro h

def arr (n : Nat) (K : Ki) : Enc AV where
  D := List K.den
  to l := .arr n K l
  of | .arr n' K' l => bif Nat.beq n' n then castK K' K l else none | _ => none
  ko d := by simp [castK_refl, kbeq_refl]
  ok x d h := by
    cases x <;> (try simp at h)
    rename_i n' K' l
    cases e : Nat.beq n' n <;> rw [e] at h <;> simp at h
    rw [Nat.eq_of_beq_eq_true e, castK_arr h]

def rw (K : Ki) : Enc AV where
  D := List K.den
  to l := .rw K l
  of | .rw K' l => castK K' K l | _ => none
  ko d := by simp [castK_refl, kbeq_refl]
  ok x d h := by
    cases x <;> (try simp at h)
    exact castK_rw h

def sl (b : Nat) : Enc AV where
  D := Unit
  to _ := .sl b
  of | .sl b' => bif Nat.beq b' b then some () else none | _ => none
  ko d := by simp [castK_refl, kbeq_refl]
  ok x d h := by
    cases x <;> (try simp at h)
    rename_i b'
    cases e : Nat.beq b' b <;> rw [e] at h <;> simp at h
    rw [Nat.eq_of_beq_eq_true e]

/-- A part of a row. -/
def ss (b : Nat) : Enc AV where
  D := Nat × Nat
  to d := .ss b d.1 d.2
  of | .ss b' o n => bif Nat.beq b' b then some (o, n) else none | _ => none
  ko d := by simp
  ok x d h := by
    cases x <;> (try simp at h)
    rename_i b' o n
    cases e : Nat.beq b' b <;> rw [e] at h <;> simp at h
    rw [Nat.eq_of_beq_eq_true e, ← h]

def pb (b o : Nat) : Enc AV where
  D := Unit
  to _ := .pb b o []
  of | .pb b' o' [] => bif Nat.beq b' b && Nat.beq o' o then some () else none | _ => none
  ko d := by simp [castK_refl, kbeq_refl]
  ok x d h := by
    cases x <;> (try simp at h)
    rename_i b' o' p
    cases p <;> (try (simp at h; done))
    simp only at h
    cases e : (Nat.beq b' b && Nat.beq o' o) <;> rw [e] at h <;> simp at h
    simp only [Bool.and_eq_true] at e
    rw [Nat.eq_of_beq_eq_true e.1, Nat.eq_of_beq_eq_true e.2]

/-- Lists of values. -/
def nil : Enc (List AV) where
  D := Unit
  to _ := []
  of | [] => some () | _ => none
  ko d := by simp [castK_refl, kbeq_refl]
  ok x d h := by cases x <;> simp_all

def cons (a : Enc AV) (r : Enc (List AV)) : Enc (List AV) where
  D := a.D × r.D
  to d := a.to d.1 :: r.to d.2
  of | x :: y => match a.of x with
        | some u => match r.of y with
          | some v => some (u, v)
          | none => none
        | none => none
      | [] => none
  ko d := by simp [castK_refl, kbeq_refl, a.ko, r.ko]
  ok x d h := by
    cases x with
    | nil => simp at h
    | cons x y =>
      simp only at h
      cases e1 : a.of x <;> rw [e1] at h <;> simp only at h
      · cases h
      cases e2 : r.of y <;> rw [e2] at h <;> simp only at h
      · cases h
      cases h
      rw [a.ok _ _ e1, r.ok _ _ e2]

def agg (r : Enc (List AV)) : Enc AV where
  D := r.D
  to d := .agg (r.to d)
  of | .agg l => r.of l | _ => none
  ko d := by simp [castK_refl, kbeq_refl, r.ko]
  ok x d h := by
    cases x <;> (try simp at h)
    rw [r.ok _ _ h]

def tup (r : Enc (List AV)) : Enc AV where
  D := r.D
  to d := .tup (r.to d)
  of | .tup l => r.of l | _ => none
  ko d := by simp [castK_refl, kbeq_refl, r.ko]
  ok x d h := by
    cases x <;> (try simp at h)
    rw [r.ok _ _ h]

/-- A struct that is lent behind a pointer. -/
def pr (n o : Nat) (r : Enc (List AV)) : Enc AV where
  D := r.D
  to d := .pr (.reg n) (r.to d) o []
  of | .pr (.reg n') l o' [] => bif Nat.beq n' n && Nat.beq o' o then r.of l else none | _ => none
  ko d := by simp [castK_refl, kbeq_refl, r.ko]
  ok x d h := by
    cases x <;> (try simp at h)
    rename_i p l o' q
    cases p <;> (try (simp at h; done))
    cases q <;> (try (simp at h; done))
    simp only at h
    rename_i n'
    cases e : (Nat.beq n' n && Nat.beq o' o) <;> rw [e] at h <;> simp at h
    simp only [Bool.and_eq_true] at e
    rw [Nat.eq_of_beq_eq_true e.1, Nat.eq_of_beq_eq_true e.2, r.ok _ _ h]

/-- A struct that lies for ever, behind a pointer. -/
def prf (o : Nat) (r : Enc (List AV)) : Enc AV where
  D := r.D
  to d := .pr .frz (r.to d) o []
  of | .pr .frz l o' [] => bif Nat.beq o' o then r.of l else none | _ => none
  ko d := by simp [castK_refl, kbeq_refl, r.ko]
  ok x d h := by
    cases x <;> (try simp at h)
    rename_i p l o' q
    cases p <;> (try (simp at h; done))
    cases q <;> (try (simp at h; done))
    simp only at h
    cases e : Nat.beq o' o <;> rw [e] at h <;> simp at h
    rw [Nat.eq_of_beq_eq_true e, r.ok _ _ h]

def fn (f : Nat) (r : Enc (List AV)) : Enc AV where
  D := r.D
  to d := .fn f (r.to d)
  of | .fn f' l => bif Nat.beq f' f then r.of l else none | _ => none
  ko d := by simp [castK_refl, kbeq_refl, r.ko]
  ok x d h := by
    cases x <;> (try simp at h)
    rename_i f' l
    cases e : Nat.beq f' f <;> rw [e] at h <;> simp at h
    rw [Nat.eq_of_beq_eq_true e, r.ok _ _ h]

/-- Blocks. -/
def cell (r : Enc (List AV)) : Enc Blk where
  D := r.D
  to d := .cell false 0 (r.to d)
  of | .cell false 0 l => r.of l | _ => none
  ko d := by simp [castK_refl, kbeq_refl, r.ko]
  ok x d h := by
    cases x <;> (try simp at h)
    rename_i ro v l
    cases ro <;> (try (simp at h; done))
    cases v <;> (try (simp at h; done))
    simp only at h
    rw [r.ok _ _ h]

def lnil (X : Type) : Enc (List X) where
  D := Unit
  to _ := []
  of | [] => some () | _ => none
  ko d := by simp [castK_refl, kbeq_refl]
  ok x d h := by cases x <;> simp_all

def lcons {X : Type} (a : Enc X) (r : Enc (List X)) : Enc (List X) where
  D := a.D × r.D
  to d := a.to d.1 :: r.to d.2
  of | x :: y => match a.of x with
        | some u => match r.of y with
          | some v => some (u, v)
          | none => none
        | none => none
      | [] => none
  ko d := by simp [castK_refl, kbeq_refl, a.ko, r.ko]
  ok x d h := by
    cases x with
    | nil => simp at h
    | cons x y =>
      simp only at h
      cases e1 : a.of x <;> rw [e1] at h <;> simp only at h
      · cases h
      cases e2 : r.of y <;> rw [e2] at h <;> simp only at h
      · cases h
      cases h
      rw [a.ok _ _ e1, r.ok _ _ e2]

def some_ {X : Type} (a : Enc X) : Enc (Option X) where
  D := a.D
  to d := some (a.to d)
  of | some x => a.of x | none => none
  ko d := by simp [castK_refl, kbeq_refl, a.ko]
  ok x d h := by
    cases x <;> (try simp at h)
    rw [a.ok _ _ h]

def none_ (X : Type) : Enc (Option X) where
  D := Unit
  to _ := none
  of | none => some () | _ => none
  ko d := by simp [castK_refl, kbeq_refl]
  ok x d h := by cases x <;> simp_all

def both {X Y : Type} (a : Enc X) (b : Enc Y) : Enc (X × Y) where
  D := a.D × b.D
  to d := (a.to d.1, b.to d.2)
  of x := match a.of x.1 with
    | some u => match b.of x.2 with
      | some v => some (u, v)
      | none => none
    | none => none
  ko d := by simp [castK_refl, kbeq_refl, a.ko, b.ko]
  ok x d h := by
    obtain ⟨x, y⟩ := x
    simp only at h
    cases e1 : a.of x <;> rw [e1] at h <;> simp only at h
    · cases h
    cases e2 : b.of y <;> rw [e2] at h <;> simp only at h
    · cases h
    cases h
    rw [a.ok _ _ e1, b.ok _ _ e2]

/-- In one form or another. -/
def alt {X : Type} (a b : Enc X) (h : ∀ d, a.of (b.to d) = none) : Enc X where
  D := a.D ⊕ b.D
  to := fun | .inl d => a.to d | .inr d => b.to d
  of x := match a.of x with
    | some u => some (.inl u)
    | none => match b.of x with
      | some v => some (.inr v)
      | none => none
  ko d := by
    cases d with
    | inl d => simp only [a.ko]
    | inr d => simp only [h, b.ko]
  ok x d hx := by
    cases e1 : a.of x <;> rw [e1] at hx <;> simp only at hx
    · cases e2 : b.of x <;> rw [e2] at hx <;> simp only at hx
      · cases hx
      · cases hx
        exact b.ok _ _ e2
    · cases hx
      exact a.ok _ _ e1

/-- What is thrown. -/
def pan (t : Nat) (k : IntKind) : Enc AV where
  D := Int
  to n := .pan t k n
  of | .pan t' k' n => bif Nat.beq t' t && kbeq k' k then some n else none | _ => none
  ko d := by simp [kbeq_refl]
  ok x d h := by
    cases x <;> (try simp at h)
    rename_i t' k' n
    cases e : (Nat.beq t' t && kbeq k' k) <;> rw [e] at h <;> simp at h
    simp only [Bool.and_eq_true] at e
    rw [Nat.eq_of_beq_eq_true e.1, kbeq_eq e.2, h]

/-- With its number. -/
def mp (b : Nat) : Enc AV where
  D := Unit
  to _ := .mp b
  of | .mp b' => bif Nat.beq b' b then some () else none | _ => none
  ko d := by simp
  ok x d h := by
    cases x <;> (try simp at h)
    rename_i b'
    cases e : Nat.beq b' b <;> rw [e] at h <;> simp at h
    rw [Nat.eq_of_beq_eq_true e]

def iter (m : Nat) : Enc Blk where
  D := Nat × List Nat × Nat
  to d := .iter m d.1 d.2.1 d.2.2
  of | .iter m' n ord last => bif Nat.beq m' m then some (n, ord, last) else none | _ => none
  ko d := by simp
  ok x d h := by
    cases x <;> (try simp at h)
    rename_i m' n ord last
    cases e : Nat.beq m' m <;> rw [e] at h <;> simp at h
    rw [Nat.eq_of_beq_eq_true e, ← h]

def bld (t u : Nat) : Enc Blk where
  D := List UInt8
  to l := .bld t u l
  of | .bld t' u' l => bif Nat.beq t' t && Nat.beq u' u then some l else none | _ => none
  ko d := by simp
  ok x d h := by
    cases x <;> (try simp at h)
    rename_i t' u' l
    cases e : (Nat.beq t' t && Nat.beq u' u) <;> rw [e] at h <;> simp at h
    simp only [Bool.and_eq_true] at e
    rw [Nat.eq_of_beq_eq_true e.1, Nat.eq_of_beq_eq_true e.2, h]

def map (K V : Ki) : Enc Blk where
  D := List (K.den × V.den)
  to l := .map K V l
  of | .map K' V' l => castM K' V' K V l | _ => none
  ko d := castM_refl d
  ok x d h := by
    cases x <;> (try simp at h)
    exact castM_map h

def key {X : Type} (i : Nat) (a : Enc X) : Enc (Nat × X) where
  D := a.D
  to d := (i, a.to d)
  of x := bif Nat.beq x.1 i then a.of x.2 else none
  ko d := by simp [castK_refl, kbeq_refl, a.ko]
  ok x d h := by
    obtain ⟨j, x⟩ := x
    simp only at h
    cases e : Nat.beq j i <;> rw [e] at h <;> simp at h
    rw [Nat.eq_of_beq_eq_true e, a.ok _ _ h]

/-- A frame. -/
def st (n : Nat) (t : Enc (List (Nat × AV))) (b : Enc (List (Nat × Blk))) : Enc St where
  D := t.D × b.D
  to d := { tm := t.to d.1, st := b.to d.2, nx := n }
  of s := match t.of s.tm with
    | some u => match b.of s.st with
      | some v => bif Nat.beq s.nx n then some (u, v) else none
      | none => none
    | none => none
  ko d := by simp [castK_refl, kbeq_refl, t.ko, b.ko]
  ok x d h := by
    obtain ⟨tm, s, nx⟩ := x
    simp only at h
    cases e1 : t.of tm <;> rw [e1] at h <;> simp only at h
    · cases h
    cases e2 : b.of s <;> rw [e2] at h <;> simp only at h
    · cases h
    cases e : Nat.beq nx n <;> rw [e] at h <;> simp at h
    cases h
    rw [t.ok _ _ e1, b.ok _ _ e2, Nat.eq_of_beq_eq_true e]

end Enc

/-- Several of one kind, side by side. -/
def Enc.all {X : Type} : List (Enc X) → Enc (List X)
  | [] => Enc.lnil X
  | a :: r => Enc.lcons a (Enc.all r)

def Enc.vals : List (Enc AV) → Enc (List AV)
  | [] => Enc.nil
  | a :: r => Enc.cons a (Enc.vals r)

section
variable {R : Type}

/-- One function's answer by a plain Lean function. -/
structure Entry (R : Type) where
  f : Nat
  arg : Enc (List AV × List Blk)
  res : Enc (AV × List (Option Blk) × List Blk)
  fn : arg.D → (res.D → Option R) → Option R

def Entry.orc (e : Entry R) (args : List AV) (blks : List Blk) (k : AV → List (Option Blk) → List Blk → Option R) : Option R :=
  match e.arg.of (args, blks) with
  | some d => e.fn d fun x => k (e.res.to x).1 (e.res.to x).2.1 (e.res.to x).2.2
  | none => none

/-- The first entry of that number whose form fits. -/
def table : List (Entry R) → Orc R
  | [], _, _, _, _ => none
  | e :: r, f, args, blks, k => bif Nat.beq e.f f then (match e.arg.of (args, blks) with
      | some d => e.fn d fun x => k (e.res.to x).1 (e.res.to x).2.1 (e.res.to x).2.2
      | none => table r f args blks k) else table r f args blks k

/-- One loop's answer. -/
structure LEntry (R : Type) where
  b : Nat
  st : Enc St
  fn : st.D → (Ex → St → Option R) → Option R

def ltable : List (LEntry R) → LOrc R
  | [], _, _, _ => none
  | e :: r, b, s, k => bif Nat.beq e.b b then (match e.st.of s with
      | some d => e.fn d k
      | none => ltable r b s k) else ltable r b s k

/-- The loops of a text, each with the block that it stands in. -/
def loopsAt : Nat → Code → List (Nat × Code)
  | b, .seq x y => loopsAt b x ++ loopsAt b y
  | _, .block j body => loopsAt j body
  | b, .cond _ x y => loopsAt b x ++ loopsAt b y
  | b, .loop c => (b, c) :: loopsAt b c
  | b, .scope c => loopsAt b c
  | b, .rangeFunc g ps a c => (b, .rangeFunc g ps a c) :: loopsAt b a ++ loopsAt b c
  | _, _ => []

def bodyOf (fn : Func) (i : Nat) : Code :=
  match fn.body with
  | some c => match look i (loopsAt 0 c) with
    | some x => x
    | none => .skip
  | none => .skip

end
/-- The better of two: more often, or as often and smaller. -/
def commStep (b p : Int × Int) : Int × Int :=
  bif decide (b.1 < 0) || (decide (p.2 > b.2) || (decide (p.2 = b.2) && decide (p.1 < b.1))) then p else b

def commF (l : List (Int × Int)) : Int := (l.foldl commStep (-1, 0)).1

def keysOk : List (Int × Int) → Bool
  | [] => true
  | p :: r => decide (0 ≤ p.1) && !(r.any fun q => q.1 == p.1) && keysOk r

def commOk (best : Int) (l : List (Int × Int)) (n : Nat) (ord : List Nat) (_last : Nat) : Bool :=
  best == -1 && Nat.beq n l.length && ord == List.range n && keysOk l

/-- What is known of an argument's data. -/
def Fit : (K : Ki) → K.den → Prop
  | .int k, n => (Lit.int k n).wf = true
  | .bool, _ => True
  | .str, s => List.length (α := UInt8) s ≤ maxLen
  | .lst e, l => List.length (α := e.den) l ≤ maxLen ∧ ∀ x, List.Mem (α := e.den) x l → Fit e x
  | .arr _ e, l => ∀ x, List.Mem (α := e.den) x l → Fit e x
  | .pair a b, d => Fit a d.1 ∧ Fit b d.2
  | .unit, _ | .tr, _ => True

end Go.Ev
