/- These plain functions are what the Go functions answer. -/
import Derived.Test.YtgmgmgcjkalanaaEc
import Derived.Test.YtgmgmgcjkalanaaFdFnExactTableOK
import Derived.Test.YtgmgmgcjkalanaaChecked
import Derived.KernelRfl
import Derived.Eval
set_option maxRecDepth 100000
set_option linter.unusedVariables false
namespace Go.Proofs.Ytgmgmgcjkalanaa.fnExactTableOK
open Go.Ev
def cfg : Cfg := { ty := [
  (3, { sz := 1, cls := 0, offs := [], elem := 0, alen := 0, bytes := 8, zero := [.int .i64 0], ki := some (.int .i64) }),
  (4, { sz := 1, cls := 0, offs := [], elem := 0, alen := 0, bytes := 1, zero := [.bool false], ki := some .bool }),
  (29, { sz := 1, cls := 0, offs := [], elem := 3, alen := 0, bytes := 24, zero := [.nz (.int .i64)], ki := some (.lst (.int .i64)) }),
  (31, { sz := 8, cls := 1, offs := [0, 1, 2, 3, 4, 5, 6, 7], elem := 0, alen := 0, bytes := 176, zero := [.nz (.int .i64), .int .i64 0, .nz (.int .i64), .nz (.int .i64), .nz (.int .i64), .nz (.int .i64), .nz (.int .i64), .nz (.int .i64)], ki := some (.pair (.lst (.int .i64)) (.pair (.int .i64) (.pair (.lst (.int .i64)) (.pair (.lst (.int .i64)) (.pair (.lst (.int .i64)) (.pair (.lst (.int .i64)) (.pair (.lst (.int .i64)) (.lst (.int .i64))))))))) }),
  (34, { sz := 8, cls := 1, offs := [0, 1, 2, 3, 4, 5, 6, 7], elem := 0, alen := 0, bytes := 176, zero := [.nz (.int .i64), .int .i64 0, .nz (.int .i64), .nz (.int .i64), .nz (.int .i64), .nz (.int .i64), .nz (.int .i64), .nz (.int .i64)], ki := some (.pair (.lst (.int .i64)) (.pair (.int .i64) (.pair (.lst (.int .i64)) (.pair (.lst (.int .i64)) (.pair (.lst (.int .i64)) (.pair (.lst (.int .i64)) (.pair (.lst (.int .i64)) (.lst (.int .i64))))))))) }),
  (49, { sz := 5, cls := 1, offs := [0, 1, 2, 3, 4], elem := 0, alen := 0, bytes := 104, zero := [.nz (.int .i64), .int .i64 0, .nz (.int .i64), .nz (.int .i64), .nz (.int .i64)], ki := some (.pair (.lst (.int .i64)) (.pair (.int .i64) (.pair (.lst (.int .i64)) (.pair (.lst (.int .i64)) (.lst (.int .i64)))))) })], wr := [] }
theorem hC : cfgOk Try.prog cfg = true := by kernel_rfl
theorem hm : Try.prog.follows .mixedOrders = true := Checked.mixed Try.checked

/-! ### loop.example/s0007/laws.szIntS: function 50 -/
abbrev E.laws_szIntS_a : Enc (List AV × List Blk) := Enc.both (Enc.vals [(Enc.ro 0 (.int .i64)), (Enc.int .i64)]) (Enc.all [])
abbrev E.laws_szIntS_r : Enc (AV × List (Option Blk) × List Blk) := Enc.both (Enc.int .i64) (Enc.both (Enc.all []) (Enc.all []))
def T.laws_szIntS {R : Type} : Entry R := { f := 50, arg := E.laws_szIntS_a, res := E.laws_szIntS_r, fn := fun d k => F.laws_szIntS d.1.1 d.1.2.1 fun x0 => k (x0, ((), ())) }
def H.laws_szIntS : Hint := []
theorem WF.f50 : FnWf Try.prog 50 Try.f50 := fnWf_of Try.func50 (by decide) (by kernel_rfl)
theorem F.laws_szIntS_ok {R : Type} (d : E.laws_szIntS_a.D) (k : AV → List (Option Blk) → List Blk → Option R) :
    funE cfg (table []) (ltable []) H.laws_szIntS Try.f50 (E.laws_szIntS_a.to d).1 (E.laws_szIntS_a.to d).2 k =
      F.laws_szIntS d.1.1 d.1.2.1 fun x0 => k (E.laws_szIntS_r.to (x0, ((), ()))).1 (E.laws_szIntS_r.to (x0, ((), ()))).2.1 (E.laws_szIntS_r.to (x0, ((), ()))).2.2 := by kernel_rfl
theorem TK.laws_szIntS {R : Type} : EntryOk Try.prog (T.laws_szIntS (R := R)) :=
  entry_fun (h := H.laws_szIntS) hC hm table_nil WF.f50 (fun d => ltable_nil) fun d k =>
    (congrArg (fun z => F.laws_szIntS d.1.1 d.1.2.1 z) (funext fun x0 => (via_to E.laws_szIntS_r k (x0, ((), ()))).symm)).trans (F.laws_szIntS_ok d (fun v fin new => via E.laws_szIntS_r k (v, fin, new))).symm

/-! ### loop.example/s0007/laws.szTable: function 16 -/
abbrev E.laws_szTable_a : Enc (List AV × List Blk) := Enc.both (Enc.vals [(Enc.agg (Enc.vals [(Enc.ro 0 (.int .i64)), (Enc.int .i64), (Enc.ro 0 (.int .i64)), (Enc.ro 0 (.int .i64)), (Enc.ro 0 (.int .i64)), (Enc.ro 0 (.int .i64)), (Enc.ro 0 (.int .i64)), (Enc.ro 0 (.int .i64))])), (Enc.int .i64)]) (Enc.all [])
abbrev E.laws_szTable_r : Enc (AV × List (Option Blk) × List Blk) := Enc.both (Enc.int .i64) (Enc.both (Enc.all []) (Enc.all []))
def T.laws_szTable {R : Type} : Entry R := { f := 16, arg := E.laws_szTable_a, res := E.laws_szTable_r, fn := fun d k => F.laws_szTable d.1.1.1 d.1.1.2.1 d.1.1.2.2.1 d.1.1.2.2.2.1 d.1.1.2.2.2.2.1 d.1.1.2.2.2.2.2.1 d.1.1.2.2.2.2.2.2.1 d.1.1.2.2.2.2.2.2.2.1 d.1.2.1 fun x0 => k (x0, ((), ())) }
def H.laws_szTable : Hint := []
theorem WF.f16 : FnWf Try.prog 16 Try.f16 := fnWf_of Try.func16 (by decide) (by kernel_rfl)
theorem F.laws_szTable_ok {R : Type} (d : E.laws_szTable_a.D) (k : AV → List (Option Blk) → List Blk → Option R) :
    funE cfg (table [T.laws_szIntS]) (ltable []) H.laws_szTable Try.f16 (E.laws_szTable_a.to d).1 (E.laws_szTable_a.to d).2 k =
      F.laws_szTable d.1.1.1 d.1.1.2.1 d.1.1.2.2.1 d.1.1.2.2.2.1 d.1.1.2.2.2.2.1 d.1.1.2.2.2.2.2.1 d.1.1.2.2.2.2.2.2.1 d.1.1.2.2.2.2.2.2.2.1 d.1.2.1 fun x0 => k (E.laws_szTable_r.to (x0, ((), ()))).1 (E.laws_szTable_r.to (x0, ((), ()))).2.1 (E.laws_szTable_r.to (x0, ((), ()))).2.2 := by kernel_rfl
theorem TK.laws_szTable {R : Type} : EntryOk Try.prog (T.laws_szTable (R := R)) :=
  entry_fun (h := H.laws_szTable) hC hm (table_cons TK.laws_szIntS table_nil) WF.f16 (fun d => ltable_nil) fun d k =>
    (congrArg (fun z => F.laws_szTable d.1.1.1 d.1.1.2.1 d.1.1.2.2.1 d.1.1.2.2.2.1 d.1.1.2.2.2.2.1 d.1.1.2.2.2.2.2.1 d.1.1.2.2.2.2.2.2.1 d.1.1.2.2.2.2.2.2.2.1 d.1.2.1 z) (funext fun x0 => (via_to E.laws_szTable_r k (x0, ((), ()))).symm)).trans (F.laws_szTable_ok d (fun v fin new => via E.laws_szTable_r k (v, fin, new))).symm

/-! ### loop.example/s0007/laws.toIntS: function 52 -/
abbrev E.laws_toIntS_l0_i : Enc St := Enc.st 1 (Enc.all [(Enc.key 0 (Enc.ro 0 (.int .i64))), (Enc.key 3 (Enc.sl 0)), (Enc.key 4 (Enc.int .i64))]) (Enc.all [(Enc.key 0 (Enc.cell (Enc.vals [(Enc.rw (.int .i64))])))])
abbrev E.laws_toIntS_l0_oe0 : Enc St := Enc.st 1 (Enc.all [(Enc.key 3 (Enc.sl 0))]) (Enc.all [(Enc.key 0 (Enc.cell (Enc.vals [(Enc.rw (.int .i64))])))])
abbrev E.laws_toIntS_a : Enc (List AV × List Blk) := Enc.both (Enc.vals [(Enc.ro 0 (.int .i64))]) (Enc.all [])
abbrev E.laws_toIntS_r : Enc (AV × List (Option Blk) × List Blk) := Enc.both (Enc.sl 0) (Enc.both (Enc.all []) (Enc.all [(Enc.cell (Enc.vals [(Enc.rw (.int .i64))]))]))
def T.laws_toIntS {R : Type} (N : Nat) : Entry R := { f := 52, arg := E.laws_toIntS_a, res := E.laws_toIntS_r, fn := fun d k => F.laws_toIntS N d.1.1 fun x0 => k ((), ((), ((x0, ()), ()))) }
def H.laws_toIntS : Hint := [(0, [0, 3, 4], [3])]
theorem WF.f52 : FnWf Try.prog 52 Try.f52 := fnWf_of Try.func52 (by decide) (by kernel_rfl)
theorem F.laws_toIntS_l0_ok {R : Type} (N : Nat) (d : E.laws_toIntS_l0_i.D) (next : St → Option R) (out : Ex → St → Option R) :
    stepE cfg (table []) (ltable []) 0 H.laws_toIntS 0 (bodyOf Try.f52 0) [0, 3, 4] [3] (E.laws_toIntS_l0_i.to d) next out =
      F.laws_toIntS_l0_s N d.1.1 d.1.2.2.1 d.2.1.1 (fun x0 x1 x2 => next (E.laws_toIntS_l0_i.to ((x0, ((), (x1, ()))), ((x2, ()), ())))) (fun y0 => out (.exit 0) (E.laws_toIntS_l0_oe0.to (((), ()), ((y0, ()), ())))) := by kernel_rfl
def G.laws_toIntS_l0 {R : Type} (N n : Nat) (d : E.laws_toIntS_l0_i.D) (k : Ex → St → Option R) : Option R := F.laws_toIntS_l0 N n d.1.1 d.1.2.2.1 d.2.1.1 (fun y0 => k (.exit 0) (E.laws_toIntS_l0_oe0.to (((), ()), ((y0, ()), ()))))
def TL.laws_toIntS_l0 {R : Type} (N : Nat) : LEntry R := { b := 0, st := E.laws_toIntS_l0_i, fn := fun d k => G.laws_toIntS_l0 N N d k }
theorem GS.laws_toIntS_l0 {R : Type} (N n : Nat) (d : E.laws_toIntS_l0_i.D) (k : Ex → St → Option R) : G.laws_toIntS_l0 N (n + 1) d k =
    stepE cfg (table []) (ltable []) 0 H.laws_toIntS 0 (bodyOf Try.f52 0) [0, 3, 4] [3] (E.laws_toIntS_l0_i.to d) (via E.laws_toIntS_l0_i fun e => G.laws_toIntS_l0 N n e k) k :=
  (show G.laws_toIntS_l0 N (n + 1) d k = F.laws_toIntS_l0_s N d.1.1 d.1.2.2.1 d.2.1.1 (fun x0 x1 x2 => F.laws_toIntS_l0 N n x0 x1 x2 (fun y0 => k (.exit 0) (E.laws_toIntS_l0_oe0.to (((), ()), ((y0, ()), ()))))) (fun y0 => k (.exit 0) (E.laws_toIntS_l0_oe0.to (((), ()), ((y0, ()), ())))) from rfl).trans
    ((congrArg (fun z => F.laws_toIntS_l0_s N d.1.1 d.1.2.2.1 d.2.1.1 z (fun y0 => k (.exit 0) (E.laws_toIntS_l0_oe0.to (((), ()), ((y0, ()), ()))))) (funext fun x0 => funext fun x1 => funext fun x2 => (via_to E.laws_toIntS_l0_i (fun e => G.laws_toIntS_l0 N n e k) ((x0, ((), (x1, ()))), ((x2, ()), ()))).symm)).trans (F.laws_toIntS_l0_ok N d (via E.laws_toIntS_l0_i fun e => G.laws_toIntS_l0 N n e k) k).symm)
theorem LK.laws_toIntS_l0 {R : Type} (N : Nat) : LEntryOk Try.prog 0 Try.f52.ntmps (bodyOf Try.f52) (TL.laws_toIntS_l0 (R := R) N) :=
  lentry_fun (i := [0, 3, 4]) (o := [3]) (h := H.laws_toIntS) hC hm table_nil WF.f52 ltable_nil (fun d => uniq_of rfl) (fun n d k => G.laws_toIntS_l0 N n d k) N (fun _ _ => rfl) (fun _ _ => rfl) (fun n d k => GS.laws_toIntS_l0 N n d k)
theorem F.laws_toIntS_ok {R : Type} (N : Nat) (d : E.laws_toIntS_a.D) (k : AV → List (Option Blk) → List Blk → Option R) :
    funE cfg (table []) (ltable [TL.laws_toIntS_l0 N]) H.laws_toIntS Try.f52 (E.laws_toIntS_a.to d).1 (E.laws_toIntS_a.to d).2 k =
      F.laws_toIntS N d.1.1 fun x0 => k (E.laws_toIntS_r.to ((), ((), ((x0, ()), ())))).1 (E.laws_toIntS_r.to ((), ((), ((x0, ()), ())))).2.1 (E.laws_toIntS_r.to ((), ((), ((x0, ()), ())))).2.2 := by kernel_rfl
theorem TK.laws_toIntS {R : Type} (N : Nat) : EntryOk Try.prog (T.laws_toIntS (R := R) N) :=
  entry_fun (h := H.laws_toIntS) hC hm table_nil WF.f52 (fun d => (ltable_cons (LK.laws_toIntS_l0 N) ltable_nil)) fun d k =>
    (congrArg (fun z => F.laws_toIntS N d.1.1 z) (funext fun x0 => (via_to E.laws_toIntS_r k ((), ((), ((x0, ()), ())))).symm)).trans (F.laws_toIntS_ok N d (fun v fin new => via E.laws_toIntS_r k (v, fin, new))).symm

/-! ### loop.example/s0007/laws.toTable: function 18 -/
abbrev E.laws_toTable_a : Enc (List AV × List Blk) := Enc.both (Enc.vals [(Enc.agg (Enc.vals [(Enc.ro 0 (.int .i64)), (Enc.int .i64), (Enc.ro 0 (.int .i64)), (Enc.ro 0 (.int .i64)), (Enc.ro 0 (.int .i64)), (Enc.ro 0 (.int .i64)), (Enc.ro 0 (.int .i64)), (Enc.ro 0 (.int .i64))]))]) (Enc.all [])
abbrev E.laws_toTable_r : Enc (AV × List (Option Blk) × List Blk) := Enc.both (Enc.agg (Enc.vals [(Enc.sl 0), (Enc.int .i64), (Enc.sl 1), (Enc.sl 2), (Enc.sl 3), (Enc.sl 4), (Enc.sl 5), (Enc.sl 6)])) (Enc.both (Enc.all []) (Enc.all [(Enc.cell (Enc.vals [(Enc.rw (.int .i64))])), (Enc.cell (Enc.vals [(Enc.rw (.int .i64))])), (Enc.cell (Enc.vals [(Enc.rw (.int .i64))])), (Enc.cell (Enc.vals [(Enc.rw (.int .i64))])), (Enc.cell (Enc.vals [(Enc.rw (.int .i64))])), (Enc.cell (Enc.vals [(Enc.rw (.int .i64))])), (Enc.cell (Enc.vals [(Enc.rw (.int .i64))]))]))
def T.laws_toTable {R : Type} (N : Nat) : Entry R := { f := 18, arg := E.laws_toTable_a, res := E.laws_toTable_r, fn := fun d k => F.laws_toTable N d.1.1.1 d.1.1.2.1 d.1.1.2.2.1 d.1.1.2.2.2.1 d.1.1.2.2.2.2.1 d.1.1.2.2.2.2.2.1 d.1.1.2.2.2.2.2.2.1 d.1.1.2.2.2.2.2.2.2.1 fun x0 x1 x2 x3 x4 x5 x6 x7 => k (((), (x0, ((), ((), ((), ((), ((), ((), ())))))))), ((), ((x1, ()), ((x2, ()), ((x3, ()), ((x4, ()), ((x5, ()), ((x6, ()), ((x7, ()), ()))))))))) }
def H.laws_toTable : Hint := []
theorem WF.f18 : FnWf Try.prog 18 Try.f18 := fnWf_of Try.func18 (by decide) (by kernel_rfl)
theorem F.laws_toTable_ok {R : Type} (N : Nat) (d : E.laws_toTable_a.D) (k : AV → List (Option Blk) → List Blk → Option R) :
    funE cfg (table [T.laws_toIntS N]) (ltable []) H.laws_toTable Try.f18 (E.laws_toTable_a.to d).1 (E.laws_toTable_a.to d).2 k =
      F.laws_toTable N d.1.1.1 d.1.1.2.1 d.1.1.2.2.1 d.1.1.2.2.2.1 d.1.1.2.2.2.2.1 d.1.1.2.2.2.2.2.1 d.1.1.2.2.2.2.2.2.1 d.1.1.2.2.2.2.2.2.2.1 fun x0 x1 x2 x3 x4 x5 x6 x7 => k (E.laws_toTable_r.to (((), (x0, ((), ((), ((), ((), ((), ((), ())))))))), ((), ((x1, ()), ((x2, ()), ((x3, ()), ((x4, ()), ((x5, ()), ((x6, ()), ((x7, ()), ())))))))))).1 (E.laws_toTable_r.to (((), (x0, ((), ((), ((), ((), ((), ((), ())))))))), ((), ((x1, ()), ((x2, ()), ((x3, ()), ((x4, ()), ((x5, ()), ((x6, ()), ((x7, ()), ())))))))))).2.1 (E.laws_toTable_r.to (((), (x0, ((), ((), ((), ((), ((), ((), ())))))))), ((), ((x1, ()), ((x2, ()), ((x3, ()), ((x4, ()), ((x5, ()), ((x6, ()), ((x7, ()), ())))))))))).2.2 := by kernel_rfl
theorem TK.laws_toTable {R : Type} (N : Nat) : EntryOk Try.prog (T.laws_toTable (R := R) N) :=
  entry_fun (h := H.laws_toTable) hC hm (table_cons (TK.laws_toIntS N) table_nil) WF.f18 (fun d => ltable_nil) fun d k =>
    (congrArg (fun z => F.laws_toTable N d.1.1.1 d.1.1.2.1 d.1.1.2.2.1 d.1.1.2.2.2.1 d.1.1.2.2.2.2.1 d.1.1.2.2.2.2.2.1 d.1.1.2.2.2.2.2.2.1 d.1.1.2.2.2.2.2.2.2.1 z) (funext fun x0 => funext fun x1 => funext fun x2 => funext fun x3 => funext fun x4 => funext fun x5 => funext fun x6 => funext fun x7 => (via_to E.laws_toTable_r k (((), (x0, ((), ((), ((), ((), ((), ((), ())))))))), ((), ((x1, ()), ((x2, ()), ((x3, ()), ((x4, ()), ((x5, ()), ((x6, ()), ((x7, ()), ())))))))))).symm)).trans (F.laws_toTable_ok N d (fun v fin new => via E.laws_toTable_r k (v, fin, new))).symm

/-! ### loop.example/s0007/spec.l1Between: function 44 -/
abbrev E.spec_l1Between_a : Enc (List AV × List Blk) := Enc.both (Enc.vals [(Enc.int .i64), (Enc.int .i64), (Enc.int .i64)]) (Enc.all [])
abbrev E.spec_l1Between_r : Enc (AV × List (Option Blk) × List Blk) := Enc.both Enc.bool (Enc.both (Enc.all []) (Enc.all []))
def T.spec_l1Between {R : Type} : Entry R := { f := 44, arg := E.spec_l1Between_a, res := E.spec_l1Between_r, fn := fun d k => F.spec_l1Between d.1.1 d.1.2.1 d.1.2.2.1 fun x0 => k (x0, ((), ())) }
def H.spec_l1Between : Hint := []
theorem WF.f44 : FnWf Try.prog 44 Try.f44 := fnWf_of Try.func44 (by decide) (by kernel_rfl)
theorem F.spec_l1Between_ok {R : Type} (d : E.spec_l1Between_a.D) (k : AV → List (Option Blk) → List Blk → Option R) :
    funE cfg (table []) (ltable []) H.spec_l1Between Try.f44 (E.spec_l1Between_a.to d).1 (E.spec_l1Between_a.to d).2 k =
      F.spec_l1Between d.1.1 d.1.2.1 d.1.2.2.1 fun x0 => k (E.spec_l1Between_r.to (x0, ((), ()))).1 (E.spec_l1Between_r.to (x0, ((), ()))).2.1 (E.spec_l1Between_r.to (x0, ((), ()))).2.2 := by kernel_rfl
theorem TK.spec_l1Between {R : Type} : EntryOk Try.prog (T.spec_l1Between (R := R)) :=
  entry_fun (h := H.spec_l1Between) hC hm table_nil WF.f44 (fun d => ltable_nil) fun d k =>
    (congrArg (fun z => F.spec_l1Between d.1.1 d.1.2.1 d.1.2.2.1 z) (funext fun x0 => (via_to E.spec_l1Between_r k (x0, ((), ()))).symm)).trans (F.spec_l1Between_ok d (fun v fin new => via E.spec_l1Between_r k (v, fin, new))).symm

/-! ### loop.example/s0007/spec.l2All: function 51 -/
abbrev E.spec_l2All_l0_i : Enc St := Enc.st 0 (Enc.all [(Enc.key 1 (Enc.int .i64)), (Enc.key 2 (Enc.int .i64)), (Enc.key 9 (Enc.ro 0 (.int .i64))), (Enc.key 10 (Enc.int .i64)), (Enc.key 11 (Enc.int .i64))]) (Enc.all [])
abbrev E.spec_l2All_l0_oe0 : Enc St := Enc.st 0 (Enc.all [(Enc.key 6 Enc.un)]) (Enc.all [])
abbrev E.spec_l2All_l0_oret : Enc St := Enc.st 0 (Enc.all [(Enc.key 6 Enc.bool)]) (Enc.all [])
abbrev E.spec_l2All_a : Enc (List AV × List Blk) := Enc.both (Enc.vals [(Enc.ro 0 (.int .i64)), (Enc.int .i64), (Enc.int .i64)]) (Enc.all [])
abbrev E.spec_l2All_r : Enc (AV × List (Option Blk) × List Blk) := Enc.both Enc.bool (Enc.both (Enc.all []) (Enc.all []))
def T.spec_l2All {R : Type} (N : Nat) : Entry R := { f := 51, arg := E.spec_l2All_a, res := E.spec_l2All_r, fn := fun d k => F.spec_l2All N d.1.1 d.1.2.1 d.1.2.2.1 fun x0 => k (x0, ((), ())) }
def H.spec_l2All : Hint := [(0, [1, 2, 9, 10, 11], [6])]
theorem WF.f51 : FnWf Try.prog 51 Try.f51 := fnWf_of Try.func51 (by decide) (by kernel_rfl)
theorem F.spec_l2All_l0_ok {R : Type} (N : Nat) (d : E.spec_l2All_l0_i.D) (next : St → Option R) (out : Ex → St → Option R) :
    stepE cfg (table [T.spec_l1Between]) (ltable []) 0 H.spec_l2All 0 (bodyOf Try.f51 0) [1, 2, 9, 10, 11] [6] (E.spec_l2All_l0_i.to d) next out =
      F.spec_l2All_l0_s N d.1.1 d.1.2.1 d.1.2.2.1 d.1.2.2.2.1 d.1.2.2.2.2.1 (fun x0 x1 x2 x3 x4 => next (E.spec_l2All_l0_i.to ((x0, (x1, (x2, (x3, (x4, ()))))), ()))) (fun _ => out (.exit 0) (E.spec_l2All_l0_oe0.to (((), ()), ()))) (fun y0 => out .ret (E.spec_l2All_l0_oret.to ((y0, ()), ()))) := by kernel_rfl
def G.spec_l2All_l0 {R : Type} (N n : Nat) (d : E.spec_l2All_l0_i.D) (k : Ex → St → Option R) : Option R := F.spec_l2All_l0 N n d.1.1 d.1.2.1 d.1.2.2.1 d.1.2.2.2.1 d.1.2.2.2.2.1 (fun _ => k (.exit 0) (E.spec_l2All_l0_oe0.to (((), ()), ()))) (fun y0 => k .ret (E.spec_l2All_l0_oret.to ((y0, ()), ())))
def TL.spec_l2All_l0 {R : Type} (N : Nat) : LEntry R := { b := 0, st := E.spec_l2All_l0_i, fn := fun d k => G.spec_l2All_l0 N N d k }
theorem GS.spec_l2All_l0 {R : Type} (N n : Nat) (d : E.spec_l2All_l0_i.D) (k : Ex → St → Option R) : G.spec_l2All_l0 N (n + 1) d k =
    stepE cfg (table [T.spec_l1Between]) (ltable []) 0 H.spec_l2All 0 (bodyOf Try.f51 0) [1, 2, 9, 10, 11] [6] (E.spec_l2All_l0_i.to d) (via E.spec_l2All_l0_i fun e => G.spec_l2All_l0 N n e k) k :=
  (show G.spec_l2All_l0 N (n + 1) d k = F.spec_l2All_l0_s N d.1.1 d.1.2.1 d.1.2.2.1 d.1.2.2.2.1 d.1.2.2.2.2.1 (fun x0 x1 x2 x3 x4 => F.spec_l2All_l0 N n x0 x1 x2 x3 x4 (fun _ => k (.exit 0) (E.spec_l2All_l0_oe0.to (((), ()), ()))) (fun y0 => k .ret (E.spec_l2All_l0_oret.to ((y0, ()), ())))) (fun _ => k (.exit 0) (E.spec_l2All_l0_oe0.to (((), ()), ()))) (fun y0 => k .ret (E.spec_l2All_l0_oret.to ((y0, ()), ()))) from rfl).trans
    ((congrArg (fun z => F.spec_l2All_l0_s N d.1.1 d.1.2.1 d.1.2.2.1 d.1.2.2.2.1 d.1.2.2.2.2.1 z (fun _ => k (.exit 0) (E.spec_l2All_l0_oe0.to (((), ()), ()))) (fun y0 => k .ret (E.spec_l2All_l0_oret.to ((y0, ()), ())))) (funext fun x0 => funext fun x1 => funext fun x2 => funext fun x3 => funext fun x4 => (via_to E.spec_l2All_l0_i (fun e => G.spec_l2All_l0 N n e k) ((x0, (x1, (x2, (x3, (x4, ()))))), ())).symm)).trans (F.spec_l2All_l0_ok N d (via E.spec_l2All_l0_i fun e => G.spec_l2All_l0 N n e k) k).symm)
theorem LK.spec_l2All_l0 {R : Type} (N : Nat) : LEntryOk Try.prog 0 Try.f51.ntmps (bodyOf Try.f51) (TL.spec_l2All_l0 (R := R) N) :=
  lentry_fun (i := [1, 2, 9, 10, 11]) (o := [6]) (h := H.spec_l2All) hC hm (table_cons TK.spec_l1Between table_nil) WF.f51 ltable_nil (fun d => uniq_of rfl) (fun n d k => G.spec_l2All_l0 N n d k) N (fun _ _ => rfl) (fun _ _ => rfl) (fun n d k => GS.spec_l2All_l0 N n d k)
theorem F.spec_l2All_ok {R : Type} (N : Nat) (d : E.spec_l2All_a.D) (k : AV → List (Option Blk) → List Blk → Option R) :
    funE cfg (table []) (ltable [TL.spec_l2All_l0 N]) H.spec_l2All Try.f51 (E.spec_l2All_a.to d).1 (E.spec_l2All_a.to d).2 k =
      F.spec_l2All N d.1.1 d.1.2.1 d.1.2.2.1 fun x0 => k (E.spec_l2All_r.to (x0, ((), ()))).1 (E.spec_l2All_r.to (x0, ((), ()))).2.1 (E.spec_l2All_r.to (x0, ((), ()))).2.2 := by kernel_rfl
theorem TK.spec_l2All {R : Type} (N : Nat) : EntryOk Try.prog (T.spec_l2All (R := R) N) :=
  entry_fun (h := H.spec_l2All) hC hm table_nil WF.f51 (fun d => (ltable_cons (LK.spec_l2All_l0 N) ltable_nil)) fun d k =>
    (congrArg (fun z => F.spec_l2All N d.1.1 d.1.2.1 d.1.2.2.1 z) (funext fun x0 => (via_to E.spec_l2All_r k (x0, ((), ()))).symm)).trans (F.spec_l2All_ok N d (fun v fin new => via E.spec_l2All_r k (v, fin, new))).symm

/-! ### loop.example/s0007/spec.TableOK: function 17 -/
abbrev E.spec_TableOK_l0_i : Enc St := Enc.st 1 (Enc.all [(Enc.key 1 (Enc.pb 0 0)), (Enc.key 3 (Enc.int .i64)), (Enc.key 66 (Enc.ro 0 (.int .i64))), (Enc.key 67 (Enc.int .i64)), (Enc.key 68 (Enc.int .i64))]) (Enc.all [(Enc.key 0 (Enc.cell (Enc.vals [(Enc.ro 0 (.int .i64)), (Enc.int .i64), (Enc.ro 0 (.int .i64)), (Enc.ro 0 (.int .i64)), (Enc.ro 0 (.int .i64)), (Enc.ro 0 (.int .i64)), (Enc.ro 0 (.int .i64)), (Enc.ro 0 (.int .i64))])))])
abbrev E.spec_TableOK_l0_oe0 : Enc St := Enc.st 1 (Enc.all [(Enc.key 1 (Enc.pb 0 0)), (Enc.key 2 Enc.un), (Enc.key 3 (Enc.int .i64))]) (Enc.all [(Enc.key 0 (Enc.cell (Enc.vals [(Enc.ro 0 (.int .i64)), (Enc.int .i64), (Enc.ro 0 (.int .i64)), (Enc.ro 0 (.int .i64)), (Enc.ro 0 (.int .i64)), (Enc.ro 0 (.int .i64)), (Enc.ro 0 (.int .i64)), (Enc.ro 0 (.int .i64))])))])
abbrev E.spec_TableOK_l0_oret : Enc St := Enc.st 1 (Enc.all [(Enc.key 1 (Enc.pb 0 0)), (Enc.key 2 Enc.bool), (Enc.key 3 (Enc.int .i64))]) (Enc.all [(Enc.key 0 (Enc.cell (Enc.vals [(Enc.ro 0 (.int .i64)), (Enc.int .i64), (Enc.ro 0 (.int .i64)), (Enc.ro 0 (.int .i64)), (Enc.ro 0 (.int .i64)), (Enc.ro 0 (.int .i64)), (Enc.ro 0 (.int .i64)), (Enc.ro 0 (.int .i64))])))])
abbrev E.spec_TableOK_a : Enc (List AV × List Blk) := Enc.both (Enc.vals [(Enc.agg (Enc.vals [(Enc.ro 0 (.int .i64)), (Enc.int .i64), (Enc.ro 0 (.int .i64)), (Enc.ro 0 (.int .i64)), (Enc.ro 0 (.int .i64)), (Enc.ro 0 (.int .i64)), (Enc.ro 0 (.int .i64)), (Enc.ro 0 (.int .i64))]))]) (Enc.all [])
abbrev E.spec_TableOK_r : Enc (AV × List (Option Blk) × List Blk) := Enc.both Enc.bool (Enc.both (Enc.all []) (Enc.all []))
def T.spec_TableOK {R : Type} (N : Nat) : Entry R := { f := 17, arg := E.spec_TableOK_a, res := E.spec_TableOK_r, fn := fun d k => F.spec_TableOK N d.1.1.1 d.1.1.2.1 d.1.1.2.2.1 d.1.1.2.2.2.1 d.1.1.2.2.2.2.1 d.1.1.2.2.2.2.2.1 d.1.1.2.2.2.2.2.2.1 d.1.1.2.2.2.2.2.2.2.1 fun x0 => k (x0, ((), ())) }
def H.spec_TableOK : Hint := [(0, [1, 3, 66, 67, 68], [1, 2, 3])]
theorem WF.f17 : FnWf Try.prog 17 Try.f17 := fnWf_of Try.func17 (by decide) (by kernel_rfl)
theorem F.spec_TableOK_l0_ok {R : Type} (N : Nat) (d : E.spec_TableOK_l0_i.D) (next : St → Option R) (out : Ex → St → Option R) :
    stepE cfg (table []) (ltable []) 0 H.spec_TableOK 0 (bodyOf Try.f17 0) [1, 3, 66, 67, 68] [1, 2, 3] (E.spec_TableOK_l0_i.to d) next out =
      F.spec_TableOK_l0_s N d.1.2.1 d.1.2.2.1 d.1.2.2.2.1 d.1.2.2.2.2.1 d.2.1.1 d.2.1.2.1 d.2.1.2.2.1 d.2.1.2.2.2.1 d.2.1.2.2.2.2.1 d.2.1.2.2.2.2.2.1 d.2.1.2.2.2.2.2.2.1 d.2.1.2.2.2.2.2.2.2.1 (fun x0 x1 x2 x3 x4 x5 x6 x7 x8 x9 x10 x11 => next (E.spec_TableOK_l0_i.to (((), (x0, (x1, (x2, (x3, ()))))), ((x4, (x5, (x6, (x7, (x8, (x9, (x10, (x11, ())))))))), ())))) (fun y0 y1 y2 y3 y4 y5 y6 y7 y8 => out (.exit 0) (E.spec_TableOK_l0_oe0.to (((), ((), (y0, ()))), ((y1, (y2, (y3, (y4, (y5, (y6, (y7, (y8, ())))))))), ())))) (fun y0 y1 y2 y3 y4 y5 y6 y7 y8 y9 => out .ret (E.spec_TableOK_l0_oret.to (((), (y0, (y1, ()))), ((y2, (y3, (y4, (y5, (y6, (y7, (y8, (y9, ())))))))), ())))) := by kernel_rfl
def G.spec_TableOK_l0 {R : Type} (N n : Nat) (d : E.spec_TableOK_l0_i.D) (k : Ex → St → Option R) : Option R := F.spec_TableOK_l0 N n d.1.2.1 d.1.2.2.1 d.1.2.2.2.1 d.1.2.2.2.2.1 d.2.1.1 d.2.1.2.1 d.2.1.2.2.1 d.2.1.2.2.2.1 d.2.1.2.2.2.2.1 d.2.1.2.2.2.2.2.1 d.2.1.2.2.2.2.2.2.1 d.2.1.2.2.2.2.2.2.2.1 (fun y0 y1 y2 y3 y4 y5 y6 y7 y8 => k (.exit 0) (E.spec_TableOK_l0_oe0.to (((), ((), (y0, ()))), ((y1, (y2, (y3, (y4, (y5, (y6, (y7, (y8, ())))))))), ())))) (fun y0 y1 y2 y3 y4 y5 y6 y7 y8 y9 => k .ret (E.spec_TableOK_l0_oret.to (((), (y0, (y1, ()))), ((y2, (y3, (y4, (y5, (y6, (y7, (y8, (y9, ())))))))), ()))))
def TL.spec_TableOK_l0 {R : Type} (N : Nat) : LEntry R := { b := 0, st := E.spec_TableOK_l0_i, fn := fun d k => G.spec_TableOK_l0 N N d k }
theorem GS.spec_TableOK_l0 {R : Type} (N n : Nat) (d : E.spec_TableOK_l0_i.D) (k : Ex → St → Option R) : G.spec_TableOK_l0 N (n + 1) d k =
    stepE cfg (table []) (ltable []) 0 H.spec_TableOK 0 (bodyOf Try.f17 0) [1, 3, 66, 67, 68] [1, 2, 3] (E.spec_TableOK_l0_i.to d) (via E.spec_TableOK_l0_i fun e => G.spec_TableOK_l0 N n e k) k :=
  (show G.spec_TableOK_l0 N (n + 1) d k = F.spec_TableOK_l0_s N d.1.2.1 d.1.2.2.1 d.1.2.2.2.1 d.1.2.2.2.2.1 d.2.1.1 d.2.1.2.1 d.2.1.2.2.1 d.2.1.2.2.2.1 d.2.1.2.2.2.2.1 d.2.1.2.2.2.2.2.1 d.2.1.2.2.2.2.2.2.1 d.2.1.2.2.2.2.2.2.2.1 (fun x0 x1 x2 x3 x4 x5 x6 x7 x8 x9 x10 x11 => F.spec_TableOK_l0 N n x0 x1 x2 x3 x4 x5 x6 x7 x8 x9 x10 x11 (fun y0 y1 y2 y3 y4 y5 y6 y7 y8 => k (.exit 0) (E.spec_TableOK_l0_oe0.to (((), ((), (y0, ()))), ((y1, (y2, (y3, (y4, (y5, (y6, (y7, (y8, ())))))))), ())))) (fun y0 y1 y2 y3 y4 y5 y6 y7 y8 y9 => k .ret (E.spec_TableOK_l0_oret.to (((), (y0, (y1, ()))), ((y2, (y3, (y4, (y5, (y6, (y7, (y8, (y9, ())))))))), ()))))) (fun y0 y1 y2 y3 y4 y5 y6 y7 y8 => k (.exit 0) (E.spec_TableOK_l0_oe0.to (((), ((), (y0, ()))), ((y1, (y2, (y3, (y4, (y5, (y6, (y7, (y8, ())))))))), ())))) (fun y0 y1 y2 y3 y4 y5 y6 y7 y8 y9 => k .ret (E.spec_TableOK_l0_oret.to (((), (y0, (y1, ()))), ((y2, (y3, (y4, (y5, (y6, (y7, (y8, (y9, ())))))))), ())))) from rfl).trans
    ((congrArg (fun z => F.spec_TableOK_l0_s N d.1.2.1 d.1.2.2.1 d.1.2.2.2.1 d.1.2.2.2.2.1 d.2.1.1 d.2.1.2.1 d.2.1.2.2.1 d.2.1.2.2.2.1 d.2.1.2.2.2.2.1 d.2.1.2.2.2.2.2.1 d.2.1.2.2.2.2.2.2.1 d.2.1.2.2.2.2.2.2.2.1 z (fun y0 y1 y2 y3 y4 y5 y6 y7 y8 => k (.exit 0) (E.spec_TableOK_l0_oe0.to (((), ((), (y0, ()))), ((y1, (y2, (y3, (y4, (y5, (y6, (y7, (y8, ())))))))), ())))) (fun y0 y1 y2 y3 y4 y5 y6 y7 y8 y9 => k .ret (E.spec_TableOK_l0_oret.to (((), (y0, (y1, ()))), ((y2, (y3, (y4, (y5, (y6, (y7, (y8, (y9, ())))))))), ()))))) (funext fun x0 => funext fun x1 => funext fun x2 => funext fun x3 => funext fun x4 => funext fun x5 => funext fun x6 => funext fun x7 => funext fun x8 => funext fun x9 => funext fun x10 => funext fun x11 => (via_to E.spec_TableOK_l0_i (fun e => G.spec_TableOK_l0 N n e k) (((), (x0, (x1, (x2, (x3, ()))))), ((x4, (x5, (x6, (x7, (x8, (x9, (x10, (x11, ())))))))), ()))).symm)).trans (F.spec_TableOK_l0_ok N d (via E.spec_TableOK_l0_i fun e => G.spec_TableOK_l0 N n e k) k).symm)
theorem LK.spec_TableOK_l0 {R : Type} (N : Nat) : LEntryOk Try.prog 0 Try.f17.ntmps (bodyOf Try.f17) (TL.spec_TableOK_l0 (R := R) N) :=
  lentry_fun (i := [1, 3, 66, 67, 68]) (o := [1, 2, 3]) (h := H.spec_TableOK) hC hm table_nil WF.f17 ltable_nil (fun d => uniq_of rfl) (fun n d k => G.spec_TableOK_l0 N n d k) N (fun _ _ => rfl) (fun _ _ => rfl) (fun n d k => GS.spec_TableOK_l0 N n d k)
theorem F.spec_TableOK_ok {R : Type} (N : Nat) (d : E.spec_TableOK_a.D) (k : AV → List (Option Blk) → List Blk → Option R) :
    funE cfg (table [T.spec_l1Between, T.spec_l2All N]) (ltable [TL.spec_TableOK_l0 N]) H.spec_TableOK Try.f17 (E.spec_TableOK_a.to d).1 (E.spec_TableOK_a.to d).2 k =
      F.spec_TableOK N d.1.1.1 d.1.1.2.1 d.1.1.2.2.1 d.1.1.2.2.2.1 d.1.1.2.2.2.2.1 d.1.1.2.2.2.2.2.1 d.1.1.2.2.2.2.2.2.1 d.1.1.2.2.2.2.2.2.2.1 fun x0 => k (E.spec_TableOK_r.to (x0, ((), ()))).1 (E.spec_TableOK_r.to (x0, ((), ()))).2.1 (E.spec_TableOK_r.to (x0, ((), ()))).2.2 := by kernel_rfl
theorem TK.spec_TableOK {R : Type} (N : Nat) : EntryOk Try.prog (T.spec_TableOK (R := R) N) :=
  entry_fun (h := H.spec_TableOK) hC hm (table_cons TK.spec_l1Between (table_cons (TK.spec_l2All N) table_nil)) WF.f17 (fun d => (ltable_cons (LK.spec_TableOK_l0 N) ltable_nil)) fun d k =>
    (congrArg (fun z => F.spec_TableOK N d.1.1.1 d.1.1.2.1 d.1.1.2.2.1 d.1.1.2.2.2.1 d.1.1.2.2.2.2.1 d.1.1.2.2.2.2.2.1 d.1.1.2.2.2.2.2.2.1 d.1.1.2.2.2.2.2.2.2.1 z) (funext fun x0 => (via_to E.spec_TableOK_r k (x0, ((), ()))).symm)).trans (F.spec_TableOK_ok N d (fun v fin new => via E.spec_TableOK_r k (v, fin, new))).symm

/-! ### loop.example/s0007/impl.DfaOK$1$1: function 90 -/
abbrev E.impl_DfaOK_1_1_a : Enc (List AV × List Blk) := Enc.both (Enc.vals [(Enc.int .i64), (Enc.pr 0 0 (Enc.vals [(Enc.int .i64)])), (Enc.pr 0 0 (Enc.vals [(Enc.int .i64)]))]) (Enc.all [])
abbrev E.impl_DfaOK_1_1_r : Enc (AV × List (Option Blk) × List Blk) := Enc.both Enc.bool (Enc.both (Enc.all []) (Enc.all []))
def T.impl_DfaOK_1_1 {R : Type} : Entry R := { f := 90, arg := E.impl_DfaOK_1_1_a, res := E.impl_DfaOK_1_1_r, fn := fun d k => F.impl_DfaOK_1_1 d.1.1 d.1.2.1.1 d.1.2.2.1.1 fun x0 => k (x0, ((), ())) }
def H.impl_DfaOK_1_1 : Hint := []
theorem WF.f90 : FnWf Try.prog 90 Try.f90 := fnWf_of Try.func90 (by decide) (by kernel_rfl)
theorem F.impl_DfaOK_1_1_ok {R : Type} (d : E.impl_DfaOK_1_1_a.D) (k : AV → List (Option Blk) → List Blk → Option R) :
    funE cfg (table []) (ltable []) H.impl_DfaOK_1_1 Try.f90 (E.impl_DfaOK_1_1_a.to d).1 (E.impl_DfaOK_1_1_a.to d).2 k =
      F.impl_DfaOK_1_1 d.1.1 d.1.2.1.1 d.1.2.2.1.1 fun x0 => k (E.impl_DfaOK_1_1_r.to (x0, ((), ()))).1 (E.impl_DfaOK_1_1_r.to (x0, ((), ()))).2.1 (E.impl_DfaOK_1_1_r.to (x0, ((), ()))).2.2 := by kernel_rfl
theorem TK.impl_DfaOK_1_1 {R : Type} : EntryOk Try.prog (T.impl_DfaOK_1_1 (R := R)) :=
  entry_fun (h := H.impl_DfaOK_1_1) hC hm table_nil WF.f90 (fun d => ltable_nil) fun d k =>
    (congrArg (fun z => F.impl_DfaOK_1_1 d.1.1 d.1.2.1.1 d.1.2.2.1.1 z) (funext fun x0 => (via_to E.impl_DfaOK_1_1_r k (x0, ((), ()))).symm)).trans (F.impl_DfaOK_1_1_ok d (fun v fin new => via E.impl_DfaOK_1_1_r k (v, fin, new))).symm

/-! ### slices.IndexFunc[[]int,int]: function 111 -/
abbrev E.slices_IndexFunc_l0_i : Enc St := Enc.st 2 (Enc.all [(Enc.key 0 (Enc.ro 0 (.int .i64))), (Enc.key 1 (Enc.fn 90 (Enc.vals [(Enc.pb 0 0), (Enc.pb 1 0)]))), (Enc.key 7 (Enc.int .i64)), (Enc.key 8 (Enc.int .i64))]) (Enc.all [(Enc.key 0 (Enc.cell (Enc.vals [(Enc.int .i64)]))), (Enc.key 1 (Enc.cell (Enc.vals [(Enc.int .i64)])))])
abbrev E.slices_IndexFunc_l0_oe0 : Enc St := Enc.st 2 (Enc.all [(Enc.key 4 Enc.un)]) (Enc.all [(Enc.key 0 (Enc.cell (Enc.vals [(Enc.int .i64)]))), (Enc.key 1 (Enc.cell (Enc.vals [(Enc.int .i64)])))])
abbrev E.slices_IndexFunc_l0_oret : Enc St := Enc.st 2 (Enc.all [(Enc.key 4 (Enc.int .i64))]) (Enc.all [(Enc.key 0 (Enc.cell (Enc.vals [(Enc.int .i64)]))), (Enc.key 1 (Enc.cell (Enc.vals [(Enc.int .i64)])))])
abbrev E.slices_IndexFunc_a : Enc (List AV × List Blk) := Enc.both (Enc.vals [(Enc.ro 0 (.int .i64)), (Enc.fn 90 (Enc.vals [(Enc.pb 0 0), (Enc.pb 1 0)]))]) (Enc.all [(Enc.cell (Enc.vals [(Enc.int .i64)])), (Enc.cell (Enc.vals [(Enc.int .i64)]))])
abbrev E.slices_IndexFunc_r : Enc (AV × List (Option Blk) × List Blk) := Enc.both (Enc.int .i64) (Enc.both (Enc.all [(Enc.some_ (Enc.cell (Enc.vals [(Enc.int .i64)]))), (Enc.some_ (Enc.cell (Enc.vals [(Enc.int .i64)])))]) (Enc.all []))
def T.slices_IndexFunc {R : Type} (N : Nat) : Entry R := { f := 111, arg := E.slices_IndexFunc_a, res := E.slices_IndexFunc_r, fn := fun d k => F.slices_IndexFunc N d.1.1 d.2.1.1 d.2.2.1.1 fun x0 x1 x2 => k (x0, (((x1, ()), ((x2, ()), ())), ())) }
def H.slices_IndexFunc : Hint := [(0, [0, 1, 7, 8], [4])]
theorem WF.f111 : FnWf Try.prog 111 Try.f111 := fnWf_of Try.func111 (by decide) (by kernel_rfl)
theorem F.slices_IndexFunc_l0_ok {R : Type} (N : Nat) (d : E.slices_IndexFunc_l0_i.D) (next : St → Option R) (out : Ex → St → Option R) :
    stepE cfg (table [T.impl_DfaOK_1_1]) (ltable []) 2 H.slices_IndexFunc 0 (bodyOf Try.f111 0) [0, 1, 7, 8] [4] (E.slices_IndexFunc_l0_i.to d) next out =
      F.slices_IndexFunc_l0_s N d.1.1 d.1.2.2.1 d.1.2.2.2.1 d.2.1.1 d.2.2.1.1 (fun x0 x1 x2 x3 x4 => next (E.slices_IndexFunc_l0_i.to ((x0, (((), ((), ())), (x1, (x2, ())))), ((x3, ()), ((x4, ()), ()))))) (fun y0 y1 => out (.exit 0) (E.slices_IndexFunc_l0_oe0.to (((), ()), ((y0, ()), ((y1, ()), ()))))) (fun y0 y1 y2 => out .ret (E.slices_IndexFunc_l0_oret.to ((y0, ()), ((y1, ()), ((y2, ()), ()))))) := by kernel_rfl
def G.slices_IndexFunc_l0 {R : Type} (N n : Nat) (d : E.slices_IndexFunc_l0_i.D) (k : Ex → St → Option R) : Option R := F.slices_IndexFunc_l0 N n d.1.1 d.1.2.2.1 d.1.2.2.2.1 d.2.1.1 d.2.2.1.1 (fun y0 y1 => k (.exit 0) (E.slices_IndexFunc_l0_oe0.to (((), ()), ((y0, ()), ((y1, ()), ()))))) (fun y0 y1 y2 => k .ret (E.slices_IndexFunc_l0_oret.to ((y0, ()), ((y1, ()), ((y2, ()), ())))))
def TL.slices_IndexFunc_l0 {R : Type} (N : Nat) : LEntry R := { b := 0, st := E.slices_IndexFunc_l0_i, fn := fun d k => G.slices_IndexFunc_l0 N N d k }
theorem GS.slices_IndexFunc_l0 {R : Type} (N n : Nat) (d : E.slices_IndexFunc_l0_i.D) (k : Ex → St → Option R) : G.slices_IndexFunc_l0 N (n + 1) d k =
    stepE cfg (table [T.impl_DfaOK_1_1]) (ltable []) 2 H.slices_IndexFunc 0 (bodyOf Try.f111 0) [0, 1, 7, 8] [4] (E.slices_IndexFunc_l0_i.to d) (via E.slices_IndexFunc_l0_i fun e => G.slices_IndexFunc_l0 N n e k) k :=
  (show G.slices_IndexFunc_l0 N (n + 1) d k = F.slices_IndexFunc_l0_s N d.1.1 d.1.2.2.1 d.1.2.2.2.1 d.2.1.1 d.2.2.1.1 (fun x0 x1 x2 x3 x4 => F.slices_IndexFunc_l0 N n x0 x1 x2 x3 x4 (fun y0 y1 => k (.exit 0) (E.slices_IndexFunc_l0_oe0.to (((), ()), ((y0, ()), ((y1, ()), ()))))) (fun y0 y1 y2 => k .ret (E.slices_IndexFunc_l0_oret.to ((y0, ()), ((y1, ()), ((y2, ()), ())))))) (fun y0 y1 => k (.exit 0) (E.slices_IndexFunc_l0_oe0.to (((), ()), ((y0, ()), ((y1, ()), ()))))) (fun y0 y1 y2 => k .ret (E.slices_IndexFunc_l0_oret.to ((y0, ()), ((y1, ()), ((y2, ()), ()))))) from rfl).trans
    ((congrArg (fun z => F.slices_IndexFunc_l0_s N d.1.1 d.1.2.2.1 d.1.2.2.2.1 d.2.1.1 d.2.2.1.1 z (fun y0 y1 => k (.exit 0) (E.slices_IndexFunc_l0_oe0.to (((), ()), ((y0, ()), ((y1, ()), ()))))) (fun y0 y1 y2 => k .ret (E.slices_IndexFunc_l0_oret.to ((y0, ()), ((y1, ()), ((y2, ()), ())))))) (funext fun x0 => funext fun x1 => funext fun x2 => funext fun x3 => funext fun x4 => (via_to E.slices_IndexFunc_l0_i (fun e => G.slices_IndexFunc_l0 N n e k) ((x0, (((), ((), ())), (x1, (x2, ())))), ((x3, ()), ((x4, ()), ())))).symm)).trans (F.slices_IndexFunc_l0_ok N d (via E.slices_IndexFunc_l0_i fun e => G.slices_IndexFunc_l0 N n e k) k).symm)
theorem LK.slices_IndexFunc_l0 {R : Type} (N : Nat) : LEntryOk Try.prog 2 Try.f111.ntmps (bodyOf Try.f111) (TL.slices_IndexFunc_l0 (R := R) N) :=
  lentry_fun (i := [0, 1, 7, 8]) (o := [4]) (h := H.slices_IndexFunc) hC hm (table_cons TK.impl_DfaOK_1_1 table_nil) WF.f111 ltable_nil (fun d => uniq_of rfl) (fun n d k => G.slices_IndexFunc_l0 N n d k) N (fun _ _ => rfl) (fun _ _ => rfl) (fun n d k => GS.slices_IndexFunc_l0 N n d k)
theorem F.slices_IndexFunc_ok {R : Type} (N : Nat) (d : E.slices_IndexFunc_a.D) (k : AV → List (Option Blk) → List Blk → Option R) :
    funE cfg (table []) (ltable [TL.slices_IndexFunc_l0 N]) H.slices_IndexFunc Try.f111 (E.slices_IndexFunc_a.to d).1 (E.slices_IndexFunc_a.to d).2 k =
      F.slices_IndexFunc N d.1.1 d.2.1.1 d.2.2.1.1 fun x0 x1 x2 => k (E.slices_IndexFunc_r.to (x0, (((x1, ()), ((x2, ()), ())), ()))).1 (E.slices_IndexFunc_r.to (x0, (((x1, ()), ((x2, ()), ())), ()))).2.1 (E.slices_IndexFunc_r.to (x0, (((x1, ()), ((x2, ()), ())), ()))).2.2 := by kernel_rfl
theorem TK.slices_IndexFunc {R : Type} (N : Nat) : EntryOk Try.prog (T.slices_IndexFunc (R := R) N) :=
  entry_fun (h := H.slices_IndexFunc) hC hm table_nil WF.f111 (fun d => (ltable_cons (LK.slices_IndexFunc_l0 N) ltable_nil)) fun d k =>
    (congrArg (fun z => F.slices_IndexFunc N d.1.1 d.2.1.1 d.2.2.1.1 z) (funext fun x0 => funext fun x1 => funext fun x2 => (via_to E.slices_IndexFunc_r k (x0, (((x1, ()), ((x2, ()), ())), ()))).symm)).trans (F.slices_IndexFunc_ok N d (fun v fin new => via E.slices_IndexFunc_r k (v, fin, new))).symm

/-! ### slices.ContainsFunc[[]int,int]: function 89 -/
abbrev E.slices_ContainsFunc_a : Enc (List AV × List Blk) := Enc.both (Enc.vals [(Enc.ro 0 (.int .i64)), (Enc.fn 90 (Enc.vals [(Enc.pb 0 0), (Enc.pb 1 0)]))]) (Enc.all [(Enc.cell (Enc.vals [(Enc.int .i64)])), (Enc.cell (Enc.vals [(Enc.int .i64)]))])
abbrev E.slices_ContainsFunc_r : Enc (AV × List (Option Blk) × List Blk) := Enc.both Enc.bool (Enc.both (Enc.all [(Enc.some_ (Enc.cell (Enc.vals [(Enc.int .i64)]))), (Enc.some_ (Enc.cell (Enc.vals [(Enc.int .i64)])))]) (Enc.all []))
def T.slices_ContainsFunc {R : Type} (N : Nat) : Entry R := { f := 89, arg := E.slices_ContainsFunc_a, res := E.slices_ContainsFunc_r, fn := fun d k => F.slices_ContainsFunc N d.1.1 d.2.1.1 d.2.2.1.1 fun x0 x1 x2 => k (x0, (((x1, ()), ((x2, ()), ())), ())) }
def H.slices_ContainsFunc : Hint := []
theorem WF.f89 : FnWf Try.prog 89 Try.f89 := fnWf_of Try.func89 (by decide) (by kernel_rfl)
theorem F.slices_ContainsFunc_ok {R : Type} (N : Nat) (d : E.slices_ContainsFunc_a.D) (k : AV → List (Option Blk) → List Blk → Option R) :
    funE cfg (table [T.slices_IndexFunc N]) (ltable []) H.slices_ContainsFunc Try.f89 (E.slices_ContainsFunc_a.to d).1 (E.slices_ContainsFunc_a.to d).2 k =
      F.slices_ContainsFunc N d.1.1 d.2.1.1 d.2.2.1.1 fun x0 x1 x2 => k (E.slices_ContainsFunc_r.to (x0, (((x1, ()), ((x2, ()), ())), ()))).1 (E.slices_ContainsFunc_r.to (x0, (((x1, ()), ((x2, ()), ())), ()))).2.1 (E.slices_ContainsFunc_r.to (x0, (((x1, ()), ((x2, ()), ())), ()))).2.2 := by kernel_rfl
theorem TK.slices_ContainsFunc {R : Type} (N : Nat) : EntryOk Try.prog (T.slices_ContainsFunc (R := R) N) :=
  entry_fun (h := H.slices_ContainsFunc) hC hm (table_cons (TK.slices_IndexFunc N) table_nil) WF.f89 (fun d => ltable_nil) fun d k =>
    (congrArg (fun z => F.slices_ContainsFunc N d.1.1 d.2.1.1 d.2.2.1.1 z) (funext fun x0 => funext fun x1 => funext fun x2 => (via_to E.slices_ContainsFunc_r k (x0, (((x1, ()), ((x2, ()), ())), ()))).symm)).trans (F.slices_ContainsFunc_ok N d (fun v fin new => via E.slices_ContainsFunc_r k (v, fin, new))).symm

/-! ### loop.example/s0007/impl.DfaOK$1: function 88 -/
abbrev E.impl_DfaOK_1_a : Enc (List AV × List Blk) := Enc.both (Enc.vals [(Enc.ro 0 (.int .i64)), (Enc.int .i64), (Enc.int .i64)]) (Enc.all [])
abbrev E.impl_DfaOK_1_r : Enc (AV × List (Option Blk) × List Blk) := Enc.both Enc.bool (Enc.both (Enc.all []) (Enc.all []))
def T.impl_DfaOK_1 {R : Type} (N : Nat) : Entry R := { f := 88, arg := E.impl_DfaOK_1_a, res := E.impl_DfaOK_1_r, fn := fun d k => F.impl_DfaOK_1 N d.1.1 d.1.2.1 d.1.2.2.1 fun x0 => k (x0, ((), ())) }
def H.impl_DfaOK_1 : Hint := []
theorem WF.f88 : FnWf Try.prog 88 Try.f88 := fnWf_of Try.func88 (by decide) (by kernel_rfl)
theorem F.impl_DfaOK_1_ok {R : Type} (N : Nat) (d : E.impl_DfaOK_1_a.D) (k : AV → List (Option Blk) → List Blk → Option R) :
    funE cfg (table [T.slices_ContainsFunc N]) (ltable []) H.impl_DfaOK_1 Try.f88 (E.impl_DfaOK_1_a.to d).1 (E.impl_DfaOK_1_a.to d).2 k =
      F.impl_DfaOK_1 N d.1.1 d.1.2.1 d.1.2.2.1 fun x0 => k (E.impl_DfaOK_1_r.to (x0, ((), ()))).1 (E.impl_DfaOK_1_r.to (x0, ((), ()))).2.1 (E.impl_DfaOK_1_r.to (x0, ((), ()))).2.2 := by kernel_rfl
theorem TK.impl_DfaOK_1 {R : Type} (N : Nat) : EntryOk Try.prog (T.impl_DfaOK_1 (R := R) N) :=
  entry_fun (h := H.impl_DfaOK_1) hC hm (table_cons (TK.slices_ContainsFunc N) table_nil) WF.f88 (fun d => ltable_nil) fun d k =>
    (congrArg (fun z => F.impl_DfaOK_1 N d.1.1 d.1.2.1 d.1.2.2.1 z) (funext fun x0 => (via_to E.impl_DfaOK_1_r k (x0, ((), ()))).symm)).trans (F.impl_DfaOK_1_ok N d (fun v fin new => via E.impl_DfaOK_1_r k (v, fin, new))).symm

/-! ### loop.example/s0007/impl.DfaOK: function 53 -/
abbrev E.impl_DfaOK_a : Enc (List AV × List Blk) := Enc.both (Enc.vals [(Enc.agg (Enc.vals [(Enc.ro 0 (.int .i64)), (Enc.int .i64), (Enc.ro 0 (.int .i64)), (Enc.ro 0 (.int .i64)), (Enc.ro 0 (.int .i64))]))]) (Enc.all [])
abbrev E.impl_DfaOK_r : Enc (AV × List (Option Blk) × List Blk) := Enc.both Enc.bool (Enc.both (Enc.all []) (Enc.all []))
def T.impl_DfaOK {R : Type} (N : Nat) : Entry R := { f := 53, arg := E.impl_DfaOK_a, res := E.impl_DfaOK_r, fn := fun d k => F.impl_DfaOK N d.1.1.1 d.1.1.2.1 d.1.1.2.2.1 d.1.1.2.2.2.1 d.1.1.2.2.2.2.1 fun x0 => k (x0, ((), ())) }
def H.impl_DfaOK : Hint := []
theorem WF.f53 : FnWf Try.prog 53 Try.f53 := fnWf_of Try.func53 (by decide) (by kernel_rfl)
theorem F.impl_DfaOK_ok {R : Type} (N : Nat) (d : E.impl_DfaOK_a.D) (k : AV → List (Option Blk) → List Blk → Option R) :
    funE cfg (table [T.impl_DfaOK_1 N]) (ltable []) H.impl_DfaOK Try.f53 (E.impl_DfaOK_a.to d).1 (E.impl_DfaOK_a.to d).2 k =
      F.impl_DfaOK N d.1.1.1 d.1.1.2.1 d.1.1.2.2.1 d.1.1.2.2.2.1 d.1.1.2.2.2.2.1 fun x0 => k (E.impl_DfaOK_r.to (x0, ((), ()))).1 (E.impl_DfaOK_r.to (x0, ((), ()))).2.1 (E.impl_DfaOK_r.to (x0, ((), ()))).2.2 := by kernel_rfl
theorem TK.impl_DfaOK {R : Type} (N : Nat) : EntryOk Try.prog (T.impl_DfaOK (R := R) N) :=
  entry_fun (h := H.impl_DfaOK) hC hm (table_cons (TK.impl_DfaOK_1 N) table_nil) WF.f53 (fun d => ltable_nil) fun d k =>
    (congrArg (fun z => F.impl_DfaOK N d.1.1.1 d.1.1.2.1 d.1.1.2.2.1 d.1.1.2.2.2.1 d.1.1.2.2.2.2.1 z) (funext fun x0 => (via_to E.impl_DfaOK_r k (x0, ((), ()))).symm)).trans (F.impl_DfaOK_ok N d (fun v fin new => via E.impl_DfaOK_r k (v, fin, new))).symm

/-! ### loop.example/s0007/impl.TableOK: function 19 -/
abbrev E.impl_TableOK_l0_i : Enc St := Enc.st 1 (Enc.all [(Enc.key 1 (Enc.pb 0 0)), (Enc.key 3 (Enc.int .i64)), (Enc.key 72 (Enc.int .i64)), (Enc.key 73 (Enc.int .i64))]) (Enc.all [(Enc.key 0 (Enc.cell (Enc.vals [(Enc.ro 0 (.int .i64)), (Enc.int .i64), (Enc.ro 0 (.int .i64)), (Enc.ro 0 (.int .i64)), (Enc.ro 0 (.int .i64)), (Enc.ro 0 (.int .i64)), (Enc.ro 0 (.int .i64)), (Enc.ro 0 (.int .i64))])))])
abbrev E.impl_TableOK_l0_oe0 : Enc St := Enc.st 1 (Enc.all [(Enc.key 1 (Enc.pb 0 0)), (Enc.key 2 Enc.un), (Enc.key 3 (Enc.int .i64))]) (Enc.all [(Enc.key 0 (Enc.cell (Enc.vals [(Enc.ro 0 (.int .i64)), (Enc.int .i64), (Enc.ro 0 (.int .i64)), (Enc.ro 0 (.int .i64)), (Enc.ro 0 (.int .i64)), (Enc.ro 0 (.int .i64)), (Enc.ro 0 (.int .i64)), (Enc.ro 0 (.int .i64))])))])
abbrev E.impl_TableOK_l0_oret : Enc St := Enc.st 1 (Enc.all [(Enc.key 1 (Enc.pb 0 0)), (Enc.key 2 Enc.bool), (Enc.key 3 (Enc.int .i64))]) (Enc.all [(Enc.key 0 (Enc.cell (Enc.vals [(Enc.ro 0 (.int .i64)), (Enc.int .i64), (Enc.ro 0 (.int .i64)), (Enc.ro 0 (.int .i64)), (Enc.ro 0 (.int .i64)), (Enc.ro 0 (.int .i64)), (Enc.ro 0 (.int .i64)), (Enc.ro 0 (.int .i64))])))])
abbrev E.impl_TableOK_l2_i : Enc St := Enc.st 1 (Enc.all [(Enc.key 1 (Enc.pb 0 0)), (Enc.key 3 (Enc.int .i64)), (Enc.key 109 (Enc.ro 0 (.int .i64))), (Enc.key 110 (Enc.int .i64)), (Enc.key 111 (Enc.int .i64))]) (Enc.all [(Enc.key 0 (Enc.cell (Enc.vals [(Enc.ro 0 (.int .i64)), (Enc.int .i64), (Enc.ro 0 (.int .i64)), (Enc.ro 0 (.int .i64)), (Enc.ro 0 (.int .i64)), (Enc.ro 0 (.int .i64)), (Enc.ro 0 (.int .i64)), (Enc.ro 0 (.int .i64))])))])
abbrev E.impl_TableOK_l2_oe2 : Enc St := Enc.st 0 (Enc.all [(Enc.key 2 Enc.un)]) (Enc.all [])
abbrev E.impl_TableOK_l2_oret : Enc St := Enc.st 0 (Enc.all [(Enc.key 2 Enc.bool)]) (Enc.all [])
abbrev E.impl_TableOK_a : Enc (List AV × List Blk) := Enc.both (Enc.vals [(Enc.agg (Enc.vals [(Enc.ro 0 (.int .i64)), (Enc.int .i64), (Enc.ro 0 (.int .i64)), (Enc.ro 0 (.int .i64)), (Enc.ro 0 (.int .i64)), (Enc.ro 0 (.int .i64)), (Enc.ro 0 (.int .i64)), (Enc.ro 0 (.int .i64))]))]) (Enc.all [])
abbrev E.impl_TableOK_r : Enc (AV × List (Option Blk) × List Blk) := Enc.both Enc.bool (Enc.both (Enc.all []) (Enc.all []))
def T.impl_TableOK {R : Type} (N : Nat) : Entry R := { f := 19, arg := E.impl_TableOK_a, res := E.impl_TableOK_r, fn := fun d k => F.impl_TableOK N d.1.1.1 d.1.1.2.1 d.1.1.2.2.1 d.1.1.2.2.2.1 d.1.1.2.2.2.2.1 d.1.1.2.2.2.2.2.1 d.1.1.2.2.2.2.2.2.1 d.1.1.2.2.2.2.2.2.2.1 fun x0 => k (x0, ((), ())) }
def H.impl_TableOK : Hint := [(0, [1, 3, 72, 73], [1, 2, 3]), (2, [1, 3, 109, 110, 111], [2])]
theorem WF.f19 : FnWf Try.prog 19 Try.f19 := fnWf_of Try.func19 (by decide) (by kernel_rfl)
theorem F.impl_TableOK_l0_ok {R : Type} (N : Nat) (d : E.impl_TableOK_l0_i.D) (next : St → Option R) (out : Ex → St → Option R) :
    stepE cfg (table []) (ltable []) 0 H.impl_TableOK 0 (bodyOf Try.f19 0) [1, 3, 72, 73] [1, 2, 3] (E.impl_TableOK_l0_i.to d) next out =
      F.impl_TableOK_l0_s N d.1.2.1 d.1.2.2.1 d.1.2.2.2.1 d.2.1.1 d.2.1.2.1 d.2.1.2.2.1 d.2.1.2.2.2.1 d.2.1.2.2.2.2.1 d.2.1.2.2.2.2.2.1 d.2.1.2.2.2.2.2.2.1 d.2.1.2.2.2.2.2.2.2.1 (fun x0 x1 x2 x3 x4 x5 x6 x7 x8 x9 x10 => next (E.impl_TableOK_l0_i.to (((), (x0, (x1, (x2, ())))), ((x3, (x4, (x5, (x6, (x7, (x8, (x9, (x10, ())))))))), ())))) (fun y0 y1 y2 y3 y4 y5 y6 y7 y8 => out (.exit 0) (E.impl_TableOK_l0_oe0.to (((), ((), (y0, ()))), ((y1, (y2, (y3, (y4, (y5, (y6, (y7, (y8, ())))))))), ())))) (fun y0 y1 y2 y3 y4 y5 y6 y7 y8 y9 => out .ret (E.impl_TableOK_l0_oret.to (((), (y0, (y1, ()))), ((y2, (y3, (y4, (y5, (y6, (y7, (y8, (y9, ())))))))), ())))) := by kernel_rfl
def G.impl_TableOK_l0 {R : Type} (N n : Nat) (d : E.impl_TableOK_l0_i.D) (k : Ex → St → Option R) : Option R := F.impl_TableOK_l0 N n d.1.2.1 d.1.2.2.1 d.1.2.2.2.1 d.2.1.1 d.2.1.2.1 d.2.1.2.2.1 d.2.1.2.2.2.1 d.2.1.2.2.2.2.1 d.2.1.2.2.2.2.2.1 d.2.1.2.2.2.2.2.2.1 d.2.1.2.2.2.2.2.2.2.1 (fun y0 y1 y2 y3 y4 y5 y6 y7 y8 => k (.exit 0) (E.impl_TableOK_l0_oe0.to (((), ((), (y0, ()))), ((y1, (y2, (y3, (y4, (y5, (y6, (y7, (y8, ())))))))), ())))) (fun y0 y1 y2 y3 y4 y5 y6 y7 y8 y9 => k .ret (E.impl_TableOK_l0_oret.to (((), (y0, (y1, ()))), ((y2, (y3, (y4, (y5, (y6, (y7, (y8, (y9, ())))))))), ()))))
def TL.impl_TableOK_l0 {R : Type} (N : Nat) : LEntry R := { b := 0, st := E.impl_TableOK_l0_i, fn := fun d k => G.impl_TableOK_l0 N N d k }
theorem GS.impl_TableOK_l0 {R : Type} (N n : Nat) (d : E.impl_TableOK_l0_i.D) (k : Ex → St → Option R) : G.impl_TableOK_l0 N (n + 1) d k =
    stepE cfg (table []) (ltable []) 0 H.impl_TableOK 0 (bodyOf Try.f19 0) [1, 3, 72, 73] [1, 2, 3] (E.impl_TableOK_l0_i.to d) (via E.impl_TableOK_l0_i fun e => G.impl_TableOK_l0 N n e k) k :=
  (show G.impl_TableOK_l0 N (n + 1) d k = F.impl_TableOK_l0_s N d.1.2.1 d.1.2.2.1 d.1.2.2.2.1 d.2.1.1 d.2.1.2.1 d.2.1.2.2.1 d.2.1.2.2.2.1 d.2.1.2.2.2.2.1 d.2.1.2.2.2.2.2.1 d.2.1.2.2.2.2.2.2.1 d.2.1.2.2.2.2.2.2.2.1 (fun x0 x1 x2 x3 x4 x5 x6 x7 x8 x9 x10 => F.impl_TableOK_l0 N n x0 x1 x2 x3 x4 x5 x6 x7 x8 x9 x10 (fun y0 y1 y2 y3 y4 y5 y6 y7 y8 => k (.exit 0) (E.impl_TableOK_l0_oe0.to (((), ((), (y0, ()))), ((y1, (y2, (y3, (y4, (y5, (y6, (y7, (y8, ())))))))), ())))) (fun y0 y1 y2 y3 y4 y5 y6 y7 y8 y9 => k .ret (E.impl_TableOK_l0_oret.to (((), (y0, (y1, ()))), ((y2, (y3, (y4, (y5, (y6, (y7, (y8, (y9, ())))))))), ()))))) (fun y0 y1 y2 y3 y4 y5 y6 y7 y8 => k (.exit 0) (E.impl_TableOK_l0_oe0.to (((), ((), (y0, ()))), ((y1, (y2, (y3, (y4, (y5, (y6, (y7, (y8, ())))))))), ())))) (fun y0 y1 y2 y3 y4 y5 y6 y7 y8 y9 => k .ret (E.impl_TableOK_l0_oret.to (((), (y0, (y1, ()))), ((y2, (y3, (y4, (y5, (y6, (y7, (y8, (y9, ())))))))), ())))) from rfl).trans
    ((congrArg (fun z => F.impl_TableOK_l0_s N d.1.2.1 d.1.2.2.1 d.1.2.2.2.1 d.2.1.1 d.2.1.2.1 d.2.1.2.2.1 d.2.1.2.2.2.1 d.2.1.2.2.2.2.1 d.2.1.2.2.2.2.2.1 d.2.1.2.2.2.2.2.2.1 d.2.1.2.2.2.2.2.2.2.1 z (fun y0 y1 y2 y3 y4 y5 y6 y7 y8 => k (.exit 0) (E.impl_TableOK_l0_oe0.to (((), ((), (y0, ()))), ((y1, (y2, (y3, (y4, (y5, (y6, (y7, (y8, ())))))))), ())))) (fun y0 y1 y2 y3 y4 y5 y6 y7 y8 y9 => k .ret (E.impl_TableOK_l0_oret.to (((), (y0, (y1, ()))), ((y2, (y3, (y4, (y5, (y6, (y7, (y8, (y9, ())))))))), ()))))) (funext fun x0 => funext fun x1 => funext fun x2 => funext fun x3 => funext fun x4 => funext fun x5 => funext fun x6 => funext fun x7 => funext fun x8 => funext fun x9 => funext fun x10 => (via_to E.impl_TableOK_l0_i (fun e => G.impl_TableOK_l0 N n e k) (((), (x0, (x1, (x2, ())))), ((x3, (x4, (x5, (x6, (x7, (x8, (x9, (x10, ())))))))), ()))).symm)).trans (F.impl_TableOK_l0_ok N d (via E.impl_TableOK_l0_i fun e => G.impl_TableOK_l0 N n e k) k).symm)
theorem LK.impl_TableOK_l0 {R : Type} (N : Nat) : LEntryOk Try.prog 0 Try.f19.ntmps (bodyOf Try.f19) (TL.impl_TableOK_l0 (R := R) N) :=
  lentry_fun (i := [1, 3, 72, 73]) (o := [1, 2, 3]) (h := H.impl_TableOK) hC hm table_nil WF.f19 ltable_nil (fun d => uniq_of rfl) (fun n d k => G.impl_TableOK_l0 N n d k) N (fun _ _ => rfl) (fun _ _ => rfl) (fun n d k => GS.impl_TableOK_l0 N n d k)
theorem F.impl_TableOK_l2_ok {R : Type} (N : Nat) (d : E.impl_TableOK_l2_i.D) (next : St → Option R) (out : Ex → St → Option R) :
    stepE cfg (table []) (ltable []) 0 H.impl_TableOK 2 (bodyOf Try.f19 2) [1, 3, 109, 110, 111] [2] (E.impl_TableOK_l2_i.to d) next out =
      F.impl_TableOK_l2_s N d.1.2.1 d.1.2.2.1 d.1.2.2.2.1 d.1.2.2.2.2.1 d.2.1.1 d.2.1.2.1 d.2.1.2.2.1 d.2.1.2.2.2.1 d.2.1.2.2.2.2.1 d.2.1.2.2.2.2.2.1 d.2.1.2.2.2.2.2.2.1 d.2.1.2.2.2.2.2.2.2.1 (fun x0 x1 x2 x3 x4 x5 x6 x7 x8 x9 x10 x11 => next (E.impl_TableOK_l2_i.to (((), (x0, (x1, (x2, (x3, ()))))), ((x4, (x5, (x6, (x7, (x8, (x9, (x10, (x11, ())))))))), ())))) (fun _ => out (.exit 2) (E.impl_TableOK_l2_oe2.to (((), ()), ()))) (fun y0 => out .ret (E.impl_TableOK_l2_oret.to ((y0, ()), ()))) := by kernel_rfl
def G.impl_TableOK_l2 {R : Type} (N n : Nat) (d : E.impl_TableOK_l2_i.D) (k : Ex → St → Option R) : Option R := F.impl_TableOK_l2 N n d.1.2.1 d.1.2.2.1 d.1.2.2.2.1 d.1.2.2.2.2.1 d.2.1.1 d.2.1.2.1 d.2.1.2.2.1 d.2.1.2.2.2.1 d.2.1.2.2.2.2.1 d.2.1.2.2.2.2.2.1 d.2.1.2.2.2.2.2.2.1 d.2.1.2.2.2.2.2.2.2.1 (fun _ => k (.exit 2) (E.impl_TableOK_l2_oe2.to (((), ()), ()))) (fun y0 => k .ret (E.impl_TableOK_l2_oret.to ((y0, ()), ())))
def TL.impl_TableOK_l2 {R : Type} (N : Nat) : LEntry R := { b := 2, st := E.impl_TableOK_l2_i, fn := fun d k => G.impl_TableOK_l2 N N d k }
theorem GS.impl_TableOK_l2 {R : Type} (N n : Nat) (d : E.impl_TableOK_l2_i.D) (k : Ex → St → Option R) : G.impl_TableOK_l2 N (n + 1) d k =
    stepE cfg (table []) (ltable []) 0 H.impl_TableOK 2 (bodyOf Try.f19 2) [1, 3, 109, 110, 111] [2] (E.impl_TableOK_l2_i.to d) (via E.impl_TableOK_l2_i fun e => G.impl_TableOK_l2 N n e k) k :=
  (show G.impl_TableOK_l2 N (n + 1) d k = F.impl_TableOK_l2_s N d.1.2.1 d.1.2.2.1 d.1.2.2.2.1 d.1.2.2.2.2.1 d.2.1.1 d.2.1.2.1 d.2.1.2.2.1 d.2.1.2.2.2.1 d.2.1.2.2.2.2.1 d.2.1.2.2.2.2.2.1 d.2.1.2.2.2.2.2.2.1 d.2.1.2.2.2.2.2.2.2.1 (fun x0 x1 x2 x3 x4 x5 x6 x7 x8 x9 x10 x11 => F.impl_TableOK_l2 N n x0 x1 x2 x3 x4 x5 x6 x7 x8 x9 x10 x11 (fun _ => k (.exit 2) (E.impl_TableOK_l2_oe2.to (((), ()), ()))) (fun y0 => k .ret (E.impl_TableOK_l2_oret.to ((y0, ()), ())))) (fun _ => k (.exit 2) (E.impl_TableOK_l2_oe2.to (((), ()), ()))) (fun y0 => k .ret (E.impl_TableOK_l2_oret.to ((y0, ()), ()))) from rfl).trans
    ((congrArg (fun z => F.impl_TableOK_l2_s N d.1.2.1 d.1.2.2.1 d.1.2.2.2.1 d.1.2.2.2.2.1 d.2.1.1 d.2.1.2.1 d.2.1.2.2.1 d.2.1.2.2.2.1 d.2.1.2.2.2.2.1 d.2.1.2.2.2.2.2.1 d.2.1.2.2.2.2.2.2.1 d.2.1.2.2.2.2.2.2.2.1 z (fun _ => k (.exit 2) (E.impl_TableOK_l2_oe2.to (((), ()), ()))) (fun y0 => k .ret (E.impl_TableOK_l2_oret.to ((y0, ()), ())))) (funext fun x0 => funext fun x1 => funext fun x2 => funext fun x3 => funext fun x4 => funext fun x5 => funext fun x6 => funext fun x7 => funext fun x8 => funext fun x9 => funext fun x10 => funext fun x11 => (via_to E.impl_TableOK_l2_i (fun e => G.impl_TableOK_l2 N n e k) (((), (x0, (x1, (x2, (x3, ()))))), ((x4, (x5, (x6, (x7, (x8, (x9, (x10, (x11, ())))))))), ()))).symm)).trans (F.impl_TableOK_l2_ok N d (via E.impl_TableOK_l2_i fun e => G.impl_TableOK_l2 N n e k) k).symm)
theorem LK.impl_TableOK_l2 {R : Type} (N : Nat) : LEntryOk Try.prog 0 Try.f19.ntmps (bodyOf Try.f19) (TL.impl_TableOK_l2 (R := R) N) :=
  lentry_fun (i := [1, 3, 109, 110, 111]) (o := [2]) (h := H.impl_TableOK) hC hm table_nil WF.f19 ltable_nil (fun d => uniq_of rfl) (fun n d k => G.impl_TableOK_l2 N n d k) N (fun _ _ => rfl) (fun _ _ => rfl) (fun n d k => GS.impl_TableOK_l2 N n d k)
theorem F.impl_TableOK_ok {R : Type} (N : Nat) (d : E.impl_TableOK_a.D) (k : AV → List (Option Blk) → List Blk → Option R) :
    funE cfg (table [T.impl_DfaOK N]) (ltable [TL.impl_TableOK_l0 N, TL.impl_TableOK_l2 N]) H.impl_TableOK Try.f19 (E.impl_TableOK_a.to d).1 (E.impl_TableOK_a.to d).2 k =
      F.impl_TableOK N d.1.1.1 d.1.1.2.1 d.1.1.2.2.1 d.1.1.2.2.2.1 d.1.1.2.2.2.2.1 d.1.1.2.2.2.2.2.1 d.1.1.2.2.2.2.2.2.1 d.1.1.2.2.2.2.2.2.2.1 fun x0 => k (E.impl_TableOK_r.to (x0, ((), ()))).1 (E.impl_TableOK_r.to (x0, ((), ()))).2.1 (E.impl_TableOK_r.to (x0, ((), ()))).2.2 := by kernel_rfl
theorem TK.impl_TableOK {R : Type} (N : Nat) : EntryOk Try.prog (T.impl_TableOK (R := R) N) :=
  entry_fun (h := H.impl_TableOK) hC hm (table_cons (TK.impl_DfaOK N) table_nil) WF.f19 (fun d => (ltable_cons (LK.impl_TableOK_l0 N) (ltable_cons (LK.impl_TableOK_l2 N) ltable_nil))) fun d k =>
    (congrArg (fun z => F.impl_TableOK N d.1.1.1 d.1.1.2.1 d.1.1.2.2.1 d.1.1.2.2.2.1 d.1.1.2.2.2.2.1 d.1.1.2.2.2.2.2.1 d.1.1.2.2.2.2.2.2.1 d.1.1.2.2.2.2.2.2.2.1 z) (funext fun x0 => (via_to E.impl_TableOK_r k (x0, ((), ()))).symm)).trans (F.impl_TableOK_ok N d (fun v fin new => via E.impl_TableOK_r k (v, fin, new))).symm

/-! ### loop.example/s0007/laws.eqIntS: function 54 -/
abbrev E.laws_eqIntS_l0_i : Enc St := Enc.st 0 (Enc.all [(Enc.key 0 (Enc.ro 0 (.int .i64))), (Enc.key 1 (Enc.ro 0 (.int .i64))), (Enc.key 5 (Enc.int .i64))]) (Enc.all [])
abbrev E.laws_eqIntS_l0_oe0 : Enc St := Enc.st 0 (Enc.all [(Enc.key 4 Enc.un)]) (Enc.all [])
abbrev E.laws_eqIntS_l0_oret : Enc St := Enc.st 0 (Enc.all [(Enc.key 4 Enc.bool)]) (Enc.all [])
abbrev E.laws_eqIntS_a : Enc (List AV × List Blk) := Enc.both (Enc.vals [(Enc.ro 0 (.int .i64)), (Enc.ro 0 (.int .i64))]) (Enc.all [])
abbrev E.laws_eqIntS_r : Enc (AV × List (Option Blk) × List Blk) := Enc.both Enc.bool (Enc.both (Enc.all []) (Enc.all []))
def T.laws_eqIntS {R : Type} (N : Nat) : Entry R := { f := 54, arg := E.laws_eqIntS_a, res := E.laws_eqIntS_r, fn := fun d k => F.laws_eqIntS N d.1.1 d.1.2.1 fun x0 => k (x0, ((), ())) }
def H.laws_eqIntS : Hint := [(0, [0, 1, 5], [4])]
theorem WF.f54 : FnWf Try.prog 54 Try.f54 := fnWf_of Try.func54 (by decide) (by kernel_rfl)
theorem F.laws_eqIntS_l0_ok {R : Type} (N : Nat) (d : E.laws_eqIntS_l0_i.D) (next : St → Option R) (out : Ex → St → Option R) :
    stepE cfg (table []) (ltable []) 0 H.laws_eqIntS 0 (bodyOf Try.f54 0) [0, 1, 5] [4] (E.laws_eqIntS_l0_i.to d) next out =
      F.laws_eqIntS_l0_s N d.1.1 d.1.2.1 d.1.2.2.1 (fun x0 x1 x2 => next (E.laws_eqIntS_l0_i.to ((x0, (x1, (x2, ()))), ()))) (fun _ => out (.exit 0) (E.laws_eqIntS_l0_oe0.to (((), ()), ()))) (fun y0 => out .ret (E.laws_eqIntS_l0_oret.to ((y0, ()), ()))) := by kernel_rfl
def G.laws_eqIntS_l0 {R : Type} (N n : Nat) (d : E.laws_eqIntS_l0_i.D) (k : Ex → St → Option R) : Option R := F.laws_eqIntS_l0 N n d.1.1 d.1.2.1 d.1.2.2.1 (fun _ => k (.exit 0) (E.laws_eqIntS_l0_oe0.to (((), ()), ()))) (fun y0 => k .ret (E.laws_eqIntS_l0_oret.to ((y0, ()), ())))
def TL.laws_eqIntS_l0 {R : Type} (N : Nat) : LEntry R := { b := 0, st := E.laws_eqIntS_l0_i, fn := fun d k => G.laws_eqIntS_l0 N N d k }
theorem GS.laws_eqIntS_l0 {R : Type} (N n : Nat) (d : E.laws_eqIntS_l0_i.D) (k : Ex → St → Option R) : G.laws_eqIntS_l0 N (n + 1) d k =
    stepE cfg (table []) (ltable []) 0 H.laws_eqIntS 0 (bodyOf Try.f54 0) [0, 1, 5] [4] (E.laws_eqIntS_l0_i.to d) (via E.laws_eqIntS_l0_i fun e => G.laws_eqIntS_l0 N n e k) k :=
  (show G.laws_eqIntS_l0 N (n + 1) d k = F.laws_eqIntS_l0_s N d.1.1 d.1.2.1 d.1.2.2.1 (fun x0 x1 x2 => F.laws_eqIntS_l0 N n x0 x1 x2 (fun _ => k (.exit 0) (E.laws_eqIntS_l0_oe0.to (((), ()), ()))) (fun y0 => k .ret (E.laws_eqIntS_l0_oret.to ((y0, ()), ())))) (fun _ => k (.exit 0) (E.laws_eqIntS_l0_oe0.to (((), ()), ()))) (fun y0 => k .ret (E.laws_eqIntS_l0_oret.to ((y0, ()), ()))) from rfl).trans
    ((congrArg (fun z => F.laws_eqIntS_l0_s N d.1.1 d.1.2.1 d.1.2.2.1 z (fun _ => k (.exit 0) (E.laws_eqIntS_l0_oe0.to (((), ()), ()))) (fun y0 => k .ret (E.laws_eqIntS_l0_oret.to ((y0, ()), ())))) (funext fun x0 => funext fun x1 => funext fun x2 => (via_to E.laws_eqIntS_l0_i (fun e => G.laws_eqIntS_l0 N n e k) ((x0, (x1, (x2, ()))), ())).symm)).trans (F.laws_eqIntS_l0_ok N d (via E.laws_eqIntS_l0_i fun e => G.laws_eqIntS_l0 N n e k) k).symm)
theorem LK.laws_eqIntS_l0 {R : Type} (N : Nat) : LEntryOk Try.prog 0 Try.f54.ntmps (bodyOf Try.f54) (TL.laws_eqIntS_l0 (R := R) N) :=
  lentry_fun (i := [0, 1, 5]) (o := [4]) (h := H.laws_eqIntS) hC hm table_nil WF.f54 ltable_nil (fun d => uniq_of rfl) (fun n d k => G.laws_eqIntS_l0 N n d k) N (fun _ _ => rfl) (fun _ _ => rfl) (fun n d k => GS.laws_eqIntS_l0 N n d k)
theorem F.laws_eqIntS_ok {R : Type} (N : Nat) (d : E.laws_eqIntS_a.D) (k : AV → List (Option Blk) → List Blk → Option R) :
    funE cfg (table []) (ltable [TL.laws_eqIntS_l0 N]) H.laws_eqIntS Try.f54 (E.laws_eqIntS_a.to d).1 (E.laws_eqIntS_a.to d).2 k =
      F.laws_eqIntS N d.1.1 d.1.2.1 fun x0 => k (E.laws_eqIntS_r.to (x0, ((), ()))).1 (E.laws_eqIntS_r.to (x0, ((), ()))).2.1 (E.laws_eqIntS_r.to (x0, ((), ()))).2.2 := by kernel_rfl
theorem TK.laws_eqIntS {R : Type} (N : Nat) : EntryOk Try.prog (T.laws_eqIntS (R := R) N) :=
  entry_fun (h := H.laws_eqIntS) hC hm table_nil WF.f54 (fun d => (ltable_cons (LK.laws_eqIntS_l0 N) ltable_nil)) fun d k =>
    (congrArg (fun z => F.laws_eqIntS N d.1.1 d.1.2.1 z) (funext fun x0 => (via_to E.laws_eqIntS_r k (x0, ((), ()))).symm)).trans (F.laws_eqIntS_ok N d (fun v fin new => via E.laws_eqIntS_r k (v, fin, new))).symm

/-! ### loop.example/s0007/laws.eqTable: function 20 -/
abbrev E.laws_eqTable_a : Enc (List AV × List Blk) := Enc.both (Enc.vals [(Enc.agg (Enc.vals [(Enc.ro 0 (.int .i64)), (Enc.int .i64), (Enc.ro 0 (.int .i64)), (Enc.ro 0 (.int .i64)), (Enc.ro 0 (.int .i64)), (Enc.ro 0 (.int .i64)), (Enc.ro 0 (.int .i64)), (Enc.ro 0 (.int .i64))])), (Enc.agg (Enc.vals [(Enc.ro 0 (.int .i64)), (Enc.int .i64), (Enc.ro 0 (.int .i64)), (Enc.ro 0 (.int .i64)), (Enc.ro 0 (.int .i64)), (Enc.ro 0 (.int .i64)), (Enc.ro 0 (.int .i64)), (Enc.ro 0 (.int .i64))]))]) (Enc.all [])
abbrev E.laws_eqTable_r : Enc (AV × List (Option Blk) × List Blk) := Enc.both Enc.bool (Enc.both (Enc.all []) (Enc.all []))
def T.laws_eqTable {R : Type} (N : Nat) : Entry R := { f := 20, arg := E.laws_eqTable_a, res := E.laws_eqTable_r, fn := fun d k => F.laws_eqTable N d.1.1.1 d.1.1.2.1 d.1.1.2.2.1 d.1.1.2.2.2.1 d.1.1.2.2.2.2.1 d.1.1.2.2.2.2.2.1 d.1.1.2.2.2.2.2.2.1 d.1.1.2.2.2.2.2.2.2.1 d.1.2.1.1 d.1.2.1.2.1 d.1.2.1.2.2.1 d.1.2.1.2.2.2.1 d.1.2.1.2.2.2.2.1 d.1.2.1.2.2.2.2.2.1 d.1.2.1.2.2.2.2.2.2.1 d.1.2.1.2.2.2.2.2.2.2.1 fun x0 => k (x0, ((), ())) }
def H.laws_eqTable : Hint := []
theorem WF.f20 : FnWf Try.prog 20 Try.f20 := fnWf_of Try.func20 (by decide) (by kernel_rfl)
theorem F.laws_eqTable_ok {R : Type} (N : Nat) (d : E.laws_eqTable_a.D) (k : AV → List (Option Blk) → List Blk → Option R) :
    funE cfg (table [T.laws_eqIntS N]) (ltable []) H.laws_eqTable Try.f20 (E.laws_eqTable_a.to d).1 (E.laws_eqTable_a.to d).2 k =
      F.laws_eqTable N d.1.1.1 d.1.1.2.1 d.1.1.2.2.1 d.1.1.2.2.2.1 d.1.1.2.2.2.2.1 d.1.1.2.2.2.2.2.1 d.1.1.2.2.2.2.2.2.1 d.1.1.2.2.2.2.2.2.2.1 d.1.2.1.1 d.1.2.1.2.1 d.1.2.1.2.2.1 d.1.2.1.2.2.2.1 d.1.2.1.2.2.2.2.1 d.1.2.1.2.2.2.2.2.1 d.1.2.1.2.2.2.2.2.2.1 d.1.2.1.2.2.2.2.2.2.2.1 fun x0 => k (E.laws_eqTable_r.to (x0, ((), ()))).1 (E.laws_eqTable_r.to (x0, ((), ()))).2.1 (E.laws_eqTable_r.to (x0, ((), ()))).2.2 := by kernel_rfl
theorem TK.laws_eqTable {R : Type} (N : Nat) : EntryOk Try.prog (T.laws_eqTable (R := R) N) :=
  entry_fun (h := H.laws_eqTable) hC hm (table_cons (TK.laws_eqIntS N) table_nil) WF.f20 (fun d => ltable_nil) fun d k =>
    (congrArg (fun z => F.laws_eqTable N d.1.1.1 d.1.1.2.1 d.1.1.2.2.1 d.1.1.2.2.2.1 d.1.1.2.2.2.2.1 d.1.1.2.2.2.2.2.1 d.1.1.2.2.2.2.2.2.1 d.1.1.2.2.2.2.2.2.2.1 d.1.2.1.1 d.1.2.1.2.1 d.1.2.1.2.2.1 d.1.2.1.2.2.2.1 d.1.2.1.2.2.2.2.1 d.1.2.1.2.2.2.2.2.1 d.1.2.1.2.2.2.2.2.2.1 d.1.2.1.2.2.2.2.2.2.2.1 z) (funext fun x0 => (via_to E.laws_eqTable_r k (x0, ((), ()))).symm)).trans (F.laws_eqTable_ok N d (fun v fin new => via E.laws_eqTable_r k (v, fin, new))).symm

/-! ### loop.example/s0007/laws.FnExactTableOK: function 4 -/
abbrev E.laws_FnExactTableOK_a : Enc (List AV × List Blk) := Enc.both (Enc.vals [(Enc.agg (Enc.vals [(Enc.ro 0 (.int .i64)), (Enc.int .i64), (Enc.ro 0 (.int .i64)), (Enc.ro 0 (.int .i64)), (Enc.ro 0 (.int .i64)), (Enc.ro 0 (.int .i64)), (Enc.ro 0 (.int .i64)), (Enc.ro 0 (.int .i64))]))]) (Enc.all [])
abbrev E.laws_FnExactTableOK_r : Enc (AV × List (Option Blk) × List Blk) := Enc.both Enc.bool (Enc.both (Enc.all []) (Enc.all []))
def T.laws_FnExactTableOK {R : Type} (N : Nat) : Entry R := { f := 4, arg := E.laws_FnExactTableOK_a, res := E.laws_FnExactTableOK_r, fn := fun d k => F.laws_FnExactTableOK N d.1.1.1 d.1.1.2.1 d.1.1.2.2.1 d.1.1.2.2.2.1 d.1.1.2.2.2.2.1 d.1.1.2.2.2.2.2.1 d.1.1.2.2.2.2.2.2.1 d.1.1.2.2.2.2.2.2.2.1 fun x0 => k (x0, ((), ())) }
def H.laws_FnExactTableOK : Hint := []
theorem WF.f4 : FnWf Try.prog 4 Try.f4 := fnWf_of Try.func4 (by decide) (by kernel_rfl)
theorem F.laws_FnExactTableOK_ok {R : Type} (N : Nat) (d : E.laws_FnExactTableOK_a.D) (k : AV → List (Option Blk) → List Blk → Option R) :
    funE cfg (table [T.laws_szTable, T.laws_toTable N, T.spec_TableOK N, T.impl_TableOK N, T.laws_eqTable N]) (ltable []) H.laws_FnExactTableOK Try.f4 (E.laws_FnExactTableOK_a.to d).1 (E.laws_FnExactTableOK_a.to d).2 k =
      F.laws_FnExactTableOK N d.1.1.1 d.1.1.2.1 d.1.1.2.2.1 d.1.1.2.2.2.1 d.1.1.2.2.2.2.1 d.1.1.2.2.2.2.2.1 d.1.1.2.2.2.2.2.2.1 d.1.1.2.2.2.2.2.2.2.1 fun x0 => k (E.laws_FnExactTableOK_r.to (x0, ((), ()))).1 (E.laws_FnExactTableOK_r.to (x0, ((), ()))).2.1 (E.laws_FnExactTableOK_r.to (x0, ((), ()))).2.2 := by kernel_rfl
theorem TK.laws_FnExactTableOK {R : Type} (N : Nat) : EntryOk Try.prog (T.laws_FnExactTableOK (R := R) N) :=
  entry_fun (h := H.laws_FnExactTableOK) hC hm (table_cons TK.laws_szTable (table_cons (TK.laws_toTable N) (table_cons (TK.spec_TableOK N) (table_cons (TK.impl_TableOK N) (table_cons (TK.laws_eqTable N) table_nil))))) WF.f4 (fun d => ltable_nil) fun d k =>
    (congrArg (fun z => F.laws_FnExactTableOK N d.1.1.1 d.1.1.2.1 d.1.1.2.2.1 d.1.1.2.2.2.1 d.1.1.2.2.2.2.1 d.1.1.2.2.2.2.2.1 d.1.1.2.2.2.2.2.2.1 d.1.1.2.2.2.2.2.2.2.1 z) (funext fun x0 => (via_to E.laws_FnExactTableOK_r k (x0, ((), ()))).symm)).trans (F.laws_FnExactTableOK_ok N d (fun v fin new => via E.laws_FnExactTableOK_r k (v, fin, new))).symm
end Go.Proofs.Ytgmgmgcjkalanaa.fnExactTableOK
