/- These plain functions are what the Go functions answer. -/
import Derived.Test.YtioegjpinjigkaaEc
import Derived.Test.YtioegjpinjigkaaFdFnExactRunDfa
import Derived.Test.YtioegjpinjigkaaChecked
import Derived.KernelRfl
import Derived.Eval
set_option maxRecDepth 100000
set_option linter.unusedVariables false
namespace Go.Proofs.Ytioegjpinjigkaa.fnExactRunDfa
open Go.Ev
def cfg : Cfg := { ty := [
  (3, { sz := 1, cls := 0, offs := [], elem := 0, alen := 0, bytes := 8, zero := [.int .i64 0], ki := some (.int .i64) }),
  (5, { sz := 1, cls := 0, offs := [], elem := 0, alen := 0, bytes := 1, zero := [.int .u8 0], ki := some (.int .u8) }),
  (9, { sz := 1, cls := 0, offs := [], elem := 0, alen := 0, bytes := 16, zero := [.str []], ki := some .str }),
  (36, { sz := 1, cls := 0, offs := [], elem := 3, alen := 0, bytes := 24, zero := [.nz (.int .i64)], ki := some (.lst (.int .i64)) }),
  (38, { sz := 5, cls := 1, offs := [0, 1, 2, 3, 4], elem := 0, alen := 0, bytes := 104, zero := [.nz (.int .i64), .int .i64 0, .nz (.int .i64), .nz (.int .i64), .nz (.int .i64)], ki := some (.pair (.lst (.int .i64)) (.pair (.int .i64) (.pair (.lst (.int .i64)) (.pair (.lst (.int .i64)) (.lst (.int .i64)))))) }),
  (41, { sz := 5, cls := 1, offs := [0, 1, 2, 3, 4], elem := 0, alen := 0, bytes := 104, zero := [.nz (.int .i64), .int .i64 0, .nz (.int .i64), .nz (.int .i64), .nz (.int .i64)], ki := some (.pair (.lst (.int .i64)) (.pair (.int .i64) (.pair (.lst (.int .i64)) (.pair (.lst (.int .i64)) (.lst (.int .i64)))))) })], wr := [] }
theorem hC : cfgOk Try.prog cfg = true := by kernel_rfl
theorem hm : Try.prog.follows .mixedOrders = true := Checked.mixed Try.checked

/-! ### loop.example/s0007/laws.szIntS: function 28 -/
abbrev E.laws_szIntS_a : Enc (List AV × List Blk) := Enc.both (Enc.vals [(Enc.ro 0 (.int .i64)), (Enc.int .i64)]) (Enc.all [])
abbrev E.laws_szIntS_r : Enc (AV × List (Option Blk) × List Blk) := Enc.both (Enc.int .i64) (Enc.both (Enc.all []) (Enc.all []))
def T.laws_szIntS {R : Type} : Entry R := { f := 28, arg := E.laws_szIntS_a, res := E.laws_szIntS_r, fn := fun d k => F.laws_szIntS d.1.1 d.1.2.1 fun x0 => k (x0, ((), ())) }
def H.laws_szIntS : Hint := []
theorem WF.f28 : FnWf Try.prog 28 Try.f28 := fnWf_of Try.func28 (by decide) (by kernel_rfl)
theorem F.laws_szIntS_ok {R : Type} (d : E.laws_szIntS_a.D) (k : AV → List (Option Blk) → List Blk → Option R) :
    funE cfg (table []) (ltable []) H.laws_szIntS Try.f28 (E.laws_szIntS_a.to d).1 (E.laws_szIntS_a.to d).2 k =
      F.laws_szIntS d.1.1 d.1.2.1 fun x0 => k (E.laws_szIntS_r.to (x0, ((), ()))).1 (E.laws_szIntS_r.to (x0, ((), ()))).2.1 (E.laws_szIntS_r.to (x0, ((), ()))).2.2 := by kernel_rfl
theorem TK.laws_szIntS {R : Type} : EntryOk Try.prog (T.laws_szIntS (R := R)) :=
  entry_fun (h := H.laws_szIntS) hC hm table_nil WF.f28 (fun d => ltable_nil) fun d k =>
    (congrArg (fun z => F.laws_szIntS d.1.1 d.1.2.1 z) (funext fun x0 => (via_to E.laws_szIntS_r k (x0, ((), ()))).symm)).trans (F.laws_szIntS_ok d (fun v fin new => via E.laws_szIntS_r k (v, fin, new))).symm

/-! ### loop.example/s0007/laws.szDfa: function 18 -/
abbrev E.laws_szDfa_a : Enc (List AV × List Blk) := Enc.both (Enc.vals [(Enc.agg (Enc.vals [(Enc.ro 0 (.int .i64)), (Enc.int .i64), (Enc.ro 0 (.int .i64)), (Enc.ro 0 (.int .i64)), (Enc.ro 0 (.int .i64))])), (Enc.int .i64)]) (Enc.all [])
abbrev E.laws_szDfa_r : Enc (AV × List (Option Blk) × List Blk) := Enc.both (Enc.int .i64) (Enc.both (Enc.all []) (Enc.all []))
def T.laws_szDfa {R : Type} : Entry R := { f := 18, arg := E.laws_szDfa_a, res := E.laws_szDfa_r, fn := fun d k => F.laws_szDfa d.1.1.1 d.1.1.2.1 d.1.1.2.2.1 d.1.1.2.2.2.1 d.1.1.2.2.2.2.1 d.1.2.1 fun x0 => k (x0, ((), ())) }
def H.laws_szDfa : Hint := []
theorem WF.f18 : FnWf Try.prog 18 Try.f18 := fnWf_of Try.func18 (by decide) (by kernel_rfl)
theorem F.laws_szDfa_ok {R : Type} (d : E.laws_szDfa_a.D) (k : AV → List (Option Blk) → List Blk → Option R) :
    funE cfg (table [T.laws_szIntS]) (ltable []) H.laws_szDfa Try.f18 (E.laws_szDfa_a.to d).1 (E.laws_szDfa_a.to d).2 k =
      F.laws_szDfa d.1.1.1 d.1.1.2.1 d.1.1.2.2.1 d.1.1.2.2.2.1 d.1.1.2.2.2.2.1 d.1.2.1 fun x0 => k (E.laws_szDfa_r.to (x0, ((), ()))).1 (E.laws_szDfa_r.to (x0, ((), ()))).2.1 (E.laws_szDfa_r.to (x0, ((), ()))).2.2 := by kernel_rfl
theorem TK.laws_szDfa {R : Type} : EntryOk Try.prog (T.laws_szDfa (R := R)) :=
  entry_fun (h := H.laws_szDfa) hC hm (table_cons TK.laws_szIntS table_nil) WF.f18 (fun d => ltable_nil) fun d k =>
    (congrArg (fun z => F.laws_szDfa d.1.1.1 d.1.1.2.1 d.1.1.2.2.1 d.1.1.2.2.2.1 d.1.1.2.2.2.2.1 d.1.2.1 z) (funext fun x0 => (via_to E.laws_szDfa_r k (x0, ((), ()))).symm)).trans (F.laws_szDfa_ok d (fun v fin new => via E.laws_szDfa_r k (v, fin, new))).symm

/-! ### loop.example/s0007/laws.toIntS: function 30 -/
abbrev E.laws_toIntS_l0_i : Enc St := Enc.st 1 (Enc.all [(Enc.key 0 (Enc.ro 0 (.int .i64))), (Enc.key 3 (Enc.sl 0)), (Enc.key 4 (Enc.int .i64))]) (Enc.all [(Enc.key 0 (Enc.cell (Enc.vals [(Enc.rw (.int .i64))])))])
abbrev E.laws_toIntS_l0_oe0 : Enc St := Enc.st 1 (Enc.all [(Enc.key 3 (Enc.sl 0))]) (Enc.all [(Enc.key 0 (Enc.cell (Enc.vals [(Enc.rw (.int .i64))])))])
abbrev E.laws_toIntS_a : Enc (List AV × List Blk) := Enc.both (Enc.vals [(Enc.ro 0 (.int .i64))]) (Enc.all [])
abbrev E.laws_toIntS_r : Enc (AV × List (Option Blk) × List Blk) := Enc.both (Enc.sl 0) (Enc.both (Enc.all []) (Enc.all [(Enc.cell (Enc.vals [(Enc.rw (.int .i64))]))]))
def T.laws_toIntS {R : Type} (N : Nat) : Entry R := { f := 30, arg := E.laws_toIntS_a, res := E.laws_toIntS_r, fn := fun d k => F.laws_toIntS N d.1.1 fun x0 => k ((), ((), ((x0, ()), ()))) }
def H.laws_toIntS : Hint := [(0, [0, 3, 4], [3])]
theorem WF.f30 : FnWf Try.prog 30 Try.f30 := fnWf_of Try.func30 (by decide) (by kernel_rfl)
theorem F.laws_toIntS_l0_ok {R : Type} (N : Nat) (d : E.laws_toIntS_l0_i.D) (next : St → Option R) (out : Ex → St → Option R) :
    stepE cfg (table []) (ltable []) 0 H.laws_toIntS 0 (bodyOf Try.f30 0) [0, 3, 4] [3] (E.laws_toIntS_l0_i.to d) next out =
      F.laws_toIntS_l0_s N d.1.1 d.1.2.2.1 d.2.1.1 (fun x0 x1 x2 => next (E.laws_toIntS_l0_i.to ((x0, ((), (x1, ()))), ((x2, ()), ())))) (fun y0 => out (.exit 0) (E.laws_toIntS_l0_oe0.to (((), ()), ((y0, ()), ())))) := by kernel_rfl
def TL.laws_toIntS_l0 {R : Type} (N : Nat) : LEntry R := { b := 0, st := E.laws_toIntS_l0_i, fn := fun d k => F.laws_toIntS_l0 N N d.1.1 d.1.2.2.1 d.2.1.1 (fun y0 => k (.exit 0) (E.laws_toIntS_l0_oe0.to (((), ()), ((y0, ()), ())))) }
theorem LK.laws_toIntS_l0 {R : Type} (N : Nat) : LEntryOk Try.prog 0 Try.f30.ntmps (bodyOf Try.f30) (TL.laws_toIntS_l0 (R := R) N) :=
  lentry_fun (i := [0, 3, 4]) (o := [3]) (h := H.laws_toIntS) hC hm table_nil WF.f30 ltable_nil (fun d => uniq_of rfl) (fun n d k => F.laws_toIntS_l0 N n d.1.1 d.1.2.2.1 d.2.1.1 (fun y0 => k (.exit 0) (E.laws_toIntS_l0_oe0.to (((), ()), ((y0, ()), ()))))) N (fun _ _ => rfl) (fun _ _ => rfl) fun n d k =>
    (congrArg (fun z => F.laws_toIntS_l0_s N d.1.1 d.1.2.2.1 d.2.1.1 z (fun y0 => k (.exit 0) (E.laws_toIntS_l0_oe0.to (((), ()), ((y0, ()), ()))))) (funext fun x0 => funext fun x1 => funext fun x2 => (via_to E.laws_toIntS_l0_i _ ((x0, ((), (x1, ()))), ((x2, ()), ()))).symm)).trans (F.laws_toIntS_l0_ok N d (via E.laws_toIntS_l0_i fun d => F.laws_toIntS_l0 N n d.1.1 d.1.2.2.1 d.2.1.1 (fun y0 => k (.exit 0) (E.laws_toIntS_l0_oe0.to (((), ()), ((y0, ()), ()))))) k).symm
theorem F.laws_toIntS_ok {R : Type} (N : Nat) (d : E.laws_toIntS_a.D) (k : AV → List (Option Blk) → List Blk → Option R) :
    funE cfg (table []) (ltable [TL.laws_toIntS_l0 N]) H.laws_toIntS Try.f30 (E.laws_toIntS_a.to d).1 (E.laws_toIntS_a.to d).2 k =
      F.laws_toIntS N d.1.1 fun x0 => k (E.laws_toIntS_r.to ((), ((), ((x0, ()), ())))).1 (E.laws_toIntS_r.to ((), ((), ((x0, ()), ())))).2.1 (E.laws_toIntS_r.to ((), ((), ((x0, ()), ())))).2.2 := by kernel_rfl
theorem TK.laws_toIntS {R : Type} (N : Nat) : EntryOk Try.prog (T.laws_toIntS (R := R) N) :=
  entry_fun (h := H.laws_toIntS) hC hm table_nil WF.f30 (fun d => (ltable_cons (LK.laws_toIntS_l0 N) ltable_nil)) fun d k =>
    (congrArg (fun z => F.laws_toIntS N d.1.1 z) (funext fun x0 => (via_to E.laws_toIntS_r k ((), ((), ((x0, ()), ())))).symm)).trans (F.laws_toIntS_ok N d (fun v fin new => via E.laws_toIntS_r k (v, fin, new))).symm

/-! ### loop.example/s0007/laws.toDfa: function 20 -/
abbrev E.laws_toDfa_a : Enc (List AV × List Blk) := Enc.both (Enc.vals [(Enc.agg (Enc.vals [(Enc.ro 0 (.int .i64)), (Enc.int .i64), (Enc.ro 0 (.int .i64)), (Enc.ro 0 (.int .i64)), (Enc.ro 0 (.int .i64))]))]) (Enc.all [])
abbrev E.laws_toDfa_r : Enc (AV × List (Option Blk) × List Blk) := Enc.both (Enc.agg (Enc.vals [(Enc.sl 0), (Enc.int .i64), (Enc.sl 1), (Enc.sl 2), (Enc.sl 3)])) (Enc.both (Enc.all []) (Enc.all [(Enc.cell (Enc.vals [(Enc.rw (.int .i64))])), (Enc.cell (Enc.vals [(Enc.rw (.int .i64))])), (Enc.cell (Enc.vals [(Enc.rw (.int .i64))])), (Enc.cell (Enc.vals [(Enc.rw (.int .i64))]))]))
def T.laws_toDfa {R : Type} (N : Nat) : Entry R := { f := 20, arg := E.laws_toDfa_a, res := E.laws_toDfa_r, fn := fun d k => F.laws_toDfa N d.1.1.1 d.1.1.2.1 d.1.1.2.2.1 d.1.1.2.2.2.1 d.1.1.2.2.2.2.1 fun x0 x1 x2 x3 x4 => k (((), (x0, ((), ((), ((), ()))))), ((), ((x1, ()), ((x2, ()), ((x3, ()), ((x4, ()), ())))))) }
def H.laws_toDfa : Hint := []
theorem WF.f20 : FnWf Try.prog 20 Try.f20 := fnWf_of Try.func20 (by decide) (by kernel_rfl)
theorem F.laws_toDfa_ok {R : Type} (N : Nat) (d : E.laws_toDfa_a.D) (k : AV → List (Option Blk) → List Blk → Option R) :
    funE cfg (table [T.laws_toIntS N]) (ltable []) H.laws_toDfa Try.f20 (E.laws_toDfa_a.to d).1 (E.laws_toDfa_a.to d).2 k =
      F.laws_toDfa N d.1.1.1 d.1.1.2.1 d.1.1.2.2.1 d.1.1.2.2.2.1 d.1.1.2.2.2.2.1 fun x0 x1 x2 x3 x4 => k (E.laws_toDfa_r.to (((), (x0, ((), ((), ((), ()))))), ((), ((x1, ()), ((x2, ()), ((x3, ()), ((x4, ()), ()))))))).1 (E.laws_toDfa_r.to (((), (x0, ((), ((), ((), ()))))), ((), ((x1, ()), ((x2, ()), ((x3, ()), ((x4, ()), ()))))))).2.1 (E.laws_toDfa_r.to (((), (x0, ((), ((), ((), ()))))), ((), ((x1, ()), ((x2, ()), ((x3, ()), ((x4, ()), ()))))))).2.2 := by kernel_rfl
theorem TK.laws_toDfa {R : Type} (N : Nat) : EntryOk Try.prog (T.laws_toDfa (R := R) N) :=
  entry_fun (h := H.laws_toDfa) hC hm (table_cons (TK.laws_toIntS N) table_nil) WF.f20 (fun d => ltable_nil) fun d k =>
    (congrArg (fun z => F.laws_toDfa N d.1.1.1 d.1.1.2.1 d.1.1.2.2.1 d.1.1.2.2.2.1 d.1.1.2.2.2.2.1 z) (funext fun x0 => funext fun x1 => funext fun x2 => funext fun x3 => funext fun x4 => (via_to E.laws_toDfa_r k (((), (x0, ((), ((), ((), ()))))), ((), ((x1, ()), ((x2, ()), ((x3, ()), ((x4, ()), ()))))))).symm)).trans (F.laws_toDfa_ok N d (fun v fin new => via E.laws_toDfa_r k (v, fin, new))).symm

/-! ### loop.example/s0007/spec.l1Between: function 25 -/
abbrev E.spec_l1Between_a : Enc (List AV × List Blk) := Enc.both (Enc.vals [(Enc.int .i64), (Enc.int .i64), (Enc.int .i64)]) (Enc.all [])
abbrev E.spec_l1Between_r : Enc (AV × List (Option Blk) × List Blk) := Enc.both Enc.bool (Enc.both (Enc.all []) (Enc.all []))
def T.spec_l1Between {R : Type} : Entry R := { f := 25, arg := E.spec_l1Between_a, res := E.spec_l1Between_r, fn := fun d k => F.spec_l1Between d.1.1 d.1.2.1 d.1.2.2.1 fun x0 => k (x0, ((), ())) }
def H.spec_l1Between : Hint := []
theorem WF.f25 : FnWf Try.prog 25 Try.f25 := fnWf_of Try.func25 (by decide) (by kernel_rfl)
theorem F.spec_l1Between_ok {R : Type} (d : E.spec_l1Between_a.D) (k : AV → List (Option Blk) → List Blk → Option R) :
    funE cfg (table []) (ltable []) H.spec_l1Between Try.f25 (E.spec_l1Between_a.to d).1 (E.spec_l1Between_a.to d).2 k =
      F.spec_l1Between d.1.1 d.1.2.1 d.1.2.2.1 fun x0 => k (E.spec_l1Between_r.to (x0, ((), ()))).1 (E.spec_l1Between_r.to (x0, ((), ()))).2.1 (E.spec_l1Between_r.to (x0, ((), ()))).2.2 := by kernel_rfl
theorem TK.spec_l1Between {R : Type} : EntryOk Try.prog (T.spec_l1Between (R := R)) :=
  entry_fun (h := H.spec_l1Between) hC hm table_nil WF.f25 (fun d => ltable_nil) fun d k =>
    (congrArg (fun z => F.spec_l1Between d.1.1 d.1.2.1 d.1.2.2.1 z) (funext fun x0 => (via_to E.spec_l1Between_r k (x0, ((), ()))).symm)).trans (F.spec_l1Between_ok d (fun v fin new => via E.spec_l1Between_r k (v, fin, new))).symm

/-! ### loop.example/s0007/spec.l2All: function 29 -/
abbrev E.spec_l2All_l0_i : Enc St := Enc.st 0 (Enc.all [(Enc.key 1 (Enc.int .i64)), (Enc.key 2 (Enc.int .i64)), (Enc.key 9 (Enc.ro 0 (.int .i64))), (Enc.key 10 (Enc.int .i64)), (Enc.key 11 (Enc.int .i64))]) (Enc.all [])
abbrev E.spec_l2All_l0_oe0 : Enc St := Enc.st 0 (Enc.all [(Enc.key 6 Enc.un)]) (Enc.all [])
abbrev E.spec_l2All_l0_oret : Enc St := Enc.st 0 (Enc.all [(Enc.key 6 Enc.bool)]) (Enc.all [])
abbrev E.spec_l2All_a : Enc (List AV × List Blk) := Enc.both (Enc.vals [(Enc.ro 0 (.int .i64)), (Enc.int .i64), (Enc.int .i64)]) (Enc.all [])
abbrev E.spec_l2All_r : Enc (AV × List (Option Blk) × List Blk) := Enc.both Enc.bool (Enc.both (Enc.all []) (Enc.all []))
def T.spec_l2All {R : Type} (N : Nat) : Entry R := { f := 29, arg := E.spec_l2All_a, res := E.spec_l2All_r, fn := fun d k => F.spec_l2All N d.1.1 d.1.2.1 d.1.2.2.1 fun x0 => k (x0, ((), ())) }
def H.spec_l2All : Hint := [(0, [1, 2, 9, 10, 11], [6])]
theorem WF.f29 : FnWf Try.prog 29 Try.f29 := fnWf_of Try.func29 (by decide) (by kernel_rfl)
theorem F.spec_l2All_l0_ok {R : Type} (N : Nat) (d : E.spec_l2All_l0_i.D) (next : St → Option R) (out : Ex → St → Option R) :
    stepE cfg (table [T.spec_l1Between]) (ltable []) 0 H.spec_l2All 0 (bodyOf Try.f29 0) [1, 2, 9, 10, 11] [6] (E.spec_l2All_l0_i.to d) next out =
      F.spec_l2All_l0_s N d.1.1 d.1.2.1 d.1.2.2.1 d.1.2.2.2.1 d.1.2.2.2.2.1 (fun x0 x1 x2 x3 x4 => next (E.spec_l2All_l0_i.to ((x0, (x1, (x2, (x3, (x4, ()))))), ()))) (fun _ => out (.exit 0) (E.spec_l2All_l0_oe0.to (((), ()), ()))) (fun y0 => out .ret (E.spec_l2All_l0_oret.to ((y0, ()), ()))) := by kernel_rfl
def TL.spec_l2All_l0 {R : Type} (N : Nat) : LEntry R := { b := 0, st := E.spec_l2All_l0_i, fn := fun d k => F.spec_l2All_l0 N N d.1.1 d.1.2.1 d.1.2.2.1 d.1.2.2.2.1 d.1.2.2.2.2.1 (fun _ => k (.exit 0) (E.spec_l2All_l0_oe0.to (((), ()), ()))) (fun y0 => k .ret (E.spec_l2All_l0_oret.to ((y0, ()), ()))) }
theorem LK.spec_l2All_l0 {R : Type} (N : Nat) : LEntryOk Try.prog 0 Try.f29.ntmps (bodyOf Try.f29) (TL.spec_l2All_l0 (R := R) N) :=
  lentry_fun (i := [1, 2, 9, 10, 11]) (o := [6]) (h := H.spec_l2All) hC hm (table_cons TK.spec_l1Between table_nil) WF.f29 ltable_nil (fun d => uniq_of rfl) (fun n d k => F.spec_l2All_l0 N n d.1.1 d.1.2.1 d.1.2.2.1 d.1.2.2.2.1 d.1.2.2.2.2.1 (fun _ => k (.exit 0) (E.spec_l2All_l0_oe0.to (((), ()), ()))) (fun y0 => k .ret (E.spec_l2All_l0_oret.to ((y0, ()), ())))) N (fun _ _ => rfl) (fun _ _ => rfl) fun n d k =>
    (congrArg (fun z => F.spec_l2All_l0_s N d.1.1 d.1.2.1 d.1.2.2.1 d.1.2.2.2.1 d.1.2.2.2.2.1 z (fun _ => k (.exit 0) (E.spec_l2All_l0_oe0.to (((), ()), ()))) (fun y0 => k .ret (E.spec_l2All_l0_oret.to ((y0, ()), ())))) (funext fun x0 => funext fun x1 => funext fun x2 => funext fun x3 => funext fun x4 => (via_to E.spec_l2All_l0_i _ ((x0, (x1, (x2, (x3, (x4, ()))))), ())).symm)).trans (F.spec_l2All_l0_ok N d (via E.spec_l2All_l0_i fun d => F.spec_l2All_l0 N n d.1.1 d.1.2.1 d.1.2.2.1 d.1.2.2.2.1 d.1.2.2.2.2.1 (fun _ => k (.exit 0) (E.spec_l2All_l0_oe0.to (((), ()), ()))) (fun y0 => k .ret (E.spec_l2All_l0_oret.to ((y0, ()), ())))) k).symm
theorem F.spec_l2All_ok {R : Type} (N : Nat) (d : E.spec_l2All_a.D) (k : AV → List (Option Blk) → List Blk → Option R) :
    funE cfg (table []) (ltable [TL.spec_l2All_l0 N]) H.spec_l2All Try.f29 (E.spec_l2All_a.to d).1 (E.spec_l2All_a.to d).2 k =
      F.spec_l2All N d.1.1 d.1.2.1 d.1.2.2.1 fun x0 => k (E.spec_l2All_r.to (x0, ((), ()))).1 (E.spec_l2All_r.to (x0, ((), ()))).2.1 (E.spec_l2All_r.to (x0, ((), ()))).2.2 := by kernel_rfl
theorem TK.spec_l2All {R : Type} (N : Nat) : EntryOk Try.prog (T.spec_l2All (R := R) N) :=
  entry_fun (h := H.spec_l2All) hC hm table_nil WF.f29 (fun d => (ltable_cons (LK.spec_l2All_l0 N) ltable_nil)) fun d k =>
    (congrArg (fun z => F.spec_l2All N d.1.1 d.1.2.1 d.1.2.2.1 z) (funext fun x0 => (via_to E.spec_l2All_r k (x0, ((), ()))).symm)).trans (F.spec_l2All_ok N d (fun v fin new => via E.spec_l2All_r k (v, fin, new))).symm

/-! ### loop.example/s0007/spec.DfaOK: function 19 -/
abbrev E.spec_DfaOK_a : Enc (List AV × List Blk) := Enc.both (Enc.vals [(Enc.agg (Enc.vals [(Enc.ro 0 (.int .i64)), (Enc.int .i64), (Enc.ro 0 (.int .i64)), (Enc.ro 0 (.int .i64)), (Enc.ro 0 (.int .i64))]))]) (Enc.all [])
abbrev E.spec_DfaOK_r : Enc (AV × List (Option Blk) × List Blk) := Enc.both Enc.bool (Enc.both (Enc.all []) (Enc.all []))
def T.spec_DfaOK {R : Type} (N : Nat) : Entry R := { f := 19, arg := E.spec_DfaOK_a, res := E.spec_DfaOK_r, fn := fun d k => F.spec_DfaOK N d.1.1.1 d.1.1.2.1 d.1.1.2.2.1 d.1.1.2.2.2.1 d.1.1.2.2.2.2.1 fun x0 => k (x0, ((), ())) }
def H.spec_DfaOK : Hint := []
theorem WF.f19 : FnWf Try.prog 19 Try.f19 := fnWf_of Try.func19 (by decide) (by kernel_rfl)
theorem F.spec_DfaOK_ok {R : Type} (N : Nat) (d : E.spec_DfaOK_a.D) (k : AV → List (Option Blk) → List Blk → Option R) :
    funE cfg (table [T.spec_l1Between, T.spec_l2All N]) (ltable []) H.spec_DfaOK Try.f19 (E.spec_DfaOK_a.to d).1 (E.spec_DfaOK_a.to d).2 k =
      F.spec_DfaOK N d.1.1.1 d.1.1.2.1 d.1.1.2.2.1 d.1.1.2.2.2.1 d.1.1.2.2.2.2.1 fun x0 => k (E.spec_DfaOK_r.to (x0, ((), ()))).1 (E.spec_DfaOK_r.to (x0, ((), ()))).2.1 (E.spec_DfaOK_r.to (x0, ((), ()))).2.2 := by kernel_rfl
theorem TK.spec_DfaOK {R : Type} (N : Nat) : EntryOk Try.prog (T.spec_DfaOK (R := R) N) :=
  entry_fun (h := H.spec_DfaOK) hC hm (table_cons TK.spec_l1Between (table_cons (TK.spec_l2All N) table_nil)) WF.f19 (fun d => ltable_nil) fun d k =>
    (congrArg (fun z => F.spec_DfaOK N d.1.1.1 d.1.1.2.1 d.1.1.2.2.1 d.1.1.2.2.2.1 d.1.1.2.2.2.2.1 z) (funext fun x0 => (via_to E.spec_DfaOK_r k (x0, ((), ()))).symm)).trans (F.spec_DfaOK_ok N d (fun v fin new => via E.spec_DfaOK_r k (v, fin, new))).symm

/-! ### loop.example/s0007/spec.l2Go: function 35 -/
abbrev E.spec_l2Go_a : Enc (List AV × List Blk) := Enc.both (Enc.vals [(Enc.agg (Enc.vals [(Enc.ro 0 (.int .i64)), (Enc.int .i64), (Enc.ro 0 (.int .i64)), (Enc.ro 0 (.int .i64)), (Enc.ro 0 (.int .i64))])), (Enc.int .i64), (Enc.int .i64)]) (Enc.all [])
abbrev E.spec_l2Go_r : Enc (AV × List (Option Blk) × List Blk) := Enc.both (Enc.int .i64) (Enc.both (Enc.all []) (Enc.all []))
def T.spec_l2Go {R : Type} : Entry R := { f := 35, arg := E.spec_l2Go_a, res := E.spec_l2Go_r, fn := fun d k => F.spec_l2Go d.1.1.1 d.1.1.2.1 d.1.1.2.2.1 d.1.1.2.2.2.1 d.1.1.2.2.2.2.1 d.1.2.1 d.1.2.2.1 fun x0 => k (x0, ((), ())) }
def H.spec_l2Go : Hint := []
theorem WF.f35 : FnWf Try.prog 35 Try.f35 := fnWf_of Try.func35 (by decide) (by kernel_rfl)
theorem F.spec_l2Go_ok {R : Type} (d : E.spec_l2Go_a.D) (k : AV → List (Option Blk) → List Blk → Option R) :
    funE cfg (table []) (ltable []) H.spec_l2Go Try.f35 (E.spec_l2Go_a.to d).1 (E.spec_l2Go_a.to d).2 k =
      F.spec_l2Go d.1.1.1 d.1.1.2.1 d.1.1.2.2.1 d.1.1.2.2.2.1 d.1.1.2.2.2.2.1 d.1.2.1 d.1.2.2.1 fun x0 => k (E.spec_l2Go_r.to (x0, ((), ()))).1 (E.spec_l2Go_r.to (x0, ((), ()))).2.1 (E.spec_l2Go_r.to (x0, ((), ()))).2.2 := by kernel_rfl
theorem TK.spec_l2Go {R : Type} : EntryOk Try.prog (T.spec_l2Go (R := R)) :=
  entry_fun (h := H.spec_l2Go) hC hm table_nil WF.f35 (fun d => ltable_nil) fun d k =>
    (congrArg (fun z => F.spec_l2Go d.1.1.1 d.1.1.2.1 d.1.1.2.2.1 d.1.1.2.2.2.1 d.1.1.2.2.2.2.1 d.1.2.1 d.1.2.2.1 z) (funext fun x0 => (via_to E.spec_l2Go_r k (x0, ((), ()))).symm)).trans (F.spec_l2Go_ok d (fun v fin new => via E.spec_l2Go_r k (v, fin, new))).symm

/-! ### loop.example/s0007/spec.RunDfa: function 23 -/
abbrev E.spec_RunDfa_l0_i : Enc St := Enc.st 1 (Enc.all [(Enc.key 2 Enc.str), (Enc.key 3 (Enc.pb 0 0)), (Enc.key 7 (Enc.int .i64)), (Enc.key 8 (Enc.int .i64))]) (Enc.all [(Enc.key 0 (Enc.cell (Enc.vals [(Enc.ro 0 (.int .i64)), (Enc.int .i64), (Enc.ro 0 (.int .i64)), (Enc.ro 0 (.int .i64)), (Enc.ro 0 (.int .i64))])))])
abbrev E.spec_RunDfa_l0_oe0 : Enc St := Enc.st 0 (Enc.all [(Enc.key 7 (Enc.int .i64))]) (Enc.all [])
abbrev E.spec_RunDfa_a : Enc (List AV × List Blk) := Enc.both (Enc.vals [(Enc.agg (Enc.vals [(Enc.ro 0 (.int .i64)), (Enc.int .i64), (Enc.ro 0 (.int .i64)), (Enc.ro 0 (.int .i64)), (Enc.ro 0 (.int .i64))])), (Enc.int .i64), Enc.str]) (Enc.all [])
abbrev E.spec_RunDfa_r : Enc (AV × List (Option Blk) × List Blk) := Enc.both (Enc.int .i64) (Enc.both (Enc.all []) (Enc.all []))
def T.spec_RunDfa {R : Type} (N : Nat) : Entry R := { f := 23, arg := E.spec_RunDfa_a, res := E.spec_RunDfa_r, fn := fun d k => F.spec_RunDfa N d.1.1.1 d.1.1.2.1 d.1.1.2.2.1 d.1.1.2.2.2.1 d.1.1.2.2.2.2.1 d.1.2.1 d.1.2.2.1 fun x0 => k (x0, ((), ())) }
def H.spec_RunDfa : Hint := [(0, [2, 3, 7, 8], [7])]
theorem WF.f23 : FnWf Try.prog 23 Try.f23 := fnWf_of Try.func23 (by decide) (by kernel_rfl)
theorem F.spec_RunDfa_l0_ok {R : Type} (N : Nat) (d : E.spec_RunDfa_l0_i.D) (next : St → Option R) (out : Ex → St → Option R) :
    stepE cfg (table [T.spec_l2Go]) (ltable []) 0 H.spec_RunDfa 0 (bodyOf Try.f23 0) [2, 3, 7, 8] [7] (E.spec_RunDfa_l0_i.to d) next out =
      F.spec_RunDfa_l0_s N d.1.1 d.1.2.2.1 d.1.2.2.2.1 d.2.1.1 d.2.1.2.1 d.2.1.2.2.1 d.2.1.2.2.2.1 d.2.1.2.2.2.2.1 (fun x0 x1 x2 x3 x4 x5 x6 x7 => next (E.spec_RunDfa_l0_i.to ((x0, ((), (x1, (x2, ())))), ((x3, (x4, (x5, (x6, (x7, ()))))), ())))) (fun y0 => out (.exit 0) (E.spec_RunDfa_l0_oe0.to ((y0, ()), ()))) := by kernel_rfl
def TL.spec_RunDfa_l0 {R : Type} (N : Nat) : LEntry R := { b := 0, st := E.spec_RunDfa_l0_i, fn := fun d k => F.spec_RunDfa_l0 N N d.1.1 d.1.2.2.1 d.1.2.2.2.1 d.2.1.1 d.2.1.2.1 d.2.1.2.2.1 d.2.1.2.2.2.1 d.2.1.2.2.2.2.1 (fun y0 => k (.exit 0) (E.spec_RunDfa_l0_oe0.to ((y0, ()), ()))) }
theorem LK.spec_RunDfa_l0 {R : Type} (N : Nat) : LEntryOk Try.prog 0 Try.f23.ntmps (bodyOf Try.f23) (TL.spec_RunDfa_l0 (R := R) N) :=
  lentry_fun (i := [2, 3, 7, 8]) (o := [7]) (h := H.spec_RunDfa) hC hm (table_cons TK.spec_l2Go table_nil) WF.f23 ltable_nil (fun d => uniq_of rfl) (fun n d k => F.spec_RunDfa_l0 N n d.1.1 d.1.2.2.1 d.1.2.2.2.1 d.2.1.1 d.2.1.2.1 d.2.1.2.2.1 d.2.1.2.2.2.1 d.2.1.2.2.2.2.1 (fun y0 => k (.exit 0) (E.spec_RunDfa_l0_oe0.to ((y0, ()), ())))) N (fun _ _ => rfl) (fun _ _ => rfl) fun n d k =>
    (congrArg (fun z => F.spec_RunDfa_l0_s N d.1.1 d.1.2.2.1 d.1.2.2.2.1 d.2.1.1 d.2.1.2.1 d.2.1.2.2.1 d.2.1.2.2.2.1 d.2.1.2.2.2.2.1 z (fun y0 => k (.exit 0) (E.spec_RunDfa_l0_oe0.to ((y0, ()), ())))) (funext fun x0 => funext fun x1 => funext fun x2 => funext fun x3 => funext fun x4 => funext fun x5 => funext fun x6 => funext fun x7 => (via_to E.spec_RunDfa_l0_i _ ((x0, ((), (x1, (x2, ())))), ((x3, (x4, (x5, (x6, (x7, ()))))), ()))).symm)).trans (F.spec_RunDfa_l0_ok N d (via E.spec_RunDfa_l0_i fun d => F.spec_RunDfa_l0 N n d.1.1 d.1.2.2.1 d.1.2.2.2.1 d.2.1.1 d.2.1.2.1 d.2.1.2.2.1 d.2.1.2.2.2.1 d.2.1.2.2.2.2.1 (fun y0 => k (.exit 0) (E.spec_RunDfa_l0_oe0.to ((y0, ()), ())))) k).symm
theorem F.spec_RunDfa_ok {R : Type} (N : Nat) (d : E.spec_RunDfa_a.D) (k : AV → List (Option Blk) → List Blk → Option R) :
    funE cfg (table [T.spec_DfaOK N, T.spec_l1Between]) (ltable [TL.spec_RunDfa_l0 N]) H.spec_RunDfa Try.f23 (E.spec_RunDfa_a.to d).1 (E.spec_RunDfa_a.to d).2 k =
      F.spec_RunDfa N d.1.1.1 d.1.1.2.1 d.1.1.2.2.1 d.1.1.2.2.2.1 d.1.1.2.2.2.2.1 d.1.2.1 d.1.2.2.1 fun x0 => k (E.spec_RunDfa_r.to (x0, ((), ()))).1 (E.spec_RunDfa_r.to (x0, ((), ()))).2.1 (E.spec_RunDfa_r.to (x0, ((), ()))).2.2 := by kernel_rfl
theorem TK.spec_RunDfa {R : Type} (N : Nat) : EntryOk Try.prog (T.spec_RunDfa (R := R) N) :=
  entry_fun (h := H.spec_RunDfa) hC hm (table_cons (TK.spec_DfaOK N) (table_cons TK.spec_l1Between table_nil)) WF.f23 (fun d => (ltable_cons (LK.spec_RunDfa_l0 N) ltable_nil)) fun d k =>
    (congrArg (fun z => F.spec_RunDfa N d.1.1.1 d.1.1.2.1 d.1.1.2.2.1 d.1.1.2.2.2.1 d.1.1.2.2.2.2.1 d.1.2.1 d.1.2.2.1 z) (funext fun x0 => (via_to E.spec_RunDfa_r k (x0, ((), ()))).symm)).trans (F.spec_RunDfa_ok N d (fun v fin new => via E.spec_RunDfa_r k (v, fin, new))).symm

/-! ### loop.example/s0007/impl.DfaOK$1$1: function 33 -/
abbrev E.impl_DfaOK_1_1_a : Enc (List AV × List Blk) := Enc.both (Enc.vals [(Enc.int .i64), (Enc.pr 0 0 (Enc.vals [(Enc.int .i64)])), (Enc.pr 0 0 (Enc.vals [(Enc.int .i64)]))]) (Enc.all [])
abbrev E.impl_DfaOK_1_1_r : Enc (AV × List (Option Blk) × List Blk) := Enc.both Enc.bool (Enc.both (Enc.all []) (Enc.all []))
def T.impl_DfaOK_1_1 {R : Type} : Entry R := { f := 33, arg := E.impl_DfaOK_1_1_a, res := E.impl_DfaOK_1_1_r, fn := fun d k => F.impl_DfaOK_1_1 d.1.1 d.1.2.1.1 d.1.2.2.1.1 fun x0 => k (x0, ((), ())) }
def H.impl_DfaOK_1_1 : Hint := []
theorem WF.f33 : FnWf Try.prog 33 Try.f33 := fnWf_of Try.func33 (by decide) (by kernel_rfl)
theorem F.impl_DfaOK_1_1_ok {R : Type} (d : E.impl_DfaOK_1_1_a.D) (k : AV → List (Option Blk) → List Blk → Option R) :
    funE cfg (table []) (ltable []) H.impl_DfaOK_1_1 Try.f33 (E.impl_DfaOK_1_1_a.to d).1 (E.impl_DfaOK_1_1_a.to d).2 k =
      F.impl_DfaOK_1_1 d.1.1 d.1.2.1.1 d.1.2.2.1.1 fun x0 => k (E.impl_DfaOK_1_1_r.to (x0, ((), ()))).1 (E.impl_DfaOK_1_1_r.to (x0, ((), ()))).2.1 (E.impl_DfaOK_1_1_r.to (x0, ((), ()))).2.2 := by kernel_rfl
theorem TK.impl_DfaOK_1_1 {R : Type} : EntryOk Try.prog (T.impl_DfaOK_1_1 (R := R)) :=
  entry_fun (h := H.impl_DfaOK_1_1) hC hm table_nil WF.f33 (fun d => ltable_nil) fun d k =>
    (congrArg (fun z => F.impl_DfaOK_1_1 d.1.1 d.1.2.1.1 d.1.2.2.1.1 z) (funext fun x0 => (via_to E.impl_DfaOK_1_1_r k (x0, ((), ()))).symm)).trans (F.impl_DfaOK_1_1_ok d (fun v fin new => via E.impl_DfaOK_1_1_r k (v, fin, new))).symm

/-! ### slices.IndexFunc[[]int,int]: function 37 -/
abbrev E.slices_IndexFunc_l0_i : Enc St := Enc.st 2 (Enc.all [(Enc.key 0 (Enc.ro 0 (.int .i64))), (Enc.key 1 (Enc.fn 33 (Enc.vals [(Enc.pb 0 0), (Enc.pb 1 0)]))), (Enc.key 7 (Enc.int .i64)), (Enc.key 8 (Enc.int .i64))]) (Enc.all [(Enc.key 0 (Enc.cell (Enc.vals [(Enc.int .i64)]))), (Enc.key 1 (Enc.cell (Enc.vals [(Enc.int .i64)])))])
abbrev E.slices_IndexFunc_l0_oe0 : Enc St := Enc.st 2 (Enc.all [(Enc.key 4 Enc.un)]) (Enc.all [(Enc.key 0 (Enc.cell (Enc.vals [(Enc.int .i64)]))), (Enc.key 1 (Enc.cell (Enc.vals [(Enc.int .i64)])))])
abbrev E.slices_IndexFunc_l0_oret : Enc St := Enc.st 2 (Enc.all [(Enc.key 4 (Enc.int .i64))]) (Enc.all [(Enc.key 0 (Enc.cell (Enc.vals [(Enc.int .i64)]))), (Enc.key 1 (Enc.cell (Enc.vals [(Enc.int .i64)])))])
abbrev E.slices_IndexFunc_a : Enc (List AV × List Blk) := Enc.both (Enc.vals [(Enc.ro 0 (.int .i64)), (Enc.fn 33 (Enc.vals [(Enc.pb 0 0), (Enc.pb 1 0)]))]) (Enc.all [(Enc.cell (Enc.vals [(Enc.int .i64)])), (Enc.cell (Enc.vals [(Enc.int .i64)]))])
abbrev E.slices_IndexFunc_r : Enc (AV × List (Option Blk) × List Blk) := Enc.both (Enc.int .i64) (Enc.both (Enc.all [(Enc.some_ (Enc.cell (Enc.vals [(Enc.int .i64)]))), (Enc.some_ (Enc.cell (Enc.vals [(Enc.int .i64)])))]) (Enc.all []))
def T.slices_IndexFunc {R : Type} (N : Nat) : Entry R := { f := 37, arg := E.slices_IndexFunc_a, res := E.slices_IndexFunc_r, fn := fun d k => F.slices_IndexFunc N d.1.1 d.2.1.1 d.2.2.1.1 fun x0 x1 x2 => k (x0, (((x1, ()), ((x2, ()), ())), ())) }
def H.slices_IndexFunc : Hint := [(0, [0, 1, 7, 8], [4])]
theorem WF.f37 : FnWf Try.prog 37 Try.f37 := fnWf_of Try.func37 (by decide) (by kernel_rfl)
theorem F.slices_IndexFunc_l0_ok {R : Type} (N : Nat) (d : E.slices_IndexFunc_l0_i.D) (next : St → Option R) (out : Ex → St → Option R) :
    stepE cfg (table [T.impl_DfaOK_1_1]) (ltable []) 2 H.slices_IndexFunc 0 (bodyOf Try.f37 0) [0, 1, 7, 8] [4] (E.slices_IndexFunc_l0_i.to d) next out =
      F.slices_IndexFunc_l0_s N d.1.1 d.1.2.2.1 d.1.2.2.2.1 d.2.1.1 d.2.2.1.1 (fun x0 x1 x2 x3 x4 => next (E.slices_IndexFunc_l0_i.to ((x0, (((), ((), ())), (x1, (x2, ())))), ((x3, ()), ((x4, ()), ()))))) (fun y0 y1 => out (.exit 0) (E.slices_IndexFunc_l0_oe0.to (((), ()), ((y0, ()), ((y1, ()), ()))))) (fun y0 y1 y2 => out .ret (E.slices_IndexFunc_l0_oret.to ((y0, ()), ((y1, ()), ((y2, ()), ()))))) := by kernel_rfl
def TL.slices_IndexFunc_l0 {R : Type} (N : Nat) : LEntry R := { b := 0, st := E.slices_IndexFunc_l0_i, fn := fun d k => F.slices_IndexFunc_l0 N N d.1.1 d.1.2.2.1 d.1.2.2.2.1 d.2.1.1 d.2.2.1.1 (fun y0 y1 => k (.exit 0) (E.slices_IndexFunc_l0_oe0.to (((), ()), ((y0, ()), ((y1, ()), ()))))) (fun y0 y1 y2 => k .ret (E.slices_IndexFunc_l0_oret.to ((y0, ()), ((y1, ()), ((y2, ()), ()))))) }
theorem LK.slices_IndexFunc_l0 {R : Type} (N : Nat) : LEntryOk Try.prog 2 Try.f37.ntmps (bodyOf Try.f37) (TL.slices_IndexFunc_l0 (R := R) N) :=
  lentry_fun (i := [0, 1, 7, 8]) (o := [4]) (h := H.slices_IndexFunc) hC hm (table_cons TK.impl_DfaOK_1_1 table_nil) WF.f37 ltable_nil (fun d => uniq_of rfl) (fun n d k => F.slices_IndexFunc_l0 N n d.1.1 d.1.2.2.1 d.1.2.2.2.1 d.2.1.1 d.2.2.1.1 (fun y0 y1 => k (.exit 0) (E.slices_IndexFunc_l0_oe0.to (((), ()), ((y0, ()), ((y1, ()), ()))))) (fun y0 y1 y2 => k .ret (E.slices_IndexFunc_l0_oret.to ((y0, ()), ((y1, ()), ((y2, ()), ())))))) N (fun _ _ => rfl) (fun _ _ => rfl) fun n d k =>
    (congrArg (fun z => F.slices_IndexFunc_l0_s N d.1.1 d.1.2.2.1 d.1.2.2.2.1 d.2.1.1 d.2.2.1.1 z (fun y0 y1 => k (.exit 0) (E.slices_IndexFunc_l0_oe0.to (((), ()), ((y0, ()), ((y1, ()), ()))))) (fun y0 y1 y2 => k .ret (E.slices_IndexFunc_l0_oret.to ((y0, ()), ((y1, ()), ((y2, ()), ())))))) (funext fun x0 => funext fun x1 => funext fun x2 => funext fun x3 => funext fun x4 => (via_to E.slices_IndexFunc_l0_i _ ((x0, (((), ((), ())), (x1, (x2, ())))), ((x3, ()), ((x4, ()), ())))).symm)).trans (F.slices_IndexFunc_l0_ok N d (via E.slices_IndexFunc_l0_i fun d => F.slices_IndexFunc_l0 N n d.1.1 d.1.2.2.1 d.1.2.2.2.1 d.2.1.1 d.2.2.1.1 (fun y0 y1 => k (.exit 0) (E.slices_IndexFunc_l0_oe0.to (((), ()), ((y0, ()), ((y1, ()), ()))))) (fun y0 y1 y2 => k .ret (E.slices_IndexFunc_l0_oret.to ((y0, ()), ((y1, ()), ((y2, ()), ())))))) k).symm
theorem F.slices_IndexFunc_ok {R : Type} (N : Nat) (d : E.slices_IndexFunc_a.D) (k : AV → List (Option Blk) → List Blk → Option R) :
    funE cfg (table []) (ltable [TL.slices_IndexFunc_l0 N]) H.slices_IndexFunc Try.f37 (E.slices_IndexFunc_a.to d).1 (E.slices_IndexFunc_a.to d).2 k =
      F.slices_IndexFunc N d.1.1 d.2.1.1 d.2.2.1.1 fun x0 x1 x2 => k (E.slices_IndexFunc_r.to (x0, (((x1, ()), ((x2, ()), ())), ()))).1 (E.slices_IndexFunc_r.to (x0, (((x1, ()), ((x2, ()), ())), ()))).2.1 (E.slices_IndexFunc_r.to (x0, (((x1, ()), ((x2, ()), ())), ()))).2.2 := by kernel_rfl
theorem TK.slices_IndexFunc {R : Type} (N : Nat) : EntryOk Try.prog (T.slices_IndexFunc (R := R) N) :=
  entry_fun (h := H.slices_IndexFunc) hC hm table_nil WF.f37 (fun d => (ltable_cons (LK.slices_IndexFunc_l0 N) ltable_nil)) fun d k =>
    (congrArg (fun z => F.slices_IndexFunc N d.1.1 d.2.1.1 d.2.2.1.1 z) (funext fun x0 => funext fun x1 => funext fun x2 => (via_to E.slices_IndexFunc_r k (x0, (((x1, ()), ((x2, ()), ())), ()))).symm)).trans (F.slices_IndexFunc_ok N d (fun v fin new => via E.slices_IndexFunc_r k (v, fin, new))).symm

/-! ### slices.ContainsFunc[[]int,int]: function 32 -/
abbrev E.slices_ContainsFunc_a : Enc (List AV × List Blk) := Enc.both (Enc.vals [(Enc.ro 0 (.int .i64)), (Enc.fn 33 (Enc.vals [(Enc.pb 0 0), (Enc.pb 1 0)]))]) (Enc.all [(Enc.cell (Enc.vals [(Enc.int .i64)])), (Enc.cell (Enc.vals [(Enc.int .i64)]))])
abbrev E.slices_ContainsFunc_r : Enc (AV × List (Option Blk) × List Blk) := Enc.both Enc.bool (Enc.both (Enc.all [(Enc.some_ (Enc.cell (Enc.vals [(Enc.int .i64)]))), (Enc.some_ (Enc.cell (Enc.vals [(Enc.int .i64)])))]) (Enc.all []))
def T.slices_ContainsFunc {R : Type} (N : Nat) : Entry R := { f := 32, arg := E.slices_ContainsFunc_a, res := E.slices_ContainsFunc_r, fn := fun d k => F.slices_ContainsFunc N d.1.1 d.2.1.1 d.2.2.1.1 fun x0 x1 x2 => k (x0, (((x1, ()), ((x2, ()), ())), ())) }
def H.slices_ContainsFunc : Hint := []
theorem WF.f32 : FnWf Try.prog 32 Try.f32 := fnWf_of Try.func32 (by decide) (by kernel_rfl)
theorem F.slices_ContainsFunc_ok {R : Type} (N : Nat) (d : E.slices_ContainsFunc_a.D) (k : AV → List (Option Blk) → List Blk → Option R) :
    funE cfg (table [T.slices_IndexFunc N]) (ltable []) H.slices_ContainsFunc Try.f32 (E.slices_ContainsFunc_a.to d).1 (E.slices_ContainsFunc_a.to d).2 k =
      F.slices_ContainsFunc N d.1.1 d.2.1.1 d.2.2.1.1 fun x0 x1 x2 => k (E.slices_ContainsFunc_r.to (x0, (((x1, ()), ((x2, ()), ())), ()))).1 (E.slices_ContainsFunc_r.to (x0, (((x1, ()), ((x2, ()), ())), ()))).2.1 (E.slices_ContainsFunc_r.to (x0, (((x1, ()), ((x2, ()), ())), ()))).2.2 := by kernel_rfl
theorem TK.slices_ContainsFunc {R : Type} (N : Nat) : EntryOk Try.prog (T.slices_ContainsFunc (R := R) N) :=
  entry_fun (h := H.slices_ContainsFunc) hC hm (table_cons (TK.slices_IndexFunc N) table_nil) WF.f32 (fun d => ltable_nil) fun d k =>
    (congrArg (fun z => F.slices_ContainsFunc N d.1.1 d.2.1.1 d.2.2.1.1 z) (funext fun x0 => funext fun x1 => funext fun x2 => (via_to E.slices_ContainsFunc_r k (x0, (((x1, ()), ((x2, ()), ())), ()))).symm)).trans (F.slices_ContainsFunc_ok N d (fun v fin new => via E.slices_ContainsFunc_r k (v, fin, new))).symm

/-! ### loop.example/s0007/impl.DfaOK$1: function 31 -/
abbrev E.impl_DfaOK_1_a : Enc (List AV × List Blk) := Enc.both (Enc.vals [(Enc.ro 0 (.int .i64)), (Enc.int .i64), (Enc.int .i64)]) (Enc.all [])
abbrev E.impl_DfaOK_1_r : Enc (AV × List (Option Blk) × List Blk) := Enc.both Enc.bool (Enc.both (Enc.all []) (Enc.all []))
def T.impl_DfaOK_1 {R : Type} (N : Nat) : Entry R := { f := 31, arg := E.impl_DfaOK_1_a, res := E.impl_DfaOK_1_r, fn := fun d k => F.impl_DfaOK_1 N d.1.1 d.1.2.1 d.1.2.2.1 fun x0 => k (x0, ((), ())) }
def H.impl_DfaOK_1 : Hint := []
theorem WF.f31 : FnWf Try.prog 31 Try.f31 := fnWf_of Try.func31 (by decide) (by kernel_rfl)
theorem F.impl_DfaOK_1_ok {R : Type} (N : Nat) (d : E.impl_DfaOK_1_a.D) (k : AV → List (Option Blk) → List Blk → Option R) :
    funE cfg (table [T.slices_ContainsFunc N]) (ltable []) H.impl_DfaOK_1 Try.f31 (E.impl_DfaOK_1_a.to d).1 (E.impl_DfaOK_1_a.to d).2 k =
      F.impl_DfaOK_1 N d.1.1 d.1.2.1 d.1.2.2.1 fun x0 => k (E.impl_DfaOK_1_r.to (x0, ((), ()))).1 (E.impl_DfaOK_1_r.to (x0, ((), ()))).2.1 (E.impl_DfaOK_1_r.to (x0, ((), ()))).2.2 := by kernel_rfl
theorem TK.impl_DfaOK_1 {R : Type} (N : Nat) : EntryOk Try.prog (T.impl_DfaOK_1 (R := R) N) :=
  entry_fun (h := H.impl_DfaOK_1) hC hm (table_cons (TK.slices_ContainsFunc N) table_nil) WF.f31 (fun d => ltable_nil) fun d k =>
    (congrArg (fun z => F.impl_DfaOK_1 N d.1.1 d.1.2.1 d.1.2.2.1 z) (funext fun x0 => (via_to E.impl_DfaOK_1_r k (x0, ((), ()))).symm)).trans (F.impl_DfaOK_1_ok N d (fun v fin new => via E.impl_DfaOK_1_r k (v, fin, new))).symm

/-! ### loop.example/s0007/impl.DfaOK: function 21 -/
abbrev E.impl_DfaOK_a : Enc (List AV × List Blk) := Enc.both (Enc.vals [(Enc.agg (Enc.vals [(Enc.ro 0 (.int .i64)), (Enc.int .i64), (Enc.ro 0 (.int .i64)), (Enc.ro 0 (.int .i64)), (Enc.ro 0 (.int .i64))]))]) (Enc.all [])
abbrev E.impl_DfaOK_r : Enc (AV × List (Option Blk) × List Blk) := Enc.both Enc.bool (Enc.both (Enc.all []) (Enc.all []))
def T.impl_DfaOK {R : Type} (N : Nat) : Entry R := { f := 21, arg := E.impl_DfaOK_a, res := E.impl_DfaOK_r, fn := fun d k => F.impl_DfaOK N d.1.1.1 d.1.1.2.1 d.1.1.2.2.1 d.1.1.2.2.2.1 d.1.1.2.2.2.2.1 fun x0 => k (x0, ((), ())) }
def H.impl_DfaOK : Hint := []
theorem WF.f21 : FnWf Try.prog 21 Try.f21 := fnWf_of Try.func21 (by decide) (by kernel_rfl)
theorem F.impl_DfaOK_ok {R : Type} (N : Nat) (d : E.impl_DfaOK_a.D) (k : AV → List (Option Blk) → List Blk → Option R) :
    funE cfg (table [T.impl_DfaOK_1 N]) (ltable []) H.impl_DfaOK Try.f21 (E.impl_DfaOK_a.to d).1 (E.impl_DfaOK_a.to d).2 k =
      F.impl_DfaOK N d.1.1.1 d.1.1.2.1 d.1.1.2.2.1 d.1.1.2.2.2.1 d.1.1.2.2.2.2.1 fun x0 => k (E.impl_DfaOK_r.to (x0, ((), ()))).1 (E.impl_DfaOK_r.to (x0, ((), ()))).2.1 (E.impl_DfaOK_r.to (x0, ((), ()))).2.2 := by kernel_rfl
theorem TK.impl_DfaOK {R : Type} (N : Nat) : EntryOk Try.prog (T.impl_DfaOK (R := R) N) :=
  entry_fun (h := H.impl_DfaOK) hC hm (table_cons (TK.impl_DfaOK_1 N) table_nil) WF.f21 (fun d => ltable_nil) fun d k =>
    (congrArg (fun z => F.impl_DfaOK N d.1.1.1 d.1.1.2.1 d.1.1.2.2.1 d.1.1.2.2.2.1 d.1.1.2.2.2.2.1 z) (funext fun x0 => (via_to E.impl_DfaOK_r k (x0, ((), ()))).symm)).trans (F.impl_DfaOK_ok N d (fun v fin new => via E.impl_DfaOK_r k (v, fin, new))).symm

/-! ### (loop.example/s0007/impl.Dfa).step: function 36 -/
abbrev E.impl_Dfa_step_a : Enc (List AV × List Blk) := Enc.both (Enc.vals [(Enc.agg (Enc.vals [(Enc.ro 0 (.int .i64)), (Enc.int .i64), (Enc.ro 0 (.int .i64)), (Enc.ro 0 (.int .i64)), (Enc.ro 0 (.int .i64))])), (Enc.int .i64), (Enc.int .i64)]) (Enc.all [])
abbrev E.impl_Dfa_step_r : Enc (AV × List (Option Blk) × List Blk) := Enc.both (Enc.int .i64) (Enc.both (Enc.all []) (Enc.all []))
def T.impl_Dfa_step {R : Type} : Entry R := { f := 36, arg := E.impl_Dfa_step_a, res := E.impl_Dfa_step_r, fn := fun d k => F.impl_Dfa_step d.1.1.1 d.1.1.2.1 d.1.1.2.2.1 d.1.1.2.2.2.1 d.1.1.2.2.2.2.1 d.1.2.1 d.1.2.2.1 fun x0 => k (x0, ((), ())) }
def H.impl_Dfa_step : Hint := []
theorem WF.f36 : FnWf Try.prog 36 Try.f36 := fnWf_of Try.func36 (by decide) (by kernel_rfl)
theorem F.impl_Dfa_step_ok {R : Type} (d : E.impl_Dfa_step_a.D) (k : AV → List (Option Blk) → List Blk → Option R) :
    funE cfg (table []) (ltable []) H.impl_Dfa_step Try.f36 (E.impl_Dfa_step_a.to d).1 (E.impl_Dfa_step_a.to d).2 k =
      F.impl_Dfa_step d.1.1.1 d.1.1.2.1 d.1.1.2.2.1 d.1.1.2.2.2.1 d.1.1.2.2.2.2.1 d.1.2.1 d.1.2.2.1 fun x0 => k (E.impl_Dfa_step_r.to (x0, ((), ()))).1 (E.impl_Dfa_step_r.to (x0, ((), ()))).2.1 (E.impl_Dfa_step_r.to (x0, ((), ()))).2.2 := by kernel_rfl
theorem TK.impl_Dfa_step {R : Type} : EntryOk Try.prog (T.impl_Dfa_step (R := R)) :=
  entry_fun (h := H.impl_Dfa_step) hC hm table_nil WF.f36 (fun d => ltable_nil) fun d k =>
    (congrArg (fun z => F.impl_Dfa_step d.1.1.1 d.1.1.2.1 d.1.1.2.2.1 d.1.1.2.2.2.1 d.1.1.2.2.2.2.1 d.1.2.1 d.1.2.2.1 z) (funext fun x0 => (via_to E.impl_Dfa_step_r k (x0, ((), ()))).symm)).trans (F.impl_Dfa_step_ok d (fun v fin new => via E.impl_Dfa_step_r k (v, fin, new))).symm

/-! ### loop.example/s0007/impl.RunDfa: function 24 -/
abbrev E.impl_RunDfa_l0_i : Enc St := Enc.st 1 (Enc.all [(Enc.key 1 (Enc.int .i64)), (Enc.key 2 Enc.str), (Enc.key 3 (Enc.pb 0 0)), (Enc.key 23 (Enc.int .i64)), (Enc.key 24 (Enc.int .i64))]) (Enc.all [(Enc.key 0 (Enc.cell (Enc.vals [(Enc.ro 0 (.int .i64)), (Enc.int .i64), (Enc.ro 0 (.int .i64)), (Enc.ro 0 (.int .i64)), (Enc.ro 0 (.int .i64))])))])
abbrev E.impl_RunDfa_l0_oe0 : Enc St := Enc.st 0 (Enc.all [(Enc.key 1 (Enc.int .i64))]) (Enc.all [])
abbrev E.impl_RunDfa_a : Enc (List AV × List Blk) := Enc.both (Enc.vals [(Enc.agg (Enc.vals [(Enc.ro 0 (.int .i64)), (Enc.int .i64), (Enc.ro 0 (.int .i64)), (Enc.ro 0 (.int .i64)), (Enc.ro 0 (.int .i64))])), (Enc.int .i64), Enc.str]) (Enc.all [])
abbrev E.impl_RunDfa_r : Enc (AV × List (Option Blk) × List Blk) := Enc.both (Enc.int .i64) (Enc.both (Enc.all []) (Enc.all []))
def T.impl_RunDfa {R : Type} (N : Nat) : Entry R := { f := 24, arg := E.impl_RunDfa_a, res := E.impl_RunDfa_r, fn := fun d k => F.impl_RunDfa N d.1.1.1 d.1.1.2.1 d.1.1.2.2.1 d.1.1.2.2.2.1 d.1.1.2.2.2.2.1 d.1.2.1 d.1.2.2.1 fun x0 => k (x0, ((), ())) }
def H.impl_RunDfa : Hint := [(0, [1, 2, 3, 23, 24], [1])]
theorem WF.f24 : FnWf Try.prog 24 Try.f24 := fnWf_of Try.func24 (by decide) (by kernel_rfl)
theorem F.impl_RunDfa_l0_ok {R : Type} (N : Nat) (d : E.impl_RunDfa_l0_i.D) (next : St → Option R) (out : Ex → St → Option R) :
    stepE cfg (table [T.impl_Dfa_step]) (ltable []) 0 H.impl_RunDfa 0 (bodyOf Try.f24 0) [1, 2, 3, 23, 24] [1] (E.impl_RunDfa_l0_i.to d) next out =
      F.impl_RunDfa_l0_s N d.1.1 d.1.2.1 d.1.2.2.2.1 d.1.2.2.2.2.1 d.2.1.1 d.2.1.2.1 d.2.1.2.2.1 d.2.1.2.2.2.1 d.2.1.2.2.2.2.1 (fun x0 x1 x2 x3 x4 x5 x6 x7 x8 => next (E.impl_RunDfa_l0_i.to ((x0, (x1, ((), (x2, (x3, ()))))), ((x4, (x5, (x6, (x7, (x8, ()))))), ())))) (fun y0 => out (.exit 0) (E.impl_RunDfa_l0_oe0.to ((y0, ()), ()))) := by kernel_rfl
def TL.impl_RunDfa_l0 {R : Type} (N : Nat) : LEntry R := { b := 0, st := E.impl_RunDfa_l0_i, fn := fun d k => F.impl_RunDfa_l0 N N d.1.1 d.1.2.1 d.1.2.2.2.1 d.1.2.2.2.2.1 d.2.1.1 d.2.1.2.1 d.2.1.2.2.1 d.2.1.2.2.2.1 d.2.1.2.2.2.2.1 (fun y0 => k (.exit 0) (E.impl_RunDfa_l0_oe0.to ((y0, ()), ()))) }
theorem LK.impl_RunDfa_l0 {R : Type} (N : Nat) : LEntryOk Try.prog 0 Try.f24.ntmps (bodyOf Try.f24) (TL.impl_RunDfa_l0 (R := R) N) :=
  lentry_fun (i := [1, 2, 3, 23, 24]) (o := [1]) (h := H.impl_RunDfa) hC hm (table_cons TK.impl_Dfa_step table_nil) WF.f24 ltable_nil (fun d => uniq_of rfl) (fun n d k => F.impl_RunDfa_l0 N n d.1.1 d.1.2.1 d.1.2.2.2.1 d.1.2.2.2.2.1 d.2.1.1 d.2.1.2.1 d.2.1.2.2.1 d.2.1.2.2.2.1 d.2.1.2.2.2.2.1 (fun y0 => k (.exit 0) (E.impl_RunDfa_l0_oe0.to ((y0, ()), ())))) N (fun _ _ => rfl) (fun _ _ => rfl) fun n d k =>
    (congrArg (fun z => F.impl_RunDfa_l0_s N d.1.1 d.1.2.1 d.1.2.2.2.1 d.1.2.2.2.2.1 d.2.1.1 d.2.1.2.1 d.2.1.2.2.1 d.2.1.2.2.2.1 d.2.1.2.2.2.2.1 z (fun y0 => k (.exit 0) (E.impl_RunDfa_l0_oe0.to ((y0, ()), ())))) (funext fun x0 => funext fun x1 => funext fun x2 => funext fun x3 => funext fun x4 => funext fun x5 => funext fun x6 => funext fun x7 => funext fun x8 => (via_to E.impl_RunDfa_l0_i _ ((x0, (x1, ((), (x2, (x3, ()))))), ((x4, (x5, (x6, (x7, (x8, ()))))), ()))).symm)).trans (F.impl_RunDfa_l0_ok N d (via E.impl_RunDfa_l0_i fun d => F.impl_RunDfa_l0 N n d.1.1 d.1.2.1 d.1.2.2.2.1 d.1.2.2.2.2.1 d.2.1.1 d.2.1.2.1 d.2.1.2.2.1 d.2.1.2.2.2.1 d.2.1.2.2.2.2.1 (fun y0 => k (.exit 0) (E.impl_RunDfa_l0_oe0.to ((y0, ()), ())))) k).symm
theorem F.impl_RunDfa_ok {R : Type} (N : Nat) (d : E.impl_RunDfa_a.D) (k : AV → List (Option Blk) → List Blk → Option R) :
    funE cfg (table [T.impl_DfaOK N]) (ltable [TL.impl_RunDfa_l0 N]) H.impl_RunDfa Try.f24 (E.impl_RunDfa_a.to d).1 (E.impl_RunDfa_a.to d).2 k =
      F.impl_RunDfa N d.1.1.1 d.1.1.2.1 d.1.1.2.2.1 d.1.1.2.2.2.1 d.1.1.2.2.2.2.1 d.1.2.1 d.1.2.2.1 fun x0 => k (E.impl_RunDfa_r.to (x0, ((), ()))).1 (E.impl_RunDfa_r.to (x0, ((), ()))).2.1 (E.impl_RunDfa_r.to (x0, ((), ()))).2.2 := by kernel_rfl
theorem TK.impl_RunDfa {R : Type} (N : Nat) : EntryOk Try.prog (T.impl_RunDfa (R := R) N) :=
  entry_fun (h := H.impl_RunDfa) hC hm (table_cons (TK.impl_DfaOK N) table_nil) WF.f24 (fun d => (ltable_cons (LK.impl_RunDfa_l0 N) ltable_nil)) fun d k =>
    (congrArg (fun z => F.impl_RunDfa N d.1.1.1 d.1.1.2.1 d.1.1.2.2.1 d.1.1.2.2.2.1 d.1.1.2.2.2.2.1 d.1.2.1 d.1.2.2.1 z) (funext fun x0 => (via_to E.impl_RunDfa_r k (x0, ((), ()))).symm)).trans (F.impl_RunDfa_ok N d (fun v fin new => via E.impl_RunDfa_r k (v, fin, new))).symm

/-! ### loop.example/s0007/laws.eqIntS: function 34 -/
abbrev E.laws_eqIntS_l0_i : Enc St := Enc.st 0 (Enc.all [(Enc.key 0 (Enc.ro 0 (.int .i64))), (Enc.key 1 (Enc.ro 0 (.int .i64))), (Enc.key 5 (Enc.int .i64))]) (Enc.all [])
abbrev E.laws_eqIntS_l0_oe0 : Enc St := Enc.st 0 (Enc.all [(Enc.key 4 Enc.un)]) (Enc.all [])
abbrev E.laws_eqIntS_l0_oret : Enc St := Enc.st 0 (Enc.all [(Enc.key 4 Enc.bool)]) (Enc.all [])
abbrev E.laws_eqIntS_a : Enc (List AV × List Blk) := Enc.both (Enc.vals [(Enc.ro 0 (.int .i64)), (Enc.ro 0 (.int .i64))]) (Enc.all [])
abbrev E.laws_eqIntS_r : Enc (AV × List (Option Blk) × List Blk) := Enc.both Enc.bool (Enc.both (Enc.all []) (Enc.all []))
def T.laws_eqIntS {R : Type} (N : Nat) : Entry R := { f := 34, arg := E.laws_eqIntS_a, res := E.laws_eqIntS_r, fn := fun d k => F.laws_eqIntS N d.1.1 d.1.2.1 fun x0 => k (x0, ((), ())) }
def H.laws_eqIntS : Hint := [(0, [0, 1, 5], [4])]
theorem WF.f34 : FnWf Try.prog 34 Try.f34 := fnWf_of Try.func34 (by decide) (by kernel_rfl)
theorem F.laws_eqIntS_l0_ok {R : Type} (N : Nat) (d : E.laws_eqIntS_l0_i.D) (next : St → Option R) (out : Ex → St → Option R) :
    stepE cfg (table []) (ltable []) 0 H.laws_eqIntS 0 (bodyOf Try.f34 0) [0, 1, 5] [4] (E.laws_eqIntS_l0_i.to d) next out =
      F.laws_eqIntS_l0_s N d.1.1 d.1.2.1 d.1.2.2.1 (fun x0 x1 x2 => next (E.laws_eqIntS_l0_i.to ((x0, (x1, (x2, ()))), ()))) (fun _ => out (.exit 0) (E.laws_eqIntS_l0_oe0.to (((), ()), ()))) (fun y0 => out .ret (E.laws_eqIntS_l0_oret.to ((y0, ()), ()))) := by kernel_rfl
def TL.laws_eqIntS_l0 {R : Type} (N : Nat) : LEntry R := { b := 0, st := E.laws_eqIntS_l0_i, fn := fun d k => F.laws_eqIntS_l0 N N d.1.1 d.1.2.1 d.1.2.2.1 (fun _ => k (.exit 0) (E.laws_eqIntS_l0_oe0.to (((), ()), ()))) (fun y0 => k .ret (E.laws_eqIntS_l0_oret.to ((y0, ()), ()))) }
theorem LK.laws_eqIntS_l0 {R : Type} (N : Nat) : LEntryOk Try.prog 0 Try.f34.ntmps (bodyOf Try.f34) (TL.laws_eqIntS_l0 (R := R) N) :=
  lentry_fun (i := [0, 1, 5]) (o := [4]) (h := H.laws_eqIntS) hC hm table_nil WF.f34 ltable_nil (fun d => uniq_of rfl) (fun n d k => F.laws_eqIntS_l0 N n d.1.1 d.1.2.1 d.1.2.2.1 (fun _ => k (.exit 0) (E.laws_eqIntS_l0_oe0.to (((), ()), ()))) (fun y0 => k .ret (E.laws_eqIntS_l0_oret.to ((y0, ()), ())))) N (fun _ _ => rfl) (fun _ _ => rfl) fun n d k =>
    (congrArg (fun z => F.laws_eqIntS_l0_s N d.1.1 d.1.2.1 d.1.2.2.1 z (fun _ => k (.exit 0) (E.laws_eqIntS_l0_oe0.to (((), ()), ()))) (fun y0 => k .ret (E.laws_eqIntS_l0_oret.to ((y0, ()), ())))) (funext fun x0 => funext fun x1 => funext fun x2 => (via_to E.laws_eqIntS_l0_i _ ((x0, (x1, (x2, ()))), ())).symm)).trans (F.laws_eqIntS_l0_ok N d (via E.laws_eqIntS_l0_i fun d => F.laws_eqIntS_l0 N n d.1.1 d.1.2.1 d.1.2.2.1 (fun _ => k (.exit 0) (E.laws_eqIntS_l0_oe0.to (((), ()), ()))) (fun y0 => k .ret (E.laws_eqIntS_l0_oret.to ((y0, ()), ())))) k).symm
theorem F.laws_eqIntS_ok {R : Type} (N : Nat) (d : E.laws_eqIntS_a.D) (k : AV → List (Option Blk) → List Blk → Option R) :
    funE cfg (table []) (ltable [TL.laws_eqIntS_l0 N]) H.laws_eqIntS Try.f34 (E.laws_eqIntS_a.to d).1 (E.laws_eqIntS_a.to d).2 k =
      F.laws_eqIntS N d.1.1 d.1.2.1 fun x0 => k (E.laws_eqIntS_r.to (x0, ((), ()))).1 (E.laws_eqIntS_r.to (x0, ((), ()))).2.1 (E.laws_eqIntS_r.to (x0, ((), ()))).2.2 := by kernel_rfl
theorem TK.laws_eqIntS {R : Type} (N : Nat) : EntryOk Try.prog (T.laws_eqIntS (R := R) N) :=
  entry_fun (h := H.laws_eqIntS) hC hm table_nil WF.f34 (fun d => (ltable_cons (LK.laws_eqIntS_l0 N) ltable_nil)) fun d k =>
    (congrArg (fun z => F.laws_eqIntS N d.1.1 d.1.2.1 z) (funext fun x0 => (via_to E.laws_eqIntS_r k (x0, ((), ()))).symm)).trans (F.laws_eqIntS_ok N d (fun v fin new => via E.laws_eqIntS_r k (v, fin, new))).symm

/-! ### loop.example/s0007/laws.eqDfa: function 22 -/
abbrev E.laws_eqDfa_a : Enc (List AV × List Blk) := Enc.both (Enc.vals [(Enc.agg (Enc.vals [(Enc.ro 0 (.int .i64)), (Enc.int .i64), (Enc.ro 0 (.int .i64)), (Enc.ro 0 (.int .i64)), (Enc.ro 0 (.int .i64))])), (Enc.agg (Enc.vals [(Enc.ro 0 (.int .i64)), (Enc.int .i64), (Enc.ro 0 (.int .i64)), (Enc.ro 0 (.int .i64)), (Enc.ro 0 (.int .i64))]))]) (Enc.all [])
abbrev E.laws_eqDfa_r : Enc (AV × List (Option Blk) × List Blk) := Enc.both Enc.bool (Enc.both (Enc.all []) (Enc.all []))
def T.laws_eqDfa {R : Type} (N : Nat) : Entry R := { f := 22, arg := E.laws_eqDfa_a, res := E.laws_eqDfa_r, fn := fun d k => F.laws_eqDfa N d.1.1.1 d.1.1.2.1 d.1.1.2.2.1 d.1.1.2.2.2.1 d.1.1.2.2.2.2.1 d.1.2.1.1 d.1.2.1.2.1 d.1.2.1.2.2.1 d.1.2.1.2.2.2.1 d.1.2.1.2.2.2.2.1 fun x0 => k (x0, ((), ())) }
def H.laws_eqDfa : Hint := []
theorem WF.f22 : FnWf Try.prog 22 Try.f22 := fnWf_of Try.func22 (by decide) (by kernel_rfl)
theorem F.laws_eqDfa_ok {R : Type} (N : Nat) (d : E.laws_eqDfa_a.D) (k : AV → List (Option Blk) → List Blk → Option R) :
    funE cfg (table [T.laws_eqIntS N]) (ltable []) H.laws_eqDfa Try.f22 (E.laws_eqDfa_a.to d).1 (E.laws_eqDfa_a.to d).2 k =
      F.laws_eqDfa N d.1.1.1 d.1.1.2.1 d.1.1.2.2.1 d.1.1.2.2.2.1 d.1.1.2.2.2.2.1 d.1.2.1.1 d.1.2.1.2.1 d.1.2.1.2.2.1 d.1.2.1.2.2.2.1 d.1.2.1.2.2.2.2.1 fun x0 => k (E.laws_eqDfa_r.to (x0, ((), ()))).1 (E.laws_eqDfa_r.to (x0, ((), ()))).2.1 (E.laws_eqDfa_r.to (x0, ((), ()))).2.2 := by kernel_rfl
theorem TK.laws_eqDfa {R : Type} (N : Nat) : EntryOk Try.prog (T.laws_eqDfa (R := R) N) :=
  entry_fun (h := H.laws_eqDfa) hC hm (table_cons (TK.laws_eqIntS N) table_nil) WF.f22 (fun d => ltable_nil) fun d k =>
    (congrArg (fun z => F.laws_eqDfa N d.1.1.1 d.1.1.2.1 d.1.1.2.2.1 d.1.1.2.2.2.1 d.1.1.2.2.2.2.1 d.1.2.1.1 d.1.2.1.2.1 d.1.2.1.2.2.1 d.1.2.1.2.2.2.1 d.1.2.1.2.2.2.2.1 z) (funext fun x0 => (via_to E.laws_eqDfa_r k (x0, ((), ()))).symm)).trans (F.laws_eqDfa_ok N d (fun v fin new => via E.laws_eqDfa_r k (v, fin, new))).symm

/-! ### loop.example/s0007/laws.FnExactRunDfa: function 8 -/
abbrev E.laws_FnExactRunDfa_a : Enc (List AV × List Blk) := Enc.both (Enc.vals [(Enc.agg (Enc.vals [(Enc.ro 0 (.int .i64)), (Enc.int .i64), (Enc.ro 0 (.int .i64)), (Enc.ro 0 (.int .i64)), (Enc.ro 0 (.int .i64))])), (Enc.int .i64), Enc.str]) (Enc.all [])
abbrev E.laws_FnExactRunDfa_r : Enc (AV × List (Option Blk) × List Blk) := Enc.both Enc.bool (Enc.both (Enc.all []) (Enc.all []))
def T.laws_FnExactRunDfa {R : Type} (N : Nat) : Entry R := { f := 8, arg := E.laws_FnExactRunDfa_a, res := E.laws_FnExactRunDfa_r, fn := fun d k => F.laws_FnExactRunDfa N d.1.1.1 d.1.1.2.1 d.1.1.2.2.1 d.1.1.2.2.2.1 d.1.1.2.2.2.2.1 d.1.2.1 d.1.2.2.1 fun x0 => k (x0, ((), ())) }
def H.laws_FnExactRunDfa : Hint := []
theorem WF.f8 : FnWf Try.prog 8 Try.f8 := fnWf_of Try.func8 (by decide) (by kernel_rfl)
theorem F.laws_FnExactRunDfa_ok {R : Type} (N : Nat) (d : E.laws_FnExactRunDfa_a.D) (k : AV → List (Option Blk) → List Blk → Option R) :
    funE cfg (table [T.laws_szDfa, T.laws_toDfa N, T.spec_RunDfa N, T.impl_RunDfa N, T.laws_eqDfa N]) (ltable []) H.laws_FnExactRunDfa Try.f8 (E.laws_FnExactRunDfa_a.to d).1 (E.laws_FnExactRunDfa_a.to d).2 k =
      F.laws_FnExactRunDfa N d.1.1.1 d.1.1.2.1 d.1.1.2.2.1 d.1.1.2.2.2.1 d.1.1.2.2.2.2.1 d.1.2.1 d.1.2.2.1 fun x0 => k (E.laws_FnExactRunDfa_r.to (x0, ((), ()))).1 (E.laws_FnExactRunDfa_r.to (x0, ((), ()))).2.1 (E.laws_FnExactRunDfa_r.to (x0, ((), ()))).2.2 := by kernel_rfl
theorem TK.laws_FnExactRunDfa {R : Type} (N : Nat) : EntryOk Try.prog (T.laws_FnExactRunDfa (R := R) N) :=
  entry_fun (h := H.laws_FnExactRunDfa) hC hm (table_cons TK.laws_szDfa (table_cons (TK.laws_toDfa N) (table_cons (TK.spec_RunDfa N) (table_cons (TK.impl_RunDfa N) (table_cons (TK.laws_eqDfa N) table_nil))))) WF.f8 (fun d => ltable_nil) fun d k =>
    (congrArg (fun z => F.laws_FnExactRunDfa N d.1.1.1 d.1.1.2.1 d.1.1.2.2.1 d.1.1.2.2.2.1 d.1.1.2.2.2.2.1 d.1.2.1 d.1.2.2.1 z) (funext fun x0 => (via_to E.laws_FnExactRunDfa_r k (x0, ((), ()))).symm)).trans (F.laws_FnExactRunDfa_ok N d (fun v fin new => via E.laws_FnExactRunDfa_r k (v, fin, new))).symm
end Go.Proofs.Ytioegjpinjigkaa.fnExactRunDfa
