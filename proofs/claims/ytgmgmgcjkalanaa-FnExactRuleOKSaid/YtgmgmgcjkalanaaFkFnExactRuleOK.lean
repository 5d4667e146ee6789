/- These plain functions are what the Go functions answer. -/
import Derived.Test.YtgmgmgcjkalanaaEd
import Derived.Test.YtgmgmgcjkalanaaFdFnExactRuleOK
import Derived.Test.YtgmgmgcjkalanaaChecked
import Derived.KernelRfl
import Derived.Eval
set_option maxRecDepth 100000
set_option linter.unusedVariables false
namespace Go.Proofs.Ytgmgmgcjkalanaa.fnExactRuleOK
open Go.Ev
def cfg : Cfg := { ty := [
  (3, { sz := 1, cls := 0, offs := [], elem := 0, alen := 0, bytes := 8, zero := [.int .i64 0], ki := some (.int .i64) }),
  (4, { sz := 1, cls := 0, offs := [], elem := 0, alen := 0, bytes := 1, zero := [.bool false], ki := some .bool }),
  (29, { sz := 1, cls := 0, offs := [], elem := 3, alen := 0, bytes := 24, zero := [.nz (.int .i64)], ki := some (.lst (.int .i64)) }),
  (55, { sz := 1, cls := 0, offs := [], elem := 154, alen := 0, bytes := 24, zero := [.nz (.pair .bool (.pair .bool (.lst (.pair (.int .i64) (.pair (.lst (.pair (.int .i64) (.int .i64))) (.pair (.int .i64) (.pair (.int .i64) (.int .i64))))))))], ki := some (.lst (.pair .bool (.pair .bool (.lst (.pair (.int .i64) (.pair (.lst (.pair (.int .i64) (.int .i64))) (.pair (.int .i64) (.pair (.int .i64) (.int .i64))))))))) }),
  (57, { sz := 2, cls := 1, offs := [0, 1], elem := 0, alen := 0, bytes := 32, zero := [.nz (.pair .bool (.pair .bool (.lst (.pair (.int .i64) (.pair (.lst (.pair (.int .i64) (.int .i64))) (.pair (.int .i64) (.pair (.int .i64) (.int .i64)))))))), .int .i64 0], ki := some (.pair (.lst (.pair .bool (.pair .bool (.lst (.pair (.int .i64) (.pair (.lst (.pair (.int .i64) (.int .i64))) (.pair (.int .i64) (.pair (.int .i64) (.int .i64))))))))) (.int .i64)) }),
  (60, { sz := 1, cls := 0, offs := [], elem := 126, alen := 0, bytes := 24, zero := [.nz (.pair .bool (.pair .bool (.lst (.pair (.int .i64) (.pair (.lst (.pair (.int .i64) (.int .i64))) (.pair (.int .i64) (.pair (.int .i64) (.int .i64))))))))], ki := some (.lst (.pair .bool (.pair .bool (.lst (.pair (.int .i64) (.pair (.lst (.pair (.int .i64) (.int .i64))) (.pair (.int .i64) (.pair (.int .i64) (.int .i64))))))))) }),
  (62, { sz := 2, cls := 1, offs := [0, 1], elem := 0, alen := 0, bytes := 32, zero := [.nz (.pair .bool (.pair .bool (.lst (.pair (.int .i64) (.pair (.lst (.pair (.int .i64) (.int .i64))) (.pair (.int .i64) (.pair (.int .i64) (.int .i64)))))))), .int .i64 0], ki := some (.pair (.lst (.pair .bool (.pair .bool (.lst (.pair (.int .i64) (.pair (.lst (.pair (.int .i64) (.int .i64))) (.pair (.int .i64) (.pair (.int .i64) (.int .i64))))))))) (.int .i64)) }),
  (124, { sz := 1, cls := 0, offs := [], elem := 131, alen := 0, bytes := 24, zero := [.nz (.pair (.int .i64) (.pair (.lst (.pair (.int .i64) (.int .i64))) (.pair (.int .i64) (.pair (.int .i64) (.int .i64)))))], ki := some (.lst (.pair (.int .i64) (.pair (.lst (.pair (.int .i64) (.int .i64))) (.pair (.int .i64) (.pair (.int .i64) (.int .i64)))))) }),
  (126, { sz := 3, cls := 1, offs := [0, 1, 2], elem := 0, alen := 0, bytes := 32, zero := [.bool false, .bool false, .nz (.pair (.int .i64) (.pair (.lst (.pair (.int .i64) (.int .i64))) (.pair (.int .i64) (.pair (.int .i64) (.int .i64)))))], ki := some (.pair .bool (.pair .bool (.lst (.pair (.int .i64) (.pair (.lst (.pair (.int .i64) (.int .i64))) (.pair (.int .i64) (.pair (.int .i64) (.int .i64)))))))) }),
  (129, { sz := 1, cls := 0, offs := [], elem := 157, alen := 0, bytes := 24, zero := [.nz (.pair (.int .i64) (.int .i64))], ki := some (.lst (.pair (.int .i64) (.int .i64))) }),
  (131, { sz := 5, cls := 1, offs := [0, 1, 2, 3, 4], elem := 0, alen := 0, bytes := 56, zero := [.int .i64 0, .nz (.pair (.int .i64) (.int .i64)), .int .i64 0, .int .i64 0, .int .i64 0], ki := some (.pair (.int .i64) (.pair (.lst (.pair (.int .i64) (.int .i64))) (.pair (.int .i64) (.pair (.int .i64) (.int .i64))))) }),
  (135, { sz := 1, cls := 0, offs := [], elem := 4, alen := 3, bytes := 8, zero := [.nilm], ki := none }),
  (152, { sz := 1, cls := 0, offs := [], elem := 172, alen := 0, bytes := 24, zero := [.nz (.pair (.int .i64) (.pair (.lst (.pair (.int .i64) (.int .i64))) (.pair (.int .i64) (.pair (.int .i64) (.int .i64)))))], ki := some (.lst (.pair (.int .i64) (.pair (.lst (.pair (.int .i64) (.int .i64))) (.pair (.int .i64) (.pair (.int .i64) (.int .i64)))))) }),
  (154, { sz := 3, cls := 1, offs := [0, 1, 2], elem := 0, alen := 0, bytes := 32, zero := [.bool false, .bool false, .nz (.pair (.int .i64) (.pair (.lst (.pair (.int .i64) (.int .i64))) (.pair (.int .i64) (.pair (.int .i64) (.int .i64)))))], ki := some (.pair .bool (.pair .bool (.lst (.pair (.int .i64) (.pair (.lst (.pair (.int .i64) (.int .i64))) (.pair (.int .i64) (.pair (.int .i64) (.int .i64)))))))) }),
  (157, { sz := 2, cls := 1, offs := [0, 1], elem := 0, alen := 0, bytes := 16, zero := [.int .i64 0, .int .i64 0], ki := some (.pair (.int .i64) (.int .i64)) }),
  (170, { sz := 1, cls := 0, offs := [], elem := 179, alen := 0, bytes := 24, zero := [.nz (.pair (.int .i64) (.int .i64))], ki := some (.lst (.pair (.int .i64) (.int .i64))) }),
  (172, { sz := 5, cls := 1, offs := [0, 1, 2, 3, 4], elem := 0, alen := 0, bytes := 56, zero := [.int .i64 0, .nz (.pair (.int .i64) (.int .i64)), .int .i64 0, .int .i64 0, .int .i64 0], ki := some (.pair (.int .i64) (.pair (.lst (.pair (.int .i64) (.int .i64))) (.pair (.int .i64) (.pair (.int .i64) (.int .i64))))) }),
  (179, { sz := 2, cls := 1, offs := [0, 1], elem := 0, alen := 0, bytes := 16, zero := [.int .i64 0, .int .i64 0], ki := some (.pair (.int .i64) (.int .i64)) })], wr := [] }
theorem hC : cfgOk Try.prog cfg = true := by kernel_rfl
theorem hm : Try.prog.follows .mixedOrders = true := Checked.mixed Try.checked

/-! ### loop.example/s0007/laws.szRangeS: function 120 -/
abbrev E.laws_szRangeS_a : Enc (List AV × List Blk) := Enc.both (Enc.vals [(Enc.ro 0 (.pair (.int .i64) (.int .i64))), (Enc.int .i64)]) (Enc.all [])
abbrev E.laws_szRangeS_r : Enc (AV × List (Option Blk) × List Blk) := Enc.both (Enc.int .i64) (Enc.both (Enc.all []) (Enc.all []))
def T.laws_szRangeS {R : Type} : Entry R := { f := 120, arg := E.laws_szRangeS_a, res := E.laws_szRangeS_r, fn := fun d k => F.laws_szRangeS d.1.1 d.1.2.1 fun x0 => k (x0, ((), ())) }
def H.laws_szRangeS : Hint := []
theorem WF.f120 : FnWf Try.prog 120 Try.f120 := fnWf_of Try.func120 (by decide) (by kernel_rfl)
theorem F.laws_szRangeS_ok {R : Type} (d : E.laws_szRangeS_a.D) (k : AV → List (Option Blk) → List Blk → Option R) :
    funE cfg (table []) (ltable []) H.laws_szRangeS Try.f120 (E.laws_szRangeS_a.to d).1 (E.laws_szRangeS_a.to d).2 k =
      F.laws_szRangeS d.1.1 d.1.2.1 fun x0 => k (E.laws_szRangeS_r.to (x0, ((), ()))).1 (E.laws_szRangeS_r.to (x0, ((), ()))).2.1 (E.laws_szRangeS_r.to (x0, ((), ()))).2.2 := by kernel_rfl
theorem TK.laws_szRangeS {R : Type} : EntryOk Try.prog (T.laws_szRangeS (R := R)) :=
  entry_fun (h := H.laws_szRangeS) hC hm table_nil WF.f120 (fun d => ltable_nil) fun d k =>
    (congrArg (fun z => F.laws_szRangeS d.1.1 d.1.2.1 z) (funext fun x0 => (via_to E.laws_szRangeS_r k (x0, ((), ()))).symm)).trans (F.laws_szRangeS_ok d (fun v fin new => via E.laws_szRangeS_r k (v, fin, new))).symm

/-! ### loop.example/s0007/laws.szNode: function 117 -/
abbrev E.laws_szNode_a : Enc (List AV × List Blk) := Enc.both (Enc.vals [(Enc.agg (Enc.vals [(Enc.int .i64), (Enc.ro 0 (.pair (.int .i64) (.int .i64))), (Enc.int .i64), (Enc.int .i64), (Enc.int .i64)])), (Enc.int .i64)]) (Enc.all [])
abbrev E.laws_szNode_r : Enc (AV × List (Option Blk) × List Blk) := Enc.both (Enc.int .i64) (Enc.both (Enc.all []) (Enc.all []))
def T.laws_szNode {R : Type} : Entry R := { f := 117, arg := E.laws_szNode_a, res := E.laws_szNode_r, fn := fun d k => F.laws_szNode d.1.1.1 d.1.1.2.1 d.1.1.2.2.1 d.1.1.2.2.2.1 d.1.1.2.2.2.2.1 d.1.2.1 fun x0 => k (x0, ((), ())) }
def H.laws_szNode : Hint := []
theorem WF.f117 : FnWf Try.prog 117 Try.f117 := fnWf_of Try.func117 (by decide) (by kernel_rfl)
theorem F.laws_szNode_ok {R : Type} (d : E.laws_szNode_a.D) (k : AV → List (Option Blk) → List Blk → Option R) :
    funE cfg (table [T.laws_szRangeS]) (ltable []) H.laws_szNode Try.f117 (E.laws_szNode_a.to d).1 (E.laws_szNode_a.to d).2 k =
      F.laws_szNode d.1.1.1 d.1.1.2.1 d.1.1.2.2.1 d.1.1.2.2.2.1 d.1.1.2.2.2.2.1 d.1.2.1 fun x0 => k (E.laws_szNode_r.to (x0, ((), ()))).1 (E.laws_szNode_r.to (x0, ((), ()))).2.1 (E.laws_szNode_r.to (x0, ((), ()))).2.2 := by kernel_rfl
theorem TK.laws_szNode {R : Type} : EntryOk Try.prog (T.laws_szNode (R := R)) :=
  entry_fun (h := H.laws_szNode) hC hm (table_cons TK.laws_szRangeS table_nil) WF.f117 (fun d => ltable_nil) fun d k =>
    (congrArg (fun z => F.laws_szNode d.1.1.1 d.1.1.2.1 d.1.1.2.2.1 d.1.1.2.2.2.1 d.1.1.2.2.2.2.1 d.1.2.1 z) (funext fun x0 => (via_to E.laws_szNode_r k (x0, ((), ()))).symm)).trans (F.laws_szNode_ok d (fun v fin new => via E.laws_szNode_r k (v, fin, new))).symm

/-! ### loop.example/s0007/laws.szNodeS: function 112 -/
abbrev E.laws_szNodeS_l0_i : Enc St := Enc.st 0 (Enc.all [(Enc.key 0 (Enc.ro 0 (.pair (.int .i64) (.pair (.lst (.pair (.int .i64) (.int .i64))) (.pair (.int .i64) (.pair (.int .i64) (.int .i64))))))), (Enc.key 1 (Enc.int .i64)), (Enc.key 5 (Enc.int .i64))]) (Enc.all [])
abbrev E.laws_szNodeS_l0_oe0 : Enc St := Enc.st 0 (Enc.all [(Enc.key 1 (Enc.int .i64)), (Enc.key 4 Enc.un)]) (Enc.all [])
abbrev E.laws_szNodeS_l0_oret : Enc St := Enc.st 0 (Enc.all [(Enc.key 1 (Enc.int .i64)), (Enc.key 4 (Enc.int .i64))]) (Enc.all [])
abbrev E.laws_szNodeS_a : Enc (List AV × List Blk) := Enc.both (Enc.vals [(Enc.ro 0 (.pair (.int .i64) (.pair (.lst (.pair (.int .i64) (.int .i64))) (.pair (.int .i64) (.pair (.int .i64) (.int .i64)))))), (Enc.int .i64)]) (Enc.all [])
abbrev E.laws_szNodeS_r : Enc (AV × List (Option Blk) × List Blk) := Enc.both (Enc.int .i64) (Enc.both (Enc.all []) (Enc.all []))
def T.laws_szNodeS {R : Type} (N : Nat) : Entry R := { f := 112, arg := E.laws_szNodeS_a, res := E.laws_szNodeS_r, fn := fun d k => F.laws_szNodeS N d.1.1 d.1.2.1 fun x0 => k (x0, ((), ())) }
def H.laws_szNodeS : Hint := [(0, [0, 1, 5], [1, 4])]
theorem WF.f112 : FnWf Try.prog 112 Try.f112 := fnWf_of Try.func112 (by decide) (by kernel_rfl)
theorem F.laws_szNodeS_l0_ok {R : Type} (N : Nat) (d : E.laws_szNodeS_l0_i.D) (next : St → Option R) (out : Ex → St → Option R) :
    stepE cfg (table [T.laws_szNode]) (ltable []) 0 H.laws_szNodeS 0 (bodyOf Try.f112 0) [0, 1, 5] [1, 4] (E.laws_szNodeS_l0_i.to d) next out =
      F.laws_szNodeS_l0_s N d.1.1 d.1.2.1 d.1.2.2.1 (fun x0 x1 x2 => next (E.laws_szNodeS_l0_i.to ((x0, (x1, (x2, ()))), ()))) (fun y0 => out (.exit 0) (E.laws_szNodeS_l0_oe0.to ((y0, ((), ())), ()))) (fun y0 y1 => out .ret (E.laws_szNodeS_l0_oret.to ((y0, (y1, ())), ()))) := by kernel_rfl
def G.laws_szNodeS_l0 {R : Type} (N n : Nat) (d : E.laws_szNodeS_l0_i.D) (k : Ex → St → Option R) : Option R := F.laws_szNodeS_l0 N n d.1.1 d.1.2.1 d.1.2.2.1 (fun y0 => k (.exit 0) (E.laws_szNodeS_l0_oe0.to ((y0, ((), ())), ()))) (fun y0 y1 => k .ret (E.laws_szNodeS_l0_oret.to ((y0, (y1, ())), ())))
def TL.laws_szNodeS_l0 {R : Type} (N : Nat) : LEntry R := { b := 0, st := E.laws_szNodeS_l0_i, fn := fun d k => G.laws_szNodeS_l0 N N d k }
theorem GS.laws_szNodeS_l0 {R : Type} (N n : Nat) (d : E.laws_szNodeS_l0_i.D) (k : Ex → St → Option R) : G.laws_szNodeS_l0 N (n + 1) d k =
    stepE cfg (table [T.laws_szNode]) (ltable []) 0 H.laws_szNodeS 0 (bodyOf Try.f112 0) [0, 1, 5] [1, 4] (E.laws_szNodeS_l0_i.to d) (via E.laws_szNodeS_l0_i fun e => G.laws_szNodeS_l0 N n e k) k :=
  (show G.laws_szNodeS_l0 N (n + 1) d k = F.laws_szNodeS_l0_s N d.1.1 d.1.2.1 d.1.2.2.1 (fun x0 x1 x2 => F.laws_szNodeS_l0 N n x0 x1 x2 (fun y0 => k (.exit 0) (E.laws_szNodeS_l0_oe0.to ((y0, ((), ())), ()))) (fun y0 y1 => k .ret (E.laws_szNodeS_l0_oret.to ((y0, (y1, ())), ())))) (fun y0 => k (.exit 0) (E.laws_szNodeS_l0_oe0.to ((y0, ((), ())), ()))) (fun y0 y1 => k .ret (E.laws_szNodeS_l0_oret.to ((y0, (y1, ())), ()))) from rfl).trans
    ((congrArg (fun z => F.laws_szNodeS_l0_s N d.1.1 d.1.2.1 d.1.2.2.1 z (fun y0 => k (.exit 0) (E.laws_szNodeS_l0_oe0.to ((y0, ((), ())), ()))) (fun y0 y1 => k .ret (E.laws_szNodeS_l0_oret.to ((y0, (y1, ())), ())))) (funext fun x0 => funext fun x1 => funext fun x2 => (via_to E.laws_szNodeS_l0_i (fun e => G.laws_szNodeS_l0 N n e k) ((x0, (x1, (x2, ()))), ())).symm)).trans (F.laws_szNodeS_l0_ok N d (via E.laws_szNodeS_l0_i fun e => G.laws_szNodeS_l0 N n e k) k).symm)
theorem LK.laws_szNodeS_l0 {R : Type} (N : Nat) : LEntryOk Try.prog 0 Try.f112.ntmps (bodyOf Try.f112) (TL.laws_szNodeS_l0 (R := R) N) :=
  lentry_fun (i := [0, 1, 5]) (o := [1, 4]) (h := H.laws_szNodeS) hC hm (table_cons TK.laws_szNode table_nil) WF.f112 ltable_nil (fun d => uniq_of rfl) (fun n d k => G.laws_szNodeS_l0 N n d k) N (fun _ _ => rfl) (fun _ _ => rfl) (fun n d k => GS.laws_szNodeS_l0 N n d k)
theorem F.laws_szNodeS_ok {R : Type} (N : Nat) (d : E.laws_szNodeS_a.D) (k : AV → List (Option Blk) → List Blk → Option R) :
    funE cfg (table []) (ltable [TL.laws_szNodeS_l0 N]) H.laws_szNodeS Try.f112 (E.laws_szNodeS_a.to d).1 (E.laws_szNodeS_a.to d).2 k =
      F.laws_szNodeS N d.1.1 d.1.2.1 fun x0 => k (E.laws_szNodeS_r.to (x0, ((), ()))).1 (E.laws_szNodeS_r.to (x0, ((), ()))).2.1 (E.laws_szNodeS_r.to (x0, ((), ()))).2.2 := by kernel_rfl
theorem TK.laws_szNodeS {R : Type} (N : Nat) : EntryOk Try.prog (T.laws_szNodeS (R := R) N) :=
  entry_fun (h := H.laws_szNodeS) hC hm table_nil WF.f112 (fun d => (ltable_cons (LK.laws_szNodeS_l0 N) ltable_nil)) fun d k =>
    (congrArg (fun z => F.laws_szNodeS N d.1.1 d.1.2.1 z) (funext fun x0 => (via_to E.laws_szNodeS_r k (x0, ((), ()))).symm)).trans (F.laws_szNodeS_ok N d (fun v fin new => via E.laws_szNodeS_r k (v, fin, new))).symm

/-! ### loop.example/s0007/laws.szBranch: function 103 -/
abbrev E.laws_szBranch_a : Enc (List AV × List Blk) := Enc.both (Enc.vals [(Enc.agg (Enc.vals [Enc.bool, Enc.bool, (Enc.ro 0 (.pair (.int .i64) (.pair (.lst (.pair (.int .i64) (.int .i64))) (.pair (.int .i64) (.pair (.int .i64) (.int .i64))))))])), (Enc.int .i64)]) (Enc.all [])
abbrev E.laws_szBranch_r : Enc (AV × List (Option Blk) × List Blk) := Enc.both (Enc.int .i64) (Enc.both (Enc.all []) (Enc.all []))
def T.laws_szBranch {R : Type} (N : Nat) : Entry R := { f := 103, arg := E.laws_szBranch_a, res := E.laws_szBranch_r, fn := fun d k => F.laws_szBranch N d.1.1.1 d.1.1.2.1 d.1.1.2.2.1 d.1.2.1 fun x0 => k (x0, ((), ())) }
def H.laws_szBranch : Hint := []
theorem WF.f103 : FnWf Try.prog 103 Try.f103 := fnWf_of Try.func103 (by decide) (by kernel_rfl)
theorem F.laws_szBranch_ok {R : Type} (N : Nat) (d : E.laws_szBranch_a.D) (k : AV → List (Option Blk) → List Blk → Option R) :
    funE cfg (table [T.laws_szNodeS N]) (ltable []) H.laws_szBranch Try.f103 (E.laws_szBranch_a.to d).1 (E.laws_szBranch_a.to d).2 k =
      F.laws_szBranch N d.1.1.1 d.1.1.2.1 d.1.1.2.2.1 d.1.2.1 fun x0 => k (E.laws_szBranch_r.to (x0, ((), ()))).1 (E.laws_szBranch_r.to (x0, ((), ()))).2.1 (E.laws_szBranch_r.to (x0, ((), ()))).2.2 := by kernel_rfl
theorem TK.laws_szBranch {R : Type} (N : Nat) : EntryOk Try.prog (T.laws_szBranch (R := R) N) :=
  entry_fun (h := H.laws_szBranch) hC hm (table_cons (TK.laws_szNodeS N) table_nil) WF.f103 (fun d => ltable_nil) fun d k =>
    (congrArg (fun z => F.laws_szBranch N d.1.1.1 d.1.1.2.1 d.1.1.2.2.1 d.1.2.1 z) (funext fun x0 => (via_to E.laws_szBranch_r k (x0, ((), ()))).symm)).trans (F.laws_szBranch_ok N d (fun v fin new => via E.laws_szBranch_r k (v, fin, new))).symm

/-! ### loop.example/s0007/laws.szBranchS: function 79 -/
abbrev E.laws_szBranchS_l0_i : Enc St := Enc.st 0 (Enc.all [(Enc.key 0 (Enc.ro 0 (.pair .bool (.pair .bool (.lst (.pair (.int .i64) (.pair (.lst (.pair (.int .i64) (.int .i64))) (.pair (.int .i64) (.pair (.int .i64) (.int .i64)))))))))), (Enc.key 1 (Enc.int .i64)), (Enc.key 5 (Enc.int .i64))]) (Enc.all [])
abbrev E.laws_szBranchS_l0_oe0 : Enc St := Enc.st 0 (Enc.all [(Enc.key 1 (Enc.int .i64)), (Enc.key 4 Enc.un)]) (Enc.all [])
abbrev E.laws_szBranchS_l0_oret : Enc St := Enc.st 0 (Enc.all [(Enc.key 1 (Enc.int .i64)), (Enc.key 4 (Enc.int .i64))]) (Enc.all [])
abbrev E.laws_szBranchS_a : Enc (List AV × List Blk) := Enc.both (Enc.vals [(Enc.ro 0 (.pair .bool (.pair .bool (.lst (.pair (.int .i64) (.pair (.lst (.pair (.int .i64) (.int .i64))) (.pair (.int .i64) (.pair (.int .i64) (.int .i64))))))))), (Enc.int .i64)]) (Enc.all [])
abbrev E.laws_szBranchS_r : Enc (AV × List (Option Blk) × List Blk) := Enc.both (Enc.int .i64) (Enc.both (Enc.all []) (Enc.all []))
def T.laws_szBranchS {R : Type} (N : Nat) : Entry R := { f := 79, arg := E.laws_szBranchS_a, res := E.laws_szBranchS_r, fn := fun d k => F.laws_szBranchS N d.1.1 d.1.2.1 fun x0 => k (x0, ((), ())) }
def H.laws_szBranchS : Hint := [(0, [0, 1, 5], [1, 4])]
theorem WF.f79 : FnWf Try.prog 79 Try.f79 := fnWf_of Try.func79 (by decide) (by kernel_rfl)
theorem F.laws_szBranchS_l0_ok {R : Type} (N : Nat) (d : E.laws_szBranchS_l0_i.D) (next : St → Option R) (out : Ex → St → Option R) :
    stepE cfg (table [T.laws_szBranch N]) (ltable []) 0 H.laws_szBranchS 0 (bodyOf Try.f79 0) [0, 1, 5] [1, 4] (E.laws_szBranchS_l0_i.to d) next out =
      F.laws_szBranchS_l0_s N d.1.1 d.1.2.1 d.1.2.2.1 (fun x0 x1 x2 => next (E.laws_szBranchS_l0_i.to ((x0, (x1, (x2, ()))), ()))) (fun y0 => out (.exit 0) (E.laws_szBranchS_l0_oe0.to ((y0, ((), ())), ()))) (fun y0 y1 => out .ret (E.laws_szBranchS_l0_oret.to ((y0, (y1, ())), ()))) := by kernel_rfl
def G.laws_szBranchS_l0 {R : Type} (N n : Nat) (d : E.laws_szBranchS_l0_i.D) (k : Ex → St → Option R) : Option R := F.laws_szBranchS_l0 N n d.1.1 d.1.2.1 d.1.2.2.1 (fun y0 => k (.exit 0) (E.laws_szBranchS_l0_oe0.to ((y0, ((), ())), ()))) (fun y0 y1 => k .ret (E.laws_szBranchS_l0_oret.to ((y0, (y1, ())), ())))
def TL.laws_szBranchS_l0 {R : Type} (N : Nat) : LEntry R := { b := 0, st := E.laws_szBranchS_l0_i, fn := fun d k => G.laws_szBranchS_l0 N N d k }
theorem GS.laws_szBranchS_l0 {R : Type} (N n : Nat) (d : E.laws_szBranchS_l0_i.D) (k : Ex → St → Option R) : G.laws_szBranchS_l0 N (n + 1) d k =
    stepE cfg (table [T.laws_szBranch N]) (ltable []) 0 H.laws_szBranchS 0 (bodyOf Try.f79 0) [0, 1, 5] [1, 4] (E.laws_szBranchS_l0_i.to d) (via E.laws_szBranchS_l0_i fun e => G.laws_szBranchS_l0 N n e k) k :=
  (show G.laws_szBranchS_l0 N (n + 1) d k = F.laws_szBranchS_l0_s N d.1.1 d.1.2.1 d.1.2.2.1 (fun x0 x1 x2 => F.laws_szBranchS_l0 N n x0 x1 x2 (fun y0 => k (.exit 0) (E.laws_szBranchS_l0_oe0.to ((y0, ((), ())), ()))) (fun y0 y1 => k .ret (E.laws_szBranchS_l0_oret.to ((y0, (y1, ())), ())))) (fun y0 => k (.exit 0) (E.laws_szBranchS_l0_oe0.to ((y0, ((), ())), ()))) (fun y0 y1 => k .ret (E.laws_szBranchS_l0_oret.to ((y0, (y1, ())), ()))) from rfl).trans
    ((congrArg (fun z => F.laws_szBranchS_l0_s N d.1.1 d.1.2.1 d.1.2.2.1 z (fun y0 => k (.exit 0) (E.laws_szBranchS_l0_oe0.to ((y0, ((), ())), ()))) (fun y0 y1 => k .ret (E.laws_szBranchS_l0_oret.to ((y0, (y1, ())), ())))) (funext fun x0 => funext fun x1 => funext fun x2 => (via_to E.laws_szBranchS_l0_i (fun e => G.laws_szBranchS_l0 N n e k) ((x0, (x1, (x2, ()))), ())).symm)).trans (F.laws_szBranchS_l0_ok N d (via E.laws_szBranchS_l0_i fun e => G.laws_szBranchS_l0 N n e k) k).symm)
theorem LK.laws_szBranchS_l0 {R : Type} (N : Nat) : LEntryOk Try.prog 0 Try.f79.ntmps (bodyOf Try.f79) (TL.laws_szBranchS_l0 (R := R) N) :=
  lentry_fun (i := [0, 1, 5]) (o := [1, 4]) (h := H.laws_szBranchS) hC hm (table_cons (TK.laws_szBranch N) table_nil) WF.f79 ltable_nil (fun d => uniq_of rfl) (fun n d k => G.laws_szBranchS_l0 N n d k) N (fun _ _ => rfl) (fun _ _ => rfl) (fun n d k => GS.laws_szBranchS_l0 N n d k)
theorem F.laws_szBranchS_ok {R : Type} (N : Nat) (d : E.laws_szBranchS_a.D) (k : AV → List (Option Blk) → List Blk → Option R) :
    funE cfg (table []) (ltable [TL.laws_szBranchS_l0 N]) H.laws_szBranchS Try.f79 (E.laws_szBranchS_a.to d).1 (E.laws_szBranchS_a.to d).2 k =
      F.laws_szBranchS N d.1.1 d.1.2.1 fun x0 => k (E.laws_szBranchS_r.to (x0, ((), ()))).1 (E.laws_szBranchS_r.to (x0, ((), ()))).2.1 (E.laws_szBranchS_r.to (x0, ((), ()))).2.2 := by kernel_rfl
theorem TK.laws_szBranchS {R : Type} (N : Nat) : EntryOk Try.prog (T.laws_szBranchS (R := R) N) :=
  entry_fun (h := H.laws_szBranchS) hC hm table_nil WF.f79 (fun d => (ltable_cons (LK.laws_szBranchS_l0 N) ltable_nil)) fun d k =>
    (congrArg (fun z => F.laws_szBranchS N d.1.1 d.1.2.1 z) (funext fun x0 => (via_to E.laws_szBranchS_r k (x0, ((), ()))).symm)).trans (F.laws_szBranchS_ok N d (fun v fin new => via E.laws_szBranchS_r k (v, fin, new))).symm

/-! ### loop.example/s0007/laws.szRule: function 38 -/
abbrev E.laws_szRule_a : Enc (List AV × List Blk) := Enc.both (Enc.vals [(Enc.agg (Enc.vals [(Enc.ro 0 (.pair .bool (.pair .bool (.lst (.pair (.int .i64) (.pair (.lst (.pair (.int .i64) (.int .i64))) (.pair (.int .i64) (.pair (.int .i64) (.int .i64))))))))), (Enc.int .i64)])), (Enc.int .i64)]) (Enc.all [])
abbrev E.laws_szRule_r : Enc (AV × List (Option Blk) × List Blk) := Enc.both (Enc.int .i64) (Enc.both (Enc.all []) (Enc.all []))
def T.laws_szRule {R : Type} (N : Nat) : Entry R := { f := 38, arg := E.laws_szRule_a, res := E.laws_szRule_r, fn := fun d k => F.laws_szRule N d.1.1.1 d.1.1.2.1 d.1.2.1 fun x0 => k (x0, ((), ())) }
def H.laws_szRule : Hint := []
theorem WF.f38 : FnWf Try.prog 38 Try.f38 := fnWf_of Try.func38 (by decide) (by kernel_rfl)
theorem F.laws_szRule_ok {R : Type} (N : Nat) (d : E.laws_szRule_a.D) (k : AV → List (Option Blk) → List Blk → Option R) :
    funE cfg (table [T.laws_szBranchS N]) (ltable []) H.laws_szRule Try.f38 (E.laws_szRule_a.to d).1 (E.laws_szRule_a.to d).2 k =
      F.laws_szRule N d.1.1.1 d.1.1.2.1 d.1.2.1 fun x0 => k (E.laws_szRule_r.to (x0, ((), ()))).1 (E.laws_szRule_r.to (x0, ((), ()))).2.1 (E.laws_szRule_r.to (x0, ((), ()))).2.2 := by kernel_rfl
theorem TK.laws_szRule {R : Type} (N : Nat) : EntryOk Try.prog (T.laws_szRule (R := R) N) :=
  entry_fun (h := H.laws_szRule) hC hm (table_cons (TK.laws_szBranchS N) table_nil) WF.f38 (fun d => ltable_nil) fun d k =>
    (congrArg (fun z => F.laws_szRule N d.1.1.1 d.1.1.2.1 d.1.2.1 z) (funext fun x0 => (via_to E.laws_szRule_r k (x0, ((), ()))).symm)).trans (F.laws_szRule_ok N d (fun v fin new => via E.laws_szRule_r k (v, fin, new))).symm

/-! ### loop.example/s0007/laws.toRange: function 123 -/
abbrev E.laws_toRange_a : Enc (List AV × List Blk) := Enc.both (Enc.vals [(Enc.agg (Enc.vals [(Enc.int .i64), (Enc.int .i64)]))]) (Enc.all [])
abbrev E.laws_toRange_r : Enc (AV × List (Option Blk) × List Blk) := Enc.both (Enc.agg (Enc.vals [(Enc.int .i64), (Enc.int .i64)])) (Enc.both (Enc.all []) (Enc.all []))
def T.laws_toRange {R : Type} : Entry R := { f := 123, arg := E.laws_toRange_a, res := E.laws_toRange_r, fn := fun d k => F.laws_toRange d.1.1.1 d.1.1.2.1 fun x0 x1 => k ((x0, (x1, ())), ((), ())) }
def H.laws_toRange : Hint := []
theorem WF.f123 : FnWf Try.prog 123 Try.f123 := fnWf_of Try.func123 (by decide) (by kernel_rfl)
theorem F.laws_toRange_ok {R : Type} (d : E.laws_toRange_a.D) (k : AV → List (Option Blk) → List Blk → Option R) :
    funE cfg (table []) (ltable []) H.laws_toRange Try.f123 (E.laws_toRange_a.to d).1 (E.laws_toRange_a.to d).2 k =
      F.laws_toRange d.1.1.1 d.1.1.2.1 fun x0 x1 => k (E.laws_toRange_r.to ((x0, (x1, ())), ((), ()))).1 (E.laws_toRange_r.to ((x0, (x1, ())), ((), ()))).2.1 (E.laws_toRange_r.to ((x0, (x1, ())), ((), ()))).2.2 := by kernel_rfl
theorem TK.laws_toRange {R : Type} : EntryOk Try.prog (T.laws_toRange (R := R)) :=
  entry_fun (h := H.laws_toRange) hC hm table_nil WF.f123 (fun d => ltable_nil) fun d k =>
    (congrArg (fun z => F.laws_toRange d.1.1.1 d.1.1.2.1 z) (funext fun x0 => funext fun x1 => (via_to E.laws_toRange_r k ((x0, (x1, ())), ((), ()))).symm)).trans (F.laws_toRange_ok d (fun v fin new => via E.laws_toRange_r k (v, fin, new))).symm

/-! ### loop.example/s0007/laws.toRangeS: function 121 -/
abbrev E.laws_toRangeS_l0_i : Enc St := Enc.st 1 (Enc.all [(Enc.key 0 (Enc.ro 0 (.pair (.int .i64) (.int .i64)))), (Enc.key 3 (Enc.sl 0)), (Enc.key 4 (Enc.int .i64))]) (Enc.all [(Enc.key 0 (Enc.cell (Enc.vals [(Enc.rw (.pair (.int .i64) (.int .i64)))])))])
abbrev E.laws_toRangeS_l0_oe0 : Enc St := Enc.st 1 (Enc.all [(Enc.key 3 (Enc.sl 0))]) (Enc.all [(Enc.key 0 (Enc.cell (Enc.vals [(Enc.rw (.pair (.int .i64) (.int .i64)))])))])
abbrev E.laws_toRangeS_a : Enc (List AV × List Blk) := Enc.both (Enc.vals [(Enc.ro 0 (.pair (.int .i64) (.int .i64)))]) (Enc.all [])
abbrev E.laws_toRangeS_r : Enc (AV × List (Option Blk) × List Blk) := Enc.both (Enc.sl 0) (Enc.both (Enc.all []) (Enc.all [(Enc.cell (Enc.vals [(Enc.rw (.pair (.int .i64) (.int .i64)))]))]))
def T.laws_toRangeS {R : Type} (N : Nat) : Entry R := { f := 121, arg := E.laws_toRangeS_a, res := E.laws_toRangeS_r, fn := fun d k => F.laws_toRangeS N d.1.1 fun x0 => k ((), ((), ((x0, ()), ()))) }
def H.laws_toRangeS : Hint := [(0, [0, 3, 4], [3])]
theorem WF.f121 : FnWf Try.prog 121 Try.f121 := fnWf_of Try.func121 (by decide) (by kernel_rfl)
theorem F.laws_toRangeS_l0_ok {R : Type} (N : Nat) (d : E.laws_toRangeS_l0_i.D) (next : St → Option R) (out : Ex → St → Option R) :
    stepE cfg (table [T.laws_toRange]) (ltable []) 0 H.laws_toRangeS 0 (bodyOf Try.f121 0) [0, 3, 4] [3] (E.laws_toRangeS_l0_i.to d) next out =
      F.laws_toRangeS_l0_s N d.1.1 d.1.2.2.1 d.2.1.1 (fun x0 x1 x2 => next (E.laws_toRangeS_l0_i.to ((x0, ((), (x1, ()))), ((x2, ()), ())))) (fun y0 => out (.exit 0) (E.laws_toRangeS_l0_oe0.to (((), ()), ((y0, ()), ())))) := by kernel_rfl
def G.laws_toRangeS_l0 {R : Type} (N n : Nat) (d : E.laws_toRangeS_l0_i.D) (k : Ex → St → Option R) : Option R := F.laws_toRangeS_l0 N n d.1.1 d.1.2.2.1 d.2.1.1 (fun y0 => k (.exit 0) (E.laws_toRangeS_l0_oe0.to (((), ()), ((y0, ()), ()))))
def TL.laws_toRangeS_l0 {R : Type} (N : Nat) : LEntry R := { b := 0, st := E.laws_toRangeS_l0_i, fn := fun d k => G.laws_toRangeS_l0 N N d k }
theorem GS.laws_toRangeS_l0 {R : Type} (N n : Nat) (d : E.laws_toRangeS_l0_i.D) (k : Ex → St → Option R) : G.laws_toRangeS_l0 N (n + 1) d k =
    stepE cfg (table [T.laws_toRange]) (ltable []) 0 H.laws_toRangeS 0 (bodyOf Try.f121 0) [0, 3, 4] [3] (E.laws_toRangeS_l0_i.to d) (via E.laws_toRangeS_l0_i fun e => G.laws_toRangeS_l0 N n e k) k :=
  (show G.laws_toRangeS_l0 N (n + 1) d k = F.laws_toRangeS_l0_s N d.1.1 d.1.2.2.1 d.2.1.1 (fun x0 x1 x2 => F.laws_toRangeS_l0 N n x0 x1 x2 (fun y0 => k (.exit 0) (E.laws_toRangeS_l0_oe0.to (((), ()), ((y0, ()), ()))))) (fun y0 => k (.exit 0) (E.laws_toRangeS_l0_oe0.to (((), ()), ((y0, ()), ())))) from rfl).trans
    ((congrArg (fun z => F.laws_toRangeS_l0_s N d.1.1 d.1.2.2.1 d.2.1.1 z (fun y0 => k (.exit 0) (E.laws_toRangeS_l0_oe0.to (((), ()), ((y0, ()), ()))))) (funext fun x0 => funext fun x1 => funext fun x2 => (via_to E.laws_toRangeS_l0_i (fun e => G.laws_toRangeS_l0 N n e k) ((x0, ((), (x1, ()))), ((x2, ()), ()))).symm)).trans (F.laws_toRangeS_l0_ok N d (via E.laws_toRangeS_l0_i fun e => G.laws_toRangeS_l0 N n e k) k).symm)
theorem LK.laws_toRangeS_l0 {R : Type} (N : Nat) : LEntryOk Try.prog 0 Try.f121.ntmps (bodyOf Try.f121) (TL.laws_toRangeS_l0 (R := R) N) :=
  lentry_fun (i := [0, 3, 4]) (o := [3]) (h := H.laws_toRangeS) hC hm (table_cons TK.laws_toRange table_nil) WF.f121 ltable_nil (fun d => uniq_of rfl) (fun n d k => G.laws_toRangeS_l0 N n d k) N (fun _ _ => rfl) (fun _ _ => rfl) (fun n d k => GS.laws_toRangeS_l0 N n d k)
theorem F.laws_toRangeS_ok {R : Type} (N : Nat) (d : E.laws_toRangeS_a.D) (k : AV → List (Option Blk) → List Blk → Option R) :
    funE cfg (table []) (ltable [TL.laws_toRangeS_l0 N]) H.laws_toRangeS Try.f121 (E.laws_toRangeS_a.to d).1 (E.laws_toRangeS_a.to d).2 k =
      F.laws_toRangeS N d.1.1 fun x0 => k (E.laws_toRangeS_r.to ((), ((), ((x0, ()), ())))).1 (E.laws_toRangeS_r.to ((), ((), ((x0, ()), ())))).2.1 (E.laws_toRangeS_r.to ((), ((), ((x0, ()), ())))).2.2 := by kernel_rfl
theorem TK.laws_toRangeS {R : Type} (N : Nat) : EntryOk Try.prog (T.laws_toRangeS (R := R) N) :=
  entry_fun (h := H.laws_toRangeS) hC hm table_nil WF.f121 (fun d => (ltable_cons (LK.laws_toRangeS_l0 N) ltable_nil)) fun d k =>
    (congrArg (fun z => F.laws_toRangeS N d.1.1 z) (funext fun x0 => (via_to E.laws_toRangeS_r k ((), ((), ((x0, ()), ())))).symm)).trans (F.laws_toRangeS_ok N d (fun v fin new => via E.laws_toRangeS_r k (v, fin, new))).symm

/-! ### loop.example/s0007/laws.toNode: function 118 -/
abbrev E.laws_toNode_a : Enc (List AV × List Blk) := Enc.both (Enc.vals [(Enc.agg (Enc.vals [(Enc.int .i64), (Enc.ro 0 (.pair (.int .i64) (.int .i64))), (Enc.int .i64), (Enc.int .i64), (Enc.int .i64)]))]) (Enc.all [])
abbrev E.laws_toNode_r : Enc (AV × List (Option Blk) × List Blk) := Enc.both (Enc.agg (Enc.vals [(Enc.int .i64), (Enc.sl 0), (Enc.int .i64), (Enc.int .i64), (Enc.int .i64)])) (Enc.both (Enc.all []) (Enc.all [(Enc.cell (Enc.vals [(Enc.rw (.pair (.int .i64) (.int .i64)))]))]))
def T.laws_toNode {R : Type} (N : Nat) : Entry R := { f := 118, arg := E.laws_toNode_a, res := E.laws_toNode_r, fn := fun d k => F.laws_toNode N d.1.1.1 d.1.1.2.1 d.1.1.2.2.1 d.1.1.2.2.2.1 d.1.1.2.2.2.2.1 fun x0 x1 x2 x3 x4 => k ((x0, ((), (x1, (x2, (x3, ()))))), ((), ((x4, ()), ()))) }
def H.laws_toNode : Hint := []
theorem WF.f118 : FnWf Try.prog 118 Try.f118 := fnWf_of Try.func118 (by decide) (by kernel_rfl)
theorem F.laws_toNode_ok {R : Type} (N : Nat) (d : E.laws_toNode_a.D) (k : AV → List (Option Blk) → List Blk → Option R) :
    funE cfg (table [T.laws_toRangeS N]) (ltable []) H.laws_toNode Try.f118 (E.laws_toNode_a.to d).1 (E.laws_toNode_a.to d).2 k =
      F.laws_toNode N d.1.1.1 d.1.1.2.1 d.1.1.2.2.1 d.1.1.2.2.2.1 d.1.1.2.2.2.2.1 fun x0 x1 x2 x3 x4 => k (E.laws_toNode_r.to ((x0, ((), (x1, (x2, (x3, ()))))), ((), ((x4, ()), ())))).1 (E.laws_toNode_r.to ((x0, ((), (x1, (x2, (x3, ()))))), ((), ((x4, ()), ())))).2.1 (E.laws_toNode_r.to ((x0, ((), (x1, (x2, (x3, ()))))), ((), ((x4, ()), ())))).2.2 := by kernel_rfl
theorem TK.laws_toNode {R : Type} (N : Nat) : EntryOk Try.prog (T.laws_toNode (R := R) N) :=
  entry_fun (h := H.laws_toNode) hC hm (table_cons (TK.laws_toRangeS N) table_nil) WF.f118 (fun d => ltable_nil) fun d k =>
    (congrArg (fun z => F.laws_toNode N d.1.1.1 d.1.1.2.1 d.1.1.2.2.1 d.1.1.2.2.2.1 d.1.1.2.2.2.2.1 z) (funext fun x0 => funext fun x1 => funext fun x2 => funext fun x3 => funext fun x4 => (via_to E.laws_toNode_r k ((x0, ((), (x1, (x2, (x3, ()))))), ((), ((x4, ()), ())))).symm)).trans (F.laws_toNode_ok N d (fun v fin new => via E.laws_toNode_r k (v, fin, new))).symm

/-! ### loop.example/s0007/laws.toNodeS: function 114 -/
abbrev E.laws_toNodeS_l0_i : Enc St := Enc.st 1 (Enc.all [(Enc.key 0 (Enc.ro 0 (.pair (.int .i64) (.pair (.lst (.pair (.int .i64) (.int .i64))) (.pair (.int .i64) (.pair (.int .i64) (.int .i64))))))), (Enc.key 3 (Enc.sl 0)), (Enc.key 4 (Enc.int .i64))]) (Enc.all [(Enc.key 0 (Enc.cell (Enc.vals [(Enc.rw (.pair (.int .i64) (.pair (.lst (.pair (.int .i64) (.int .i64))) (.pair (.int .i64) (.pair (.int .i64) (.int .i64))))))])))])
abbrev E.laws_toNodeS_l0_oe0 : Enc St := Enc.st 1 (Enc.all [(Enc.key 3 (Enc.sl 0))]) (Enc.all [(Enc.key 0 (Enc.cell (Enc.vals [(Enc.rw (.pair (.int .i64) (.pair (.lst (.pair (.int .i64) (.int .i64))) (.pair (.int .i64) (.pair (.int .i64) (.int .i64))))))])))])
abbrev E.laws_toNodeS_a : Enc (List AV × List Blk) := Enc.both (Enc.vals [(Enc.ro 0 (.pair (.int .i64) (.pair (.lst (.pair (.int .i64) (.int .i64))) (.pair (.int .i64) (.pair (.int .i64) (.int .i64))))))]) (Enc.all [])
abbrev E.laws_toNodeS_r : Enc (AV × List (Option Blk) × List Blk) := Enc.both (Enc.sl 0) (Enc.both (Enc.all []) (Enc.all [(Enc.cell (Enc.vals [(Enc.rw (.pair (.int .i64) (.pair (.lst (.pair (.int .i64) (.int .i64))) (.pair (.int .i64) (.pair (.int .i64) (.int .i64))))))]))]))
def T.laws_toNodeS {R : Type} (N : Nat) : Entry R := { f := 114, arg := E.laws_toNodeS_a, res := E.laws_toNodeS_r, fn := fun d k => F.laws_toNodeS N d.1.1 fun x0 => k ((), ((), ((x0, ()), ()))) }
def H.laws_toNodeS : Hint := [(0, [0, 3, 4], [3])]
theorem WF.f114 : FnWf Try.prog 114 Try.f114 := fnWf_of Try.func114 (by decide) (by kernel_rfl)
theorem F.laws_toNodeS_l0_ok {R : Type} (N : Nat) (d : E.laws_toNodeS_l0_i.D) (next : St → Option R) (out : Ex → St → Option R) :
    stepE cfg (table [T.laws_toNode N]) (ltable []) 0 H.laws_toNodeS 0 (bodyOf Try.f114 0) [0, 3, 4] [3] (E.laws_toNodeS_l0_i.to d) next out =
      F.laws_toNodeS_l0_s N d.1.1 d.1.2.2.1 d.2.1.1 (fun x0 x1 x2 => next (E.laws_toNodeS_l0_i.to ((x0, ((), (x1, ()))), ((x2, ()), ())))) (fun y0 => out (.exit 0) (E.laws_toNodeS_l0_oe0.to (((), ()), ((y0, ()), ())))) := by kernel_rfl
def G.laws_toNodeS_l0 {R : Type} (N n : Nat) (d : E.laws_toNodeS_l0_i.D) (k : Ex → St → Option R) : Option R := F.laws_toNodeS_l0 N n d.1.1 d.1.2.2.1 d.2.1.1 (fun y0 => k (.exit 0) (E.laws_toNodeS_l0_oe0.to (((), ()), ((y0, ()), ()))))
def TL.laws_toNodeS_l0 {R : Type} (N : Nat) : LEntry R := { b := 0, st := E.laws_toNodeS_l0_i, fn := fun d k => G.laws_toNodeS_l0 N N d k }
theorem GS.laws_toNodeS_l0 {R : Type} (N n : Nat) (d : E.laws_toNodeS_l0_i.D) (k : Ex → St → Option R) : G.laws_toNodeS_l0 N (n + 1) d k =
    stepE cfg (table [T.laws_toNode N]) (ltable []) 0 H.laws_toNodeS 0 (bodyOf Try.f114 0) [0, 3, 4] [3] (E.laws_toNodeS_l0_i.to d) (via E.laws_toNodeS_l0_i fun e => G.laws_toNodeS_l0 N n e k) k :=
  (show G.laws_toNodeS_l0 N (n + 1) d k = F.laws_toNodeS_l0_s N d.1.1 d.1.2.2.1 d.2.1.1 (fun x0 x1 x2 => F.laws_toNodeS_l0 N n x0 x1 x2 (fun y0 => k (.exit 0) (E.laws_toNodeS_l0_oe0.to (((), ()), ((y0, ()), ()))))) (fun y0 => k (.exit 0) (E.laws_toNodeS_l0_oe0.to (((), ()), ((y0, ()), ())))) from rfl).trans
    ((congrArg (fun z => F.laws_toNodeS_l0_s N d.1.1 d.1.2.2.1 d.2.1.1 z (fun y0 => k (.exit 0) (E.laws_toNodeS_l0_oe0.to (((), ()), ((y0, ()), ()))))) (funext fun x0 => funext fun x1 => funext fun x2 => (via_to E.laws_toNodeS_l0_i (fun e => G.laws_toNodeS_l0 N n e k) ((x0, ((), (x1, ()))), ((x2, ()), ()))).symm)).trans (F.laws_toNodeS_l0_ok N d (via E.laws_toNodeS_l0_i fun e => G.laws_toNodeS_l0 N n e k) k).symm)
theorem LK.laws_toNodeS_l0 {R : Type} (N : Nat) : LEntryOk Try.prog 0 Try.f114.ntmps (bodyOf Try.f114) (TL.laws_toNodeS_l0 (R := R) N) :=
  lentry_fun (i := [0, 3, 4]) (o := [3]) (h := H.laws_toNodeS) hC hm (table_cons (TK.laws_toNode N) table_nil) WF.f114 ltable_nil (fun d => uniq_of rfl) (fun n d k => G.laws_toNodeS_l0 N n d k) N (fun _ _ => rfl) (fun _ _ => rfl) (fun n d k => GS.laws_toNodeS_l0 N n d k)
theorem F.laws_toNodeS_ok {R : Type} (N : Nat) (d : E.laws_toNodeS_a.D) (k : AV → List (Option Blk) → List Blk → Option R) :
    funE cfg (table []) (ltable [TL.laws_toNodeS_l0 N]) H.laws_toNodeS Try.f114 (E.laws_toNodeS_a.to d).1 (E.laws_toNodeS_a.to d).2 k =
      F.laws_toNodeS N d.1.1 fun x0 => k (E.laws_toNodeS_r.to ((), ((), ((x0, ()), ())))).1 (E.laws_toNodeS_r.to ((), ((), ((x0, ()), ())))).2.1 (E.laws_toNodeS_r.to ((), ((), ((x0, ()), ())))).2.2 := by kernel_rfl
theorem TK.laws_toNodeS {R : Type} (N : Nat) : EntryOk Try.prog (T.laws_toNodeS (R := R) N) :=
  entry_fun (h := H.laws_toNodeS) hC hm table_nil WF.f114 (fun d => (ltable_cons (LK.laws_toNodeS_l0 N) ltable_nil)) fun d k =>
    (congrArg (fun z => F.laws_toNodeS N d.1.1 z) (funext fun x0 => (via_to E.laws_toNodeS_r k ((), ((), ((x0, ()), ())))).symm)).trans (F.laws_toNodeS_ok N d (fun v fin new => via E.laws_toNodeS_r k (v, fin, new))).symm

/-! ### loop.example/s0007/laws.toBranch: function 106 -/
abbrev E.laws_toBranch_a : Enc (List AV × List Blk) := Enc.both (Enc.vals [(Enc.agg (Enc.vals [Enc.bool, Enc.bool, (Enc.ro 0 (.pair (.int .i64) (.pair (.lst (.pair (.int .i64) (.int .i64))) (.pair (.int .i64) (.pair (.int .i64) (.int .i64))))))]))]) (Enc.all [])
abbrev E.laws_toBranch_r : Enc (AV × List (Option Blk) × List Blk) := Enc.both (Enc.agg (Enc.vals [Enc.bool, Enc.bool, (Enc.sl 0)])) (Enc.both (Enc.all []) (Enc.all [(Enc.cell (Enc.vals [(Enc.rw (.pair (.int .i64) (.pair (.lst (.pair (.int .i64) (.int .i64))) (.pair (.int .i64) (.pair (.int .i64) (.int .i64))))))]))]))
def T.laws_toBranch {R : Type} (N : Nat) : Entry R := { f := 106, arg := E.laws_toBranch_a, res := E.laws_toBranch_r, fn := fun d k => F.laws_toBranch N d.1.1.1 d.1.1.2.1 d.1.1.2.2.1 fun x0 x1 x2 => k ((x0, (x1, ((), ()))), ((), ((x2, ()), ()))) }
def H.laws_toBranch : Hint := []
theorem WF.f106 : FnWf Try.prog 106 Try.f106 := fnWf_of Try.func106 (by decide) (by kernel_rfl)
theorem F.laws_toBranch_ok {R : Type} (N : Nat) (d : E.laws_toBranch_a.D) (k : AV → List (Option Blk) → List Blk → Option R) :
    funE cfg (table [T.laws_toNodeS N]) (ltable []) H.laws_toBranch Try.f106 (E.laws_toBranch_a.to d).1 (E.laws_toBranch_a.to d).2 k =
      F.laws_toBranch N d.1.1.1 d.1.1.2.1 d.1.1.2.2.1 fun x0 x1 x2 => k (E.laws_toBranch_r.to ((x0, (x1, ((), ()))), ((), ((x2, ()), ())))).1 (E.laws_toBranch_r.to ((x0, (x1, ((), ()))), ((), ((x2, ()), ())))).2.1 (E.laws_toBranch_r.to ((x0, (x1, ((), ()))), ((), ((x2, ()), ())))).2.2 := by kernel_rfl
theorem TK.laws_toBranch {R : Type} (N : Nat) : EntryOk Try.prog (T.laws_toBranch (R := R) N) :=
  entry_fun (h := H.laws_toBranch) hC hm (table_cons (TK.laws_toNodeS N) table_nil) WF.f106 (fun d => ltable_nil) fun d k =>
    (congrArg (fun z => F.laws_toBranch N d.1.1.1 d.1.1.2.1 d.1.1.2.2.1 z) (funext fun x0 => funext fun x1 => funext fun x2 => (via_to E.laws_toBranch_r k ((x0, (x1, ((), ()))), ((), ((x2, ()), ())))).symm)).trans (F.laws_toBranch_ok N d (fun v fin new => via E.laws_toBranch_r k (v, fin, new))).symm

/-! ### loop.example/s0007/laws.toBranchS: function 83 -/
abbrev E.laws_toBranchS_l0_i : Enc St := Enc.st 1 (Enc.all [(Enc.key 0 (Enc.ro 0 (.pair .bool (.pair .bool (.lst (.pair (.int .i64) (.pair (.lst (.pair (.int .i64) (.int .i64))) (.pair (.int .i64) (.pair (.int .i64) (.int .i64)))))))))), (Enc.key 3 (Enc.sl 0)), (Enc.key 4 (Enc.int .i64))]) (Enc.all [(Enc.key 0 (Enc.cell (Enc.vals [(Enc.rw (.pair .bool (.pair .bool (.lst (.pair (.int .i64) (.pair (.lst (.pair (.int .i64) (.int .i64))) (.pair (.int .i64) (.pair (.int .i64) (.int .i64)))))))))])))])
abbrev E.laws_toBranchS_l0_oe0 : Enc St := Enc.st 1 (Enc.all [(Enc.key 3 (Enc.sl 0))]) (Enc.all [(Enc.key 0 (Enc.cell (Enc.vals [(Enc.rw (.pair .bool (.pair .bool (.lst (.pair (.int .i64) (.pair (.lst (.pair (.int .i64) (.int .i64))) (.pair (.int .i64) (.pair (.int .i64) (.int .i64)))))))))])))])
abbrev E.laws_toBranchS_a : Enc (List AV × List Blk) := Enc.both (Enc.vals [(Enc.ro 0 (.pair .bool (.pair .bool (.lst (.pair (.int .i64) (.pair (.lst (.pair (.int .i64) (.int .i64))) (.pair (.int .i64) (.pair (.int .i64) (.int .i64)))))))))]) (Enc.all [])
abbrev E.laws_toBranchS_r : Enc (AV × List (Option Blk) × List Blk) := Enc.both (Enc.sl 0) (Enc.both (Enc.all []) (Enc.all [(Enc.cell (Enc.vals [(Enc.rw (.pair .bool (.pair .bool (.lst (.pair (.int .i64) (.pair (.lst (.pair (.int .i64) (.int .i64))) (.pair (.int .i64) (.pair (.int .i64) (.int .i64)))))))))]))]))
def T.laws_toBranchS {R : Type} (N : Nat) : Entry R := { f := 83, arg := E.laws_toBranchS_a, res := E.laws_toBranchS_r, fn := fun d k => F.laws_toBranchS N d.1.1 fun x0 => k ((), ((), ((x0, ()), ()))) }
def H.laws_toBranchS : Hint := [(0, [0, 3, 4], [3])]
theorem WF.f83 : FnWf Try.prog 83 Try.f83 := fnWf_of Try.func83 (by decide) (by kernel_rfl)
theorem F.laws_toBranchS_l0_ok {R : Type} (N : Nat) (d : E.laws_toBranchS_l0_i.D) (next : St → Option R) (out : Ex → St → Option R) :
    stepE cfg (table [T.laws_toBranch N]) (ltable []) 0 H.laws_toBranchS 0 (bodyOf Try.f83 0) [0, 3, 4] [3] (E.laws_toBranchS_l0_i.to d) next out =
      F.laws_toBranchS_l0_s N d.1.1 d.1.2.2.1 d.2.1.1 (fun x0 x1 x2 => next (E.laws_toBranchS_l0_i.to ((x0, ((), (x1, ()))), ((x2, ()), ())))) (fun y0 => out (.exit 0) (E.laws_toBranchS_l0_oe0.to (((), ()), ((y0, ()), ())))) := by kernel_rfl
def G.laws_toBranchS_l0 {R : Type} (N n : Nat) (d : E.laws_toBranchS_l0_i.D) (k : Ex → St → Option R) : Option R := F.laws_toBranchS_l0 N n d.1.1 d.1.2.2.1 d.2.1.1 (fun y0 => k (.exit 0) (E.laws_toBranchS_l0_oe0.to (((), ()), ((y0, ()), ()))))
def TL.laws_toBranchS_l0 {R : Type} (N : Nat) : LEntry R := { b := 0, st := E.laws_toBranchS_l0_i, fn := fun d k => G.laws_toBranchS_l0 N N d k }
theorem GS.laws_toBranchS_l0 {R : Type} (N n : Nat) (d : E.laws_toBranchS_l0_i.D) (k : Ex → St → Option R) : G.laws_toBranchS_l0 N (n + 1) d k =
    stepE cfg (table [T.laws_toBranch N]) (ltable []) 0 H.laws_toBranchS 0 (bodyOf Try.f83 0) [0, 3, 4] [3] (E.laws_toBranchS_l0_i.to d) (via E.laws_toBranchS_l0_i fun e => G.laws_toBranchS_l0 N n e k) k :=
  (show G.laws_toBranchS_l0 N (n + 1) d k = F.laws_toBranchS_l0_s N d.1.1 d.1.2.2.1 d.2.1.1 (fun x0 x1 x2 => F.laws_toBranchS_l0 N n x0 x1 x2 (fun y0 => k (.exit 0) (E.laws_toBranchS_l0_oe0.to (((), ()), ((y0, ()), ()))))) (fun y0 => k (.exit 0) (E.laws_toBranchS_l0_oe0.to (((), ()), ((y0, ()), ())))) from rfl).trans
    ((congrArg (fun z => F.laws_toBranchS_l0_s N d.1.1 d.1.2.2.1 d.2.1.1 z (fun y0 => k (.exit 0) (E.laws_toBranchS_l0_oe0.to (((), ()), ((y0, ()), ()))))) (funext fun x0 => funext fun x1 => funext fun x2 => (via_to E.laws_toBranchS_l0_i (fun e => G.laws_toBranchS_l0 N n e k) ((x0, ((), (x1, ()))), ((x2, ()), ()))).symm)).trans (F.laws_toBranchS_l0_ok N d (via E.laws_toBranchS_l0_i fun e => G.laws_toBranchS_l0 N n e k) k).symm)
theorem LK.laws_toBranchS_l0 {R : Type} (N : Nat) : LEntryOk Try.prog 0 Try.f83.ntmps (bodyOf Try.f83) (TL.laws_toBranchS_l0 (R := R) N) :=
  lentry_fun (i := [0, 3, 4]) (o := [3]) (h := H.laws_toBranchS) hC hm (table_cons (TK.laws_toBranch N) table_nil) WF.f83 ltable_nil (fun d => uniq_of rfl) (fun n d k => G.laws_toBranchS_l0 N n d k) N (fun _ _ => rfl) (fun _ _ => rfl) (fun n d k => GS.laws_toBranchS_l0 N n d k)
theorem F.laws_toBranchS_ok {R : Type} (N : Nat) (d : E.laws_toBranchS_a.D) (k : AV → List (Option Blk) → List Blk → Option R) :
    funE cfg (table []) (ltable [TL.laws_toBranchS_l0 N]) H.laws_toBranchS Try.f83 (E.laws_toBranchS_a.to d).1 (E.laws_toBranchS_a.to d).2 k =
      F.laws_toBranchS N d.1.1 fun x0 => k (E.laws_toBranchS_r.to ((), ((), ((x0, ()), ())))).1 (E.laws_toBranchS_r.to ((), ((), ((x0, ()), ())))).2.1 (E.laws_toBranchS_r.to ((), ((), ((x0, ()), ())))).2.2 := by kernel_rfl
theorem TK.laws_toBranchS {R : Type} (N : Nat) : EntryOk Try.prog (T.laws_toBranchS (R := R) N) :=
  entry_fun (h := H.laws_toBranchS) hC hm table_nil WF.f83 (fun d => (ltable_cons (LK.laws_toBranchS_l0 N) ltable_nil)) fun d k =>
    (congrArg (fun z => F.laws_toBranchS N d.1.1 z) (funext fun x0 => (via_to E.laws_toBranchS_r k ((), ((), ((x0, ()), ())))).symm)).trans (F.laws_toBranchS_ok N d (fun v fin new => via E.laws_toBranchS_r k (v, fin, new))).symm

/-! ### loop.example/s0007/laws.toRule: function 40 -/
abbrev E.laws_toRule_a : Enc (List AV × List Blk) := Enc.both (Enc.vals [(Enc.agg (Enc.vals [(Enc.ro 0 (.pair .bool (.pair .bool (.lst (.pair (.int .i64) (.pair (.lst (.pair (.int .i64) (.int .i64))) (.pair (.int .i64) (.pair (.int .i64) (.int .i64))))))))), (Enc.int .i64)]))]) (Enc.all [])
abbrev E.laws_toRule_r : Enc (AV × List (Option Blk) × List Blk) := Enc.both (Enc.agg (Enc.vals [(Enc.sl 0), (Enc.int .i64)])) (Enc.both (Enc.all []) (Enc.all [(Enc.cell (Enc.vals [(Enc.rw (.pair .bool (.pair .bool (.lst (.pair (.int .i64) (.pair (.lst (.pair (.int .i64) (.int .i64))) (.pair (.int .i64) (.pair (.int .i64) (.int .i64)))))))))]))]))
def T.laws_toRule {R : Type} (N : Nat) : Entry R := { f := 40, arg := E.laws_toRule_a, res := E.laws_toRule_r, fn := fun d k => F.laws_toRule N d.1.1.1 d.1.1.2.1 fun x0 x1 => k (((), (x0, ())), ((), ((x1, ()), ()))) }
def H.laws_toRule : Hint := []
theorem WF.f40 : FnWf Try.prog 40 Try.f40 := fnWf_of Try.func40 (by decide) (by kernel_rfl)
theorem F.laws_toRule_ok {R : Type} (N : Nat) (d : E.laws_toRule_a.D) (k : AV → List (Option Blk) → List Blk → Option R) :
    funE cfg (table [T.laws_toBranchS N]) (ltable []) H.laws_toRule Try.f40 (E.laws_toRule_a.to d).1 (E.laws_toRule_a.to d).2 k =
      F.laws_toRule N d.1.1.1 d.1.1.2.1 fun x0 x1 => k (E.laws_toRule_r.to (((), (x0, ())), ((), ((x1, ()), ())))).1 (E.laws_toRule_r.to (((), (x0, ())), ((), ((x1, ()), ())))).2.1 (E.laws_toRule_r.to (((), (x0, ())), ((), ((x1, ()), ())))).2.2 := by kernel_rfl
theorem TK.laws_toRule {R : Type} (N : Nat) : EntryOk Try.prog (T.laws_toRule (R := R) N) :=
  entry_fun (h := H.laws_toRule) hC hm (table_cons (TK.laws_toBranchS N) table_nil) WF.f40 (fun d => ltable_nil) fun d k =>
    (congrArg (fun z => F.laws_toRule N d.1.1.1 d.1.1.2.1 z) (funext fun x0 => funext fun x1 => (via_to E.laws_toRule_r k (((), (x0, ())), ((), ((x1, ()), ())))).symm)).trans (F.laws_toRule_ok N d (fun v fin new => via E.laws_toRule_r k (v, fin, new))).symm

/-! ### loop.example/s0007/spec.l1Between: function 44 -/
abbrev E.spec_l1Between_a : Enc (List AV × List Blk) := Enc.both (Enc.vals [(Enc.int .i64), (Enc.int .i64), (Enc.int .i64)]) (Enc.all [])
abbrev E.spec_l1Between_r : Enc (AV × List (Option Blk) × List Blk) := Enc.both Enc.bool (Enc.both (Enc.all []) (Enc.all []))
def T.spec_l1Between {R : Type} : Entry R := { f := 44, arg := E.spec_l1Between_a, res := E.spec_l1Between_r, fn := fun d k => F.spec_l1Between d.1.1 d.1.2.1 d.1.2.2.1 fun x0 => k (x0, ((), ())) }
def H.spec_l1Between : Hint := []
theorem WF.f44 : FnWf Try.prog 44 Try.f44 := fnWf_of Try.func44 (by decide) (by kernel_rfl)
theorem F.spec_l1Between_ok {R : Type} (d : E.spec_l1Between_a.D) (k : AV → List (Option Blk) → List Blk → Option R) :
    funE cfg (table []) (ltable []) H.spec_l1Between Try.f44 (E.spec_l1Between_a.to d).1 (E.spec_l1Between_a.to d).2 k =
      F.spec_l1Between d.1.1 d.1.2.1 d.1.2.2.1 fun x0 => k (E.spec_l1Between_r.to (x0, ((), ()))).1 (E.spec_l1Between_r.to (x0, ((), ()))).2.1 (E.spec_l1Between_r.to (x0, ((), ()))).2.2 := by kernel_rfl
theorem TK.spec_l1Between {R : Type} : EntryOk Try.prog (T.spec_l1Between (R := R)) :=
  entry_fun (h := H.spec_l1Between) hC hm table_nil WF.f44 (fun d => ltable_nil) fun d k =>
    (congrArg (fun z => F.spec_l1Between d.1.1 d.1.2.1 d.1.2.2.1 z) (funext fun x0 => (via_to E.spec_l1Between_r k (x0, ((), ()))).symm)).trans (F.spec_l1Between_ok d (fun v fin new => via E.spec_l1Between_r k (v, fin, new))).symm

/-! ### loop.example/s0007/spec.l1Arity: function 104 -/
abbrev E.spec_l1Arity_a : Enc (List AV × List Blk) := Enc.both (Enc.vals [(Enc.int .i64)]) (Enc.all [])
abbrev E.spec_l1Arity_r : Enc (AV × List (Option Blk) × List Blk) := Enc.both (Enc.int .i64) (Enc.both (Enc.all []) (Enc.all []))
def T.spec_l1Arity {R : Type} : Entry R := { f := 104, arg := E.spec_l1Arity_a, res := E.spec_l1Arity_r, fn := fun d k => F.spec_l1Arity d.1.1 fun x0 => k (x0, ((), ())) }
def H.spec_l1Arity : Hint := []
theorem WF.f104 : FnWf Try.prog 104 Try.f104 := fnWf_of Try.func104 (by decide) (by kernel_rfl)
theorem F.spec_l1Arity_ok {R : Type} (d : E.spec_l1Arity_a.D) (k : AV → List (Option Blk) → List Blk → Option R) :
    funE cfg (table []) (ltable []) H.spec_l1Arity Try.f104 (E.spec_l1Arity_a.to d).1 (E.spec_l1Arity_a.to d).2 k =
      F.spec_l1Arity d.1.1 fun x0 => k (E.spec_l1Arity_r.to (x0, ((), ()))).1 (E.spec_l1Arity_r.to (x0, ((), ()))).2.1 (E.spec_l1Arity_r.to (x0, ((), ()))).2.2 := by kernel_rfl
theorem TK.spec_l1Arity {R : Type} : EntryOk Try.prog (T.spec_l1Arity (R := R)) :=
  entry_fun (h := H.spec_l1Arity) hC hm table_nil WF.f104 (fun d => ltable_nil) fun d k =>
    (congrArg (fun z => F.spec_l1Arity d.1.1 z) (funext fun x0 => (via_to E.spec_l1Arity_r k (x0, ((), ()))).symm)).trans (F.spec_l1Arity_ok d (fun v fin new => via E.spec_l1Arity_r k (v, fin, new))).symm

/-! ### loop.example/s0007/spec.l1Kids: function 80 -/
abbrev E.spec_l1Kids_l0_i : Enc St := Enc.st 3 (Enc.all [(Enc.key 5 (Enc.sl 0)), (Enc.key 6 (Enc.sl 1)), (Enc.key 7 (Enc.sl 2)), (Enc.key 15 (Enc.ro 0 (.pair (.int .i64) (.pair (.lst (.pair (.int .i64) (.int .i64))) (.pair (.int .i64) (.pair (.int .i64) (.int .i64))))))), (Enc.key 16 (Enc.int .i64)), (Enc.key 17 (Enc.int .i64))]) (Enc.all [(Enc.key 0 (Enc.cell (Enc.vals [(Enc.rw (.int .i64))]))), (Enc.key 1 (Enc.cell (Enc.vals [(Enc.rw (.int .i64))]))), (Enc.key 2 (Enc.cell (Enc.vals [(Enc.rw (.int .i64))])))])
abbrev E.spec_l1Kids_l0_oe0 : Enc St := Enc.st 3 (Enc.all [(Enc.key 2 Enc.un), (Enc.key 3 Enc.un), (Enc.key 4 Enc.un), (Enc.key 5 (Enc.sl 0)), (Enc.key 6 (Enc.sl 1)), (Enc.key 7 (Enc.sl 2))]) (Enc.all [(Enc.key 0 (Enc.cell (Enc.vals [(Enc.rw (.int .i64))]))), (Enc.key 1 (Enc.cell (Enc.vals [(Enc.rw (.int .i64))]))), (Enc.key 2 (Enc.cell (Enc.vals [(Enc.rw (.int .i64))])))])
abbrev E.spec_l1Kids_l0_oret : Enc St := Enc.st 3 (Enc.all [(Enc.key 2 (Enc.sl 0)), (Enc.key 3 (Enc.sl 1)), (Enc.key 4 Enc.bool), (Enc.key 5 (Enc.sl 0)), (Enc.key 6 (Enc.sl 1)), (Enc.key 7 (Enc.sl 2))]) (Enc.all [(Enc.key 0 (Enc.cell (Enc.vals [(Enc.rw (.int .i64))]))), (Enc.key 1 (Enc.cell (Enc.vals [(Enc.rw (.int .i64))]))), (Enc.key 2 (Enc.cell (Enc.vals [(Enc.rw (.int .i64))])))])
abbrev E.spec_l1Kids_a : Enc (List AV × List Blk) := Enc.both (Enc.vals [(Enc.ro 0 (.pair (.int .i64) (.pair (.lst (.pair (.int .i64) (.int .i64))) (.pair (.int .i64) (.pair (.int .i64) (.int .i64))))))]) (Enc.all [])
abbrev E.spec_l1Kids_r : Enc (AV × List (Option Blk) × List Blk) := Enc.both (Enc.tup (Enc.vals [(Enc.sl 0), (Enc.sl 1), Enc.bool])) (Enc.both (Enc.all []) (Enc.all [(Enc.cell (Enc.vals [(Enc.rw (.int .i64))])), (Enc.cell (Enc.vals [(Enc.rw (.int .i64))]))]))
def T.spec_l1Kids {R : Type} (N : Nat) : Entry R := { f := 80, arg := E.spec_l1Kids_a, res := E.spec_l1Kids_r, fn := fun d k => F.spec_l1Kids N d.1.1 fun x0 x1 x2 => k (((), ((), (x0, ()))), ((), ((x1, ()), ((x2, ()), ())))) }
def H.spec_l1Kids : Hint := [(0, [5, 6, 7, 15, 16, 17], [2, 3, 4, 5, 6, 7])]
theorem WF.f80 : FnWf Try.prog 80 Try.f80 := fnWf_of Try.func80 (by decide) (by kernel_rfl)
theorem F.spec_l1Kids_l0_ok {R : Type} (N : Nat) (d : E.spec_l1Kids_l0_i.D) (next : St → Option R) (out : Ex → St → Option R) :
    stepE cfg (table [T.spec_l1Arity]) (ltable []) 0 H.spec_l1Kids 0 (bodyOf Try.f80 0) [5, 6, 7, 15, 16, 17] [2, 3, 4, 5, 6, 7] (E.spec_l1Kids_l0_i.to d) next out =
      F.spec_l1Kids_l0_s N d.1.2.2.2.1 d.1.2.2.2.2.1 d.1.2.2.2.2.2.1 d.2.1.1 d.2.2.1.1 d.2.2.2.1.1 (fun x0 x1 x2 x3 x4 x5 => next (E.spec_l1Kids_l0_i.to (((), ((), ((), (x0, (x1, (x2, ())))))), ((x3, ()), ((x4, ()), ((x5, ()), ())))))) (fun y0 y1 y2 => out (.exit 0) (E.spec_l1Kids_l0_oe0.to (((), ((), ((), ((), ((), ((), ())))))), ((y0, ()), ((y1, ()), ((y2, ()), ())))))) (fun y0 y1 y2 y3 => out .ret (E.spec_l1Kids_l0_oret.to (((), ((), (y0, ((), ((), ((), ())))))), ((y1, ()), ((y2, ()), ((y3, ()), ())))))) := by kernel_rfl
def G.spec_l1Kids_l0 {R : Type} (N n : Nat) (d : E.spec_l1Kids_l0_i.D) (k : Ex → St → Option R) : Option R := F.spec_l1Kids_l0 N n d.1.2.2.2.1 d.1.2.2.2.2.1 d.1.2.2.2.2.2.1 d.2.1.1 d.2.2.1.1 d.2.2.2.1.1 (fun y0 y1 y2 => k (.exit 0) (E.spec_l1Kids_l0_oe0.to (((), ((), ((), ((), ((), ((), ())))))), ((y0, ()), ((y1, ()), ((y2, ()), ())))))) (fun y0 y1 y2 y3 => k .ret (E.spec_l1Kids_l0_oret.to (((), ((), (y0, ((), ((), ((), ())))))), ((y1, ()), ((y2, ()), ((y3, ()), ()))))))
def TL.spec_l1Kids_l0 {R : Type} (N : Nat) : LEntry R := { b := 0, st := E.spec_l1Kids_l0_i, fn := fun d k => G.spec_l1Kids_l0 N N d k }
theorem GS.spec_l1Kids_l0 {R : Type} (N n : Nat) (d : E.spec_l1Kids_l0_i.D) (k : Ex → St → Option R) : G.spec_l1Kids_l0 N (n + 1) d k =
    stepE cfg (table [T.spec_l1Arity]) (ltable []) 0 H.spec_l1Kids 0 (bodyOf Try.f80 0) [5, 6, 7, 15, 16, 17] [2, 3, 4, 5, 6, 7] (E.spec_l1Kids_l0_i.to d) (via E.spec_l1Kids_l0_i fun e => G.spec_l1Kids_l0 N n e k) k :=
  (show G.spec_l1Kids_l0 N (n + 1) d k = F.spec_l1Kids_l0_s N d.1.2.2.2.1 d.1.2.2.2.2.1 d.1.2.2.2.2.2.1 d.2.1.1 d.2.2.1.1 d.2.2.2.1.1 (fun x0 x1 x2 x3 x4 x5 => F.spec_l1Kids_l0 N n x0 x1 x2 x3 x4 x5 (fun y0 y1 y2 => k (.exit 0) (E.spec_l1Kids_l0_oe0.to (((), ((), ((), ((), ((), ((), ())))))), ((y0, ()), ((y1, ()), ((y2, ()), ())))))) (fun y0 y1 y2 y3 => k .ret (E.spec_l1Kids_l0_oret.to (((), ((), (y0, ((), ((), ((), ())))))), ((y1, ()), ((y2, ()), ((y3, ()), ()))))))) (fun y0 y1 y2 => k (.exit 0) (E.spec_l1Kids_l0_oe0.to (((), ((), ((), ((), ((), ((), ())))))), ((y0, ()), ((y1, ()), ((y2, ()), ())))))) (fun y0 y1 y2 y3 => k .ret (E.spec_l1Kids_l0_oret.to (((), ((), (y0, ((), ((), ((), ())))))), ((y1, ()), ((y2, ()), ((y3, ()), ())))))) from rfl).trans
    ((congrArg (fun z => F.spec_l1Kids_l0_s N d.1.2.2.2.1 d.1.2.2.2.2.1 d.1.2.2.2.2.2.1 d.2.1.1 d.2.2.1.1 d.2.2.2.1.1 z (fun y0 y1 y2 => k (.exit 0) (E.spec_l1Kids_l0_oe0.to (((), ((), ((), ((), ((), ((), ())))))), ((y0, ()), ((y1, ()), ((y2, ()), ())))))) (fun y0 y1 y2 y3 => k .ret (E.spec_l1Kids_l0_oret.to (((), ((), (y0, ((), ((), ((), ())))))), ((y1, ()), ((y2, ()), ((y3, ()), ()))))))) (funext fun x0 => funext fun x1 => funext fun x2 => funext fun x3 => funext fun x4 => funext fun x5 => (via_to E.spec_l1Kids_l0_i (fun e => G.spec_l1Kids_l0 N n e k) (((), ((), ((), (x0, (x1, (x2, ())))))), ((x3, ()), ((x4, ()), ((x5, ()), ()))))).symm)).trans (F.spec_l1Kids_l0_ok N d (via E.spec_l1Kids_l0_i fun e => G.spec_l1Kids_l0 N n e k) k).symm)
theorem LK.spec_l1Kids_l0 {R : Type} (N : Nat) : LEntryOk Try.prog 0 Try.f80.ntmps (bodyOf Try.f80) (TL.spec_l1Kids_l0 (R := R) N) :=
  lentry_fun (i := [5, 6, 7, 15, 16, 17]) (o := [2, 3, 4, 5, 6, 7]) (h := H.spec_l1Kids) hC hm (table_cons TK.spec_l1Arity table_nil) WF.f80 ltable_nil (fun d => uniq_of rfl) (fun n d k => G.spec_l1Kids_l0 N n d k) N (fun _ _ => rfl) (fun _ _ => rfl) (fun n d k => GS.spec_l1Kids_l0 N n d k)
theorem F.spec_l1Kids_ok {R : Type} (N : Nat) (d : E.spec_l1Kids_a.D) (k : AV → List (Option Blk) → List Blk → Option R) :
    funE cfg (table []) (ltable [TL.spec_l1Kids_l0 N]) H.spec_l1Kids Try.f80 (E.spec_l1Kids_a.to d).1 (E.spec_l1Kids_a.to d).2 k =
      F.spec_l1Kids N d.1.1 fun x0 x1 x2 => k (E.spec_l1Kids_r.to (((), ((), (x0, ()))), ((), ((x1, ()), ((x2, ()), ()))))).1 (E.spec_l1Kids_r.to (((), ((), (x0, ()))), ((), ((x1, ()), ((x2, ()), ()))))).2.1 (E.spec_l1Kids_r.to (((), ((), (x0, ()))), ((), ((x1, ()), ((x2, ()), ()))))).2.2 := by kernel_rfl
theorem TK.spec_l1Kids {R : Type} (N : Nat) : EntryOk Try.prog (T.spec_l1Kids (R := R) N) :=
  entry_fun (h := H.spec_l1Kids) hC hm table_nil WF.f80 (fun d => (ltable_cons (LK.spec_l1Kids_l0 N) ltable_nil)) fun d k =>
    (congrArg (fun z => F.spec_l1Kids N d.1.1 z) (funext fun x0 => funext fun x1 => funext fun x2 => (via_to E.spec_l1Kids_r k (((), ((), (x0, ()))), ((), ((x1, ()), ((x2, ()), ()))))).symm)).trans (F.spec_l1Kids_ok N d (fun v fin new => via E.spec_l1Kids_r k (v, fin, new))).symm

/-! ### loop.example/s0007/spec.l1NodeOK: function 81 -/
abbrev E.spec_l1NodeOK_l0_i : Enc St := Enc.st 1 (Enc.all [(Enc.key 1 (Enc.pb 0 0)), (Enc.key 57 (Enc.ro 0 (.pair (.int .i64) (.int .i64)))), (Enc.key 58 (Enc.int .i64)), (Enc.key 59 (Enc.int .i64))]) (Enc.all [(Enc.key 0 (Enc.cell (Enc.vals [(Enc.int .i64), (Enc.ro 0 (.pair (.int .i64) (.int .i64))), (Enc.int .i64), (Enc.int .i64), (Enc.int .i64)])))])
abbrev E.spec_l1NodeOK_l0_oe0 : Enc St := Enc.st 0 (Enc.all [(Enc.key 2 Enc.un)]) (Enc.all [])
abbrev E.spec_l1NodeOK_l0_oret : Enc St := Enc.st 0 (Enc.all [(Enc.key 2 Enc.bool)]) (Enc.all [])
abbrev E.spec_l1NodeOK_a : Enc (List AV × List Blk) := Enc.both (Enc.vals [(Enc.agg (Enc.vals [(Enc.int .i64), (Enc.ro 0 (.pair (.int .i64) (.int .i64))), (Enc.int .i64), (Enc.int .i64), (Enc.int .i64)]))]) (Enc.all [])
abbrev E.spec_l1NodeOK_r : Enc (AV × List (Option Blk) × List Blk) := Enc.both Enc.bool (Enc.both (Enc.all []) (Enc.all []))
def T.spec_l1NodeOK {R : Type} (N : Nat) : Entry R := { f := 81, arg := E.spec_l1NodeOK_a, res := E.spec_l1NodeOK_r, fn := fun d k => F.spec_l1NodeOK N d.1.1.1 d.1.1.2.1 d.1.1.2.2.1 d.1.1.2.2.2.1 d.1.1.2.2.2.2.1 fun x0 => k (x0, ((), ())) }
def H.spec_l1NodeOK : Hint := [(0, [1, 57, 58, 59], [2])]
theorem WF.f81 : FnWf Try.prog 81 Try.f81 := fnWf_of Try.func81 (by decide) (by kernel_rfl)
theorem F.spec_l1NodeOK_l0_ok {R : Type} (N : Nat) (d : E.spec_l1NodeOK_l0_i.D) (next : St → Option R) (out : Ex → St → Option R) :
    stepE cfg (table []) (ltable []) 0 H.spec_l1NodeOK 0 (bodyOf Try.f81 0) [1, 57, 58, 59] [2] (E.spec_l1NodeOK_l0_i.to d) next out =
      F.spec_l1NodeOK_l0_s N d.1.2.1 d.1.2.2.1 d.1.2.2.2.1 d.2.1.1 d.2.1.2.1 d.2.1.2.2.1 d.2.1.2.2.2.1 d.2.1.2.2.2.2.1 (fun x0 x1 x2 x3 x4 x5 x6 x7 => next (E.spec_l1NodeOK_l0_i.to (((), (x0, (x1, (x2, ())))), ((x3, (x4, (x5, (x6, (x7, ()))))), ())))) (fun _ => out (.exit 0) (E.spec_l1NodeOK_l0_oe0.to (((), ()), ()))) (fun y0 => out .ret (E.spec_l1NodeOK_l0_oret.to ((y0, ()), ()))) := by kernel_rfl
def G.spec_l1NodeOK_l0 {R : Type} (N n : Nat) (d : E.spec_l1NodeOK_l0_i.D) (k : Ex → St → Option R) : Option R := F.spec_l1NodeOK_l0 N n d.1.2.1 d.1.2.2.1 d.1.2.2.2.1 d.2.1.1 d.2.1.2.1 d.2.1.2.2.1 d.2.1.2.2.2.1 d.2.1.2.2.2.2.1 (fun _ => k (.exit 0) (E.spec_l1NodeOK_l0_oe0.to (((), ()), ()))) (fun y0 => k .ret (E.spec_l1NodeOK_l0_oret.to ((y0, ()), ())))
def TL.spec_l1NodeOK_l0 {R : Type} (N : Nat) : LEntry R := { b := 0, st := E.spec_l1NodeOK_l0_i, fn := fun d k => G.spec_l1NodeOK_l0 N N d k }
theorem GS.spec_l1NodeOK_l0 {R : Type} (N n : Nat) (d : E.spec_l1NodeOK_l0_i.D) (k : Ex → St → Option R) : G.spec_l1NodeOK_l0 N (n + 1) d k =
    stepE cfg (table []) (ltable []) 0 H.spec_l1NodeOK 0 (bodyOf Try.f81 0) [1, 57, 58, 59] [2] (E.spec_l1NodeOK_l0_i.to d) (via E.spec_l1NodeOK_l0_i fun e => G.spec_l1NodeOK_l0 N n e k) k :=
  (show G.spec_l1NodeOK_l0 N (n + 1) d k = F.spec_l1NodeOK_l0_s N d.1.2.1 d.1.2.2.1 d.1.2.2.2.1 d.2.1.1 d.2.1.2.1 d.2.1.2.2.1 d.2.1.2.2.2.1 d.2.1.2.2.2.2.1 (fun x0 x1 x2 x3 x4 x5 x6 x7 => F.spec_l1NodeOK_l0 N n x0 x1 x2 x3 x4 x5 x6 x7 (fun _ => k (.exit 0) (E.spec_l1NodeOK_l0_oe0.to (((), ()), ()))) (fun y0 => k .ret (E.spec_l1NodeOK_l0_oret.to ((y0, ()), ())))) (fun _ => k (.exit 0) (E.spec_l1NodeOK_l0_oe0.to (((), ()), ()))) (fun y0 => k .ret (E.spec_l1NodeOK_l0_oret.to ((y0, ()), ()))) from rfl).trans
    ((congrArg (fun z => F.spec_l1NodeOK_l0_s N d.1.2.1 d.1.2.2.1 d.1.2.2.2.1 d.2.1.1 d.2.1.2.1 d.2.1.2.2.1 d.2.1.2.2.2.1 d.2.1.2.2.2.2.1 z (fun _ => k (.exit 0) (E.spec_l1NodeOK_l0_oe0.to (((), ()), ()))) (fun y0 => k .ret (E.spec_l1NodeOK_l0_oret.to ((y0, ()), ())))) (funext fun x0 => funext fun x1 => funext fun x2 => funext fun x3 => funext fun x4 => funext fun x5 => funext fun x6 => funext fun x7 => (via_to E.spec_l1NodeOK_l0_i (fun e => G.spec_l1NodeOK_l0 N n e k) (((), (x0, (x1, (x2, ())))), ((x3, (x4, (x5, (x6, (x7, ()))))), ()))).symm)).trans (F.spec_l1NodeOK_l0_ok N d (via E.spec_l1NodeOK_l0_i fun e => G.spec_l1NodeOK_l0 N n e k) k).symm)
theorem LK.spec_l1NodeOK_l0 {R : Type} (N : Nat) : LEntryOk Try.prog 0 Try.f81.ntmps (bodyOf Try.f81) (TL.spec_l1NodeOK_l0 (R := R) N) :=
  lentry_fun (i := [1, 57, 58, 59]) (o := [2]) (h := H.spec_l1NodeOK) hC hm table_nil WF.f81 ltable_nil (fun d => uniq_of rfl) (fun n d k => G.spec_l1NodeOK_l0 N n d k) N (fun _ _ => rfl) (fun _ _ => rfl) (fun n d k => GS.spec_l1NodeOK_l0 N n d k)
theorem F.spec_l1NodeOK_ok {R : Type} (N : Nat) (d : E.spec_l1NodeOK_a.D) (k : AV → List (Option Blk) → List Blk → Option R) :
    funE cfg (table [T.spec_l1Between]) (ltable [TL.spec_l1NodeOK_l0 N]) H.spec_l1NodeOK Try.f81 (E.spec_l1NodeOK_a.to d).1 (E.spec_l1NodeOK_a.to d).2 k =
      F.spec_l1NodeOK N d.1.1.1 d.1.1.2.1 d.1.1.2.2.1 d.1.1.2.2.2.1 d.1.1.2.2.2.2.1 fun x0 => k (E.spec_l1NodeOK_r.to (x0, ((), ()))).1 (E.spec_l1NodeOK_r.to (x0, ((), ()))).2.1 (E.spec_l1NodeOK_r.to (x0, ((), ()))).2.2 := by kernel_rfl
theorem TK.spec_l1NodeOK {R : Type} (N : Nat) : EntryOk Try.prog (T.spec_l1NodeOK (R := R) N) :=
  entry_fun (h := H.spec_l1NodeOK) hC hm (table_cons TK.spec_l1Between table_nil) WF.f81 (fun d => (ltable_cons (LK.spec_l1NodeOK_l0 N) ltable_nil)) fun d k =>
    (congrArg (fun z => F.spec_l1NodeOK N d.1.1.1 d.1.1.2.1 d.1.1.2.2.1 d.1.1.2.2.2.1 d.1.1.2.2.2.2.1 z) (funext fun x0 => (via_to E.spec_l1NodeOK_r k (x0, ((), ()))).symm)).trans (F.spec_l1NodeOK_ok N d (fun v fin new => via E.spec_l1NodeOK_r k (v, fin, new))).symm

/-! ### loop.example/s0007/spec.l1Copies: function 113 -/
abbrev E.spec_l1Copies_a : Enc (List AV × List Blk) := Enc.both (Enc.vals [(Enc.agg (Enc.vals [(Enc.int .i64), (Enc.ro 0 (.pair (.int .i64) (.int .i64))), (Enc.int .i64), (Enc.int .i64), (Enc.int .i64)]))]) (Enc.all [])
abbrev E.spec_l1Copies_r : Enc (AV × List (Option Blk) × List Blk) := Enc.both (Enc.int .i64) (Enc.both (Enc.all []) (Enc.all []))
def T.spec_l1Copies {R : Type} : Entry R := { f := 113, arg := E.spec_l1Copies_a, res := E.spec_l1Copies_r, fn := fun d k => F.spec_l1Copies d.1.1.1 d.1.1.2.1 d.1.1.2.2.1 d.1.1.2.2.2.1 d.1.1.2.2.2.2.1 fun x0 => k (x0, ((), ())) }
def H.spec_l1Copies : Hint := []
theorem WF.f113 : FnWf Try.prog 113 Try.f113 := fnWf_of Try.func113 (by decide) (by kernel_rfl)
theorem F.spec_l1Copies_ok {R : Type} (d : E.spec_l1Copies_a.D) (k : AV → List (Option Blk) → List Blk → Option R) :
    funE cfg (table []) (ltable []) H.spec_l1Copies Try.f113 (E.spec_l1Copies_a.to d).1 (E.spec_l1Copies_a.to d).2 k =
      F.spec_l1Copies d.1.1.1 d.1.1.2.1 d.1.1.2.2.1 d.1.1.2.2.2.1 d.1.1.2.2.2.2.1 fun x0 => k (E.spec_l1Copies_r.to (x0, ((), ()))).1 (E.spec_l1Copies_r.to (x0, ((), ()))).2.1 (E.spec_l1Copies_r.to (x0, ((), ()))).2.2 := by kernel_rfl
theorem TK.spec_l1Copies {R : Type} : EntryOk Try.prog (T.spec_l1Copies (R := R)) :=
  entry_fun (h := H.spec_l1Copies) hC hm table_nil WF.f113 (fun d => ltable_nil) fun d k =>
    (congrArg (fun z => F.spec_l1Copies d.1.1.1 d.1.1.2.1 d.1.1.2.2.1 d.1.1.2.2.2.1 d.1.1.2.2.2.2.1 z) (funext fun x0 => (via_to E.spec_l1Copies_r k (x0, ((), ()))).symm)).trans (F.spec_l1Copies_ok d (fun v fin new => via E.spec_l1Copies_r k (v, fin, new))).symm

/-! ### loop.example/s0007/spec.l1Weight: function 105 -/
abbrev E.spec_l1Weight_l0_i : Enc St := Enc.st 3 (Enc.all [(Enc.key 0 (Enc.ro 0 (.pair (.int .i64) (.pair (.lst (.pair (.int .i64) (.int .i64))) (.pair (.int .i64) (.pair (.int .i64) (.int .i64))))))), (Enc.key 3 (Enc.sl 0)), (Enc.key 4 (Enc.sl 1)), (Enc.key 6 (Enc.sl 2)), (Enc.key 20 (Enc.ro 0 (.pair (.int .i64) (.pair (.lst (.pair (.int .i64) (.int .i64))) (.pair (.int .i64) (.pair (.int .i64) (.int .i64))))))), (Enc.key 21 (Enc.int .i64)), (Enc.key 22 (Enc.int .i64))]) (Enc.all [(Enc.key 0 (Enc.cell (Enc.vals [(Enc.rw (.int .i64))]))), (Enc.key 1 (Enc.cell (Enc.vals [(Enc.rw (.int .i64))]))), (Enc.key 2 (Enc.cell (Enc.vals [(Enc.rw (.int .i64))])))])
abbrev E.spec_l1Weight_l0_oe0 : Enc St := Enc.st 1 (Enc.all [(Enc.key 0 (Enc.ro 0 (.pair (.int .i64) (.pair (.lst (.pair (.int .i64) (.int .i64))) (.pair (.int .i64) (.pair (.int .i64) (.int .i64))))))), (Enc.key 6 (Enc.sl 0))]) (Enc.all [(Enc.key 0 (Enc.cell (Enc.vals [(Enc.rw (.int .i64))])))])
abbrev E.spec_l1Weight_a : Enc (List AV × List Blk) := Enc.both (Enc.vals [(Enc.ro 0 (.pair (.int .i64) (.pair (.lst (.pair (.int .i64) (.int .i64))) (.pair (.int .i64) (.pair (.int .i64) (.int .i64))))))]) (Enc.all [])
abbrev E.spec_l1Weight_r : Enc (AV × List (Option Blk) × List Blk) := Enc.both (Enc.int .i64) (Enc.both (Enc.all []) (Enc.all []))
def T.spec_l1Weight {R : Type} (N : Nat) : Entry R := { f := 105, arg := E.spec_l1Weight_a, res := E.spec_l1Weight_r, fn := fun d k => F.spec_l1Weight N d.1.1 fun x0 => k (x0, ((), ())) }
def H.spec_l1Weight : Hint := [(0, [0, 3, 4, 6, 20, 21, 22], [0, 6])]
theorem WF.f105 : FnWf Try.prog 105 Try.f105 := fnWf_of Try.func105 (by decide) (by kernel_rfl)
theorem F.spec_l1Weight_l0_ok {R : Type} (N : Nat) (d : E.spec_l1Weight_l0_i.D) (next : St → Option R) (out : Ex → St → Option R) :
    stepE cfg (table [T.spec_l1Copies]) (ltable []) 0 H.spec_l1Weight 0 (bodyOf Try.f105 0) [0, 3, 4, 6, 20, 21, 22] [0, 6] (E.spec_l1Weight_l0_i.to d) next out =
      F.spec_l1Weight_l0_s N d.1.1 d.1.2.2.2.2.1 d.1.2.2.2.2.2.1 d.1.2.2.2.2.2.2.1 d.2.1.1 d.2.2.1.1 d.2.2.2.1.1 (fun x0 x1 x2 x3 x4 x5 x6 => next (E.spec_l1Weight_l0_i.to ((x0, ((), ((), ((), (x1, (x2, (x3, ()))))))), ((x4, ()), ((x5, ()), ((x6, ()), ())))))) (fun y0 y1 => out (.exit 0) (E.spec_l1Weight_l0_oe0.to ((y0, ((), ())), ((y1, ()), ())))) := by kernel_rfl
def G.spec_l1Weight_l0 {R : Type} (N n : Nat) (d : E.spec_l1Weight_l0_i.D) (k : Ex → St → Option R) : Option R := F.spec_l1Weight_l0 N n d.1.1 d.1.2.2.2.2.1 d.1.2.2.2.2.2.1 d.1.2.2.2.2.2.2.1 d.2.1.1 d.2.2.1.1 d.2.2.2.1.1 (fun y0 y1 => k (.exit 0) (E.spec_l1Weight_l0_oe0.to ((y0, ((), ())), ((y1, ()), ()))))
def TL.spec_l1Weight_l0 {R : Type} (N : Nat) : LEntry R := { b := 0, st := E.spec_l1Weight_l0_i, fn := fun d k => G.spec_l1Weight_l0 N N d k }
theorem GS.spec_l1Weight_l0 {R : Type} (N n : Nat) (d : E.spec_l1Weight_l0_i.D) (k : Ex → St → Option R) : G.spec_l1Weight_l0 N (n + 1) d k =
    stepE cfg (table [T.spec_l1Copies]) (ltable []) 0 H.spec_l1Weight 0 (bodyOf Try.f105 0) [0, 3, 4, 6, 20, 21, 22] [0, 6] (E.spec_l1Weight_l0_i.to d) (via E.spec_l1Weight_l0_i fun e => G.spec_l1Weight_l0 N n e k) k :=
  (show G.spec_l1Weight_l0 N (n + 1) d k = F.spec_l1Weight_l0_s N d.1.1 d.1.2.2.2.2.1 d.1.2.2.2.2.2.1 d.1.2.2.2.2.2.2.1 d.2.1.1 d.2.2.1.1 d.2.2.2.1.1 (fun x0 x1 x2 x3 x4 x5 x6 => F.spec_l1Weight_l0 N n x0 x1 x2 x3 x4 x5 x6 (fun y0 y1 => k (.exit 0) (E.spec_l1Weight_l0_oe0.to ((y0, ((), ())), ((y1, ()), ()))))) (fun y0 y1 => k (.exit 0) (E.spec_l1Weight_l0_oe0.to ((y0, ((), ())), ((y1, ()), ())))) from rfl).trans
    ((congrArg (fun z => F.spec_l1Weight_l0_s N d.1.1 d.1.2.2.2.2.1 d.1.2.2.2.2.2.1 d.1.2.2.2.2.2.2.1 d.2.1.1 d.2.2.1.1 d.2.2.2.1.1 z (fun y0 y1 => k (.exit 0) (E.spec_l1Weight_l0_oe0.to ((y0, ((), ())), ((y1, ()), ()))))) (funext fun x0 => funext fun x1 => funext fun x2 => funext fun x3 => funext fun x4 => funext fun x5 => funext fun x6 => (via_to E.spec_l1Weight_l0_i (fun e => G.spec_l1Weight_l0 N n e k) ((x0, ((), ((), ((), (x1, (x2, (x3, ()))))))), ((x4, ()), ((x5, ()), ((x6, ()), ()))))).symm)).trans (F.spec_l1Weight_l0_ok N d (via E.spec_l1Weight_l0_i fun e => G.spec_l1Weight_l0 N n e k) k).symm)
theorem LK.spec_l1Weight_l0 {R : Type} (N : Nat) : LEntryOk Try.prog 0 Try.f105.ntmps (bodyOf Try.f105) (TL.spec_l1Weight_l0 (R := R) N) :=
  lentry_fun (i := [0, 3, 4, 6, 20, 21, 22]) (o := [0, 6]) (h := H.spec_l1Weight) hC hm (table_cons TK.spec_l1Copies table_nil) WF.f105 ltable_nil (fun d => uniq_of rfl) (fun n d k => G.spec_l1Weight_l0 N n d k) N (fun _ _ => rfl) (fun _ _ => rfl) (fun n d k => GS.spec_l1Weight_l0 N n d k)
theorem F.spec_l1Weight_ok {R : Type} (N : Nat) (d : E.spec_l1Weight_a.D) (k : AV → List (Option Blk) → List Blk → Option R) :
    funE cfg (table [T.spec_l1Kids N]) (ltable [TL.spec_l1Weight_l0 N]) H.spec_l1Weight Try.f105 (E.spec_l1Weight_a.to d).1 (E.spec_l1Weight_a.to d).2 k =
      F.spec_l1Weight N d.1.1 fun x0 => k (E.spec_l1Weight_r.to (x0, ((), ()))).1 (E.spec_l1Weight_r.to (x0, ((), ()))).2.1 (E.spec_l1Weight_r.to (x0, ((), ()))).2.2 := by kernel_rfl
theorem TK.spec_l1Weight {R : Type} (N : Nat) : EntryOk Try.prog (T.spec_l1Weight (R := R) N) :=
  entry_fun (h := H.spec_l1Weight) hC hm (table_cons (TK.spec_l1Kids N) table_nil) WF.f105 (fun d => (ltable_cons (LK.spec_l1Weight_l0 N) ltable_nil)) fun d k =>
    (congrArg (fun z => F.spec_l1Weight N d.1.1 z) (funext fun x0 => (via_to E.spec_l1Weight_r k (x0, ((), ()))).symm)).trans (F.spec_l1Weight_ok N d (fun v fin new => via E.spec_l1Weight_r k (v, fin, new))).symm

/-! ### loop.example/s0007/spec.l1RuleWeight: function 82 -/
abbrev E.spec_l1RuleWeight_l0_i : Enc St := Enc.st 0 (Enc.all [(Enc.key 3 (Enc.int .i64)), (Enc.key 7 (Enc.ro 0 (.pair .bool (.pair .bool (.lst (.pair (.int .i64) (.pair (.lst (.pair (.int .i64) (.int .i64))) (.pair (.int .i64) (.pair (.int .i64) (.int .i64)))))))))), (Enc.key 8 (Enc.int .i64)), (Enc.key 9 (Enc.int .i64))]) (Enc.all [])
abbrev E.spec_l1RuleWeight_l0_oe0 : Enc St := Enc.st 0 (Enc.all [(Enc.key 3 (Enc.int .i64))]) (Enc.all [])
abbrev E.spec_l1RuleWeight_a : Enc (List AV × List Blk) := Enc.both (Enc.vals [(Enc.agg (Enc.vals [(Enc.ro 0 (.pair .bool (.pair .bool (.lst (.pair (.int .i64) (.pair (.lst (.pair (.int .i64) (.int .i64))) (.pair (.int .i64) (.pair (.int .i64) (.int .i64))))))))), (Enc.int .i64)]))]) (Enc.all [])
abbrev E.spec_l1RuleWeight_r : Enc (AV × List (Option Blk) × List Blk) := Enc.both (Enc.int .i64) (Enc.both (Enc.all []) (Enc.all []))
def T.spec_l1RuleWeight {R : Type} (N : Nat) : Entry R := { f := 82, arg := E.spec_l1RuleWeight_a, res := E.spec_l1RuleWeight_r, fn := fun d k => F.spec_l1RuleWeight N d.1.1.1 d.1.1.2.1 fun x0 => k (x0, ((), ())) }
def H.spec_l1RuleWeight : Hint := [(0, [3, 7, 8, 9], [3])]
theorem WF.f82 : FnWf Try.prog 82 Try.f82 := fnWf_of Try.func82 (by decide) (by kernel_rfl)
theorem F.spec_l1RuleWeight_l0_ok {R : Type} (N : Nat) (d : E.spec_l1RuleWeight_l0_i.D) (next : St → Option R) (out : Ex → St → Option R) :
    stepE cfg (table [T.spec_l1Weight N]) (ltable []) 0 H.spec_l1RuleWeight 0 (bodyOf Try.f82 0) [3, 7, 8, 9] [3] (E.spec_l1RuleWeight_l0_i.to d) next out =
      F.spec_l1RuleWeight_l0_s N d.1.1 d.1.2.1 d.1.2.2.1 d.1.2.2.2.1 (fun x0 x1 x2 x3 => next (E.spec_l1RuleWeight_l0_i.to ((x0, (x1, (x2, (x3, ())))), ()))) (fun y0 => out (.exit 0) (E.spec_l1RuleWeight_l0_oe0.to ((y0, ()), ()))) := by kernel_rfl
def G.spec_l1RuleWeight_l0 {R : Type} (N n : Nat) (d : E.spec_l1RuleWeight_l0_i.D) (k : Ex → St → Option R) : Option R := F.spec_l1RuleWeight_l0 N n d.1.1 d.1.2.1 d.1.2.2.1 d.1.2.2.2.1 (fun y0 => k (.exit 0) (E.spec_l1RuleWeight_l0_oe0.to ((y0, ()), ())))
def TL.spec_l1RuleWeight_l0 {R : Type} (N : Nat) : LEntry R := { b := 0, st := E.spec_l1RuleWeight_l0_i, fn := fun d k => G.spec_l1RuleWeight_l0 N N d k }
theorem GS.spec_l1RuleWeight_l0 {R : Type} (N n : Nat) (d : E.spec_l1RuleWeight_l0_i.D) (k : Ex → St → Option R) : G.spec_l1RuleWeight_l0 N (n + 1) d k =
    stepE cfg (table [T.spec_l1Weight N]) (ltable []) 0 H.spec_l1RuleWeight 0 (bodyOf Try.f82 0) [3, 7, 8, 9] [3] (E.spec_l1RuleWeight_l0_i.to d) (via E.spec_l1RuleWeight_l0_i fun e => G.spec_l1RuleWeight_l0 N n e k) k :=
  (show G.spec_l1RuleWeight_l0 N (n + 1) d k = F.spec_l1RuleWeight_l0_s N d.1.1 d.1.2.1 d.1.2.2.1 d.1.2.2.2.1 (fun x0 x1 x2 x3 => F.spec_l1RuleWeight_l0 N n x0 x1 x2 x3 (fun y0 => k (.exit 0) (E.spec_l1RuleWeight_l0_oe0.to ((y0, ()), ())))) (fun y0 => k (.exit 0) (E.spec_l1RuleWeight_l0_oe0.to ((y0, ()), ()))) from rfl).trans
    ((congrArg (fun z => F.spec_l1RuleWeight_l0_s N d.1.1 d.1.2.1 d.1.2.2.1 d.1.2.2.2.1 z (fun y0 => k (.exit 0) (E.spec_l1RuleWeight_l0_oe0.to ((y0, ()), ())))) (funext fun x0 => funext fun x1 => funext fun x2 => funext fun x3 => (via_to E.spec_l1RuleWeight_l0_i (fun e => G.spec_l1RuleWeight_l0 N n e k) ((x0, (x1, (x2, (x3, ())))), ())).symm)).trans (F.spec_l1RuleWeight_l0_ok N d (via E.spec_l1RuleWeight_l0_i fun e => G.spec_l1RuleWeight_l0 N n e k) k).symm)
theorem LK.spec_l1RuleWeight_l0 {R : Type} (N : Nat) : LEntryOk Try.prog 0 Try.f82.ntmps (bodyOf Try.f82) (TL.spec_l1RuleWeight_l0 (R := R) N) :=
  lentry_fun (i := [3, 7, 8, 9]) (o := [3]) (h := H.spec_l1RuleWeight) hC hm (table_cons (TK.spec_l1Weight N) table_nil) WF.f82 ltable_nil (fun d => uniq_of rfl) (fun n d k => G.spec_l1RuleWeight_l0 N n d k) N (fun _ _ => rfl) (fun _ _ => rfl) (fun n d k => GS.spec_l1RuleWeight_l0 N n d k)
theorem F.spec_l1RuleWeight_ok {R : Type} (N : Nat) (d : E.spec_l1RuleWeight_a.D) (k : AV → List (Option Blk) → List Blk → Option R) :
    funE cfg (table []) (ltable [TL.spec_l1RuleWeight_l0 N]) H.spec_l1RuleWeight Try.f82 (E.spec_l1RuleWeight_a.to d).1 (E.spec_l1RuleWeight_a.to d).2 k =
      F.spec_l1RuleWeight N d.1.1.1 d.1.1.2.1 fun x0 => k (E.spec_l1RuleWeight_r.to (x0, ((), ()))).1 (E.spec_l1RuleWeight_r.to (x0, ((), ()))).2.1 (E.spec_l1RuleWeight_r.to (x0, ((), ()))).2.2 := by kernel_rfl
theorem TK.spec_l1RuleWeight {R : Type} (N : Nat) : EntryOk Try.prog (T.spec_l1RuleWeight (R := R) N) :=
  entry_fun (h := H.spec_l1RuleWeight) hC hm table_nil WF.f82 (fun d => (ltable_cons (LK.spec_l1RuleWeight_l0 N) ltable_nil)) fun d k =>
    (congrArg (fun z => F.spec_l1RuleWeight N d.1.1.1 d.1.1.2.1 z) (funext fun x0 => (via_to E.spec_l1RuleWeight_r k (x0, ((), ()))).symm)).trans (F.spec_l1RuleWeight_ok N d (fun v fin new => via E.spec_l1RuleWeight_r k (v, fin, new))).symm

/-! ### loop.example/s0007/spec.RuleOK: function 39 -/
abbrev E.spec_RuleOK_l0_i : Enc St := Enc.st 2 (Enc.all [(Enc.key 1 (Enc.pb 0 0)), (Enc.key 3 (Enc.int .i64)), (Enc.key 4 (Enc.sl 1)), (Enc.key 31 (Enc.ro 0 (.pair .bool (.pair .bool (.lst (.pair (.int .i64) (.pair (.lst (.pair (.int .i64) (.int .i64))) (.pair (.int .i64) (.pair (.int .i64) (.int .i64)))))))))), (Enc.key 32 (Enc.int .i64)), (Enc.key 33 (Enc.int .i64))]) (Enc.all [(Enc.key 0 (Enc.cell (Enc.vals [(Enc.ro 0 (.pair .bool (.pair .bool (.lst (.pair (.int .i64) (.pair (.lst (.pair (.int .i64) (.int .i64))) (.pair (.int .i64) (.pair (.int .i64) (.int .i64))))))))), (Enc.int .i64)]))), (Enc.key 1 (Enc.cell (Enc.vals [(Enc.rw (.int .i64))])))])
abbrev E.spec_RuleOK_l0_oe0 : Enc St := Enc.st 2 (Enc.all [(Enc.key 1 (Enc.pb 0 0)), (Enc.key 3 (Enc.int .i64)), (Enc.key 4 (Enc.sl 1))]) (Enc.all [(Enc.key 0 (Enc.cell (Enc.vals [(Enc.ro 0 (.pair .bool (.pair .bool (.lst (.pair (.int .i64) (.pair (.lst (.pair (.int .i64) (.int .i64))) (.pair (.int .i64) (.pair (.int .i64) (.int .i64))))))))), (Enc.int .i64)]))), (Enc.key 1 (Enc.cell (Enc.vals [(Enc.rw (.int .i64))])))])
abbrev E.spec_RuleOK_l4_i : Enc St := Enc.st 2 (Enc.all [(Enc.key 1 (Enc.pb 0 0)), (Enc.key 4 (Enc.sl 1)), (Enc.key 46 (Enc.ro 0 (.pair .bool (.pair .bool (.lst (.pair (.int .i64) (.pair (.lst (.pair (.int .i64) (.int .i64))) (.pair (.int .i64) (.pair (.int .i64) (.int .i64)))))))))), (Enc.key 47 (Enc.int .i64)), (Enc.key 48 (Enc.int .i64)), (Enc.key 62 (Enc.ro 0 (.pair (.int .i64) (.pair (.lst (.pair (.int .i64) (.int .i64))) (.pair (.int .i64) (.pair (.int .i64) (.int .i64))))))), (Enc.key 63 (Enc.int .i64)), (Enc.key 64 (Enc.int .i64))]) (Enc.all [(Enc.key 0 (Enc.cell (Enc.vals [(Enc.ro 0 (.pair .bool (.pair .bool (.lst (.pair (.int .i64) (.pair (.lst (.pair (.int .i64) (.int .i64))) (.pair (.int .i64) (.pair (.int .i64) (.int .i64))))))))), (Enc.int .i64)]))), (Enc.key 1 (Enc.cell (Enc.vals [(Enc.rw (.int .i64))])))])
abbrev E.spec_RuleOK_l4_oe4 : Enc St := Enc.st 2 (Enc.all [(Enc.key 1 (Enc.pb 0 0)), (Enc.key 2 Enc.un), (Enc.key 4 (Enc.sl 1)), (Enc.key 46 (Enc.ro 0 (.pair .bool (.pair .bool (.lst (.pair (.int .i64) (.pair (.lst (.pair (.int .i64) (.int .i64))) (.pair (.int .i64) (.pair (.int .i64) (.int .i64)))))))))), (Enc.key 47 (Enc.int .i64)), (Enc.key 48 (Enc.int .i64))]) (Enc.all [(Enc.key 0 (Enc.cell (Enc.vals [(Enc.ro 0 (.pair .bool (.pair .bool (.lst (.pair (.int .i64) (.pair (.lst (.pair (.int .i64) (.int .i64))) (.pair (.int .i64) (.pair (.int .i64) (.int .i64))))))))), (Enc.int .i64)]))), (Enc.key 1 (Enc.cell (Enc.vals [(Enc.rw (.int .i64))])))])
abbrev E.spec_RuleOK_l4_oret : Enc St := Enc.st 2 (Enc.all [(Enc.key 1 (Enc.pb 0 0)), (Enc.key 2 Enc.bool), (Enc.key 4 (Enc.sl 1)), (Enc.key 46 (Enc.ro 0 (.pair .bool (.pair .bool (.lst (.pair (.int .i64) (.pair (.lst (.pair (.int .i64) (.int .i64))) (.pair (.int .i64) (.pair (.int .i64) (.int .i64)))))))))), (Enc.key 47 (Enc.int .i64)), (Enc.key 48 (Enc.int .i64))]) (Enc.all [(Enc.key 0 (Enc.cell (Enc.vals [(Enc.ro 0 (.pair .bool (.pair .bool (.lst (.pair (.int .i64) (.pair (.lst (.pair (.int .i64) (.int .i64))) (.pair (.int .i64) (.pair (.int .i64) (.int .i64))))))))), (Enc.int .i64)]))), (Enc.key 1 (Enc.cell (Enc.vals [(Enc.rw (.int .i64))])))])
abbrev E.spec_RuleOK_l2_i : Enc St := Enc.st 2 (Enc.all [(Enc.key 1 (Enc.pb 0 0)), (Enc.key 4 (Enc.sl 1)), (Enc.key 46 (Enc.ro 0 (.pair .bool (.pair .bool (.lst (.pair (.int .i64) (.pair (.lst (.pair (.int .i64) (.int .i64))) (.pair (.int .i64) (.pair (.int .i64) (.int .i64)))))))))), (Enc.key 47 (Enc.int .i64)), (Enc.key 48 (Enc.int .i64))]) (Enc.all [(Enc.key 0 (Enc.cell (Enc.vals [(Enc.ro 0 (.pair .bool (.pair .bool (.lst (.pair (.int .i64) (.pair (.lst (.pair (.int .i64) (.int .i64))) (.pair (.int .i64) (.pair (.int .i64) (.int .i64))))))))), (Enc.int .i64)]))), (Enc.key 1 (Enc.cell (Enc.vals [(Enc.rw (.int .i64))])))])
abbrev E.spec_RuleOK_l2_oe2 : Enc St := Enc.st 2 (Enc.all [(Enc.key 1 (Enc.pb 0 0)), (Enc.key 2 Enc.un), (Enc.key 4 (Enc.sl 1))]) (Enc.all [(Enc.key 0 (Enc.cell (Enc.vals [(Enc.ro 0 (.pair .bool (.pair .bool (.lst (.pair (.int .i64) (.pair (.lst (.pair (.int .i64) (.int .i64))) (.pair (.int .i64) (.pair (.int .i64) (.int .i64))))))))), (Enc.int .i64)]))), (Enc.key 1 (Enc.cell (Enc.vals [(Enc.rw (.int .i64))])))])
abbrev E.spec_RuleOK_l2_oret : Enc St := Enc.st 2 (Enc.all [(Enc.key 1 (Enc.pb 0 0)), (Enc.key 2 Enc.bool), (Enc.key 4 (Enc.sl 1))]) (Enc.all [(Enc.key 0 (Enc.cell (Enc.vals [(Enc.ro 0 (.pair .bool (.pair .bool (.lst (.pair (.int .i64) (.pair (.lst (.pair (.int .i64) (.int .i64))) (.pair (.int .i64) (.pair (.int .i64) (.int .i64))))))))), (Enc.int .i64)]))), (Enc.key 1 (Enc.cell (Enc.vals [(Enc.rw (.int .i64))])))])
abbrev E.spec_RuleOK_l8_i : Enc St := Enc.st 2 (Enc.all [(Enc.key 1 (Enc.pb 0 0)), (Enc.key 4 (Enc.sl 1)), (Enc.key 14 (Enc.int .i64)), (Enc.key 15 (Enc.int .i64)), (Enc.key 92 (Enc.sl 1)), (Enc.key 93 (Enc.int .i64)), (Enc.key 94 (Enc.int .i64))]) (Enc.all [(Enc.key 0 (Enc.cell (Enc.vals [(Enc.ro 0 (.pair .bool (.pair .bool (.lst (.pair (.int .i64) (.pair (.lst (.pair (.int .i64) (.int .i64))) (.pair (.int .i64) (.pair (.int .i64) (.int .i64))))))))), (Enc.int .i64)]))), (Enc.key 1 (Enc.cell (Enc.vals [(Enc.rw (.int .i64))])))])
abbrev E.spec_RuleOK_l8_oe8 : Enc St := Enc.st 2 (Enc.all [(Enc.key 1 (Enc.pb 0 0)), (Enc.key 4 (Enc.sl 1)), (Enc.key 14 (Enc.int .i64)), (Enc.key 15 (Enc.int .i64))]) (Enc.all [(Enc.key 0 (Enc.cell (Enc.vals [(Enc.ro 0 (.pair .bool (.pair .bool (.lst (.pair (.int .i64) (.pair (.lst (.pair (.int .i64) (.int .i64))) (.pair (.int .i64) (.pair (.int .i64) (.int .i64))))))))), (Enc.int .i64)]))), (Enc.key 1 (Enc.cell (Enc.vals [(Enc.rw (.int .i64))])))])
abbrev E.spec_RuleOK_l6_i : Enc St := Enc.st 2 (Enc.all [(Enc.key 1 (Enc.pb 0 0)), (Enc.key 4 (Enc.sl 1)), (Enc.key 14 (Enc.int .i64))]) (Enc.all [(Enc.key 0 (Enc.cell (Enc.vals [(Enc.ro 0 (.pair .bool (.pair .bool (.lst (.pair (.int .i64) (.pair (.lst (.pair (.int .i64) (.int .i64))) (.pair (.int .i64) (.pair (.int .i64) (.int .i64))))))))), (Enc.int .i64)]))), (Enc.key 1 (Enc.cell (Enc.vals [(Enc.rw (.int .i64))])))])
abbrev E.spec_RuleOK_l6_oe6 : Enc St := Enc.st 1 (Enc.all [(Enc.key 1 (Enc.pb 0 0)), (Enc.key 2 Enc.un)]) (Enc.all [(Enc.key 0 (Enc.cell (Enc.vals [(Enc.ro 0 (.pair .bool (.pair .bool (.lst (.pair (.int .i64) (.pair (.lst (.pair (.int .i64) (.int .i64))) (.pair (.int .i64) (.pair (.int .i64) (.int .i64))))))))), (Enc.int .i64)])))])
abbrev E.spec_RuleOK_l6_oret : Enc St := Enc.st 1 (Enc.all [(Enc.key 1 (Enc.pb 0 0)), (Enc.key 2 Enc.bool)]) (Enc.all [(Enc.key 0 (Enc.cell (Enc.vals [(Enc.ro 0 (.pair .bool (.pair .bool (.lst (.pair (.int .i64) (.pair (.lst (.pair (.int .i64) (.int .i64))) (.pair (.int .i64) (.pair (.int .i64) (.int .i64))))))))), (Enc.int .i64)])))])
abbrev E.spec_RuleOK_a : Enc (List AV × List Blk) := Enc.both (Enc.vals [(Enc.agg (Enc.vals [(Enc.ro 0 (.pair .bool (.pair .bool (.lst (.pair (.int .i64) (.pair (.lst (.pair (.int .i64) (.int .i64))) (.pair (.int .i64) (.pair (.int .i64) (.int .i64))))))))), (Enc.int .i64)]))]) (Enc.all [])
abbrev E.spec_RuleOK_r : Enc (AV × List (Option Blk) × List Blk) := Enc.both Enc.bool (Enc.both (Enc.all []) (Enc.all []))
def T.spec_RuleOK {R : Type} (N : Nat) : Entry R := { f := 39, arg := E.spec_RuleOK_a, res := E.spec_RuleOK_r, fn := fun d k => F.spec_RuleOK N d.1.1.1 d.1.1.2.1 fun x0 => k (x0, ((), ())) }
def H.spec_RuleOK : Hint := [(0, [1, 3, 4, 31, 32, 33], [1, 3, 4]), (2, [1, 4, 46, 47, 48], [1, 2, 4]), (4, [1, 4, 46, 47, 48, 62, 63, 64], [1, 2, 4, 46, 47, 48]), (6, [1, 4, 14], [1, 2]), (8, [1, 4, 14, 15, 92, 93, 94], [1, 4, 14, 15])]
theorem WF.f39 : FnWf Try.prog 39 Try.f39 := fnWf_of Try.func39 (by decide) (by kernel_rfl)
theorem F.spec_RuleOK_l0_ok {R : Type} (N : Nat) (d : E.spec_RuleOK_l0_i.D) (next : St → Option R) (out : Ex → St → Option R) :
    stepE cfg (table []) (ltable []) 0 H.spec_RuleOK 0 (bodyOf Try.f39 0) [1, 3, 4, 31, 32, 33] [1, 3, 4] (E.spec_RuleOK_l0_i.to d) next out =
      F.spec_RuleOK_l0_s N d.1.2.1 d.1.2.2.2.1 d.1.2.2.2.2.1 d.1.2.2.2.2.2.1 d.2.1.1 d.2.1.2.1 d.2.2.1.1 (fun x0 x1 x2 x3 x4 x5 x6 => next (E.spec_RuleOK_l0_i.to (((), (x0, ((), (x1, (x2, (x3, ())))))), ((x4, (x5, ())), ((x6, ()), ()))))) (fun y0 y1 y2 y3 => out (.exit 0) (E.spec_RuleOK_l0_oe0.to (((), (y0, ((), ()))), ((y1, (y2, ())), ((y3, ()), ()))))) := by kernel_rfl
def G.spec_RuleOK_l0 {R : Type} (N n : Nat) (d : E.spec_RuleOK_l0_i.D) (k : Ex → St → Option R) : Option R := F.spec_RuleOK_l0 N n d.1.2.1 d.1.2.2.2.1 d.1.2.2.2.2.1 d.1.2.2.2.2.2.1 d.2.1.1 d.2.1.2.1 d.2.2.1.1 (fun y0 y1 y2 y3 => k (.exit 0) (E.spec_RuleOK_l0_oe0.to (((), (y0, ((), ()))), ((y1, (y2, ())), ((y3, ()), ())))))
def TL.spec_RuleOK_l0 {R : Type} (N : Nat) : LEntry R := { b := 0, st := E.spec_RuleOK_l0_i, fn := fun d k => G.spec_RuleOK_l0 N N d k }
theorem GS.spec_RuleOK_l0 {R : Type} (N n : Nat) (d : E.spec_RuleOK_l0_i.D) (k : Ex → St → Option R) : G.spec_RuleOK_l0 N (n + 1) d k =
    stepE cfg (table []) (ltable []) 0 H.spec_RuleOK 0 (bodyOf Try.f39 0) [1, 3, 4, 31, 32, 33] [1, 3, 4] (E.spec_RuleOK_l0_i.to d) (via E.spec_RuleOK_l0_i fun e => G.spec_RuleOK_l0 N n e k) k :=
  (show G.spec_RuleOK_l0 N (n + 1) d k = F.spec_RuleOK_l0_s N d.1.2.1 d.1.2.2.2.1 d.1.2.2.2.2.1 d.1.2.2.2.2.2.1 d.2.1.1 d.2.1.2.1 d.2.2.1.1 (fun x0 x1 x2 x3 x4 x5 x6 => F.spec_RuleOK_l0 N n x0 x1 x2 x3 x4 x5 x6 (fun y0 y1 y2 y3 => k (.exit 0) (E.spec_RuleOK_l0_oe0.to (((), (y0, ((), ()))), ((y1, (y2, ())), ((y3, ()), ())))))) (fun y0 y1 y2 y3 => k (.exit 0) (E.spec_RuleOK_l0_oe0.to (((), (y0, ((), ()))), ((y1, (y2, ())), ((y3, ()), ()))))) from rfl).trans
    ((congrArg (fun z => F.spec_RuleOK_l0_s N d.1.2.1 d.1.2.2.2.1 d.1.2.2.2.2.1 d.1.2.2.2.2.2.1 d.2.1.1 d.2.1.2.1 d.2.2.1.1 z (fun y0 y1 y2 y3 => k (.exit 0) (E.spec_RuleOK_l0_oe0.to (((), (y0, ((), ()))), ((y1, (y2, ())), ((y3, ()), ())))))) (funext fun x0 => funext fun x1 => funext fun x2 => funext fun x3 => funext fun x4 => funext fun x5 => funext fun x6 => (via_to E.spec_RuleOK_l0_i (fun e => G.spec_RuleOK_l0 N n e k) (((), (x0, ((), (x1, (x2, (x3, ())))))), ((x4, (x5, ())), ((x6, ()), ())))).symm)).trans (F.spec_RuleOK_l0_ok N d (via E.spec_RuleOK_l0_i fun e => G.spec_RuleOK_l0 N n e k) k).symm)
theorem LK.spec_RuleOK_l0 {R : Type} (N : Nat) : LEntryOk Try.prog 0 Try.f39.ntmps (bodyOf Try.f39) (TL.spec_RuleOK_l0 (R := R) N) :=
  lentry_fun (i := [1, 3, 4, 31, 32, 33]) (o := [1, 3, 4]) (h := H.spec_RuleOK) hC hm table_nil WF.f39 ltable_nil (fun d => uniq_of rfl) (fun n d k => G.spec_RuleOK_l0 N n d k) N (fun _ _ => rfl) (fun _ _ => rfl) (fun n d k => GS.spec_RuleOK_l0 N n d k)
theorem F.spec_RuleOK_l4_ok {R : Type} (N : Nat) (d : E.spec_RuleOK_l4_i.D) (next : St → Option R) (out : Ex → St → Option R) :
    stepE cfg (table [T.spec_l1NodeOK N]) (ltable []) 0 H.spec_RuleOK 4 (bodyOf Try.f39 4) [1, 4, 46, 47, 48, 62, 63, 64] [1, 2, 4, 46, 47, 48] (E.spec_RuleOK_l4_i.to d) next out =
      F.spec_RuleOK_l4_s N d.1.2.2.1 d.1.2.2.2.1 d.1.2.2.2.2.1 d.1.2.2.2.2.2.1 d.1.2.2.2.2.2.2.1 d.1.2.2.2.2.2.2.2.1 d.2.1.1 d.2.1.2.1 d.2.2.1.1 (fun x0 x1 x2 x3 x4 x5 x6 x7 x8 => next (E.spec_RuleOK_l4_i.to (((), ((), (x0, (x1, (x2, (x3, (x4, (x5, ())))))))), ((x6, (x7, ())), ((x8, ()), ()))))) (fun y0 y1 y2 y3 y4 y5 => out (.exit 4) (E.spec_RuleOK_l4_oe4.to (((), ((), ((), (y0, (y1, (y2, ())))))), ((y3, (y4, ())), ((y5, ()), ()))))) (fun y0 y1 y2 y3 y4 y5 y6 => out .ret (E.spec_RuleOK_l4_oret.to (((), (y0, ((), (y1, (y2, (y3, ())))))), ((y4, (y5, ())), ((y6, ()), ()))))) := by kernel_rfl
def G.spec_RuleOK_l4 {R : Type} (N n : Nat) (d : E.spec_RuleOK_l4_i.D) (k : Ex → St → Option R) : Option R := F.spec_RuleOK_l4 N n d.1.2.2.1 d.1.2.2.2.1 d.1.2.2.2.2.1 d.1.2.2.2.2.2.1 d.1.2.2.2.2.2.2.1 d.1.2.2.2.2.2.2.2.1 d.2.1.1 d.2.1.2.1 d.2.2.1.1 (fun y0 y1 y2 y3 y4 y5 => k (.exit 4) (E.spec_RuleOK_l4_oe4.to (((), ((), ((), (y0, (y1, (y2, ())))))), ((y3, (y4, ())), ((y5, ()), ()))))) (fun y0 y1 y2 y3 y4 y5 y6 => k .ret (E.spec_RuleOK_l4_oret.to (((), (y0, ((), (y1, (y2, (y3, ())))))), ((y4, (y5, ())), ((y6, ()), ())))))
def TL.spec_RuleOK_l4 {R : Type} (N : Nat) : LEntry R := { b := 4, st := E.spec_RuleOK_l4_i, fn := fun d k => G.spec_RuleOK_l4 N N d k }
theorem GS.spec_RuleOK_l4 {R : Type} (N n : Nat) (d : E.spec_RuleOK_l4_i.D) (k : Ex → St → Option R) : G.spec_RuleOK_l4 N (n + 1) d k =
    stepE cfg (table [T.spec_l1NodeOK N]) (ltable []) 0 H.spec_RuleOK 4 (bodyOf Try.f39 4) [1, 4, 46, 47, 48, 62, 63, 64] [1, 2, 4, 46, 47, 48] (E.spec_RuleOK_l4_i.to d) (via E.spec_RuleOK_l4_i fun e => G.spec_RuleOK_l4 N n e k) k :=
  (show G.spec_RuleOK_l4 N (n + 1) d k = F.spec_RuleOK_l4_s N d.1.2.2.1 d.1.2.2.2.1 d.1.2.2.2.2.1 d.1.2.2.2.2.2.1 d.1.2.2.2.2.2.2.1 d.1.2.2.2.2.2.2.2.1 d.2.1.1 d.2.1.2.1 d.2.2.1.1 (fun x0 x1 x2 x3 x4 x5 x6 x7 x8 => F.spec_RuleOK_l4 N n x0 x1 x2 x3 x4 x5 x6 x7 x8 (fun y0 y1 y2 y3 y4 y5 => k (.exit 4) (E.spec_RuleOK_l4_oe4.to (((), ((), ((), (y0, (y1, (y2, ())))))), ((y3, (y4, ())), ((y5, ()), ()))))) (fun y0 y1 y2 y3 y4 y5 y6 => k .ret (E.spec_RuleOK_l4_oret.to (((), (y0, ((), (y1, (y2, (y3, ())))))), ((y4, (y5, ())), ((y6, ()), ())))))) (fun y0 y1 y2 y3 y4 y5 => k (.exit 4) (E.spec_RuleOK_l4_oe4.to (((), ((), ((), (y0, (y1, (y2, ())))))), ((y3, (y4, ())), ((y5, ()), ()))))) (fun y0 y1 y2 y3 y4 y5 y6 => k .ret (E.spec_RuleOK_l4_oret.to (((), (y0, ((), (y1, (y2, (y3, ())))))), ((y4, (y5, ())), ((y6, ()), ()))))) from rfl).trans
    ((congrArg (fun z => F.spec_RuleOK_l4_s N d.1.2.2.1 d.1.2.2.2.1 d.1.2.2.2.2.1 d.1.2.2.2.2.2.1 d.1.2.2.2.2.2.2.1 d.1.2.2.2.2.2.2.2.1 d.2.1.1 d.2.1.2.1 d.2.2.1.1 z (fun y0 y1 y2 y3 y4 y5 => k (.exit 4) (E.spec_RuleOK_l4_oe4.to (((), ((), ((), (y0, (y1, (y2, ())))))), ((y3, (y4, ())), ((y5, ()), ()))))) (fun y0 y1 y2 y3 y4 y5 y6 => k .ret (E.spec_RuleOK_l4_oret.to (((), (y0, ((), (y1, (y2, (y3, ())))))), ((y4, (y5, ())), ((y6, ()), ())))))) (funext fun x0 => funext fun x1 => funext fun x2 => funext fun x3 => funext fun x4 => funext fun x5 => funext fun x6 => funext fun x7 => funext fun x8 => (via_to E.spec_RuleOK_l4_i (fun e => G.spec_RuleOK_l4 N n e k) (((), ((), (x0, (x1, (x2, (x3, (x4, (x5, ())))))))), ((x6, (x7, ())), ((x8, ()), ())))).symm)).trans (F.spec_RuleOK_l4_ok N d (via E.spec_RuleOK_l4_i fun e => G.spec_RuleOK_l4 N n e k) k).symm)
theorem LK.spec_RuleOK_l4 {R : Type} (N : Nat) : LEntryOk Try.prog 0 Try.f39.ntmps (bodyOf Try.f39) (TL.spec_RuleOK_l4 (R := R) N) :=
  lentry_fun (i := [1, 4, 46, 47, 48, 62, 63, 64]) (o := [1, 2, 4, 46, 47, 48]) (h := H.spec_RuleOK) hC hm (table_cons (TK.spec_l1NodeOK N) table_nil) WF.f39 ltable_nil (fun d => uniq_of rfl) (fun n d k => G.spec_RuleOK_l4 N n d k) N (fun _ _ => rfl) (fun _ _ => rfl) (fun n d k => GS.spec_RuleOK_l4 N n d k)
theorem F.spec_RuleOK_l2_ok {R : Type} (N : Nat) (d : E.spec_RuleOK_l2_i.D) (next : St → Option R) (out : Ex → St → Option R) :
    stepE cfg (table [T.spec_l1Kids N]) (ltable [TL.spec_RuleOK_l4 N]) 0 H.spec_RuleOK 2 (bodyOf Try.f39 2) [1, 4, 46, 47, 48] [1, 2, 4] (E.spec_RuleOK_l2_i.to d) next out =
      F.spec_RuleOK_l2_s N d.1.2.2.1 d.1.2.2.2.1 d.1.2.2.2.2.1 d.2.1.1 d.2.1.2.1 d.2.2.1.1 (fun x0 x1 x2 x3 x4 x5 => next (E.spec_RuleOK_l2_i.to (((), ((), (x0, (x1, (x2, ()))))), ((x3, (x4, ())), ((x5, ()), ()))))) (fun y0 y1 y2 => out (.exit 2) (E.spec_RuleOK_l2_oe2.to (((), ((), ((), ()))), ((y0, (y1, ())), ((y2, ()), ()))))) (fun y0 y1 y2 y3 => out .ret (E.spec_RuleOK_l2_oret.to (((), (y0, ((), ()))), ((y1, (y2, ())), ((y3, ()), ()))))) := by kernel_rfl
def G.spec_RuleOK_l2 {R : Type} (N n : Nat) (d : E.spec_RuleOK_l2_i.D) (k : Ex → St → Option R) : Option R := F.spec_RuleOK_l2 N n d.1.2.2.1 d.1.2.2.2.1 d.1.2.2.2.2.1 d.2.1.1 d.2.1.2.1 d.2.2.1.1 (fun y0 y1 y2 => k (.exit 2) (E.spec_RuleOK_l2_oe2.to (((), ((), ((), ()))), ((y0, (y1, ())), ((y2, ()), ()))))) (fun y0 y1 y2 y3 => k .ret (E.spec_RuleOK_l2_oret.to (((), (y0, ((), ()))), ((y1, (y2, ())), ((y3, ()), ())))))
def TL.spec_RuleOK_l2 {R : Type} (N : Nat) : LEntry R := { b := 2, st := E.spec_RuleOK_l2_i, fn := fun d k => G.spec_RuleOK_l2 N N d k }
theorem GS.spec_RuleOK_l2 {R : Type} (N n : Nat) (d : E.spec_RuleOK_l2_i.D) (k : Ex → St → Option R) : G.spec_RuleOK_l2 N (n + 1) d k =
    stepE cfg (table [T.spec_l1Kids N]) (ltable [TL.spec_RuleOK_l4 N]) 0 H.spec_RuleOK 2 (bodyOf Try.f39 2) [1, 4, 46, 47, 48] [1, 2, 4] (E.spec_RuleOK_l2_i.to d) (via E.spec_RuleOK_l2_i fun e => G.spec_RuleOK_l2 N n e k) k :=
  (show G.spec_RuleOK_l2 N (n + 1) d k = F.spec_RuleOK_l2_s N d.1.2.2.1 d.1.2.2.2.1 d.1.2.2.2.2.1 d.2.1.1 d.2.1.2.1 d.2.2.1.1 (fun x0 x1 x2 x3 x4 x5 => F.spec_RuleOK_l2 N n x0 x1 x2 x3 x4 x5 (fun y0 y1 y2 => k (.exit 2) (E.spec_RuleOK_l2_oe2.to (((), ((), ((), ()))), ((y0, (y1, ())), ((y2, ()), ()))))) (fun y0 y1 y2 y3 => k .ret (E.spec_RuleOK_l2_oret.to (((), (y0, ((), ()))), ((y1, (y2, ())), ((y3, ()), ())))))) (fun y0 y1 y2 => k (.exit 2) (E.spec_RuleOK_l2_oe2.to (((), ((), ((), ()))), ((y0, (y1, ())), ((y2, ()), ()))))) (fun y0 y1 y2 y3 => k .ret (E.spec_RuleOK_l2_oret.to (((), (y0, ((), ()))), ((y1, (y2, ())), ((y3, ()), ()))))) from rfl).trans
    ((congrArg (fun z => F.spec_RuleOK_l2_s N d.1.2.2.1 d.1.2.2.2.1 d.1.2.2.2.2.1 d.2.1.1 d.2.1.2.1 d.2.2.1.1 z (fun y0 y1 y2 => k (.exit 2) (E.spec_RuleOK_l2_oe2.to (((), ((), ((), ()))), ((y0, (y1, ())), ((y2, ()), ()))))) (fun y0 y1 y2 y3 => k .ret (E.spec_RuleOK_l2_oret.to (((), (y0, ((), ()))), ((y1, (y2, ())), ((y3, ()), ())))))) (funext fun x0 => funext fun x1 => funext fun x2 => funext fun x3 => funext fun x4 => funext fun x5 => (via_to E.spec_RuleOK_l2_i (fun e => G.spec_RuleOK_l2 N n e k) (((), ((), (x0, (x1, (x2, ()))))), ((x3, (x4, ())), ((x5, ()), ())))).symm)).trans (F.spec_RuleOK_l2_ok N d (via E.spec_RuleOK_l2_i fun e => G.spec_RuleOK_l2 N n e k) k).symm)
theorem LK.spec_RuleOK_l2 {R : Type} (N : Nat) : LEntryOk Try.prog 0 Try.f39.ntmps (bodyOf Try.f39) (TL.spec_RuleOK_l2 (R := R) N) :=
  lentry_fun (i := [1, 4, 46, 47, 48]) (o := [1, 2, 4]) (h := H.spec_RuleOK) hC hm (table_cons (TK.spec_l1Kids N) table_nil) WF.f39 (ltable_cons (LK.spec_RuleOK_l4 N) ltable_nil) (fun d => uniq_of rfl) (fun n d k => G.spec_RuleOK_l2 N n d k) N (fun _ _ => rfl) (fun _ _ => rfl) (fun n d k => GS.spec_RuleOK_l2 N n d k)
theorem F.spec_RuleOK_l8_ok {R : Type} (N : Nat) (d : E.spec_RuleOK_l8_i.D) (next : St → Option R) (out : Ex → St → Option R) :
    stepE cfg (table []) (ltable []) 0 H.spec_RuleOK 8 (bodyOf Try.f39 8) [1, 4, 14, 15, 92, 93, 94] [1, 4, 14, 15] (E.spec_RuleOK_l8_i.to d) next out =
      F.spec_RuleOK_l8_s N d.1.2.2.1 d.1.2.2.2.1 d.1.2.2.2.2.2.1 d.1.2.2.2.2.2.2.1 d.2.1.1 d.2.1.2.1 d.2.2.1.1 (fun x0 x1 x2 x3 x4 x5 x6 => next (E.spec_RuleOK_l8_i.to (((), ((), (x0, (x1, ((), (x2, (x3, ()))))))), ((x4, (x5, ())), ((x6, ()), ()))))) (fun y0 y1 y2 y3 y4 => out (.exit 8) (E.spec_RuleOK_l8_oe8.to (((), ((), (y0, (y1, ())))), ((y2, (y3, ())), ((y4, ()), ()))))) := by kernel_rfl
def G.spec_RuleOK_l8 {R : Type} (N n : Nat) (d : E.spec_RuleOK_l8_i.D) (k : Ex → St → Option R) : Option R := F.spec_RuleOK_l8 N n d.1.2.2.1 d.1.2.2.2.1 d.1.2.2.2.2.2.1 d.1.2.2.2.2.2.2.1 d.2.1.1 d.2.1.2.1 d.2.2.1.1 (fun y0 y1 y2 y3 y4 => k (.exit 8) (E.spec_RuleOK_l8_oe8.to (((), ((), (y0, (y1, ())))), ((y2, (y3, ())), ((y4, ()), ())))))
def TL.spec_RuleOK_l8 {R : Type} (N : Nat) : LEntry R := { b := 8, st := E.spec_RuleOK_l8_i, fn := fun d k => G.spec_RuleOK_l8 N N d k }
theorem GS.spec_RuleOK_l8 {R : Type} (N n : Nat) (d : E.spec_RuleOK_l8_i.D) (k : Ex → St → Option R) : G.spec_RuleOK_l8 N (n + 1) d k =
    stepE cfg (table []) (ltable []) 0 H.spec_RuleOK 8 (bodyOf Try.f39 8) [1, 4, 14, 15, 92, 93, 94] [1, 4, 14, 15] (E.spec_RuleOK_l8_i.to d) (via E.spec_RuleOK_l8_i fun e => G.spec_RuleOK_l8 N n e k) k :=
  (show G.spec_RuleOK_l8 N (n + 1) d k = F.spec_RuleOK_l8_s N d.1.2.2.1 d.1.2.2.2.1 d.1.2.2.2.2.2.1 d.1.2.2.2.2.2.2.1 d.2.1.1 d.2.1.2.1 d.2.2.1.1 (fun x0 x1 x2 x3 x4 x5 x6 => F.spec_RuleOK_l8 N n x0 x1 x2 x3 x4 x5 x6 (fun y0 y1 y2 y3 y4 => k (.exit 8) (E.spec_RuleOK_l8_oe8.to (((), ((), (y0, (y1, ())))), ((y2, (y3, ())), ((y4, ()), ())))))) (fun y0 y1 y2 y3 y4 => k (.exit 8) (E.spec_RuleOK_l8_oe8.to (((), ((), (y0, (y1, ())))), ((y2, (y3, ())), ((y4, ()), ()))))) from rfl).trans
    ((congrArg (fun z => F.spec_RuleOK_l8_s N d.1.2.2.1 d.1.2.2.2.1 d.1.2.2.2.2.2.1 d.1.2.2.2.2.2.2.1 d.2.1.1 d.2.1.2.1 d.2.2.1.1 z (fun y0 y1 y2 y3 y4 => k (.exit 8) (E.spec_RuleOK_l8_oe8.to (((), ((), (y0, (y1, ())))), ((y2, (y3, ())), ((y4, ()), ())))))) (funext fun x0 => funext fun x1 => funext fun x2 => funext fun x3 => funext fun x4 => funext fun x5 => funext fun x6 => (via_to E.spec_RuleOK_l8_i (fun e => G.spec_RuleOK_l8 N n e k) (((), ((), (x0, (x1, ((), (x2, (x3, ()))))))), ((x4, (x5, ())), ((x6, ()), ())))).symm)).trans (F.spec_RuleOK_l8_ok N d (via E.spec_RuleOK_l8_i fun e => G.spec_RuleOK_l8 N n e k) k).symm)
theorem LK.spec_RuleOK_l8 {R : Type} (N : Nat) : LEntryOk Try.prog 0 Try.f39.ntmps (bodyOf Try.f39) (TL.spec_RuleOK_l8 (R := R) N) :=
  lentry_fun (i := [1, 4, 14, 15, 92, 93, 94]) (o := [1, 4, 14, 15]) (h := H.spec_RuleOK) hC hm table_nil WF.f39 ltable_nil (fun d => uniq_of rfl) (fun n d k => G.spec_RuleOK_l8 N n d k) N (fun _ _ => rfl) (fun _ _ => rfl) (fun n d k => GS.spec_RuleOK_l8 N n d k)
theorem F.spec_RuleOK_l6_ok {R : Type} (N : Nat) (d : E.spec_RuleOK_l6_i.D) (next : St → Option R) (out : Ex → St → Option R) :
    stepE cfg (table []) (ltable [TL.spec_RuleOK_l8 N]) 0 H.spec_RuleOK 6 (bodyOf Try.f39 6) [1, 4, 14] [1, 2] (E.spec_RuleOK_l6_i.to d) next out =
      F.spec_RuleOK_l6_s N d.1.2.2.1 d.2.1.1 d.2.1.2.1 d.2.2.1.1 (fun x0 x1 x2 x3 => next (E.spec_RuleOK_l6_i.to (((), ((), (x0, ()))), ((x1, (x2, ())), ((x3, ()), ()))))) (fun y0 y1 => out (.exit 6) (E.spec_RuleOK_l6_oe6.to (((), ((), ())), ((y0, (y1, ())), ())))) (fun y0 y1 y2 => out .ret (E.spec_RuleOK_l6_oret.to (((), (y0, ())), ((y1, (y2, ())), ())))) := by kernel_rfl
def G.spec_RuleOK_l6 {R : Type} (N n : Nat) (d : E.spec_RuleOK_l6_i.D) (k : Ex → St → Option R) : Option R := F.spec_RuleOK_l6 N n d.1.2.2.1 d.2.1.1 d.2.1.2.1 d.2.2.1.1 (fun y0 y1 => k (.exit 6) (E.spec_RuleOK_l6_oe6.to (((), ((), ())), ((y0, (y1, ())), ())))) (fun y0 y1 y2 => k .ret (E.spec_RuleOK_l6_oret.to (((), (y0, ())), ((y1, (y2, ())), ()))))
def TL.spec_RuleOK_l6 {R : Type} (N : Nat) : LEntry R := { b := 6, st := E.spec_RuleOK_l6_i, fn := fun d k => G.spec_RuleOK_l6 N N d k }
theorem GS.spec_RuleOK_l6 {R : Type} (N n : Nat) (d : E.spec_RuleOK_l6_i.D) (k : Ex → St → Option R) : G.spec_RuleOK_l6 N (n + 1) d k =
    stepE cfg (table []) (ltable [TL.spec_RuleOK_l8 N]) 0 H.spec_RuleOK 6 (bodyOf Try.f39 6) [1, 4, 14] [1, 2] (E.spec_RuleOK_l6_i.to d) (via E.spec_RuleOK_l6_i fun e => G.spec_RuleOK_l6 N n e k) k :=
  (show G.spec_RuleOK_l6 N (n + 1) d k = F.spec_RuleOK_l6_s N d.1.2.2.1 d.2.1.1 d.2.1.2.1 d.2.2.1.1 (fun x0 x1 x2 x3 => F.spec_RuleOK_l6 N n x0 x1 x2 x3 (fun y0 y1 => k (.exit 6) (E.spec_RuleOK_l6_oe6.to (((), ((), ())), ((y0, (y1, ())), ())))) (fun y0 y1 y2 => k .ret (E.spec_RuleOK_l6_oret.to (((), (y0, ())), ((y1, (y2, ())), ()))))) (fun y0 y1 => k (.exit 6) (E.spec_RuleOK_l6_oe6.to (((), ((), ())), ((y0, (y1, ())), ())))) (fun y0 y1 y2 => k .ret (E.spec_RuleOK_l6_oret.to (((), (y0, ())), ((y1, (y2, ())), ())))) from rfl).trans
    ((congrArg (fun z => F.spec_RuleOK_l6_s N d.1.2.2.1 d.2.1.1 d.2.1.2.1 d.2.2.1.1 z (fun y0 y1 => k (.exit 6) (E.spec_RuleOK_l6_oe6.to (((), ((), ())), ((y0, (y1, ())), ())))) (fun y0 y1 y2 => k .ret (E.spec_RuleOK_l6_oret.to (((), (y0, ())), ((y1, (y2, ())), ()))))) (funext fun x0 => funext fun x1 => funext fun x2 => funext fun x3 => (via_to E.spec_RuleOK_l6_i (fun e => G.spec_RuleOK_l6 N n e k) (((), ((), (x0, ()))), ((x1, (x2, ())), ((x3, ()), ())))).symm)).trans (F.spec_RuleOK_l6_ok N d (via E.spec_RuleOK_l6_i fun e => G.spec_RuleOK_l6 N n e k) k).symm)
theorem LK.spec_RuleOK_l6 {R : Type} (N : Nat) : LEntryOk Try.prog 0 Try.f39.ntmps (bodyOf Try.f39) (TL.spec_RuleOK_l6 (R := R) N) :=
  lentry_fun (i := [1, 4, 14]) (o := [1, 2]) (h := H.spec_RuleOK) hC hm table_nil WF.f39 (ltable_cons (LK.spec_RuleOK_l8 N) ltable_nil) (fun d => uniq_of rfl) (fun n d k => G.spec_RuleOK_l6 N n d k) N (fun _ _ => rfl) (fun _ _ => rfl) (fun n d k => GS.spec_RuleOK_l6 N n d k)
theorem F.spec_RuleOK_ok {R : Type} (N : Nat) (d : E.spec_RuleOK_a.D) (k : AV → List (Option Blk) → List Blk → Option R) :
    funE cfg (table [T.spec_l1Between, T.spec_l1RuleWeight N]) (ltable [TL.spec_RuleOK_l0 N, TL.spec_RuleOK_l2 N, TL.spec_RuleOK_l6 N]) H.spec_RuleOK Try.f39 (E.spec_RuleOK_a.to d).1 (E.spec_RuleOK_a.to d).2 k =
      F.spec_RuleOK N d.1.1.1 d.1.1.2.1 fun x0 => k (E.spec_RuleOK_r.to (x0, ((), ()))).1 (E.spec_RuleOK_r.to (x0, ((), ()))).2.1 (E.spec_RuleOK_r.to (x0, ((), ()))).2.2 := by kernel_rfl
theorem TK.spec_RuleOK {R : Type} (N : Nat) : EntryOk Try.prog (T.spec_RuleOK (R := R) N) :=
  entry_fun (h := H.spec_RuleOK) hC hm (table_cons TK.spec_l1Between (table_cons (TK.spec_l1RuleWeight N) table_nil)) WF.f39 (fun d => (ltable_cons (LK.spec_RuleOK_l0 N) (ltable_cons (LK.spec_RuleOK_l2 N) (ltable_cons (LK.spec_RuleOK_l6 N) ltable_nil)))) fun d k =>
    (congrArg (fun z => F.spec_RuleOK N d.1.1.1 d.1.1.2.1 z) (funext fun x0 => (via_to E.spec_RuleOK_r k (x0, ((), ()))).symm)).trans (F.spec_RuleOK_ok N d (fun v fin new => via E.spec_RuleOK_r k (v, fin, new))).symm

/-! ### loop.example/s0007/impl.setOk: function 107 -/
abbrev E.impl_setOk_l0_i : Enc St := Enc.st 0 (Enc.all [(Enc.key 3 (Enc.int .i64)), (Enc.key 6 (Enc.ro 0 (.pair (.int .i64) (.int .i64)))), (Enc.key 7 (Enc.int .i64)), (Enc.key 8 (Enc.int .i64))]) (Enc.all [])
abbrev E.impl_setOk_l0_oe0 : Enc St := Enc.st 0 (Enc.all [(Enc.key 2 Enc.un)]) (Enc.all [])
abbrev E.impl_setOk_l0_oret : Enc St := Enc.st 0 (Enc.all [(Enc.key 2 Enc.bool)]) (Enc.all [])
abbrev E.impl_setOk_a : Enc (List AV × List Blk) := Enc.both (Enc.vals [(Enc.ro 0 (.pair (.int .i64) (.int .i64)))]) (Enc.all [])
abbrev E.impl_setOk_r : Enc (AV × List (Option Blk) × List Blk) := Enc.both Enc.bool (Enc.both (Enc.all []) (Enc.all []))
def T.impl_setOk {R : Type} (N : Nat) : Entry R := { f := 107, arg := E.impl_setOk_a, res := E.impl_setOk_r, fn := fun d k => F.impl_setOk N d.1.1 fun x0 => k (x0, ((), ())) }
def H.impl_setOk : Hint := [(0, [3, 6, 7, 8], [2])]
theorem WF.f107 : FnWf Try.prog 107 Try.f107 := fnWf_of Try.func107 (by decide) (by kernel_rfl)
theorem F.impl_setOk_l0_ok {R : Type} (N : Nat) (d : E.impl_setOk_l0_i.D) (next : St → Option R) (out : Ex → St → Option R) :
    stepE cfg (table []) (ltable []) 0 H.impl_setOk 0 (bodyOf Try.f107 0) [3, 6, 7, 8] [2] (E.impl_setOk_l0_i.to d) next out =
      F.impl_setOk_l0_s N d.1.1 d.1.2.1 d.1.2.2.1 d.1.2.2.2.1 (fun x0 x1 x2 x3 => next (E.impl_setOk_l0_i.to ((x0, (x1, (x2, (x3, ())))), ()))) (fun _ => out (.exit 0) (E.impl_setOk_l0_oe0.to (((), ()), ()))) (fun y0 => out .ret (E.impl_setOk_l0_oret.to ((y0, ()), ()))) := by kernel_rfl
def G.impl_setOk_l0 {R : Type} (N n : Nat) (d : E.impl_setOk_l0_i.D) (k : Ex → St → Option R) : Option R := F.impl_setOk_l0 N n d.1.1 d.1.2.1 d.1.2.2.1 d.1.2.2.2.1 (fun _ => k (.exit 0) (E.impl_setOk_l0_oe0.to (((), ()), ()))) (fun y0 => k .ret (E.impl_setOk_l0_oret.to ((y0, ()), ())))
def TL.impl_setOk_l0 {R : Type} (N : Nat) : LEntry R := { b := 0, st := E.impl_setOk_l0_i, fn := fun d k => G.impl_setOk_l0 N N d k }
theorem GS.impl_setOk_l0 {R : Type} (N n : Nat) (d : E.impl_setOk_l0_i.D) (k : Ex → St → Option R) : G.impl_setOk_l0 N (n + 1) d k =
    stepE cfg (table []) (ltable []) 0 H.impl_setOk 0 (bodyOf Try.f107 0) [3, 6, 7, 8] [2] (E.impl_setOk_l0_i.to d) (via E.impl_setOk_l0_i fun e => G.impl_setOk_l0 N n e k) k :=
  (show G.impl_setOk_l0 N (n + 1) d k = F.impl_setOk_l0_s N d.1.1 d.1.2.1 d.1.2.2.1 d.1.2.2.2.1 (fun x0 x1 x2 x3 => F.impl_setOk_l0 N n x0 x1 x2 x3 (fun _ => k (.exit 0) (E.impl_setOk_l0_oe0.to (((), ()), ()))) (fun y0 => k .ret (E.impl_setOk_l0_oret.to ((y0, ()), ())))) (fun _ => k (.exit 0) (E.impl_setOk_l0_oe0.to (((), ()), ()))) (fun y0 => k .ret (E.impl_setOk_l0_oret.to ((y0, ()), ()))) from rfl).trans
    ((congrArg (fun z => F.impl_setOk_l0_s N d.1.1 d.1.2.1 d.1.2.2.1 d.1.2.2.2.1 z (fun _ => k (.exit 0) (E.impl_setOk_l0_oe0.to (((), ()), ()))) (fun y0 => k .ret (E.impl_setOk_l0_oret.to ((y0, ()), ())))) (funext fun x0 => funext fun x1 => funext fun x2 => funext fun x3 => (via_to E.impl_setOk_l0_i (fun e => G.impl_setOk_l0 N n e k) ((x0, (x1, (x2, (x3, ())))), ())).symm)).trans (F.impl_setOk_l0_ok N d (via E.impl_setOk_l0_i fun e => G.impl_setOk_l0 N n e k) k).symm)
theorem LK.impl_setOk_l0 {R : Type} (N : Nat) : LEntryOk Try.prog 0 Try.f107.ntmps (bodyOf Try.f107) (TL.impl_setOk_l0 (R := R) N) :=
  lentry_fun (i := [3, 6, 7, 8]) (o := [2]) (h := H.impl_setOk) hC hm table_nil WF.f107 ltable_nil (fun d => uniq_of rfl) (fun n d k => G.impl_setOk_l0 N n d k) N (fun _ _ => rfl) (fun _ _ => rfl) (fun n d k => GS.impl_setOk_l0 N n d k)
theorem F.impl_setOk_ok {R : Type} (N : Nat) (d : E.impl_setOk_a.D) (k : AV → List (Option Blk) → List Blk → Option R) :
    funE cfg (table []) (ltable [TL.impl_setOk_l0 N]) H.impl_setOk Try.f107 (E.impl_setOk_a.to d).1 (E.impl_setOk_a.to d).2 k =
      F.impl_setOk N d.1.1 fun x0 => k (E.impl_setOk_r.to (x0, ((), ()))).1 (E.impl_setOk_r.to (x0, ((), ()))).2.1 (E.impl_setOk_r.to (x0, ((), ()))).2.2 := by kernel_rfl
theorem TK.impl_setOk {R : Type} (N : Nat) : EntryOk Try.prog (T.impl_setOk (R := R) N) :=
  entry_fun (h := H.impl_setOk) hC hm table_nil WF.f107 (fun d => (ltable_cons (LK.impl_setOk_l0 N) ltable_nil)) fun d k =>
    (congrArg (fun z => F.impl_setOk N d.1.1 z) (funext fun x0 => (via_to E.impl_setOk_r k (x0, ((), ()))).symm)).trans (F.impl_setOk_ok N d (fun v fin new => via E.impl_setOk_r k (v, fin, new))).symm

/-! ### (loop.example/s0007/impl.Node).ok: function 84 -/
abbrev E.impl_Node_ok_a : Enc (List AV × List Blk) := Enc.both (Enc.vals [(Enc.agg (Enc.vals [(Enc.int .i64), (Enc.ro 0 (.pair (.int .i64) (.int .i64))), (Enc.int .i64), (Enc.int .i64), (Enc.int .i64)]))]) (Enc.all [])
abbrev E.impl_Node_ok_r : Enc (AV × List (Option Blk) × List Blk) := Enc.both Enc.bool (Enc.both (Enc.all []) (Enc.all []))
def T.impl_Node_ok {R : Type} (N : Nat) : Entry R := { f := 84, arg := E.impl_Node_ok_a, res := E.impl_Node_ok_r, fn := fun d k => F.impl_Node_ok N d.1.1.1 d.1.1.2.1 d.1.1.2.2.1 d.1.1.2.2.2.1 d.1.1.2.2.2.2.1 fun x0 => k (x0, ((), ())) }
def H.impl_Node_ok : Hint := []
theorem WF.f84 : FnWf Try.prog 84 Try.f84 := fnWf_of Try.func84 (by decide) (by kernel_rfl)
theorem F.impl_Node_ok_ok {R : Type} (N : Nat) (d : E.impl_Node_ok_a.D) (k : AV → List (Option Blk) → List Blk → Option R) :
    funE cfg (table [T.impl_setOk N]) (ltable []) H.impl_Node_ok Try.f84 (E.impl_Node_ok_a.to d).1 (E.impl_Node_ok_a.to d).2 k =
      F.impl_Node_ok N d.1.1.1 d.1.1.2.1 d.1.1.2.2.1 d.1.1.2.2.2.1 d.1.1.2.2.2.2.1 fun x0 => k (E.impl_Node_ok_r.to (x0, ((), ()))).1 (E.impl_Node_ok_r.to (x0, ((), ()))).2.1 (E.impl_Node_ok_r.to (x0, ((), ()))).2.2 := by kernel_rfl
theorem TK.impl_Node_ok {R : Type} (N : Nat) : EntryOk Try.prog (T.impl_Node_ok (R := R) N) :=
  entry_fun (h := H.impl_Node_ok) hC hm (table_cons (TK.impl_setOk N) table_nil) WF.f84 (fun d => ltable_nil) fun d k =>
    (congrArg (fun z => F.impl_Node_ok N d.1.1.1 d.1.1.2.1 d.1.1.2.2.1 d.1.1.2.2.2.1 d.1.1.2.2.2.2.1 z) (funext fun x0 => (via_to E.impl_Node_ok_r k (x0, ((), ()))).symm)).trans (F.impl_Node_ok_ok N d (fun v fin new => via E.impl_Node_ok_r k (v, fin, new))).symm

/-! ### (loop.example/s0007/impl.Node).copies: function 115 -/
abbrev E.impl_Node_copies_a : Enc (List AV × List Blk) := Enc.both (Enc.vals [(Enc.agg (Enc.vals [(Enc.int .i64), (Enc.ro 0 (.pair (.int .i64) (.int .i64))), (Enc.int .i64), (Enc.int .i64), (Enc.int .i64)]))]) (Enc.all [])
abbrev E.impl_Node_copies_r : Enc (AV × List (Option Blk) × List Blk) := Enc.both (Enc.int .i64) (Enc.both (Enc.all []) (Enc.all []))
def T.impl_Node_copies {R : Type} : Entry R := { f := 115, arg := E.impl_Node_copies_a, res := E.impl_Node_copies_r, fn := fun d k => F.impl_Node_copies d.1.1.1 d.1.1.2.1 d.1.1.2.2.1 d.1.1.2.2.2.1 d.1.1.2.2.2.2.1 fun x0 => k (x0, ((), ())) }
def H.impl_Node_copies : Hint := []
theorem WF.f115 : FnWf Try.prog 115 Try.f115 := fnWf_of Try.func115 (by decide) (by kernel_rfl)
theorem F.impl_Node_copies_ok {R : Type} (d : E.impl_Node_copies_a.D) (k : AV → List (Option Blk) → List Blk → Option R) :
    funE cfg (table []) (ltable []) H.impl_Node_copies Try.f115 (E.impl_Node_copies_a.to d).1 (E.impl_Node_copies_a.to d).2 k =
      F.impl_Node_copies d.1.1.1 d.1.1.2.1 d.1.1.2.2.1 d.1.1.2.2.2.1 d.1.1.2.2.2.2.1 fun x0 => k (E.impl_Node_copies_r.to (x0, ((), ()))).1 (E.impl_Node_copies_r.to (x0, ((), ()))).2.1 (E.impl_Node_copies_r.to (x0, ((), ()))).2.2 := by kernel_rfl
theorem TK.impl_Node_copies {R : Type} : EntryOk Try.prog (T.impl_Node_copies (R := R)) :=
  entry_fun (h := H.impl_Node_copies) hC hm table_nil WF.f115 (fun d => ltable_nil) fun d k =>
    (congrArg (fun z => F.impl_Node_copies d.1.1.1 d.1.1.2.1 d.1.1.2.2.1 d.1.1.2.2.2.1 d.1.1.2.2.2.2.1 z) (funext fun x0 => (via_to E.impl_Node_copies_r k (x0, ((), ()))).symm)).trans (F.impl_Node_copies_ok d (fun v fin new => via E.impl_Node_copies_r k (v, fin, new))).symm

/-! ### (loop.example/s0007/impl.Branch).weigh: function 108 -/
abbrev E.impl_Branch_weigh_l0_i : Enc St := Enc.st 1 (Enc.all [(Enc.key 4 (Enc.sl 0)), (Enc.key 9 (Enc.ro 0 (.pair (.int .i64) (.pair (.lst (.pair (.int .i64) (.int .i64))) (.pair (.int .i64) (.pair (.int .i64) (.int .i64))))))), (Enc.key 10 (Enc.int .i64)), (Enc.key 11 (Enc.int .i64))]) (Enc.all [(Enc.key 0 (Enc.cell (Enc.vals [(Enc.rw (.int .i64))])))])
abbrev E.impl_Branch_weigh_l0_oe0 : Enc St := Enc.st 1 (Enc.all [(Enc.key 2 Enc.un), (Enc.key 3 Enc.un), (Enc.key 4 (Enc.sl 0))]) (Enc.all [(Enc.key 0 (Enc.cell (Enc.vals [(Enc.rw (.int .i64))])))])
abbrev E.impl_Branch_weigh_l0_oret : Enc St := Enc.st 1 (Enc.all [(Enc.key 2 (Enc.int .i64)), (Enc.key 3 Enc.bool), (Enc.key 4 (Enc.sl 0))]) (Enc.all [(Enc.key 0 (Enc.cell (Enc.vals [(Enc.rw (.int .i64))])))])
abbrev E.impl_Branch_weigh_a : Enc (List AV × List Blk) := Enc.both (Enc.vals [(Enc.agg (Enc.vals [Enc.bool, Enc.bool, (Enc.ro 0 (.pair (.int .i64) (.pair (.lst (.pair (.int .i64) (.int .i64))) (.pair (.int .i64) (.pair (.int .i64) (.int .i64))))))]))]) (Enc.all [])
abbrev E.impl_Branch_weigh_r : Enc (AV × List (Option Blk) × List Blk) := Enc.both (Enc.tup (Enc.vals [(Enc.int .i64), Enc.bool])) (Enc.both (Enc.all []) (Enc.all []))
def T.impl_Branch_weigh {R : Type} (N : Nat) : Entry R := { f := 108, arg := E.impl_Branch_weigh_a, res := E.impl_Branch_weigh_r, fn := fun d k => F.impl_Branch_weigh N d.1.1.1 d.1.1.2.1 d.1.1.2.2.1 fun x0 x1 => k ((x0, (x1, ())), ((), ())) }
def H.impl_Branch_weigh : Hint := [(0, [4, 9, 10, 11], [2, 3, 4])]
theorem WF.f108 : FnWf Try.prog 108 Try.f108 := fnWf_of Try.func108 (by decide) (by kernel_rfl)
theorem F.impl_Branch_weigh_l0_ok {R : Type} (N : Nat) (d : E.impl_Branch_weigh_l0_i.D) (next : St → Option R) (out : Ex → St → Option R) :
    stepE cfg (table [T.impl_Node_copies]) (ltable []) 0 H.impl_Branch_weigh 0 (bodyOf Try.f108 0) [4, 9, 10, 11] [2, 3, 4] (E.impl_Branch_weigh_l0_i.to d) next out =
      F.impl_Branch_weigh_l0_s N d.1.2.1 d.1.2.2.1 d.1.2.2.2.1 d.2.1.1 (fun x0 x1 x2 x3 => next (E.impl_Branch_weigh_l0_i.to (((), (x0, (x1, (x2, ())))), ((x3, ()), ())))) (fun y0 => out (.exit 0) (E.impl_Branch_weigh_l0_oe0.to (((), ((), ((), ()))), ((y0, ()), ())))) (fun y0 y1 y2 => out .ret (E.impl_Branch_weigh_l0_oret.to ((y0, (y1, ((), ()))), ((y2, ()), ())))) := by kernel_rfl
def G.impl_Branch_weigh_l0 {R : Type} (N n : Nat) (d : E.impl_Branch_weigh_l0_i.D) (k : Ex → St → Option R) : Option R := F.impl_Branch_weigh_l0 N n d.1.2.1 d.1.2.2.1 d.1.2.2.2.1 d.2.1.1 (fun y0 => k (.exit 0) (E.impl_Branch_weigh_l0_oe0.to (((), ((), ((), ()))), ((y0, ()), ())))) (fun y0 y1 y2 => k .ret (E.impl_Branch_weigh_l0_oret.to ((y0, (y1, ((), ()))), ((y2, ()), ()))))
def TL.impl_Branch_weigh_l0 {R : Type} (N : Nat) : LEntry R := { b := 0, st := E.impl_Branch_weigh_l0_i, fn := fun d k => G.impl_Branch_weigh_l0 N N d k }
theorem GS.impl_Branch_weigh_l0 {R : Type} (N n : Nat) (d : E.impl_Branch_weigh_l0_i.D) (k : Ex → St → Option R) : G.impl_Branch_weigh_l0 N (n + 1) d k =
    stepE cfg (table [T.impl_Node_copies]) (ltable []) 0 H.impl_Branch_weigh 0 (bodyOf Try.f108 0) [4, 9, 10, 11] [2, 3, 4] (E.impl_Branch_weigh_l0_i.to d) (via E.impl_Branch_weigh_l0_i fun e => G.impl_Branch_weigh_l0 N n e k) k :=
  (show G.impl_Branch_weigh_l0 N (n + 1) d k = F.impl_Branch_weigh_l0_s N d.1.2.1 d.1.2.2.1 d.1.2.2.2.1 d.2.1.1 (fun x0 x1 x2 x3 => F.impl_Branch_weigh_l0 N n x0 x1 x2 x3 (fun y0 => k (.exit 0) (E.impl_Branch_weigh_l0_oe0.to (((), ((), ((), ()))), ((y0, ()), ())))) (fun y0 y1 y2 => k .ret (E.impl_Branch_weigh_l0_oret.to ((y0, (y1, ((), ()))), ((y2, ()), ()))))) (fun y0 => k (.exit 0) (E.impl_Branch_weigh_l0_oe0.to (((), ((), ((), ()))), ((y0, ()), ())))) (fun y0 y1 y2 => k .ret (E.impl_Branch_weigh_l0_oret.to ((y0, (y1, ((), ()))), ((y2, ()), ())))) from rfl).trans
    ((congrArg (fun z => F.impl_Branch_weigh_l0_s N d.1.2.1 d.1.2.2.1 d.1.2.2.2.1 d.2.1.1 z (fun y0 => k (.exit 0) (E.impl_Branch_weigh_l0_oe0.to (((), ((), ((), ()))), ((y0, ()), ())))) (fun y0 y1 y2 => k .ret (E.impl_Branch_weigh_l0_oret.to ((y0, (y1, ((), ()))), ((y2, ()), ()))))) (funext fun x0 => funext fun x1 => funext fun x2 => funext fun x3 => (via_to E.impl_Branch_weigh_l0_i (fun e => G.impl_Branch_weigh_l0 N n e k) (((), (x0, (x1, (x2, ())))), ((x3, ()), ()))).symm)).trans (F.impl_Branch_weigh_l0_ok N d (via E.impl_Branch_weigh_l0_i fun e => G.impl_Branch_weigh_l0 N n e k) k).symm)
theorem LK.impl_Branch_weigh_l0 {R : Type} (N : Nat) : LEntryOk Try.prog 0 Try.f108.ntmps (bodyOf Try.f108) (TL.impl_Branch_weigh_l0 (R := R) N) :=
  lentry_fun (i := [4, 9, 10, 11]) (o := [2, 3, 4]) (h := H.impl_Branch_weigh) hC hm (table_cons TK.impl_Node_copies table_nil) WF.f108 ltable_nil (fun d => uniq_of rfl) (fun n d k => G.impl_Branch_weigh_l0 N n d k) N (fun _ _ => rfl) (fun _ _ => rfl) (fun n d k => GS.impl_Branch_weigh_l0 N n d k)
theorem F.impl_Branch_weigh_ok {R : Type} (N : Nat) (d : E.impl_Branch_weigh_a.D) (k : AV → List (Option Blk) → List Blk → Option R) :
    funE cfg (table []) (ltable [TL.impl_Branch_weigh_l0 N]) H.impl_Branch_weigh Try.f108 (E.impl_Branch_weigh_a.to d).1 (E.impl_Branch_weigh_a.to d).2 k =
      F.impl_Branch_weigh N d.1.1.1 d.1.1.2.1 d.1.1.2.2.1 fun x0 x1 => k (E.impl_Branch_weigh_r.to ((x0, (x1, ())), ((), ()))).1 (E.impl_Branch_weigh_r.to ((x0, (x1, ())), ((), ()))).2.1 (E.impl_Branch_weigh_r.to ((x0, (x1, ())), ((), ()))).2.2 := by kernel_rfl
theorem TK.impl_Branch_weigh {R : Type} (N : Nat) : EntryOk Try.prog (T.impl_Branch_weigh (R := R) N) :=
  entry_fun (h := H.impl_Branch_weigh) hC hm table_nil WF.f108 (fun d => (ltable_cons (LK.impl_Branch_weigh_l0 N) ltable_nil)) fun d k =>
    (congrArg (fun z => F.impl_Branch_weigh N d.1.1.1 d.1.1.2.1 d.1.1.2.2.1 z) (funext fun x0 => funext fun x1 => (via_to E.impl_Branch_weigh_r k ((x0, (x1, ())), ((), ()))).symm)).trans (F.impl_Branch_weigh_ok N d (fun v fin new => via E.impl_Branch_weigh_r k (v, fin, new))).symm

/-! ### (loop.example/s0007/impl.Rule).weigh: function 85 -/
abbrev E.impl_Rule_weigh_l0_i : Enc St := Enc.st 0 (Enc.all [(Enc.key 4 (Enc.int .i64)), (Enc.key 10 (Enc.ro 0 (.pair .bool (.pair .bool (.lst (.pair (.int .i64) (.pair (.lst (.pair (.int .i64) (.int .i64))) (.pair (.int .i64) (.pair (.int .i64) (.int .i64)))))))))), (Enc.key 11 (Enc.int .i64)), (Enc.key 12 (Enc.int .i64))]) (Enc.all [])
abbrev E.impl_Rule_weigh_l0_oe0 : Enc St := Enc.st 0 (Enc.all [(Enc.key 2 Enc.un), (Enc.key 3 Enc.un), (Enc.key 4 (Enc.int .i64))]) (Enc.all [])
abbrev E.impl_Rule_weigh_l0_oret : Enc St := Enc.st 0 (Enc.all [(Enc.key 2 (Enc.int .i64)), (Enc.key 3 Enc.bool), (Enc.key 4 (Enc.int .i64))]) (Enc.all [])
abbrev E.impl_Rule_weigh_a : Enc (List AV × List Blk) := Enc.both (Enc.vals [(Enc.agg (Enc.vals [(Enc.ro 0 (.pair .bool (.pair .bool (.lst (.pair (.int .i64) (.pair (.lst (.pair (.int .i64) (.int .i64))) (.pair (.int .i64) (.pair (.int .i64) (.int .i64))))))))), (Enc.int .i64)]))]) (Enc.all [])
abbrev E.impl_Rule_weigh_r : Enc (AV × List (Option Blk) × List Blk) := Enc.both (Enc.tup (Enc.vals [(Enc.int .i64), Enc.bool])) (Enc.both (Enc.all []) (Enc.all []))
def T.impl_Rule_weigh {R : Type} (N : Nat) : Entry R := { f := 85, arg := E.impl_Rule_weigh_a, res := E.impl_Rule_weigh_r, fn := fun d k => F.impl_Rule_weigh N d.1.1.1 d.1.1.2.1 fun x0 x1 => k ((x0, (x1, ())), ((), ())) }
def H.impl_Rule_weigh : Hint := [(0, [4, 10, 11, 12], [2, 3, 4])]
theorem WF.f85 : FnWf Try.prog 85 Try.f85 := fnWf_of Try.func85 (by decide) (by kernel_rfl)
theorem F.impl_Rule_weigh_l0_ok {R : Type} (N : Nat) (d : E.impl_Rule_weigh_l0_i.D) (next : St → Option R) (out : Ex → St → Option R) :
    stepE cfg (table [T.impl_Branch_weigh N]) (ltable []) 0 H.impl_Rule_weigh 0 (bodyOf Try.f85 0) [4, 10, 11, 12] [2, 3, 4] (E.impl_Rule_weigh_l0_i.to d) next out =
      F.impl_Rule_weigh_l0_s N d.1.1 d.1.2.1 d.1.2.2.1 d.1.2.2.2.1 (fun x0 x1 x2 x3 => next (E.impl_Rule_weigh_l0_i.to ((x0, (x1, (x2, (x3, ())))), ()))) (fun y0 => out (.exit 0) (E.impl_Rule_weigh_l0_oe0.to (((), ((), (y0, ()))), ()))) (fun y0 y1 y2 => out .ret (E.impl_Rule_weigh_l0_oret.to ((y0, (y1, (y2, ()))), ()))) := by kernel_rfl
def G.impl_Rule_weigh_l0 {R : Type} (N n : Nat) (d : E.impl_Rule_weigh_l0_i.D) (k : Ex → St → Option R) : Option R := F.impl_Rule_weigh_l0 N n d.1.1 d.1.2.1 d.1.2.2.1 d.1.2.2.2.1 (fun y0 => k (.exit 0) (E.impl_Rule_weigh_l0_oe0.to (((), ((), (y0, ()))), ()))) (fun y0 y1 y2 => k .ret (E.impl_Rule_weigh_l0_oret.to ((y0, (y1, (y2, ()))), ())))
def TL.impl_Rule_weigh_l0 {R : Type} (N : Nat) : LEntry R := { b := 0, st := E.impl_Rule_weigh_l0_i, fn := fun d k => G.impl_Rule_weigh_l0 N N d k }
theorem GS.impl_Rule_weigh_l0 {R : Type} (N n : Nat) (d : E.impl_Rule_weigh_l0_i.D) (k : Ex → St → Option R) : G.impl_Rule_weigh_l0 N (n + 1) d k =
    stepE cfg (table [T.impl_Branch_weigh N]) (ltable []) 0 H.impl_Rule_weigh 0 (bodyOf Try.f85 0) [4, 10, 11, 12] [2, 3, 4] (E.impl_Rule_weigh_l0_i.to d) (via E.impl_Rule_weigh_l0_i fun e => G.impl_Rule_weigh_l0 N n e k) k :=
  (show G.impl_Rule_weigh_l0 N (n + 1) d k = F.impl_Rule_weigh_l0_s N d.1.1 d.1.2.1 d.1.2.2.1 d.1.2.2.2.1 (fun x0 x1 x2 x3 => F.impl_Rule_weigh_l0 N n x0 x1 x2 x3 (fun y0 => k (.exit 0) (E.impl_Rule_weigh_l0_oe0.to (((), ((), (y0, ()))), ()))) (fun y0 y1 y2 => k .ret (E.impl_Rule_weigh_l0_oret.to ((y0, (y1, (y2, ()))), ())))) (fun y0 => k (.exit 0) (E.impl_Rule_weigh_l0_oe0.to (((), ((), (y0, ()))), ()))) (fun y0 y1 y2 => k .ret (E.impl_Rule_weigh_l0_oret.to ((y0, (y1, (y2, ()))), ()))) from rfl).trans
    ((congrArg (fun z => F.impl_Rule_weigh_l0_s N d.1.1 d.1.2.1 d.1.2.2.1 d.1.2.2.2.1 z (fun y0 => k (.exit 0) (E.impl_Rule_weigh_l0_oe0.to (((), ((), (y0, ()))), ()))) (fun y0 y1 y2 => k .ret (E.impl_Rule_weigh_l0_oret.to ((y0, (y1, (y2, ()))), ())))) (funext fun x0 => funext fun x1 => funext fun x2 => funext fun x3 => (via_to E.impl_Rule_weigh_l0_i (fun e => G.impl_Rule_weigh_l0 N n e k) ((x0, (x1, (x2, (x3, ())))), ())).symm)).trans (F.impl_Rule_weigh_l0_ok N d (via E.impl_Rule_weigh_l0_i fun e => G.impl_Rule_weigh_l0 N n e k) k).symm)
theorem LK.impl_Rule_weigh_l0 {R : Type} (N : Nat) : LEntryOk Try.prog 0 Try.f85.ntmps (bodyOf Try.f85) (TL.impl_Rule_weigh_l0 (R := R) N) :=
  lentry_fun (i := [4, 10, 11, 12]) (o := [2, 3, 4]) (h := H.impl_Rule_weigh) hC hm (table_cons (TK.impl_Branch_weigh N) table_nil) WF.f85 ltable_nil (fun d => uniq_of rfl) (fun n d k => G.impl_Rule_weigh_l0 N n d k) N (fun _ _ => rfl) (fun _ _ => rfl) (fun n d k => GS.impl_Rule_weigh_l0 N n d k)
theorem F.impl_Rule_weigh_ok {R : Type} (N : Nat) (d : E.impl_Rule_weigh_a.D) (k : AV → List (Option Blk) → List Blk → Option R) :
    funE cfg (table []) (ltable [TL.impl_Rule_weigh_l0 N]) H.impl_Rule_weigh Try.f85 (E.impl_Rule_weigh_a.to d).1 (E.impl_Rule_weigh_a.to d).2 k =
      F.impl_Rule_weigh N d.1.1.1 d.1.1.2.1 fun x0 x1 => k (E.impl_Rule_weigh_r.to ((x0, (x1, ())), ((), ()))).1 (E.impl_Rule_weigh_r.to ((x0, (x1, ())), ((), ()))).2.1 (E.impl_Rule_weigh_r.to ((x0, (x1, ())), ((), ()))).2.2 := by kernel_rfl
theorem TK.impl_Rule_weigh {R : Type} (N : Nat) : EntryOk Try.prog (T.impl_Rule_weigh (R := R) N) :=
  entry_fun (h := H.impl_Rule_weigh) hC hm table_nil WF.f85 (fun d => (ltable_cons (LK.impl_Rule_weigh_l0 N) ltable_nil)) fun d k =>
    (congrArg (fun z => F.impl_Rule_weigh N d.1.1.1 d.1.1.2.1 z) (funext fun x0 => funext fun x1 => (via_to E.impl_Rule_weigh_r k ((x0, (x1, ())), ((), ()))).symm)).trans (F.impl_Rule_weigh_ok N d (fun v fin new => via E.impl_Rule_weigh_r k (v, fin, new))).symm

/-! ### loop.example/s0007/impl.RuleOK: function 41 -/
abbrev E.impl_RuleOK_l2_i : Enc St := Enc.st 2 (Enc.all [(Enc.key 1 (Enc.pb 0 0)), (Enc.key 3 (Enc.int .i64)), (Enc.key 4 (Enc.mp 1)), (Enc.key 33 (Enc.ro 0 (.pair .bool (.pair .bool (.lst (.pair (.int .i64) (.pair (.lst (.pair (.int .i64) (.int .i64))) (.pair (.int .i64) (.pair (.int .i64) (.int .i64)))))))))), (Enc.key 34 (Enc.int .i64)), (Enc.key 35 (Enc.int .i64)), (Enc.key 47 (Enc.ro 0 (.pair (.int .i64) (.pair (.lst (.pair (.int .i64) (.int .i64))) (.pair (.int .i64) (.pair (.int .i64) (.int .i64))))))), (Enc.key 48 (Enc.int .i64)), (Enc.key 49 (Enc.int .i64))]) (Enc.all [(Enc.key 0 (Enc.cell (Enc.vals [(Enc.ro 0 (.pair .bool (.pair .bool (.lst (.pair (.int .i64) (.pair (.lst (.pair (.int .i64) (.int .i64))) (.pair (.int .i64) (.pair (.int .i64) (.int .i64))))))))), (Enc.int .i64)]))), (Enc.key 1 (Enc.map (.int .i64) .bool))])
abbrev E.impl_RuleOK_l2_oe2 : Enc St := Enc.st 2 (Enc.all [(Enc.key 1 (Enc.pb 0 0)), (Enc.key 2 Enc.un), (Enc.key 3 (Enc.int .i64)), (Enc.key 4 (Enc.mp 1)), (Enc.key 33 (Enc.ro 0 (.pair .bool (.pair .bool (.lst (.pair (.int .i64) (.pair (.lst (.pair (.int .i64) (.int .i64))) (.pair (.int .i64) (.pair (.int .i64) (.int .i64)))))))))), (Enc.key 34 (Enc.int .i64)), (Enc.key 35 (Enc.int .i64))]) (Enc.all [(Enc.key 0 (Enc.cell (Enc.vals [(Enc.ro 0 (.pair .bool (.pair .bool (.lst (.pair (.int .i64) (.pair (.lst (.pair (.int .i64) (.int .i64))) (.pair (.int .i64) (.pair (.int .i64) (.int .i64))))))))), (Enc.int .i64)]))), (Enc.key 1 (Enc.map (.int .i64) .bool))])
abbrev E.impl_RuleOK_l2_oret : Enc St := Enc.st 2 (Enc.all [(Enc.key 1 (Enc.pb 0 0)), (Enc.key 2 Enc.bool), (Enc.key 3 (Enc.int .i64)), (Enc.key 4 (Enc.mp 1)), (Enc.key 33 (Enc.ro 0 (.pair .bool (.pair .bool (.lst (.pair (.int .i64) (.pair (.lst (.pair (.int .i64) (.int .i64))) (.pair (.int .i64) (.pair (.int .i64) (.int .i64)))))))))), (Enc.key 34 (Enc.int .i64)), (Enc.key 35 (Enc.int .i64))]) (Enc.all [(Enc.key 0 (Enc.cell (Enc.vals [(Enc.ro 0 (.pair .bool (.pair .bool (.lst (.pair (.int .i64) (.pair (.lst (.pair (.int .i64) (.int .i64))) (.pair (.int .i64) (.pair (.int .i64) (.int .i64))))))))), (Enc.int .i64)]))), (Enc.key 1 (Enc.map (.int .i64) .bool))])
abbrev E.impl_RuleOK_l0_i : Enc St := Enc.st 2 (Enc.all [(Enc.key 1 (Enc.pb 0 0)), (Enc.key 3 (Enc.int .i64)), (Enc.key 4 (Enc.mp 1)), (Enc.key 33 (Enc.ro 0 (.pair .bool (.pair .bool (.lst (.pair (.int .i64) (.pair (.lst (.pair (.int .i64) (.int .i64))) (.pair (.int .i64) (.pair (.int .i64) (.int .i64)))))))))), (Enc.key 34 (Enc.int .i64)), (Enc.key 35 (Enc.int .i64))]) (Enc.all [(Enc.key 0 (Enc.cell (Enc.vals [(Enc.ro 0 (.pair .bool (.pair .bool (.lst (.pair (.int .i64) (.pair (.lst (.pair (.int .i64) (.int .i64))) (.pair (.int .i64) (.pair (.int .i64) (.int .i64))))))))), (Enc.int .i64)]))), (Enc.key 1 (Enc.map (.int .i64) .bool))])
abbrev E.impl_RuleOK_l0_oe0 : Enc St := Enc.st 2 (Enc.all [(Enc.key 1 (Enc.pb 0 0)), (Enc.key 2 Enc.un), (Enc.key 4 (Enc.mp 1))]) (Enc.all [(Enc.key 0 (Enc.cell (Enc.vals [(Enc.ro 0 (.pair .bool (.pair .bool (.lst (.pair (.int .i64) (.pair (.lst (.pair (.int .i64) (.int .i64))) (.pair (.int .i64) (.pair (.int .i64) (.int .i64))))))))), (Enc.int .i64)]))), (Enc.key 1 (Enc.map (.int .i64) .bool))])
abbrev E.impl_RuleOK_l0_oret : Enc St := Enc.st 2 (Enc.all [(Enc.key 1 (Enc.pb 0 0)), (Enc.key 2 Enc.bool), (Enc.key 4 (Enc.mp 1))]) (Enc.all [(Enc.key 0 (Enc.cell (Enc.vals [(Enc.ro 0 (.pair .bool (.pair .bool (.lst (.pair (.int .i64) (.pair (.lst (.pair (.int .i64) (.int .i64))) (.pair (.int .i64) (.pair (.int .i64) (.int .i64))))))))), (Enc.int .i64)]))), (Enc.key 1 (Enc.map (.int .i64) .bool))])
abbrev E.impl_RuleOK_a : Enc (List AV × List Blk) := Enc.both (Enc.vals [(Enc.agg (Enc.vals [(Enc.ro 0 (.pair .bool (.pair .bool (.lst (.pair (.int .i64) (.pair (.lst (.pair (.int .i64) (.int .i64))) (.pair (.int .i64) (.pair (.int .i64) (.int .i64))))))))), (Enc.int .i64)]))]) (Enc.all [])
abbrev E.impl_RuleOK_r : Enc (AV × List (Option Blk) × List Blk) := Enc.both Enc.bool (Enc.both (Enc.all []) (Enc.all []))
def T.impl_RuleOK {R : Type} (N : Nat) : Entry R := { f := 41, arg := E.impl_RuleOK_a, res := E.impl_RuleOK_r, fn := fun d k => F.impl_RuleOK N d.1.1.1 d.1.1.2.1 fun x0 => k (x0, ((), ())) }
def H.impl_RuleOK : Hint := [(0, [1, 3, 4, 33, 34, 35], [1, 2, 4]), (2, [1, 3, 4, 33, 34, 35, 47, 48, 49], [1, 2, 3, 4, 33, 34, 35])]
theorem WF.f41 : FnWf Try.prog 41 Try.f41 := fnWf_of Try.func41 (by decide) (by kernel_rfl)
theorem F.impl_RuleOK_l2_ok {R : Type} (N : Nat) (d : E.impl_RuleOK_l2_i.D) (next : St → Option R) (out : Ex → St → Option R) :
    stepE cfg (table [T.impl_Node_ok N]) (ltable []) 0 H.impl_RuleOK 2 (bodyOf Try.f41 2) [1, 3, 4, 33, 34, 35, 47, 48, 49] [1, 2, 3, 4, 33, 34, 35] (E.impl_RuleOK_l2_i.to d) next out =
      F.impl_RuleOK_l2_s N d.1.2.1 d.1.2.2.2.1 d.1.2.2.2.2.1 d.1.2.2.2.2.2.1 d.1.2.2.2.2.2.2.1 d.1.2.2.2.2.2.2.2.1 d.1.2.2.2.2.2.2.2.2.1 d.2.1.1 d.2.1.2.1 d.2.2.1 (fun x0 x1 x2 x3 x4 x5 x6 x7 x8 x9 => next (E.impl_RuleOK_l2_i.to (((), (x0, ((), (x1, (x2, (x3, (x4, (x5, (x6, ()))))))))), ((x7, (x8, ())), (x9, ()))))) (fun y0 y1 y2 y3 y4 y5 y6 => out (.exit 2) (E.impl_RuleOK_l2_oe2.to (((), ((), (y0, ((), (y1, (y2, (y3, ()))))))), ((y4, (y5, ())), (y6, ()))))) (fun y0 y1 y2 y3 y4 y5 y6 y7 => out .ret (E.impl_RuleOK_l2_oret.to (((), (y0, (y1, ((), (y2, (y3, (y4, ()))))))), ((y5, (y6, ())), (y7, ()))))) := by kernel_rfl
def G.impl_RuleOK_l2 {R : Type} (N n : Nat) (d : E.impl_RuleOK_l2_i.D) (k : Ex → St → Option R) : Option R := F.impl_RuleOK_l2 N n d.1.2.1 d.1.2.2.2.1 d.1.2.2.2.2.1 d.1.2.2.2.2.2.1 d.1.2.2.2.2.2.2.1 d.1.2.2.2.2.2.2.2.1 d.1.2.2.2.2.2.2.2.2.1 d.2.1.1 d.2.1.2.1 d.2.2.1 (fun y0 y1 y2 y3 y4 y5 y6 => k (.exit 2) (E.impl_RuleOK_l2_oe2.to (((), ((), (y0, ((), (y1, (y2, (y3, ()))))))), ((y4, (y5, ())), (y6, ()))))) (fun y0 y1 y2 y3 y4 y5 y6 y7 => k .ret (E.impl_RuleOK_l2_oret.to (((), (y0, (y1, ((), (y2, (y3, (y4, ()))))))), ((y5, (y6, ())), (y7, ())))))
def TL.impl_RuleOK_l2 {R : Type} (N : Nat) : LEntry R := { b := 2, st := E.impl_RuleOK_l2_i, fn := fun d k => G.impl_RuleOK_l2 N N d k }
theorem GS.impl_RuleOK_l2 {R : Type} (N n : Nat) (d : E.impl_RuleOK_l2_i.D) (k : Ex → St → Option R) : G.impl_RuleOK_l2 N (n + 1) d k =
    stepE cfg (table [T.impl_Node_ok N]) (ltable []) 0 H.impl_RuleOK 2 (bodyOf Try.f41 2) [1, 3, 4, 33, 34, 35, 47, 48, 49] [1, 2, 3, 4, 33, 34, 35] (E.impl_RuleOK_l2_i.to d) (via E.impl_RuleOK_l2_i fun e => G.impl_RuleOK_l2 N n e k) k :=
  (show G.impl_RuleOK_l2 N (n + 1) d k = F.impl_RuleOK_l2_s N d.1.2.1 d.1.2.2.2.1 d.1.2.2.2.2.1 d.1.2.2.2.2.2.1 d.1.2.2.2.2.2.2.1 d.1.2.2.2.2.2.2.2.1 d.1.2.2.2.2.2.2.2.2.1 d.2.1.1 d.2.1.2.1 d.2.2.1 (fun x0 x1 x2 x3 x4 x5 x6 x7 x8 x9 => F.impl_RuleOK_l2 N n x0 x1 x2 x3 x4 x5 x6 x7 x8 x9 (fun y0 y1 y2 y3 y4 y5 y6 => k (.exit 2) (E.impl_RuleOK_l2_oe2.to (((), ((), (y0, ((), (y1, (y2, (y3, ()))))))), ((y4, (y5, ())), (y6, ()))))) (fun y0 y1 y2 y3 y4 y5 y6 y7 => k .ret (E.impl_RuleOK_l2_oret.to (((), (y0, (y1, ((), (y2, (y3, (y4, ()))))))), ((y5, (y6, ())), (y7, ())))))) (fun y0 y1 y2 y3 y4 y5 y6 => k (.exit 2) (E.impl_RuleOK_l2_oe2.to (((), ((), (y0, ((), (y1, (y2, (y3, ()))))))), ((y4, (y5, ())), (y6, ()))))) (fun y0 y1 y2 y3 y4 y5 y6 y7 => k .ret (E.impl_RuleOK_l2_oret.to (((), (y0, (y1, ((), (y2, (y3, (y4, ()))))))), ((y5, (y6, ())), (y7, ()))))) from rfl).trans
    ((congrArg (fun z => F.impl_RuleOK_l2_s N d.1.2.1 d.1.2.2.2.1 d.1.2.2.2.2.1 d.1.2.2.2.2.2.1 d.1.2.2.2.2.2.2.1 d.1.2.2.2.2.2.2.2.1 d.1.2.2.2.2.2.2.2.2.1 d.2.1.1 d.2.1.2.1 d.2.2.1 z (fun y0 y1 y2 y3 y4 y5 y6 => k (.exit 2) (E.impl_RuleOK_l2_oe2.to (((), ((), (y0, ((), (y1, (y2, (y3, ()))))))), ((y4, (y5, ())), (y6, ()))))) (fun y0 y1 y2 y3 y4 y5 y6 y7 => k .ret (E.impl_RuleOK_l2_oret.to (((), (y0, (y1, ((), (y2, (y3, (y4, ()))))))), ((y5, (y6, ())), (y7, ())))))) (funext fun x0 => funext fun x1 => funext fun x2 => funext fun x3 => funext fun x4 => funext fun x5 => funext fun x6 => funext fun x7 => funext fun x8 => funext fun x9 => (via_to E.impl_RuleOK_l2_i (fun e => G.impl_RuleOK_l2 N n e k) (((), (x0, ((), (x1, (x2, (x3, (x4, (x5, (x6, ()))))))))), ((x7, (x8, ())), (x9, ())))).symm)).trans (F.impl_RuleOK_l2_ok N d (via E.impl_RuleOK_l2_i fun e => G.impl_RuleOK_l2 N n e k) k).symm)
theorem LK.impl_RuleOK_l2 {R : Type} (N : Nat) : LEntryOk Try.prog 0 Try.f41.ntmps (bodyOf Try.f41) (TL.impl_RuleOK_l2 (R := R) N) :=
  lentry_fun (i := [1, 3, 4, 33, 34, 35, 47, 48, 49]) (o := [1, 2, 3, 4, 33, 34, 35]) (h := H.impl_RuleOK) hC hm (table_cons (TK.impl_Node_ok N) table_nil) WF.f41 ltable_nil (fun d => uniq_of rfl) (fun n d k => G.impl_RuleOK_l2 N n d k) N (fun _ _ => rfl) (fun _ _ => rfl) (fun n d k => GS.impl_RuleOK_l2 N n d k)
theorem F.impl_RuleOK_l0_ok {R : Type} (N : Nat) (d : E.impl_RuleOK_l0_i.D) (next : St → Option R) (out : Ex → St → Option R) :
    stepE cfg (table []) (ltable [TL.impl_RuleOK_l2 N]) 0 H.impl_RuleOK 0 (bodyOf Try.f41 0) [1, 3, 4, 33, 34, 35] [1, 2, 4] (E.impl_RuleOK_l0_i.to d) next out =
      F.impl_RuleOK_l0_s N d.1.2.1 d.1.2.2.2.1 d.1.2.2.2.2.1 d.1.2.2.2.2.2.1 d.2.1.1 d.2.1.2.1 d.2.2.1 (fun x0 x1 x2 x3 x4 x5 x6 => next (E.impl_RuleOK_l0_i.to (((), (x0, ((), (x1, (x2, (x3, ())))))), ((x4, (x5, ())), (x6, ()))))) (fun y0 y1 y2 => out (.exit 0) (E.impl_RuleOK_l0_oe0.to (((), ((), ((), ()))), ((y0, (y1, ())), (y2, ()))))) (fun y0 y1 y2 y3 => out .ret (E.impl_RuleOK_l0_oret.to (((), (y0, ((), ()))), ((y1, (y2, ())), (y3, ()))))) := by kernel_rfl
def G.impl_RuleOK_l0 {R : Type} (N n : Nat) (d : E.impl_RuleOK_l0_i.D) (k : Ex → St → Option R) : Option R := F.impl_RuleOK_l0 N n d.1.2.1 d.1.2.2.2.1 d.1.2.2.2.2.1 d.1.2.2.2.2.2.1 d.2.1.1 d.2.1.2.1 d.2.2.1 (fun y0 y1 y2 => k (.exit 0) (E.impl_RuleOK_l0_oe0.to (((), ((), ((), ()))), ((y0, (y1, ())), (y2, ()))))) (fun y0 y1 y2 y3 => k .ret (E.impl_RuleOK_l0_oret.to (((), (y0, ((), ()))), ((y1, (y2, ())), (y3, ())))))
def TL.impl_RuleOK_l0 {R : Type} (N : Nat) : LEntry R := { b := 0, st := E.impl_RuleOK_l0_i, fn := fun d k => G.impl_RuleOK_l0 N N d k }
theorem GS.impl_RuleOK_l0 {R : Type} (N n : Nat) (d : E.impl_RuleOK_l0_i.D) (k : Ex → St → Option R) : G.impl_RuleOK_l0 N (n + 1) d k =
    stepE cfg (table []) (ltable [TL.impl_RuleOK_l2 N]) 0 H.impl_RuleOK 0 (bodyOf Try.f41 0) [1, 3, 4, 33, 34, 35] [1, 2, 4] (E.impl_RuleOK_l0_i.to d) (via E.impl_RuleOK_l0_i fun e => G.impl_RuleOK_l0 N n e k) k :=
  (show G.impl_RuleOK_l0 N (n + 1) d k = F.impl_RuleOK_l0_s N d.1.2.1 d.1.2.2.2.1 d.1.2.2.2.2.1 d.1.2.2.2.2.2.1 d.2.1.1 d.2.1.2.1 d.2.2.1 (fun x0 x1 x2 x3 x4 x5 x6 => F.impl_RuleOK_l0 N n x0 x1 x2 x3 x4 x5 x6 (fun y0 y1 y2 => k (.exit 0) (E.impl_RuleOK_l0_oe0.to (((), ((), ((), ()))), ((y0, (y1, ())), (y2, ()))))) (fun y0 y1 y2 y3 => k .ret (E.impl_RuleOK_l0_oret.to (((), (y0, ((), ()))), ((y1, (y2, ())), (y3, ())))))) (fun y0 y1 y2 => k (.exit 0) (E.impl_RuleOK_l0_oe0.to (((), ((), ((), ()))), ((y0, (y1, ())), (y2, ()))))) (fun y0 y1 y2 y3 => k .ret (E.impl_RuleOK_l0_oret.to (((), (y0, ((), ()))), ((y1, (y2, ())), (y3, ()))))) from rfl).trans
    ((congrArg (fun z => F.impl_RuleOK_l0_s N d.1.2.1 d.1.2.2.2.1 d.1.2.2.2.2.1 d.1.2.2.2.2.2.1 d.2.1.1 d.2.1.2.1 d.2.2.1 z (fun y0 y1 y2 => k (.exit 0) (E.impl_RuleOK_l0_oe0.to (((), ((), ((), ()))), ((y0, (y1, ())), (y2, ()))))) (fun y0 y1 y2 y3 => k .ret (E.impl_RuleOK_l0_oret.to (((), (y0, ((), ()))), ((y1, (y2, ())), (y3, ())))))) (funext fun x0 => funext fun x1 => funext fun x2 => funext fun x3 => funext fun x4 => funext fun x5 => funext fun x6 => (via_to E.impl_RuleOK_l0_i (fun e => G.impl_RuleOK_l0 N n e k) (((), (x0, ((), (x1, (x2, (x3, ())))))), ((x4, (x5, ())), (x6, ())))).symm)).trans (F.impl_RuleOK_l0_ok N d (via E.impl_RuleOK_l0_i fun e => G.impl_RuleOK_l0 N n e k) k).symm)
theorem LK.impl_RuleOK_l0 {R : Type} (N : Nat) : LEntryOk Try.prog 0 Try.f41.ntmps (bodyOf Try.f41) (TL.impl_RuleOK_l0 (R := R) N) :=
  lentry_fun (i := [1, 3, 4, 33, 34, 35]) (o := [1, 2, 4]) (h := H.impl_RuleOK) hC hm table_nil WF.f41 (ltable_cons (LK.impl_RuleOK_l2 N) ltable_nil) (fun d => uniq_of rfl) (fun n d k => G.impl_RuleOK_l0 N n d k) N (fun _ _ => rfl) (fun _ _ => rfl) (fun n d k => GS.impl_RuleOK_l0 N n d k)
theorem F.impl_RuleOK_ok {R : Type} (N : Nat) (d : E.impl_RuleOK_a.D) (k : AV → List (Option Blk) → List Blk → Option R) :
    funE cfg (table [T.impl_Rule_weigh N]) (ltable [TL.impl_RuleOK_l0 N]) H.impl_RuleOK Try.f41 (E.impl_RuleOK_a.to d).1 (E.impl_RuleOK_a.to d).2 k =
      F.impl_RuleOK N d.1.1.1 d.1.1.2.1 fun x0 => k (E.impl_RuleOK_r.to (x0, ((), ()))).1 (E.impl_RuleOK_r.to (x0, ((), ()))).2.1 (E.impl_RuleOK_r.to (x0, ((), ()))).2.2 := by kernel_rfl
theorem TK.impl_RuleOK {R : Type} (N : Nat) : EntryOk Try.prog (T.impl_RuleOK (R := R) N) :=
  entry_fun (h := H.impl_RuleOK) hC hm (table_cons (TK.impl_Rule_weigh N) table_nil) WF.f41 (fun d => (ltable_cons (LK.impl_RuleOK_l0 N) ltable_nil)) fun d k =>
    (congrArg (fun z => F.impl_RuleOK N d.1.1.1 d.1.1.2.1 z) (funext fun x0 => (via_to E.impl_RuleOK_r k (x0, ((), ()))).symm)).trans (F.impl_RuleOK_ok N d (fun v fin new => via E.impl_RuleOK_r k (v, fin, new))).symm

/-! ### loop.example/s0007/laws.eqRange: function 124 -/
abbrev E.laws_eqRange_a : Enc (List AV × List Blk) := Enc.both (Enc.vals [(Enc.agg (Enc.vals [(Enc.int .i64), (Enc.int .i64)])), (Enc.agg (Enc.vals [(Enc.int .i64), (Enc.int .i64)]))]) (Enc.all [])
abbrev E.laws_eqRange_r : Enc (AV × List (Option Blk) × List Blk) := Enc.both Enc.bool (Enc.both (Enc.all []) (Enc.all []))
def T.laws_eqRange {R : Type} : Entry R := { f := 124, arg := E.laws_eqRange_a, res := E.laws_eqRange_r, fn := fun d k => F.laws_eqRange d.1.1.1 d.1.1.2.1 d.1.2.1.1 d.1.2.1.2.1 fun x0 => k (x0, ((), ())) }
def H.laws_eqRange : Hint := []
theorem WF.f124 : FnWf Try.prog 124 Try.f124 := fnWf_of Try.func124 (by decide) (by kernel_rfl)
theorem F.laws_eqRange_ok {R : Type} (d : E.laws_eqRange_a.D) (k : AV → List (Option Blk) → List Blk → Option R) :
    funE cfg (table []) (ltable []) H.laws_eqRange Try.f124 (E.laws_eqRange_a.to d).1 (E.laws_eqRange_a.to d).2 k =
      F.laws_eqRange d.1.1.1 d.1.1.2.1 d.1.2.1.1 d.1.2.1.2.1 fun x0 => k (E.laws_eqRange_r.to (x0, ((), ()))).1 (E.laws_eqRange_r.to (x0, ((), ()))).2.1 (E.laws_eqRange_r.to (x0, ((), ()))).2.2 := by kernel_rfl
theorem TK.laws_eqRange {R : Type} : EntryOk Try.prog (T.laws_eqRange (R := R)) :=
  entry_fun (h := H.laws_eqRange) hC hm table_nil WF.f124 (fun d => ltable_nil) fun d k =>
    (congrArg (fun z => F.laws_eqRange d.1.1.1 d.1.1.2.1 d.1.2.1.1 d.1.2.1.2.1 z) (funext fun x0 => (via_to E.laws_eqRange_r k (x0, ((), ()))).symm)).trans (F.laws_eqRange_ok d (fun v fin new => via E.laws_eqRange_r k (v, fin, new))).symm

/-! ### loop.example/s0007/laws.eqRangeS: function 122 -/
abbrev E.laws_eqRangeS_l0_i : Enc St := Enc.st 0 (Enc.all [(Enc.key 0 (Enc.ro 0 (.pair (.int .i64) (.int .i64)))), (Enc.key 1 (Enc.ro 0 (.pair (.int .i64) (.int .i64)))), (Enc.key 5 (Enc.int .i64))]) (Enc.all [])
abbrev E.laws_eqRangeS_l0_oe0 : Enc St := Enc.st 0 (Enc.all [(Enc.key 4 Enc.un)]) (Enc.all [])
abbrev E.laws_eqRangeS_l0_oret : Enc St := Enc.st 0 (Enc.all [(Enc.key 4 Enc.bool)]) (Enc.all [])
abbrev E.laws_eqRangeS_a : Enc (List AV × List Blk) := Enc.both (Enc.vals [(Enc.ro 0 (.pair (.int .i64) (.int .i64))), (Enc.ro 0 (.pair (.int .i64) (.int .i64)))]) (Enc.all [])
abbrev E.laws_eqRangeS_r : Enc (AV × List (Option Blk) × List Blk) := Enc.both Enc.bool (Enc.both (Enc.all []) (Enc.all []))
def T.laws_eqRangeS {R : Type} (N : Nat) : Entry R := { f := 122, arg := E.laws_eqRangeS_a, res := E.laws_eqRangeS_r, fn := fun d k => F.laws_eqRangeS N d.1.1 d.1.2.1 fun x0 => k (x0, ((), ())) }
def H.laws_eqRangeS : Hint := [(0, [0, 1, 5], [4])]
theorem WF.f122 : FnWf Try.prog 122 Try.f122 := fnWf_of Try.func122 (by decide) (by kernel_rfl)
theorem F.laws_eqRangeS_l0_ok {R : Type} (N : Nat) (d : E.laws_eqRangeS_l0_i.D) (next : St → Option R) (out : Ex → St → Option R) :
    stepE cfg (table [T.laws_eqRange]) (ltable []) 0 H.laws_eqRangeS 0 (bodyOf Try.f122 0) [0, 1, 5] [4] (E.laws_eqRangeS_l0_i.to d) next out =
      F.laws_eqRangeS_l0_s N d.1.1 d.1.2.1 d.1.2.2.1 (fun x0 x1 x2 => next (E.laws_eqRangeS_l0_i.to ((x0, (x1, (x2, ()))), ()))) (fun _ => out (.exit 0) (E.laws_eqRangeS_l0_oe0.to (((), ()), ()))) (fun y0 => out .ret (E.laws_eqRangeS_l0_oret.to ((y0, ()), ()))) := by kernel_rfl
def G.laws_eqRangeS_l0 {R : Type} (N n : Nat) (d : E.laws_eqRangeS_l0_i.D) (k : Ex → St → Option R) : Option R := F.laws_eqRangeS_l0 N n d.1.1 d.1.2.1 d.1.2.2.1 (fun _ => k (.exit 0) (E.laws_eqRangeS_l0_oe0.to (((), ()), ()))) (fun y0 => k .ret (E.laws_eqRangeS_l0_oret.to ((y0, ()), ())))
def TL.laws_eqRangeS_l0 {R : Type} (N : Nat) : LEntry R := { b := 0, st := E.laws_eqRangeS_l0_i, fn := fun d k => G.laws_eqRangeS_l0 N N d k }
theorem GS.laws_eqRangeS_l0 {R : Type} (N n : Nat) (d : E.laws_eqRangeS_l0_i.D) (k : Ex → St → Option R) : G.laws_eqRangeS_l0 N (n + 1) d k =
    stepE cfg (table [T.laws_eqRange]) (ltable []) 0 H.laws_eqRangeS 0 (bodyOf Try.f122 0) [0, 1, 5] [4] (E.laws_eqRangeS_l0_i.to d) (via E.laws_eqRangeS_l0_i fun e => G.laws_eqRangeS_l0 N n e k) k :=
  (show G.laws_eqRangeS_l0 N (n + 1) d k = F.laws_eqRangeS_l0_s N d.1.1 d.1.2.1 d.1.2.2.1 (fun x0 x1 x2 => F.laws_eqRangeS_l0 N n x0 x1 x2 (fun _ => k (.exit 0) (E.laws_eqRangeS_l0_oe0.to (((), ()), ()))) (fun y0 => k .ret (E.laws_eqRangeS_l0_oret.to ((y0, ()), ())))) (fun _ => k (.exit 0) (E.laws_eqRangeS_l0_oe0.to (((), ()), ()))) (fun y0 => k .ret (E.laws_eqRangeS_l0_oret.to ((y0, ()), ()))) from rfl).trans
    ((congrArg (fun z => F.laws_eqRangeS_l0_s N d.1.1 d.1.2.1 d.1.2.2.1 z (fun _ => k (.exit 0) (E.laws_eqRangeS_l0_oe0.to (((), ()), ()))) (fun y0 => k .ret (E.laws_eqRangeS_l0_oret.to ((y0, ()), ())))) (funext fun x0 => funext fun x1 => funext fun x2 => (via_to E.laws_eqRangeS_l0_i (fun e => G.laws_eqRangeS_l0 N n e k) ((x0, (x1, (x2, ()))), ())).symm)).trans (F.laws_eqRangeS_l0_ok N d (via E.laws_eqRangeS_l0_i fun e => G.laws_eqRangeS_l0 N n e k) k).symm)
theorem LK.laws_eqRangeS_l0 {R : Type} (N : Nat) : LEntryOk Try.prog 0 Try.f122.ntmps (bodyOf Try.f122) (TL.laws_eqRangeS_l0 (R := R) N) :=
  lentry_fun (i := [0, 1, 5]) (o := [4]) (h := H.laws_eqRangeS) hC hm (table_cons TK.laws_eqRange table_nil) WF.f122 ltable_nil (fun d => uniq_of rfl) (fun n d k => G.laws_eqRangeS_l0 N n d k) N (fun _ _ => rfl) (fun _ _ => rfl) (fun n d k => GS.laws_eqRangeS_l0 N n d k)
theorem F.laws_eqRangeS_ok {R : Type} (N : Nat) (d : E.laws_eqRangeS_a.D) (k : AV → List (Option Blk) → List Blk → Option R) :
    funE cfg (table []) (ltable [TL.laws_eqRangeS_l0 N]) H.laws_eqRangeS Try.f122 (E.laws_eqRangeS_a.to d).1 (E.laws_eqRangeS_a.to d).2 k =
      F.laws_eqRangeS N d.1.1 d.1.2.1 fun x0 => k (E.laws_eqRangeS_r.to (x0, ((), ()))).1 (E.laws_eqRangeS_r.to (x0, ((), ()))).2.1 (E.laws_eqRangeS_r.to (x0, ((), ()))).2.2 := by kernel_rfl
theorem TK.laws_eqRangeS {R : Type} (N : Nat) : EntryOk Try.prog (T.laws_eqRangeS (R := R) N) :=
  entry_fun (h := H.laws_eqRangeS) hC hm table_nil WF.f122 (fun d => (ltable_cons (LK.laws_eqRangeS_l0 N) ltable_nil)) fun d k =>
    (congrArg (fun z => F.laws_eqRangeS N d.1.1 d.1.2.1 z) (funext fun x0 => (via_to E.laws_eqRangeS_r k (x0, ((), ()))).symm)).trans (F.laws_eqRangeS_ok N d (fun v fin new => via E.laws_eqRangeS_r k (v, fin, new))).symm

/-! ### loop.example/s0007/laws.eqNode: function 119 -/
abbrev E.laws_eqNode_a : Enc (List AV × List Blk) := Enc.both (Enc.vals [(Enc.agg (Enc.vals [(Enc.int .i64), (Enc.ro 0 (.pair (.int .i64) (.int .i64))), (Enc.int .i64), (Enc.int .i64), (Enc.int .i64)])), (Enc.agg (Enc.vals [(Enc.int .i64), (Enc.ro 0 (.pair (.int .i64) (.int .i64))), (Enc.int .i64), (Enc.int .i64), (Enc.int .i64)]))]) (Enc.all [])
abbrev E.laws_eqNode_r : Enc (AV × List (Option Blk) × List Blk) := Enc.both Enc.bool (Enc.both (Enc.all []) (Enc.all []))
def T.laws_eqNode {R : Type} (N : Nat) : Entry R := { f := 119, arg := E.laws_eqNode_a, res := E.laws_eqNode_r, fn := fun d k => F.laws_eqNode N d.1.1.1 d.1.1.2.1 d.1.1.2.2.1 d.1.1.2.2.2.1 d.1.1.2.2.2.2.1 d.1.2.1.1 d.1.2.1.2.1 d.1.2.1.2.2.1 d.1.2.1.2.2.2.1 d.1.2.1.2.2.2.2.1 fun x0 => k (x0, ((), ())) }
def H.laws_eqNode : Hint := []
theorem WF.f119 : FnWf Try.prog 119 Try.f119 := fnWf_of Try.func119 (by decide) (by kernel_rfl)
theorem F.laws_eqNode_ok {R : Type} (N : Nat) (d : E.laws_eqNode_a.D) (k : AV → List (Option Blk) → List Blk → Option R) :
    funE cfg (table [T.laws_eqRangeS N]) (ltable []) H.laws_eqNode Try.f119 (E.laws_eqNode_a.to d).1 (E.laws_eqNode_a.to d).2 k =
      F.laws_eqNode N d.1.1.1 d.1.1.2.1 d.1.1.2.2.1 d.1.1.2.2.2.1 d.1.1.2.2.2.2.1 d.1.2.1.1 d.1.2.1.2.1 d.1.2.1.2.2.1 d.1.2.1.2.2.2.1 d.1.2.1.2.2.2.2.1 fun x0 => k (E.laws_eqNode_r.to (x0, ((), ()))).1 (E.laws_eqNode_r.to (x0, ((), ()))).2.1 (E.laws_eqNode_r.to (x0, ((), ()))).2.2 := by kernel_rfl
theorem TK.laws_eqNode {R : Type} (N : Nat) : EntryOk Try.prog (T.laws_eqNode (R := R) N) :=
  entry_fun (h := H.laws_eqNode) hC hm (table_cons (TK.laws_eqRangeS N) table_nil) WF.f119 (fun d => ltable_nil) fun d k =>
    (congrArg (fun z => F.laws_eqNode N d.1.1.1 d.1.1.2.1 d.1.1.2.2.1 d.1.1.2.2.2.1 d.1.1.2.2.2.2.1 d.1.2.1.1 d.1.2.1.2.1 d.1.2.1.2.2.1 d.1.2.1.2.2.2.1 d.1.2.1.2.2.2.2.1 z) (funext fun x0 => (via_to E.laws_eqNode_r k (x0, ((), ()))).symm)).trans (F.laws_eqNode_ok N d (fun v fin new => via E.laws_eqNode_r k (v, fin, new))).symm

/-! ### loop.example/s0007/laws.eqNodeS: function 116 -/
abbrev E.laws_eqNodeS_l0_i : Enc St := Enc.st 0 (Enc.all [(Enc.key 0 (Enc.ro 0 (.pair (.int .i64) (.pair (.lst (.pair (.int .i64) (.int .i64))) (.pair (.int .i64) (.pair (.int .i64) (.int .i64))))))), (Enc.key 1 (Enc.ro 0 (.pair (.int .i64) (.pair (.lst (.pair (.int .i64) (.int .i64))) (.pair (.int .i64) (.pair (.int .i64) (.int .i64))))))), (Enc.key 5 (Enc.int .i64))]) (Enc.all [])
abbrev E.laws_eqNodeS_l0_oe0 : Enc St := Enc.st 0 (Enc.all [(Enc.key 4 Enc.un)]) (Enc.all [])
abbrev E.laws_eqNodeS_l0_oret : Enc St := Enc.st 0 (Enc.all [(Enc.key 4 Enc.bool)]) (Enc.all [])
abbrev E.laws_eqNodeS_a : Enc (List AV × List Blk) := Enc.both (Enc.vals [(Enc.ro 0 (.pair (.int .i64) (.pair (.lst (.pair (.int .i64) (.int .i64))) (.pair (.int .i64) (.pair (.int .i64) (.int .i64)))))), (Enc.ro 0 (.pair (.int .i64) (.pair (.lst (.pair (.int .i64) (.int .i64))) (.pair (.int .i64) (.pair (.int .i64) (.int .i64))))))]) (Enc.all [])
abbrev E.laws_eqNodeS_r : Enc (AV × List (Option Blk) × List Blk) := Enc.both Enc.bool (Enc.both (Enc.all []) (Enc.all []))
def T.laws_eqNodeS {R : Type} (N : Nat) : Entry R := { f := 116, arg := E.laws_eqNodeS_a, res := E.laws_eqNodeS_r, fn := fun d k => F.laws_eqNodeS N d.1.1 d.1.2.1 fun x0 => k (x0, ((), ())) }
def H.laws_eqNodeS : Hint := [(0, [0, 1, 5], [4])]
theorem WF.f116 : FnWf Try.prog 116 Try.f116 := fnWf_of Try.func116 (by decide) (by kernel_rfl)
theorem F.laws_eqNodeS_l0_ok {R : Type} (N : Nat) (d : E.laws_eqNodeS_l0_i.D) (next : St → Option R) (out : Ex → St → Option R) :
    stepE cfg (table [T.laws_eqNode N]) (ltable []) 0 H.laws_eqNodeS 0 (bodyOf Try.f116 0) [0, 1, 5] [4] (E.laws_eqNodeS_l0_i.to d) next out =
      F.laws_eqNodeS_l0_s N d.1.1 d.1.2.1 d.1.2.2.1 (fun x0 x1 x2 => next (E.laws_eqNodeS_l0_i.to ((x0, (x1, (x2, ()))), ()))) (fun _ => out (.exit 0) (E.laws_eqNodeS_l0_oe0.to (((), ()), ()))) (fun y0 => out .ret (E.laws_eqNodeS_l0_oret.to ((y0, ()), ()))) := by kernel_rfl
def G.laws_eqNodeS_l0 {R : Type} (N n : Nat) (d : E.laws_eqNodeS_l0_i.D) (k : Ex → St → Option R) : Option R := F.laws_eqNodeS_l0 N n d.1.1 d.1.2.1 d.1.2.2.1 (fun _ => k (.exit 0) (E.laws_eqNodeS_l0_oe0.to (((), ()), ()))) (fun y0 => k .ret (E.laws_eqNodeS_l0_oret.to ((y0, ()), ())))
def TL.laws_eqNodeS_l0 {R : Type} (N : Nat) : LEntry R := { b := 0, st := E.laws_eqNodeS_l0_i, fn := fun d k => G.laws_eqNodeS_l0 N N d k }
theorem GS.laws_eqNodeS_l0 {R : Type} (N n : Nat) (d : E.laws_eqNodeS_l0_i.D) (k : Ex → St → Option R) : G.laws_eqNodeS_l0 N (n + 1) d k =
    stepE cfg (table [T.laws_eqNode N]) (ltable []) 0 H.laws_eqNodeS 0 (bodyOf Try.f116 0) [0, 1, 5] [4] (E.laws_eqNodeS_l0_i.to d) (via E.laws_eqNodeS_l0_i fun e => G.laws_eqNodeS_l0 N n e k) k :=
  (show G.laws_eqNodeS_l0 N (n + 1) d k = F.laws_eqNodeS_l0_s N d.1.1 d.1.2.1 d.1.2.2.1 (fun x0 x1 x2 => F.laws_eqNodeS_l0 N n x0 x1 x2 (fun _ => k (.exit 0) (E.laws_eqNodeS_l0_oe0.to (((), ()), ()))) (fun y0 => k .ret (E.laws_eqNodeS_l0_oret.to ((y0, ()), ())))) (fun _ => k (.exit 0) (E.laws_eqNodeS_l0_oe0.to (((), ()), ()))) (fun y0 => k .ret (E.laws_eqNodeS_l0_oret.to ((y0, ()), ()))) from rfl).trans
    ((congrArg (fun z => F.laws_eqNodeS_l0_s N d.1.1 d.1.2.1 d.1.2.2.1 z (fun _ => k (.exit 0) (E.laws_eqNodeS_l0_oe0.to (((), ()), ()))) (fun y0 => k .ret (E.laws_eqNodeS_l0_oret.to ((y0, ()), ())))) (funext fun x0 => funext fun x1 => funext fun x2 => (via_to E.laws_eqNodeS_l0_i (fun e => G.laws_eqNodeS_l0 N n e k) ((x0, (x1, (x2, ()))), ())).symm)).trans (F.laws_eqNodeS_l0_ok N d (via E.laws_eqNodeS_l0_i fun e => G.laws_eqNodeS_l0 N n e k) k).symm)
theorem LK.laws_eqNodeS_l0 {R : Type} (N : Nat) : LEntryOk Try.prog 0 Try.f116.ntmps (bodyOf Try.f116) (TL.laws_eqNodeS_l0 (R := R) N) :=
  lentry_fun (i := [0, 1, 5]) (o := [4]) (h := H.laws_eqNodeS) hC hm (table_cons (TK.laws_eqNode N) table_nil) WF.f116 ltable_nil (fun d => uniq_of rfl) (fun n d k => G.laws_eqNodeS_l0 N n d k) N (fun _ _ => rfl) (fun _ _ => rfl) (fun n d k => GS.laws_eqNodeS_l0 N n d k)
theorem F.laws_eqNodeS_ok {R : Type} (N : Nat) (d : E.laws_eqNodeS_a.D) (k : AV → List (Option Blk) → List Blk → Option R) :
    funE cfg (table []) (ltable [TL.laws_eqNodeS_l0 N]) H.laws_eqNodeS Try.f116 (E.laws_eqNodeS_a.to d).1 (E.laws_eqNodeS_a.to d).2 k =
      F.laws_eqNodeS N d.1.1 d.1.2.1 fun x0 => k (E.laws_eqNodeS_r.to (x0, ((), ()))).1 (E.laws_eqNodeS_r.to (x0, ((), ()))).2.1 (E.laws_eqNodeS_r.to (x0, ((), ()))).2.2 := by kernel_rfl
theorem TK.laws_eqNodeS {R : Type} (N : Nat) : EntryOk Try.prog (T.laws_eqNodeS (R := R) N) :=
  entry_fun (h := H.laws_eqNodeS) hC hm table_nil WF.f116 (fun d => (ltable_cons (LK.laws_eqNodeS_l0 N) ltable_nil)) fun d k =>
    (congrArg (fun z => F.laws_eqNodeS N d.1.1 d.1.2.1 z) (funext fun x0 => (via_to E.laws_eqNodeS_r k (x0, ((), ()))).symm)).trans (F.laws_eqNodeS_ok N d (fun v fin new => via E.laws_eqNodeS_r k (v, fin, new))).symm

/-! ### loop.example/s0007/laws.eqBranch: function 109 -/
abbrev E.laws_eqBranch_a : Enc (List AV × List Blk) := Enc.both (Enc.vals [(Enc.agg (Enc.vals [Enc.bool, Enc.bool, (Enc.ro 0 (.pair (.int .i64) (.pair (.lst (.pair (.int .i64) (.int .i64))) (.pair (.int .i64) (.pair (.int .i64) (.int .i64))))))])), (Enc.agg (Enc.vals [Enc.bool, Enc.bool, (Enc.ro 0 (.pair (.int .i64) (.pair (.lst (.pair (.int .i64) (.int .i64))) (.pair (.int .i64) (.pair (.int .i64) (.int .i64))))))]))]) (Enc.all [])
abbrev E.laws_eqBranch_r : Enc (AV × List (Option Blk) × List Blk) := Enc.both Enc.bool (Enc.both (Enc.all []) (Enc.all []))
def T.laws_eqBranch {R : Type} (N : Nat) : Entry R := { f := 109, arg := E.laws_eqBranch_a, res := E.laws_eqBranch_r, fn := fun d k => F.laws_eqBranch N d.1.1.1 d.1.1.2.1 d.1.1.2.2.1 d.1.2.1.1 d.1.2.1.2.1 d.1.2.1.2.2.1 fun x0 => k (x0, ((), ())) }
def H.laws_eqBranch : Hint := []
theorem WF.f109 : FnWf Try.prog 109 Try.f109 := fnWf_of Try.func109 (by decide) (by kernel_rfl)
theorem F.laws_eqBranch_ok {R : Type} (N : Nat) (d : E.laws_eqBranch_a.D) (k : AV → List (Option Blk) → List Blk → Option R) :
    funE cfg (table [T.laws_eqNodeS N]) (ltable []) H.laws_eqBranch Try.f109 (E.laws_eqBranch_a.to d).1 (E.laws_eqBranch_a.to d).2 k =
      F.laws_eqBranch N d.1.1.1 d.1.1.2.1 d.1.1.2.2.1 d.1.2.1.1 d.1.2.1.2.1 d.1.2.1.2.2.1 fun x0 => k (E.laws_eqBranch_r.to (x0, ((), ()))).1 (E.laws_eqBranch_r.to (x0, ((), ()))).2.1 (E.laws_eqBranch_r.to (x0, ((), ()))).2.2 := by kernel_rfl
theorem TK.laws_eqBranch {R : Type} (N : Nat) : EntryOk Try.prog (T.laws_eqBranch (R := R) N) :=
  entry_fun (h := H.laws_eqBranch) hC hm (table_cons (TK.laws_eqNodeS N) table_nil) WF.f109 (fun d => ltable_nil) fun d k =>
    (congrArg (fun z => F.laws_eqBranch N d.1.1.1 d.1.1.2.1 d.1.1.2.2.1 d.1.2.1.1 d.1.2.1.2.1 d.1.2.1.2.2.1 z) (funext fun x0 => (via_to E.laws_eqBranch_r k (x0, ((), ()))).symm)).trans (F.laws_eqBranch_ok N d (fun v fin new => via E.laws_eqBranch_r k (v, fin, new))).symm

/-! ### loop.example/s0007/laws.eqBranchS: function 86 -/
abbrev E.laws_eqBranchS_l0_i : Enc St := Enc.st 0 (Enc.all [(Enc.key 0 (Enc.ro 0 (.pair .bool (.pair .bool (.lst (.pair (.int .i64) (.pair (.lst (.pair (.int .i64) (.int .i64))) (.pair (.int .i64) (.pair (.int .i64) (.int .i64)))))))))), (Enc.key 1 (Enc.ro 0 (.pair .bool (.pair .bool (.lst (.pair (.int .i64) (.pair (.lst (.pair (.int .i64) (.int .i64))) (.pair (.int .i64) (.pair (.int .i64) (.int .i64)))))))))), (Enc.key 5 (Enc.int .i64))]) (Enc.all [])
abbrev E.laws_eqBranchS_l0_oe0 : Enc St := Enc.st 0 (Enc.all [(Enc.key 4 Enc.un)]) (Enc.all [])
abbrev E.laws_eqBranchS_l0_oret : Enc St := Enc.st 0 (Enc.all [(Enc.key 4 Enc.bool)]) (Enc.all [])
abbrev E.laws_eqBranchS_a : Enc (List AV × List Blk) := Enc.both (Enc.vals [(Enc.ro 0 (.pair .bool (.pair .bool (.lst (.pair (.int .i64) (.pair (.lst (.pair (.int .i64) (.int .i64))) (.pair (.int .i64) (.pair (.int .i64) (.int .i64))))))))), (Enc.ro 0 (.pair .bool (.pair .bool (.lst (.pair (.int .i64) (.pair (.lst (.pair (.int .i64) (.int .i64))) (.pair (.int .i64) (.pair (.int .i64) (.int .i64)))))))))]) (Enc.all [])
abbrev E.laws_eqBranchS_r : Enc (AV × List (Option Blk) × List Blk) := Enc.both Enc.bool (Enc.both (Enc.all []) (Enc.all []))
def T.laws_eqBranchS {R : Type} (N : Nat) : Entry R := { f := 86, arg := E.laws_eqBranchS_a, res := E.laws_eqBranchS_r, fn := fun d k => F.laws_eqBranchS N d.1.1 d.1.2.1 fun x0 => k (x0, ((), ())) }
def H.laws_eqBranchS : Hint := [(0, [0, 1, 5], [4])]
theorem WF.f86 : FnWf Try.prog 86 Try.f86 := fnWf_of Try.func86 (by decide) (by kernel_rfl)
theorem F.laws_eqBranchS_l0_ok {R : Type} (N : Nat) (d : E.laws_eqBranchS_l0_i.D) (next : St → Option R) (out : Ex → St → Option R) :
    stepE cfg (table [T.laws_eqBranch N]) (ltable []) 0 H.laws_eqBranchS 0 (bodyOf Try.f86 0) [0, 1, 5] [4] (E.laws_eqBranchS_l0_i.to d) next out =
      F.laws_eqBranchS_l0_s N d.1.1 d.1.2.1 d.1.2.2.1 (fun x0 x1 x2 => next (E.laws_eqBranchS_l0_i.to ((x0, (x1, (x2, ()))), ()))) (fun _ => out (.exit 0) (E.laws_eqBranchS_l0_oe0.to (((), ()), ()))) (fun y0 => out .ret (E.laws_eqBranchS_l0_oret.to ((y0, ()), ()))) := by kernel_rfl
def G.laws_eqBranchS_l0 {R : Type} (N n : Nat) (d : E.laws_eqBranchS_l0_i.D) (k : Ex → St → Option R) : Option R := F.laws_eqBranchS_l0 N n d.1.1 d.1.2.1 d.1.2.2.1 (fun _ => k (.exit 0) (E.laws_eqBranchS_l0_oe0.to (((), ()), ()))) (fun y0 => k .ret (E.laws_eqBranchS_l0_oret.to ((y0, ()), ())))
def TL.laws_eqBranchS_l0 {R : Type} (N : Nat) : LEntry R := { b := 0, st := E.laws_eqBranchS_l0_i, fn := fun d k => G.laws_eqBranchS_l0 N N d k }
theorem GS.laws_eqBranchS_l0 {R : Type} (N n : Nat) (d : E.laws_eqBranchS_l0_i.D) (k : Ex → St → Option R) : G.laws_eqBranchS_l0 N (n + 1) d k =
    stepE cfg (table [T.laws_eqBranch N]) (ltable []) 0 H.laws_eqBranchS 0 (bodyOf Try.f86 0) [0, 1, 5] [4] (E.laws_eqBranchS_l0_i.to d) (via E.laws_eqBranchS_l0_i fun e => G.laws_eqBranchS_l0 N n e k) k :=
  (show G.laws_eqBranchS_l0 N (n + 1) d k = F.laws_eqBranchS_l0_s N d.1.1 d.1.2.1 d.1.2.2.1 (fun x0 x1 x2 => F.laws_eqBranchS_l0 N n x0 x1 x2 (fun _ => k (.exit 0) (E.laws_eqBranchS_l0_oe0.to (((), ()), ()))) (fun y0 => k .ret (E.laws_eqBranchS_l0_oret.to ((y0, ()), ())))) (fun _ => k (.exit 0) (E.laws_eqBranchS_l0_oe0.to (((), ()), ()))) (fun y0 => k .ret (E.laws_eqBranchS_l0_oret.to ((y0, ()), ()))) from rfl).trans
    ((congrArg (fun z => F.laws_eqBranchS_l0_s N d.1.1 d.1.2.1 d.1.2.2.1 z (fun _ => k (.exit 0) (E.laws_eqBranchS_l0_oe0.to (((), ()), ()))) (fun y0 => k .ret (E.laws_eqBranchS_l0_oret.to ((y0, ()), ())))) (funext fun x0 => funext fun x1 => funext fun x2 => (via_to E.laws_eqBranchS_l0_i (fun e => G.laws_eqBranchS_l0 N n e k) ((x0, (x1, (x2, ()))), ())).symm)).trans (F.laws_eqBranchS_l0_ok N d (via E.laws_eqBranchS_l0_i fun e => G.laws_eqBranchS_l0 N n e k) k).symm)
theorem LK.laws_eqBranchS_l0 {R : Type} (N : Nat) : LEntryOk Try.prog 0 Try.f86.ntmps (bodyOf Try.f86) (TL.laws_eqBranchS_l0 (R := R) N) :=
  lentry_fun (i := [0, 1, 5]) (o := [4]) (h := H.laws_eqBranchS) hC hm (table_cons (TK.laws_eqBranch N) table_nil) WF.f86 ltable_nil (fun d => uniq_of rfl) (fun n d k => G.laws_eqBranchS_l0 N n d k) N (fun _ _ => rfl) (fun _ _ => rfl) (fun n d k => GS.laws_eqBranchS_l0 N n d k)
theorem F.laws_eqBranchS_ok {R : Type} (N : Nat) (d : E.laws_eqBranchS_a.D) (k : AV → List (Option Blk) → List Blk → Option R) :
    funE cfg (table []) (ltable [TL.laws_eqBranchS_l0 N]) H.laws_eqBranchS Try.f86 (E.laws_eqBranchS_a.to d).1 (E.laws_eqBranchS_a.to d).2 k =
      F.laws_eqBranchS N d.1.1 d.1.2.1 fun x0 => k (E.laws_eqBranchS_r.to (x0, ((), ()))).1 (E.laws_eqBranchS_r.to (x0, ((), ()))).2.1 (E.laws_eqBranchS_r.to (x0, ((), ()))).2.2 := by kernel_rfl
theorem TK.laws_eqBranchS {R : Type} (N : Nat) : EntryOk Try.prog (T.laws_eqBranchS (R := R) N) :=
  entry_fun (h := H.laws_eqBranchS) hC hm table_nil WF.f86 (fun d => (ltable_cons (LK.laws_eqBranchS_l0 N) ltable_nil)) fun d k =>
    (congrArg (fun z => F.laws_eqBranchS N d.1.1 d.1.2.1 z) (funext fun x0 => (via_to E.laws_eqBranchS_r k (x0, ((), ()))).symm)).trans (F.laws_eqBranchS_ok N d (fun v fin new => via E.laws_eqBranchS_r k (v, fin, new))).symm

/-! ### loop.example/s0007/laws.eqRule: function 42 -/
abbrev E.laws_eqRule_a : Enc (List AV × List Blk) := Enc.both (Enc.vals [(Enc.agg (Enc.vals [(Enc.ro 0 (.pair .bool (.pair .bool (.lst (.pair (.int .i64) (.pair (.lst (.pair (.int .i64) (.int .i64))) (.pair (.int .i64) (.pair (.int .i64) (.int .i64))))))))), (Enc.int .i64)])), (Enc.agg (Enc.vals [(Enc.ro 0 (.pair .bool (.pair .bool (.lst (.pair (.int .i64) (.pair (.lst (.pair (.int .i64) (.int .i64))) (.pair (.int .i64) (.pair (.int .i64) (.int .i64))))))))), (Enc.int .i64)]))]) (Enc.all [])
abbrev E.laws_eqRule_r : Enc (AV × List (Option Blk) × List Blk) := Enc.both Enc.bool (Enc.both (Enc.all []) (Enc.all []))
def T.laws_eqRule {R : Type} (N : Nat) : Entry R := { f := 42, arg := E.laws_eqRule_a, res := E.laws_eqRule_r, fn := fun d k => F.laws_eqRule N d.1.1.1 d.1.1.2.1 d.1.2.1.1 d.1.2.1.2.1 fun x0 => k (x0, ((), ())) }
def H.laws_eqRule : Hint := []
theorem WF.f42 : FnWf Try.prog 42 Try.f42 := fnWf_of Try.func42 (by decide) (by kernel_rfl)
theorem F.laws_eqRule_ok {R : Type} (N : Nat) (d : E.laws_eqRule_a.D) (k : AV → List (Option Blk) → List Blk → Option R) :
    funE cfg (table [T.laws_eqBranchS N]) (ltable []) H.laws_eqRule Try.f42 (E.laws_eqRule_a.to d).1 (E.laws_eqRule_a.to d).2 k =
      F.laws_eqRule N d.1.1.1 d.1.1.2.1 d.1.2.1.1 d.1.2.1.2.1 fun x0 => k (E.laws_eqRule_r.to (x0, ((), ()))).1 (E.laws_eqRule_r.to (x0, ((), ()))).2.1 (E.laws_eqRule_r.to (x0, ((), ()))).2.2 := by kernel_rfl
theorem TK.laws_eqRule {R : Type} (N : Nat) : EntryOk Try.prog (T.laws_eqRule (R := R) N) :=
  entry_fun (h := H.laws_eqRule) hC hm (table_cons (TK.laws_eqBranchS N) table_nil) WF.f42 (fun d => ltable_nil) fun d k =>
    (congrArg (fun z => F.laws_eqRule N d.1.1.1 d.1.1.2.1 d.1.2.1.1 d.1.2.1.2.1 z) (funext fun x0 => (via_to E.laws_eqRule_r k (x0, ((), ()))).symm)).trans (F.laws_eqRule_ok N d (fun v fin new => via E.laws_eqRule_r k (v, fin, new))).symm

/-! ### loop.example/s0007/laws.FnExactRuleOK: function 10 -/
abbrev E.laws_FnExactRuleOK_a : Enc (List AV × List Blk) := Enc.both (Enc.vals [(Enc.agg (Enc.vals [(Enc.ro 0 (.pair .bool (.pair .bool (.lst (.pair (.int .i64) (.pair (.lst (.pair (.int .i64) (.int .i64))) (.pair (.int .i64) (.pair (.int .i64) (.int .i64))))))))), (Enc.int .i64)]))]) (Enc.all [])
abbrev E.laws_FnExactRuleOK_r : Enc (AV × List (Option Blk) × List Blk) := Enc.both Enc.bool (Enc.both (Enc.all []) (Enc.all []))
def T.laws_FnExactRuleOK {R : Type} (N : Nat) : Entry R := { f := 10, arg := E.laws_FnExactRuleOK_a, res := E.laws_FnExactRuleOK_r, fn := fun d k => F.laws_FnExactRuleOK N d.1.1.1 d.1.1.2.1 fun x0 => k (x0, ((), ())) }
def H.laws_FnExactRuleOK : Hint := []
theorem WF.f10 : FnWf Try.prog 10 Try.f10 := fnWf_of Try.func10 (by decide) (by kernel_rfl)
theorem F.laws_FnExactRuleOK_ok {R : Type} (N : Nat) (d : E.laws_FnExactRuleOK_a.D) (k : AV → List (Option Blk) → List Blk → Option R) :
    funE cfg (table [T.laws_szRule N, T.laws_toRule N, T.spec_RuleOK N, T.impl_RuleOK N, T.laws_eqRule N]) (ltable []) H.laws_FnExactRuleOK Try.f10 (E.laws_FnExactRuleOK_a.to d).1 (E.laws_FnExactRuleOK_a.to d).2 k =
      F.laws_FnExactRuleOK N d.1.1.1 d.1.1.2.1 fun x0 => k (E.laws_FnExactRuleOK_r.to (x0, ((), ()))).1 (E.laws_FnExactRuleOK_r.to (x0, ((), ()))).2.1 (E.laws_FnExactRuleOK_r.to (x0, ((), ()))).2.2 := by kernel_rfl
theorem TK.laws_FnExactRuleOK {R : Type} (N : Nat) : EntryOk Try.prog (T.laws_FnExactRuleOK (R := R) N) :=
  entry_fun (h := H.laws_FnExactRuleOK) hC hm (table_cons (TK.laws_szRule N) (table_cons (TK.laws_toRule N) (table_cons (TK.spec_RuleOK N) (table_cons (TK.impl_RuleOK N) (table_cons (TK.laws_eqRule N) table_nil))))) WF.f10 (fun d => ltable_nil) fun d k =>
    (congrArg (fun z => F.laws_FnExactRuleOK N d.1.1.1 d.1.1.2.1 z) (funext fun x0 => (via_to E.laws_FnExactRuleOK_r k (x0, ((), ()))).symm)).trans (F.laws_FnExactRuleOK_ok N d (fun v fin new => via E.laws_FnExactRuleOK_r k (v, fin, new))).symm
end Go.Proofs.Ytgmgmgcjkalanaa.fnExactRuleOK
