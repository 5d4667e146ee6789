/- These plain functions are what the Go functions answer. -/
import Derived.Test.YtioegjpinjigkaaEc
import Derived.Test.YtioegjpinjigkaaFdFnExactFeed
import Derived.Test.YtioegjpinjigkaaChecked
import Derived.KernelRfl
import Derived.Eval
set_option maxRecDepth 100000
set_option linter.unusedVariables false
namespace Go.Proofs.Ytioegjpinjigkaa.fnExactFeed
open Go.Ev
def cfg : Cfg := { ty := [
  (3, { sz := 1, cls := 0, offs := [], elem := 0, alen := 0, bytes := 8, zero := [.int .i64 0], ki := some (.int .i64) }),
  (4, { sz := 1, cls := 0, offs := [], elem := 0, alen := 0, bytes := 1, zero := [.bool false], ki := some .bool }),
  (9, { sz := 1, cls := 0, offs := [], elem := 0, alen := 0, bytes := 16, zero := [.str []], ki := some .str }),
  (24, { sz := 5, cls := 1, offs := [0, 1, 2, 3, 4], elem := 0, alen := 0, bytes := 48, zero := [.int .i64 0, .str [], .bool false, .int .i64 0, .int .i64 0], ki := some (.pair (.int .i64) (.pair .str (.pair .bool (.pair (.int .i64) (.int .i64))))) }),
  (28, { sz := 5, cls := 1, offs := [0, 1, 2, 3, 4], elem := 0, alen := 0, bytes := 48, zero := [.int .i64 0, .str [], .bool false, .int .i64 0, .int .i64 0], ki := some (.pair (.int .i64) (.pair .str (.pair .bool (.pair (.int .i64) (.int .i64))))) })], wr := [] }
theorem hC : cfgOk Try.prog cfg = true := by kernel_rfl
theorem hm : Try.prog.follows .mixedOrders = true := Checked.mixed Try.checked

/-! ### loop.example/s0007/laws.szSession: function 12 -/
abbrev E.laws_szSession_a : Enc (List AV × List Blk) := Enc.both (Enc.vals [(Enc.agg (Enc.vals [(Enc.int .i64), Enc.str, Enc.bool, (Enc.int .i64), (Enc.int .i64)])), (Enc.int .i64)]) (Enc.all [])
abbrev E.laws_szSession_r : Enc (AV × List (Option Blk) × List Blk) := Enc.both (Enc.int .i64) (Enc.both (Enc.all []) (Enc.all []))
def T.laws_szSession {R : Type} : Entry R := { f := 12, arg := E.laws_szSession_a, res := E.laws_szSession_r, fn := fun d k => F.laws_szSession d.1.1.1 d.1.1.2.1 d.1.1.2.2.1 d.1.1.2.2.2.1 d.1.1.2.2.2.2.1 d.1.2.1 fun x0 => k (x0, ((), ())) }
def H.laws_szSession : Hint := []
theorem WF.f12 : FnWf Try.prog 12 Try.f12 := fnWf_of Try.func12 (by decide) (by kernel_rfl)
theorem F.laws_szSession_ok {R : Type} (d : E.laws_szSession_a.D) (k : AV → List (Option Blk) → List Blk → Option R) :
    funE cfg (table []) (ltable []) H.laws_szSession Try.f12 (E.laws_szSession_a.to d).1 (E.laws_szSession_a.to d).2 k =
      F.laws_szSession d.1.1.1 d.1.1.2.1 d.1.1.2.2.1 d.1.1.2.2.2.1 d.1.1.2.2.2.2.1 d.1.2.1 fun x0 => k (E.laws_szSession_r.to (x0, ((), ()))).1 (E.laws_szSession_r.to (x0, ((), ()))).2.1 (E.laws_szSession_r.to (x0, ((), ()))).2.2 := by kernel_rfl
theorem TK.laws_szSession {R : Type} : EntryOk Try.prog (T.laws_szSession (R := R)) :=
  entry_fun (h := H.laws_szSession) hC hm table_nil WF.f12 (fun d => ltable_nil) fun d k =>
    (congrArg (fun z => F.laws_szSession d.1.1.1 d.1.1.2.1 d.1.1.2.2.1 d.1.1.2.2.2.1 d.1.1.2.2.2.2.1 d.1.2.1 z) (funext fun x0 => (via_to E.laws_szSession_r k (x0, ((), ()))).symm)).trans (F.laws_szSession_ok d (fun v fin new => via E.laws_szSession_r k (v, fin, new))).symm

/-! ### loop.example/s0007/laws.toSession: function 14 -/
abbrev E.laws_toSession_a : Enc (List AV × List Blk) := Enc.both (Enc.vals [(Enc.agg (Enc.vals [(Enc.int .i64), Enc.str, Enc.bool, (Enc.int .i64), (Enc.int .i64)]))]) (Enc.all [])
abbrev E.laws_toSession_r : Enc (AV × List (Option Blk) × List Blk) := Enc.both (Enc.agg (Enc.vals [(Enc.int .i64), Enc.str, Enc.bool, (Enc.int .i64), (Enc.int .i64)])) (Enc.both (Enc.all []) (Enc.all []))
def T.laws_toSession {R : Type} : Entry R := { f := 14, arg := E.laws_toSession_a, res := E.laws_toSession_r, fn := fun d k => F.laws_toSession d.1.1.1 d.1.1.2.1 d.1.1.2.2.1 d.1.1.2.2.2.1 d.1.1.2.2.2.2.1 fun x0 x1 x2 x3 x4 => k ((x0, (x1, (x2, (x3, (x4, ()))))), ((), ())) }
def H.laws_toSession : Hint := []
theorem WF.f14 : FnWf Try.prog 14 Try.f14 := fnWf_of Try.func14 (by decide) (by kernel_rfl)
theorem F.laws_toSession_ok {R : Type} (d : E.laws_toSession_a.D) (k : AV → List (Option Blk) → List Blk → Option R) :
    funE cfg (table []) (ltable []) H.laws_toSession Try.f14 (E.laws_toSession_a.to d).1 (E.laws_toSession_a.to d).2 k =
      F.laws_toSession d.1.1.1 d.1.1.2.1 d.1.1.2.2.1 d.1.1.2.2.2.1 d.1.1.2.2.2.2.1 fun x0 x1 x2 x3 x4 => k (E.laws_toSession_r.to ((x0, (x1, (x2, (x3, (x4, ()))))), ((), ()))).1 (E.laws_toSession_r.to ((x0, (x1, (x2, (x3, (x4, ()))))), ((), ()))).2.1 (E.laws_toSession_r.to ((x0, (x1, (x2, (x3, (x4, ()))))), ((), ()))).2.2 := by kernel_rfl
theorem TK.laws_toSession {R : Type} : EntryOk Try.prog (T.laws_toSession (R := R)) :=
  entry_fun (h := H.laws_toSession) hC hm table_nil WF.f14 (fun d => ltable_nil) fun d k =>
    (congrArg (fun z => F.laws_toSession d.1.1.1 d.1.1.2.1 d.1.1.2.2.1 d.1.1.2.2.2.1 d.1.1.2.2.2.2.1 z) (funext fun x0 => funext fun x1 => funext fun x2 => funext fun x3 => funext fun x4 => (via_to E.laws_toSession_r k ((x0, (x1, (x2, (x3, (x4, ()))))), ((), ()))).symm)).trans (F.laws_toSession_ok d (fun v fin new => via E.laws_toSession_r k (v, fin, new))).symm

/-! ### loop.example/s0007/spec.l1Between: function 25 -/
abbrev E.spec_l1Between_a : Enc (List AV × List Blk) := Enc.both (Enc.vals [(Enc.int .i64), (Enc.int .i64), (Enc.int .i64)]) (Enc.all [])
abbrev E.spec_l1Between_r : Enc (AV × List (Option Blk) × List Blk) := Enc.both Enc.bool (Enc.both (Enc.all []) (Enc.all []))
def T.spec_l1Between {R : Type} : Entry R := { f := 25, arg := E.spec_l1Between_a, res := E.spec_l1Between_r, fn := fun d k => F.spec_l1Between d.1.1 d.1.2.1 d.1.2.2.1 fun x0 => k (x0, ((), ())) }
def H.spec_l1Between : Hint := []
theorem WF.f25 : FnWf Try.prog 25 Try.f25 := fnWf_of Try.func25 (by decide) (by kernel_rfl)
theorem F.spec_l1Between_ok {R : Type} (d : E.spec_l1Between_a.D) (k : AV → List (Option Blk) → List Blk → Option R) :
    funE cfg (table []) (ltable []) H.spec_l1Between Try.f25 (E.spec_l1Between_a.to d).1 (E.spec_l1Between_a.to d).2 k =
      F.spec_l1Between d.1.1 d.1.2.1 d.1.2.2.1 fun x0 => k (E.spec_l1Between_r.to (x0, ((), ()))).1 (E.spec_l1Between_r.to (x0, ((), ()))).2.1 (E.spec_l1Between_r.to (x0, ((), ()))).2.2 := by kernel_rfl
theorem TK.spec_l1Between {R : Type} : EntryOk Try.prog (T.spec_l1Between (R := R)) :=
  entry_fun (h := H.spec_l1Between) hC hm table_nil WF.f25 (fun d => ltable_nil) fun d k =>
    (congrArg (fun z => F.spec_l1Between d.1.1 d.1.2.1 d.1.2.2.1 z) (funext fun x0 => (via_to E.spec_l1Between_r k (x0, ((), ()))).symm)).trans (F.spec_l1Between_ok d (fun v fin new => via E.spec_l1Between_r k (v, fin, new))).symm

/-! ### loop.example/s0007/spec.l4SessionOK: function 26 -/
abbrev E.spec_l4SessionOK_a : Enc (List AV × List Blk) := Enc.both (Enc.vals [(Enc.agg (Enc.vals [(Enc.int .i64), Enc.str, Enc.bool, (Enc.int .i64), (Enc.int .i64)]))]) (Enc.all [])
abbrev E.spec_l4SessionOK_r : Enc (AV × List (Option Blk) × List Blk) := Enc.both Enc.bool (Enc.both (Enc.all []) (Enc.all []))
def T.spec_l4SessionOK {R : Type} : Entry R := { f := 26, arg := E.spec_l4SessionOK_a, res := E.spec_l4SessionOK_r, fn := fun d k => F.spec_l4SessionOK d.1.1.1 d.1.1.2.1 d.1.1.2.2.1 d.1.1.2.2.2.1 d.1.1.2.2.2.2.1 fun x0 => k (x0, ((), ())) }
def H.spec_l4SessionOK : Hint := []
theorem WF.f26 : FnWf Try.prog 26 Try.f26 := fnWf_of Try.func26 (by decide) (by kernel_rfl)
theorem F.spec_l4SessionOK_ok {R : Type} (d : E.spec_l4SessionOK_a.D) (k : AV → List (Option Blk) → List Blk → Option R) :
    funE cfg (table [T.spec_l1Between]) (ltable []) H.spec_l4SessionOK Try.f26 (E.spec_l4SessionOK_a.to d).1 (E.spec_l4SessionOK_a.to d).2 k =
      F.spec_l4SessionOK d.1.1.1 d.1.1.2.1 d.1.1.2.2.1 d.1.1.2.2.2.1 d.1.1.2.2.2.2.1 fun x0 => k (E.spec_l4SessionOK_r.to (x0, ((), ()))).1 (E.spec_l4SessionOK_r.to (x0, ((), ()))).2.1 (E.spec_l4SessionOK_r.to (x0, ((), ()))).2.2 := by kernel_rfl
theorem TK.spec_l4SessionOK {R : Type} : EntryOk Try.prog (T.spec_l4SessionOK (R := R)) :=
  entry_fun (h := H.spec_l4SessionOK) hC hm (table_cons TK.spec_l1Between table_nil) WF.f26 (fun d => ltable_nil) fun d k =>
    (congrArg (fun z => F.spec_l4SessionOK d.1.1.1 d.1.1.2.1 d.1.1.2.2.1 d.1.1.2.2.2.1 d.1.1.2.2.2.2.1 z) (funext fun x0 => (via_to E.spec_l4SessionOK_r k (x0, ((), ()))).symm)).trans (F.spec_l4SessionOK_ok d (fun v fin new => via E.spec_l4SessionOK_r k (v, fin, new))).symm

/-! ### loop.example/s0007/spec.Feed: function 16 -/
abbrev E.spec_Feed_a : Enc (List AV × List Blk) := Enc.both (Enc.vals [(Enc.agg (Enc.vals [(Enc.int .i64), Enc.str, Enc.bool, (Enc.int .i64), (Enc.int .i64)])), Enc.str]) (Enc.all [])
abbrev E.spec_Feed_r : Enc (AV × List (Option Blk) × List Blk) := Enc.both (Enc.tup (Enc.vals [(Enc.agg (Enc.vals [(Enc.int .i64), Enc.str, Enc.bool, (Enc.int .i64), (Enc.int .i64)])), (Enc.int .i64)])) (Enc.both (Enc.all []) (Enc.all []))
def T.spec_Feed {R : Type} : Entry R := { f := 16, arg := E.spec_Feed_a, res := E.spec_Feed_r, fn := fun d k => F.spec_Feed d.1.1.1 d.1.1.2.1 d.1.1.2.2.1 d.1.1.2.2.2.1 d.1.1.2.2.2.2.1 d.1.2.1 fun x0 x1 x2 x3 x4 x5 => k (((x0, (x1, (x2, (x3, (x4, ()))))), (x5, ())), ((), ())) }
def H.spec_Feed : Hint := []
theorem WF.f16 : FnWf Try.prog 16 Try.f16 := fnWf_of Try.func16 (by decide) (by kernel_rfl)
theorem F.spec_Feed_ok {R : Type} (d : E.spec_Feed_a.D) (k : AV → List (Option Blk) → List Blk → Option R) :
    funE cfg (table [T.spec_l4SessionOK]) (ltable []) H.spec_Feed Try.f16 (E.spec_Feed_a.to d).1 (E.spec_Feed_a.to d).2 k =
      F.spec_Feed d.1.1.1 d.1.1.2.1 d.1.1.2.2.1 d.1.1.2.2.2.1 d.1.1.2.2.2.2.1 d.1.2.1 fun x0 x1 x2 x3 x4 x5 => k (E.spec_Feed_r.to (((x0, (x1, (x2, (x3, (x4, ()))))), (x5, ())), ((), ()))).1 (E.spec_Feed_r.to (((x0, (x1, (x2, (x3, (x4, ()))))), (x5, ())), ((), ()))).2.1 (E.spec_Feed_r.to (((x0, (x1, (x2, (x3, (x4, ()))))), (x5, ())), ((), ()))).2.2 := by kernel_rfl
theorem TK.spec_Feed {R : Type} : EntryOk Try.prog (T.spec_Feed (R := R)) :=
  entry_fun (h := H.spec_Feed) hC hm (table_cons TK.spec_l4SessionOK table_nil) WF.f16 (fun d => ltable_nil) fun d k =>
    (congrArg (fun z => F.spec_Feed d.1.1.1 d.1.1.2.1 d.1.1.2.2.1 d.1.1.2.2.2.1 d.1.1.2.2.2.2.1 d.1.2.1 z) (funext fun x0 => funext fun x1 => funext fun x2 => funext fun x3 => funext fun x4 => funext fun x5 => (via_to E.spec_Feed_r k (((x0, (x1, (x2, (x3, (x4, ()))))), (x5, ())), ((), ()))).symm)).trans (F.spec_Feed_ok d (fun v fin new => via E.spec_Feed_r k (v, fin, new))).symm

/-! ### (*loop.example/s0007/impl.Session).ok: function 27 -/
abbrev E.impl_Session_ok_a : Enc (List AV × List Blk) := Enc.both (Enc.vals [(Enc.pr 0 0 (Enc.vals [(Enc.int .i64), Enc.str, Enc.bool, (Enc.int .i64), (Enc.int .i64)]))]) (Enc.all [])
abbrev E.impl_Session_ok_r : Enc (AV × List (Option Blk) × List Blk) := Enc.both Enc.bool (Enc.both (Enc.all []) (Enc.all []))
def T.impl_Session_ok {R : Type} : Entry R := { f := 27, arg := E.impl_Session_ok_a, res := E.impl_Session_ok_r, fn := fun d k => F.impl_Session_ok d.1.1.1 d.1.1.2.1 d.1.1.2.2.1 d.1.1.2.2.2.1 d.1.1.2.2.2.2.1 fun x0 => k (x0, ((), ())) }
def H.impl_Session_ok : Hint := []
theorem WF.f27 : FnWf Try.prog 27 Try.f27 := fnWf_of Try.func27 (by decide) (by kernel_rfl)
theorem F.impl_Session_ok_ok {R : Type} (d : E.impl_Session_ok_a.D) (k : AV → List (Option Blk) → List Blk → Option R) :
    funE cfg (table []) (ltable []) H.impl_Session_ok Try.f27 (E.impl_Session_ok_a.to d).1 (E.impl_Session_ok_a.to d).2 k =
      F.impl_Session_ok d.1.1.1 d.1.1.2.1 d.1.1.2.2.1 d.1.1.2.2.2.1 d.1.1.2.2.2.2.1 fun x0 => k (E.impl_Session_ok_r.to (x0, ((), ()))).1 (E.impl_Session_ok_r.to (x0, ((), ()))).2.1 (E.impl_Session_ok_r.to (x0, ((), ()))).2.2 := by kernel_rfl
theorem TK.impl_Session_ok {R : Type} : EntryOk Try.prog (T.impl_Session_ok (R := R)) :=
  entry_fun (h := H.impl_Session_ok) hC hm table_nil WF.f27 (fun d => ltable_nil) fun d k =>
    (congrArg (fun z => F.impl_Session_ok d.1.1.1 d.1.1.2.1 d.1.1.2.2.1 d.1.1.2.2.2.1 d.1.1.2.2.2.2.1 z) (funext fun x0 => (via_to E.impl_Session_ok_r k (x0, ((), ()))).symm)).trans (F.impl_Session_ok_ok d (fun v fin new => via E.impl_Session_ok_r k (v, fin, new))).symm

/-! ### loop.example/s0007/impl.Feed: function 17 -/
abbrev E.impl_Feed_a : Enc (List AV × List Blk) := Enc.both (Enc.vals [(Enc.agg (Enc.vals [(Enc.int .i64), Enc.str, Enc.bool, (Enc.int .i64), (Enc.int .i64)])), Enc.str]) (Enc.all [])
abbrev E.impl_Feed_r : Enc (AV × List (Option Blk) × List Blk) := Enc.both (Enc.tup (Enc.vals [(Enc.agg (Enc.vals [(Enc.int .i64), Enc.str, Enc.bool, (Enc.int .i64), (Enc.int .i64)])), (Enc.int .i64)])) (Enc.both (Enc.all []) (Enc.all []))
def T.impl_Feed {R : Type} : Entry R := { f := 17, arg := E.impl_Feed_a, res := E.impl_Feed_r, fn := fun d k => F.impl_Feed d.1.1.1 d.1.1.2.1 d.1.1.2.2.1 d.1.1.2.2.2.1 d.1.1.2.2.2.2.1 d.1.2.1 fun x0 x1 x2 x3 x4 x5 => k (((x0, (x1, (x2, (x3, (x4, ()))))), (x5, ())), ((), ())) }
def H.impl_Feed : Hint := []
theorem WF.f17 : FnWf Try.prog 17 Try.f17 := fnWf_of Try.func17 (by decide) (by kernel_rfl)
theorem F.impl_Feed_ok {R : Type} (d : E.impl_Feed_a.D) (k : AV → List (Option Blk) → List Blk → Option R) :
    funE cfg (table [T.impl_Session_ok]) (ltable []) H.impl_Feed Try.f17 (E.impl_Feed_a.to d).1 (E.impl_Feed_a.to d).2 k =
      F.impl_Feed d.1.1.1 d.1.1.2.1 d.1.1.2.2.1 d.1.1.2.2.2.1 d.1.1.2.2.2.2.1 d.1.2.1 fun x0 x1 x2 x3 x4 x5 => k (E.impl_Feed_r.to (((x0, (x1, (x2, (x3, (x4, ()))))), (x5, ())), ((), ()))).1 (E.impl_Feed_r.to (((x0, (x1, (x2, (x3, (x4, ()))))), (x5, ())), ((), ()))).2.1 (E.impl_Feed_r.to (((x0, (x1, (x2, (x3, (x4, ()))))), (x5, ())), ((), ()))).2.2 := by kernel_rfl
theorem TK.impl_Feed {R : Type} : EntryOk Try.prog (T.impl_Feed (R := R)) :=
  entry_fun (h := H.impl_Feed) hC hm (table_cons TK.impl_Session_ok table_nil) WF.f17 (fun d => ltable_nil) fun d k =>
    (congrArg (fun z => F.impl_Feed d.1.1.1 d.1.1.2.1 d.1.1.2.2.1 d.1.1.2.2.2.1 d.1.1.2.2.2.2.1 d.1.2.1 z) (funext fun x0 => funext fun x1 => funext fun x2 => funext fun x3 => funext fun x4 => funext fun x5 => (via_to E.impl_Feed_r k (((x0, (x1, (x2, (x3, (x4, ()))))), (x5, ())), ((), ()))).symm)).trans (F.impl_Feed_ok d (fun v fin new => via E.impl_Feed_r k (v, fin, new))).symm

/-! ### loop.example/s0007/laws.eqSession: function 11 -/
abbrev E.laws_eqSession_a : Enc (List AV × List Blk) := Enc.both (Enc.vals [(Enc.agg (Enc.vals [(Enc.int .i64), Enc.str, Enc.bool, (Enc.int .i64), (Enc.int .i64)])), (Enc.agg (Enc.vals [(Enc.int .i64), Enc.str, Enc.bool, (Enc.int .i64), (Enc.int .i64)]))]) (Enc.all [])
abbrev E.laws_eqSession_r : Enc (AV × List (Option Blk) × List Blk) := Enc.both Enc.bool (Enc.both (Enc.all []) (Enc.all []))
def T.laws_eqSession {R : Type} : Entry R := { f := 11, arg := E.laws_eqSession_a, res := E.laws_eqSession_r, fn := fun d k => F.laws_eqSession d.1.1.1 d.1.1.2.1 d.1.1.2.2.1 d.1.1.2.2.2.1 d.1.1.2.2.2.2.1 d.1.2.1.1 d.1.2.1.2.1 d.1.2.1.2.2.1 d.1.2.1.2.2.2.1 d.1.2.1.2.2.2.2.1 fun x0 => k (x0, ((), ())) }
def H.laws_eqSession : Hint := []
theorem WF.f11 : FnWf Try.prog 11 Try.f11 := fnWf_of Try.func11 (by decide) (by kernel_rfl)
theorem F.laws_eqSession_ok {R : Type} (d : E.laws_eqSession_a.D) (k : AV → List (Option Blk) → List Blk → Option R) :
    funE cfg (table []) (ltable []) H.laws_eqSession Try.f11 (E.laws_eqSession_a.to d).1 (E.laws_eqSession_a.to d).2 k =
      F.laws_eqSession d.1.1.1 d.1.1.2.1 d.1.1.2.2.1 d.1.1.2.2.2.1 d.1.1.2.2.2.2.1 d.1.2.1.1 d.1.2.1.2.1 d.1.2.1.2.2.1 d.1.2.1.2.2.2.1 d.1.2.1.2.2.2.2.1 fun x0 => k (E.laws_eqSession_r.to (x0, ((), ()))).1 (E.laws_eqSession_r.to (x0, ((), ()))).2.1 (E.laws_eqSession_r.to (x0, ((), ()))).2.2 := by kernel_rfl
theorem TK.laws_eqSession {R : Type} : EntryOk Try.prog (T.laws_eqSession (R := R)) :=
  entry_fun (h := H.laws_eqSession) hC hm table_nil WF.f11 (fun d => ltable_nil) fun d k =>
    (congrArg (fun z => F.laws_eqSession d.1.1.1 d.1.1.2.1 d.1.1.2.2.1 d.1.1.2.2.2.1 d.1.1.2.2.2.2.1 d.1.2.1.1 d.1.2.1.2.1 d.1.2.1.2.2.1 d.1.2.1.2.2.2.1 d.1.2.1.2.2.2.2.1 z) (funext fun x0 => (via_to E.laws_eqSession_r k (x0, ((), ()))).symm)).trans (F.laws_eqSession_ok d (fun v fin new => via E.laws_eqSession_r k (v, fin, new))).symm

/-! ### loop.example/s0007/laws.FnExactFeed: function 6 -/
abbrev E.laws_FnExactFeed_a : Enc (List AV × List Blk) := Enc.both (Enc.vals [(Enc.agg (Enc.vals [(Enc.int .i64), Enc.str, Enc.bool, (Enc.int .i64), (Enc.int .i64)])), Enc.str]) (Enc.all [])
abbrev E.laws_FnExactFeed_r : Enc (AV × List (Option Blk) × List Blk) := Enc.both Enc.bool (Enc.both (Enc.all []) (Enc.all []))
def T.laws_FnExactFeed {R : Type} : Entry R := { f := 6, arg := E.laws_FnExactFeed_a, res := E.laws_FnExactFeed_r, fn := fun d k => F.laws_FnExactFeed d.1.1.1 d.1.1.2.1 d.1.1.2.2.1 d.1.1.2.2.2.1 d.1.1.2.2.2.2.1 d.1.2.1 fun x0 => k (x0, ((), ())) }
def H.laws_FnExactFeed : Hint := []
theorem WF.f6 : FnWf Try.prog 6 Try.f6 := fnWf_of Try.func6 (by decide) (by kernel_rfl)
theorem F.laws_FnExactFeed_ok {R : Type} (d : E.laws_FnExactFeed_a.D) (k : AV → List (Option Blk) → List Blk → Option R) :
    funE cfg (table [T.laws_szSession, T.laws_toSession, T.spec_Feed, T.impl_Feed, T.laws_eqSession]) (ltable []) H.laws_FnExactFeed Try.f6 (E.laws_FnExactFeed_a.to d).1 (E.laws_FnExactFeed_a.to d).2 k =
      F.laws_FnExactFeed d.1.1.1 d.1.1.2.1 d.1.1.2.2.1 d.1.1.2.2.2.1 d.1.1.2.2.2.2.1 d.1.2.1 fun x0 => k (E.laws_FnExactFeed_r.to (x0, ((), ()))).1 (E.laws_FnExactFeed_r.to (x0, ((), ()))).2.1 (E.laws_FnExactFeed_r.to (x0, ((), ()))).2.2 := by kernel_rfl
theorem TK.laws_FnExactFeed {R : Type} : EntryOk Try.prog (T.laws_FnExactFeed (R := R)) :=
  entry_fun (h := H.laws_FnExactFeed) hC hm (table_cons TK.laws_szSession (table_cons TK.laws_toSession (table_cons TK.spec_Feed (table_cons TK.impl_Feed (table_cons TK.laws_eqSession table_nil))))) WF.f6 (fun d => ltable_nil) fun d k =>
    (congrArg (fun z => F.laws_FnExactFeed d.1.1.1 d.1.1.2.1 d.1.1.2.2.1 d.1.1.2.2.2.1 d.1.1.2.2.2.2.1 d.1.2.1 z) (funext fun x0 => (via_to E.laws_FnExactFeed_r k (x0, ((), ()))).symm)).trans (F.laws_FnExactFeed_ok d (fun v fin new => via E.laws_FnExactFeed_r k (v, fin, new))).symm
end Go.Proofs.Ytioegjpinjigkaa.fnExactFeed
