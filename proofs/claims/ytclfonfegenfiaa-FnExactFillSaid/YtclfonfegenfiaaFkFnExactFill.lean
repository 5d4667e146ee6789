/- These plain functions are what the Go functions answer. -/
import Derived.Test.YtclfonfegenfiaaEe
import Derived.Test.YtclfonfegenfiaaFdFnExactFill
import Derived.Test.YtclfonfegenfiaaChecked
import Derived.KernelRfl
import Derived.Eval
set_option maxRecDepth 100000
set_option maxHeartbeats 4000000
set_option linter.unusedVariables false
set_option linter.unusedSimpArgs false
namespace Go.Proofs.Ytclfonfegenfiaa.fnExactFill
open Go.Ev
variable {R : Type}
def cfg : Cfg := { ty := [
  (3, { sz := 1, cls := 0, offs := [], elem := 0, alen := 0, bytes := 8, zero := [.int .i64 0], ki := some (.int .i64) }),
  (5, { sz := 1, cls := 0, offs := [], elem := 0, alen := 0, bytes := 1, zero := [.int .u8 0], ki := some (.int .u8) }),
  (9, { sz := 1, cls := 0, offs := [], elem := 0, alen := 0, bytes := 16, zero := [.str []], ki := some .str }),
  (22, { sz := 1, cls := 0, offs := [], elem := 51, alen := 0, bytes := 24, zero := [.nz (.pair (.int .i64) (.int .i64))], ki := some (.lst (.pair (.int .i64) (.int .i64))) }),
  (25, { sz := 1, cls := 0, offs := [], elem := 49, alen := 0, bytes := 24, zero := [.nz (.pair (.int .i64) (.int .i64))], ki := some (.lst (.pair (.int .i64) (.int .i64))) }),
  (49, { sz := 2, cls := 1, offs := [0, 1], elem := 0, alen := 0, bytes := 16, zero := [.int .i64 0, .int .i64 0], ki := some (.pair (.int .i64) (.int .i64)) }),
  (51, { sz := 2, cls := 1, offs := [0, 1], elem := 0, alen := 0, bytes := 16, zero := [.int .i64 0, .int .i64 0], ki := some (.pair (.int .i64) (.int .i64)) }),
  (55, { sz := 2, cls := 1, offs := [0, 1], elem := 0, alen := 0, bytes := 32, zero := [.nilp, .nz (.int .u8)], ki := none })], wr := [(26, [0]), (27, [0]), (28, [0])], bl := [(55, 5)] }
theorem hC : cfgOk Try.prog cfg = true := by kernel_rfl
theorem hm : Try.prog.follows .mixedOrders = true := Checked.mixed Try.checked

def BR : Go.Shelf.Ren := ⟨fun | 166 => 26 | 167 => 27 | 169 => 28 | 240 => 51 | 276 => 66 | n => n, fun | 0 => 0 | 3 => 3 | 4 => 4 | 5 => 5 | 9 => 9 | 20 => 20 | 37 => 53 | 70 => 52 | 72 => 55 | 75 => 57 | 80 => 61 | 127 => 93 | 164 => 103 | n => n, fun n => n⟩
theorem BL166 : Go.Proofs.Lays.n166 Try.prog BR := {
  mixed := hm
  f166 := Try.func26.trans (congrArg some (by kernel_rfl))
  f240 := Try.func51.trans (congrArg some (by kernel_rfl))
  f276 := Try.func66.trans (congrArg some (by kernel_rfl))
  t0 := Go.Proofs.Try.underlying0
  a0 := Go.Proofs.Try.isAgg0
  z0 := Go.Proofs.Try.sizeOf0
  v0 := Go.Proofs.Try.zeroValue0
  t3 := Go.Proofs.Try.underlying3
  a3 := Go.Proofs.Try.isAgg3
  z3 := Go.Proofs.Try.sizeOf3
  v3 := Go.Proofs.Try.zeroValue3
  t4 := Go.Proofs.Try.underlying4
  a4 := Go.Proofs.Try.isAgg4
  z4 := Go.Proofs.Try.sizeOf4
  v4 := Go.Proofs.Try.zeroValue4
  t9 := Go.Proofs.Try.underlying9
  a9 := Go.Proofs.Try.isAgg9
  z9 := Go.Proofs.Try.sizeOf9
  v9 := Go.Proofs.Try.zeroValue9
  t20 := Go.Proofs.Try.underlying20
  a20 := Go.Proofs.Try.isAgg20
  z20 := Go.Proofs.Try.sizeOf20
  v20 := Go.Proofs.Try.zeroValue20
  t37 := Go.Proofs.Try.underlying53
  a37 := Go.Proofs.Try.isAgg53
  z37 := Go.Proofs.Try.sizeOf53
  v37 := Go.Proofs.Try.zeroValue53
  t70 := Go.Proofs.Try.underlying52
  a70 := Go.Proofs.Try.isAgg52
  z70 := Go.Proofs.Try.sizeOf52
  v70 := Go.Proofs.Try.zeroValue52
  t72 := Go.Proofs.Try.underlying55
  a72 := Go.Proofs.Try.isAgg55
  z72 := Go.Proofs.Try.sizeOf55
  v72 := Go.Proofs.Try.zeroValue55
  t75 := Go.Proofs.Try.underlying57
  a75 := Go.Proofs.Try.isAgg57
  z75 := Go.Proofs.Try.sizeOf57
  v75 := Go.Proofs.Try.zeroValue57
  t164 := Go.Proofs.Try.underlying103
  a164 := Go.Proofs.Try.isAgg103
  z164 := Go.Proofs.Try.sizeOf103
  v164 := Go.Proofs.Try.zeroValue103 }
theorem BL167 : Go.Proofs.Lays.n167 Try.prog BR := {
  mixed := hm
  f167 := Try.func27.trans (congrArg some (by kernel_rfl))
  f240 := Try.func51.trans (congrArg some (by kernel_rfl))
  f276 := Try.func66.trans (congrArg some (by kernel_rfl))
  t0 := Go.Proofs.Try.underlying0
  a0 := Go.Proofs.Try.isAgg0
  z0 := Go.Proofs.Try.sizeOf0
  v0 := Go.Proofs.Try.zeroValue0
  t4 := Go.Proofs.Try.underlying4
  a4 := Go.Proofs.Try.isAgg4
  z4 := Go.Proofs.Try.sizeOf4
  v4 := Go.Proofs.Try.zeroValue4
  t5 := Go.Proofs.Try.underlying5
  a5 := Go.Proofs.Try.isAgg5
  z5 := Go.Proofs.Try.sizeOf5
  v5 := Go.Proofs.Try.zeroValue5
  t9 := Go.Proofs.Try.underlying9
  a9 := Go.Proofs.Try.isAgg9
  z9 := Go.Proofs.Try.sizeOf9
  v9 := Go.Proofs.Try.zeroValue9
  t20 := Go.Proofs.Try.underlying20
  a20 := Go.Proofs.Try.isAgg20
  z20 := Go.Proofs.Try.sizeOf20
  v20 := Go.Proofs.Try.zeroValue20
  t37 := Go.Proofs.Try.underlying53
  a37 := Go.Proofs.Try.isAgg53
  z37 := Go.Proofs.Try.sizeOf53
  v37 := Go.Proofs.Try.zeroValue53
  t70 := Go.Proofs.Try.underlying52
  a70 := Go.Proofs.Try.isAgg52
  z70 := Go.Proofs.Try.sizeOf52
  v70 := Go.Proofs.Try.zeroValue52
  t72 := Go.Proofs.Try.underlying55
  a72 := Go.Proofs.Try.isAgg55
  z72 := Go.Proofs.Try.sizeOf55
  v72 := Go.Proofs.Try.zeroValue55
  t75 := Go.Proofs.Try.underlying57
  a75 := Go.Proofs.Try.isAgg57
  z75 := Go.Proofs.Try.sizeOf57
  v75 := Go.Proofs.Try.zeroValue57
  t164 := Go.Proofs.Try.underlying103
  a164 := Go.Proofs.Try.isAgg103
  z164 := Go.Proofs.Try.sizeOf103
  v164 := Go.Proofs.Try.zeroValue103 }
theorem BL169 : Go.Proofs.Lays.n169 Try.prog BR := {
  mixed := hm
  f169 := Try.func28.trans (congrArg some (by kernel_rfl))
  t0 := Go.Proofs.Try.underlying0
  a0 := Go.Proofs.Try.isAgg0
  z0 := Go.Proofs.Try.sizeOf0
  v0 := Go.Proofs.Try.zeroValue0
  t3 := Go.Proofs.Try.underlying3
  a3 := Go.Proofs.Try.isAgg3
  z3 := Go.Proofs.Try.sizeOf3
  v3 := Go.Proofs.Try.zeroValue3
  t9 := Go.Proofs.Try.underlying9
  a9 := Go.Proofs.Try.isAgg9
  z9 := Go.Proofs.Try.sizeOf9
  v9 := Go.Proofs.Try.zeroValue9
  t37 := Go.Proofs.Try.underlying53
  a37 := Go.Proofs.Try.isAgg53
  z37 := Go.Proofs.Try.sizeOf53
  v37 := Go.Proofs.Try.zeroValue53
  t70 := Go.Proofs.Try.underlying52
  a70 := Go.Proofs.Try.isAgg52
  z70 := Go.Proofs.Try.sizeOf52
  v70 := Go.Proofs.Try.zeroValue52
  t72 := Go.Proofs.Try.underlying55
  a72 := Go.Proofs.Try.isAgg55
  z72 := Go.Proofs.Try.sizeOf55
  v72 := Go.Proofs.Try.zeroValue55
  t127 := Go.Proofs.Try.underlying93
  a127 := Go.Proofs.Try.isAgg93
  z127 := Go.Proofs.Try.sizeOf93
  v127 := Go.Proofs.Try.zeroValue93 }
theorem BX : Go.Proofs.Builder.Extra Try.prog BR := {
  sizeBuilder := by kernel_rfl
  liesBuilder := by kernel_rfl
  t5 := Go.Proofs.Try.underlying5
  a5 := Go.Proofs.Try.isAgg5
  z5 := Go.Proofs.Try.sizeOf5
  v5 := Go.Proofs.Try.zeroValue5
  infoByte := by kernel_rfl
  cellsByte := by kernel_rfl
  sizeByte := by kernel_rfl
  neB5 := by decide }

/-! ### loop.example/s0007/laws.szPairS: function 6 -/
abbrev E.laws_szPairS_a : Enc (List AV × List Blk) := Enc.both (Enc.vals [(Enc.ro 1 (.pair (.int .i64) (.int .i64))), (Enc.int .i64)]) (Enc.all [])
abbrev E.laws_szPairS_r : Enc (AV × List (Option Blk) × List Blk) := Enc.both (Enc.int .i64) (Enc.both (Enc.all []) (Enc.all []))
def T.laws_szPairS : Entry R := { f := 6, arg := E.laws_szPairS_a, res := E.laws_szPairS_r, fn := fun d k => F.laws_szPairS d.1.1 d.1.2.1 fun x0 => k (x0, ((), ())) }
def H.laws_szPairS : Hint := { lp := [] }
theorem WF.f6 : FnWf Try.prog 6 Try.f6 := fnWf_of Try.func6 (by decide) (by kernel_rfl)
theorem F.laws_szPairS_ok (d : E.laws_szPairS_a.D) (k : AV → List (Option Blk) → List Blk → Option R) :
    funE cfg (table []) (ltable []) H.laws_szPairS Try.f6 (E.laws_szPairS_a.to d).1 (E.laws_szPairS_a.to d).2 k = (T.laws_szPairS).fn d fun x => k (E.laws_szPairS_r.to x).1 (E.laws_szPairS_r.to x).2.1 (E.laws_szPairS_r.to x).2.2 := by kernel_rfl
theorem TK.laws_szPairS : EntryOk Try.prog (T.laws_szPairS (R := R)) :=
  entry_of (h := H.laws_szPairS) hC hm table_nil WF.f6 (fun d => ltable_nil) (F.laws_szPairS_ok)

/-! ### loop.example/s0007/laws.toPair: function 25 -/
abbrev E.laws_toPair_a : Enc (List AV × List Blk) := Enc.both (Enc.vals [(Enc.agg (Enc.vals [(Enc.int .i64), (Enc.int .i64)]))]) (Enc.all [])
abbrev E.laws_toPair_r : Enc (AV × List (Option Blk) × List Blk) := Enc.both (Enc.agg (Enc.vals [(Enc.int .i64), (Enc.int .i64)])) (Enc.both (Enc.all []) (Enc.all []))
def T.laws_toPair : Entry R := { f := 25, arg := E.laws_toPair_a, res := E.laws_toPair_r, fn := fun d k => F.laws_toPair d.1.1.1 d.1.1.2.1 fun x0 x1 => k ((x0, (x1, ())), ((), ())) }
def H.laws_toPair : Hint := { lp := [] }
theorem WF.f25 : FnWf Try.prog 25 Try.f25 := fnWf_of Try.func25 (by decide) (by kernel_rfl)
theorem F.laws_toPair_ok (d : E.laws_toPair_a.D) (k : AV → List (Option Blk) → List Blk → Option R) :
    funE cfg (table []) (ltable []) H.laws_toPair Try.f25 (E.laws_toPair_a.to d).1 (E.laws_toPair_a.to d).2 k = (T.laws_toPair).fn d fun x => k (E.laws_toPair_r.to x).1 (E.laws_toPair_r.to x).2.1 (E.laws_toPair_r.to x).2.2 := by kernel_rfl
theorem TK.laws_toPair : EntryOk Try.prog (T.laws_toPair (R := R)) :=
  entry_of (h := H.laws_toPair) hC hm table_nil WF.f25 (fun d => ltable_nil) (F.laws_toPair_ok)

/-! ### loop.example/s0007/laws.toPairS: function 8 -/
abbrev E.laws_toPairS_l0_i : Enc St := Enc.st 1 (Enc.all [(Enc.key 0 (Enc.ro 1 (.pair (.int .i64) (.int .i64)))), (Enc.key 3 (Enc.sl 0)), (Enc.key 4 (Enc.int .i64))]) (Enc.all [(Enc.key 0 (Enc.cell (Enc.vals [(Enc.rw (.pair (.int .i64) (.int .i64)))])))])
abbrev E.laws_toPairS_l0_oe0 : Enc St := Enc.st 1 (Enc.all [(Enc.key 3 (Enc.sl 0))]) (Enc.all [(Enc.key 0 (Enc.cell (Enc.vals [(Enc.rw (.pair (.int .i64) (.int .i64)))])))])
abbrev E.laws_toPairS_a : Enc (List AV × List Blk) := Enc.both (Enc.vals [(Enc.ro 1 (.pair (.int .i64) (.int .i64)))]) (Enc.all [])
abbrev E.laws_toPairS_r : Enc (AV × List (Option Blk) × List Blk) := Enc.both (Enc.sl 0) (Enc.both (Enc.all []) (Enc.all [(Enc.cell (Enc.vals [(Enc.rw (.pair (.int .i64) (.int .i64)))]))]))
def T.laws_toPairS (N : Nat) : Entry R := { f := 8, arg := E.laws_toPairS_a, res := E.laws_toPairS_r, fn := fun d k => F.laws_toPairS N d.1.1 fun x0 => k ((), ((), ((x0, ()), ()))) }
def H.laws_toPairS : Hint := { lp := [(0, [0, 3, 4], [3])] }
theorem WF.f8 : FnWf Try.prog 8 Try.f8 := fnWf_of Try.func8 (by decide) (by kernel_rfl)
def G.laws_toPairS_l0 (N : Nat) (n : Nat) (d : E.laws_toPairS_l0_i.D) (k : Ex → St → Option R) : Option R := F.laws_toPairS_l0 N n d.1.1 d.1.2.2.1 d.2.1.1 (fun y0 => k (.exit 0) (E.laws_toPairS_l0_oe0.to (((), ()), ((y0, ()), ()))))
def TL.laws_toPairS_l0 (N : Nat) : LEntry R := { b := 0, st := E.laws_toPairS_l0_i, fn := fun d k => G.laws_toPairS_l0 N N d k }
def Q.laws_toPairS_l0 (N : Nat) (d : E.laws_toPairS_l0_i.D) (k : Ex → St → Option R) (next : E.laws_toPairS_l0_i.D → Option R) : Option R := F.laws_toPairS_l0_s N d.1.1 d.1.2.2.1 d.2.1.1 (fun x0 x1 x2 => next ((x0, ((), (x1, ()))), ((x2, ()), ()))) (fun y0 => k (.exit 0) (E.laws_toPairS_l0_oe0.to (((), ()), ((y0, ()), ()))))
theorem F.laws_toPairS_l0_ok (N : Nat) (d : E.laws_toPairS_l0_i.D) (next : St → Option R) (k : Ex → St → Option R) :
    stepE cfg (table [T.laws_toPair]) (ltable []) 0 H.laws_toPairS 0 (bodyOf Try.f8 0) [0, 3, 4] [3] (E.laws_toPairS_l0_i.to d) next k = Q.laws_toPairS_l0 N d k fun x => next (E.laws_toPairS_l0_i.to x) := by kernel_rfl
theorem LK.laws_toPairS_l0 (N : Nat) : LEntryOk Try.prog 0 Try.f8.ntmps (bodyOf Try.f8) (TL.laws_toPairS_l0 (R := R) N) :=
  lentry_of (i := [0, 3, 4]) (o := [3]) (h := H.laws_toPairS) hC hm (table_cons TK.laws_toPair table_nil) WF.f8 ltable_nil (by kernel_rfl) (fun d => uniq_of rfl) (G.laws_toPairS_l0 N) N (Q.laws_toPairS_l0 N) (fun _ _ => rfl) (fun _ _ => rfl) (fun _ _ _ => rfl) (F.laws_toPairS_l0_ok N)
theorem F.laws_toPairS_ok (N : Nat) (d : E.laws_toPairS_a.D) (k : AV → List (Option Blk) → List Blk → Option R) :
    funE cfg (table []) (ltable [TL.laws_toPairS_l0 N]) H.laws_toPairS Try.f8 (E.laws_toPairS_a.to d).1 (E.laws_toPairS_a.to d).2 k = (T.laws_toPairS N).fn d fun x => k (E.laws_toPairS_r.to x).1 (E.laws_toPairS_r.to x).2.1 (E.laws_toPairS_r.to x).2.2 := by kernel_rfl
theorem TK.laws_toPairS (N : Nat) : EntryOk Try.prog (T.laws_toPairS (R := R) N) :=
  entry_of (h := H.laws_toPairS) hC hm table_nil WF.f8 (fun d => (ltable_cons (LK.laws_toPairS_l0 N) ltable_nil)) (F.laws_toPairS_ok N)

/-! ### loop.example/s0007/spec.l1At: function 23 -/
abbrev E.spec_l1At_a : Enc (List AV × List Blk) := Enc.both (Enc.vals [Enc.str, (Enc.int .i64)]) (Enc.all [])
abbrev E.spec_l1At_r : Enc (AV × List (Option Blk) × List Blk) := Enc.both (Enc.int .i64) (Enc.both (Enc.all []) (Enc.all []))
def T.spec_l1At : Entry R := { f := 23, arg := E.spec_l1At_a, res := E.spec_l1At_r, fn := fun d k => F.spec_l1At d.1.1 d.1.2.1 fun x0 => k (x0, ((), ())) }
def H.spec_l1At : Hint := { lp := [] }
theorem WF.f23 : FnWf Try.prog 23 Try.f23 := fnWf_of Try.func23 (by decide) (by kernel_rfl)
theorem F.spec_l1At_ok (d : E.spec_l1At_a.D) (k : AV → List (Option Blk) → List Blk → Option R) :
    funE cfg (table []) (ltable []) H.spec_l1At Try.f23 (E.spec_l1At_a.to d).1 (E.spec_l1At_a.to d).2 k = (T.spec_l1At).fn d fun x => k (E.spec_l1At_r.to x).1 (E.spec_l1At_r.to x).2.1 (E.spec_l1At_r.to x).2.2 := by kernel_rfl
theorem TK.spec_l1At : EntryOk Try.prog (T.spec_l1At (R := R)) :=
  entry_of (h := H.spec_l1At) hC hm table_nil WF.f23 (fun d => ltable_nil) (F.spec_l1At_ok)

/-! ### loop.example/s0007/spec.l1Between: function 24 -/
abbrev E.spec_l1Between_a : Enc (List AV × List Blk) := Enc.both (Enc.vals [(Enc.int .i64), (Enc.int .i64), (Enc.int .i64)]) (Enc.all [])
abbrev E.spec_l1Between_r : Enc (AV × List (Option Blk) × List Blk) := Enc.both Enc.bool (Enc.both (Enc.all []) (Enc.all []))
def T.spec_l1Between : Entry R := { f := 24, arg := E.spec_l1Between_a, res := E.spec_l1Between_r, fn := fun d k => F.spec_l1Between d.1.1 d.1.2.1 d.1.2.2.1 fun x0 => k (x0, ((), ())) }
def H.spec_l1Between : Hint := { lp := [] }
theorem WF.f24 : FnWf Try.prog 24 Try.f24 := fnWf_of Try.func24 (by decide) (by kernel_rfl)
theorem F.spec_l1Between_ok (d : E.spec_l1Between_a.D) (k : AV → List (Option Blk) → List Blk → Option R) :
    funE cfg (table []) (ltable []) H.spec_l1Between Try.f24 (E.spec_l1Between_a.to d).1 (E.spec_l1Between_a.to d).2 k = (T.spec_l1Between).fn d fun x => k (E.spec_l1Between_r.to x).1 (E.spec_l1Between_r.to x).2.1 (E.spec_l1Between_r.to x).2.2 := by kernel_rfl
theorem TK.spec_l1Between : EntryOk Try.prog (T.spec_l1Between (R := R)) :=
  entry_of (h := H.spec_l1Between) hC hm table_nil WF.f24 (fun d => ltable_nil) (F.spec_l1Between_ok)

/-! ### loop.example/s0007/spec.Fill: function 7 -/
abbrev E.spec_Fill_l0_i : Enc St := Enc.st 0 (Enc.all [(Enc.key 0 Enc.str), (Enc.key 1 Enc.str), (Enc.key 2 (Enc.ro 0 (.pair (.int .i64) (.int .i64)))), (Enc.key 7 Enc.str), (Enc.key 8 (Enc.int .i64))]) (Enc.all [])
abbrev E.spec_Fill_l0_oe0 : Enc St := Enc.st 0 (Enc.all [(Enc.key 7 Enc.str)]) (Enc.all [])
abbrev E.spec_Fill_a : Enc (List AV × List Blk) := Enc.both (Enc.vals [Enc.str, Enc.str, (Enc.ro 0 (.pair (.int .i64) (.int .i64)))]) (Enc.all [])
abbrev E.spec_Fill_r : Enc (AV × List (Option Blk) × List Blk) := Enc.both Enc.str (Enc.both (Enc.all []) (Enc.all []))
def T.spec_Fill (N : Nat) : Entry R := { f := 7, arg := E.spec_Fill_a, res := E.spec_Fill_r, fn := fun d k => F.spec_Fill N d.1.1 d.1.2.1 d.1.2.2.1 fun x0 => k (x0, ((), ())) }
def H.spec_Fill : Hint := { lp := [(0, [0, 1, 2, 7, 8], [7])] }
theorem WF.f7 : FnWf Try.prog 7 Try.f7 := fnWf_of Try.func7 (by decide) (by kernel_rfl)
def G.spec_Fill_l0 (N : Nat) (n : Nat) (d : E.spec_Fill_l0_i.D) (k : Ex → St → Option R) : Option R := F.spec_Fill_l0 N n d.1.1 d.1.2.1 d.1.2.2.1 d.1.2.2.2.1 d.1.2.2.2.2.1 (fun y0 => k (.exit 0) (E.spec_Fill_l0_oe0.to ((y0, ()), ())))
def TL.spec_Fill_l0 (N : Nat) : LEntry R := { b := 0, st := E.spec_Fill_l0_i, fn := fun d k => G.spec_Fill_l0 N N d k }
def Q.spec_Fill_l0 (N : Nat) (d : E.spec_Fill_l0_i.D) (k : Ex → St → Option R) (next : E.spec_Fill_l0_i.D → Option R) : Option R := F.spec_Fill_l0_s N d.1.1 d.1.2.1 d.1.2.2.1 d.1.2.2.2.1 d.1.2.2.2.2.1 (fun x0 x1 x2 x3 x4 => next ((x0, (x1, (x2, (x3, (x4, ()))))), ())) (fun y0 => k (.exit 0) (E.spec_Fill_l0_oe0.to ((y0, ()), ())))
theorem F.spec_Fill_l0_ok (N : Nat) (d : E.spec_Fill_l0_i.D) (next : St → Option R) (k : Ex → St → Option R) :
    stepE cfg (table [T.spec_l1At, T.spec_l1Between]) (ltable []) 0 H.spec_Fill 0 (bodyOf Try.f7 0) [0, 1, 2, 7, 8] [7] (E.spec_Fill_l0_i.to d) next k = Q.spec_Fill_l0 N d k fun x => next (E.spec_Fill_l0_i.to x) := by kernel_rfl
theorem LK.spec_Fill_l0 (N : Nat) : LEntryOk Try.prog 0 Try.f7.ntmps (bodyOf Try.f7) (TL.spec_Fill_l0 (R := R) N) :=
  lentry_of (i := [0, 1, 2, 7, 8]) (o := [7]) (h := H.spec_Fill) hC hm (table_cons TK.spec_l1At (table_cons TK.spec_l1Between table_nil)) WF.f7 ltable_nil (by kernel_rfl) (fun d => uniq_of rfl) (G.spec_Fill_l0 N) N (Q.spec_Fill_l0 N) (fun _ _ => rfl) (fun _ _ => rfl) (fun _ _ _ => rfl) (F.spec_Fill_l0_ok N)
theorem F.spec_Fill_ok (N : Nat) (d : E.spec_Fill_a.D) (k : AV → List (Option Blk) → List Blk → Option R) :
    funE cfg (table []) (ltable [TL.spec_Fill_l0 N]) H.spec_Fill Try.f7 (E.spec_Fill_a.to d).1 (E.spec_Fill_a.to d).2 k = (T.spec_Fill N).fn d fun x => k (E.spec_Fill_r.to x).1 (E.spec_Fill_r.to x).2.1 (E.spec_Fill_r.to x).2.2 := by kernel_rfl
theorem TK.spec_Fill (N : Nat) : EntryOk Try.prog (T.spec_Fill (R := R) N) :=
  entry_of (h := H.spec_Fill) hC hm table_nil WF.f7 (fun d => (ltable_cons (LK.spec_Fill_l0 N) ltable_nil)) (F.spec_Fill_ok N)

/-! ### (*strings.Builder).WriteByte: function 27 -/
abbrev E.strings_Builder_WriteByte_a : Enc (List AV × List Blk) := Enc.both (Enc.vals [(Enc.pb 0 0), (Enc.int .u8)]) (Enc.all [(Enc.bld 55 5)])
abbrev E.strings_Builder_WriteByte_r : Enc (AV × List (Option Blk) × List Blk) := Enc.both Enc.nili (Enc.both (Enc.all [(Enc.some_ (Enc.bld 55 5))]) (Enc.all []))
def T.strings_Builder_WriteByte : Entry R := { f := 27, arg := E.strings_Builder_WriteByte_a, res := E.strings_Builder_WriteByte_r, fn := fun d k => F.strings_Builder_WriteByte d.1.2.1 d.2.1 fun x0 => k ((), ((x0, ()), ())) }
theorem TK.strings_Builder_WriteByte : EntryOk Try.prog (T.strings_Builder_WriteByte (R := R)) := fun d k r h => by
  obtain ⟨h1, h2⟩ := chk_some h
  exact ⟨_, h2, bldByte_ok BL167 BX h1⟩

/-! ### (*strings.Builder).WriteString: function 26 -/
abbrev E.strings_Builder_WriteString_a : Enc (List AV × List Blk) := Enc.both (Enc.vals [(Enc.pb 0 0), Enc.str]) (Enc.all [(Enc.bld 55 5)])
abbrev E.strings_Builder_WriteString_r : Enc (AV × List (Option Blk) × List Blk) := Enc.both (Enc.tup (Enc.vals [(Enc.int .i64), Enc.nili])) (Enc.both (Enc.all [(Enc.some_ (Enc.bld 55 5))]) (Enc.all []))
def T.strings_Builder_WriteString : Entry R := { f := 26, arg := E.strings_Builder_WriteString_a, res := E.strings_Builder_WriteString_r, fn := fun d k => F.strings_Builder_WriteString d.1.2.1 d.2.1 fun x0 x1 => k ((x0, ((), ())), ((x1, ()), ())) }
theorem TK.strings_Builder_WriteString : EntryOk Try.prog (T.strings_Builder_WriteString (R := R)) := fun d k r h => by
  obtain ⟨h1, h2⟩ := chk_some h
  exact ⟨_, h2, bldStr_ok BL166 BX h1⟩

/-! ### (*strings.Builder).String: function 28 -/
abbrev E.strings_Builder_String_a : Enc (List AV × List Blk) := Enc.both (Enc.vals [(Enc.pb 0 0)]) (Enc.all [(Enc.bld 55 5)])
abbrev E.strings_Builder_String_r : Enc (AV × List (Option Blk) × List Blk) := Enc.both Enc.str (Enc.both (Enc.all [(Enc.none_ Blk)]) (Enc.all []))
def T.strings_Builder_String : Entry R := { f := 28, arg := E.strings_Builder_String_a, res := E.strings_Builder_String_r, fn := fun d k => F.strings_Builder_String d.2.1 fun x0 => k (x0, (((), ()), ())) }
theorem TK.strings_Builder_String : EntryOk Try.prog (T.strings_Builder_String (R := R)) := fun d k r h => ⟨_, h, bldEnd_ok BL169 BX⟩

/-! ### loop.example/s0007/impl.Fill: function 9 -/
abbrev E.impl_Fill_l0_i : Enc St := Enc.st 1 (Enc.all [(Enc.key 0 Enc.str), (Enc.key 1 Enc.str), (Enc.key 2 (Enc.ro 0 (.pair (.int .i64) (.int .i64)))), (Enc.key 7 (Enc.pb 0 0)), (Enc.key 8 (Enc.int .i64))]) (Enc.all [(Enc.key 0 (Enc.bld 55 5))])
abbrev E.impl_Fill_l0_oe0 : Enc St := Enc.st 1 (Enc.all [(Enc.key 7 (Enc.pb 0 0))]) (Enc.all [(Enc.key 0 (Enc.bld 55 5))])
abbrev E.impl_Fill_a : Enc (List AV × List Blk) := Enc.both (Enc.vals [Enc.str, Enc.str, (Enc.ro 0 (.pair (.int .i64) (.int .i64)))]) (Enc.all [])
abbrev E.impl_Fill_r : Enc (AV × List (Option Blk) × List Blk) := Enc.both Enc.str (Enc.both (Enc.all []) (Enc.all []))
def T.impl_Fill (N : Nat) : Entry R := { f := 9, arg := E.impl_Fill_a, res := E.impl_Fill_r, fn := fun d k => F.impl_Fill N d.1.1 d.1.2.1 d.1.2.2.1 fun x0 => k (x0, ((), ())) }
def H.impl_Fill : Hint := { lp := [(0, [0, 1, 2, 7, 8], [7])] }
theorem WF.f9 : FnWf Try.prog 9 Try.f9 := fnWf_of Try.func9 (by decide) (by kernel_rfl)
def G.impl_Fill_l0 (N : Nat) (n : Nat) (d : E.impl_Fill_l0_i.D) (k : Ex → St → Option R) : Option R := F.impl_Fill_l0 N n d.1.1 d.1.2.1 d.1.2.2.1 d.1.2.2.2.2.1 d.2.1 (fun y0 => k (.exit 0) (E.impl_Fill_l0_oe0.to (((), ()), (y0, ()))))
def TL.impl_Fill_l0 (N : Nat) : LEntry R := { b := 0, st := E.impl_Fill_l0_i, fn := fun d k => G.impl_Fill_l0 N N d k }
def Q.impl_Fill_l0 (N : Nat) (d : E.impl_Fill_l0_i.D) (k : Ex → St → Option R) (next : E.impl_Fill_l0_i.D → Option R) : Option R := F.impl_Fill_l0_s N d.1.1 d.1.2.1 d.1.2.2.1 d.1.2.2.2.2.1 d.2.1 (fun x0 x1 x2 x3 x4 => next ((x0, (x1, (x2, ((), (x3, ()))))), (x4, ()))) (fun y0 => k (.exit 0) (E.impl_Fill_l0_oe0.to (((), ()), (y0, ()))))
theorem F.impl_Fill_l0_ok (N : Nat) (d : E.impl_Fill_l0_i.D) (next : St → Option R) (k : Ex → St → Option R) :
    stepE cfg (table [T.strings_Builder_WriteByte, T.strings_Builder_WriteString]) (ltable []) 0 H.impl_Fill 0 (bodyOf Try.f9 0) [0, 1, 2, 7, 8] [7] (E.impl_Fill_l0_i.to d) next k = Q.impl_Fill_l0 N d k fun x => next (E.impl_Fill_l0_i.to x) := by kernel_rfl
theorem LK.impl_Fill_l0 (N : Nat) : LEntryOk Try.prog 0 Try.f9.ntmps (bodyOf Try.f9) (TL.impl_Fill_l0 (R := R) N) :=
  lentry_of (i := [0, 1, 2, 7, 8]) (o := [7]) (h := H.impl_Fill) hC hm (table_cons TK.strings_Builder_WriteByte (table_cons TK.strings_Builder_WriteString table_nil)) WF.f9 ltable_nil (by kernel_rfl) (fun d => uniq_of rfl) (G.impl_Fill_l0 N) N (Q.impl_Fill_l0 N) (fun _ _ => rfl) (fun _ _ => rfl) (fun _ _ _ => rfl) (F.impl_Fill_l0_ok N)
theorem F.impl_Fill_ok (N : Nat) (d : E.impl_Fill_a.D) (k : AV → List (Option Blk) → List Blk → Option R) :
    funE cfg (table [T.strings_Builder_String]) (ltable [TL.impl_Fill_l0 N]) H.impl_Fill Try.f9 (E.impl_Fill_a.to d).1 (E.impl_Fill_a.to d).2 k = (T.impl_Fill N).fn d fun x => k (E.impl_Fill_r.to x).1 (E.impl_Fill_r.to x).2.1 (E.impl_Fill_r.to x).2.2 := by kernel_rfl
theorem TK.impl_Fill (N : Nat) : EntryOk Try.prog (T.impl_Fill (R := R) N) :=
  entry_of (h := H.impl_Fill) hC hm (table_cons TK.strings_Builder_String table_nil) WF.f9 (fun d => (ltable_cons (LK.impl_Fill_l0 N) ltable_nil)) (F.impl_Fill_ok N)

/-! ### loop.example/s0007/laws.eqPair: function 29 -/
abbrev E.laws_eqPair_a : Enc (List AV × List Blk) := Enc.both (Enc.vals [(Enc.agg (Enc.vals [(Enc.int .i64), (Enc.int .i64)])), (Enc.agg (Enc.vals [(Enc.int .i64), (Enc.int .i64)]))]) (Enc.all [])
abbrev E.laws_eqPair_r : Enc (AV × List (Option Blk) × List Blk) := Enc.both Enc.bool (Enc.both (Enc.all []) (Enc.all []))
def T.laws_eqPair : Entry R := { f := 29, arg := E.laws_eqPair_a, res := E.laws_eqPair_r, fn := fun d k => F.laws_eqPair d.1.1.1 d.1.1.2.1 d.1.2.1.1 d.1.2.1.2.1 fun x0 => k (x0, ((), ())) }
def H.laws_eqPair : Hint := { lp := [] }
theorem WF.f29 : FnWf Try.prog 29 Try.f29 := fnWf_of Try.func29 (by decide) (by kernel_rfl)
theorem F.laws_eqPair_ok (d : E.laws_eqPair_a.D) (k : AV → List (Option Blk) → List Blk → Option R) :
    funE cfg (table []) (ltable []) H.laws_eqPair Try.f29 (E.laws_eqPair_a.to d).1 (E.laws_eqPair_a.to d).2 k = (T.laws_eqPair).fn d fun x => k (E.laws_eqPair_r.to x).1 (E.laws_eqPair_r.to x).2.1 (E.laws_eqPair_r.to x).2.2 := by kernel_rfl
theorem TK.laws_eqPair : EntryOk Try.prog (T.laws_eqPair (R := R)) :=
  entry_of (h := H.laws_eqPair) hC hm table_nil WF.f29 (fun d => ltable_nil) (F.laws_eqPair_ok)

/-! ### loop.example/s0007/laws.eqPairS: function 10 -/
abbrev E.laws_eqPairS_l0_i : Enc St := Enc.st 0 (Enc.all [(Enc.key 0 (Enc.ro 0 (.pair (.int .i64) (.int .i64)))), (Enc.key 1 (Enc.ro 0 (.pair (.int .i64) (.int .i64)))), (Enc.key 5 (Enc.int .i64))]) (Enc.all [])
abbrev E.laws_eqPairS_l0_oe0 : Enc St := Enc.st 0 (Enc.all [(Enc.key 4 Enc.un)]) (Enc.all [])
abbrev E.laws_eqPairS_l0_oret : Enc St := Enc.st 0 (Enc.all [(Enc.key 4 Enc.bool)]) (Enc.all [])
abbrev E.laws_eqPairS_a : Enc (List AV × List Blk) := Enc.both (Enc.vals [(Enc.ro 0 (.pair (.int .i64) (.int .i64))), (Enc.ro 0 (.pair (.int .i64) (.int .i64)))]) (Enc.all [])
abbrev E.laws_eqPairS_r : Enc (AV × List (Option Blk) × List Blk) := Enc.both Enc.bool (Enc.both (Enc.all []) (Enc.all []))
def T.laws_eqPairS (N : Nat) : Entry R := { f := 10, arg := E.laws_eqPairS_a, res := E.laws_eqPairS_r, fn := fun d k => F.laws_eqPairS N d.1.1 d.1.2.1 fun x0 => k (x0, ((), ())) }
def H.laws_eqPairS : Hint := { lp := [(0, [0, 1, 5], [4])] }
theorem WF.f10 : FnWf Try.prog 10 Try.f10 := fnWf_of Try.func10 (by decide) (by kernel_rfl)
def G.laws_eqPairS_l0 (N : Nat) (n : Nat) (d : E.laws_eqPairS_l0_i.D) (k : Ex → St → Option R) : Option R := F.laws_eqPairS_l0 N n d.1.1 d.1.2.1 d.1.2.2.1 (fun _ => k (.exit 0) (E.laws_eqPairS_l0_oe0.to (((), ()), ()))) (fun y0 => k .ret (E.laws_eqPairS_l0_oret.to ((y0, ()), ())))
def TL.laws_eqPairS_l0 (N : Nat) : LEntry R := { b := 0, st := E.laws_eqPairS_l0_i, fn := fun d k => G.laws_eqPairS_l0 N N d k }
def Q.laws_eqPairS_l0 (N : Nat) (d : E.laws_eqPairS_l0_i.D) (k : Ex → St → Option R) (next : E.laws_eqPairS_l0_i.D → Option R) : Option R := F.laws_eqPairS_l0_s N d.1.1 d.1.2.1 d.1.2.2.1 (fun x0 x1 x2 => next ((x0, (x1, (x2, ()))), ())) (fun _ => k (.exit 0) (E.laws_eqPairS_l0_oe0.to (((), ()), ()))) (fun y0 => k .ret (E.laws_eqPairS_l0_oret.to ((y0, ()), ())))
theorem F.laws_eqPairS_l0_ok (N : Nat) (d : E.laws_eqPairS_l0_i.D) (next : St → Option R) (k : Ex → St → Option R) :
    stepE cfg (table [T.laws_eqPair]) (ltable []) 0 H.laws_eqPairS 0 (bodyOf Try.f10 0) [0, 1, 5] [4] (E.laws_eqPairS_l0_i.to d) next k = Q.laws_eqPairS_l0 N d k fun x => next (E.laws_eqPairS_l0_i.to x) := by kernel_rfl
theorem LK.laws_eqPairS_l0 (N : Nat) : LEntryOk Try.prog 0 Try.f10.ntmps (bodyOf Try.f10) (TL.laws_eqPairS_l0 (R := R) N) :=
  lentry_of (i := [0, 1, 5]) (o := [4]) (h := H.laws_eqPairS) hC hm (table_cons TK.laws_eqPair table_nil) WF.f10 ltable_nil (by kernel_rfl) (fun d => uniq_of rfl) (G.laws_eqPairS_l0 N) N (Q.laws_eqPairS_l0 N) (fun _ _ => rfl) (fun _ _ => rfl) (fun _ _ _ => rfl) (F.laws_eqPairS_l0_ok N)
theorem F.laws_eqPairS_ok (N : Nat) (d : E.laws_eqPairS_a.D) (k : AV → List (Option Blk) → List Blk → Option R) :
    funE cfg (table []) (ltable [TL.laws_eqPairS_l0 N]) H.laws_eqPairS Try.f10 (E.laws_eqPairS_a.to d).1 (E.laws_eqPairS_a.to d).2 k = (T.laws_eqPairS N).fn d fun x => k (E.laws_eqPairS_r.to x).1 (E.laws_eqPairS_r.to x).2.1 (E.laws_eqPairS_r.to x).2.2 := by kernel_rfl
theorem TK.laws_eqPairS (N : Nat) : EntryOk Try.prog (T.laws_eqPairS (R := R) N) :=
  entry_of (h := H.laws_eqPairS) hC hm table_nil WF.f10 (fun d => (ltable_cons (LK.laws_eqPairS_l0 N) ltable_nil)) (F.laws_eqPairS_ok N)

/-! ### loop.example/s0007/laws.FnExactFill: function 3 -/
abbrev E.laws_FnExactFill_a : Enc (List AV × List Blk) := Enc.both (Enc.vals [Enc.str, Enc.str, (Enc.ro 0 (.pair (.int .i64) (.int .i64)))]) (Enc.all [])
abbrev E.laws_FnExactFill_r : Enc (AV × List (Option Blk) × List Blk) := Enc.both Enc.bool (Enc.both (Enc.all []) (Enc.all []))
def T.laws_FnExactFill (N : Nat) : Entry R := { f := 3, arg := E.laws_FnExactFill_a, res := E.laws_FnExactFill_r, fn := fun d k => F.laws_FnExactFill N d.1.1 d.1.2.1 d.1.2.2.1 fun x0 => k (x0, ((), ())) }
def H.laws_FnExactFill : Hint := { lp := [] }
theorem WF.f3 : FnWf Try.prog 3 Try.f3 := fnWf_of Try.func3 (by decide) (by kernel_rfl)
theorem F.laws_FnExactFill_ok (N : Nat) (d : E.laws_FnExactFill_a.D) (k : AV → List (Option Blk) → List Blk → Option R) :
    funE cfg (table [T.laws_szPairS, T.laws_toPairS N, T.spec_Fill N, T.impl_Fill N, T.laws_eqPairS N]) (ltable []) H.laws_FnExactFill Try.f3 (E.laws_FnExactFill_a.to d).1 (E.laws_FnExactFill_a.to d).2 k = (T.laws_FnExactFill N).fn d fun x => k (E.laws_FnExactFill_r.to x).1 (E.laws_FnExactFill_r.to x).2.1 (E.laws_FnExactFill_r.to x).2.2 := by kernel_rfl
theorem TK.laws_FnExactFill (N : Nat) : EntryOk Try.prog (T.laws_FnExactFill (R := R) N) :=
  entry_of (h := H.laws_FnExactFill) hC hm (table_cons TK.laws_szPairS (table_cons (TK.laws_toPairS N) (table_cons (TK.spec_Fill N) (table_cons (TK.impl_Fill N) (table_cons (TK.laws_eqPairS N) table_nil))))) WF.f3 (fun d => ltable_nil) (F.laws_FnExactFill_ok N)

end Go.Proofs.Ytclfonfegenfiaa.fnExactFill
