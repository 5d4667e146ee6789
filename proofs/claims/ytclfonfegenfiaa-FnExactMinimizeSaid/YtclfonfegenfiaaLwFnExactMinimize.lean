/- The law FnExactMinimize holds: the program's answer is the reference's for every argument; no condition. -/
import Derived.Test.YtclfonfegenfiaaRows
import Derived.Test.YtclfonfegenfiaaFkFnExactMinimize
import Derived.Test.YtclfonfegenfiaaPuFnExactMinimize
import Derived.WalkKit
import Derived.ProofKit
import Derived.OpenShut
import Derived.ShutString
import Derived.ChangeOld
import Derived.Below
import Derived.SizedLaws
import Derived.Carry
namespace Go.Proofs.Ytclfonfegenfiaa.fnExactMinimize
open Go.ChangeShapes Go.WideShapes Go.ChangeAt Go.RowKit Go.Ev
open Go.ChangeMaps (open_string shut_string)
set_option linter.unusedVariables false
theorem own : ownKnob Try.prog.godebug = none := by kernel_rfl
theorem laidOut : laidOutB Try.prog = true := by kernel_rfl
set_option maxRecDepth 100000 in
theorem lifted (os : Os) (started : os.Started) (H : Type) (enc : TypeId × Value → H) :
    ReturnsInHanded {} Try.checked os 5 .any (Rows.fnExactMinimizeSpec.pre6 enc Try.prog Try.f5 Rows.fnExactMinimizeRow.domain false) (Rows.fnExactMinimizeSpec.post enc Try.prog Try.f5 false true false false) := by
  refine returnsInHanded_of_change_sized (C := Try.checked) own started (by kernel_rfl) Try.func5
    (ChangeSpec.witness6 (enc := enc) (C := Try.checked) false ⟨#[], #[.agg #[.slice none 0 0, .int .i64 0, .slice none 0 0, .slice none 0 0, .slice none 0 0]], []⟩ 8 (by kernel_rfl) (by kernel_rfl) (by kernel_rfl) (by kernel_rfl)) ?_
  intro W base args ds gs before hval0 hW hcnd hsz0 _
  have hval : ∀ (j : Nat) t v, Try.f5.params[j]? = some t → args[j]? = some v → Value.okWide Try.prog W .any base t v := hval0
  have hW' := hW
  obtain ⟨p, q, hA0, hV, rfl, hfz, hnd⟩ := hW
  have hA : DataW.TrodAll enc Try.prog W 0 (fun _ => true) true Try.f5.params.toList args.toList ds p := hA0
  rw [Try.params5] at hA hval
  obtain ⟨v0, vs0, d0, ds0, p0, q0, hargs, rfl, rfl, h0, r0⟩ := trodAll_cons hA
  obtain ⟨rfl, rfl, rfl⟩ := trodAll_nil r0
  obtain rfl : args = #[v0] := by cases args; simp_all
  obtain ⟨rfl, rfl⟩ := trodVars_none hV
  have lt0 : ∀ x ∈ p0, x.block < W.heap.size := by obtain ⟨m, hm⟩ := h0; exact DataW.trod_lt m _ _ _ hm
  obtain ⟨a0, f0, y0⟩ := arg_struct (.pair (.lst (.int .i64)) (.pair (.int .i64) (.pair (.lst (.int .i64)) (.pair (.lst (.int .i64)) (.lst (.int .i64)))))) 16 Try.underlying38 (by kernel_rfl) rfl (hval 0 38 v0 rfl rfl) h0
  clear hA0 hval0 hsz0
  obtain ⟨N, hp⟩ := Pure.FnExactMinimize a0 f0
  refine (law_calls (TK.laws_FnExactMinimize (R := Bool) N) (((a0.1, (a0.2.1, (a0.2.2.1, (a0.2.2.2.1, (a0.2.2.2.2, ()))))), ()), ()) (fun x => x.1) (fun _ => rfl) rfl (vals := [v0]) (fun Y hY => (.cons (y0 Y hY) .nil)) hp).mono fun e W' ⟨he, bel⟩ => ?_
  subst he
  exact ⟨_, rfl, _, _, _, [], _, [], hW', trodAll_mk1 (shut_bool Try.underlying4 _), (trodAll_cons_mk (Below.trod laidOut (by kernel_rfl) (of_decide_eq_true (by kernel_rfl)) h0 bel lt0) trodAll_mk0), rfl, bel.frame _, fun h => by cases h⟩
theorem over : Rows.fnExactMinimizeRow.holds Try.pinned (OpenSpec.ofChange Rows.fnExactMinimizeSpec) :=
  OpenClaim.holds_of_wide 5 Try.f5 rfl rfl rfl rfl rfl rfl rfl ⟨rfl, rfl, rfl, rfl, rfl⟩ rfl rfl rfl rfl rfl (by kernel_rfl) Try.func5 (by kernel_rfl)
    (of_decide_eq_true (by kernel_rfl)) (by unfold Func.isWrapper; first | (rw [if_pos (by decide +kernel)]; kernel_rfl) | (rw [if_neg (by decide +kernel)]; exact ⟨rfl, rfl⟩))
    (fun os started H enc _ => lifted os started H enc)
theorem proved : Rows.FnExactMinimizeSaid := over
end Go.Proofs.Ytclfonfegenfiaa.fnExactMinimize
namespace Go.Proofs.Ytclfonfegenfiaa
/-- The row, under a short name, for the claim. -/
theorem fnExactMinimize_holds : Rows.FnExactMinimizeSaid := fnExactMinimize.proved
end Go.Proofs.Ytclfonfegenfiaa
