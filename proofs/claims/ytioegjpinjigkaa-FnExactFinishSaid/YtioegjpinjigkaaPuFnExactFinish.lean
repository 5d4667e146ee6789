/- The plain law of FnExactFinish: both sides answer alike for every session. -/
import Derived.Test.YtioegjpinjigkaaFdFnExactFinish
namespace Go.Proofs.Ytioegjpinjigkaa.fnExactFinish.Pure
open Go.Ev Go.Proofs.Ytioegjpinjigkaa.fnExactFinish

def okB (x1 l x4 x5 : Int) : Bool := decide (1 ≤ x1 ∧ x1 ≤ 4096 ∧ l ≤ x1 ∧ 0 ≤ x5 ∧ x5 ≤ l ∧ 0 ≤ x4 ∧ x4 < 4000)

theorem impl_ok {R : Type} (x1 : Int) (x2 : List UInt8) (x3 : Bool) (x4 x5 : Int) (k : Bool → Option R) : F.impl_Session_ok x1 x2 x3 x4 x5 k = k (okB x1 x2.length x4 x5) := by
  simp only [F.impl_Session_ok, Bool.cond_decide]
  repeat' split
  all_goals (congr 1; simp only [okB]; first | (rw [decide_eq_decide]; omega) | (symm; rw [decide_eq_false_iff_not]; omega))

theorem spec_ok {R : Type} (x1 : Int) (x2 : List UInt8) (x3 : Bool) (x4 x5 : Int) (k : Bool → Option R) : F.spec_l4SessionOK x1 x2 x3 x4 x5 k = k (okB x1 x2.length x4 x5) := by
  simp only [F.spec_l4SessionOK, F.spec_l1Between, Bool.cond_decide]
  repeat' split
  all_goals try simp only [cond_false]
  all_goals first
    | (congr 1; simp only [okB]; symm; rw [decide_eq_false_iff_not]; omega)
    | skip
  all_goals (generalize hb : okB x1 x2.length x4 x5 = b)
  all_goals (repeat' (first | (rw [Bool.cond_decide]; split)))
  all_goals (subst hb; congr 1; simp only [okB]; first | (rw [decide_eq_decide]; omega) | (symm; rw [decide_eq_false_iff_not]; omega))

theorem main (x1 : Int) (x2 : List UInt8) (x3 : Bool) (x4 x5 : Int) : F.laws_FnExactFinish x1 x2 x3 x4 x5 (fun b => some b) = some true := by
  simp only [F.laws_FnExactFinish, F.laws_szSession, F.laws_toSession, F.spec_Finish, F.impl_Finish, impl_ok, spec_ok]
  generalize okB _ _ _ _ = b
  generalize decide (wrapK .i64 _ < 0) = c
  have refl : ∀ (x1 : Int) (x2 : List UInt8) (x3 : Bool) (x4 x5 : Int) (k : Bool → Option Bool), F.laws_eqSession x1 x2 x3 x4 x5 x1 x2 x3 x4 x5 k = k true := by
    intro x1 x2 x3 x4 x5 k
    simp [F.laws_eqSession]
  cases c <;> cases b <;> simp [refl]
  all_goals split <;> rfl

theorem FnExactFinish : ∀ (a0 : Ki.den (.pair (.int .i64) (.pair .str (.pair .bool (.pair (.int .i64) (.int .i64)))))), Fit (.pair (.int .i64) (.pair .str (.pair .bool (.pair (.int .i64) (.int .i64))))) a0 → F.laws_FnExactFinish a0.1 a0.2.1 a0.2.2.1 a0.2.2.2.1 a0.2.2.2.2 (fun b => some b) = some true :=
  fun a0 _ => main a0.1 a0.2.1 a0.2.2.1 a0.2.2.2.1 a0.2.2.2.2

end Go.Proofs.Ytioegjpinjigkaa.fnExactFinish.Pure
