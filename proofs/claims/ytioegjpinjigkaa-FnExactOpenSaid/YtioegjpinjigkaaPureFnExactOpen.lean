/- The law FnExactOpen over plain Lean functions: for every limit the program's Open and the reference's Open give the same session, field by field. No condition. -/
import Derived.Test.YtioegjpinjigkaaPFnExactOpenx1
namespace Go.Proofs.Ytioegjpinjigkaa.Pure
open Go.RowKit Go.Proofs.Ytioegjpinjigkaa.PFnExactOpen Go.Proofs.YtioegjpinjigkaaW.PrintWords Go.Proofs.YtioegjpinjigkaaW.PrintLast

theorem FnExactOpen : laws_FnExactOpen.Pure := by
  intro a0 _
  unfold laws_FnExactOpen.f spec_Open.f impl_Open.f spec_l1Between.f laws_eqSession.f
  by_cases h1 : 1 ≤ a0
  · by_cases h2 : a0 ≤ 4096
    · rw [if_pos h1, if_neg (show ¬ a0 < 1 by omega), if_neg (show ¬ a0 > 4096 by omega)]; simp [h2]
    · rw [if_pos h1, if_neg (show ¬ a0 < 1 by omega), if_pos (show a0 > 4096 by omega)]; simp [h2]
  · rw [if_neg h1, if_pos (show a0 < 1 by omega)]; simp

end Go.Proofs.Ytioegjpinjigkaa.Pure
