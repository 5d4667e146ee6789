/- The law FnExactConstants over a plain Lean function: every exported constant of the program is the document's. No condition. -/
import Derived.Test.YtioegjpinjigkaaPFnExactConstantsx1
namespace Go.Proofs.Ytioegjpinjigkaa.Pure
open Go.RowKit Go.Proofs.Ytioegjpinjigkaa.PFnExactConstants Go.Proofs.YtioegjpinjigkaaW.PrintWords Go.Proofs.YtioegjpinjigkaaW.PrintLast

theorem FnExactConstants : laws_FnExactConstants.Pure := by
  unfold laws_FnExactConstants.Pure laws_FnExactConstants.f
  rfl

end Go.Proofs.Ytioegjpinjigkaa.Pure
