/-
  No cell of these rows narrows 'for every input' (looked for: loops, veiled, ifaces, maps, wideKeys, modest, calm, conditions, laid).
  DERIVED. THE GIVEN ROWS OF THIS SEAT. 6 by the template 'for every input the law returns true; each argument reads behind the call as it read before'; 0 by the template 'total and deterministic' (their statements: YtioegjpinjigkaaTotals.lean).
  GIVEN WITH THE SEED: the statements are not yours to turn. If you find one false, say at which input.
  Laid BY PROGRAM, IN A SANDBOX (cutbox-rows.mjs): the forced cells as the released guide's own fill.sh prints them over the translation 0ded3d9033bbd64f… (all of the seat's roots in one cut). By AI agents, Wed Nov 11 2026. No macro, syntax, notation, axiom, sorry.
-/
import Derived.Test.YtioegjpinjigkaaChecked
import GoSem.Claim
import GoSem.ClaimJoined
import GoSem.ClaimMapViews
import Derived.JoinedTies
import Derived.KernelRfl
namespace Go.Proofs.Ytioegjpinjigkaa
/- THE CELL 'sum', in the pinned program and in every row, IS THE sha256 OF THE DUMP (.gsa) THAT YtioegjpinjigkaaProg.lean LOADS. Nothing in Lean hashes anything: it is a label: what it is worth is what the hold of that sum in a sandbox is worth. -/
noncomputable def Try.pinned : Pinned := { name := "ytioegjpinjigkaa", sum := "0ded3d9033bbd64f24e68277e2b439007c1fb4414647e460b92374748aa5253d", checked := Try.checked }
namespace Rows
def none {H : Type} : Left H := { results := [], args := [] }

/-- 'laws.FnExactConstants': WHATEVER THE INPUT: true; the input reads as it did. -/
def fnExactConstantsSpec : ChangeSpec := { name := "fnExactConstants", fn := fun _ => fun
  | [] => { results := [.lit (.bool true)], args := [] }
  | _ => none }
def fnExactConstantsRow : OpenClaim := { program := "ytioegjpinjigkaa", sum := "0ded3d9033bbd64f24e68277e2b439007c1fb4414647e460b92374748aa5253d", func := "loop.example/s0007/laws.FnExactConstants", spec := "fnExactConstants", apart := false }
def FnExactConstantsSaid : Prop := fnExactConstantsRow.holds Try.pinned (OpenSpec.ofChange fnExactConstantsSpec)

/-- ITS FALSE NEIGHBOUR: 'it returns false'. Refute it at one input. -/
def fnExactConstantsWrong : ChangeSpec := { name := "fnExactConstants", fn := fun _ => fun
  | [] => { results := [.lit (.bool false)], args := [] }
  | _ => none }
def FnExactConstantsWrongFalsely : Prop := fnExactConstantsRow.holds Try.pinned (OpenSpec.ofChange fnExactConstantsWrong)

/-- 'laws.FnExactOpen': WHATEVER THE INPUT: true; the input reads as it did. -/
def fnExactOpenSpec : ChangeSpec := { name := "fnExactOpen", fn := fun _ => fun
  | [d] => { results := [.lit (.bool true)], args := [d] }
  | _ => none }
def fnExactOpenRow : OpenClaim := { program := "ytioegjpinjigkaa", sum := "0ded3d9033bbd64f24e68277e2b439007c1fb4414647e460b92374748aa5253d", func := "loop.example/s0007/laws.FnExactOpen", spec := "fnExactOpen", apart := false }
def FnExactOpenSaid : Prop := fnExactOpenRow.holds Try.pinned (OpenSpec.ofChange fnExactOpenSpec)

/-- ITS FALSE NEIGHBOUR: 'it returns false'. Refute it at one input. -/
def fnExactOpenWrong : ChangeSpec := { name := "fnExactOpen", fn := fun _ => fun
  | [d] => { results := [.lit (.bool false)], args := [d] }
  | _ => none }
def FnExactOpenWrongFalsely : Prop := fnExactOpenRow.holds Try.pinned (OpenSpec.ofChange fnExactOpenWrong)

/-- 'laws.FnExactFinish': WHATEVER THE INPUT: true; the input reads as it did. -/
def fnExactFinishSpec : ChangeSpec := { name := "fnExactFinish", fn := fun _ => fun
  | [d] => { results := [.lit (.bool true)], args := [d] }
  | _ => none }
def fnExactFinishRow : OpenClaim := { program := "ytioegjpinjigkaa", sum := "0ded3d9033bbd64f24e68277e2b439007c1fb4414647e460b92374748aa5253d", func := "loop.example/s0007/laws.FnExactFinish", spec := "fnExactFinish", apart := false }
def FnExactFinishSaid : Prop := fnExactFinishRow.holds Try.pinned (OpenSpec.ofChange fnExactFinishSpec)

/-- ITS FALSE NEIGHBOUR: 'it returns false'. Refute it at one input. -/
def fnExactFinishWrong : ChangeSpec := { name := "fnExactFinish", fn := fun _ => fun
  | [d] => { results := [.lit (.bool false)], args := [d] }
  | _ => none }
def FnExactFinishWrongFalsely : Prop := fnExactFinishRow.holds Try.pinned (OpenSpec.ofChange fnExactFinishWrong)

/-- 'laws.FnExactFeed': WHATEVER THE INPUT: true; the input reads as it did. -/
def fnExactFeedSpec : ChangeSpec := { name := "fnExactFeed", fn := fun _ => fun
  | [d1, d2] => { results := [.lit (.bool true)], args := [d1, d2] }
  | _ => none }
def fnExactFeedRow : OpenClaim := { program := "ytioegjpinjigkaa", sum := "0ded3d9033bbd64f24e68277e2b439007c1fb4414647e460b92374748aa5253d", func := "loop.example/s0007/laws.FnExactFeed", spec := "fnExactFeed", apart := false }
def FnExactFeedSaid : Prop := fnExactFeedRow.holds Try.pinned (OpenSpec.ofChange fnExactFeedSpec)

/-- ITS FALSE NEIGHBOUR: 'it returns false'. Refute it at one input. -/
def fnExactFeedWrong : ChangeSpec := { name := "fnExactFeed", fn := fun _ => fun
  | [d1, d2] => { results := [.lit (.bool false)], args := [d1, d2] }
  | _ => none }
def FnExactFeedWrongFalsely : Prop := fnExactFeedRow.holds Try.pinned (OpenSpec.ofChange fnExactFeedWrong)

/-- 'laws.FnExactDfaOK': WHATEVER THE INPUT: true; the input reads as it did. -/
def fnExactDfaOKSpec : ChangeSpec := { name := "fnExactDfaOK", fn := fun _ => fun
  | [d] => { results := [.lit (.bool true)], args := [d] }
  | _ => none }
def fnExactDfaOKRow : OpenClaim := { program := "ytioegjpinjigkaa", sum := "0ded3d9033bbd64f24e68277e2b439007c1fb4414647e460b92374748aa5253d", func := "loop.example/s0007/laws.FnExactDfaOK", spec := "fnExactDfaOK", unfollowed := true, recurses := true, apart := false }
def FnExactDfaOKSaid : Prop := fnExactDfaOKRow.holds Try.pinned (OpenSpec.ofChange fnExactDfaOKSpec)

/-- ITS FALSE NEIGHBOUR: 'it returns false'. Refute it at one input. -/
def fnExactDfaOKWrong : ChangeSpec := { name := "fnExactDfaOK", fn := fun _ => fun
  | [d] => { results := [.lit (.bool false)], args := [d] }
  | _ => none }
def FnExactDfaOKWrongFalsely : Prop := fnExactDfaOKRow.holds Try.pinned (OpenSpec.ofChange fnExactDfaOKWrong)

/-- 'laws.FnExactRunDfa': WHATEVER THE INPUT: true; the input reads as it did. -/
def fnExactRunDfaSpec : ChangeSpec := { name := "fnExactRunDfa", fn := fun _ => fun
  | [d1, d2, d3] => { results := [.lit (.bool true)], args := [d1, d2, d3] }
  | _ => none }
def fnExactRunDfaRow : OpenClaim := { program := "ytioegjpinjigkaa", sum := "0ded3d9033bbd64f24e68277e2b439007c1fb4414647e460b92374748aa5253d", func := "loop.example/s0007/laws.FnExactRunDfa", spec := "fnExactRunDfa", unfollowed := true, recurses := true, apart := false }
def FnExactRunDfaSaid : Prop := fnExactRunDfaRow.holds Try.pinned (OpenSpec.ofChange fnExactRunDfaSpec)

/-- ITS FALSE NEIGHBOUR: 'it returns false'. Refute it at one input. -/
def fnExactRunDfaWrong : ChangeSpec := { name := "fnExactRunDfa", fn := fun _ => fun
  | [d1, d2, d3] => { results := [.lit (.bool false)], args := [d1, d2, d3] }
  | _ => none }
def FnExactRunDfaWrongFalsely : Prop := fnExactRunDfaRow.holds Try.pinned (OpenSpec.ofChange fnExactRunDfaWrong)

/- THE SECOND FORM. 'bulk': how many values and letters a reading holds, each counted each time it is reached (what is shared counts as often as it is met; a slice's spare places count too). A statement '..UptoSaid' is the law's where the arguments, and the package variables that the reading takes, are together of bulk at most 1048576: NARROWER than '..Said'. Prove '..Said' where nothing that the law and all that it calls make is longer than what came in: it says more and counts as full. Else prove '..UptoSaid'. A law counts once. -/
mutual
def uptoBulk {H : Type} : DataW H → Nat
  | .lit (.string bytes) => bytes.length + 1
  | .lit _ => 1
  | .nil => 1
  | .ptr d => uptoBulk d + 1
  | .slice elems spare => uptoBulkAll elems + uptoBulkAll spare + 1
  | .agg parts => uptoBulkAll parts + 1
  | .iface _ d => uptoBulk d + 1
  | .map entries => uptoBulkEntries entries + 1
  | .held _ => 1
def uptoBulkAll {H : Type} : List (DataW H) → Nat
  | [] => 0
  | d :: r => uptoBulk d + uptoBulkAll r
def uptoBulkEntries {H : Type} : List (Lit × DataW H) → Nat
  | [] => 0
  | x :: r => uptoBulkEntry x + uptoBulkEntries r
def uptoBulkEntry {H : Type} : Lit × DataW H → Nat
  | (.string bytes, d) => bytes.length + uptoBulk d + 1
  | (_, d) => uptoBulk d + 1
 end
def uptoSmall : (H : Type) → List (DataW H) → Bool := fun _ ds => decide (uptoBulkAll ds ≤ 1048576)
def OpenSpec.upto (s : _root_.Go.ChangeSpec) : _root_.Go.OpenSpec := { _root_.Go.OpenSpec.ofChange s with cond := some uptoSmall }

/-- 'laws.FnExactConstants', WHERE WHAT IT READS IS OF BULK AT MOST 1048576: true; the input reads as it did. -/
def fnExactConstantsUptoRow : OpenClaim := { program := "ytioegjpinjigkaa", sum := "0ded3d9033bbd64f24e68277e2b439007c1fb4414647e460b92374748aa5253d", func := "loop.example/s0007/laws.FnExactConstants", spec := "fnExactConstants", apart := false, narrowed := true }
def FnExactConstantsUptoSaid : Prop := fnExactConstantsUptoRow.holds Try.pinned (OpenSpec.upto fnExactConstantsSpec)

/-- 'laws.FnExactOpen', WHERE WHAT IT READS IS OF BULK AT MOST 1048576: true; the input reads as it did. -/
def fnExactOpenUptoRow : OpenClaim := { program := "ytioegjpinjigkaa", sum := "0ded3d9033bbd64f24e68277e2b439007c1fb4414647e460b92374748aa5253d", func := "loop.example/s0007/laws.FnExactOpen", spec := "fnExactOpen", apart := false, narrowed := true }
def FnExactOpenUptoSaid : Prop := fnExactOpenUptoRow.holds Try.pinned (OpenSpec.upto fnExactOpenSpec)

/-- 'laws.FnExactFinish', WHERE WHAT IT READS IS OF BULK AT MOST 1048576: true; the input reads as it did. -/
def fnExactFinishUptoRow : OpenClaim := { program := "ytioegjpinjigkaa", sum := "0ded3d9033bbd64f24e68277e2b439007c1fb4414647e460b92374748aa5253d", func := "loop.example/s0007/laws.FnExactFinish", spec := "fnExactFinish", apart := false, narrowed := true }
def FnExactFinishUptoSaid : Prop := fnExactFinishUptoRow.holds Try.pinned (OpenSpec.upto fnExactFinishSpec)

/-- 'laws.FnExactFeed', WHERE WHAT IT READS IS OF BULK AT MOST 1048576: true; the input reads as it did. -/
def fnExactFeedUptoRow : OpenClaim := { program := "ytioegjpinjigkaa", sum := "0ded3d9033bbd64f24e68277e2b439007c1fb4414647e460b92374748aa5253d", func := "loop.example/s0007/laws.FnExactFeed", spec := "fnExactFeed", apart := false, narrowed := true }
def FnExactFeedUptoSaid : Prop := fnExactFeedUptoRow.holds Try.pinned (OpenSpec.upto fnExactFeedSpec)

/-- 'laws.FnExactDfaOK', WHERE WHAT IT READS IS OF BULK AT MOST 1048576: true; the input reads as it did. -/
def fnExactDfaOKUptoRow : OpenClaim := { program := "ytioegjpinjigkaa", sum := "0ded3d9033bbd64f24e68277e2b439007c1fb4414647e460b92374748aa5253d", func := "loop.example/s0007/laws.FnExactDfaOK", spec := "fnExactDfaOK", unfollowed := true, recurses := true, apart := false, narrowed := true }
def FnExactDfaOKUptoSaid : Prop := fnExactDfaOKUptoRow.holds Try.pinned (OpenSpec.upto fnExactDfaOKSpec)

/-- 'laws.FnExactRunDfa', WHERE WHAT IT READS IS OF BULK AT MOST 1048576: true; the input reads as it did. -/
def fnExactRunDfaUptoRow : OpenClaim := { program := "ytioegjpinjigkaa", sum := "0ded3d9033bbd64f24e68277e2b439007c1fb4414647e460b92374748aa5253d", func := "loop.example/s0007/laws.FnExactRunDfa", spec := "fnExactRunDfa", unfollowed := true, recurses := true, apart := false, narrowed := true }
def FnExactRunDfaUptoSaid : Prop := fnExactRunDfaUptoRow.holds Try.pinned (OpenSpec.upto fnExactRunDfaSpec)

end Rows
end Go.Proofs.Ytioegjpinjigkaa
