/- The plain law of FnExactFeed: both sides answer alike for every session and chunk. -/
import Derived.Test.YtioegjpinjigkaaFdFnExactFeed
namespace Go.Proofs.Ytioegjpinjigkaa.fnExactFeed.Pure
open Go.Ev Go.Proofs.Ytioegjpinjigkaa.fnExactFeed

set_option linter.unusedSimpArgs false
/-! ### whole numbers -/

theorem wrap_id {n : Int} (h0 : -9223372036854775808 ≤ n) (h1 : n ≤ 9223372036854775807) : wrapK .i64 n = n := by
  simp only [wrapK, IntKind.wrap, IntKind.signed, IntKind.bits, Bool.true_and]
  split <;> rename_i h <;> simp only [ge_iff_le, decide_eq_true_eq] at h <;> omega

theorem inB_true {i : Int} {n : Nat} (h0 : 0 ≤ i) (h1 : i < n) : inB i n = true := by
  simp only [inB, Bool.and_eq_true, decide_eq_true_eq]; exact ⟨h0, h1⟩

theorem i64_of {n : Int} (h : (Lit.int .i64 n).wf = true) : -9223372036854775808 ≤ n ∧ n ≤ 9223372036854775807 := by
  simp only [Lit.wf, IntKind.min, IntKind.max, IntKind.signed, IntKind.bits, Bool.and_eq_true, decide_eq_true_eq] at h
  constructor
  · exact h.1
  · exact h.2

theorem maxLen_eq : maxLen = 9223372036854775807 := rfl

/-- All of a list's numbers are in range. -/
def I64s (l : List Int) : Prop := ∀ x ∈ l, -9223372036854775808 ≤ x ∧ x ≤ 9223372036854775807

theorem i64s_of {l : List Int} (h : ∀ x, List.Mem (α := Int) x l → Fit (.int .i64) x) : I64s l := fun x hx => i64_of (h x hx)

theorem getD_get (l : List Int) {i : Nat} (h : i < l.length) : List.getD l i (0 : Int) = l[i] := by simp [List.getD_eq_getElem?_getD, h]
/-! ### sessions in order -/

def okB (x1 l x4 x5 : Int) : Bool := decide (1 ≤ x1 ∧ x1 ≤ 4096 ∧ l ≤ x1 ∧ 0 ≤ x5 ∧ x5 ≤ l ∧ 0 ≤ x4 ∧ x4 < 4000)

theorem impl_ok {R : Type} (x1 : Int) (x2 : List UInt8) (x3 : Bool) (x4 x5 : Int) (k : Bool → Option R) : F.impl_Session_ok x1 x2 x3 x4 x5 k = k (okB x1 x2.length x4 x5) := by
  simp only [F.impl_Session_ok, Bool.cond_decide]
  repeat' split
  all_goals (congr 1; simp only [okB]; first | (rw [decide_eq_decide]; omega) | (symm; rw [decide_eq_false_iff_not]; omega))

theorem spec_ok {R : Type} (x1 : Int) (x2 : List UInt8) (x3 : Bool) (x4 x5 : Int) (k : Bool → Option R) : F.spec_l4SessionOK x1 x2 x3 x4 x5 k = k (okB x1 x2.length x4 x5) := by
  simp only [F.spec_l4SessionOK, F.spec_l1Between, Bool.cond_decide]
  repeat' split
  all_goals try simp only [cond_false]
  all_goals first
    | (congr 1; simp only [okB]; symm; rw [decide_eq_false_iff_not]; omega)
    | skip
  all_goals (generalize hb : okB x1 x2.length x4 x5 = b)
  all_goals (repeat' (first | (rw [Bool.cond_decide]; split)))
  all_goals (subst hb; congr 1; simp only [okB]; first | (rw [decide_eq_decide]; omega) | (symm; rw [decide_eq_false_iff_not]; omega))

theorem eqSession {R : Type} (x1 : Int) (x2 : List UInt8) (x3 : Bool) (x4 x5 : Int) (k : Bool → Option R) : F.laws_eqSession x1 x2 x3 x4 x5 x1 x2 x3 x4 x5 k = k true := by
  simp [F.laws_eqSession]
theorem main (x1 : Int) (x2 : List UInt8) (x3 : Bool) (x4 x5 : Int) (x6 : List UInt8) : F.laws_FnExactFeed x1 x2 x3 x4 x5 x6 (fun b => some b) = some true := by
  simp only [F.laws_FnExactFeed, F.laws_szSession, F.laws_toSession, F.spec_Feed, F.impl_Feed, impl_ok, spec_ok, eqSession]
  rw [Bool.cond_decide]
  by_cases h6 : (x6.length : Int) > 1048576
  · rw [if_pos h6]
  rw [if_neg h6]
  generalize hc : decide (wrapK .i64 _ < 0) = c
  cases c
  case true => rfl
  simp only [cond_false]
  cases hb : okB x1 x2.length x4 x5
  · rfl
  simp only [okB, decide_eq_true_eq] at hb
  simp only [Bool.not_true, cond_false]
  cases x3
  case true => simp
  simp only [cond_false]
  rw [wrap_id (n := (x2.length : Int) + x6.length) (by omega) (by omega), wrap_id (n := x1 - (x2.length : Int)) (by omega) (by omega), Bool.cond_decide]
  have hbig : Nat.ble (x2.length + x6.length) big = true := by
    rw [Nat.ble_eq]; simp only [big]; omega
  by_cases h : (x2.length : Int) + x6.length > x1
  · rw [if_pos h]
    simp [show x1 - (x2.length : Int) < x6.length by omega]
  · rw [if_neg h]
    simp [hbig, show ¬ (x1 - (x2.length : Int) < x6.length) by omega]

theorem FnExactFeed : ∀ (a0 : Ki.den (.pair (.int .i64) (.pair .str (.pair .bool (.pair (.int .i64) (.int .i64)))))), ∀ (a1 : Ki.den .str), Fit (.pair (.int .i64) (.pair .str (.pair .bool (.pair (.int .i64) (.int .i64))))) a0 → Fit .str a1 → F.laws_FnExactFeed a0.1 a0.2.1 a0.2.2.1 a0.2.2.2.1 a0.2.2.2.2 a1 (fun b => some b) = some true :=
  fun a0 a1 _ _ => main a0.1 a0.2.1 a0.2.2.1 a0.2.2.2.1 a0.2.2.2.2 a1

end Go.Proofs.Ytioegjpinjigkaa.fnExactFeed.Pure
