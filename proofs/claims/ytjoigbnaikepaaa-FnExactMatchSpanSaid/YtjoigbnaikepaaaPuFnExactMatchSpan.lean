/- The plain law of FnExactMatchSpan: both sides say of every span whether its text is a word of the rule. -/
import Derived.Test.YtjoigbnaikepaaaFdFnExactMatchSpan
namespace Go.Proofs.Ytjoigbnaikepaaa.fnExactMatchSpan.Pure
open Go.Ev Go.Proofs.Ytjoigbnaikepaaa.fnExactMatchSpan

set_option linter.unusedVariables false
set_option linter.unusedSimpArgs false
/-! ### whole numbers -/

theorem wrap_id {n : Int} (h0 : -9223372036854775808 ≤ n) (h1 : n ≤ 9223372036854775807) : wrapK .i64 n = n := by
  simp only [wrapK, IntKind.wrap, IntKind.signed, IntKind.bits, Bool.true_and]
  split <;> rename_i h <;> simp only [ge_iff_le, decide_eq_true_eq] at h <;> omega

theorem inB_true {i : Int} {n : Nat} (h0 : 0 ≤ i) (h1 : i < n) : inB i n = true := by
  simp only [inB, Bool.and_eq_true, decide_eq_true_eq]; exact ⟨h0, h1⟩

theorem i64_of {n : Int} (h : (Lit.int .i64 n).wf = true) : -9223372036854775808 ≤ n ∧ n ≤ 9223372036854775807 := by
  simp only [Lit.wf, IntKind.min, IntKind.max, IntKind.signed, IntKind.bits, Bool.and_eq_true, decide_eq_true_eq] at h
  constructor
  · exact h.1
  · exact h.2

theorem maxLen_eq : maxLen = 9223372036854775807 := rfl

/-- All of a list's numbers are in range. -/
def I64s (l : List Int) : Prop := ∀ x ∈ l, -9223372036854775808 ≤ x ∧ x ≤ 9223372036854775807

theorem i64s_of {l : List Int} (h : ∀ x, List.Mem (α := Int) x l → Fit (.int .i64) x) : I64s l := fun x hx => i64_of (h x hx)

theorem getD_get (l : List Int) {i : Nat} (h : i < l.length) : List.getD l i (0 : Int) = l[i] := by simp [List.getD_eq_getElem?_getD, h]
/-! ### rules: sizes, copies, comparisons -/

abbrev Rng := Int × Int
abbrev Nod := Int × (List Rng × (Int × (Int × Int)))
abbrev Bra := Bool × (Bool × List Nod)

theorem getD_at {α : Type} (l : List α) (z : α) {i : Nat} (h : i < l.length) : List.getD l i z = l[i] := by simp [List.getD_eq_getElem?_getD, h]

/-- Not longer than the law's guard lets in. -/
def SmallN (l : List Nod) : Prop := l.length ≤ 1048576 ∧ ∀ x ∈ l, x.2.1.length ≤ 1048576
def SmallB (l : List Bra) : Prop := l.length ≤ 1048576 ∧ ∀ x ∈ l, SmallN x.2.2
/-- Not longer than a list can be. -/
def FitN (l : List Nod) : Prop := l.length ≤ maxLen ∧ ∀ x ∈ l, x.2.1.length ≤ maxLen
def FitB (l : List Bra) : Prop := l.length ≤ maxLen ∧ ∀ x ∈ l, FitN x.2.2

theorem szRangeS {R : Type} (l : List Rng) (n : Int) (h0 : 0 ≤ n) (h1 : n ≤ 1048576) (hl : l.length ≤ maxLen) (k : Int → Option R) : F.laws_szRangeS l n k = if n < l.length then k (-1) else k (n - l.length) := by
  rw [maxLen_eq] at hl
  simp only [F.laws_szRangeS]
  rw [wrap_id (by omega) (by omega), Bool.cond_decide]
  by_cases h : n < l.length
  · rw [if_pos (by omega), if_pos h]
  · rw [if_neg (by omega), if_neg h]

theorem szNodeS_l0 {R : Type} (N : Nat) (l : List Nod) (hl : l.length ≤ 1048576) (hf : ∀ x ∈ l, x.2.1.length ≤ maxLen) (k : Int → Option R) (r : Option R) (h1 : ∀ z, z < 0 → k z = r) :
    ∀ (d n i : Nat) (left : Int), i + d = l.length → d < n → 0 ≤ left → left ≤ 1048576 → (∀ z, 0 ≤ z → z ≤ left → (∀ x ∈ l.drop i, x.2.1.length ≤ 1048576) → k z = r) →
      F.laws_szNodeS_l0 N n l left (i : Int) (fun y => k y) (fun _ y => k y) = r := by
  intro d
  induction d with
  | zero =>
    intro n i left hi hn g0 g1 h2
    obtain ⟨n, rfl⟩ : ∃ m, n = m + 1 := ⟨n - 1, by omega⟩
    simp only [F.laws_szNodeS_l0, F.laws_szNodeS_l0_s, Bool.cond_decide]
    rw [if_neg (by omega)]
    exact h2 left g0 (Int.le_refl _) (by rw [List.drop_of_length_le (by omega)]; simp)
  | succ d ih =>
    intro n i left hi hn g0 g1 h2
    obtain ⟨n, rfl⟩ : ∃ m, n = m + 1 := ⟨n - 1, by omega⟩
    simp only [F.laws_szNodeS_l0, F.laws_szNodeS_l0_s, F.laws_szNode, Bool.cond_decide]
    rw [if_pos (by omega), inB_true (by omega) (by omega), wrap_id (by omega) (by omega)]
    simp only [cond_true, Int.toNat_natCast]
    rw [getD_at l _ (show i < l.length by omega)]
    have hx := hf l[i] (List.getElem_mem (by omega))
    rw [szRangeS _ _ g0 g1 hx]
    by_cases h : left < (l[i].2.1.length : Int)
    · rw [if_pos h, if_pos (by omega), if_pos (by omega)]
      exact h1 _ (by omega)
    · rw [if_neg h, if_neg (by omega), if_neg (by omega)]
      have := ih n (i + 1) (left - (l[i].2.1.length : Int)) (by omega) (by omega) (by omega) (by omega) (fun z z0 z1 hz => h2 z z0 (by omega) (by
        rw [List.drop_eq_getElem_cons (show i < l.length by omega)]
        intro x hx'
        rcases List.mem_cons.1 hx' with rfl | hx'
        · omega
        · exact hz x hx'))
      rw [show ((i + 1 : Nat) : Int) = (i : Int) + 1 by omega] at this
      exact this

theorem szNodeS {R : Type} (N : Nat) (l : List Nod) (hf : FitN l) (hN : 1048576 < N) (left : Int) (g0 : 0 ≤ left) (g1 : left ≤ 1048576) (k : Int → Option R) (r : Option R) (h1 : ∀ z, z < 0 → k z = r) (h2 : ∀ z, 0 ≤ z → z ≤ left → SmallN l → k z = r) :
    F.laws_szNodeS N l left k = r := by
  have hl := hf.1
  rw [maxLen_eq] at hl
  simp only [F.laws_szNodeS]
  rw [wrap_id (by omega) (by omega), Bool.cond_decide]
  by_cases h : left < l.length
  · rw [if_pos (by omega)]; exact h1 _ (by omega)
  · rw [if_neg (by omega)]
    have := szNodeS_l0 N l (by omega) hf.2 k r h1 l.length N 0 (left - l.length) (by omega) (by omega) (by omega) (by omega) (fun z z0 z1 hz => h2 z z0 (by omega) ⟨by omega, by simpa using hz⟩)
    rw [show ((0 : Nat) : Int) = 0 from rfl] at this
    exact this

theorem szBranchS_l0 {R : Type} (N : Nat) (l : List Bra) (hl : l.length ≤ 1048576) (hf : ∀ x ∈ l, FitN x.2.2) (hN : 1048576 < N) (k : Int → Option R) (r : Option R) (h1 : ∀ z, z < 0 → k z = r) :
    ∀ (d n i : Nat) (left : Int), i + d = l.length → d < n → 0 ≤ left → left ≤ 1048576 → (∀ z, 0 ≤ z → z ≤ left → (∀ x ∈ l.drop i, SmallN x.2.2) → k z = r) →
      F.laws_szBranchS_l0 N n l left (i : Int) (fun y => k y) (fun _ y => k y) = r := by
  intro d
  induction d with
  | zero =>
    intro n i left hi hn g0 g1 h2
    obtain ⟨n, rfl⟩ : ∃ m, n = m + 1 := ⟨n - 1, by omega⟩
    simp only [F.laws_szBranchS_l0, F.laws_szBranchS_l0_s, Bool.cond_decide]
    rw [if_neg (by omega)]
    exact h2 left g0 (Int.le_refl _) (by rw [List.drop_of_length_le (by omega)]; simp)
  | succ d ih =>
    intro n i left hi hn g0 g1 h2
    obtain ⟨n, rfl⟩ : ∃ m, n = m + 1 := ⟨n - 1, by omega⟩
    simp only [F.laws_szBranchS_l0, F.laws_szBranchS_l0_s, F.laws_szBranch]
    rw [decide_eq_true (show (i : Int) < (l.length : Int) by omega), inB_true (by omega) (by omega), wrap_id (by omega) (by omega)]
    simp only [cond_true, Int.toNat_natCast]
    rw [getD_at l _ (show i < l.length by omega)]
    refine szNodeS N _ (hf l[i] (List.getElem_mem (by omega))) hN left g0 g1 _ r ?_ ?_
    · intro z hz
      rw [decide_eq_true hz]
      simp only [cond_true]
      rw [show decide ((-1 : Int) < 0) = true from rfl]
      exact h1 _ (by omega)
    · intro z z0 z1 hz
      rw [decide_eq_false (show ¬ z < 0 by omega)]
      simp only [cond_false]
      have := ih n (i + 1) z (by omega) (by omega) z0 (by omega) (fun y y0 y1 hy => h2 y y0 (by omega) (by
        rw [List.drop_eq_getElem_cons (show i < l.length by omega)]
        intro x hx'
        rcases List.mem_cons.1 hx' with rfl | hx'
        · exact hz
        · exact hy x hx'))
      rw [show ((i + 1 : Nat) : Int) = (i : Int) + 1 by omega] at this
      exact this

theorem szRule {R : Type} (N : Nat) (bs : List Bra) (g : Int) (hf : FitB bs) (hN : 1048576 < N) (k : Int → Option R) (r : Option R) (h1 : ∀ z, z < 0 → k z = r) (h2 : ∀ z, 0 ≤ z → SmallB bs → k z = r) :
    F.laws_szRule N bs g 1048576 k = r := by
  have hl := hf.1
  rw [maxLen_eq] at hl
  simp only [F.laws_szRule, F.laws_szBranchS]
  rw [wrap_id (by omega) (by omega), Bool.cond_decide]
  by_cases h : (1048576 : Int) < bs.length
  · rw [if_pos (by omega), show decide ((-1 : Int) < 0) = true from rfl]
    exact h1 _ (by omega)
  · rw [if_neg (by omega)]
    have := szBranchS_l0 N bs (by omega) hf.2 hN (fun r4 => bif decide (r4 < 0) then k (-1) else k r4) r (fun z hz => by rw [decide_eq_true hz]; exact h1 _ (by omega)) bs.length N 0 (1048576 - bs.length) (by omega) (by omega) (by omega) (by omega)
      (fun z z0 z1 hz => by rw [decide_eq_false (show ¬ z < 0 by omega)]; exact h2 z z0 ⟨by omega, by simpa using hz⟩)
    rw [show ((0 : Nat) : Int) = 0 from rfl] at this
    exact this

theorem set_next {α : Type} (l : List α) (z : α) {i d : Nat} (h : i + (d + 1) = l.length) {x : α} (hx : x = l[i]'(by omega)) : List.set (l.take i ++ List.replicate (d + 1) z) i x = l.take (i + 1) ++ List.replicate d z := by
  subst hx
  rw [List.set_append_right _ _ (by simp; omega), List.take_succ_eq_append_getElem (i := i) (by omega)]
  simp only [List.length_take, Nat.min_eq_left (show i ≤ l.length by omega), Nat.sub_self, List.replicate_succ, List.set_cons_zero, List.append_assoc, List.singleton_append]

theorem big_ok {n b : Nat} (h : n ≤ 1048576) (hb : b ≤ 100) : Nat.ble (Int.toNat (n : Int)) (bigOf b) = true := by
  rw [Nat.ble_eq]
  simp only [bigOf, Int.toNat_natCast]
  exact Nat.le_trans h ((Nat.le_div_iff_mul_le (by omega)).2 (by
    have : 1048576 * (b + 1) ≤ 1048576 * 101 := Nat.mul_le_mul_left _ (by omega)
    omega))

theorem toRangeS_l0 {R : Type} (N : Nat) (l : List Rng) (hl : l.length ≤ 1048576) (k : List Rng → Option R) : ∀ (d n i : Nat), i + d = l.length → d < n → F.laws_toRangeS_l0 N n l (i : Int) (l.take i ++ List.replicate d (0, 0)) k = k l := by
  intro d
  induction d with
  | zero =>
    intro n i hi hn
    obtain ⟨n, rfl⟩ : ∃ m, n = m + 1 := ⟨n - 1, by omega⟩
    simp only [F.laws_toRangeS_l0, F.laws_toRangeS_l0_s, Bool.cond_decide]
    rw [if_neg (by omega)]
    simp [show i = l.length by omega]
  | succ d ih =>
    intro n i hi hn
    obtain ⟨n, rfl⟩ : ∃ m, n = m + 1 := ⟨n - 1, by omega⟩
    simp only [F.laws_toRangeS_l0, F.laws_toRangeS_l0_s, F.laws_toRange, Bool.cond_decide]
    rw [if_pos (by omega), inB_true (by omega) (by omega), inB_true (by omega) (by simp; omega), wrap_id (by omega) (by omega)]
    simp only [cond_true, Int.toNat_natCast]
    rw [set_next l _ hi (getD_at l _ (by omega))]
    have := ih n (i + 1) (by omega) (by omega)
    rw [show ((i + 1 : Nat) : Int) = (i : Int) + 1 by omega] at this
    exact this

theorem toRangeS {R : Type} (N : Nat) (l : List Rng) (hl : l.length ≤ 1048576) (hN : 1048576 < N) (k : List Rng → Option R) : F.laws_toRangeS N l k = k l := by
  simp only [F.laws_toRangeS, Bool.cond_decide]
  rw [if_pos (by omega), big_ok hl (by omega)]
  simp only [cond_true, Int.toNat_natCast]
  exact toRangeS_l0 N l hl k l.length N 0 (by omega) (by omega)

theorem toNodeS_l0 {R : Type} (N : Nat) (l : List Nod) (hl : SmallN l) (hN : 1048576 < N) (k : List Nod → Option R) : ∀ (d n i : Nat), i + d = l.length → d < n → F.laws_toNodeS_l0 N n l (i : Int) (l.take i ++ List.replicate d (0, ([], (0, (0, 0))))) k = k l := by
  have hl1 := hl.1
  intro d
  induction d with
  | zero =>
    intro n i hi hn
    obtain ⟨n, rfl⟩ : ∃ m, n = m + 1 := ⟨n - 1, by omega⟩
    simp only [F.laws_toNodeS_l0, F.laws_toNodeS_l0_s, Bool.cond_decide]
    rw [if_neg (by omega)]
    simp [show i = l.length by omega]
  | succ d ih =>
    intro n i hi hn
    obtain ⟨n, rfl⟩ : ∃ m, n = m + 1 := ⟨n - 1, by omega⟩
    simp only [F.laws_toNodeS_l0, F.laws_toNodeS_l0_s, F.laws_toNode, Bool.cond_decide]
    rw [if_pos (by omega), inB_true (by omega) (by omega)]
    simp only [cond_true, Int.toNat_natCast]
    rw [getD_at l _ (show i < l.length by omega), toRangeS N _ (hl.2 l[i] (List.getElem_mem (by omega))) hN, inB_true (by omega) (by simp; omega), wrap_id (by omega) (by omega)]
    simp only [cond_true]
    rw [set_next l _ hi rfl]
    have := ih n (i + 1) (by omega) (by omega)
    rw [show ((i + 1 : Nat) : Int) = (i : Int) + 1 by omega] at this
    exact this

theorem toNodeS {R : Type} (N : Nat) (l : List Nod) (hl : SmallN l) (hN : 1048576 < N) (k : List Nod → Option R) : F.laws_toNodeS N l k = k l := by
  have hl1 := hl.1
  simp only [F.laws_toNodeS, Bool.cond_decide]
  rw [if_pos (by omega), big_ok hl.1 (by omega)]
  simp only [cond_true, Int.toNat_natCast]
  exact toNodeS_l0 N l hl hN k l.length N 0 (by omega) (by omega)

theorem toBranchS_l0 {R : Type} (N : Nat) (l : List Bra) (hl : SmallB l) (hN : 1048576 < N) (k : List Bra → Option R) : ∀ (d n i : Nat), i + d = l.length → d < n → F.laws_toBranchS_l0 N n l (i : Int) (l.take i ++ List.replicate d (false, (false, []))) k = k l := by
  have hl1 := hl.1
  intro d
  induction d with
  | zero =>
    intro n i hi hn
    obtain ⟨n, rfl⟩ : ∃ m, n = m + 1 := ⟨n - 1, by omega⟩
    simp only [F.laws_toBranchS_l0, F.laws_toBranchS_l0_s, Bool.cond_decide]
    rw [if_neg (by omega)]
    simp [show i = l.length by omega]
  | succ d ih =>
    intro n i hi hn
    obtain ⟨n, rfl⟩ : ∃ m, n = m + 1 := ⟨n - 1, by omega⟩
    simp only [F.laws_toBranchS_l0, F.laws_toBranchS_l0_s, F.laws_toBranch, Bool.cond_decide]
    rw [if_pos (by omega), inB_true (by omega) (by omega)]
    simp only [cond_true, Int.toNat_natCast]
    rw [getD_at l _ (show i < l.length by omega), toNodeS N _ (hl.2 l[i] (List.getElem_mem (by omega))) hN, inB_true (by omega) (by simp; omega), wrap_id (by omega) (by omega)]
    simp only [cond_true]
    rw [set_next l _ hi rfl]
    have := ih n (i + 1) (by omega) (by omega)
    rw [show ((i + 1 : Nat) : Int) = (i : Int) + 1 by omega] at this
    exact this

theorem toRule {R : Type} (N : Nat) (bs : List Bra) (g : Int) (hl : SmallB bs) (hN : 1048576 < N) (k : Int → List Bra → Option R) : F.laws_toRule N bs g k = k g bs := by
  have hl1 := hl.1
  simp only [F.laws_toRule, F.laws_toBranchS, Bool.cond_decide]
  rw [if_pos (by omega), big_ok hl.1 (by omega)]
  simp only [cond_true, Int.toNat_natCast]
  exact toBranchS_l0 N bs hl hN (fun r3 => k g r3) bs.length N 0 (by omega) (by omega)

theorem eqRangeS_l0 {R : Type} (N : Nat) (l : List Rng) (hl : l.length ≤ 1048576) (k : Unit → Option R) (k' : Bool → Option R) : ∀ (d n i : Nat), i + d = l.length → d < n → F.laws_eqRangeS_l0 N n l l (i : Int) k k' = k () := by
  intro d
  induction d with
  | zero =>
    intro n i hi hn
    obtain ⟨n, rfl⟩ : ∃ m, n = m + 1 := ⟨n - 1, by omega⟩
    simp only [F.laws_eqRangeS_l0, F.laws_eqRangeS_l0_s, Bool.cond_decide]
    rw [if_neg (by omega)]
  | succ d ih =>
    intro n i hi hn
    obtain ⟨n, rfl⟩ : ∃ m, n = m + 1 := ⟨n - 1, by omega⟩
    simp only [F.laws_eqRangeS_l0, F.laws_eqRangeS_l0_s, F.laws_eqRange, Bool.cond_decide]
    rw [if_pos (by omega), inB_true (by omega) (by omega), wrap_id (by omega) (by omega)]
    simp only [cond_true, bne_self_eq_false, cond_false, Bool.not_true]
    have := ih n (i + 1) (by omega) (by omega)
    rw [show ((i + 1 : Nat) : Int) = (i : Int) + 1 by omega] at this
    exact this

theorem eqRangeS {R : Type} (N : Nat) (l : List Rng) (hl : l.length ≤ 1048576) (hN : 1048576 < N) (k : Bool → Option R) : F.laws_eqRangeS N l l k = k true := by
  simp only [F.laws_eqRangeS, bne_self_eq_false, cond_false]
  exact eqRangeS_l0 N l hl _ _ l.length N 0 (by omega) (by omega)

theorem eqNodeS_l0 {R : Type} (N : Nat) (l : List Nod) (hl : SmallN l) (hN : 1048576 < N) (k : Unit → Option R) (k' : Bool → Option R) : ∀ (d n i : Nat), i + d = l.length → d < n → F.laws_eqNodeS_l0 N n l l (i : Int) k k' = k () := by
  have hl1 := hl.1
  intro d
  induction d with
  | zero =>
    intro n i hi hn
    obtain ⟨n, rfl⟩ : ∃ m, n = m + 1 := ⟨n - 1, by omega⟩
    simp only [F.laws_eqNodeS_l0, F.laws_eqNodeS_l0_s, Bool.cond_decide]
    rw [if_neg (by omega)]
  | succ d ih =>
    intro n i hi hn
    obtain ⟨n, rfl⟩ : ∃ m, n = m + 1 := ⟨n - 1, by omega⟩
    simp only [F.laws_eqNodeS_l0, F.laws_eqNodeS_l0_s, F.laws_eqNode]
    rw [decide_eq_true (show (i : Int) < (l.length : Int) by omega), inB_true (by omega) (by omega)]
    simp only [cond_true, Int.toNat_natCast, bne_self_eq_false, cond_false]
    rw [getD_at l _ (show i < l.length by omega), eqRangeS N _ (hl.2 l[i] (List.getElem_mem (by omega))) hN, wrap_id (by omega) (by omega)]
    simp only [cond_true, bne_self_eq_false, cond_false, Bool.not_true]
    have := ih n (i + 1) (by omega) (by omega)
    rw [show ((i + 1 : Nat) : Int) = (i : Int) + 1 by omega] at this
    exact this

theorem eqNodeS {R : Type} (N : Nat) (l : List Nod) (hl : SmallN l) (hN : 1048576 < N) (k : Bool → Option R) : F.laws_eqNodeS N l l k = k true := by
  simp only [F.laws_eqNodeS, bne_self_eq_false, cond_false]
  exact eqNodeS_l0 N l hl hN _ _ l.length N 0 (by omega) (by have := hl.1; omega)

theorem eqBranchS_l0 {R : Type} (N : Nat) (l : List Bra) (hl : SmallB l) (hN : 1048576 < N) (k : Unit → Option R) (k' : Bool → Option R) : ∀ (d n i : Nat), i + d = l.length → d < n → F.laws_eqBranchS_l0 N n l l (i : Int) k k' = k () := by
  have hl1 := hl.1
  intro d
  induction d with
  | zero =>
    intro n i hi hn
    obtain ⟨n, rfl⟩ : ∃ m, n = m + 1 := ⟨n - 1, by omega⟩
    simp only [F.laws_eqBranchS_l0, F.laws_eqBranchS_l0_s, Bool.cond_decide]
    rw [if_neg (by omega)]
  | succ d ih =>
    intro n i hi hn
    obtain ⟨n, rfl⟩ : ∃ m, n = m + 1 := ⟨n - 1, by omega⟩
    simp only [F.laws_eqBranchS_l0, F.laws_eqBranchS_l0_s, F.laws_eqBranch]
    rw [decide_eq_true (show (i : Int) < (l.length : Int) by omega), inB_true (by omega) (by omega)]
    simp only [cond_true, Int.toNat_natCast, beq_self_eq_true, Bool.not_true, cond_false]
    rw [getD_at l _ (show i < l.length by omega), eqNodeS N _ (hl.2 l[i] (List.getElem_mem (by omega))) hN, wrap_id (by omega) (by omega)]
    simp only [cond_true, bne_self_eq_false, cond_false, Bool.not_true]
    have := ih n (i + 1) (by omega) (by omega)
    rw [show ((i + 1 : Nat) : Int) = (i : Int) + 1 by omega] at this
    exact this

theorem eqRule {R : Type} (N : Nat) (bs : List Bra) (g : Int) (hl : SmallB bs) (hN : 1048576 < N) (k : Bool → Option R) : F.laws_eqRule N bs g bs g k = k true := by
  simp only [F.laws_eqRule, F.laws_eqBranchS, bne_self_eq_false, cond_false]
  have := eqBranchS_l0 N bs hl hN (fun _ => k true) (fun y => bif !y then k false else k true) bs.length N 0 (by omega) (by have := hl.1; omega)
  rw [show ((0 : Nat) : Int) = 0 from rfl] at this
  simpa using this
/-! ### a node in order -/

/-- A set in order, behind a range that ended at 'last'. -/
def setF : Int → List Rng → Bool
  | _, [] => true
  | last, (lo, hi) :: r => decide (last + 2 ≤ lo ∧ lo ≤ hi ∧ hi ≤ 255) && setF hi r

theorem setOk_l0 {R : Type} (N : Nat) (l : List Rng) (hl : l.length ≤ 1048576) (k : Bool → Option R) : ∀ (d n i : Nat) (last : Int), i + d = l.length → d < n → -2 ≤ last → last ≤ 255 →
    F.impl_setOk_l0 N n last l (l.length : Int) (i : Int) (fun _ => k true) (fun y => k y) = k (setF last (l.drop i)) := by
  intro d
  induction d with
  | zero =>
    intro n i last hi hn g0 g1
    obtain ⟨n, rfl⟩ : ∃ m, n = m + 1 := ⟨n - 1, by omega⟩
    simp only [F.impl_setOk_l0, F.impl_setOk_l0_s, Bool.cond_decide]
    rw [if_neg (by omega), List.drop_of_length_le (by omega)]
    rfl
  | succ d ih =>
    intro n i last hi hn g0 g1
    obtain ⟨n, rfl⟩ : ∃ m, n = m + 1 := ⟨n - 1, by omega⟩
    simp only [F.impl_setOk_l0, F.impl_setOk_l0_s, Bool.cond_decide]
    rw [if_pos (by omega), inB_true (by omega) (by omega), wrap_id (n := (i : Int) + 1) (by omega) (by omega), wrap_id (n := last + 2) (by omega) (by omega), List.drop_eq_getElem_cons (show i < l.length by omega)]
    simp only [cond_true, Int.toNat_natCast]
    rw [getD_at l _ (show i < l.length by omega)]
    generalize l[i] = p
    obtain ⟨lo, hi'⟩ := p
    simp only [setF]
    by_cases h1 : lo < last + 2
    · rw [if_pos h1, decide_eq_false (by omega)]; rfl
    rw [if_neg h1]
    by_cases h2 : lo > hi'
    · rw [if_pos h2, decide_eq_false (by omega)]; rfl
    rw [if_neg h2]
    by_cases h3 : hi' > 255
    · rw [if_pos h3, decide_eq_false (by omega)]; rfl
    rw [if_neg h3, decide_eq_true (by omega), Bool.true_and]
    have := ih n (i + 1) hi' (by omega) (by omega) (by omega) (by omega)
    rw [show ((i + 1 : Nat) : Int) = (i : Int) + 1 by omega] at this
    exact this

theorem implSetOk {R : Type} (N : Nat) (l : List Rng) (hl : l.length ≤ 1048576) (hN : 1048576 < N) (k : Bool → Option R) : F.impl_setOk N l k = k (setF (-2) l) := by
  simp only [F.impl_setOk]
  exact setOk_l0 N l hl k l.length N 0 (-2) (by omega) (by omega) (by omega) (by omega)

/-- The end of the range before. -/
def lastOf (l : List Rng) (i : Nat) : Int := if i = 0 then -2 else (List.getD l (i - 1) (0, 0)).2

theorem specSet_l0 {R : Type} (N : Nat) (l : List Rng) (hl : l.length ≤ 1048576) (x9 : Int) (x11 x12 x13 : Int) (k : Bool → Option R) : ∀ (d n i : Nat), i + d = l.length → d < n → -2 ≤ lastOf l i → lastOf l i ≤ 255 → (0 < i → 0 ≤ lastOf l i) →
    F.spec_l1NodeOK_l0 N n l (l.length : Int) (i : Int) x9 l x11 x12 x13 (fun _ => k true) (fun y => k y) = k (setF (lastOf l i) (l.drop i)) := by
  intro d
  induction d with
  | zero =>
    intro n i hi hn g0 g1 g2
    obtain ⟨n, rfl⟩ : ∃ m, n = m + 1 := ⟨n - 1, by omega⟩
    simp only [F.spec_l1NodeOK_l0, F.spec_l1NodeOK_l0_s, Bool.cond_decide]
    rw [if_neg (by omega), List.drop_of_length_le (by omega)]
    rfl
  | succ d ih =>
    intro n i hi hn g0 g1 g2
    obtain ⟨n, rfl⟩ : ∃ m, n = m + 1 := ⟨n - 1, by omega⟩
    simp only [F.spec_l1NodeOK_l0, F.spec_l1NodeOK_l0_s, Bool.cond_decide]
    rw [if_pos (by omega), inB_true (by omega) (by omega), wrap_id (n := (i : Int) + 1) (by omega) (by omega), List.drop_eq_getElem_cons (show i < l.length by omega)]
    simp only [cond_true, Int.toNat_natCast]
    have hnx : lastOf l (i + 1) = l[i].2 := by
      simp only [lastOf, Nat.add_sub_cancel]
      rw [if_neg (by omega), getD_at l _ (show i < l.length by omega)]
    simp only [getD_at l _ (show i < l.length by omega)]
    have ih' := ih n (i + 1) (by omega) (by omega)
    rw [hnx, show ((i + 1 : Nat) : Int) = (i : Int) + 1 by omega] at ih'
    generalize l[i] = p at ih' ⊢
    obtain ⟨lo, hi'⟩ := p
    simp only [setF] at ih' ⊢
    by_cases h1 : lo < 0
    · rw [if_pos h1, decide_eq_false (by
        by_cases h : 0 < i
        · have := g2 h; omega
        · have : lastOf l i = -2 := by simp only [lastOf]; rw [if_pos (by omega)]
          omega)]
      rfl
    rw [if_neg h1]
    by_cases h2 : lo > hi'
    · rw [if_pos h2, decide_eq_false (by omega)]; rfl
    rw [if_neg h2]
    by_cases h3 : hi' > 255
    · rw [if_pos h3, decide_eq_false (by omega)]; rfl
    rw [if_neg h3]
    by_cases h4 : (i : Int) > 0
    · rw [if_pos h4, wrap_id (n := (i : Int) - 1) (by omega) (by omega), inB_true (by omega) (by omega)]
      simp only [cond_true]
      have e : (List.getD l (Int.toNat ((i : Int) - 1)) (0, 0)).2 = lastOf l i := by
        simp only [lastOf]
        rw [if_neg (by omega), show Int.toNat ((i : Int) - 1) = i - 1 by omega]
      rw [e, wrap_id (n := lastOf l i + 2) (by omega) (by omega)]
      by_cases h5 : lo < lastOf l i + 2
      · rw [if_pos h5, decide_eq_false (by omega)]; rfl
      rw [if_neg h5, decide_eq_true (by omega), Bool.true_and]
      exact ih' (by omega) (by omega) (by omega)
    · rw [if_neg h4]
      have : lastOf l i = -2 := by simp only [lastOf]; rw [if_pos (by omega)]
      rw [decide_eq_true (by omega), Bool.true_and]
      exact ih' (by omega) (by omega) (by omega)

theorem specSet {R : Type} (N : Nat) (l : List Rng) (hl : l.length ≤ 1048576) (hN : 1048576 < N) (x9 x11 x12 x13 : Int) (k : Bool → Option R) :
    F.spec_l1NodeOK_l0 N N l (l.length : Int) 0 x9 l x11 x12 x13 (fun _ => k true) (fun y => k y) = k (setF (-2) l) := by
  have := specSet_l0 N l hl x9 x11 x12 x13 k l.length N 0 (by omega) (by omega) (by simp [lastOf]) (by simp [lastOf]) (by omega)
  exact this

/-- A node in order. -/
def nodeOk (x : Nod) : Bool :=
  decide (1 ≤ x.1 ∧ x.1 ≤ 5 ∧ (x.1 ≠ 1 → x.2.1.length = 0) ∧ (x.1 ≠ 5 → x.2.2.2.2 = 0) ∧ (x.1 ≠ 4 → x.2.2.1 = 0 ∧ x.2.2.2.1 = 0) ∧ (x.1 = 4 → 0 ≤ x.2.2.1 ∧ x.2.2.1 ≤ 255 ∧ (x.2.2.2.1 = -1 ∨ x.2.2.1 ≤ x.2.2.2.1 ∧ x.2.2.2.1 ≤ 255))) && setF (-2) x.2.1

theorem setF_nil {l : List Rng} (h : l.length = 0) (z : Int) : setF z l = true := by
  cases l with
  | nil => rfl
  | cons => simp at h

theorem implNodeOk {R : Type} (N : Nat) (x1 : Int) (x2 : List Rng) (x3 x4 x5 : Int) (hl : x2.length ≤ 1048576) (hN : 1048576 < N) (k : Bool → Option R) : F.impl_Node_ok N x1 x2 x3 x4 x5 k = k (nodeOk (x1, x2, x3, x4, x5)) := by
  simp only [F.impl_Node_ok, implSetOk N x2 hl hN, nodeOk]
  by_cases k1 : x1 = 1
  · subst k1
    by_cases a : x3 = 0 <;> by_cases b : x4 = 0 <;> by_cases c : x5 = 0 <;> simp [Bool.cond_eq_ite, a, b, c]
  by_cases hz : x2.length = 0
  case neg =>
    simp only [show (x1 != 1) = true by simpa using k1, decide_eq_true (show (x2.length : Int) > 0 by omega), cond_true]
    rw [decide_eq_false (fun h => hz (h.2.2.1 k1))]
    rfl
  have hd : decide ((x2.length : Int) > 0) = false := by rw [decide_eq_false]; omega
  simp only [hd, show (x1 != 1) = true by simpa using k1, show (x1 == 1) = false by simpa using k1, setF_nil hz, hz, Bool.and_true, cond_true, cond_false]
  by_cases k4 : x1 = 4
  · subst k4
    by_cases c : x5 = 0
    case neg => simp [Bool.cond_eq_ite, c]
    by_cases h1 : 0 ≤ x3
    case neg => simp [Bool.cond_eq_ite, c, h1]
    by_cases h2 : x3 ≤ 255
    case neg => simp [Bool.cond_eq_ite, c, h1, h2]
    by_cases h3 : x4 = -1
    · simp [Bool.cond_eq_ite, c, h1, h2, h3]
    by_cases h4 : x3 ≤ x4
    · simp [Bool.cond_eq_ite, c, h1, h2, h3, h4]
    · simp [Bool.cond_eq_ite, c, h1, h2, h3, h4]
  by_cases a : x3 = 0
  case neg => simp [Bool.cond_eq_ite, a, k4]
  by_cases b : x4 = 0
  case neg => simp [Bool.cond_eq_ite, a, b, k4]
  by_cases k5 : x1 = 5
  · subst k5
    simp [Bool.cond_eq_ite, a, b]
  by_cases c : x5 = 0
  case neg => simp [Bool.cond_eq_ite, a, b, c, k4, k5]
  by_cases k2 : x1 = 2
  · subst k2
    simp [Bool.cond_eq_ite, a, b, c]
  by_cases k3 : x1 = 3
  · subst k3
    simp [Bool.cond_eq_ite, a, b, c]
  by_cases q : 1 ≤ x1
  · simp [Bool.cond_eq_ite, a, b, c, k1, k2, k3, k4, k5, show ¬ x1 ≤ 5 by omega]
  · simp [Bool.cond_eq_ite, a, b, c, k1, k2, k3, k4, k5, q]

theorem specNodeOk {R : Type} (N : Nat) (x1 : Int) (x2 : List Rng) (x3 x4 x5 : Int) (hl : x2.length ≤ 1048576) (hN : 1048576 < N) (k : Bool → Option R) : F.spec_l1NodeOK N x1 x2 x3 x4 x5 k = k (nodeOk (x1, x2, x3, x4, x5)) := by
  simp only [F.spec_l1NodeOK, specSet N x2 hl hN, nodeOk, F.spec_l1Between]
  by_cases g1 : x1 < 1
  · simp [Bool.cond_eq_ite, g1, show ¬ 1 ≤ x1 by omega]
  by_cases g2 : x1 > 5
  · simp [Bool.cond_eq_ite, g1, g2, show ¬ x1 ≤ 5 by omega]
  simp only [decide_eq_false g1, decide_eq_false g2, cond_false]
  by_cases k1 : x1 = 1
  · subst k1
    by_cases a : x3 = 0 <;> by_cases b : x4 = 0 <;> by_cases c : x5 = 0 <;> simp [Bool.cond_eq_ite, a, b, c]
  by_cases hz : x2.length = 0
  case neg =>
    have hd : ((x2.length : Int) != 0) = true := by rw [bne_iff_ne]; omega
    simp only [hd, show (x1 != 1) = true by simpa using k1, cond_true]
    rw [decide_eq_false (show ¬ (1 ≤ x1 ∧ x1 ≤ 5 ∧ (x1 ≠ 1 → x2.length = 0) ∧ _) from fun h => hz (h.2.2.1 k1))]
    rfl
  have hd : ((x2.length : Int) != 0) = false := by simp [Bool.cond_eq_ite, hz]
  simp only [hd, show (x1 != 1) = true by simpa using k1, setF_nil hz, hz, Bool.and_true, cond_true, cond_false]
  by_cases k4 : x1 = 4
  · subst k4
    by_cases c : x5 = 0
    case neg => simp [Bool.cond_eq_ite, c]
    by_cases h1 : 0 ≤ x3
    case neg => simp [Bool.cond_eq_ite, c, h1]
    by_cases h2 : x3 ≤ 255
    case neg => simp [Bool.cond_eq_ite, c, h1, h2]
    by_cases h3 : x4 = -1
    · simp [Bool.cond_eq_ite, c, h1, h2, h3]
    by_cases h4 : x3 ≤ x4
    · by_cases h5 : x4 ≤ 255 <;> simp [Bool.cond_eq_ite, c, h1, h2, h3, h4, h5]
    · simp [Bool.cond_eq_ite, c, h1, h2, h3, h4]
  by_cases a : x3 = 0
  case neg => by_cases k5 : x1 = 5 <;> by_cases c : x5 = 0 <;> simp [Bool.cond_eq_ite, a, c, k4, k5]
  by_cases b : x4 = 0
  case neg => by_cases k5 : x1 = 5 <;> by_cases c : x5 = 0 <;> simp [Bool.cond_eq_ite, a, b, c, k4, k5]
  by_cases k5 : x1 = 5
  · subst k5
    simp [Bool.cond_eq_ite, a, b]
  by_cases c : x5 = 0
  case neg => simp [Bool.cond_eq_ite, a, b, c, k4, k5]
  simp [Bool.cond_eq_ite, a, b, c, k4, k5, show 1 ≤ x1 by omega, show x1 ≤ 5 by omega]
/-! ### the stack of a branch -/

def arity (k : Int) : Nat := if k = 2 ∨ k = 3 then 2 else if k = 4 ∨ k = 5 then 1 else 0

/-- What spec.l1Kids makes: (does it work out so far, left parts, right parts, stack). -/
def kidsF : List Nod → Int → List Int → List Int → List Int → Bool × List Int × List Int × List Int
  | [], _, L, Q, S => (true, L, Q, S)
  | x :: r, i, L, Q, S =>
    if S.length < arity x.1 then (false, L, Q, S)
    else if arity x.1 = 2 then kidsF r (i + 1) (L ++ [List.getD S (S.length - 2) 0]) (Q ++ [List.getD S (S.length - 1) 0]) (S.take (S.length - 2) ++ [i])
    else if arity x.1 = 1 then kidsF r (i + 1) (L ++ [List.getD S (S.length - 1) 0]) (Q ++ [-1]) (S.take (S.length - 1) ++ [i])
    else kidsF r (i + 1) (L ++ [-1]) (Q ++ [-1]) (S ++ [i])

theorem specArity {R : Type} (x : Int) (k : Int → Option R) : F.spec_l1Arity x k = k (arity x : Int) := by
  simp only [F.spec_l1Arity, arity]
  by_cases h2 : x = 2
  · subst h2; rfl
  by_cases h3 : x = 3
  · subst h3; rfl
  by_cases h4 : x = 4
  · subst h4; rfl
  by_cases h5 : x = 5
  · subst h5; rfl
  simp [Bool.cond_eq_ite, h2, h3, h4, h5]

theorem room8 {a b : Nat} (h : a + b ≤ 2097152) : Nat.ble (a + b) (bigOf 8) = true := by
  rw [Nat.ble_eq]
  simp only [bigOf]
  omega

theorem arity_le (k : Int) : arity k ≤ 2 := by
  unfold arity
  split
  · omega
  · split <;> omega

theorem kids_l0 {R : Type} (N : Nat) (l : List Nod) (hl : l.length ≤ 1048576) (k : List Int → List Int → List Int → Option R) (k' : Bool → List Int → List Int → List Int → Option R) : ∀ (d n i : Nat) (L Q S : List Int), i + d = l.length → d < n → L.length = i → Q.length = i → S.length ≤ i →
    F.spec_l1Kids_l0 N n l (l.length : Int) (i : Int) L Q S k k' = (match kidsF (l.drop i) i L Q S with
      | (true, L', Q', S') => k L' Q' S'
      | (false, L', Q', S') => k' false L' Q' S') := by
  intro d
  induction d with
  | zero =>
    intro n i L Q S hi hn hL hQ hS
    obtain ⟨n, rfl⟩ : ∃ m, n = m + 1 := ⟨n - 1, by omega⟩
    simp only [F.spec_l1Kids_l0, F.spec_l1Kids_l0_s, Bool.cond_decide]
    rw [if_neg (by omega), List.drop_of_length_le (by omega)]
    rfl
  | succ d ih =>
    intro n i L Q S hi hn hL hQ hS
    obtain ⟨n, rfl⟩ : ∃ m, n = m + 1 := ⟨n - 1, by omega⟩
    simp only [F.spec_l1Kids_l0, F.spec_l1Kids_l0_s, specArity]
    rw [List.drop_eq_getElem_cons (show i < l.length by omega)]
    simp only [kidsF]
    rw [decide_eq_true (show (i : Int) < (l.length : Int) by omega), inB_true (i := (i : Int)) (n := l.length) (by omega) (by omega)]
    simp only [cond_true, Int.toNat_natCast, getD_at l _ (show i < l.length by omega)]
    generalize l[i] = x
    have hA := arity_le x.1
    generalize arity x.1 = A at hA
    have e1 : ((i + 1 : Nat) : Int) = (i : Int) + 1 := by omega
    by_cases h : S.length < A
    · rw [decide_eq_true (show (S.length : Int) < (A : Int) by omega), if_pos h]
      rfl
    rw [decide_eq_false (show ¬ (S.length : Int) < (A : Int) by omega), if_neg h, wrap_id (n := (i : Int) + 1) (by omega) (by omega)]
    simp only [cond_false]
    have one : ∀ y : Int, ([y] : List Int).length = 1 := fun _ => rfl
    have go : ∀ (y z : Int) (T : List Int), T.length ≤ i → (bif Nat.ble (L.length + ([y] : List Int).length) (bigOf 8) then bif Nat.ble (Q.length + ([z] : List Int).length) (bigOf 8) then bif Nat.ble (T.length + ([(i : Int)] : List Int).length) (bigOf 8) then
          F.spec_l1Kids_l0 N n l (l.length : Int) ((i : Int) + 1) (L ++ [y]) (Q ++ [z]) (T ++ [(i : Int)]) k k' else none else none else none) =
        (match kidsF (l.drop (i + 1)) ((i : Int) + 1) (L ++ [y]) (Q ++ [z]) (T ++ [(i : Int)]) with
          | (true, L', Q', S') => k L' Q' S'
          | (false, L', Q', S') => k' false L' Q' S') := by
      intro y z T hT
      rw [one, one, one, room8 (by omega), room8 (by omega), room8 (by omega)]
      simp only [cond_true]
      have := ih n (i + 1) (L ++ [y]) (Q ++ [z]) (T ++ [(i : Int)]) (by omega) (by omega) (by simp [hL]) (by simp [hQ]) (by simp; omega)
      rw [e1] at this
      exact this
    by_cases h2 : A = 2
    · subst h2
      rw [show (((2 : Nat) : Int) == 2) = true from rfl, show decide (((2 : Nat) : Int) ≥ 1) = true from rfl, wrap_id (n := (S.length : Int) - 1) (by omega) (by omega)]
      rw [show Int.toNat ((S.length : Int) - 1) = S.length - 1 by omega]
      rw [show (((S.length - 1 : Nat) : Int) - 0 - 1) = (S.length : Int) - 2 by omega, wrap_id (n := (S.length : Int) - 2) (by omega) (by omega), show Int.toNat ((S.length : Int) - 2) = S.length - 2 by omega]
      rw [inB_true (i := (S.length : Int) - 1) (n := S.length) (by omega) (by omega), inB_true (i := (S.length : Int) - 2) (n := S.length - 1 - 0) (by omega) (by omega), decide_eq_true (show 0 ≤ (S.length : Int) - 1 by omega), decide_eq_true (show (S.length : Int) - 1 ≤ (S.length : Int) by omega),
        decide_eq_true (show 0 ≤ (S.length : Int) - 2 by omega), decide_eq_true (show (S.length : Int) - 2 ≤ ((S.length - 1 : Nat) : Int) - 0 by omega), if_pos rfl]
      simp only [cond_true, Bool.and_self, Nat.sub_zero, Nat.zero_add, List.drop_zero]
      exact go _ _ _ (by simp; omega)
    by_cases h1 : A = 1
    · subst h1
      rw [show (((1 : Nat) : Int) == 2) = false from rfl, show decide (((1 : Nat) : Int) ≥ 1) = true from rfl, wrap_id (n := (S.length : Int) - 1) (by omega) (by omega)]
      rw [show Int.toNat ((S.length : Int) - 1) = S.length - 1 by omega]
      rw [inB_true (i := (S.length : Int) - 1) (n := S.length) (by omega) (by omega), decide_eq_true (show 0 ≤ (S.length : Int) - 1 by omega), decide_eq_true (show (S.length : Int) - 1 ≤ (S.length : Int) by omega), if_neg (by omega), if_pos rfl]
      simp only [cond_true, cond_false, Bool.and_self, Nat.sub_zero, Nat.zero_add, List.drop_zero]
      exact go _ _ _ (by simp; omega)
    obtain rfl : A = 0 := by omega
    rw [show (((0 : Nat) : Int) == 2) = false from rfl, show decide (((0 : Nat) : Int) ≥ 1) = false from rfl, if_neg (by omega), if_neg (by omega)]
    simp only [cond_false]
    exact go _ _ _ hS

theorem specKids {R : Type} (N : Nat) (l : List Nod) (hl : l.length ≤ 1048576) (hN : 1048576 < N) (k : Bool → List Int → List Int → Option R) :
    F.spec_l1Kids N l k = (match kidsF l 0 [] [] [] with
      | (true, L', Q', S') => k ((S'.length : Int) == 1) L' Q'
      | (false, L', Q', _) => k false L' Q') := by
  simp only [F.spec_l1Kids]
  exact kids_l0 N l hl (fun y12 y13 y14 => k ((List.length y14 : Int) == 1) y12 y13) (fun y15 y16 y17 _ => k y15 y16 y17) l.length N 0 [] [] [] (by omega) (by omega) rfl rfl (by simp)

/-! ### weights -/

/-- How often a repeated part counts. -/
def copies (x : Nod) : Int := if x.2.2.2.1 = -1 then x.2.2.1 + 1 else if x.2.2.2.1 < 1 then 1 else x.2.2.2.1

def cap (n : Int) : Int := if n > 2000 then 2001 else n

/-- The weight of a node whose parts weigh a and b. -/
def wOf (x : Nod) (a b : Int) : Int :=
  if x.1 = 1 then 1 else if x.1 = 2 ∨ x.1 = 3 then cap (a + b) else if x.1 = 4 then cap (a * copies x) else if x.1 = 5 then cap a else 0

/-- What impl's weigh makes of the nodes: the stack, none where it does not work out. -/
def weighF : List Nod → List Int → Option (List Int)
  | [], W => some W
  | x :: r, W =>
    if W.length < arity x.1 then none
    else if arity x.1 = 2 then weighF r (W.take (W.length - 2) ++ [wOf x (List.getD W (W.length - 2) 0) (List.getD W (W.length - 1) 0)])
    else if arity x.1 = 1 then weighF r (W.take (W.length - 1) ++ [wOf x (List.getD W (W.length - 1) 0) 0])
    else weighF r (W ++ [wOf x 0 0])

def Wts (W : List Int) : Prop := ∀ y ∈ W, 0 ≤ y ∧ y ≤ 2001

theorem nodeOk_copies {x : Nod} (h : nodeOk x = true) (h4 : x.1 = 4) : 1 ≤ copies x ∧ copies x ≤ 256 := by
  simp only [nodeOk, Bool.and_eq_true, decide_eq_true_eq] at h
  obtain ⟨⟨_, _, _, _, _, h⟩, _⟩ := h
  have := h h4
  unfold copies
  split
  · omega
  · split <;> omega

theorem implCopies {R : Type} (x : Nod) (h : nodeOk x = true) (h4 : x.1 = 4) (k : Int → Option R) : F.impl_Node_copies x.1 x.2.1 x.2.2.1 x.2.2.2.1 x.2.2.2.2 k = k (copies x) := by
  have hc := nodeOk_copies h h4
  simp only [F.impl_Node_copies, copies] at hc ⊢
  by_cases h1 : x.2.2.2.1 = -1
  · rw [if_pos h1] at hc ⊢
    rw [show (x.2.2.2.1 == -1) = true by simpa using h1, wrap_id (by omega) (by omega)]
    first | done | rfl
  · rw [if_neg h1, show (x.2.2.2.1 == -1) = false by simpa using h1]
    simp only [cond_false, Bool.cond_decide]

theorem specCopies {R : Type} (x : Nod) (h : nodeOk x = true) (h4 : x.1 = 4) (k : Int → Option R) : F.spec_l1Copies x.1 x.2.1 x.2.2.1 x.2.2.2.1 x.2.2.2.2 k = k (copies x) := by
  have hc := nodeOk_copies h h4
  simp only [F.spec_l1Copies, copies] at hc ⊢
  by_cases h1 : x.2.2.2.1 = -1
  · rw [if_pos h1] at hc ⊢
    rw [show (x.2.2.2.1 == -1) = true by simpa using h1, wrap_id (by omega) (by omega)]
    rfl
  · rw [if_neg h1, show (x.2.2.2.1 == -1) = false by simpa using h1]
    simp only [cond_false, Bool.cond_decide]
    by_cases h2 : x.2.2.2.1 < 1
    · rw [if_pos (by omega), if_pos h2]
    · rw [if_neg (by omega), if_neg h2]

theorem wOf_bound {x : Nod} (h : nodeOk x = true) {a b : Int} (ha : 0 ≤ a ∧ a ≤ 2001) (hb : 0 ≤ b ∧ b ≤ 2001) : 0 ≤ wOf x a b ∧ wOf x a b ≤ 2001 := by
  unfold wOf cap
  by_cases h1 : x.1 = 1
  · rw [if_pos h1]; omega
  rw [if_neg h1]
  by_cases h2 : x.1 = 2 ∨ x.1 = 3
  · rw [if_pos h2]; split <;> omega
  rw [if_neg h2]
  by_cases h4 : x.1 = 4
  · rw [if_pos h4]
    have hc := nodeOk_copies h h4
    have : 0 ≤ a * copies x := Int.mul_nonneg ha.1 (by omega)
    split <;> omega
  rw [if_neg h4]
  by_cases h5 : x.1 = 5
  · rw [if_pos h5]; split <;> omega
  · rw [if_neg h5]; omega

theorem Wts.getD {W : List Int} (h : Wts W) (i : Nat) : 0 ≤ List.getD W i 0 ∧ List.getD W i 0 ≤ 2001 := by
  by_cases hi : i < W.length
  · rw [getD_at W _ hi]; exact h _ (List.getElem_mem hi)
  · rw [List.getD_eq_getElem?_getD, List.getElem?_eq_none (by omega)]; simp

theorem Wts.take_snoc {W : List Int} (h : Wts W) (m : Nat) {y : Int} (hy : 0 ≤ y ∧ y ≤ 2001) : Wts (W.take m ++ [y]) := by
  intro z hz
  rcases List.mem_append.1 hz with hz | hz
  · exact h z (List.mem_of_mem_take hz)
  · rw [List.mem_singleton] at hz; subst hz; exact hy

theorem set_take {W : List Int} {m : Nat} (h : m + 2 = W.length) (y : Int) : (W.set m y).take (m + 1) = W.take m ++ [y] := by
  apply List.ext_getElem?
  intro j
  simp only [List.getElem?_take, List.getElem?_set, List.getElem?_append, List.length_take]
  by_cases h1 : j < m
  · simp [h1, show j < m + 1 by omega, show m ≠ j by omega, show j < min m W.length by omega]
  · by_cases h2 : j = m
    · subst h2; simp [show j < W.length by omega, show min j W.length = j by omega]
    · have : ¬ j < m + 1 := by omega
      rw [if_neg this, if_neg (by omega)]
      rw [List.getElem?_eq_none (by simp; omega)]

theorem set_last {W : List Int} {m : Nat} (h : m + 1 = W.length) (y : Int) : W.set m y = W.take m ++ [y] := by
  apply List.ext_getElem?
  intro j
  simp only [List.getElem?_take, List.getElem?_set, List.getElem?_append, List.length_take]
  by_cases h1 : j < m
  · simp [h1, show m ≠ j by omega, show j < min m W.length by omega]
  · by_cases h2 : j = m
    · subst h2; simp [show j < W.length by omega, show min j W.length = j by omega]
    · rw [if_neg (by omega), if_neg (by omega), List.getElem?_eq_none (by omega), List.getElem?_eq_none (by simp; omega)]

theorem min_cap {n : Int} : (bif decide (2001 < n) then (2001 : Int) else n) = cap n := by
  unfold cap
  rw [Bool.cond_decide]
  by_cases h : 2001 < n
  · rw [if_pos h, if_pos (by omega)]
  · rw [if_neg h]; split <;> omega

theorem weigh_l0 {R : Type} (N : Nat) (l : List Nod) (hl : l.length ≤ 1048576) (ok : ∀ x ∈ l, nodeOk x = true) (k : List Int → Option R) (k' : Int → Bool → List Int → Option R) (r : Option R) (hk' : ∀ y W, k' y false W = r) : ∀ (d n i : Nat) (W : List Int), i + d = l.length → d < n → W.length ≤ i → Wts W →
    F.impl_Branch_weigh_l0 N n l (l.length : Int) (i : Int) W k k' = (match weighF (l.drop i) W with
      | some W' => k W'
      | none => r) := by
  intro d
  induction d with
  | zero =>
    intro n i W hi hn hW hw
    obtain ⟨n, rfl⟩ : ∃ m, n = m + 1 := ⟨n - 1, by omega⟩
    simp only [F.impl_Branch_weigh_l0, F.impl_Branch_weigh_l0_s, Bool.cond_decide]
    rw [if_neg (by omega), List.drop_of_length_le (by omega)]
    rfl
  | succ d ih =>
    intro n i W hi hn hW hw
    obtain ⟨n, rfl⟩ : ∃ m, n = m + 1 := ⟨n - 1, by omega⟩
    simp only [F.impl_Branch_weigh_l0, F.impl_Branch_weigh_l0_s]
    have hx := ok l[i] (List.getElem_mem (by omega))
    rw [List.drop_eq_getElem_cons (show i < l.length by omega)]
    simp only [weighF]
    rw [decide_eq_true (show (i : Int) < (l.length : Int) by omega), inB_true (i := (i : Int)) (n := l.length) (by omega) (by omega)]
    simp only [cond_true, Int.toNat_natCast, getD_at l _ (show i < l.length by omega)]
    generalize l[i] = x at hx
    have e1 : ((i + 1 : Nat) : Int) = (i : Int) + 1 := by omega
    rw [wrap_id (n := (i : Int) + 1) (by omega) (by omega)]
    have go : ∀ W' : List Int, W'.length ≤ i + 1 → Wts W' → F.impl_Branch_weigh_l0 N n l (l.length : Int) ((i : Int) + 1) W' k k' = (match weighF (l.drop (i + 1)) W' with | some W'' => k W'' | none => r) := by
      intro W' h1 h2
      have := ih n (i + 1) W' (by omega) (by omega) h1 h2
      rw [e1] at this
      exact this
    have hb := fun j => hw.getD j
    by_cases k1 : x.1 = 1
    · have ha : arity x.1 = 0 := by simp [arity, k1]
      have hwx : wOf x 0 0 = 1 := by simp [wOf, k1]
      rw [show (x.1 == 1) = true by simpa using k1, show Nat.ble (W.length + List.length [1]) (bigOf 8) = true from room8 (by simp only [List.length_cons, List.length_nil]; omega), ha, if_neg (by omega), if_neg (by omega), if_neg (by omega), hwx]
      simp only [cond_true]
      exact go _ (by simp; omega) (by have := hw.take_snoc W.length (y := 1) (by omega); simpa using this)
    have n1 : (x.1 == 1) = false := by simpa using k1
    by_cases k2 : x.1 = 2
    · have ha : arity x.1 = 2 := by simp [arity, k2]
      have hwx : wOf x (List.getD W (W.length - 2) 0) (List.getD W (W.length - 1) 0) = cap (List.getD W (W.length - 2) 0 + List.getD W (W.length - 1) 0) := by simp [wOf, k2]
      rw [n1, show (x.1 == 2) = true by simpa using k2, ha]
      simp only [cond_true, cond_false]
      by_cases hlt : W.length < 2
      · rw [decide_eq_true (show (W.length : Int) < 2 by omega), if_pos hlt]
        exact hk' _ _
      rw [decide_eq_false (show ¬ (W.length : Int) < 2 by omega), if_neg hlt, if_pos trivial]
      simp only [cond_false]
      rw [wrap_id (n := (W.length : Int) - 2) (by omega) (by omega), wrap_id (n := (W.length : Int) - 1) (by omega) (by omega), show Int.toNat ((W.length : Int) - 2) = W.length - 2 by omega, show Int.toNat ((W.length : Int) - 1) = W.length - 1 by omega]
      have b1 := hb (W.length - 2)
      have b2 := hb (W.length - 1)
      rw [inB_true (i := (W.length : Int) - 2) (by omega) (by omega), inB_true (i := (W.length : Int) - 1) (by omega) (by omega), wrap_id (n := List.getD W (W.length - 2) 0 + List.getD W (W.length - 1) 0) (by omega) (by omega), min_cap]
      rw [List.length_set, decide_eq_true (show 0 ≤ (W.length : Int) - 1 by omega), decide_eq_true (show (W.length : Int) - 1 ≤ (W.length : Int) by omega)]
      simp only [cond_true, Bool.and_self, Nat.sub_zero, List.drop_zero]
      have e2 := set_take (W := W) (m := W.length - 2) (by omega) (cap (List.getD W (W.length - 2) 0 + List.getD W (W.length - 1) 0))
      rw [show W.length - 2 + 1 = W.length - 1 by omega] at e2
      rw [e2, hwx]
      refine go _ (by simp; omega) (hw.take_snoc _ ?_)
      unfold cap
      split <;> omega
    by_cases k3 : x.1 = 3
    · have ha : arity x.1 = 2 := by simp [arity, k3]
      have hwx : wOf x (List.getD W (W.length - 2) 0) (List.getD W (W.length - 1) 0) = cap (List.getD W (W.length - 2) 0 + List.getD W (W.length - 1) 0) := by simp [wOf, k3]
      rw [n1, show (x.1 == 2) = false by simpa using k2, show (x.1 == 3) = true by simpa using k3, ha]
      simp only [cond_true, cond_false]
      by_cases hlt : W.length < 2
      · rw [decide_eq_true (show (W.length : Int) < 2 by omega), if_pos hlt]
        exact hk' _ _
      rw [decide_eq_false (show ¬ (W.length : Int) < 2 by omega), if_neg hlt, if_pos trivial]
      simp only [cond_false]
      rw [wrap_id (n := (W.length : Int) - 2) (by omega) (by omega), wrap_id (n := (W.length : Int) - 1) (by omega) (by omega), show Int.toNat ((W.length : Int) - 2) = W.length - 2 by omega, show Int.toNat ((W.length : Int) - 1) = W.length - 1 by omega]
      have b1 := hb (W.length - 2)
      have b2 := hb (W.length - 1)
      rw [inB_true (i := (W.length : Int) - 2) (by omega) (by omega), inB_true (i := (W.length : Int) - 1) (by omega) (by omega), wrap_id (n := List.getD W (W.length - 2) 0 + List.getD W (W.length - 1) 0) (by omega) (by omega), min_cap]
      rw [List.length_set, decide_eq_true (show 0 ≤ (W.length : Int) - 1 by omega), decide_eq_true (show (W.length : Int) - 1 ≤ (W.length : Int) by omega)]
      simp only [cond_true, Bool.and_self, Nat.sub_zero, List.drop_zero]
      have e2 := set_take (W := W) (m := W.length - 2) (by omega) (cap (List.getD W (W.length - 2) 0 + List.getD W (W.length - 1) 0))
      rw [show W.length - 2 + 1 = W.length - 1 by omega] at e2
      rw [e2, hwx]
      refine go _ (by simp; omega) (hw.take_snoc _ ?_)
      unfold cap
      split <;> omega
    have n2 : (x.1 == 2) = false := by simpa using k2
    have n3 : (x.1 == 3) = false := by simpa using k3
    by_cases k4 : x.1 = 4
    · have ha : arity x.1 = 1 := by simp [arity, k4]
      have hwx : wOf x (List.getD W (W.length - 1) 0) 0 = cap (List.getD W (W.length - 1) 0 * copies x) := by simp [wOf, k4]
      rw [n1, n2, n3, show (x.1 == 4) = true by simpa using k4, ha, implCopies x hx k4]
      simp only [cond_true, cond_false]
      by_cases hlt : W.length < 1
      · rw [decide_eq_true (show (W.length : Int) < 1 by omega), if_pos hlt]
        exact hk' _ _
      rw [decide_eq_false (show ¬ (W.length : Int) < 1 by omega), if_neg hlt, if_neg (by omega), if_pos trivial]
      simp only [cond_false]
      rw [wrap_id (n := (W.length : Int) - 1) (by omega) (by omega), show Int.toNat ((W.length : Int) - 1) = W.length - 1 by omega]
      have b2 := hb (W.length - 1)
      have hc := nodeOk_copies hx k4
      have m0 : 0 ≤ List.getD W (W.length - 1) 0 * copies x := Int.mul_nonneg b2.1 (by omega)
      have m1 : List.getD W (W.length - 1) 0 * copies x ≤ 2001 * 256 := Int.mul_le_mul b2.2 hc.2 (by omega) (by omega)
      rw [inB_true (i := (W.length : Int) - 1) (by omega) (by omega), wrap_id (n := List.getD W (W.length - 1) 0 * copies x) (by omega) (by omega), min_cap]
      simp only [cond_true]
      rw [set_last (W := W) (m := W.length - 1) (by omega), hwx]
      refine go _ (by simp; omega) (hw.take_snoc _ ?_)
      unfold cap
      split <;> omega
    by_cases k5 : x.1 = 5
    · have ha : arity x.1 = 1 := by simp [arity, k5]
      have b2 := hb (W.length - 1)
      have hwx : wOf x (List.getD W (W.length - 1) 0) 0 = List.getD W (W.length - 1) 0 := by
        unfold wOf cap
        rw [if_neg k1, if_neg (by omega), if_neg k4, if_pos k5]
        split <;> omega
      rw [n1, n2, n3, show (x.1 == 4) = false by simpa using k4, show (x.1 == 5) = true by simpa using k5, ha]
      simp only [cond_true, cond_false]
      by_cases hlt : W.length < 1
      · rw [decide_eq_true (show (W.length : Int) < 1 by omega), if_pos hlt]
        exact hk' _ _
      rw [decide_eq_false (show ¬ (W.length : Int) < 1 by omega), if_neg hlt, if_neg (by omega), if_pos trivial, hwx]
      simp only [cond_false]
      have e3 : W.take (W.length - 1) ++ [List.getD W (W.length - 1) 0] = W := by
        rw [getD_at W _ (show W.length - 1 < W.length by omega), ← List.take_succ_eq_append_getElem (by omega), show W.length - 1 + 1 = W.length by omega, List.take_length]
      rw [e3]
      exact go _ (by omega) hw
    · exfalso
      simp only [nodeOk, Bool.and_eq_true, decide_eq_true_eq] at hx
      omega

/-- What impl's weigh answers for a branch. -/
def brW (l : List Nod) : Option Int := match weighF l [] with
  | some [w] => some w
  | _ => none

theorem implWeigh {R : Type} (N : Nat) (p q : Bool) (l : List Nod) (hl : l.length ≤ 1048576) (ok : ∀ x ∈ l, nodeOk x = true) (hN : 1048576 < N) (k : Int → Bool → Option R) (r : Option R) (hk : ∀ y, k y false = r) :
    F.impl_Branch_weigh N p q l k = (match brW l with | some w => k w true | none => r) := by
  simp only [F.impl_Branch_weigh]
  have := weigh_l0 N l hl ok (fun y10 => bif (List.length y10 : Int) != 1 then k 0 false else bif inB 0 (List.length y10) then k (List.getD y10 (Int.toNat 0) (0 : Int)) true else none) (fun y11 y12 _ => k y11 y12) r (fun y _ => hk y) l.length N 0 [] (by omega) (by omega) (by simp) (by simp [Wts])
  rw [show ((0 : Nat) : Int) = 0 from rfl] at this
  rw [this, List.drop_zero]
  unfold brW
  cases weighF l [] with
  | none => rfl
  | some W =>
    match W with
    | [] => exact hk _
    | [w] => rfl
    | a :: b :: W =>
      simp only
      rw [show ((List.length (a :: b :: W) : Int) != 1) = true by rw [bne_iff_ne]; simp only [List.length_cons]; omega]
      exact hk _
/-! ### the weights of the specification are those of the program -/

def pass2 (L Q : List Int) : List Nod → List Int → List Int
  | [], ws => ws
  | x :: r, ws => pass2 L Q r (ws ++ [wOf x (List.getD ws (List.getD L ws.length 0).toNat 0) (List.getD ws (List.getD Q ws.length 0).toNat 0)])

theorem getD_app {l m : List Int} {j : Nat} (h : j < l.length) : List.getD (l ++ m) j 0 = List.getD l j 0 := by
  simp [List.getD_eq_getElem?_getD, List.getElem?_append, h]

theorem getD_last {l : List Int} {y : Int} {j : Nat} (h : j = l.length) : List.getD (l ++ [y]) j 0 = y := by
  subst h; simp [List.getD_eq_getElem?_getD]

theorem pass2_pre (L Q : List Int) : ∀ (xs : List Nod) (ws : List Int) (j : Nat), j < ws.length → List.getD (pass2 L Q xs ws) j 0 = List.getD ws j 0
  | [], _, _, _ => rfl
  | x :: r, ws, j, h => by
    simp only [pass2]
    rw [pass2_pre L Q r _ j (by simp; omega), getD_app h]

theorem pass2_len (L Q : List Int) : ∀ (xs : List Nod) (ws : List Int), (pass2 L Q xs ws).length = ws.length + xs.length
  | [], _ => rfl
  | x :: r, ws => by
    simp only [pass2]
    rw [pass2_len L Q r]
    simp
    omega

theorem wOf_1 {x : Nod} (h : arity x.1 = 1) (a b : Int) : wOf x a b = wOf x a 0 := by
  unfold arity at h
  unfold wOf
  by_cases h2 : x.1 = 2 ∨ x.1 = 3
  · rw [if_pos h2] at h; omega
  · rw [if_neg h2, if_neg h2]

theorem wOf_0 {x : Nod} (h : arity x.1 = 0) (a b : Int) : wOf x a b = wOf x 0 0 := by
  unfold arity at h
  unfold wOf
  by_cases h2 : x.1 = 2 ∨ x.1 = 3
  · rw [if_pos h2] at h; omega
  · rw [if_neg h2] at h
    rw [if_neg h2, if_neg h2]
    by_cases h4 : x.1 = 4 ∨ x.1 = 5
    · rw [if_pos h4] at h; omega
    · rw [if_neg (fun e => h4 (.inl e)), if_neg (fun e => h4 (.inl e)), if_neg (fun e => h4 (.inr e)), if_neg (fun e => h4 (.inr e))]

/-- Parts that stand before their node. -/
def ValidAt (x : Nod) (j : Nat) (L Q : List Int) : Prop :=
  (1 ≤ arity x.1 → 0 ≤ List.getD L j 0 ∧ List.getD L j 0 < j) ∧ (arity x.1 = 2 → 0 ≤ List.getD Q j 0 ∧ List.getD Q j 0 < j)

/-- What the stack of indices stands for. -/
def vals (ws S : List Int) : List Int := S.map fun s => List.getD ws s.toNat 0

theorem vals_getD {ws S : List Int} {j : Nat} (h : j < S.length) : List.getD (vals ws S) j 0 = List.getD ws (List.getD S j 0).toNat 0 := by
  simp only [vals]
  rw [getD_at _ _ (by simpa using h), getD_at S _ h]
  simp

theorem vals_app {ws S : List Int} {y : Int} (h : ∀ s ∈ S, 0 ≤ s ∧ s < ws.length) : vals (ws ++ [y]) S = vals ws S := by
  unfold vals
  apply List.map_congr_left
  intro s hs
  have := h s hs
  exact getD_app (by omega)

theorem join : ∀ (xs : List Nod) (ws L Q S : List Int), L.length = ws.length → Q.length = ws.length → (∀ s ∈ S, 0 ≤ s ∧ s < ws.length) →
    (match kidsF xs (ws.length : Int) L Q S with
      | (true, L', Q', S') => L'.length = ws.length + xs.length ∧ Q'.length = ws.length + xs.length ∧ (∀ j, j < ws.length → List.getD L' j 0 = List.getD L j 0 ∧ List.getD Q' j 0 = List.getD Q j 0) ∧
          (∀ j (h : j < xs.length), ValidAt xs[j] (ws.length + j) L' Q') ∧ weighF xs (vals ws S) = some (vals (pass2 L' Q' xs ws) S') ∧ (xs ≠ [] → ∃ p, S' = p ++ [(ws.length + xs.length - 1 : Int)])
      | (false, _, _, _) => weighF xs (vals ws S) = none)
  | [], ws, L, Q, S, hL, hQ, hS => by
    simp only [kidsF]
    exact ⟨by simp [hL], by simp [hQ], (by intro j hj; first | trivial | exact ⟨rfl, rfl⟩), (fun j h => by simp at h), by first | rfl | trivial, fun h => (h rfl).elim⟩
  | x :: r, ws, L, Q, S, hL, hQ, hS => by
    have hvl : (vals ws S).length = S.length := by simp [vals]
    simp only [kidsF, weighF]
    rw [hvl]
    by_cases h : S.length < arity x.1
    · rw [if_pos h, if_pos h]
    rw [if_neg h, if_neg h]
    have hsd : ∀ j, j < S.length → 0 ≤ List.getD S j 0 ∧ List.getD S j 0 < ws.length := fun j hj => by
      rw [getD_at S _ hj]; exact hS _ (List.getElem_mem hj)
    -- one step
    have step : ∀ (y z v : Int) (m : Nat), v = wOf x (List.getD ws y.toNat 0) (List.getD ws z.toNat 0) → ((1 ≤ arity x.1 → 0 ≤ y ∧ y < ws.length) ∧ (arity x.1 = 2 → 0 ≤ z ∧ z < ws.length)) → m ≤ S.length →
        (match kidsF r ((ws.length : Int) + 1) (L ++ [y]) (Q ++ [z]) (S.take m ++ [(ws.length : Int)]) with
          | (true, L', Q', S') => L'.length = ws.length + (x :: r).length ∧ Q'.length = ws.length + (x :: r).length ∧ (∀ j, j < ws.length → List.getD L' j 0 = List.getD L j 0 ∧ List.getD Q' j 0 = List.getD Q j 0) ∧
              (∀ j (h : j < (x :: r).length), ValidAt (x :: r)[j] (ws.length + j) L' Q') ∧ weighF r ((vals ws S).take m ++ [v]) = some (vals (pass2 L' Q' (x :: r) ws) S') ∧ ((x :: r) ≠ [] → ∃ p, S' = p ++ [(ws.length + (x :: r).length - 1 : Int)])
          | (false, _, _, _) => weighF r ((vals ws S).take m ++ [v]) = none) := by
      intro y z v m hv hyz hm
      have hS' : ∀ s ∈ S.take m ++ [(ws.length : Int)], 0 ≤ s ∧ s < (ws ++ [v]).length := by
        intro s hs
        rcases List.mem_append.1 hs with hs | hs
        · have := hS s (List.mem_of_mem_take hs); simp; omega
        · simp only [List.mem_singleton] at hs; subst hs; simp; omega
      have hvals : vals (ws ++ [v]) (S.take m ++ [(ws.length : Int)]) = (vals ws S).take m ++ [v] := by
        have e1 : vals (ws ++ [v]) (S.take m) = vals ws (S.take m) := vals_app fun s hs => hS s (List.mem_of_mem_take hs)
        have e2 : vals (ws ++ [v]) (S.take m ++ [(ws.length : Int)]) = vals (ws ++ [v]) (S.take m) ++ [List.getD (ws ++ [v]) (ws.length : Int).toNat 0] := by simp [vals]
        rw [e2, e1, getD_last (by simp)]
        congr 1
        simp [vals, List.map_take]
      have ih := join r (ws ++ [v]) (L ++ [y]) (Q ++ [z]) (S.take m ++ [(ws.length : Int)]) (by simp [hL]) (by simp [hQ]) hS'
      rw [hvals, show (((ws ++ [v]).length : Nat) : Int) = (ws.length : Int) + 1 by simp] at ih
      have hwl : (ws ++ [v]).length = ws.length + 1 := by simp
      generalize hk : kidsF r ((ws.length : Int) + 1) (L ++ [y]) (Q ++ [z]) (S.take m ++ [(ws.length : Int)]) = z0 at ih ⊢
      obtain ⟨b, L', Q', S'⟩ := z0
      cases b with
      | false => exact ih
      | true =>
        simp only at ih ⊢
        obtain ⟨i1, i2, i3, i4, i5, i6⟩ := ih
        rw [hwl] at i1 i2 i3 i4
        have hLn : List.getD L' ws.length 0 = y := by rw [(i3 ws.length (by omega)).1]; exact getD_last hL.symm
        have hQn : List.getD Q' ws.length 0 = z := by rw [(i3 ws.length (by omega)).2]; exact getD_last hQ.symm
        refine ⟨by simp; omega, by simp; omega, fun j hj => ?_, ?_, ?_, ?_⟩
        · obtain ⟨q1, q2⟩ := i3 j (by omega)
          rw [q1, q2]
          exact ⟨getD_app (by omega), getD_app (by omega)⟩
        · intro j hj
          cases j with
          | zero =>
            simp only [List.getElem_cons_zero, Nat.add_zero]
            refine ⟨fun ha => ?_, fun ha => ?_⟩
            · rw [hLn]; exact hyz.1 ha
            · rw [hQn]; exact hyz.2 ha
          | succ j =>
            simp only [List.getElem_cons_succ]
            have := i4 j (by simpa using hj)
            rw [show ws.length + (j + 1) = ws.length + 1 + j by omega]
            exact this
        · rw [i5]
          simp only [pass2]
          rw [hLn, hQn, ← hv]
        · intro _
          by_cases hr : r = []
          · subst hr
            simp only [kidsF, Prod.mk.injEq] at hk
            obtain ⟨_, _, _, rfl⟩ := hk
            exact ⟨S.take m, by simp⟩
          · obtain ⟨p, hp⟩ := i6 hr
            refine ⟨p, ?_⟩
            rw [hp]
            simp
            omega
    have hA := arity_le x.1
    by_cases h2 : arity x.1 = 2
    · rw [if_pos h2, if_pos h2]
      have e1 := vals_getD (ws := ws) (S := S) (j := S.length - 2) (by omega)
      have e2 := vals_getD (ws := ws) (S := S) (j := S.length - 1) (by omega)
      rw [e1, e2]
      exact step _ _ _ _ rfl ⟨fun _ => hsd _ (by omega), fun _ => hsd _ (by omega)⟩ (by omega)
    rw [if_neg h2, if_neg h2]
    by_cases h1 : arity x.1 = 1
    · rw [if_pos h1, if_pos h1]
      have e2 := vals_getD (ws := ws) (S := S) (j := S.length - 1) (by omega)
      rw [e2]
      exact step _ _ _ _ (wOf_1 h1 _ _).symm ⟨fun _ => hsd _ (by omega), fun h => (h2 h).elim⟩ (by omega)
    rw [if_neg h1, if_neg h1]
    have := step (-1) (-1) (wOf x 0 0) S.length (wOf_0 (by omega) _ _).symm ⟨fun h => by omega, fun h => by omega⟩ (Nat.le_refl _)
    rw [List.take_length, show (vals ws S).take S.length = vals ws S by rw [← hvl, List.take_length]] at this
    exact this

theorem set_mid {ws : List Int} {d : Nat} (v : Int) : List.set (ws ++ List.replicate (d + 1) 0) ws.length v = ws ++ [v] ++ List.replicate d 0 := by
  rw [List.set_append_right _ _ (Nat.le_refl _)]
  simp [List.replicate_succ]

theorem set_mid2 {ws : List Int} {d : Nat} (u v : Int) : List.set (ws ++ [u] ++ List.replicate d 0) ws.length v = ws ++ [v] ++ List.replicate d 0 := by
  rw [List.append_assoc, List.set_append_right _ _ (Nat.le_refl _)]
  simp

theorem getD_mid {ws : List Int} {d : Nat} (v : Int) : List.getD (ws ++ [v] ++ List.replicate d 0) ws.length 0 = v := by
  simp [List.getD_eq_getElem?_getD, List.getElem?_append]

theorem capset {R : Type} {ws : List Int} {d : Nat} (v : Int) (f : List Int → Option R) :
    (bif inB (ws.length : Int) (List.length (ws ++ List.replicate (d + 1) 0)) then
      bif inB (ws.length : Int) (List.length (List.set (ws ++ List.replicate (d + 1) 0) ws.length v)) then
        bif decide (List.getD (List.set (ws ++ List.replicate (d + 1) 0) ws.length v) ws.length 0 > 2000) then
          bif inB (ws.length : Int) (List.length (List.set (ws ++ List.replicate (d + 1) 0) ws.length v)) then
            f (List.set (List.set (ws ++ List.replicate (d + 1) 0) ws.length v) ws.length 2001)
          else none
        else f (List.set (ws ++ List.replicate (d + 1) 0) ws.length v)
      else none
    else none) = f (ws ++ [cap v] ++ List.replicate d 0) := by
  rw [set_mid, getD_mid, set_mid2, inB_true (i := (ws.length : Int)) (n := List.length (ws ++ List.replicate (d + 1) 0)) (by omega) (by simp; omega), inB_true (i := (ws.length : Int)) (n := List.length (ws ++ [v] ++ List.replicate d 0)) (by omega) (by simp; omega)]
  simp only [cond_true]
  unfold cap
  by_cases h : v > 2000
  · rw [decide_eq_true h, if_pos h]; rfl
  · rw [decide_eq_false h, if_neg h]; rfl

theorem pass2_l0 {R : Type} (N : Nat) (l : List Nod) (hl : l.length ≤ 1048576) (ok : ∀ x ∈ l, nodeOk x = true) (L Q : List Int) (hL : L.length = l.length) (hQ : Q.length = l.length) (hv : ∀ j (h : j < l.length), ValidAt l[j] j L Q) (k : List Nod → List Int → Option R) :
    ∀ (d n i : Nat) (ws : List Int), i + d = l.length → d < n → ws.length = i → Wts ws →
      F.spec_l1Weight_l0 N n l l (l.length : Int) (i : Int) L Q (ws ++ List.replicate d 0) k = k l (pass2 L Q (l.drop i) ws) := by
  intro d
  induction d with
  | zero =>
    intro n i ws hi hn hw hwt
    obtain ⟨n, rfl⟩ : ∃ m, n = m + 1 := ⟨n - 1, by omega⟩
    simp only [F.spec_l1Weight_l0, F.spec_l1Weight_l0_s, Bool.cond_decide]
    rw [if_neg (by omega), List.drop_of_length_le (by omega)]
    simp [pass2]
  | succ d ih =>
    intro n i ws hi hn hw hwt
    obtain ⟨n, rfl⟩ : ∃ m, n = m + 1 := ⟨n - 1, by omega⟩
    simp only [F.spec_l1Weight_l0, F.spec_l1Weight_l0_s]
    have hx := ok l[i] (List.getElem_mem (by omega))
    have hva := hv i (by omega)
    rw [List.drop_eq_getElem_cons (show i < l.length by omega)]
    simp only [pass2]
    rw [decide_eq_true (show (i : Int) < (l.length : Int) by omega), inB_true (i := (i : Int)) (n := l.length) (by omega) (by omega), wrap_id (n := (i : Int) + 1) (by omega) (by omega)]
    simp only [cond_true, Int.toNat_natCast, getD_at l _ (show i < l.length by omega)]
    generalize l[i] = x at hx hva
    have e1 : ((i + 1 : Nat) : Int) = (i : Int) + 1 := by omega
    have go : ∀ v : Int, 0 ≤ v ∧ v ≤ 2001 → F.spec_l1Weight_l0 N n l l (l.length : Int) ((i : Int) + 1) L Q (ws ++ [v] ++ List.replicate d 0) k = k l (pass2 L Q (l.drop (i + 1)) (ws ++ [v])) := by
      intro v h
      have := ih n (i + 1) (ws ++ [v]) (by omega) (by omega) (by simp [hw]) (by have := hwt.take_snoc ws.length h; rwa [List.take_length] at this)
      rw [e1] at this
      exact this
    have hb := fun j => hwt.getD j
    have hwb := wOf_bound hx (hb (List.getD L ws.length 0).toNat) (hb (List.getD Q ws.length 0).toNat)
    have hlen : List.length (ws ++ List.replicate (d + 1) (0 : Int)) = l.length := by simp; omega
    subst hw
    have hrd : ∀ z : Int, 0 ≤ z ∧ z < ws.length → inB z (List.length (ws ++ List.replicate (d + 1) 0)) = true ∧ List.getD (ws ++ List.replicate (d + 1) 0) z.toNat 0 = List.getD ws z.toNat 0 := fun z hz => ⟨inB_true hz.1 (by rw [hlen]; omega), getD_app (by omega)⟩
    by_cases k1 : x.1 = 1
    · have hwx : wOf x (List.getD ws (List.getD L ws.length 0).toNat 0) (List.getD ws (List.getD Q ws.length 0).toNat 0) = 1 := by unfold wOf; rw [if_pos k1]
      rw [show (x.1 == 1) = true by simpa using k1, hwx]
      simp only [cond_true]
      have := capset (ws := ws) (d := d) 1 (fun w => F.spec_l1Weight_l0 N n l l (l.length : Int) ((ws.length : Int) + 1) L Q w k)
      exact this.trans (go 1 (by omega))
    have n1 : (x.1 == 1) = false := by simpa using k1
    have inL : inB (ws.length : Int) L.length = true := inB_true (by omega) (by omega)
    have inQ : inB (ws.length : Int) Q.length = true := inB_true (by omega) (by omega)
    by_cases k23 : x.1 = 2 ∨ x.1 = 3
    · have ha : arity x.1 = 2 := by unfold arity; rw [if_pos k23]
      have hL1 := hva.1 (by omega)
      have hQ1 := hva.2 ha
      obtain ⟨l1, l2⟩ := hrd _ hL1
      obtain ⟨q1, q2⟩ := hrd _ hQ1
      have a1 := hb (List.getD L ws.length 0).toNat
      have a2 := hb (List.getD Q ws.length 0).toNat
      have hwx : wOf x (List.getD ws (List.getD L ws.length 0).toNat 0) (List.getD ws (List.getD Q ws.length 0).toNat 0) = cap (List.getD ws (List.getD L ws.length 0).toNat 0 + List.getD ws (List.getD Q ws.length 0).toNat 0) := by unfold wOf; rw [if_neg k1, if_pos k23]
      have fin := (capset (ws := ws) (d := d) (List.getD ws (List.getD L ws.length 0).toNat 0 + List.getD ws (List.getD Q ws.length 0).toNat 0) (fun w => F.spec_l1Weight_l0 N n l l (l.length : Int) ((ws.length : Int) + 1) L Q w k)).trans (go _ (hwx ▸ hwb))
      rw [hwx]
      rcases k23 with h | h
      · simp only [n1, show (x.1 == 2) = true by simpa using h, inL, l1, inQ, q1, l2, q2, wrap_id (n := List.getD ws (List.getD L ws.length 0).toNat 0 + List.getD ws (List.getD Q ws.length 0).toNat 0) (by omega) (by omega), cond_true, cond_false]
        exact fin
      · simp only [n1, show (x.1 == 2) = false by rw [h]; rfl, show (x.1 == 3) = true by simpa using h, inL, l1, inQ, q1, l2, q2, wrap_id (n := List.getD ws (List.getD L ws.length 0).toNat 0 + List.getD ws (List.getD Q ws.length 0).toNat 0) (by omega) (by omega), cond_true, cond_false]
        exact fin
    have n2 : (x.1 == 2) = false := by simpa using fun e => k23 (.inl e)
    have n3 : (x.1 == 3) = false := by simpa using fun e => k23 (.inr e)
    by_cases k4 : x.1 = 4
    · have ha : arity x.1 = 1 := by unfold arity; rw [if_neg k23, if_pos (.inl k4)]
      obtain ⟨l1, l2⟩ := hrd _ (hva.1 (by omega))
      have a1 := hb (List.getD L ws.length 0).toNat
      have hc := nodeOk_copies hx k4
      have m0 : 0 ≤ List.getD ws (List.getD L ws.length 0).toNat 0 * copies x := Int.mul_nonneg a1.1 (by omega)
      have m1 : List.getD ws (List.getD L ws.length 0).toNat 0 * copies x ≤ 2001 * 256 := Int.mul_le_mul a1.2 hc.2 (by omega) (by omega)
      have hwx : wOf x (List.getD ws (List.getD L ws.length 0).toNat 0) (List.getD ws (List.getD Q ws.length 0).toNat 0) = cap (List.getD ws (List.getD L ws.length 0).toNat 0 * copies x) := by unfold wOf; rw [if_neg k1, if_neg k23, if_pos k4]
      have fin := (capset (ws := ws) (d := d) (List.getD ws (List.getD L ws.length 0).toNat 0 * copies x) (fun w => F.spec_l1Weight_l0 N n l l (l.length : Int) ((ws.length : Int) + 1) L Q w k)).trans (go _ (hwx ▸ hwb))
      rw [hwx]
      simp only [n1, n2, n3, show (x.1 == 4) = true by simpa using k4, inL, l1, l2, specCopies x hx k4, wrap_id (n := List.getD ws (List.getD L ws.length 0).toNat 0 * copies x) (by omega) (by omega), cond_true, cond_false]
      exact fin
    have n4 : (x.1 == 4) = false := by simpa using k4
    by_cases k5 : x.1 = 5
    · have ha : arity x.1 = 1 := by unfold arity; rw [if_neg k23, if_pos (.inr k5)]
      obtain ⟨l1, l2⟩ := hrd _ (hva.1 (by omega))
      have hwx : wOf x (List.getD ws (List.getD L ws.length 0).toNat 0) (List.getD ws (List.getD Q ws.length 0).toNat 0) = cap (List.getD ws (List.getD L ws.length 0).toNat 0) := by unfold wOf; rw [if_neg k1, if_neg k23, if_neg k4, if_pos k5]
      have fin := (capset (ws := ws) (d := d) (List.getD ws (List.getD L ws.length 0).toNat 0) (fun w => F.spec_l1Weight_l0 N n l l (l.length : Int) ((ws.length : Int) + 1) L Q w k)).trans (go _ (hwx ▸ hwb))
      rw [hwx]
      simp only [n1, n2, n3, n4, show (x.1 == 5) = true by simpa using k5, inL, l1, l2, cond_true, cond_false]
      exact fin
    · exfalso
      simp only [nodeOk, Bool.and_eq_true, decide_eq_true_eq] at hx
      omega

/-- Does the order of a branch's nodes work out? -/
def brOk (l : List Nod) : Bool := match kidsF l 0 [] [] [] with
  | (true, _, _, S) => decide (S.length = 1)
  | _ => false

theorem brOk_brW {l : List Nod} : brOk l = (brW l).isSome := by
  have h := join l [] [] [] [] rfl rfl (by simp)
  unfold brOk brW
  have e : vals [] [] = [] := rfl
  rw [e, show (([] : List Int).length : Int) = 0 from rfl] at h
  generalize kidsF l 0 [] [] [] = z at h ⊢
  obtain ⟨b, L', Q', S'⟩ := z
  cases b with
  | false => simp only at h ⊢; rw [h]; rfl
  | true =>
    simp only at h ⊢
    obtain ⟨_, _, _, _, h5, _⟩ := h
    rw [h5]
    match S' with
    | [] => rfl
    | [s] => rfl
    | a :: c :: S' => simp [vals]

theorem specWeight {R : Type} (N : Nat) (l : List Nod) (hl : l.length ≤ 1048576) (ok : ∀ x ∈ l, nodeOk x = true) (hN : 1048576 < N) {w : Int} (hw : brW l = some w) (k : Int → Option R) : F.spec_l1Weight N l k = k w ∧ 0 ≤ w ∧ w ≤ 2001 := by
  have hbo : brOk l = true := by rw [brOk_brW, hw]; rfl
  have h := join l [] [] [] [] rfl rfl (by simp)
  unfold brOk at hbo
  unfold brW at hw
  simp only [F.spec_l1Weight]
  rw [specKids N l hl hN]
  have e : vals [] [] = [] := rfl
  rw [e, show (([] : List Int).length : Int) = 0 from rfl] at h
  generalize kidsF l 0 [] [] [] = z at h hbo ⊢
  obtain ⟨b, L', Q', S'⟩ := z
  cases b with
  | false => simp at hbo
  | true =>
    simp only [decide_eq_true_eq] at h hbo ⊢
    obtain ⟨h1, h2, _, h4, h5, h6⟩ := h
    rw [show ((S'.length : Int) == 1) = true by rw [hbo]; rfl]
    have hne : l ≠ [] := by
      intro e
      subst e
      simp [weighF, vals] at h5
      rw [h5] at hbo
      simp at hbo
    obtain ⟨p, hp⟩ := h6 hne
    have hp0 : p = [] := by
      have := congrArg List.length hp
      rw [hbo] at this
      simp at this
      exact this
    subst hp0
    have hpos : 0 < l.length := List.length_pos_iff.2 hne
    simp only [List.nil_append, List.length_nil, Int.natCast_zero, Int.zero_add] at hp
    rw [hp] at h5
    rw [h5] at hw
    simp only [vals, List.map_cons, List.map_nil, Option.some.injEq] at hw
    simp only [Bool.not_true, cond_false]
    rw [decide_eq_true (show 0 ≤ (l.length : Int) by omega), big_ok hl (by omega)]
    simp only [cond_true, Int.toNat_natCast]
    have hval : ∀ j (h : j < l.length), ValidAt l[j] j L' Q' := fun j hj => by have := h4 j hj; simpa using this
    have hp2 := pass2_l0 N l hl ok L' Q' (by simpa using h1) (by simpa using h2) hval (fun y14 y15 => bif inB (wrapK .i64 ((List.length y14 : Int) - 1)) (List.length y15) then k (List.getD y15 (Int.toNat (wrapK .i64 ((List.length y14 : Int) - 1))) (0 : Int)) else none) l.length N 0 [] (by omega) (by omega) rfl (by simp [Wts])
    rw [List.nil_append, show ((0 : Nat) : Int) = 0 from rfl] at hp2
    rw [hp2, List.drop_zero, wrap_id (n := (l.length : Int) - 1) (by omega) (by omega), inB_true (by omega) (by rw [pass2_len]; simp; omega)]
    simp only [cond_true]
    rw [hw]
    refine ⟨rfl, ?_⟩
    rw [← hw]
    have hWall : ∀ (xs : List Nod) (ws : List Int), (∀ x ∈ xs, nodeOk x = true) → Wts ws → Wts (pass2 L' Q' xs ws) := by
      intro xs
      induction xs with
      | nil => intro ws _ h; exact h
      | cons x r ih =>
        intro ws ho h
        simp only [pass2]
        refine ih _ (fun y hy => ho y (by simp [hy])) ?_
        have := h.take_snoc ws.length (wOf_bound (ho x (by simp)) (h.getD (List.getD L' ws.length 0).toNat) (h.getD (List.getD Q' ws.length 0).toNat))
        rwa [List.take_length] at this
    exact (hWall l [] ok (by simp [Wts])).getD _
/-! ### both sides' RuleOK -/

def groupsOf : List Nod → List Int
  | [] => []
  | x :: r => if x.1 = 5 then x.2.2.2.2 :: groupsOf r else groupsOf r

def groupsB : List Bra → List Int
  | [] => []
  | b :: r => groupsOf b.2.2 ++ groupsB r

def total : List Bra → Nat
  | [] => 0
  | b :: r => b.2.2.length + total r

theorem groupsOf_len : ∀ l : List Nod, (groupsOf l).length ≤ l.length
  | [] => Nat.le_refl _
  | x :: r => by
    have := groupsOf_len r
    simp only [groupsOf]
    split <;> simp <;> omega

/-- A branch in order. -/
def branchOk (b : Bra) : Bool := brOk b.2.2 && b.2.2.all nodeOk

theorem spec_l4 {R : Type} (N : Nat) (hN : 1048576 < N) (x25 : List Bra) (x26 x27 : Int) (l : List Nod) (hl : SmallN l) (x31 : List Bra) (x32 : Int) (ke : List Bra → Int → Int → List Bra → Int → List Int → Option R) (kret : Bool → List Bra → Int → Int → List Bra → Int → List Int → Option R) (r : Option R) (hr : ∀ a, kret false x25 x26 x27 x31 x32 a = r) :
    ∀ (d n i : Nat) (gs : List Int), i + d = l.length → d < n → gs.length + d ≤ 1048576 →
      F.spec_RuleOK_l4 N n x25 x26 x27 l (l.length : Int) (i : Int) x31 x32 gs ke kret = bif (l.drop i).all nodeOk then ke x25 x26 x27 x31 x32 (gs ++ groupsOf (l.drop i)) else r := by
  have hl1 := hl.1
  intro d
  induction d with
  | zero =>
    intro n i gs hi hn hg
    obtain ⟨n, rfl⟩ : ∃ m, n = m + 1 := ⟨n - 1, by omega⟩
    simp only [F.spec_RuleOK_l4, F.spec_RuleOK_l4_s, Bool.cond_decide]
    rw [if_neg (by omega), List.drop_of_length_le (by omega)]
    simp [groupsOf]
  | succ d ih =>
    intro n i gs hi hn hg
    obtain ⟨n, rfl⟩ : ∃ m, n = m + 1 := ⟨n - 1, by omega⟩
    simp only [F.spec_RuleOK_l4, F.spec_RuleOK_l4_s]
    rw [List.drop_eq_getElem_cons (show i < l.length by omega)]
    rw [decide_eq_true (show (i : Int) < (l.length : Int) by omega), inB_true (i := (i : Int)) (n := l.length) (by omega) (by omega), wrap_id (n := (i : Int) + 1) (by omega) (by omega)]
    simp only [cond_true, Int.toNat_natCast, getD_at l _ (show i < l.length by omega)]
    have hs := hl.2 l[i] (List.getElem_mem (by omega))
    generalize l[i] = x at hs
    rw [specNodeOk N _ _ _ _ _ hs hN, show (x.1, x.2.1, x.2.2.1, x.2.2.2.1, x.2.2.2.2) = x from rfl]
    have e1 : ((i + 1 : Nat) : Int) = (i : Int) + 1 := by omega
    simp only [List.all_cons, groupsOf]
    cases hx : nodeOk x with
    | false => simp only [Bool.not_false, cond_true, Bool.false_and, cond_false]; exact hr _
    | true =>
      simp only [Bool.not_true, cond_false, Bool.true_and]
      by_cases h5 : x.1 = 5
      · rw [show (x.1 == 5) = true by simpa using h5, if_pos h5, show Nat.ble (gs.length + List.length [x.2.2.2.2]) (bigOf 8) = true from room8 (by simp only [List.length_cons, List.length_nil]; omega)]
        simp only [cond_true]
        have := ih n (i + 1) (gs ++ [x.2.2.2.2]) (by omega) (by omega) (by simp; omega)
        rw [e1] at this
        rw [this, List.append_assoc]
        rfl
      · rw [show (x.1 == 5) = false by simpa using h5, if_neg h5]
        simp only [cond_false]
        have := ih n (i + 1) gs (by omega) (by omega) (by omega)
        rw [e1] at this
        exact this

theorem specKids' {R : Type} (N : Nat) (l : List Nod) (hl : l.length ≤ 1048576) (hN : 1048576 < N) (A B : Option R) : F.spec_l1Kids N l (fun r22 _ _ => bif !r22 then A else B) = bif brOk l then B else A := by
  rw [specKids N l hl hN]
  unfold brOk
  generalize kidsF l 0 [] [] [] = z
  obtain ⟨b, L', Q', S'⟩ := z
  cases b with
  | false => rfl
  | true =>
    simp only
    by_cases h : S'.length = 1
    · simp [h]
    · have : ((S'.length : Int) == 1) = false := by rw [beq_eq_false_iff_ne]; omega
      simp [h, this]

theorem spec_l2 {R : Type} (N : Nat) (hN : 1048576 < N) (bs : List Bra) (hb : SmallB bs) (x19 : List Bra) (x20 : Int) (ke : List Bra → Int → List Int → Option R) (kret : Bool → List Bra → Int → List Int → Option R) (r : Option R) (hr : ∀ a, kret false x19 x20 a = r) :
    ∀ (d n i : Nat) (gs : List Int), i + d = bs.length → d < n → gs.length + total (bs.drop i) ≤ 1048576 →
      F.spec_RuleOK_l2 N n bs (bs.length : Int) (i : Int) x19 x20 gs ke kret = bif (bs.drop i).all branchOk then ke x19 x20 (gs ++ groupsB (bs.drop i)) else r := by
  have hb1 := hb.1
  intro d
  induction d with
  | zero =>
    intro n i gs hi hn hg
    obtain ⟨n, rfl⟩ : ∃ m, n = m + 1 := ⟨n - 1, by omega⟩
    simp only [F.spec_RuleOK_l2, F.spec_RuleOK_l2_s, Bool.cond_decide]
    rw [if_neg (by omega), List.drop_of_length_le (by omega)]
    simp [groupsB]
  | succ d ih =>
    intro n i gs hi hn hg
    obtain ⟨n, rfl⟩ : ∃ m, n = m + 1 := ⟨n - 1, by omega⟩
    simp only [F.spec_RuleOK_l2, F.spec_RuleOK_l2_s]
    rw [List.drop_eq_getElem_cons (show i < bs.length by omega)] at hg ⊢
    rw [decide_eq_true (show (i : Int) < (bs.length : Int) by omega), inB_true (i := (i : Int)) (n := bs.length) (by omega) (by omega)]
    simp only [cond_true, Int.toNat_natCast, getD_at bs _ (show i < bs.length by omega)]
    have hs := hb.2 bs[i] (List.getElem_mem (by omega))
    generalize bs[i] = b at hs hg
    simp only [total] at hg
    have e1 : ((i + 1 : Nat) : Int) = (i : Int) + 1 := by omega
    rw [specKids' N _ hs.1 hN]
    simp only [List.all_cons, groupsB, branchOk]
    cases hk : brOk b.2.2 with
    | false => simp only [Bool.false_and, cond_false]; exact hr _
    | true =>
      simp only [cond_true, Bool.true_and]
      have := spec_l4 N hN bs (bs.length : Int) (i : Int) b.2.2 hs x19 x20 (fun y35 y36 y37 y38 y39 y40 => F.spec_RuleOK_l2 N n y35 y36 (wrapK .i64 (y37 + 1)) y38 y39 y40 ke kret) (fun y41 _ _ _ y45 y46 y47 => kret y41 y45 y46 y47) r hr b.2.2.length N 0 gs (by omega) (by have := hs.1; omega) (by omega)
      rw [show ((0 : Nat) : Int) = 0 from rfl, List.drop_zero] at this
      rw [this]
      cases ha : b.2.2.all nodeOk with
      | false => simp only [Bool.false_and, cond_false]
      | true =>
        simp only [cond_true, Bool.true_and]
        rw [wrap_id (n := (i : Int) + 1) (by omega) (by omega)]
        have hgl := groupsOf_len b.2.2
        have := ih n (i + 1) (gs ++ groupsOf b.2.2) (by omega) (by omega) (by simp; omega)
        rw [e1] at this
        rw [this, List.append_assoc]

theorem spec_l0 {R : Type} (N : Nat) (bs : List Bra) (hb : SmallB bs) (x9 : List Bra) (x10 : Int) (x11 : List Int) (ke : Int → List Bra → Int → List Int → Option R) :
    ∀ (d n i : Nat) (c : Nat), i + d = bs.length → d < n → c ≤ i * 1048576 → F.spec_RuleOK_l0 N n (c : Int) bs (bs.length : Int) (i : Int) x9 x10 x11 ke = ke ((c + total (bs.drop i) : Nat) : Int) x9 x10 x11 := by
  have hb1 := hb.1
  intro d
  induction d with
  | zero =>
    intro n i c hi hn hc
    obtain ⟨n, rfl⟩ : ∃ m, n = m + 1 := ⟨n - 1, by omega⟩
    simp only [F.spec_RuleOK_l0, F.spec_RuleOK_l0_s, Bool.cond_decide]
    rw [if_neg (by omega), List.drop_of_length_le (by omega)]
    rfl
  | succ d ih =>
    intro n i c hi hn hc
    obtain ⟨n, rfl⟩ : ∃ m, n = m + 1 := ⟨n - 1, by omega⟩
    simp only [F.spec_RuleOK_l0, F.spec_RuleOK_l0_s]
    rw [List.drop_eq_getElem_cons (show i < bs.length by omega)]
    rw [decide_eq_true (show (i : Int) < (bs.length : Int) by omega), inB_true (i := (i : Int)) (n := bs.length) (by omega) (by omega)]
    simp only [cond_true, Int.toNat_natCast, getD_at bs _ (show i < bs.length by omega)]
    have hs := (hb.2 bs[i] (List.getElem_mem (by omega))).1
    generalize bs[i] = b at hs
    have e1 : ((i + 1 : Nat) : Int) = (i : Int) + 1 := by omega
    have hcb : c ≤ 1048576 * 1048576 := Nat.le_trans hc (Nat.mul_le_mul_right _ (by omega))
    rw [wrap_id (n := (i : Int) + 1) (by omega) (by omega), wrap_id (n := (c : Int) + (b.2.2.length : Int)) (by omega) (by omega)]
    have := ih n (i + 1) (c + b.2.2.length) (by omega) (by omega) (by rw [Nat.succ_mul]; omega)
    rw [e1, show ((c + b.2.2.length : Nat) : Int) = (c : Int) + (b.2.2.length : Int) by omega] at this
    rw [this]
    simp only [total]
    rw [Nat.add_assoc]

/-- How often g stands in a list. -/
def cntI (g : Int) : List Int → Nat
  | [] => 0
  | h :: r => (if h = g then 1 else 0) + cntI g r

theorem spec_l8 {R : Type} (N : Nat) (gs : List Int) (hg : gs.length ≤ 1048576) (g : Int) (x59 : List Bra) (x60 : Int) (ke : Int → Int → List Bra → Int → List Int → Option R) :
    ∀ (d n i t : Nat), i + d = gs.length → d < n → t ≤ i → F.spec_RuleOK_l8 N n g (t : Int) (gs.length : Int) (i : Int) x59 x60 gs ke = ke g ((t + cntI g (gs.drop i) : Nat) : Int) x59 x60 gs := by
  intro d
  induction d with
  | zero =>
    intro n i t hi hn ht
    obtain ⟨n, rfl⟩ : ∃ m, n = m + 1 := ⟨n - 1, by omega⟩
    simp only [F.spec_RuleOK_l8, F.spec_RuleOK_l8_s, Bool.cond_decide]
    rw [if_neg (by omega), List.drop_of_length_le (by omega)]
    rfl
  | succ d ih =>
    intro n i t hi hn ht
    obtain ⟨n, rfl⟩ : ∃ m, n = m + 1 := ⟨n - 1, by omega⟩
    simp only [F.spec_RuleOK_l8, F.spec_RuleOK_l8_s]
    rw [List.drop_eq_getElem_cons (show i < gs.length by omega)]
    rw [decide_eq_true (show (i : Int) < (gs.length : Int) by omega), inB_true (i := (i : Int)) (n := gs.length) (by omega) (by omega), wrap_id (n := (i : Int) + 1) (by omega) (by omega), wrap_id (n := (t : Int) + 1) (by omega) (by omega)]
    simp only [cond_true, Int.toNat_natCast, getD_at gs _ (show i < gs.length by omega), cntI]
    generalize gs[i] = h
    have e1 : ((i + 1 : Nat) : Int) = (i : Int) + 1 := by omega
    by_cases hh : h = g
    · rw [show (h == g) = true by simpa using hh, if_pos hh]
      have := ih n (i + 1) (t + 1) (by omega) (by omega) (by omega)
      rw [e1, show ((t + 1 : Nat) : Int) = (t : Int) + 1 by omega] at this
      simp only [cond_true]
      rw [this, Nat.add_assoc]
    · rw [show (h == g) = false by simpa using hh, if_neg hh]
      have := ih n (i + 1) t (by omega) (by omega) (by omega)
      rw [e1] at this
      simp only [cond_false]
      rw [this, Nat.zero_add]

/-- d numbers from g on stand once each. -/
def onceF (gs : List Int) : Nat → Int → Bool
  | 0, _ => true
  | d + 1, g => decide (cntI g gs = 1) && onceF gs d (g + 1)

theorem spec_l6 {R : Type} (N : Nat) (hN : 1048576 < N) (gs : List Int) (hg : gs.length ≤ 1048576) (x52 : List Bra) (G : Int) (ke : List Bra → Int → Option R) (kret : Bool → List Bra → Int → Option R) :
    ∀ (d n : Nat) (g : Int), g + d = G + 1 → d < n → 1 ≤ g → G ≤ 500 → F.spec_RuleOK_l6 N n g x52 G gs ke kret = bif onceF gs d g then ke x52 G else kret false x52 G := by
  intro d
  induction d with
  | zero =>
    intro n g hi hn h1 h2
    obtain ⟨n, rfl⟩ : ∃ m, n = m + 1 := ⟨n - 1, by omega⟩
    simp only [F.spec_RuleOK_l6, F.spec_RuleOK_l6_s, Bool.cond_decide]
    rw [if_neg (by omega)]
    rfl
  | succ d ih =>
    intro n g hi hn h1 h2
    obtain ⟨n, rfl⟩ : ∃ m, n = m + 1 := ⟨n - 1, by omega⟩
    simp only [F.spec_RuleOK_l6, F.spec_RuleOK_l6_s]
    rw [decide_eq_true (show g ≤ G by omega)]
    simp only [cond_true]
    have := spec_l8 N gs hg g x52 G (fun y62 y63 y64 y65 y66 => bif y63 != 1 then kret false y64 y65 else F.spec_RuleOK_l6 N n (wrapK .i64 (y62 + 1)) y64 y65 y66 ke kret) gs.length N 0 0 (by omega) (by omega) (by omega)
    rw [show ((0 : Nat) : Int) = 0 from rfl] at this
    rw [this, List.drop_zero, Nat.zero_add, wrap_id (n := g + 1) (by omega) (by omega), ih n (g + 1) (by omega) (by omega) (by omega) h2]
    simp only [onceF]
    by_cases hc : cntI g gs = 1
    · rw [hc, decide_eq_true (rfl : (1 : Nat) = 1)]; rfl
    · rw [decide_eq_false hc, show (((cntI g gs : Nat) : Int) != 1) = true by rw [bne_iff_ne]; omega]; rfl

def sumW : List Bra → Int
  | [] => 0
  | b :: r => (brW b.2.2).getD 0 + sumW r

theorem branchOk_w {b : Bra} (h : branchOk b = true) : (∀ x ∈ b.2.2, nodeOk x = true) ∧ ∃ w, brW b.2.2 = some w := by
  simp only [branchOk, Bool.and_eq_true, List.all_eq_true] at h
  refine ⟨h.2, ?_⟩
  rw [brOk_brW] at h
  exact Option.isSome_iff_exists.1 h.1

theorem spec_rw {R : Type} (N : Nat) (hN : 1048576 < N) (bs : List Bra) (hb : SmallB bs) (ok : ∀ b ∈ bs, branchOk b = true) (ke : Int → Option R) :
    ∀ (d n i : Nat) (s : Int), i + d = bs.length → d < n → 0 ≤ s → s ≤ 2001 * i → F.spec_l1RuleWeight_l0 N n s bs (bs.length : Int) (i : Int) ke = ke (s + sumW (bs.drop i)) := by
  have hb1 := hb.1
  intro d
  induction d with
  | zero =>
    intro n i s hi hn h0 h1
    obtain ⟨n, rfl⟩ : ∃ m, n = m + 1 := ⟨n - 1, by omega⟩
    simp only [F.spec_l1RuleWeight_l0, F.spec_l1RuleWeight_l0_s, Bool.cond_decide]
    rw [if_neg (by omega), List.drop_of_length_le (by omega)]
    simp [sumW]
  | succ d ih =>
    intro n i s hi hn h0 h1
    obtain ⟨n, rfl⟩ : ∃ m, n = m + 1 := ⟨n - 1, by omega⟩
    simp only [F.spec_l1RuleWeight_l0, F.spec_l1RuleWeight_l0_s]
    rw [List.drop_eq_getElem_cons (show i < bs.length by omega)]
    rw [decide_eq_true (show (i : Int) < (bs.length : Int) by omega), inB_true (i := (i : Int)) (n := bs.length) (by omega) (by omega)]
    simp only [cond_true, Int.toNat_natCast, getD_at bs _ (show i < bs.length by omega)]
    have hs := hb.2 bs[i] (List.getElem_mem (by omega))
    have hok := ok bs[i] (List.getElem_mem (by omega))
    generalize bs[i] = b at hs hok
    obtain ⟨o1, w, o2⟩ := branchOk_w hok
    have hw := fun k => specWeight (R := R) N b.2.2 hs.1 o1 hN o2 k
    have hwb := (hw (fun _ => none)).2
    rw [(hw _).1, wrap_id (n := (i : Int) + 1) (by omega) (by omega), wrap_id (n := s + w) (by omega) (by omega)]
    have := ih n (i + 1) (s + w) (by omega) (by omega) (by omega) (by omega)
    rw [show ((i + 1 : Nat) : Int) = (i : Int) + 1 by omega] at this
    rw [this]
    simp only [sumW, o2, Option.getD_some, Int.add_assoc]

/-- What the specification answers. -/
def specF (bs : List Bra) (G : Int) : Bool :=
  decide (1 ≤ bs.length ∧ bs.length ≤ 2000 ∧ 0 ≤ G ∧ G ≤ 500 ∧ total bs ≤ 5000) && bs.all branchOk && decide (((groupsB bs).length : Int) = G) && onceF (groupsB bs) G.toNat 1 && decide (sumW bs ≤ 2000)

theorem groupsB_len : ∀ bs : List Bra, (groupsB bs).length ≤ total bs
  | [] => Nat.le_refl _
  | b :: r => by
    have := groupsB_len r
    have := groupsOf_len b.2.2
    simp only [groupsB, total, List.length_append]
    omega

theorem specRuleOK {R : Type} (N : Nat) (hN : 1048576 < N) (bs : List Bra) (G : Int) (hb : SmallB bs) (k : Bool → Option R) : F.spec_RuleOK N bs G k = k (specF bs G) := by
  simp only [F.spec_RuleOK, F.spec_l1Between, specF]
  by_cases h1 : (1 : Int) ≤ bs.length
  case neg => rw [decide_eq_false h1, decide_eq_false (show ¬ (1 ≤ bs.length ∧ bs.length ≤ 2000 ∧ 0 ≤ G ∧ G ≤ 500 ∧ total bs ≤ 5000) by omega)]; rfl
  by_cases h2 : (bs.length : Int) ≤ 2000
  case neg => rw [decide_eq_true h1, decide_eq_false h2, decide_eq_false (show ¬ (1 ≤ bs.length ∧ bs.length ≤ 2000 ∧ 0 ≤ G ∧ G ≤ 500 ∧ total bs ≤ 5000) by omega)]; rfl
  by_cases h3 : 0 ≤ G
  case neg => rw [decide_eq_true h1, decide_eq_true h2, decide_eq_false h3, decide_eq_false (show ¬ (1 ≤ bs.length ∧ bs.length ≤ 2000 ∧ 0 ≤ G ∧ G ≤ 500 ∧ total bs ≤ 5000) by omega)]; rfl
  by_cases h4 : G ≤ 500
  case neg => rw [decide_eq_true h1, decide_eq_true h2, decide_eq_true h3, decide_eq_false h4, decide_eq_false (show ¬ (1 ≤ bs.length ∧ bs.length ≤ 2000 ∧ 0 ≤ G ∧ G ≤ 500 ∧ total bs ≤ 5000) by omega)]; rfl
  simp only [decide_eq_true h1, decide_eq_true h2, decide_eq_true h3, decide_eq_true h4, cond_true, Bool.not_true, cond_false]
  have e0 := spec_l0 N bs hb bs G [] (fun y12 y13 y14 y15 =>
          bif decide (y12 > 5000) then
            k false
          else
            F.spec_RuleOK_l2 N N y13 (List.length y13 : Int) 0 y13 y14 y15
              (fun y48 y49 y50 =>
                bif (List.length y50 : Int) != y49 then
                  k false
                else
                  F.spec_RuleOK_l6 N N 1 y48 y49 y50
                    (fun y67 y68 =>
                      F.spec_l1RuleWeight N y67 y68 fun r69 =>
                      k (decide (r69 ≤ 2000)))
                    (fun y70 y71 y72 =>
                      k y70))
              (fun y73 y74 y75 y76 =>
                k y73)) bs.length N 0 0 (by omega) (by omega) (by omega)
  rw [show ((0 : Nat) : Int) = 0 from rfl] at e0
  rw [e0, List.drop_zero, Nat.zero_add]
  by_cases h5 : total bs ≤ 5000
  case neg => rw [decide_eq_true (show ((total bs : Nat) : Int) > 5000 by omega), decide_eq_false (show ¬ (1 ≤ bs.length ∧ bs.length ≤ 2000 ∧ 0 ≤ G ∧ G ≤ 500 ∧ total bs ≤ 5000) by omega)]; rfl
  rw [decide_eq_false (show ¬ ((total bs : Nat) : Int) > 5000 by omega), decide_eq_true (show 1 ≤ bs.length ∧ bs.length ≤ 2000 ∧ 0 ≤ G ∧ G ≤ 500 ∧ total bs ≤ 5000 by omega)]
  simp only [cond_false, Bool.true_and]
  have e2 := spec_l2 N hN bs hb bs G (fun y48 y49 y50 =>
                bif (List.length y50 : Int) != y49 then
                  k false
                else
                  F.spec_RuleOK_l6 N N 1 y48 y49 y50
                    (fun y67 y68 =>
                      F.spec_l1RuleWeight N y67 y68 fun r69 =>
                      k (decide (r69 ≤ 2000)))
                    (fun y70 y71 y72 =>
                      k y70)) (fun y73 _ _ _ => k y73) (k false) (fun _ => rfl) bs.length N 0 [] (by omega) (by omega) (by simp; omega)
  rw [show ((0 : Nat) : Int) = 0 from rfl, List.drop_zero, List.nil_append] at e2
  rw [e2]
  have hgl := groupsB_len bs
  cases ha : bs.all branchOk with
  | false => rfl
  | true =>
    simp only [cond_true, Bool.true_and]
    by_cases h6 : ((groupsB bs).length : Int) = G
    case neg => rw [show (((groupsB bs).length : Int) != G) = true by simpa using h6, decide_eq_false h6]; rfl
    rw [show (((groupsB bs).length : Int) != G) = false by simpa using h6, decide_eq_true h6]
    simp only [cond_false, Bool.true_and]
    have e6 := spec_l6 N hN (groupsB bs) (by omega) bs G (fun y67 y68 =>
                      F.spec_l1RuleWeight N y67 y68 fun r69 =>
                      k (decide (r69 ≤ 2000))) (fun y70 _ _ => k y70) G.toNat N 1 (by omega) (by omega) (by omega) h4
    rw [e6]
    cases onceF (groupsB bs) G.toNat 1 with
    | false => rfl
    | true =>
      simp only [cond_true, Bool.true_and, F.spec_l1RuleWeight]
      have e7 := spec_rw N hN bs hb (by simpa using ha) (fun y8 => k (decide (y8 ≤ 2000))) bs.length N 0 0 (by omega) (by omega) (by omega) (by omega)
      rw [show ((0 : Nat) : Int) = 0 from rfl] at e7
      rw [e7, List.drop_zero, Int.zero_add]

/-! ### the program's side -/

def grpF (G : Int) : List Nod → List Int → Option (List Int)
  | [], gs => some gs
  | x :: r, gs => bif nodeOk x then (if x.1 = 5 then (if x.2.2.2.2 ∈ gs ∨ x.2.2.2.2 < 1 ∨ x.2.2.2.2 > G then none else grpF G r (gs ++ [x.2.2.2.2])) else grpF G r gs) else none

/-- The groups that have been seen, as a map. -/
def seenM (gs : List Int) : List (Int × Bool) := gs.map fun g => (g, true)

theorem seen_get (v : Int) : ∀ gs : List Int, mget eqI v false (seenM gs) = decide (v ∈ gs)
  | [] => rfl
  | g :: r => by
    have ih := seen_get v r
    simp only [seenM, List.map_cons, mget] at ih ⊢
    by_cases h : v = g
    · subst h; simp [eqI]
    · rw [show eqI v g = false by simpa [eqI] using h]
      simp only [cond_false]
      rw [ih]
      simp [h]

theorem seen_set (v : Int) : ∀ gs : List Int, v ∉ gs → mset eqI v true (seenM gs) = seenM (gs ++ [v])
  | [], _ => rfl
  | g :: r, h => by
    have h1 : v ≠ g := fun e => h (by simp [e])
    have ih := seen_set v r (fun e => h (by simp [e]))
    simp only [seenM, List.map_cons, mset, List.cons_append] at ih ⊢
    rw [show eqI v g = false by simpa [eqI] using h1]
    simp only [cond_false]
    rw [ih]

theorem impl_l2 {R : Type} (N : Nat) (hN : 1048576 < N) (x10 : Int) (x11 : List Bra) (x12 x13 : Int) (l : List Nod) (hl : SmallN l) (x17 : List Bra) (G : Int) (ke : Int → List Bra → Int → Int → List Bra → Int → List (Int × Bool) → Option R) (kret : Bool → Int → List Bra → Int → Int → List Bra → Int → List (Int × Bool) → Option R) (r : Option R) (hr : ∀ a, kret false x10 x11 x12 x13 x17 G a = r) :
    ∀ (d n i : Nat) (gs : List Int), i + d = l.length → d < n →
      F.impl_RuleOK_l2 N n x10 x11 x12 x13 l (l.length : Int) (i : Int) x17 G (seenM gs) ke kret = (match grpF G (l.drop i) gs with
        | some gs' => ke x10 x11 x12 x13 x17 G (seenM gs')
        | none => r) := by
  have hl1 := hl.1
  intro d
  induction d with
  | zero =>
    intro n i gs hi hn
    obtain ⟨n, rfl⟩ : ∃ m, n = m + 1 := ⟨n - 1, by omega⟩
    simp only [F.impl_RuleOK_l2, F.impl_RuleOK_l2_s, Bool.cond_decide]
    rw [if_neg (by omega), List.drop_of_length_le (by omega)]
    rfl
  | succ d ih =>
    intro n i gs hi hn
    obtain ⟨n, rfl⟩ : ∃ m, n = m + 1 := ⟨n - 1, by omega⟩
    simp only [F.impl_RuleOK_l2, F.impl_RuleOK_l2_s]
    rw [List.drop_eq_getElem_cons (show i < l.length by omega)]
    rw [decide_eq_true (show (i : Int) < (l.length : Int) by omega), inB_true (i := (i : Int)) (n := l.length) (by omega) (by omega), wrap_id (n := (i : Int) + 1) (by omega) (by omega)]
    simp only [cond_true, Int.toNat_natCast, getD_at l _ (show i < l.length by omega)]
    have hs := hl.2 l[i] (List.getElem_mem (by omega))
    generalize l[i] = x at hs
    rw [implNodeOk N _ _ _ _ _ hs hN, show (x.1, x.2.1, x.2.2.1, x.2.2.2.1, x.2.2.2.2) = x from rfl]
    have e1 : ((i + 1 : Nat) : Int) = (i : Int) + 1 := by omega
    simp only [grpF]
    cases hx : nodeOk x with
    | false => simp only [Bool.not_false, cond_true, cond_false]; exact hr _
    | true =>
      simp only [Bool.not_true, cond_false, cond_true]
      by_cases h5 : x.1 = 5
      · rw [show (x.1 == 5) = true by simpa using h5, if_pos h5, seen_get]
        simp only [cond_true]
        by_cases c1 : x.2.2.2.2 ∈ gs
        · rw [decide_eq_true c1, if_pos (.inl c1)]; exact hr _
        rw [decide_eq_false c1]
        by_cases c2 : x.2.2.2.2 < 1
        · rw [decide_eq_true c2, if_pos (.inr (.inl c2))]; exact hr _
        rw [decide_eq_false c2]
        by_cases c3 : x.2.2.2.2 > G
        · rw [decide_eq_true c3, if_pos (.inr (.inr c3))]; exact hr _
        rw [decide_eq_false c3, if_neg (by simp only [not_or]; exact ⟨c1, c2, c3⟩), seen_set _ _ c1]
        simp only [cond_false]
        have := ih n (i + 1) (gs ++ [x.2.2.2.2]) (by omega) (by omega)
        rw [e1] at this
        exact this
      · rw [show (x.1 == 5) = false by simpa using h5, if_neg h5]
        simp only [cond_false]
        have := ih n (i + 1) gs (by omega) (by omega)
        rw [e1] at this
        exact this

def brF (G : Int) : List Bra → Nat → List Int → Option (List Int)
  | [], _, gs => some gs
  | b :: r, c, gs => if c + b.2.2.length > 5000 then none else match grpF G b.2.2 gs with
    | some gs' => brF G r (c + b.2.2.length) gs'
    | none => none

theorem impl_l0 {R : Type} (N : Nat) (hN : 1048576 < N) (bs : List Bra) (hb : SmallB bs) (x7 : List Bra) (G : Int) (ke : List Bra → Int → List (Int × Bool) → Option R) (kret : Bool → List Bra → Int → List (Int × Bool) → Option R) (r : Option R) (hr : ∀ a, kret false x7 G a = r) :
    ∀ (d n i c : Nat) (gs : List Int), i + d = bs.length → d < n → c ≤ 5000 →
      F.impl_RuleOK_l0 N n (c : Int) bs (bs.length : Int) (i : Int) x7 G (seenM gs) ke kret = (match brF G (bs.drop i) c gs with
        | some gs' => ke x7 G (seenM gs')
        | none => r) := by
  have hb1 := hb.1
  intro d
  induction d with
  | zero =>
    intro n i c gs hi hn hc
    obtain ⟨n, rfl⟩ : ∃ m, n = m + 1 := ⟨n - 1, by omega⟩
    simp only [F.impl_RuleOK_l0, F.impl_RuleOK_l0_s, Bool.cond_decide]
    rw [if_neg (by omega), List.drop_of_length_le (by omega)]
    rfl
  | succ d ih =>
    intro n i c gs hi hn hc
    obtain ⟨n, rfl⟩ : ∃ m, n = m + 1 := ⟨n - 1, by omega⟩
    simp only [F.impl_RuleOK_l0, F.impl_RuleOK_l0_s]
    rw [List.drop_eq_getElem_cons (show i < bs.length by omega)]
    rw [decide_eq_true (show (i : Int) < (bs.length : Int) by omega), inB_true (i := (i : Int)) (n := bs.length) (by omega) (by omega)]
    simp only [cond_true, Int.toNat_natCast, getD_at bs _ (show i < bs.length by omega)]
    have hs := hb.2 bs[i] (List.getElem_mem (by omega))
    generalize bs[i] = b at hs
    have hs1 := hs.1
    have e1 : ((i + 1 : Nat) : Int) = (i : Int) + 1 := by omega
    rw [wrap_id (n := (c : Int) + (b.2.2.length : Int)) (by omega) (by omega)]
    simp only [brF]
    by_cases hc2 : c + b.2.2.length > 5000
    · rw [decide_eq_true (show (c : Int) + (b.2.2.length : Int) > 5000 by omega), if_pos hc2]; exact hr _
    rw [decide_eq_false (show ¬ (c : Int) + (b.2.2.length : Int) > 5000 by omega), if_neg hc2]
    simp only [cond_false]
    have := impl_l2 N hN ((c : Int) + (b.2.2.length : Int)) bs (bs.length : Int) (i : Int) b.2.2 hs x7 G (fun y21 y22 y23 y24 y25 y26 y27 => F.impl_RuleOK_l0 N n y21 y22 y23 (wrapK .i64 (y24 + 1)) y25 y26 y27 ke kret) (fun y28 _ _ _ _ y33 y34 y35 => kret y28 y33 y34 y35) r hr b.2.2.length N 0 gs (by omega) (by omega)
    rw [show ((0 : Nat) : Int) = 0 from rfl, List.drop_zero] at this
    rw [this]
    cases grpF G b.2.2 gs with
    | none => rfl
    | some gs' =>
      simp only
      rw [wrap_id (n := (i : Int) + 1) (by omega) (by omega)]
      have := ih n (i + 1) (c + b.2.2.length) gs' (by omega) (by omega) (by omega)
      rw [e1, show ((c + b.2.2.length : Nat) : Int) = (c : Int) + (b.2.2.length : Int) by omega] at this
      exact this

/-- What impl's weigh answers for a rule. -/
def ruleW : List Bra → Int → Option Int
  | [], s => some s
  | b :: r, s => match brW b.2.2 with
    | some w => ruleW r (cap (s + w))
    | none => none

theorem brW_bound {l : List Nod} (ok : ∀ x ∈ l, nodeOk x = true) (hl : l.length ≤ 1048576) {w : Int} (h : brW l = some w) : 0 ≤ w ∧ w ≤ 2001 :=
  (specWeight (R := Unit) 1048577 l hl ok (by omega) h (fun _ => none)).2

theorem impl_rw {R : Type} (N : Nat) (hN : 1048576 < N) (bs : List Bra) (hb : SmallB bs) (ok : ∀ b ∈ bs, ∀ x ∈ b.2.2, nodeOk x = true) (ke : Int → Option R) (kret : Int → Bool → Int → Option R) (r : Option R) (hr : ∀ a b, kret a false b = r) :
    ∀ (d n i : Nat) (s : Int), i + d = bs.length → d < n → 0 ≤ s → s ≤ 2001 → F.impl_Rule_weigh_l0 N n s bs (bs.length : Int) (i : Int) ke kret = (match ruleW (bs.drop i) s with
      | some w => ke w
      | none => r) := by
  have hb1 := hb.1
  intro d
  induction d with
  | zero =>
    intro n i s hi hn h0 h1
    obtain ⟨n, rfl⟩ : ∃ m, n = m + 1 := ⟨n - 1, by omega⟩
    simp only [F.impl_Rule_weigh_l0, F.impl_Rule_weigh_l0_s, Bool.cond_decide]
    rw [if_neg (by omega), List.drop_of_length_le (by omega)]
    rfl
  | succ d ih =>
    intro n i s hi hn h0 h1
    obtain ⟨n, rfl⟩ : ∃ m, n = m + 1 := ⟨n - 1, by omega⟩
    simp only [F.impl_Rule_weigh_l0, F.impl_Rule_weigh_l0_s]
    rw [List.drop_eq_getElem_cons (show i < bs.length by omega)]
    rw [decide_eq_true (show (i : Int) < (bs.length : Int) by omega), inB_true (i := (i : Int)) (n := bs.length) (by omega) (by omega), wrap_id (n := (i : Int) + 1) (by omega) (by omega)]
    simp only [cond_true, Int.toNat_natCast, getD_at bs _ (show i < bs.length by omega)]
    have hs := hb.2 bs[i] (List.getElem_mem (by omega))
    have hok := ok bs[i] (List.getElem_mem (by omega))
    generalize bs[i] = b at hs hok
    rw [implWeigh N b.1 b.2.1 b.2.2 hs.1 hok hN (fun r7 r8 => bif !r8 then kret 0 false s else F.impl_Rule_weigh_l0 N n (bif decide (2001 < (wrapK .i64 (s + r7))) then 2001 else wrapK .i64 (s + r7)) bs (bs.length : Int) ((i : Int) + 1) ke kret) r (fun y => hr _ _)]
    simp only [ruleW]
    cases hw : brW b.2.2 with
    | none => rfl
    | some w =>
      have hwb := brW_bound hok hs.1 hw
      simp only [Bool.not_true, cond_false]
      rw [wrap_id (n := s + w) (by omega) (by omega), min_cap]
      have hcap : 0 ≤ cap (s + w) ∧ cap (s + w) ≤ 2001 := by unfold cap; split <;> omega
      have := ih n (i + 1) (cap (s + w)) (by omega) (by omega) hcap.1 hcap.2
      rw [show ((i + 1 : Nat) : Int) = (i : Int) + 1 by omega] at this
      exact this

/-- What the program answers. -/
def implF (bs : List Bra) (G : Int) : Bool :=
  decide (1 ≤ bs.length ∧ bs.length ≤ 2000 ∧ 0 ≤ G ∧ G ≤ 500) && (match brF G bs 0 [] with
    | some gs => (match ruleW bs 0 with
      | some w => decide ((gs.length : Int) = G) && decide (w ≤ 2000)
      | none => false)
    | none => false)

theorem grpF_iff {G : Int} : ∀ {l : List Nod} {gs gs' : List Int}, grpF G l gs = some gs' ↔ ((∀ x ∈ l, nodeOk x = true) ∧ (∀ v ∈ groupsOf l, 1 ≤ v ∧ v ≤ G ∧ v ∉ gs) ∧ (groupsOf l).Nodup ∧ gs' = gs ++ groupsOf l)
  | [], gs, gs' => by
    simp only [grpF, groupsOf]
    constructor
    · intro h
      cases h
      exact ⟨by simp, by simp, by simp, by simp⟩
    · rintro ⟨_, _, _, h⟩
      rw [h, List.append_nil]
  | x :: r, gs, gs' => by
    simp only [grpF, groupsOf]
    cases hx : nodeOk x with
    | false => simp [hx]
    | true =>
      simp only [cond_true]
      by_cases h5 : x.1 = 5
      · rw [if_pos h5, if_pos h5]
        by_cases hc : x.2.2.2.2 ∈ gs ∨ x.2.2.2.2 < 1 ∨ x.2.2.2.2 > G
        · rw [if_pos hc]
          constructor
          · intro h; cases h
          · rintro ⟨_, h, _⟩
            have := h x.2.2.2.2 (by simp)
            rcases hc with hc | hc | hc
            · exact (this.2.2 hc).elim
            · omega
            · omega
        · rw [if_neg hc, grpF_iff]
          simp only [not_or] at hc
          obtain ⟨c1, c2, c3⟩ := hc
          constructor
          · rintro ⟨h1, h2, h3, h4⟩
            refine ⟨?_, ?_, ?_, by rw [h4]; simp⟩
            · intro y hy
              rcases List.mem_cons.1 hy with rfl | hy
              · exact hx
              · exact h1 y hy
            · intro v hv
              rcases List.mem_cons.1 hv with rfl | hv
              · exact ⟨by omega, by omega, c1⟩
              · have := h2 v hv
                exact ⟨this.1, this.2.1, fun e => this.2.2 (by simp [e])⟩
            · rw [List.nodup_cons]
              exact ⟨fun e => (h2 _ e).2.2 (by simp), h3⟩
          · rintro ⟨h1, h2, h3, h4⟩
            rw [List.nodup_cons] at h3
            refine ⟨fun y hy => h1 y (by simp [hy]), ?_, h3.2, by rw [h4]; simp⟩
            intro v hv
            have := h2 v (by simp [hv])
            refine ⟨this.1, this.2.1, fun e => ?_⟩
            rcases List.mem_append.1 e with e | e
            · exact this.2.2 e
            · rw [List.mem_singleton] at e
              subst e
              exact h3.1 hv
      · rw [if_neg h5, if_neg h5, grpF_iff]
        constructor
        · rintro ⟨h1, h2⟩
          refine ⟨?_, h2⟩
          intro y hy
          rcases List.mem_cons.1 hy with rfl | hy
          · exact hx
          · exact h1 y hy
        · rintro ⟨h1, h2⟩
          exact ⟨fun y hy => h1 y (by simp [hy]), h2⟩

theorem brF_iff {G : Int} : ∀ {bs : List Bra} {c : Nat} {gs gs' : List Int}, c ≤ 5000 → (brF G bs c gs = some gs' ↔ (c + total bs ≤ 5000 ∧ (∀ b ∈ bs, ∀ x ∈ b.2.2, nodeOk x = true) ∧ (∀ v ∈ groupsB bs, 1 ≤ v ∧ v ≤ G ∧ v ∉ gs) ∧ (groupsB bs).Nodup ∧ gs' = gs ++ groupsB bs))
  | [], c, gs, gs', hc => by
    simp only [brF, groupsB, total]
    constructor
    · intro h
      cases h
      exact ⟨by omega, by simp, by simp, by simp, by simp⟩
    · rintro ⟨_, _, _, _, h⟩
      rw [h, List.append_nil]
  | b :: r, c, gs, gs', hc => by
    simp only [brF, groupsB, total]
    by_cases h : c + b.2.2.length > 5000
    · rw [if_pos h]
      constructor
      · intro h; cases h
      · rintro ⟨h, _⟩; omega
    rw [if_neg h]
    cases hg : grpF G b.2.2 gs with
    | none =>
      simp only
      constructor
      · intro h; cases h
      · rintro ⟨h1, h2, h3, h4, h5⟩
        rw [List.nodup_append] at h4
        have := grpF_iff.2 ⟨h2 b (by simp), fun v hv => h3 v (by simp [hv]), h4.1, rfl⟩
        rw [hg] at this
        cases this
    | some g1 =>
      simp only
      obtain ⟨a1, a2, a3, rfl⟩ := grpF_iff.1 hg
      rw [brF_iff (by omega)]
      constructor
      · rintro ⟨h1, h2, h3, h4, h5⟩
        refine ⟨by omega, ?_, ?_, ?_, by rw [h5]; simp⟩
        · intro y hy
          rcases List.mem_cons.1 hy with rfl | hy
          · exact a1
          · exact h2 y hy
        · intro v hv
          rcases List.mem_append.1 hv with hv | hv
          · exact a2 v hv
          · have := h3 v hv
            exact ⟨this.1, this.2.1, fun e => this.2.2 (by simp [e])⟩
        · rw [List.nodup_append]
          refine ⟨a3, h4, ?_⟩
          intro x hx y hy e
          subst e
          exact (h3 x hy).2.2 (by simp [hx])
      · rintro ⟨h1, h2, h3, h4, h5⟩
        rw [List.nodup_append] at h4
        refine ⟨by omega, fun y hy => h2 y (by simp [hy]), ?_, h4.2.1, by rw [h5]; simp⟩
        intro v hv
        have := h3 v (by simp [hv])
        refine ⟨this.1, this.2.1, fun e => ?_⟩
        rcases List.mem_append.1 e with e | e
        · exact this.2.2 e
        · exact h4.2.2 v e v hv rfl

/-! ### each group once -/

def cntSum (gs : List Int) : Nat → Int → Nat
  | 0, _ => 0
  | d + 1, g => cntI g gs + cntSum gs d (g + 1)

theorem cntSum_cons (h : Int) (r : List Int) : ∀ (d : Nat) (g : Int), cntSum (h :: r) d g = (if g ≤ h ∧ h < g + d then 1 else 0) + cntSum r d g
  | 0, g => by
    rw [if_neg (by omega)]
    rfl
  | d + 1, g => by
    simp only [cntSum, cntI]
    rw [cntSum_cons h r d (g + 1)]
    by_cases h1 : h = g
    · rw [if_pos h1, if_neg (by omega), if_pos (by omega)]
      omega
    · rw [if_neg h1]
      by_cases h2 : g + 1 ≤ h ∧ h < g + 1 + d
      · rw [if_pos h2, if_pos (by omega)]
        omega
      · rw [if_neg h2, if_neg (by omega)]
        omega

theorem cntSum_nil : ∀ (d : Nat) (g : Int), cntSum [] d g = 0
  | 0, _ => rfl
  | d + 1, g => by simp only [cntSum, cntI, cntSum_nil d]

theorem cntSum_len : ∀ (gs : List Int) (d : Nat) (g : Int), cntSum gs d g ≤ gs.length ∧ (cntSum gs d g = gs.length ↔ ∀ v ∈ gs, g ≤ v ∧ v < g + d)
  | [], d, g => by simp [cntSum_nil]
  | h :: r, d, g => by
    obtain ⟨i1, i2⟩ := cntSum_len r d g
    rw [cntSum_cons]
    by_cases hh : g ≤ h ∧ h < g + d
    · rw [if_pos hh]
      refine ⟨by simp; omega, ?_⟩
      constructor
      · intro e v hv
        rcases List.mem_cons.1 hv with rfl | hv
        · exact hh
        · exact i2.1 (by simp at e; omega) v hv
      · intro e
        have := i2.2 fun v hv => e v (by simp [hv])
        simp
        omega
    · rw [if_neg hh]
      refine ⟨by simp; omega, ?_⟩
      constructor
      · intro e
        simp at e
        omega
      · intro e
        exact (hh (e h (by simp))).elim

theorem cntI_zero {g : Int} : ∀ {gs : List Int}, cntI g gs = 0 ↔ g ∉ gs
  | [] => by simp [cntI]
  | h :: r => by
    simp only [cntI, List.mem_cons, not_or]
    by_cases hh : h = g
    · rw [if_pos hh]
      constructor
      · intro e; omega
      · intro e; exact (e.1 hh.symm).elim
    · rw [if_neg hh, Nat.zero_add, cntI_zero]
      exact ⟨fun e => ⟨fun e' => hh e'.symm, e⟩, fun e => e.2⟩

theorem cntI_nodup : ∀ {gs : List Int}, gs.Nodup ↔ ∀ v ∈ gs, cntI v gs = 1
  | [] => by simp
  | h :: r => by
    rw [List.nodup_cons, cntI_nodup]
    constructor
    · rintro ⟨h1, h2⟩ v hv
      simp only [cntI]
      rcases List.mem_cons.1 hv with rfl | hv
      · rw [if_pos rfl, cntI_zero.2 h1]
      · rw [if_neg (fun e : h = v => h1 (by rw [e]; exact hv)), h2 v hv]
    · intro e
      have h1 : h ∉ r := by
        have := e h (by simp)
        simp only [cntI, if_true] at this
        exact cntI_zero.1 (by omega)
      refine ⟨h1, fun v hv => ?_⟩
      have := e v (by simp [hv])
      simp only [cntI] at this
      rw [if_neg (fun e : h = v => h1 (by rw [e]; exact hv))] at this
      omega

theorem onceF_iff (gs : List Int) : ∀ (d : Nat) (g : Int), onceF gs d g = true ↔ ∀ v, g ≤ v → v < g + d → cntI v gs = 1
  | 0, g => by
    simp only [onceF, true_iff]
    intro v h1 h2
    omega
  | d + 1, g => by
    simp only [onceF, Bool.and_eq_true, decide_eq_true_eq]
    rw [onceF_iff gs d (g + 1)]
    constructor
    · rintro ⟨h1, h2⟩ v h3 h4
      by_cases e : v = g
      · subst e; exact h1
      · exact h2 v (by omega) (by omega)
    · intro h
      exact ⟨h g (by omega) (by omega), fun v h1 h2 => h v (by omega) (by omega)⟩

theorem cntSum_once (gs : List Int) : ∀ (d : Nat) (g : Int), (∀ v, g ≤ v → v < g + d → cntI v gs = 1) → cntSum gs d g = d
  | 0, _, _ => rfl
  | d + 1, g, h => by
    simp only [cntSum]
    rw [h g (by omega) (by omega), cntSum_once gs d (g + 1) fun v h1 h2 => h v (by omega) (by omega)]
    omega

theorem cntSum_one (gs : List Int) (hle : ∀ v, cntI v gs ≤ 1) : ∀ (d : Nat) (g : Int), cntSum gs d g ≤ d ∧ (cntSum gs d g = d → ∀ v, g ≤ v → v < g + d → cntI v gs = 1)
  | 0, g => ⟨Nat.le_refl _, fun _ v h1 h2 => by omega⟩
  | d + 1, g => by
    obtain ⟨i1, i2⟩ := cntSum_one gs hle d (g + 1)
    have := hle g
    simp only [cntSum]
    refine ⟨by omega, fun e v h1 h2 => ?_⟩
    by_cases hv : v = g
    · subst hv; omega
    · exact i2 (by omega) v (by omega) (by omega)

theorem once_iff {gs : List Int} {G : Int} (h0 : 0 ≤ G) (hl : (gs.length : Int) = G) : onceF gs G.toNat 1 = true ↔ (gs.Nodup ∧ ∀ v ∈ gs, 1 ≤ v ∧ v ≤ G) := by
  have hlen := cntSum_len gs G.toNat 1
  rw [onceF_iff]
  constructor
  · intro h
    have e := cntSum_once gs G.toNat 1 h
    have hr := hlen.2.1 (by omega)
    refine ⟨cntI_nodup.2 fun v hv => ?_, fun v hv => ?_⟩
    · have := hr v hv
      exact h v this.1 this.2
    · have := hr v hv
      omega
  · rintro ⟨h1, h2⟩
    have e := hlen.2.2 fun v hv => by have := h2 v hv; omega
    have hle : ∀ v, cntI v gs ≤ 1 := by
      intro v
      by_cases hv : v ∈ gs
      · rw [cntI_nodup.1 h1 v hv]; exact Nat.le_refl _
      · rw [cntI_zero.2 hv]; omega
    exact (cntSum_one gs hle G.toNat 1).2 (by omega)

/-! ### both are one -/

theorem ruleW_none : ∀ {bs : List Bra} {s : Int}, (∃ b ∈ bs, brW b.2.2 = none) → ruleW bs s = none
  | [], _, h => by obtain ⟨b, hb, _⟩ := h; simp at hb
  | b :: r, s, h => by
    simp only [ruleW]
    cases hb : brW b.2.2 with
    | none => rfl
    | some w =>
      obtain ⟨b', hb', e⟩ := h
      rcases List.mem_cons.1 hb' with rfl | hb'
      · rw [hb] at e; cases e
      · exact ruleW_none ⟨b', hb', e⟩

theorem ruleW_some : ∀ {bs : List Bra} {s : Int}, SmallB bs → (∀ b ∈ bs, ∀ x ∈ b.2.2, nodeOk x = true) → (∀ b ∈ bs, ∃ w, brW b.2.2 = some w) → 0 ≤ s → s ≤ 2001 → 0 ≤ sumW bs ∧ ∃ w, ruleW bs s = some w ∧ (w ≤ 2000 ↔ s + sumW bs ≤ 2000)
  | [], s, _, _, _, h0, h1 => ⟨Int.le_refl _, s, rfl, by simp [sumW]⟩
  | b :: r, s, hs, hok, hw, h0, h1 => by
    obtain ⟨w, e⟩ := hw b (by simp)
    have hb := brW_bound (hok b (by simp)) (hs.2 b (by simp)).1 e
    have hcap : 0 ≤ cap (s + w) ∧ cap (s + w) ≤ 2001 := by unfold cap; split <;> omega
    obtain ⟨i0, w', i1, i2⟩ := ruleW_some (bs := r) (s := cap (s + w)) ⟨by have := hs.1; simp at this; omega, fun y hy => hs.2 y (by simp [hy])⟩ (fun y hy => hok y (by simp [hy])) (fun y hy => hw y (by simp [hy])) hcap.1 hcap.2
    simp only [ruleW, sumW, e, Option.getD_some]
    refine ⟨by omega, w', i1, i2.trans ?_⟩
    unfold cap
    split <;> omega

theorem same {bs : List Bra} {G : Int} (hb : SmallB bs) : implF bs G = specF bs G := by
  unfold implF specF
  by_cases h0 : 1 ≤ bs.length ∧ bs.length ≤ 2000 ∧ 0 ≤ G ∧ G ≤ 500
  case neg =>
    rw [decide_eq_false h0, decide_eq_false (fun h => h0 ⟨h.1, h.2.1, h.2.2.1, h.2.2.2.1⟩)]
    rfl
  rw [decide_eq_true h0, Bool.true_and]
  obtain ⟨g1, g2, g3, g4⟩ := h0
  cases hF : brF G bs 0 [] with
  | none =>
    simp only
    symm
    rw [← Bool.not_eq_true]
    intro h
    simp only [Bool.and_eq_true, decide_eq_true_eq, List.all_eq_true] at h
    obtain ⟨⟨⟨⟨a1, a2⟩, a3⟩, a4⟩, _⟩ := h
    obtain ⟨o1, o2⟩ := (once_iff g3 a3).1 a4
    have := (brF_iff (G := G) (bs := bs) (c := 0) (gs := []) (gs' := groupsB bs) (by omega)).2 ⟨by omega, fun b hb x hx => (branchOk_w (a2 b hb)).1 x hx, fun v hv => ⟨(o2 v hv).1, (o2 v hv).2, by simp⟩, o1, by simp⟩
    rw [hF] at this
    cases this
  | some gs =>
    obtain ⟨a1, a2, a3, a4, a5⟩ := (brF_iff (by omega)).1 hF
    rw [List.nil_append] at a5
    subst a5
    simp only
    by_cases hw : ∃ b ∈ bs, brW b.2.2 = none
    · rw [ruleW_none hw]
      obtain ⟨b, hb1, hb2⟩ := hw
      have : bs.all branchOk = false := by
        rw [← Bool.not_eq_true, List.all_eq_true]
        intro h
        obtain ⟨_, w, e⟩ := branchOk_w (h b hb1)
        rw [hb2] at e
        cases e
      rw [this]
      simp
    · have hw' : ∀ b ∈ bs, ∃ w, brW b.2.2 = some w := by
        intro b hb1
        cases e : brW b.2.2 with
        | none => exact (hw ⟨b, hb1, e⟩).elim
        | some w => exact ⟨w, rfl⟩
      obtain ⟨_, w, e1, e2⟩ := ruleW_some hb a2 hw' (Int.le_refl 0) (by omega)
      rw [e1]
      have hall : bs.all branchOk = true := by
        rw [List.all_eq_true]
        intro b hb1
        obtain ⟨w, e⟩ := hw' b hb1
        simp only [branchOk, Bool.and_eq_true, List.all_eq_true]
        exact ⟨by rw [brOk_brW, e]; rfl, a2 b hb1⟩
      rw [hall, decide_eq_true (show 1 ≤ bs.length ∧ bs.length ≤ 2000 ∧ 0 ≤ G ∧ G ≤ 500 ∧ total bs ≤ 5000 by omega)]
      simp only [Bool.true_and]
      by_cases hl : ((groupsB bs).length : Int) = G
      · rw [decide_eq_true hl, (once_iff g3 hl).2 ⟨a4, fun v hv => ⟨(a3 v hv).1, (a3 v hv).2.1⟩⟩]
        simp only [Bool.true_and]
        rw [Int.zero_add] at e2
        exact decide_eq_decide.2 e2
      · rw [decide_eq_false hl]; rfl

theorem implRuleOK {R : Type} (N : Nat) (hN : 1048576 < N) (bs : List Bra) (G : Int) (hb : SmallB bs) (k : Bool → Option R) : F.impl_RuleOK N bs G k = k (implF bs G) := by
  simp only [F.impl_RuleOK, implF]
  by_cases h1 : (bs.length : Int) < 1
  · rw [decide_eq_true h1, decide_eq_false (show ¬ (1 ≤ bs.length ∧ bs.length ≤ 2000 ∧ 0 ≤ G ∧ G ≤ 500) by omega)]; rfl
  by_cases h2 : (bs.length : Int) > 2000
  · rw [decide_eq_false h1, decide_eq_true h2, decide_eq_false (show ¬ (1 ≤ bs.length ∧ bs.length ≤ 2000 ∧ 0 ≤ G ∧ G ≤ 500) by omega)]; rfl
  by_cases h3 : G < 0
  · rw [decide_eq_false h1, decide_eq_false h2, decide_eq_true h3, decide_eq_false (show ¬ (1 ≤ bs.length ∧ bs.length ≤ 2000 ∧ 0 ≤ G ∧ G ≤ 500) by omega)]; rfl
  by_cases h4 : G > 500
  · rw [decide_eq_false h1, decide_eq_false h2, decide_eq_false h3, decide_eq_true h4, decide_eq_false (show ¬ (1 ≤ bs.length ∧ bs.length ≤ 2000 ∧ 0 ≤ G ∧ G ≤ 500) by omega)]; rfl
  rw [decide_eq_false h1, decide_eq_false h2, decide_eq_false h3, decide_eq_false h4, decide_eq_true (show 1 ≤ bs.length ∧ bs.length ≤ 2000 ∧ 0 ≤ G ∧ G ≤ 500 by omega)]
  simp only [cond_false, Bool.true_and]
  have e0 := impl_l0 N hN bs hb bs G (fun y36 y37 y38 =>
              F.impl_Rule_weigh N y36 y37 fun r39 r40 =>
              bif r40 then
                bif (List.length y38 : Int) == y37 then
                  k (decide (r39 ≤ 2000))
                else
                  k false
              else
                k false) (fun y41 _ _ _ => k y41) (k false) (fun _ => rfl) bs.length N 0 0 [] (by omega) (by omega) (by omega)
  rw [show ((0 : Nat) : Int) = 0 from rfl, List.drop_zero] at e0
  refine e0.trans ?_
  cases hF : brF G bs 0 [] with
  | none => rfl
  | some gs =>
    simp only
    obtain ⟨a1, a2, a3, a4, a5⟩ := (brF_iff (by omega)).1 hF
    simp only [F.impl_Rule_weigh]
    have e1 := impl_rw N hN bs hb a2 (fun y9 => bif true then bif (List.length (seenM gs) : Int) == G then k (decide (y9 ≤ 2000)) else k false else k false) (fun y10 y11 _ => bif y11 then bif (List.length (seenM gs) : Int) == G then k (decide (y10 ≤ 2000)) else k false else k false) (k false) (fun _ _ => rfl) bs.length N 0 0 (by omega) (by omega) (by omega) (by omega)
    rw [show ((0 : Nat) : Int) = 0 from rfl, List.drop_zero] at e1
    refine e1.trans ?_
    cases ruleW bs 0 with
    | none => rfl
    | some w =>
      simp only [cond_true]
      rw [show (seenM gs).length = gs.length by simp [seenM]]
      by_cases hl : (gs.length : Int) = G
      · rw [show ((gs.length : Int) == G) = true by simpa using hl, decide_eq_true hl]; rfl
      · rw [show ((gs.length : Int) == G) = false by simpa using hl, decide_eq_false hl]; rfl

/-! ### sets of offsets, languages -/

/-- A row of n + 1 truth values: at which offsets something can be. -/
structure Sp (n : Nat) (S : List Bool) (P : Nat → Prop) : Prop where
  len : S.length = n + 1
  mem : ∀ j, j ≤ n → (List.getD S j false = true ↔ P j)

theorem Sp.congr {n : Nat} {S : List Bool} {P P' : Nat → Prop} (h : Sp n S P) (e : ∀ j, j ≤ n → (P j ↔ P' j)) : Sp n S P' :=
  ⟨h.len, fun j hj => (h.mem j hj).trans (e j hj)⟩

theorem zip_getD (f : Bool → Bool → Bool) : ∀ (x y : List Bool) (j : Nat), j < x.length → j < y.length → List.getD (List.zipWith f x y) j false = f (List.getD x j false) (List.getD y j false)
  | a :: x, b :: y, 0, _, _ => rfl
  | a :: x, b :: y, j + 1, h, k => by
    have := zip_getD f x y j (by simpa using h) (by simpa using k)
    simpa using this
  | [], _, j, h, _ => by simp at h
  | _ :: _, [], j, _, k => by simp at k

theorem any_zip (f : Bool → Bool → Bool) : ∀ (x y : List Bool), x.length = y.length → ((List.zipWith f x y).any id = true ↔ ∃ j, j < x.length ∧ f (List.getD x j false) (List.getD y j false) = true)
  | [], [], _ => by simp
  | a :: x, b :: y, h => by
    have ih := any_zip f x y (by simpa using h)
    simp only [List.zipWith_cons_cons, List.any_cons, id, Bool.or_eq_true]
    rw [ih]
    constructor
    · rintro (h | ⟨j, h1, h2⟩)
      · exact ⟨0, by simp, h⟩
      · exact ⟨j + 1, by simpa using h1, by simpa using h2⟩
    · rintro ⟨j, h1, h2⟩
      cases j with
      | zero => exact .inl h2
      | succ j => exact .inr ⟨j, by simpa using h1, by simpa using h2⟩
  | [], _ :: _, h => by simp at h
  | _ :: _, [], h => by simp at h

theorem Sp.or {n : Nat} {S T : List Bool} {P Q : Nat → Prop} (h : Sp n S P) (k : Sp n T Q) : Sp n (List.zipWith (fun a b => a || b) S T) (fun j => P j ∨ Q j) := by
  refine ⟨by simp [h.len, k.len], fun j hj => ?_⟩
  rw [zip_getD _ _ _ _ (by rw [h.len]; omega) (by rw [k.len]; omega), Bool.or_eq_true, h.mem j hj, k.mem j hj]

theorem Sp.less {n : Nat} {S T : List Bool} {P Q : Nat → Prop} (h : Sp n S P) (k : Sp n T Q) : Sp n (List.zipWith (fun a b => a && !b) S T) (fun j => P j ∧ ¬ Q j) := by
  refine ⟨by simp [h.len, k.len], fun j hj => ?_⟩
  rw [zip_getD _ _ _ _ (by rw [h.len]; omega) (by rw [k.len]; omega), Bool.and_eq_true, h.mem j hj, Bool.not_eq_true', ← k.mem j hj]
  simp

/-- How many are not there. -/
def falses : List Bool → Nat
  | [] => 0
  | true :: r => falses r
  | false :: r => falses r + 1

theorem falses_le : ∀ l : List Bool, falses l ≤ l.length
  | [] => Nat.le_refl _
  | true :: r => Nat.le_succ_of_le (falses_le r)
  | false :: r => Nat.succ_le_succ (falses_le r)

theorem falses_or : ∀ (x y : List Bool), x.length = y.length → falses (List.zipWith (fun a b => a || b) x y) ≤ falses x
  | [], [], _ => Nat.le_refl _
  | true :: x, b :: y, h => falses_or x y (by simpa using h)
  | false :: x, true :: y, h => Nat.le_succ_of_le (falses_or x y (by simpa using h))
  | false :: x, false :: y, h => Nat.succ_le_succ (falses_or x y (by simpa using h))
  | [], _ :: _, h => by simp at h
  | _ :: _, [], h => by simp at h

theorem falses_lt : ∀ (x y : List Bool), x.length = y.length → (List.zipWith (fun a b => b && !a) x y).any id = true → falses (List.zipWith (fun a b => a || b) x y) < falses x
  | [], [], _, h => by simp at h
  | true :: x, b :: y, h, k => falses_lt x y (by simpa using h) (by simpa using k)
  | false :: x, true :: y, h, k => Nat.lt_succ_of_le (falses_or x y (by simpa using h))
  | false :: x, false :: y, h, k => Nat.succ_lt_succ (falses_lt x y (by simpa using h) (by simpa using k))
  | [], _ :: _, h, _ => by simp at h
  | _ :: _, [], h, _ => by simp at h

theorem zip_flip : ∀ (x y : List Bool), List.zipWith (fun a b => b && !a) x (List.zipWith (fun a b => a && !b) y x) = List.zipWith (fun a b => a && !b) y x
  | [], y => by cases y <;> rfl
  | _ :: _, [] => rfl
  | a :: x, b :: y => by
    simp only [List.zipWith_cons_cons]
    rw [zip_flip x y]
    cases a <;> cases b <;> rfl

/-- The offsets at which a word of A can end that begins at one of Q's. -/
def ends (A : List UInt8 → Prop) (text : List UInt8) (Q : Nat → Prop) (j : Nat) : Prop := ∃ i, i ≤ j ∧ Q i ∧ A ((text.drop i).take (j - i))

theorem ends_mono {A : List UInt8 → Prop} {text : List UInt8} {Q Q' : Nat → Prop} {j : Nat} (h : ∀ i, i ≤ j → Q i → Q' i) (k : ends A text Q j) : ends A text Q' j := by
  obtain ⟨i, h1, h2, h3⟩ := k
  exact ⟨i, h1, h i h1 h2, h3⟩

theorem ends_iff {A : List UInt8 → Prop} {text : List UInt8} {Q Q' : Nat → Prop} {j : Nat} (h : ∀ i, i ≤ j → (Q i ↔ Q' i)) : ends A text Q j ↔ ends A text Q' j :=
  ⟨ends_mono fun i hi => (h i hi).1, ends_mono fun i hi => (h i hi).2⟩

theorem ends_or {A : List UInt8 → Prop} {text : List UInt8} {Q Q' : Nat → Prop} {j : Nat} : ends A text (fun i => Q i ∨ Q' i) j ↔ ends A text Q j ∨ ends A text Q' j := by
  constructor
  · rintro ⟨i, h1, h2 | h2, h3⟩
    · exact .inl ⟨i, h1, h2, h3⟩
    · exact .inr ⟨i, h1, h2, h3⟩
  · rintro (h | h)
    · exact ends_mono (fun _ _ => .inl) h
    · exact ends_mono (fun _ _ => .inr) h

/-- A word of A, then one of B. -/
def Cat (A B : List UInt8 → Prop) (w : List UInt8) : Prop := ∃ u v, w = u ++ v ∧ A u ∧ B v

theorem seg_cut (text : List UInt8) {i m j : Nat} (h1 : i ≤ m) (h2 : m ≤ j) : (text.drop i).take (j - i) = (text.drop i).take (m - i) ++ (text.drop m).take (j - m) := by
  rw [show j - i = (m - i) + (j - m) by omega, List.take_add, List.drop_drop, show i + (m - i) = m by omega]

theorem ends_cat {A B : List UInt8 → Prop} {text : List UInt8} {Q : Nat → Prop} {j : Nat} (hj : j ≤ text.length) : ends (Cat A B) text Q j ↔ ends B text (ends A text Q) j := by
  constructor
  · rintro ⟨i, h1, h2, u, v, h3, h4, h5⟩
    have hl := congrArg List.length h3
    simp only [List.length_take, List.length_drop, List.length_append] at hl
    have hc := seg_cut text (i := i) (m := i + u.length) (j := j) (by omega) (by omega)
    rw [hc, show i + u.length - i = u.length by omega] at h3
    have hlu : ((text.drop i).take u.length).length = u.length := by simp only [List.length_take, List.length_drop]; omega
    obtain ⟨e1, e2⟩ := List.append_inj h3 hlu
    refine ⟨i + u.length, by omega, ⟨i, by omega, h2, ?_⟩, ?_⟩
    · rw [show i + u.length - i = u.length by omega, e1]; exact h4
    · rw [e2]; exact h5
  · rintro ⟨m, h1, ⟨i, h2, h3, h4⟩, h5⟩
    exact ⟨i, by omega, h3, _, _, seg_cut text h2 h1, h4, h5⟩

/-- k words of A, one behind the other. -/
def Pow (A : List UInt8 → Prop) : Nat → List UInt8 → Prop
  | 0 => fun w => w = []
  | k + 1 => Cat (Pow A k) A

theorem ends_nil {text : List UInt8} {Q : Nat → Prop} {j : Nat} (hj : j ≤ text.length) : ends (fun w => w = []) text Q j ↔ Q j := by
  constructor
  · rintro ⟨i, h1, h2, h3⟩
    have hl := congrArg List.length h3
    simp only [List.length_take, List.length_drop, List.length_nil] at hl
    rw [show j = i by omega]; exact h2
  · intro h
    exact ⟨j, Nat.le_refl _, h, by simp⟩

theorem ends_pow {A : List UInt8 → Prop} {text : List UInt8} {Q : Nat → Prop} {k j : Nat} (hj : j ≤ text.length) : ends (Pow A (k + 1)) text Q j ↔ ends A text (ends (Pow A k) text Q) j := ends_cat hj

/-- From lo copies on, up to hi (hi = -1: as many as one likes). -/
def Many (A : List UInt8 → Prop) (lo hi : Int) (w : List UInt8) : Prop := ∃ k : Nat, (k = lo.toNat ∨ lo.toNat ≤ k ∧ (hi = -1 ∨ (k : Int) ≤ hi)) ∧ Pow A k w

/-- What m to c copies reach. -/
def upTo (A : List UInt8 → Prop) (text : List UInt8) (Q : Nat → Prop) (m c j : Nat) : Prop := ∃ i, m ≤ i ∧ i ≤ c ∧ ends (Pow A i) text Q j

theorem upTo_step {A : List UInt8 → Prop} {text : List UInt8} {Q : Nat → Prop} {m c j : Nat} (hc : m ≤ c) : upTo A text Q m (c + 1) j ↔ upTo A text Q m c j ∨ ends (Pow A (c + 1)) text Q j := by
  constructor
  · rintro ⟨i, h1, h2, h3⟩
    by_cases e : i = c + 1
    · subst e; exact .inr h3
    · exact .inl ⟨i, h1, by omega, h3⟩
  · rintro (⟨i, h1, h2, h3⟩ | h)
    · exact ⟨i, h1, by omega, h3⟩
    · exact ⟨c + 1, by omega, Nat.le_refl _, h⟩

theorem upTo_base {A : List UInt8 → Prop} {text : List UInt8} {Q : Nat → Prop} {m j : Nat} : upTo A text Q m m j ↔ ends (Pow A m) text Q j := by
  constructor
  · rintro ⟨i, h1, h2, h3⟩
    rw [show m = i by omega]; exact h3
  · intro h; exact ⟨m, Nat.le_refl _, Nat.le_refl _, h⟩

/-- One more copy behind. -/
theorem upTo_ends {A : List UInt8 → Prop} {text : List UInt8} {Q : Nat → Prop} {m c j : Nat} (hj : j ≤ text.length) (hc : m ≤ c) (h : ends A text (upTo A text Q m c) j) : upTo A text Q m (c + 1) j := by
  obtain ⟨i, h1, ⟨p, h2, h3, h4⟩, h5⟩ := h
  exact ⟨p + 1, by omega, by omega, (ends_pow hj).2 ⟨i, h1, h4, h5⟩⟩

/-- Nothing new any more. -/
theorem upTo_all {A : List UInt8 → Prop} {text : List UInt8} {Q : Nat → Prop} {m c : Nat} (hc : m ≤ c) (hcl : ∀ j, j ≤ text.length → ends A text (upTo A text Q m c) j → upTo A text Q m c j) :
    ∀ (d j : Nat), j ≤ text.length → ends (Pow A (m + d)) text Q j → upTo A text Q m c j := by
  intro d
  induction d with
  | zero => intro j hj h; exact ⟨m, Nat.le_refl _, hc, h⟩
  | succ d ih =>
    intro j hj h
    refine hcl j hj ?_
    rw [show m + (d + 1) = (m + d) + 1 by omega, ends_pow hj] at h
    exact ends_mono (fun i hi => ih i (by omega)) h

theorem many_iff {A : List UInt8 → Prop} {text : List UInt8} {Q : Nat → Prop} {lo hi : Int} {j : Nat} : ends (Many A lo hi) text Q j ↔ ∃ k : Nat, (k = lo.toNat ∨ lo.toNat ≤ k ∧ (hi = -1 ∨ (k : Int) ≤ hi)) ∧ ends (Pow A k) text Q j := by
  constructor
  · rintro ⟨i, h1, h2, k, h3, h4⟩
    exact ⟨k, h3, i, h1, h2, h4⟩
  · rintro ⟨k, h3, i, h1, h2, h4⟩
    exact ⟨i, h1, h2, k, h3, h4⟩

theorem many_closed {A : List UInt8 → Prop} {text : List UInt8} {Q : Nat → Prop} {lo hi : Int} {c j : Nat} (hc : lo.toNat ≤ c) (hb : c = lo.toNat ∨ hi = -1 ∨ (c : Int) ≤ hi) (hj : j ≤ text.length)
    (hcl : ∀ j, j ≤ text.length → ends A text (upTo A text Q lo.toNat c) j → upTo A text Q lo.toNat c j) : upTo A text Q lo.toNat c j ↔ ends (Many A lo hi) text Q j := by
  rw [many_iff]
  constructor
  · rintro ⟨i, h1, h2, h3⟩
    refine ⟨i, ?_, h3⟩
    rcases hb with hb | hb | hb
    · exact .inl (by omega)
    · exact .inr ⟨h1, .inl hb⟩
    · exact .inr ⟨h1, .inr (by omega)⟩
  · rintro ⟨k, h1, h2⟩
    have hk : lo.toNat ≤ k := by rcases h1 with h1 | h1; omega; exact h1.1
    rw [show k = lo.toNat + (k - lo.toNat) by omega] at h2
    exact upTo_all hc hcl _ j hj h2

theorem many_full {A : List UInt8 → Prop} {text : List UInt8} {Q : Nat → Prop} {lo hi : Int} {c j : Nat} (hc : lo.toNat ≤ c) (hb : c = lo.toNat ∨ (c : Int) ≤ hi) (hh : hi ≠ -1) (hf : hi ≤ c) : upTo A text Q lo.toNat c j ↔ ends (Many A lo hi) text Q j := by
  rw [many_iff]
  constructor
  · rintro ⟨i, h1, h2, h3⟩
    refine ⟨i, ?_, h3⟩
    rcases hb with hb | hb
    · exact .inl (by omega)
    · exact .inr ⟨h1, .inr (by omega)⟩
  · rintro ⟨k, h1, h2⟩
    refine ⟨k, ?_, ?_, h2⟩
    · rcases h1 with h1 | h1; omega; exact h1.1
    · rcases h1 with h1 | ⟨_, h1 | h1⟩
      · omega
      · exact (hh h1).elim
      · omega

/-- One byte further. -/
def stepF (p : UInt8 → Bool) (text : List UInt8) (S : List Bool) : List Bool := false :: List.zipWith (fun c f => f && p c) text S

theorem zip2_getD (p : UInt8 → Bool) : ∀ (x : List UInt8) (y : List Bool) (j : Nat) (h : j < x.length), j < y.length → List.getD (List.zipWith (fun c f => f && p c) x y) j false = (List.getD y j false && p x[j])
  | a :: x, b :: y, 0, _, _ => rfl
  | a :: x, b :: y, j + 1, h, k => by
    have := zip2_getD p x y j (by simpa using h) (by simpa using k)
    simpa using this
  | [], _, j, h, _ => by simp at h
  | _ :: _, [], j, _, k => by simp at k

theorem stepF_ok {p : UInt8 → Bool} {text : List UInt8} {S : List Bool} {Q : Nat → Prop} (h : Sp text.length S Q) : Sp text.length (stepF p text S) (ends (fun w => ∃ c, w = [c] ∧ p c = true) text Q) := by
  refine ⟨by simp [stepF, h.len], fun j hj => ?_⟩
  cases j with
  | zero =>
    constructor
    · intro e; simp [stepF] at e
    · rintro ⟨i, h1, h2, c, h3, h4⟩
      have hl := congrArg List.length h3
      simp only [List.length_take, List.length_drop, List.length_cons, List.length_nil] at hl
      omega
  | succ j =>
    have e : List.getD (stepF p text S) (j + 1) false = (List.getD S j false && p (text[j]'(by omega))) := by
      have := zip2_getD p text S j (by omega) (by rw [h.len]; omega)
      simpa [stepF] using this
    rw [e, Bool.and_eq_true, h.mem j (by omega)]
    have hs : (text.drop j).take (j + 1 - j) = [text[j]'(by omega)] := by
      rw [show j + 1 - j = 1 by omega, List.drop_eq_getElem_cons (show j < text.length by omega)]
      rfl
    constructor
    · rintro ⟨h1, h2⟩
      exact ⟨j, by omega, h1, _, hs, h2⟩
    · rintro ⟨i, h1, h2, c, h3, h4⟩
      have hl := congrArg List.length h3
      simp only [List.length_take, List.length_drop, List.length_cons, List.length_nil] at hl
      have hi : i = j := by omega
      subst hi
      rw [hs] at h3
      simp only [List.cons.injEq, and_true] at h3
      exact ⟨h2, h3 ▸ h4⟩

/-- At one offset alone. -/
theorem only_ok {n a : Nat} (ha : a ≤ n) : Sp n (List.set (List.replicate (n + 1) false) a true) (fun j => j = a) := by
  refine ⟨by simp, fun j hj => ?_⟩
  rw [List.getD_eq_getElem?_getD, List.getElem?_set]
  by_cases e : a = j
  · subst e
    rw [if_pos rfl]
    simp [show a < n + 1 by omega]
  · rw [if_neg e]
    rw [List.getElem?_replicate]
    constructor
    · intro h; split at h <;> simp at h
    · intro h; exact (e h.symm).elim
/-! ### rows of truth values: what both sides do with them -/

theorem spSet {z s : List Bool} {i : Nat} (hz : z.length = s.length) (hi : i < s.length) {v : Bool} (hv : v = List.getD z i false) : List.set (z.take i ++ s.drop i) i v = z.take (i + 1) ++ s.drop (i + 1) := by
  rw [List.set_append_right _ _ (by simp; omega), List.take_succ_eq_append_getElem (i := i) (by omega), List.drop_eq_getElem_cons hi, hv, getD_at z _ (show i < z.length by omega)]
  simp only [List.length_take, Nat.min_eq_left (show i ≤ z.length by omega), Nat.sub_self, List.set_cons_zero, List.append_assoc, List.singleton_append]

theorem spGet {z s : List Bool} {i : Nat} (hz : z.length = s.length) (hi : i < s.length) : List.getD (z.take i ++ s.drop i) i false = List.getD s i false := by
  simp only [List.getD_eq_getElem?_getD]
  rw [List.getElem?_append_right (by simp; omega)]
  simp only [List.length_take, Nat.min_eq_left (show i ≤ z.length by omega), Nat.sub_self, List.getElem?_drop, Nat.add_zero]

theorem spLen {z s : List Bool} {i : Nat} (hz : z.length = s.length) (hi : i ≤ s.length) : (z.take i ++ s.drop i).length = s.length := by
  simp only [List.length_append, List.length_take, List.length_drop]; omega

theorem orb (a b : Bool) : (bif a then true else b) = (a || b) := by cases a <;> rfl

theorem specOr_l0 {R : Type} (N : Nat) (x y : List Bool) (hl : x.length ≤ 1048576) (hy : y.length = x.length) (ke : List Bool → Option R) : ∀ (d n i : Nat), i + d = x.length → d < n →
    F.spec_l1Or_l0 N n x y (x.length : Int) (i : Int) ((List.zipWith (fun a b => a || b) x y).take i ++ List.replicate d false) ke = ke (List.zipWith (fun a b => a || b) x y) := by
  have hz : (List.zipWith (fun a b => a || b) x y).length = x.length := by simp [hy]
  intro d
  induction d with
  | zero =>
    intro n i hi hn
    obtain ⟨n, rfl⟩ : ∃ m, n = m + 1 := ⟨n - 1, by omega⟩
    simp only [F.spec_l1Or_l0, F.spec_l1Or_l0_s, Bool.cond_decide]
    rw [if_neg (by omega), List.take_of_length_le (by omega)]
    simp
  | succ d ih =>
    intro n i hi hn
    obtain ⟨n, rfl⟩ : ∃ m, n = m + 1 := ⟨n - 1, by omega⟩
    have hn' := ih n (i + 1) (by omega) (by omega)
    have hg := zip_getD (fun a b => a || b) x y i (by omega) (by omega)
    rw [getD_at (List.zipWith (fun a b => a || b) x y) _ (show i < _ by omega)] at hg
    have hlen : ((List.zipWith (fun a b => a || b) x y).take i ++ List.replicate (d + 1) false).length = x.length := by simp; omega
    simp only [F.spec_l1Or_l0, F.spec_l1Or_l0_s, Bool.cond_decide]
    rw [if_pos (by omega), inB_true (n := x.length) (by omega) (by omega), inB_true (n := y.length) (by omega) (by omega), hlen, inB_true (n := x.length) (by omega) (by omega), wrap_id (n := (i : Int) + 1) (by omega) (by omega)]
    simp only [cond_true, Int.toNat_natCast]
    rw [show ((i : Int) + 1) = ((i + 1 : Nat) : Int) by omega]
    cases hx : List.getD x i false with
    | true =>
      rw [hx] at hg
      rw [cond_true, set_next _ _ (by omega) (x := true) (by rw [hg]; rfl)]
      exact hn'
    | false =>
      rw [hx] at hg
      rw [cond_false, set_next _ _ (by omega) (x := List.getD y i false) (by rw [hg]; rfl)]
      exact hn'

theorem specOr {R : Type} (N : Nat) (hN : 1048576 < N) (x y : List Bool) (hl : x.length ≤ 1048576) (hy : y.length = x.length) (k : List Bool → Option R) : F.spec_l1Or N x y k = k (List.zipWith (fun a b => a || b) x y) := by
  simp only [F.spec_l1Or]
  rw [decide_eq_true (by omega), big_ok hl (by omega)]
  have := specOr_l0 N x y hl hy k x.length N 0 (by omega) (by omega)
  simpa using this

theorem specAdds_l0 {R : Type} (N : Nat) (x y : List Bool) (hl : x.length ≤ 1048576) (hy : y.length = x.length) (k : Bool → Option R) : ∀ (d n i : Nat), i + d = x.length → d < n →
    F.spec_l1Adds_l0 N n x y (x.length : Int) (i : Int) (fun _ => k false) (fun y => k y) = k ((List.zipWith (fun a b => b && !a) (x.drop i) (y.drop i)).any id) := by
  intro d
  induction d with
  | zero =>
    intro n i hi hn
    obtain ⟨n, rfl⟩ : ∃ m, n = m + 1 := ⟨n - 1, by omega⟩
    simp only [F.spec_l1Adds_l0, F.spec_l1Adds_l0_s, Bool.cond_decide]
    rw [if_neg (by omega), List.drop_of_length_le (by omega)]
    rfl
  | succ d ih =>
    intro n i hi hn
    obtain ⟨n, rfl⟩ : ∃ m, n = m + 1 := ⟨n - 1, by omega⟩
    have hn' := ih n (i + 1) (by omega) (by omega)
    simp only [F.spec_l1Adds_l0, F.spec_l1Adds_l0_s, Bool.cond_decide]
    rw [if_pos (by omega), inB_true (n := x.length) (by omega) (by omega), inB_true (n := y.length) (by omega) (by omega), wrap_id (n := (i : Int) + 1) (by omega) (by omega)]
    simp only [cond_true, Int.toNat_natCast]
    rw [show ((i : Int) + 1) = ((i + 1 : Nat) : Int) by omega, getD_at x _ (show i < x.length by omega), getD_at y _ (show i < y.length by omega), hn',
      List.drop_eq_getElem_cons (show i < x.length by omega), List.drop_eq_getElem_cons (show i < y.length by omega), List.zipWith_cons_cons, List.any_cons]
    cases x[i] <;> cases y[i] <;> rfl

theorem specAdds {R : Type} (N : Nat) (hN : 1048576 < N) (x y : List Bool) (hl : x.length ≤ 1048576) (hy : y.length = x.length) (k : Bool → Option R) : F.spec_l1Adds N x y k = k ((List.zipWith (fun a b => b && !a) x y).any id) := by
  simp only [F.spec_l1Adds]
  exact specAdds_l0 N x y hl hy k x.length N 0 (by omega) (by omega)

theorem join_l0 {R : Type} (N : Nat) (t s : List Bool) (hl : t.length ≤ 1048576) (hs : s.length = t.length) (ke : List Bool → Option R) : ∀ (d n i : Nat), i + d = t.length → d < n →
    F.impl_spots_join_l0 N n t (t.length : Int) (i : Int) ((List.zipWith (fun a b => a || b) s t).take i ++ s.drop i) ke = ke (List.zipWith (fun a b => a || b) s t) := by
  have hz : (List.zipWith (fun a b => a || b) s t).length = s.length := by simp [hs]
  intro d
  induction d with
  | zero =>
    intro n i hi hn
    obtain ⟨n, rfl⟩ : ∃ m, n = m + 1 := ⟨n - 1, by omega⟩
    simp only [F.impl_spots_join_l0, F.impl_spots_join_l0_s, Bool.cond_decide]
    rw [if_neg (by omega), List.take_of_length_le (by omega), List.drop_of_length_le (by omega), List.append_nil]
  | succ d ih =>
    intro n i hi hn
    obtain ⟨n, rfl⟩ : ∃ m, n = m + 1 := ⟨n - 1, by omega⟩
    have hn' := ih n (i + 1) (by omega) (by omega)
    have hg := zip_getD (fun a b => a || b) s t i (by omega) (by omega)
    simp only [F.impl_spots_join_l0, F.impl_spots_join_l0_s, Bool.cond_decide]
    rw [if_pos (by omega), spLen hz (by omega), inB_true (n := s.length) (by omega) (by omega), inB_true (n := t.length) (by omega) (by omega), wrap_id (n := (i : Int) + 1) (by omega) (by omega)]
    simp only [cond_true, Int.toNat_natCast]
    rw [show ((i : Int) + 1) = ((i + 1 : Nat) : Int) by omega, spGet hz (by omega)]
    cases hx : List.getD s i false with
    | true =>
      rw [hx] at hg
      rw [cond_true, spSet hz (by omega) (v := true) (by rw [hg]; rfl)]
      exact hn'
    | false =>
      rw [hx] at hg
      rw [cond_false, spSet hz (by omega) (v := List.getD t i false) (by rw [hg]; rfl)]
      exact hn'

theorem implJoin {R : Type} (N : Nat) (hN : 1048576 < N) (t s : List Bool) (hl : t.length ≤ 1048576) (hs : s.length = t.length) (k : List Bool → Option R) : F.impl_spots_join N t s k = k (List.zipWith (fun a b => a || b) s t) := by
  simp only [F.impl_spots_join]
  have := join_l0 N t s hl hs k t.length N 0 (by omega) (by omega)
  simpa using this

theorem less_l0 {R : Type} (N : Nat) (t s : List Bool) (hl : t.length ≤ 1048576) (hs : s.length = t.length) (ke : Bool → List Bool → Option R) : ∀ (d n i : Nat), i + d = t.length → d < n →
    F.impl_spots_less_l0 N n (((List.zipWith (fun a b => a && !b) s t).take i).any id) t (t.length : Int) (i : Int) ((List.zipWith (fun a b => a && !b) s t).take i ++ s.drop i) ke = ke ((List.zipWith (fun a b => a && !b) s t).any id) (List.zipWith (fun a b => a && !b) s t) := by
  have hz : (List.zipWith (fun a b => a && !b) s t).length = s.length := by simp [hs]
  intro d
  induction d with
  | zero =>
    intro n i hi hn
    obtain ⟨n, rfl⟩ : ∃ m, n = m + 1 := ⟨n - 1, by omega⟩
    simp only [F.impl_spots_less_l0, F.impl_spots_less_l0_s, Bool.cond_decide]
    rw [if_neg (by omega), List.take_of_length_le (by omega), List.drop_of_length_le (by omega), List.append_nil]
  | succ d ih =>
    intro n i hi hn
    obtain ⟨n, rfl⟩ : ∃ m, n = m + 1 := ⟨n - 1, by omega⟩
    have hn' := ih n (i + 1) (by omega) (by omega)
    have hg := zip_getD (fun a b => a && !b) s t i (by omega) (by omega)
    have hany : ((List.zipWith (fun a b => a && !b) s t).take (i + 1)).any id = (((List.zipWith (fun a b => a && !b) s t).take i).any id || List.getD (List.zipWith (fun a b => a && !b) s t) i false) := by
      rw [List.take_succ_eq_append_getElem (i := i) (by omega), List.any_append, getD_at (List.zipWith (fun a b => a && !b) s t) _ (show i < _ by omega)]
      simp
    have hgs : ∀ v, v = List.getD (List.zipWith (fun a b => a && !b) s t) i false → List.getD ((List.zipWith (fun a b => a && !b) s t).take (i + 1) ++ s.drop (i + 1)) i false = v := by
      intro v hv
      rw [hv]
      simp only [List.getD_eq_getElem?_getD]
      rw [List.getElem?_append_left (by simp; omega), List.getElem?_take, if_pos (by omega)]
    rw [hany] at hn'
    simp only [F.impl_spots_less_l0, F.impl_spots_less_l0_s, Bool.cond_decide]
    rw [if_pos (by omega), spLen hz (by omega), inB_true (n := s.length) (by omega) (by omega), inB_true (n := t.length) (by omega) (by omega), wrap_id (n := (i : Int) + 1) (by omega) (by omega)]
    simp only [cond_true, Int.toNat_natCast]
    rw [show ((i : Int) + 1) = ((i + 1 : Nat) : Int) by omega, spGet hz (by omega)]
    cases hx : List.getD s i false with
    | true =>
      rw [hx] at hg
      rw [cond_true, spSet hz (by omega) (v := !(List.getD t i false)) (by rw [hg]; rfl)]
      rw [hgs (!(List.getD t i false)) (by rw [hg]; rfl), spLen hz (by omega), inB_true (n := s.length) (by omega) (by omega)]
      rw [hg] at hn'
      cases hf : ((List.zipWith (fun a b => a && !b) s t).take i).any id with
      | true => rw [hf] at hn'; exact hn'
      | false => rw [hf] at hn'; exact hn'
    | false =>
      rw [hx] at hg
      rw [cond_false, spSet hz (by omega) (v := false) (by rw [hg]; rfl)]
      rw [hgs false (by rw [hg]; rfl), spLen hz (by omega), inB_true (n := s.length) (by omega) (by omega)]
      rw [hg] at hn'
      cases hf : ((List.zipWith (fun a b => a && !b) s t).take i).any id with
      | true => rw [hf] at hn'; exact hn'
      | false => rw [hf] at hn'; exact hn'

theorem implLess {R : Type} (N : Nat) (hN : 1048576 < N) (t s : List Bool) (hl : t.length ≤ 1048576) (hs : s.length = t.length) (k : Bool → List Bool → Option R) : F.impl_spots_less N t s k = k ((List.zipWith (fun a b => a && !b) s t).any id) (List.zipWith (fun a b => a && !b) s t) := by
  simp only [F.impl_spots_less]
  have := less_l0 N t s hl hs k t.length N 0 (by omega) (by omega)
  simpa using this

theorem implCopied {R : Type} (x : List Bool) (hl : x.length ≤ 1048576) (k : List Bool → Option R) : F.impl_spots_copied x k = k x := by
  simp only [F.impl_spots_copied]
  have : Nat.ble (List.length ([] : List Bool) + x.length) (bigOf 1) = true := by
    rw [Nat.ble_eq]; simp only [bigOf, List.length_nil]; omega
  rw [this, cond_true, List.nil_append]

theorem specOnly {R : Type} (n a : Nat) (hn : n ≤ 1000000) (ha : a ≤ n) (k : List Bool → Option R) : F.spec_l1Only (n : Int) (a : Int) k = k (List.set (List.replicate (n + 1) false) a true) := by
  simp only [F.spec_l1Only]
  rw [wrap_id (n := (n : Int) + 1) (by omega) (by omega), show ((n : Int) + 1) = ((n + 1 : Nat) : Int) by omega, decide_eq_true (by omega), big_ok (by omega) (by omega), inB_true (by omega) (by simp; omega)]
  simp only [cond_true, Int.toNat_natCast]

theorem implAt {R : Type} (n a : Nat) (hn : n ≤ 1000000) (ha : a ≤ n) (k : List Bool → Option R) : F.impl_at (n : Int) (a : Int) k = k (List.set (List.replicate (n + 1) false) a true) := by
  simp only [F.impl_at]
  rw [wrap_id (n := (n : Int) + 1) (by omega) (by omega), show ((n : Int) + 1) = ((n + 1 : Nat) : Int) by omega, decide_eq_true (by omega), big_ok (by omega) (by omega), inB_true (by omega) (by simp; omega)]
  simp only [cond_true, Int.toNat_natCast]
/-! ### one byte, and copies -/

theorem stepF_get {p : UInt8 → Bool} {text : List UInt8} {S : List Bool} {j : Nat} (hS : S.length = text.length + 1) (hj : j < text.length) : List.getD (stepF p text S) (j + 1) false = (List.getD S j false && p text[j]) := by
  have := zip2_getD p text S j hj (by omega)
  simpa [stepF] using this

theorem stepF_len {p : UInt8 → Bool} {text : List UInt8} {S : List Bool} (hS : S.length = text.length + 1) : (stepF p text S).length = text.length + 1 := by simp [stepF, hS]

theorem skip_next (l : List Bool) {i d : Nat} (h : i + (d + 1) = l.length) (hx : List.getD l i false = false) : l.take i ++ List.replicate (d + 1) false = l.take (i + 1) ++ List.replicate d false := by
  rw [getD_at l _ (show i < l.length by omega)] at hx
  rw [List.take_succ_eq_append_getElem (i := i) (by omega), hx, List.replicate_succ, List.append_assoc, List.singleton_append]

theorem byteAt_nat (t : List UInt8) {i : Nat} (h : i < t.length) : byteAt t (i : Int) = (t[i].toNat : Int) := by
  simp only [byteAt, Int.toNat_natCast]
  rw [getD_at t _ h]

/-- Is it in one of the ranges? -/
def hasS (set : List Rng) (c : Int) : Bool := set.any fun r => decide (r.1 ≤ c) && decide (c ≤ r.2)

theorem specHas_l0 {R : Type} (N : Nat) (set : List Rng) (hl : set.length ≤ 1048576) (c : Int) (hc0 : 0 ≤ c) (hc1 : c ≤ 255) (k : Bool → Option R) : ∀ (d n i : Nat), i + d = set.length → d < n →
    F.spec_l1Has_l0 N n c set (set.length : Int) (i : Int) (fun _ => k false) (fun y => k y) = k (hasS (set.drop i) c) := by
  intro d
  induction d with
  | zero =>
    intro n i hi hn
    obtain ⟨n, rfl⟩ : ∃ m, n = m + 1 := ⟨n - 1, by omega⟩
    simp only [F.spec_l1Has_l0, F.spec_l1Has_l0_s, Bool.cond_decide]
    rw [if_neg (by omega), List.drop_of_length_le (by omega)]
    rfl
  | succ d ih =>
    intro n i hi hn
    obtain ⟨n, rfl⟩ : ∃ m, n = m + 1 := ⟨n - 1, by omega⟩
    have hn' := ih n (i + 1) (by omega) (by omega)
    simp only [F.spec_l1Has_l0, F.spec_l1Has_l0_s, F.spec_l1Between]
    rw [decide_eq_true (show (i : Int) < (set.length : Int) by omega), inB_true (i := (i : Int)) (n := set.length) (by omega) (by omega), wrap_id (n := (i : Int) + 1) (by omega) (by omega), wrap_id (n := c) (by omega) (by omega), show ((i : Int) + 1) = ((i + 1 : Nat) : Int) by omega, hn', List.drop_eq_getElem_cons (show i < set.length by omega)]
    simp only [cond_true, Int.toNat_natCast, getD_at set _ (show i < set.length by omega), hasS, List.any_cons]
    by_cases h1 : set[i].1 ≤ c
    · rw [decide_eq_true h1]
      by_cases h2 : c ≤ set[i].2
      · rw [decide_eq_true h2]; rfl
      · rw [decide_eq_false h2]; rfl
    · rw [decide_eq_false h1]; rfl

theorem specHas {R : Type} (N : Nat) (hN : 1048576 < N) (set : List Rng) (hl : set.length ≤ 1048576) (c : Int) (hc0 : 0 ≤ c) (hc1 : c ≤ 255) (k : Bool → Option R) : F.spec_l1Has N set c k = k (hasS set c) := by
  simp only [F.spec_l1Has]
  exact specHas_l0 N set hl c hc0 hc1 k set.length N 0 (by omega) (by omega)

theorem byte_lt (c : UInt8) : (c.toNat : Int) ≤ 255 := by have := c.toNat_lt; omega

theorem specSet_walk {R : Type} (N : Nat) (hN : 1048576 < N) (rw_ : List Nod → List Int → List Int → List UInt8 → Int → List Bool → (List Bool → Option R) → Option R) (text : List UInt8) (ht : text.length ≤ 1000000) (S : List Bool) (hS : S.length = text.length + 1)
    (l : List Nod) (L Q : List Int) (a b c e : Int) (set : List Rng) (hl : set.length ≤ 1048576) (ke : List Bool → Option R) : ∀ (d n i : Nat), i + d = text.length → d < n →
    F.spec_l1Ends_v1_l1 N rw_ n S (i : Int) l L Q text a set b c e ((stepF (fun x => hasS set (x.toNat : Int)) text S).take (i + 1) ++ List.replicate d false) ke = ke (stepF (fun x => hasS set (x.toNat : Int)) text S) := by
  have hz := stepF_len (p := fun x => hasS set (x.toNat : Int)) hS
  intro d
  induction d with
  | zero =>
    intro n i hi hn
    obtain ⟨n, rfl⟩ : ∃ m, n = m + 1 := ⟨n - 1, by omega⟩
    simp only [F.spec_l1Ends_v1_l1, F.spec_l1Ends_v1_l1_s, Bool.cond_decide]
    rw [if_neg (by omega), List.take_of_length_le (by omega)]
    simp
  | succ d ih =>
    intro n i hi hn
    obtain ⟨n, rfl⟩ : ∃ m, n = m + 1 := ⟨n - 1, by omega⟩
    have hn' := ih n (i + 1) (by omega) (by omega)
    have hg := stepF_get (p := fun x => hasS set (x.toNat : Int)) hS (show i < text.length by omega)
    have hlen : ((stepF (fun x => hasS set (x.toNat : Int)) text S).take (i + 1) ++ List.replicate (d + 1) false).length = text.length + 1 := by simp only [List.length_append, List.length_take, List.length_replicate, hz]; omega
    simp only [F.spec_l1Ends_v1_l1, F.spec_l1Ends_v1_l1_s, Bool.cond_decide]
    rw [if_pos (by omega), inB_true (n := S.length) (by omega) (by omega), inB_true (n := text.length) (by omega) (by omega), hlen, wrap_id (n := (i : Int) + 1) (by omega) (by omega), inB_true (i := (i : Int) + 1) (n := text.length + 1) (by omega) (by omega)]
    simp only [cond_true, Int.toNat_natCast]
    rw [show ((i : Int) + 1) = ((i + 1 : Nat) : Int) by omega]
    simp only [Int.toNat_natCast]
    rw [byteAt_nat text (show i < text.length by omega)]
    cases hx : List.getD S i false with
    | false =>
      rw [hx, Bool.false_and] at hg
      rw [cond_false, skip_next _ (by omega) hg]
      exact hn'
    | true =>
      rw [hx, Bool.true_and] at hg
      rw [cond_true, specHas N hN set hl _ (by omega) (byte_lt _)]
      cases hb : hasS set (text[i].toNat : Int) with
      | false =>
        rw [hb] at hg
        rw [cond_false, skip_next _ (by omega) hg]
        exact hn'
      | true =>
        rw [hb, getD_at _ _ (show i + 1 < (stepF (fun x => hasS set (x.toNat : Int)) text S).length by omega)] at hg
        rw [cond_true, set_next _ _ (by omega) (x := true) hg.symm]
        exact hn'

theorem implSet_walk {R : Type} (N : Nat) (rw1 rw2 : Tr → List UInt8 → List Bool → Bool → (List Bool → Option R) → Option R) (text : List UInt8) (ht : text.length ≤ 1000000) (S : List Bool) (hS : S.length = text.length + 1) (bits : List Bool) (hb : bits.length = 256)
    (ke : List Bool → Option R) : ∀ (d n i : Nat), i + d = text.length → d < n →
    F.impl_walk_v1_l1 N rw1 rw2 n text S false bits (text.length : Int) (i : Int) ((stepF (fun x => List.getD bits x.toNat false) text S).take (i + 1) ++ List.replicate d false) ke = ke (stepF (fun x => List.getD bits x.toNat false) text S) := by
  have hz := stepF_len (p := fun x => List.getD bits x.toNat false) hS
  intro d
  induction d with
  | zero =>
    intro n i hi hn
    obtain ⟨n, rfl⟩ : ∃ m, n = m + 1 := ⟨n - 1, by omega⟩
    simp only [F.impl_walk_v1_l1, F.impl_walk_v1_l1_s, Bool.cond_decide]
    rw [if_neg (by omega), List.take_of_length_le (by omega)]
    simp
  | succ d ih =>
    intro n i hi hn
    obtain ⟨n, rfl⟩ : ∃ m, n = m + 1 := ⟨n - 1, by omega⟩
    have hn' := ih n (i + 1) (by omega) (by omega)
    have hg := stepF_get (p := fun x => List.getD bits x.toNat false) hS (show i < text.length by omega)
    have hlen : ((stepF (fun x => List.getD bits x.toNat false) text S).take (i + 1) ++ List.replicate (d + 1) false).length = text.length + 1 := by simp only [List.length_append, List.length_take, List.length_replicate, hz]; omega
    have hby := byte_lt text[i]
    simp only [F.impl_walk_v1_l1, F.impl_walk_v1_l1_s, Bool.cond_decide]
    rw [if_pos (by omega), inB_true (i := (i : Int)) (n := S.length) (by omega) (by omega), inB_true (i := (i : Int)) (n := text.length) (by omega) (by omega), hlen, wrap_id (n := (i : Int) + 1) (by omega) (by omega), inB_true (i := (i : Int) + 1) (n := text.length + 1) (by omega) (by omega)]
    simp only [cond_true, cond_false, Int.toNat_natCast]
    rw [show ((i : Int) + 1) = ((i + 1 : Nat) : Int) by omega, byteAt_nat text (show i < text.length by omega), inB_true (n := 256) (by omega) (by omega)]
    simp only [Int.toNat_natCast, cond_true]
    cases hx : List.getD bits text[i].toNat false with
    | false =>
      rw [hx, Bool.and_false] at hg
      rw [cond_false, skip_next _ (by omega) hg]
      exact hn'
    | true =>
      rw [hx, Bool.and_true, getD_at _ _ (show i + 1 < (stepF (fun x => List.getD bits x.toNat false) text S).length by omega)] at hg
      rw [cond_true, set_next _ _ (by omega) (x := List.getD S i false) hg.symm]
      exact hn'

/-- It leads on by the words of A. -/
def Wk {R : Type} (f : List Bool → (List Bool → Option R) → Option R) (text : List UInt8) (A : List UInt8 → Prop) : Prop :=
  ∀ S Q, Sp text.length S Q → ∃ S', Sp text.length S' (ends A text Q) ∧ ∀ k, f S k = k S'

theorem specCopied_l0 {R : Type} (N : Nat) (rw_ : List Nod → List Int → List Int → List UInt8 → Int → List Bool → (List Bool → Option R) → Option R) (text : List UInt8) (A : List UInt8 → Prop) (l : List Nod) (L Q : List Int) (child lo hi : Int) (h0 : 0 ≤ lo) (h1 : lo ≤ 255)
    (hW : Wk (fun S k => rw_ l L Q text child S k) text A) (P : Nat → Prop) : ∀ (d n i : Nat) (cur : List Bool), i + d = lo.toNat → d < n → Sp text.length cur (ends (Pow A i) text P) →
    ∃ cur', Sp text.length cur' (ends (Pow A lo.toNat) text P) ∧ ∀ ke, F.spec_l1Copied_l0 N rw_ n child lo hi cur (i : Int) l L Q text ke = ke child lo hi cur' l L Q text := by
  intro d
  induction d with
  | zero =>
    intro n i cur hi hn hc
    obtain ⟨n, rfl⟩ : ∃ m, n = m + 1 := ⟨n - 1, by omega⟩
    refine ⟨cur, by rw [show lo.toNat = i by omega]; exact hc, fun ke => ?_⟩
    simp only [F.spec_l1Copied_l0, F.spec_l1Copied_l0_s, Bool.cond_decide]
    rw [if_neg (by omega)]
  | succ d ih =>
    intro n i cur hi hn hc
    obtain ⟨n, rfl⟩ : ∃ m, n = m + 1 := ⟨n - 1, by omega⟩
    obtain ⟨c2, q1, q2⟩ := hW cur _ hc
    obtain ⟨c3, q3, q4⟩ := ih n (i + 1) c2 (by omega) (by omega) (q1.congr fun j hj => (ends_pow hj).symm)
    refine ⟨c3, q3, fun ke => ?_⟩
    simp only [F.spec_l1Copied_l0, F.spec_l1Copied_l0_s, Bool.cond_decide]
    rw [if_pos (by omega), wrap_id (n := (i : Int) + 1) (by omega) (by omega), show ((i : Int) + 1) = ((i + 1 : Nat) : Int) by omega]
    exact (q2 _).trans (q4 ke)

theorem go_on {R : Type} {hi c : Int} (h : hi = -1 ∨ c < hi) (X Y : Option R) : (bif hi == (-1) then X else bif decide (c < hi) then X else Y) = X := by
  rcases h with rfl | h
  · rfl
  · rw [decide_eq_true h]; cases (hi == (-1)) <;> rfl

theorem go_off {R : Type} {hi c : Int} (h : hi ≠ -1) (h' : ¬ c < hi) (X X' Y : Option R) : (bif hi == (-1) then X else bif decide (c < hi) then X' else Y) = Y := by
  rw [decide_eq_false h', show (hi == (-1)) = false by simpa using h]; rfl

theorem specCopied_l2 {R : Type} (N : Nat) (hN : 1048576 < N) (rw_ : List Nod → List Int → List Int → List UInt8 → Int → List Bool → (List Bool → Option R) → Option R) (text : List UInt8) (ht : text.length ≤ 1000000) (A : List UInt8 → Prop) (l : List Nod) (L Q : List Int) (child lo hi : Int)
    (hW : Wk (fun S k => rw_ l L Q text child S k) text A) (P : Nat → Prop) : ∀ (f n c : Nat) (cur all : List Bool), falses all ≤ f → f < n → c + f ≤ 2000000 → lo.toNat ≤ c → (c = lo.toNat ∨ hi = -1 ∨ (c : Int) ≤ hi) →
    Sp text.length cur (ends (Pow A c) text P) → Sp text.length all (upTo A text P lo.toNat c) →
    ∃ all', Sp text.length all' (ends (Many A lo hi) text P) ∧ ∀ k : List Bool → Option R, F.spec_l1Copied_l2 N rw_ n child hi cur all (c : Int) l L Q text (fun y => k y) (fun y _ => k y) = k all' := by
  intro f
  induction f with
  | zero | succ f ih =>
    intro n c cur all hf hn hcf hlc hb hcur hall
    obtain ⟨n, rfl⟩ : ∃ m, n = m + 1 := ⟨n - 1, by omega⟩
    by_cases hx : hi ≠ -1 ∧ ¬ (c : Int) < hi
    · refine ⟨all, hall.congr fun j hj => many_full hlc (by rcases hb with h | h | h; exact .inl h; exact (hx.1 h).elim; exact .inr h) hx.1 (by omega), fun k => ?_⟩
      simp only [F.spec_l1Copied_l2, F.spec_l1Copied_l2_s]
      rw [go_off hx.1 hx.2]
    · have hgo : hi = -1 ∨ (c : Int) < hi := by
        by_cases e : hi = -1
        · exact .inl e
        · exact .inr (Classical.not_not.1 fun h => hx ⟨e, h⟩)
      obtain ⟨c2, q1, q2⟩ := hW cur _ hcur
      have hc2 : Sp text.length c2 (ends (Pow A (c + 1)) text P) := q1.congr fun j hj => (ends_pow hj).symm
      have ha : all.length ≤ 1048576 := by rw [hall.len]; omega
      have hy : c2.length = all.length := by rw [hall.len, hc2.len]
      have hor : Sp text.length (List.zipWith (fun a b => a || b) all c2) (upTo A text P lo.toNat (c + 1)) := (hall.or hc2).congr fun j hj => (upTo_step hlc).symm
      have hb' : c + 1 = lo.toNat ∨ hi = -1 ∨ ((c + 1 : Nat) : Int) ≤ hi := by rcases hgo with h | h; exact .inr (.inl h); exact .inr (.inr (by omega))
      cases hfl : (List.zipWith (fun a b => b && !a) all c2).any id with
      | false =>
        have hcl : ∀ j, j ≤ text.length → ends A text (upTo A text P lo.toNat c) j → upTo A text P lo.toNat c j := by
          intro j hj h
          rcases (upTo_step hlc).1 (upTo_ends hj hlc h) with h | h
          · exact h
          · refine Classical.byContradiction fun hno => ?_
            have : (List.zipWith (fun a b => b && !a) all c2).any id = true := (any_zip (fun a b => b && !a) all c2 hy.symm).2 ⟨j, by rw [hall.len]; omega, by
              rw [(hc2.mem j hj).2 h]
              cases e : List.getD all j false
              · rfl
              · exact (hno ((hall.mem j hj).1 e)).elim⟩
            rw [hfl] at this; cases this
        refine ⟨all, hall.congr fun j hj => many_closed hlc hb hj hcl, fun k => ?_⟩
        simp only [F.spec_l1Copied_l2, F.spec_l1Copied_l2_s]
        rw [go_on hgo]
        refine (q2 _).trans ?_
        rw [specAdds N hN all c2 ha hy, hfl]
        rfl
      | true =>
        have hlt := falses_lt all c2 hy.symm hfl
        first
        | (exfalso; omega)
        | (obtain ⟨a3, q3, q4⟩ := ih n (c + 1) c2 _ (by omega) (by omega) (by omega) (by omega) hb' hc2 hor
           refine ⟨a3, q3, fun k => ?_⟩
           simp only [F.spec_l1Copied_l2, F.spec_l1Copied_l2_s]
           rw [go_on hgo]
           refine (q2 _).trans ?_
           rw [specAdds N hN all c2 ha hy, hfl, wrap_id (n := (c : Int) + 1) (by omega) (by omega), show ((c : Int) + 1) = ((c + 1 : Nat) : Int) by omega]
           rw [Bool.not_true, cond_false, specOr N hN all c2 ha hy]
           exact q4 k)

theorem specCopied {R : Type} (N : Nat) (hN : 2097152 < N) (rw_ : List Nod → List Int → List Int → List UInt8 → Int → List Bool → (List Bool → Option R) → Option R) (text : List UInt8) (ht : text.length ≤ 1000000) (A : List UInt8 → Prop) (l : List Nod) (L Q : List Int) (child lo hi : Int) (h0 : 0 ≤ lo) (h1 : lo ≤ 255)
    (hW : Wk (fun S k => rw_ l L Q text child S k) text A) : Wk (fun S k => F.spec_l1Copied N rw_ l L Q text child lo hi S k) text (Many A lo hi) := by
  intro S P hS
  obtain ⟨c1, q1, q2⟩ := specCopied_l0 N rw_ text A l L Q child lo hi h0 h1 hW P lo.toNat N 0 S (by omega) (by omega) (hS.congr fun j hj => (ends_nil hj).symm)
  have hf := falses_le c1
  rw [q1.len] at hf
  obtain ⟨a2, q3, q4⟩ := specCopied_l2 N (by omega) rw_ text ht A l L Q child lo hi hW P (falses c1) N lo.toNat c1 c1 (Nat.le_refl _) (by omega) (by omega) (Nat.le_refl _) (.inl rfl) q1 (q1.congr fun j hj => upTo_base.symm)
  refine ⟨a2, q3, fun k => ?_⟩
  simp only [F.spec_l1Copied]
  have := q2 (fun y19 y20 y21 y22 y23 y24 y25 y26 => F.spec_l1Copied_l2 N rw_ N y19 y21 y22 y22 y20 y23 y24 y25 y26 (fun y42 => k y42) (fun y43 y44 => k y43))
  rw [show ((0 : Nat) : Int) = 0 from rfl] at this
  refine this.trans ?_
  have := q4 k
  rw [show ((lo.toNat : Nat) : Int) = lo by omega] at this
  exact this

theorem implRep_l0 {R : Type} (N : Nat) (rw_ : Tr → List UInt8 → List Bool → Bool → (List Bool → Option R) → Option R) (text : List UInt8) (A : List UInt8 → Prop) (t : Tr) (lo hi : Int) (h0 : 0 ≤ lo) (h1 : lo ≤ 255)
    (hW : Wk (fun S k => rw_ t text S false k) text A) (P : Nat → Prop) : ∀ (d n i : Nat) (cur : List Bool), i + d = lo.toNat → d < n → Sp text.length cur (ends (Pow A i) text P) →
    ∃ cur', Sp text.length cur' (ends (Pow A lo.toNat) text P) ∧ ∀ ke, F.impl_repPart_walk_l0 N rw_ n t lo hi text false cur lo (i : Int) ke = ke t lo hi text false cur' := by
  intro d
  induction d with
  | zero =>
    intro n i cur hi hn hc
    obtain ⟨n, rfl⟩ : ∃ m, n = m + 1 := ⟨n - 1, by omega⟩
    refine ⟨cur, by rw [show lo.toNat = i by omega]; exact hc, fun ke => ?_⟩
    simp only [F.impl_repPart_walk_l0, F.impl_repPart_walk_l0_s, Bool.cond_decide]
    rw [if_neg (by omega)]
  | succ d ih =>
    intro n i cur hi hn hc
    obtain ⟨n, rfl⟩ : ∃ m, n = m + 1 := ⟨n - 1, by omega⟩
    obtain ⟨c2, q1, q2⟩ := hW cur _ hc
    obtain ⟨c3, q3, q4⟩ := ih n (i + 1) c2 (by omega) (by omega) (q1.congr fun j hj => (ends_pow hj).symm)
    refine ⟨c3, q3, fun ke => ?_⟩
    simp only [F.impl_repPart_walk_l0, F.impl_repPart_walk_l0_s, Bool.cond_decide]
    rw [if_pos (by omega), wrap_id (n := (i : Int) + 1) (by omega) (by omega), show ((i : Int) + 1) = ((i + 1 : Nat) : Int) by omega]
    exact (q2 _).trans (q4 ke)

theorem implRep_l2 {R : Type} (N : Nat) (hN : 1048576 < N) (rw_ : Tr → List UInt8 → List Bool → Bool → (List Bool → Option R) → Option R) (text : List UInt8) (ht : text.length ≤ 1000000) (A : List UInt8 → Prop) (t : Tr) (lo hi : Int)
    (hW : Wk (fun S k => rw_ t text S false k) text A) (P : Nat → Prop) : ∀ (f n c : Nat) (now all : List Bool) (W : Nat → Prop), falses all ≤ f → f < n → c + f ≤ 2000000 → lo.toNat ≤ c → (c = lo.toNat ∨ hi = -1 ∨ (c : Int) ≤ hi) →
    Sp text.length now W → (∀ j, j ≤ text.length → W j → upTo A text P lo.toNat c j) → (∀ j, j ≤ text.length → ends A text (upTo A text P lo.toNat c) j → upTo A text P lo.toNat c j ∨ ends A text W j) → Sp text.length all (upTo A text P lo.toNat c) →
    ∃ all', Sp text.length all' (ends (Many A lo hi) text P) ∧ ∀ k : List Bool → Option R, F.impl_repPart_walk_l2 N rw_ n t lo hi text false now (c : Int) all (fun y => k y) = k all' := by
  intro f
  induction f with
  | zero | succ f ih =>
    intro n c now all W hf hn hcf hlc hb hnow hW1 hW2 hall
    obtain ⟨n, rfl⟩ : ∃ m, n = m + 1 := ⟨n - 1, by omega⟩
    by_cases hx : hi ≠ -1 ∧ ¬ (c : Int) < hi
    · refine ⟨all, hall.congr fun j hj => many_full hlc (by rcases hb with h | h | h; exact .inl h; exact (hx.1 h).elim; exact .inr h) hx.1 (by omega), fun k => ?_⟩
      simp only [F.impl_repPart_walk_l2, F.impl_repPart_walk_l2_s]
      rw [go_off hx.1 hx.2]
    · have hgo : hi = -1 ∨ (c : Int) < hi := by
        by_cases e : hi = -1
        · exact .inl e
        · exact .inr (Classical.not_not.1 fun h => hx ⟨e, h⟩)
      obtain ⟨c2, q1, q2⟩ := hW now _ hnow
      have ha : all.length ≤ 1048576 := by rw [hall.len]; omega
      have hy : c2.length = all.length := by rw [hall.len, q1.len]
      have hz := q1.less hall
      have hzl : (List.zipWith (fun a b => a && !b) c2 all).length ≤ 1048576 := by rw [hz.len]; omega
      have hzy : all.length = (List.zipWith (fun a b => a && !b) c2 all).length := by rw [hz.len, hall.len]
      have hup : ∀ j, j ≤ text.length → (upTo A text P lo.toNat (c + 1) j ↔ upTo A text P lo.toNat c j ∨ ends A text W j) := by
        intro j hj
        constructor
        · intro h
          rcases (upTo_step hlc).1 h with h | h
          · exact .inl h
          · rw [ends_pow hj] at h
            exact hW2 j hj (ends_mono (fun i hi h => ⟨c, hlc, Nat.le_refl _, h⟩) h)
        · rintro (h | h)
          · exact (upTo_step hlc).2 (.inl h)
          · exact upTo_ends hj hlc (ends_mono (fun i hi h => hW1 i (by omega) h) h)
      have hor : Sp text.length (List.zipWith (fun a b => a || b) all (List.zipWith (fun a b => a && !b) c2 all)) (upTo A text P lo.toNat (c + 1)) := (hall.or hz).congr fun j hj => by
        rw [hup j hj]
        constructor
        · rintro (h | h)
          · exact .inl h
          · exact .inr h.1
        · rintro (h | h)
          · exact .inl h
          · by_cases e : upTo A text P lo.toNat c j
            · exact .inl e
            · exact .inr ⟨h, e⟩
      have hb' : c + 1 = lo.toNat ∨ hi = -1 ∨ ((c + 1 : Nat) : Int) ≤ hi := by rcases hgo with h | h; exact .inr (.inl h); exact .inr (.inr (by omega))
      cases hfl : (List.zipWith (fun a b => a && !b) c2 all).any id with
      | false =>
        have hcl : ∀ j, j ≤ text.length → ends A text (upTo A text P lo.toNat c) j → upTo A text P lo.toNat c j := by
          intro j hj h
          rcases hW2 j hj h with h | h
          · exact h
          · refine Classical.byContradiction fun hno => ?_
            have : (List.zipWith (fun a b => a && !b) c2 all).any id = true := (any_zip (fun a b => a && !b) c2 all hy).2 ⟨j, by rw [q1.len]; omega, by
              rw [(q1.mem j hj).2 h]
              cases e : List.getD all j false
              · rfl
              · exact (hno ((hall.mem j hj).1 e)).elim⟩
            rw [hfl] at this; cases this
        refine ⟨all, hall.congr fun j hj => many_closed hlc hb hj hcl, fun k => ?_⟩
        simp only [F.impl_repPart_walk_l2, F.impl_repPart_walk_l2_s]
        rw [go_on hgo]
        refine (q2 _).trans ?_
        rw [implLess N hN all c2 ha hy, hfl]
        rfl
      | true =>
        have hlt : falses (List.zipWith (fun a b => a || b) all (List.zipWith (fun a b => a && !b) c2 all)) < falses all := falses_lt all _ hzy (by rw [zip_flip]; exact hfl)
        first
        | (exfalso; omega)
        | (obtain ⟨a3, q3, q4⟩ := ih n (c + 1) _ _ _ (by omega) (by omega) (by omega) (by omega) hb' hz (fun j hj h => (hup j hj).2 (.inr h.1)) (fun j hj h => by
             have h2 := ends_iff (A := A) (text := text) (j := j) (fun i hi => hup i (by omega))
             rcases ends_or.1 (h2.1 h) with h | h
             · exact .inl ((hup j hj).2 (hW2 j hj h))
             · by_cases e : ends A text (fun i => ends A text W i ∧ ¬ upTo A text P lo.toNat c i) j
               · exact .inr e
               · refine .inl ((hup j hj).2 (hW2 j hj ?_))
                 obtain ⟨i, i1, i2, i3⟩ := h
                 refine ⟨i, i1, ?_, i3⟩
                 exact Classical.byContradiction fun hno => e ⟨i, i1, ⟨i2, hno⟩, i3⟩) hor
           refine ⟨a3, q3, fun k => ?_⟩
           simp only [F.impl_repPart_walk_l2, F.impl_repPart_walk_l2_s]
           rw [go_on hgo]
           refine (q2 _).trans ?_
           rw [implLess N hN all c2 ha hy, hfl, wrap_id (n := (c : Int) + 1) (by omega) (by omega), show ((c : Int) + 1) = ((c + 1 : Nat) : Int) by omega]
           rw [Bool.not_true, cond_false, implJoin N hN _ all hzl hzy]
           exact q4 k)

theorem implRep {R : Type} (N : Nat) (hN : 2097152 < N) (rw_ : Tr → List UInt8 → List Bool → Bool → (List Bool → Option R) → Option R) (text : List UInt8) (ht : text.length ≤ 1000000) (A : List UInt8 → Prop) (t : Tr) (lo hi : Int) (h0 : 0 ≤ lo) (h1 : lo ≤ 255)
    (hW : Wk (fun S k => rw_ t text S false k) text A) : Wk (fun S k => F.impl_repPart_walk N rw_ t lo hi text S false k) text (Many A lo hi) := by
  intro S P hS
  obtain ⟨c1, q1, q2⟩ := implRep_l0 N rw_ text A t lo hi h0 h1 hW P lo.toNat N 0 S (by omega) (by omega) (hS.congr fun j hj => (ends_nil hj).symm)
  have hf := falses_le c1
  have hl := q1.len
  obtain ⟨a2, q3, q4⟩ := implRep_l2 N (by omega) rw_ text ht A t lo hi hW P (falses c1) N lo.toNat c1 c1 _ (Nat.le_refl _) (by omega) (by omega) (Nat.le_refl _) (.inl rfl) q1 (fun j hj h => upTo_base.2 h) (fun j hj h => .inr (ends_mono (fun i hi h => upTo_base.1 h) h)) (q1.congr fun j hj => upTo_base.symm)
  refine ⟨a2, q3, fun k => ?_⟩
  simp only [F.impl_repPart_walk]
  have := q2 (fun y16 y17 y18 y19 y20 y21 => F.impl_spots_copied y21 fun r22 => F.impl_repPart_walk_l2 N rw_ N y16 y17 y18 y19 y20 y21 y17 r22 (fun y39 => k y39))
  rw [show ((0 : Nat) : Int) = 0 from rfl] at this
  refine this.trans ?_
  rw [implCopied c1 (by omega)]
  have := q4 k
  rw [show ((lo.toNat : Nat) : Int) = lo by omega] at this
  exact this
/-! ### the tree of a branch -/

def bitsOf (set : List Rng) : List Bool := (List.range 256).map fun c : Nat => hasS set (c : Int)

theorem bitsOf_len (set : List Rng) : (bitsOf set).length = 256 := by simp [bitsOf]

theorem bitsOf_get (set : List Rng) {c : Nat} (h : c < 256) : List.getD (bitsOf set) c false = hasS set (c : Int) := by
  rw [getD_at _ _ (by rw [bitsOf_len]; exact h)]
  simp [bitsOf]

theorem bits_ext {x : List Bool} {set : List Rng} (hl : x.length = 256) (h : ∀ c, c < 256 → List.getD x c false = hasS set (c : Int)) : x = bitsOf set := by
  apply List.ext_getElem (by rw [hl, bitsOf_len])
  intro c h1 h2
  rw [← getD_at x false h1, ← getD_at (bitsOf set) false h2, h c (by omega), bitsOf_get set (by omega)]

/-- The node of a tree. -/
def nodeTr (x : Nod) (a b : Tr) : Tr :=
  if x.1 = 1 then .nd 0 101 (bitsOf x.2.1) 0 0 .nil .nil
  else if x.1 = 2 then .nd 1 109 [] 0 0 a b
  else if x.1 = 3 then .nd 1 112 [] 0 0 a b
  else if x.1 = 4 then .nd 3 114 [] x.2.2.1 x.2.2.2.1 a .nil
  else if x.1 = 5 then .nd 2 117 [] x.2.2.2.2 0 a .nil
  else .nil

theorem nodeTr_1 {x : Nod} (h : arity x.1 = 1) (a b : Tr) : nodeTr x a b = nodeTr x a .nil := by
  unfold arity at h
  unfold nodeTr
  by_cases h2 : x.1 = 2 ∨ x.1 = 3
  · rw [if_pos h2] at h; omega
  · rw [if_neg (show ¬ x.1 = 2 from fun e => h2 (.inl e)), if_neg (show ¬ x.1 = 3 from fun e => h2 (.inr e)), if_neg (show ¬ x.1 = 2 from fun e => h2 (.inl e)), if_neg (show ¬ x.1 = 3 from fun e => h2 (.inr e))]

theorem nodeTr_0 {x : Nod} (h : arity x.1 = 0) (a b : Tr) : nodeTr x a b = nodeTr x .nil .nil := by
  unfold arity at h
  by_cases h2 : x.1 = 2 ∨ x.1 = 3
  · rw [if_pos h2] at h; omega
  · rw [if_neg h2] at h
    by_cases h4 : x.1 = 4 ∨ x.1 = 5
    · rw [if_pos h4] at h; omega
    · simp only [nodeTr, show ¬ x.1 = 2 from fun e => h2 (.inl e), show ¬ x.1 = 3 from fun e => h2 (.inr e), show ¬ x.1 = 4 from fun e => h4 (.inl e), show ¬ x.1 = 5 from fun e => h4 (.inr e), if_false]

/-- What impl's lift makes of the nodes. -/
def treesF : List Nod → List Tr → Option (List Tr)
  | [], W => some W
  | x :: r, W =>
    if W.length < arity x.1 then none
    else if arity x.1 = 2 then treesF r (W.take (W.length - 2) ++ [nodeTr x (List.getD W (W.length - 2) .nil) (List.getD W (W.length - 1) .nil)])
    else if arity x.1 = 1 then treesF r (W.take (W.length - 1) ++ [nodeTr x (List.getD W (W.length - 1) .nil) .nil])
    else treesF r (W ++ [nodeTr x .nil .nil])

def pass2T (L Q : List Int) : List Nod → List Tr → List Tr
  | [], ws => ws
  | x :: r, ws => pass2T L Q r (ws ++ [nodeTr x (List.getD ws (List.getD L ws.length 0).toNat .nil) (List.getD ws (List.getD Q ws.length 0).toNat .nil)])

theorem getD_appT {l m : List Tr} {j : Nat} (h : j < l.length) : List.getD (l ++ m) j .nil = List.getD l j .nil := by
  simp [List.getD_eq_getElem?_getD, List.getElem?_append, h]

theorem getD_lastT {l : List Tr} {y : Tr} {j : Nat} (h : j = l.length) : List.getD (l ++ [y]) j .nil = y := by
  subst h; simp [List.getD_eq_getElem?_getD]

theorem pass2T_pre (L Q : List Int) : ∀ (xs : List Nod) (ws : List Tr) (j : Nat), j < ws.length → List.getD (pass2T L Q xs ws) j .nil = List.getD ws j .nil
  | [], _, _, _ => rfl
  | x :: r, ws, j, h => by
    simp only [pass2T]
    rw [pass2T_pre L Q r _ j (by simp; omega), getD_appT h]

def valsT (ws : List Tr) (S : List Int) : List Tr := S.map fun s => List.getD ws s.toNat .nil

theorem valsT_getD {ws : List Tr} {S : List Int} {j : Nat} (h : j < S.length) : List.getD (valsT ws S) j .nil = List.getD ws (List.getD S j 0).toNat .nil := by
  simp only [valsT]
  rw [getD_at _ _ (by simpa using h), getD_at S _ h]
  simp

theorem valsT_app {ws : List Tr} {S : List Int} {y : Tr} (h : ∀ s ∈ S, 0 ≤ s ∧ s < ws.length) : valsT (ws ++ [y]) S = valsT ws S := by
  unfold valsT
  apply List.map_congr_left
  intro s hs
  have := h s hs
  exact getD_appT (by omega)

theorem joinT : ∀ (xs : List Nod) (ws : List Tr) (L Q S : List Int), L.length = ws.length → Q.length = ws.length → (∀ s ∈ S, 0 ≤ s ∧ s < ws.length) →
    (match kidsF xs (ws.length : Int) L Q S with
      | (true, L', Q', S') => L'.length = ws.length + xs.length ∧ Q'.length = ws.length + xs.length ∧ (∀ j, j < ws.length → List.getD L' j 0 = List.getD L j 0 ∧ List.getD Q' j 0 = List.getD Q j 0) ∧
          (∀ j (h : j < xs.length), ValidAt xs[j] (ws.length + j) L' Q') ∧ treesF xs (valsT ws S) = some (valsT (pass2T L' Q' xs ws) S') ∧ (xs ≠ [] → ∃ p, S' = p ++ [(ws.length + xs.length - 1 : Int)])
      | (false, _, _, _) => True)
  | [], ws, L, Q, S, hL, hQ, hS => by
    simp only [kidsF]
    exact ⟨by simp [hL], by simp [hQ], (by intro j hj; first | trivial | exact ⟨rfl, rfl⟩), (fun j h => by simp at h), by first | rfl | trivial, fun h => (h rfl).elim⟩
  | x :: r, ws, L, Q, S, hL, hQ, hS => by
    have hvl : (valsT ws S).length = S.length := by simp [valsT]
    simp only [kidsF, treesF]
    rw [hvl]
    by_cases h : S.length < arity x.1
    · rw [if_pos h, if_pos h]; trivial
    rw [if_neg h, if_neg h]
    have hsd : ∀ j, j < S.length → 0 ≤ List.getD S j 0 ∧ List.getD S j 0 < ws.length := fun j hj => by
      rw [getD_at S _ hj]; exact hS _ (List.getElem_mem hj)
    have step : ∀ (y z : Int) (v : Tr) (m : Nat), v = nodeTr x (List.getD ws y.toNat .nil) (List.getD ws z.toNat .nil) → ((1 ≤ arity x.1 → 0 ≤ y ∧ y < ws.length) ∧ (arity x.1 = 2 → 0 ≤ z ∧ z < ws.length)) → m ≤ S.length →
        (match kidsF r ((ws.length : Int) + 1) (L ++ [y]) (Q ++ [z]) (S.take m ++ [(ws.length : Int)]) with
          | (true, L', Q', S') => L'.length = ws.length + (x :: r).length ∧ Q'.length = ws.length + (x :: r).length ∧ (∀ j, j < ws.length → List.getD L' j 0 = List.getD L j 0 ∧ List.getD Q' j 0 = List.getD Q j 0) ∧
              (∀ j (h : j < (x :: r).length), ValidAt (x :: r)[j] (ws.length + j) L' Q') ∧ treesF r ((valsT ws S).take m ++ [v]) = some (valsT (pass2T L' Q' (x :: r) ws) S') ∧ ((x :: r) ≠ [] → ∃ p, S' = p ++ [(ws.length + (x :: r).length - 1 : Int)])
          | (false, _, _, _) => True) := by
      intro y z v m hv hyz hm
      have hS' : ∀ s ∈ S.take m ++ [(ws.length : Int)], 0 ≤ s ∧ s < (ws ++ [v]).length := by
        intro s hs
        rcases List.mem_append.1 hs with hs | hs
        · have := hS s (List.mem_of_mem_take hs); simp; omega
        · simp only [List.mem_singleton] at hs; subst hs; simp; omega
      have hvals : valsT (ws ++ [v]) (S.take m ++ [(ws.length : Int)]) = (valsT ws S).take m ++ [v] := by
        have e1 : valsT (ws ++ [v]) (S.take m) = valsT ws (S.take m) := valsT_app fun s hs => hS s (List.mem_of_mem_take hs)
        have e2 : valsT (ws ++ [v]) (S.take m ++ [(ws.length : Int)]) = valsT (ws ++ [v]) (S.take m) ++ [List.getD (ws ++ [v]) (ws.length : Int).toNat .nil] := by simp [valsT]
        rw [e2, e1, getD_lastT (by simp)]
        congr 1
        simp [valsT, List.map_take]
      have ih := joinT r (ws ++ [v]) (L ++ [y]) (Q ++ [z]) (S.take m ++ [(ws.length : Int)]) (by simp [hL]) (by simp [hQ]) hS'
      rw [hvals, show (((ws ++ [v]).length : Nat) : Int) = (ws.length : Int) + 1 by simp] at ih
      have hwl : (ws ++ [v]).length = ws.length + 1 := by simp
      generalize hk : kidsF r ((ws.length : Int) + 1) (L ++ [y]) (Q ++ [z]) (S.take m ++ [(ws.length : Int)]) = z0 at ih ⊢
      obtain ⟨b, L', Q', S'⟩ := z0
      cases b with
      | false => trivial
      | true =>
        simp only at ih ⊢
        obtain ⟨i1, i2, i3, i4, i5, i6⟩ := ih
        rw [hwl] at i1 i2 i3 i4
        have hLn : List.getD L' ws.length 0 = y := by rw [(i3 ws.length (by omega)).1]; exact getD_last hL.symm
        have hQn : List.getD Q' ws.length 0 = z := by rw [(i3 ws.length (by omega)).2]; exact getD_last hQ.symm
        refine ⟨by simp; omega, by simp; omega, fun j hj => ?_, ?_, ?_, ?_⟩
        · obtain ⟨q1, q2⟩ := i3 j (by omega)
          rw [q1, q2]
          exact ⟨getD_app (by omega), getD_app (by omega)⟩
        · intro j hj
          cases j with
          | zero =>
            simp only [List.getElem_cons_zero, Nat.add_zero]
            refine ⟨fun ha => ?_, fun ha => ?_⟩
            · rw [hLn]; exact hyz.1 ha
            · rw [hQn]; exact hyz.2 ha
          | succ j =>
            simp only [List.getElem_cons_succ]
            have := i4 j (by simpa using hj)
            rw [show ws.length + (j + 1) = ws.length + 1 + j by omega]
            exact this
        · rw [i5]
          simp only [pass2T]
          rw [hLn, hQn, ← hv]
        · intro _
          by_cases hr : r = []
          · subst hr
            simp only [kidsF, Prod.mk.injEq] at hk
            obtain ⟨_, _, _, rfl⟩ := hk
            exact ⟨S.take m, by simp⟩
          · obtain ⟨p, hp⟩ := i6 hr
            refine ⟨p, ?_⟩
            rw [hp]
            simp
            omega
    have hA := arity_le x.1
    by_cases h2 : arity x.1 = 2
    · rw [if_pos h2, if_pos h2]
      have e1 := valsT_getD (ws := ws) (S := S) (j := S.length - 2) (by omega)
      have e2 := valsT_getD (ws := ws) (S := S) (j := S.length - 1) (by omega)
      rw [e1, e2]
      exact step _ _ _ _ rfl ⟨fun _ => hsd _ (by omega), fun _ => hsd _ (by omega)⟩ (by omega)
    rw [if_neg h2, if_neg h2]
    by_cases h1 : arity x.1 = 1
    · rw [if_pos h1, if_pos h1]
      have e2 := valsT_getD (ws := ws) (S := S) (j := S.length - 1) (by omega)
      rw [e2]
      exact step _ _ _ _ (nodeTr_1 h1 _ _).symm ⟨fun _ => hsd _ (by omega), fun h => (h2 h).elim⟩ (by omega)
    rw [if_neg h1, if_neg h1]
    have := step (-1) (-1) (nodeTr x .nil .nil) S.length (nodeTr_0 (by omega) _ _).symm ⟨fun h => by omega, fun h => by omega⟩ (Nat.le_refl _)
    rw [List.take_length, show (valsT ws S).take S.length = valsT ws S by rw [← hvl, List.take_length]] at this
    exact this

theorem treeAt (L Q : List Int) : ∀ (xs : List Nod) (ws : List Tr) (j : Nat) (h : j < xs.length), ValidAt xs[j] (ws.length + j) L Q →
    List.getD (pass2T L Q xs ws) (ws.length + j) .nil = nodeTr xs[j] (List.getD (pass2T L Q xs ws) (List.getD L (ws.length + j) 0).toNat .nil) (List.getD (pass2T L Q xs ws) (List.getD Q (ws.length + j) 0).toNat .nil)
  | x :: r, ws, 0, h, hv => by
    simp only [List.getElem_cons_zero, Nat.add_zero] at hv ⊢
    have hp : ∀ k, k < ws.length → List.getD (pass2T L Q (x :: r) ws) k .nil = List.getD ws k .nil := fun k hk => pass2T_pre L Q (x :: r) ws k hk
    have h0 : List.getD (pass2T L Q (x :: r) ws) ws.length .nil = nodeTr x (List.getD ws (List.getD L ws.length 0).toNat .nil) (List.getD ws (List.getD Q ws.length 0).toNat .nil) := by
      simp only [pass2T]
      rw [pass2T_pre L Q r _ ws.length (by simp), getD_lastT rfl]
    rw [h0]
    have hA := arity_le x.1
    by_cases h2 : arity x.1 = 2
    · have a := hv.1 (by omega)
      have b := hv.2 h2
      rw [hp _ (by omega), hp _ (by omega)]
    · by_cases h1 : arity x.1 = 1
      · have a := hv.1 (by omega)
        rw [hp _ (show (List.getD L ws.length 0).toNat < ws.length by omega), nodeTr_1 h1 _ (List.getD ws _ _), nodeTr_1 h1 _ (List.getD (pass2T L Q (x :: r) ws) _ _)]
      · rw [nodeTr_0 (by omega) (List.getD ws _ _), nodeTr_0 (by omega) (List.getD (pass2T L Q (x :: r) ws) _ _)]
  | x :: r, ws, j + 1, h, hv => by
    have := treeAt L Q r (ws ++ [nodeTr x (List.getD ws (List.getD L ws.length 0).toNat .nil) (List.getD ws (List.getD Q ws.length 0).toNat .nil)]) j (by simpa using h) (by
      simp only [List.length_append, List.length_cons, List.length_nil]
      rw [show ws.length + (0 + 1) + j = ws.length + (j + 1) by omega]
      simpa using hv)
    simp only [List.length_append, List.length_cons, List.length_nil] at this
    rw [show ws.length + (0 + 1) + j = ws.length + (j + 1) by omega] at this
    simp only [pass2T, List.getElem_cons_succ]
    exact this

/-- The words of a tree. -/
def Lang : Tr → List UInt8 → Prop
  | .nil => fun _ => False
  | .nd _ ty bs i j l r =>
    if ty = 101 then fun w => ∃ c, w = [c] ∧ List.getD bs c.toNat false = true
    else if ty = 109 then Cat (Lang l) (Lang r)
    else if ty = 112 then fun w => Lang l w ∨ Lang r w
    else if ty = 117 then Lang l
    else Many (Lang l) i j

/-- A tree in order, of no more than so many storeys. -/
def Wf : Nat → Tr → Prop
  | 0, _ => False
  | _ + 1, .nil => False
  | d + 1, .nd lay ty bs i _ l r => (ty = 101 ∧ lay = 0 ∧ bs.length = 256) ∨ (ty = 109 ∧ lay = 1 ∧ Wf d l ∧ Wf d r) ∨ (ty = 112 ∧ lay = 1 ∧ Wf d l ∧ Wf d r) ∨ (ty = 117 ∧ lay = 2 ∧ Wf d l) ∨
    (ty = 114 ∧ lay = 3 ∧ 0 ≤ i ∧ i ≤ 255 ∧ Wf d l)

theorem Wf.mono : ∀ {d d' : Nat} {t : Tr}, d ≤ d' → Wf d t → Wf d' t
  | 0, _, _, _, h => h.elim
  | d + 1, 0, _, h, _ => by omega
  | d + 1, d' + 1, .nil, _, h => h
  | d + 1, d' + 1, .nd lay ty bs i j l r, h, k => by
    have h' : d ≤ d' := by omega
    rcases k with k | k | k | k | k
    · exact .inl k
    · exact .inr (.inl ⟨k.1, k.2.1, Wf.mono h' k.2.2.1, Wf.mono h' k.2.2.2⟩)
    · exact .inr (.inr (.inl ⟨k.1, k.2.1, Wf.mono h' k.2.2.1, Wf.mono h' k.2.2.2⟩))
    · exact .inr (.inr (.inr (.inl ⟨k.1, k.2.1, Wf.mono h' k.2.2⟩)))
    · exact .inr (.inr (.inr (.inr ⟨k.1, k.2.1, k.2.2.1, k.2.2.2.1, Wf.mono h' k.2.2.2.2⟩)))

theorem Wf.notNil {d : Nat} {t : Tr} (h : Wf d t) : t.isNil = false := by
  cases d <;> cases t <;> first | exact h.elim | rfl

theorem nodeOk_kind {x : Nod} (h : nodeOk x = true) : (x.1 = 1 ∨ x.1 = 2 ∨ x.1 = 3 ∨ x.1 = 4 ∨ x.1 = 5) ∧ (x.1 = 4 → 0 ≤ x.2.2.1 ∧ x.2.2.1 ≤ 255) ∧ setF (-2) x.2.1 = true := by
  simp only [nodeOk, Bool.and_eq_true, decide_eq_true_eq] at h
  obtain ⟨⟨h1, h2, _, _, _, h3⟩, h4⟩ := h
  exact ⟨by omega, fun e => ⟨(h3 e).1, (h3 e).2.1⟩, h4⟩

theorem nodeTr_wf {x : Nod} (h : nodeOk x = true) {a b : Tr} {d : Nat} (ha : 1 ≤ arity x.1 → Wf d a) (hb : arity x.1 = 2 → Wf d b) : Wf (d + 1) (nodeTr x a b) := by
  obtain ⟨hk, h4, _⟩ := nodeOk_kind h
  rcases hk with e | e | e | e | e
  · simp only [nodeTr, e, if_true]; exact .inl ⟨rfl, rfl, bitsOf_len _⟩
  · have := ha (by rw [e]; decide)
    have := hb (by rw [e]; decide)
    simp only [nodeTr, e]
    exact .inr (.inl ⟨rfl, rfl, by assumption, by assumption⟩)
  · have := ha (by rw [e]; decide)
    have := hb (by rw [e]; decide)
    simp only [nodeTr, e]
    exact .inr (.inr (.inl ⟨rfl, rfl, by assumption, by assumption⟩))
  · have := ha (by rw [e]; decide)
    simp only [nodeTr, e]
    exact .inr (.inr (.inr (.inr ⟨rfl, rfl, (h4 e).1, (h4 e).2, this⟩)))
  · have := ha (by rw [e]; decide)
    simp only [nodeTr, e]
    exact .inr (.inr (.inr (.inl ⟨rfl, rfl, this⟩)))

/-- The trees of a branch's nodes. -/
structure Trees (l : List Nod) (L Q : List Int) (T : List Tr) : Prop where
  lL : L.length = l.length
  lQ : Q.length = l.length
  ok : ∀ x ∈ l, nodeOk x = true
  va : ∀ j (h : j < l.length), ValidAt l[j] j L Q
  tree : ∀ j (h : j < l.length), List.getD T j .nil = nodeTr l[j] (List.getD T (List.getD L j 0).toNat .nil) (List.getD T (List.getD Q j 0).toNat .nil)

theorem Trees.wf {l : List Nod} {L Q : List Int} {T : List Tr} (h : Trees l L Q T) : ∀ (d j : Nat), j < d → j < l.length → Wf d (List.getD T j .nil) := by
  intro d
  induction d with
  | zero => intro j h; omega
  | succ d ih =>
    intro j hj hl
    rw [h.tree j hl]
    have hv := h.va j hl
    exact nodeTr_wf (h.ok _ (List.getElem_mem hl)) (fun ha => ih _ (by have := hv.1 ha; omega) (by have := hv.1 ha; omega)) (fun ha => ih _ (by have := hv.2 ha; omega) (by have := hv.2 ha; omega))

theorem trees_of {l : List Nod} (ok : ∀ x ∈ l, nodeOk x = true) (hb : brOk l = true) : ∃ L Q T, 0 < l.length ∧ Trees l L Q T ∧ treesF l [] = some [List.getD T (l.length - 1) .nil] ∧ (∀ {R : Type} (k : Bool → List Int → List Int → Option R), (match kidsF l 0 [] [] [] with
      | (true, L', Q', S') => k ((S'.length : Int) == 1) L' Q'
      | (false, L', Q', _) => k false L' Q') = k true L Q) := by
  have h := joinT l [] [] [] [] rfl rfl (by simp)
  unfold brOk at hb
  have e : valsT [] [] = [] := rfl
  rw [e, show (([] : List Tr).length : Int) = 0 from rfl] at h
  generalize hk : kidsF l 0 [] [] [] = z at h hb
  obtain ⟨b, L', Q', S'⟩ := z
  cases b with
  | false => simp at hb
  | true =>
    simp only [decide_eq_true_eq] at hb
    simp only [List.length_nil, Nat.zero_add] at h
    obtain ⟨h1, h2, _, h4, h5, h6⟩ := h
    have hne : l ≠ [] := by
      rintro rfl
      simp only [kidsF, Prod.mk.injEq] at hk
      obtain ⟨_, _, _, rfl⟩ := hk
      simp at hb
    have hpos : 0 < l.length := List.length_pos_iff.2 hne
    obtain ⟨p, hp⟩ := h6 hne
    have hp0 : p = [] := by
      rw [hp] at hb
      simp only [List.length_append, List.length_cons, List.length_nil] at hb
      exact List.eq_nil_of_length_eq_zero (by omega)
    subst hp0
    refine ⟨L', Q', pass2T L' Q' l [], hpos, ⟨h1, h2, ok, fun j hj => by simpa using h4 j hj, fun j hj => ?_⟩, ?_, fun k => ?_⟩
    · have := treeAt L' Q' l [] j hj (by simpa using h4 j hj)
      simpa using this
    · rw [h5, hp]
      simp only [valsT, List.nil_append, List.map_cons, List.map_nil]
      rw [show ((0 : Int) + (l.length : Int) - 1).toNat = l.length - 1 by omega]
    · simp only [hb]
      rfl
/-! ### both walks -/

theorem step0 {p : UInt8 → Bool} {text : List UInt8} {S : List Bool} (hS : S.length = text.length + 1) : (stepF p text S).take (0 + 1) ++ List.replicate text.length false = List.replicate S.length false := by
  rw [hS, List.replicate_succ]; rfl

theorem Wk.congr {R : Type} {f g : List Bool → (List Bool → Option R) → Option R} {text : List UInt8} {A : List UInt8 → Prop} (h : Wk f text A) (e : ∀ S, S.length = text.length + 1 → ∀ k, g S k = f S k) : Wk g text A := by
  intro S Q hS
  obtain ⟨S', h1, h2⟩ := h S Q hS
  exact ⟨S', h1, fun k => (e S hS.len k).trans (h2 k)⟩

theorem Wk.lang {R : Type} {f : List Bool → (List Bool → Option R) → Option R} {text : List UInt8} {A B : List UInt8 → Prop} (h : Wk f text A) (e : A = B) : Wk f text B := e ▸ h

theorem Wk.cat {R : Type} {f g : List Bool → (List Bool → Option R) → Option R} {text : List UInt8} {A B : List UInt8 → Prop} (hf : Wk f text A) (hg : Wk g text B) : Wk (fun S k => f S fun r => g r fun r => k r) text (Cat A B) := by
  intro S Q hS
  obtain ⟨S1, h1, h2⟩ := hf S Q hS
  obtain ⟨S2, h3, h4⟩ := hg S1 _ h1
  exact ⟨S2, h3.congr fun j hj => (ends_cat hj).symm, fun k => (h2 _).trans (h4 _)⟩

theorem Wk.same {R : Type} {f : List Bool → (List Bool → Option R) → Option R} {text : List UInt8} {A : List UInt8 → Prop} (hf : Wk f text A) : Wk (fun S k => f S fun r => k r) text A := hf

theorem ends_either {A B : List UInt8 → Prop} {text : List UInt8} {Q : Nat → Prop} {j : Nat} : ends (fun w => A w ∨ B w) text Q j ↔ ends A text Q j ∨ ends B text Q j := by
  constructor
  · rintro ⟨i, h1, h2, h3 | h3⟩
    · exact .inl ⟨i, h1, h2, h3⟩
    · exact .inr ⟨i, h1, h2, h3⟩
  · rintro (⟨i, h1, h2, h3⟩ | ⟨i, h1, h2, h3⟩)
    · exact ⟨i, h1, h2, .inl h3⟩
    · exact ⟨i, h1, h2, .inr h3⟩

theorem Wk.or {R : Type} {f g : List Bool → (List Bool → Option R) → Option R} {o : List Bool → List Bool → (List Bool → Option R) → Option R} {text : List UInt8} {A B : List UInt8 → Prop} (hf : Wk f text A) (hg : Wk g text B)
    (ho : ∀ x y : List Bool, x.length = text.length + 1 → y.length = text.length + 1 → ∀ k, o x y k = k (List.zipWith (fun a b => a || b) x y)) : Wk (fun S k => f S fun r => g S fun r' => o r r' fun r => k r) text (fun w => A w ∨ B w) := by
  intro S Q hS
  obtain ⟨S1, h1, h2⟩ := hf S Q hS
  obtain ⟨S2, h3, h4⟩ := hg S _ hS
  exact ⟨_, (h1.or h3).congr fun j hj => ends_either.symm, fun k => (h2 _).trans ((h4 _).trans (ho _ _ h1.len h3.len _))⟩

theorem kidAt {x : Nod} {j : Nat} {L Q : List Int} {n : Nat} (hL : L.length = n) (hQ : Q.length = n) (hj : j < n) : inB (j : Int) L.length = true ∧ inB (j : Int) Q.length = true :=
  ⟨inB_true (by omega) (by omega), inB_true (by omega) (by omega)⟩

theorem specWalk {R : Type} (N : Nat) (hN : 2097152 < N) (text : List UInt8) (ht : text.length ≤ 1000000) {l : List Nod} {L Q : List Int} {T : List Tr} (hT : Trees l L Q T) (hl : SmallN l) :
    ∀ (n j : Nat), j < n → j < l.length → Wk (R := R) (fun S k => F.spec_l1Ends_v1 N n l L Q text (j : Int) S k) text (Lang (List.getD T j .nil)) := by
  intro n
  induction n with
  | zero => intro j h; omega
  | succ n ih =>
    intro j hj hjl
    have hx := hT.ok _ (List.getElem_mem hjl)
    have hv := hT.va j hjl
    have htr := hT.tree j hjl
    have hset := hl.2 _ (List.getElem_mem hjl)
    obtain ⟨hk, h4, _⟩ := nodeOk_kind hx
    have bN : inB (j : Int) l.length = true := inB_true (by omega) (by omega)
    have bL : inB (j : Int) L.length = true := inB_true (by omega) (by have := hT.lL; omega)
    have bQ : inB (j : Int) Q.length = true := inB_true (by omega) (by have := hT.lQ; omega)
    have hkid : ∀ i : Int, 0 ≤ i → i < j → Wk (R := R) (fun S k => F.spec_l1Ends_v1 N n l L Q text i S k) text (Lang (List.getD T i.toNat .nil)) := by
      intro i h0 h1
      have := ih i.toNat (by omega) (by omega)
      rwa [show ((i.toNat : Nat) : Int) = i by omega] at this
    rw [htr]
    generalize hxe : l[j] = x at *
    have key : ∀ (S : List Bool) (k : List Bool → Option R), F.spec_l1Ends_v1 N (n + 1) l L Q text (j : Int) S k = F.spec_l1Ends_v1_s N (F.spec_l1Ends_v1 N n) l L Q text (j : Int) S k := fun _ _ => rfl
    have hgx : ∀ z, List.getD l (Int.toNat (j : Int)) z = x := fun z => by rw [Int.toNat_natCast, getD_at l _ hjl, hxe]
    have hgy : ∀ z, List.getD l j z = x := fun z => by rw [getD_at l _ hjl, hxe]
    rcases hk with e | e | e | e | e
    · refine Wk.lang (A := fun w => ∃ c, w = [c] ∧ hasS x.2.1 (c.toNat : Int) = true) (fun S P hS => ⟨_, stepF_ok hS, fun k => ?_⟩) ?_
      · rw [key]
        simp only [F.spec_l1Ends_v1_s, hgx, bN, e, cond_true]
        have hs := specSet_walk N (by omega) (F.spec_l1Ends_v1 N n) text ht S hS.len l L Q 1 x.2.2.1 x.2.2.2.1 x.2.2.2.2 x.2.1 hset k text.length N 0 (by omega) (by omega)
        rw [step0 hS.len] at hs
        rw [decide_eq_true (by omega), big_ok (by rw [hS.len]; omega) (by omega), Int.toNat_natCast]
        exact hs
      · simp only [nodeTr, e, if_true, Lang]
        funext w
        refine propext ⟨?_, ?_⟩
        · rintro ⟨c, h1, h2⟩
          exact ⟨c, h1, by rw [bitsOf_get _ (by have := c.toNat_lt; omega)]; exact h2⟩
        · rintro ⟨c, h1, h2⟩
          exact ⟨c, h1, by rw [bitsOf_get _ (by have := c.toNat_lt; omega)] at h2; exact h2⟩
    · have a := hv.1 (by rw [e]; decide)
      have b := hv.2 (by rw [e]; decide)
      have := (hkid _ a.1 a.2).cat (hkid _ b.1 b.2)
      refine Wk.lang (this.congr fun S hS k => ?_) (by simp only [nodeTr, e]; rfl)
      rw [key]
      simp only [F.spec_l1Ends_v1_s, Int.toNat_natCast, hgy, bN, bL, bQ, e, cond_true]
      rfl
    · have a := hv.1 (by rw [e]; decide)
      have b := hv.2 (by rw [e]; decide)
      have := (hkid _ a.1 a.2).or (hkid _ b.1 b.2) (o := fun x y k => F.spec_l1Or N x y k) (fun x y h1 h2 k => specOr N (by omega) x y (by omega) (by omega) k)
      refine Wk.lang (this.congr fun S hS k => ?_) (by simp only [nodeTr, e]; rfl)
      rw [key]
      simp only [F.spec_l1Ends_v1_s, Int.toNat_natCast, hgy, bN, bL, bQ, e, cond_true]
      rfl
    · have a := hv.1 (by rw [e]; decide)
      have := specCopied N hN (F.spec_l1Ends_v1 N n) text ht _ l L Q _ x.2.2.1 x.2.2.2.1 (h4 e).1 (h4 e).2 (hkid _ a.1 a.2)
      refine Wk.lang (this.congr fun S hS k => ?_) (by simp only [nodeTr, e]; rfl)
      rw [key]
      simp only [F.spec_l1Ends_v1_s, Int.toNat_natCast, hgy, bN, bL, bQ, e, cond_true]
      rfl
    · have a := hv.1 (by rw [e]; decide)
      have := hkid _ a.1 a.2
      refine Wk.lang (this.congr fun S hS k => ?_) (by simp only [nodeTr, e]; rfl)
      rw [key]
      simp only [F.spec_l1Ends_v1_s, Int.toNat_natCast, hgy, bN, bL, bQ, e, cond_true]
      rfl

theorem specEnds_l1 {R : Type} (N : Nat) (rw_ : List Nod → List Int → List Int → List UInt8 → Int → List Bool → (List Bool → Option R) → Option R) : ∀ n a b c d e f g h i j k o (ke : List Bool → Option R), F.spec_l1Ends_l1 N n a b c d e f g h i j k o ke = F.spec_l1Ends_v1_l1 N rw_ n a b c d e f g h i j k o ke := by
  intro n
  induction n with
  | zero => intros; rfl
  | succ n ih =>
    intros
    simp only [F.spec_l1Ends_l1, F.spec_l1Ends_l1_s, F.spec_l1Ends_v1_l1, F.spec_l1Ends_v1_l1_s, ih]

theorem specEnds {R : Type} (N : Nat) (l : List Nod) (L Q : List Int) (text : List UInt8) (j : Int) (S : List Bool) (k : List Bool → Option R) : F.spec_l1Ends N l L Q text j S k = F.spec_l1Ends_v1 N (N + 1) l L Q text j S k := by
  show _ = F.spec_l1Ends_v1_s N (F.spec_l1Ends_v1 N N) l L Q text j S k
  simp only [F.spec_l1Ends, F.spec_l1Ends_v1_s, specEnds_l1 N (F.spec_l1Ends_v1 N N)]

theorem walk_v1 {R : Type} (N : Nat) (hN : 2097152 < N) (text : List UInt8) (ht : text.length ≤ 1000000) (D : Nat) (rw1 : Tr → List UInt8 → List Bool → Bool → (List Bool → Option R) → Option R)
    (h1 : ∀ t, Wf D t → Wk (fun S k => rw1 t text S false k) text (Lang t)) : ∀ (m : Nat) (t : Tr), Wf m t → Wf (D + 1) t → Wk (R := R) (fun S k => F.impl_walk_v1 N rw1 m t text S false k) text (Lang t) := by
  intro m
  induction m with
  | zero => intro t h; exact h.elim
  | succ m ih =>
    intro t hm hD
    have key : ∀ (S : List Bool) (k : List Bool → Option R), F.impl_walk_v1 N rw1 (m + 1) t text S false k = F.impl_walk_v1_s N rw1 (F.impl_walk_v1 N rw1 m) t text S false k := fun _ _ => rfl
    cases t with
    | nil => exact hm.elim
    | nd lay ty bs i j l r =>
      have up : ∀ t, Wf D t → Wf (D + 1) t := fun t h => h.mono (by omega)
      rcases hm with ⟨rfl, rfl, hb⟩ | ⟨rfl, rfl, ml, mr⟩ | ⟨rfl, rfl, ml, mr⟩ | ⟨rfl, rfl, ml⟩ | ⟨rfl, rfl, h0, h9, ml⟩
      · refine Wk.lang (A := fun w => ∃ c, w = [c] ∧ List.getD bs c.toNat false = true) (fun S P hS => ⟨_, stepF_ok hS, fun k => ?_⟩) rfl
        rw [key]
        have hs := implSet_walk N rw1 (F.impl_walk_v1 N rw1 m) text ht S hS.len bs hb k text.length N 0 (by omega) (by omega)
        rw [step0 hS.len] at hs
        simp only [F.impl_walk_v1_s]
        rw [decide_eq_true (show (0 : Int) ≤ (S.length : Int) by omega), big_ok (by rw [hS.len]; omega) (by omega), Int.toNat_natCast]
        exact hs
      · have dl : Wf D l ∧ Wf D r := by
          rcases hD with h | h | h | h | h
          · simp at h
          · exact ⟨h.2.2.1, h.2.2.2⟩
          · simp at h
          · simp at h
          · simp at h
        have := (ih l ml (up _ dl.1)).cat (h1 r dl.2)
        exact Wk.lang (this.congr fun S hS k => by rw [key]; rfl) rfl
      · have dl : Wf D l ∧ Wf D r := by
          rcases hD with h | h | h | h | h
          · simp at h
          · simp at h
          · exact ⟨h.2.2.1, h.2.2.2⟩
          · simp at h
          · simp at h
        have := (ih l ml (up _ dl.1)).or (ih r mr (up _ dl.2)) (o := fun x y k => F.impl_spots_join N y x k) (fun x y h1 h2 k => implJoin N (by omega) y x (by omega) (by omega) k)
        exact Wk.lang (this.congr fun S hS k => by rw [key]; rfl) rfl
      · have dl : Wf D l := by
          rcases hD with h | h | h | h | h
          · simp at h
          · simp at h
          · simp at h
          · exact h.2.2
          · simp at h
        have := ih l ml (up _ dl)
        exact Wk.lang (this.congr fun S hS k => by rw [key]; rfl) rfl
      · have dl : Wf D l := by
          rcases hD with h | h | h | h | h
          · simp at h
          · simp at h
          · simp at h
          · simp at h
          · exact h.2.2.2.2
        have := implRep N hN (F.impl_walk_v1 N rw1 m) text ht _ l i j h0 h9 (ih l ml (up _ dl))
        exact Wk.lang (this.congr fun S hS k => by rw [key]; rfl) rfl

theorem walk_l1 {R : Type} (N : Nat) (rw1 rw2 : Tr → List UInt8 → List Bool → Bool → (List Bool → Option R) → Option R) : ∀ n a b c d e f g (ke : List Bool → Option R), F.impl_walk_l1 N rw1 n a b c d e f g ke = F.impl_walk_v1_l1 N rw1 rw2 n a b c d e f g ke := by
  intro n
  induction n with
  | zero => intros; rfl
  | succ n ih =>
    intros
    simp only [F.impl_walk_l1, F.impl_walk_l1_s, F.impl_walk_v1_l1, F.impl_walk_v1_l1_s, ih]

theorem implWalk_v1 {R : Type} (N n : Nat) (t : Tr) (text : List UInt8) (S : List Bool) (b : Bool) (k : List Bool → Option R) : F.impl_walk N (n + 1) t text S b k = F.impl_walk_v1 N (F.impl_walk N n) (N + 1) t text S b k := by
  show F.impl_walk_s N (F.impl_walk N n) t text S b k = F.impl_walk_v1_s N (F.impl_walk N n) (F.impl_walk_v1 N (F.impl_walk N n) N) t text S b k
  simp only [F.impl_walk_s, F.impl_walk_v1_s, walk_l1 N (F.impl_walk N n) (F.impl_walk_v1 N (F.impl_walk N n) N)]

theorem implWalk {R : Type} (N : Nat) (hN : 2097152 < N) (text : List UInt8) (ht : text.length ≤ 1000000) : ∀ (n : Nat) (t : Tr), n ≤ N → Wf n t → Wk (R := R) (fun S k => F.impl_walk N n t text S false k) text (Lang t) := by
  intro n
  induction n with
  | zero => intro t _ h; exact h.elim
  | succ n ih =>
    intro t hn h
    have := walk_v1 N hN text ht n (F.impl_walk (R := R) N n) (fun t ht' => ih t (by omega) ht') (N + 1) t (h.mono (by omega)) h
    exact this.congr fun S hS k => implWalk_v1 N n t text S false k
/-! ### impl's lift -/

theorem setF_mem : ∀ {l : List Rng} {last : Int}, -2 ≤ last → setF last l = true → ∀ r ∈ l, 0 ≤ r.1 ∧ r.1 ≤ r.2 ∧ r.2 ≤ 255
  | [], _, _, _, r, h => by simp at h
  | (lo, hi) :: l, last, h0, h, r, hr => by
    simp only [setF, Bool.and_eq_true, decide_eq_true_eq] at h
    rcases List.mem_cons.1 hr with rfl | hr
    · exact ⟨by simp only; omega, h.1.2.1, h.1.2.2⟩
    · exact setF_mem (by omega) h.2 r hr

theorem add_l0 {R : Type} (N : Nat) (hi : Int) (h1 : hi ≤ 255) : ∀ (d n i : Nat) (bits : List Bool), (i : Int) + d = hi + 1 → d < n → bits.length = 256 →
    ∃ bits', bits'.length = 256 ∧ (∀ c, c < 256 → List.getD bits' c false = (decide (i ≤ c ∧ (c : Int) ≤ hi) || List.getD bits c false)) ∧ ∀ ke : List Bool → Option R, F.impl_marks_add_l0 N n hi (i : Int) bits ke = ke bits' := by
  intro d
  induction d with
  | zero =>
    intro n i bits hd hn hb
    obtain ⟨n, rfl⟩ : ∃ m, n = m + 1 := ⟨n - 1, by omega⟩
    refine ⟨bits, hb, fun c hc => by rw [decide_eq_false (by omega)]; rfl, fun ke => ?_⟩
    simp only [F.impl_marks_add_l0, F.impl_marks_add_l0_s, Bool.cond_decide]
    rw [if_neg (by omega)]
  | succ d ih =>
    intro n i bits hd hn hb
    obtain ⟨n, rfl⟩ : ∃ m, n = m + 1 := ⟨n - 1, by omega⟩
    obtain ⟨b2, q1, q2, q3⟩ := ih n (i + 1) (bits.set i true) (by omega) (by omega) (by simpa using hb)
    refine ⟨b2, q1, fun c hc => ?_, fun ke => ?_⟩
    · rw [q2 c hc]
      by_cases e : i = c
      · subst e
        rw [decide_eq_true (show i ≤ i ∧ (i : Int) ≤ hi by omega)]
        simp [List.getD_eq_getElem?_getD, List.getElem?_set, hb, hc]
      · have : List.getD (bits.set i true) c false = List.getD bits c false := by
          simp [List.getD_eq_getElem?_getD, List.getElem?_set, e]
        rw [this]
        congr 1
        apply decide_eq_decide.2
        omega
    · simp only [F.impl_marks_add_l0, F.impl_marks_add_l0_s, Bool.cond_decide]
      rw [if_pos (by omega), inB_true (i := (i : Int)) (n := 256) (by omega) (by omega), wrap_id (n := (i : Int) + 1) (by omega) (by omega), show ((i : Int) + 1) = ((i + 1 : Nat) : Int) by omega]
      simp only [cond_true, Int.toNat_natCast]
      exact q3 ke

theorem marksAdd {R : Type} (N : Nat) (hN : 1048576 < N) (lo hi : Int) (h0 : 0 ≤ lo) (h1 : lo ≤ hi) (h2 : hi ≤ 255) (bits : List Bool) (hb : bits.length = 256) :
    ∃ bits', bits'.length = 256 ∧ (∀ c, c < 256 → List.getD bits' c false = ((decide (lo ≤ (c : Int)) && decide ((c : Int) ≤ hi)) || List.getD bits c false)) ∧ ∀ k : List Bool → Option R, F.impl_marks_add N lo hi bits k = k bits' := by
  obtain ⟨b2, q1, q2, q3⟩ := add_l0 (R := R) N hi h2 (hi + 1 - lo).toNat N lo.toNat bits (by omega) (by omega) hb
  refine ⟨b2, q1, fun c hc => ?_, fun k => ?_⟩
  · rw [q2 c hc]
    congr 1
    rw [← Bool.decide_and]
    apply decide_eq_decide.2
    omega
  · simp only [F.impl_marks_add]
    have := q3 k
    rw [show ((lo.toNat : Nat) : Int) = lo by omega] at this
    exact this

theorem hasS_snoc (a : List Rng) (r : Rng) (c : Int) : hasS (a ++ [r]) c = ((decide (r.1 ≤ c) && decide (c ≤ r.2)) || hasS a c) := by
  simp only [hasS, List.any_append, List.any_cons, List.any_nil, Bool.or_false]
  exact Bool.or_comm _ _

theorem lift_l3 {R : Type} (N : Nat) (hN : 1048576 < N) (set : List Rng) (hl : set.length ≤ 1048576) (hs : ∀ r ∈ set, 0 ≤ r.1 ∧ r.1 ≤ r.2 ∧ r.2 ≤ 255) (l : List Nod) (len i0 : Int) (S : List Tr) (ke : List Nod → Int → Int → List Tr → List Bool → Option R) :
    ∀ (d n i : Nat) (bits : List Bool), i + d = set.length → d < n → bits.length = 256 → (∀ c, c < 256 → List.getD bits c false = hasS (set.take i) (c : Int)) →
    F.impl_Branch_lift_l3 N n l len i0 set (set.length : Int) (i : Int) S bits ke = ke l len i0 S (bitsOf set) := by
  intro d
  induction d with
  | zero =>
    intro n i bits hd hn hb hg
    obtain ⟨n, rfl⟩ : ∃ m, n = m + 1 := ⟨n - 1, by omega⟩
    simp only [F.impl_Branch_lift_l3, F.impl_Branch_lift_l3_s, Bool.cond_decide]
    rw [if_neg (by omega)]
    rw [List.take_of_length_le (by omega)] at hg
    rw [bits_ext hb hg]
  | succ d ih =>
    intro n i bits hd hn hb hg
    obtain ⟨n, rfl⟩ : ∃ m, n = m + 1 := ⟨n - 1, by omega⟩
    obtain ⟨g0, g1, g2⟩ := hs set[i] (List.getElem_mem (by omega))
    obtain ⟨b2, q1, q2, q3⟩ := marksAdd (R := R) N hN set[i].1 set[i].2 g0 g1 g2 bits hb
    simp only [F.impl_Branch_lift_l3, F.impl_Branch_lift_l3_s, Bool.cond_decide]
    rw [if_pos (by omega), inB_true (i := (i : Int)) (n := set.length) (by omega) (by omega), wrap_id (n := (i : Int) + 1) (by omega) (by omega), show ((i : Int) + 1) = ((i + 1 : Nat) : Int) by omega]
    simp only [cond_true, Int.toNat_natCast, getD_at set _ (show i < set.length by omega)]
    rw [q3]
    exact ih n (i + 1) b2 (by omega) (by omega) q1 fun c hc => by
      rw [q2 c hc, hg c hc, List.take_succ_eq_append_getElem (i := i) (by omega), hasS_snoc]

theorem set_lastT {W : List Tr} {m : Nat} (h : m + 1 = W.length) (y : Tr) : W.set m y = W.take m ++ [y] := by
  have e : W = W.take m ++ [W[m]'(by omega)] := by
    rw [← List.take_succ_eq_append_getElem (i := m) (by omega), List.take_of_length_le (by omega)]
  conv => lhs; rw [e]
  rw [List.set_append_right _ _ (by simp; omega)]
  simp only [List.length_take, Nat.min_eq_left (show m ≤ W.length by omega), Nat.sub_self, List.set_cons_zero]

theorem room16 {a b : Nat} (h : a + b ≤ 2097152) : Nat.ble (a + b) (bigOf 16) = true := by
  rw [Nat.ble_eq]
  simp only [bigOf]
  omega

theorem lift_l0 {R : Type} (N : Nat) (hN : 1048576 < N) (l : List Nod) (hl : SmallN l) (ok : ∀ x ∈ l, nodeOk x = true) (S' : List Tr) (ke : List Tr → Option R) :
    ∀ (d n i : Nat) (S : List Tr), i + d = l.length → d < n → S.length ≤ i → treesF (l.drop i) S = some S' →
    F.impl_Branch_lift_l0 N n l (l.length : Int) (i : Int) S ke = ke S' := by
  have hl1 := hl.1
  intro d
  induction d with
  | zero =>
    intro n i S hd hn hS ht
    obtain ⟨n, rfl⟩ : ∃ m, n = m + 1 := ⟨n - 1, by omega⟩
    rw [List.drop_of_length_le (by omega)] at ht
    cases ht
    simp only [F.impl_Branch_lift_l0, F.impl_Branch_lift_l0_s, Bool.cond_decide]
    rw [if_neg (by omega)]
  | succ d ih =>
    intro n i S hd hn hS ht
    obtain ⟨n, rfl⟩ : ∃ m, n = m + 1 := ⟨n - 1, by omega⟩
    have hx := ok _ (List.getElem_mem (show i < l.length by omega))
    have hset := hl.2 _ (List.getElem_mem (show i < l.length by omega))
    obtain ⟨hk, _, hsf⟩ := nodeOk_kind hx
    have hgx : ∀ z, List.getD l i z = l[i] := fun z => getD_at l _ (by omega)
    rw [List.drop_eq_getElem_cons (show i < l.length by omega)] at ht
    simp only [treesF] at ht
    have bi : decide ((i : Int) < (l.length : Int)) = true := decide_eq_true (by omega)
    have bN : inB (i : Int) l.length = true := inB_true (by omega) (by omega)
    have wi : wrapK .i64 ((i : Int) + 1) = ((i + 1 : Nat) : Int) := by rw [wrap_id (by omega) (by omega)]; omega
    generalize l[i] = x at *
    by_cases har : S.length < arity x.1
    · rw [if_pos har] at ht; cases ht
    rw [if_neg har] at ht
    rcases hk with e | e | e | e | e
    · rw [e] at ht
      simp only [arity, show ¬ ((1 : Int) = 2 ∨ (1 : Int) = 3) by omega, show ¬ ((1 : Int) = 4 ∨ (1 : Int) = 5) by omega, if_false] at ht
      rw [if_neg (by omega), if_neg (by omega)] at ht
      simp only [nodeTr, e, if_true] at ht
      have hr := ih n (i + 1) _ (by omega) (by omega) (by simp only [List.length_append, List.length_take, List.length_cons, List.length_nil]; omega) ht
      simp only [F.impl_Branch_lift_l0, F.impl_Branch_lift_l0_s, Int.toNat_natCast, hgx, bi, bN, e, cond_true, show ((1 : Int) == 1) = true from rfl]
      have h3 := lift_l3 N hN x.2.1 hset (setF_mem (by omega) hsf) l (l.length : Int) (i : Int) S (fun y17 y18 y19 y20 y21 =>
            bif Nat.ble (List.length y20 + List.length [Tr.nd 0 101 y21 0 0 .nil .nil]) (bigOf 16) then
              F.impl_Branch_lift_l0 N n y17 y18 (wrapK .i64 (y19 + 1)) (y20 ++ [Tr.nd 0 101 y21 0 0 .nil .nil]) ke
            else
              none) x.2.1.length N 0 (List.replicate 256 false) (by omega) (by omega) List.length_replicate (fun c hc => by rw [getD_at _ _ (by rw [List.length_replicate]; exact hc), List.getElem_replicate]; rfl)
      refine h3.trans ?_
      rw [room16 (by simp; omega), cond_true, wi]
      exact hr
    · rw [e] at ht har
      have hl2 : 2 ≤ S.length := by simp [arity] at har; omega
      have e2 : wrapK .i64 ((S.length : Int) - 2) = ((S.length - 2 : Nat) : Int) := by rw [wrap_id (by omega) (by omega)]; omega
      have e1 : wrapK .i64 ((S.length : Int) - 1) = ((S.length - 1 : Nat) : Int) := by rw [wrap_id (by omega) (by omega)]; omega
      rw [if_pos (show arity 2 = 2 from rfl)] at ht
      simp only [nodeTr, e, show ¬ ((2 : Int) = 1) by omega, if_false, if_true] at ht
      have hr := ih n (i + 1) _ (by omega) (by omega) (by simp only [List.length_append, List.length_take, List.length_cons, List.length_nil]; omega) ht
      simp only [F.impl_Branch_lift_l0, F.impl_Branch_lift_l0_s, Int.toNat_natCast, hgx, bi, bN, e, cond_true, cond_false, show ((2 : Int) == 1) = false from rfl, show ((2 : Int) == 2) = true from rfl, e1, e2, Nat.sub_zero, List.drop_zero]
      rw [decide_eq_true (show (0 : Int) ≤ ((S.length - 2 : Nat) : Int) by omega), decide_eq_true (show ((S.length - 2 : Nat) : Int) ≤ (S.length : Int) by omega), inB_true (i := ((S.length - 2 : Nat) : Int)) (n := S.length) (by omega) (by omega), inB_true (i := ((S.length - 1 : Nat) : Int)) (n := S.length) (by omega) (by omega), room16 (by simp; omega)]
      simp only [Bool.and_self, cond_true, wi]
      exact hr
    · rw [e] at ht har
      have hl2 : 2 ≤ S.length := by simp [arity] at har; omega
      have e2 : wrapK .i64 ((S.length : Int) - 2) = ((S.length - 2 : Nat) : Int) := by rw [wrap_id (by omega) (by omega)]; omega
      have e1 : wrapK .i64 ((S.length : Int) - 1) = ((S.length - 1 : Nat) : Int) := by rw [wrap_id (by omega) (by omega)]; omega
      rw [if_pos (show arity 3 = 2 from rfl)] at ht
      simp only [nodeTr, e, show ¬ ((3 : Int) = 1) by omega, show ¬ ((3 : Int) = 2) by omega, if_false, if_true] at ht
      have hr := ih n (i + 1) _ (by omega) (by omega) (by simp only [List.length_append, List.length_take, List.length_cons, List.length_nil]; omega) ht
      simp only [F.impl_Branch_lift_l0, F.impl_Branch_lift_l0_s, Int.toNat_natCast, hgx, bi, bN, e, cond_true, cond_false, show ((3 : Int) == 1) = false from rfl, show ((3 : Int) == 2) = false from rfl, show ((3 : Int) == 3) = true from rfl, e1, e2, Nat.sub_zero, List.drop_zero]
      rw [decide_eq_true (show (0 : Int) ≤ ((S.length - 2 : Nat) : Int) by omega), decide_eq_true (show ((S.length - 2 : Nat) : Int) ≤ (S.length : Int) by omega), inB_true (i := ((S.length - 2 : Nat) : Int)) (n := S.length) (by omega) (by omega), inB_true (i := ((S.length - 1 : Nat) : Int)) (n := S.length) (by omega) (by omega), room16 (by simp; omega)]
      simp only [Bool.and_self, cond_true, wi]
      exact hr
    · rw [e] at ht har
      have hl2 : 1 ≤ S.length := by rw [show arity 4 = 1 from rfl] at har; omega
      have e1 : wrapK .i64 ((S.length : Int) - 1) = ((S.length - 1 : Nat) : Int) := by rw [wrap_id (by omega) (by omega)]; omega
      rw [if_neg (show ¬ arity 4 = 2 by decide), if_pos (show arity 4 = 1 from rfl)] at ht
      simp only [nodeTr, e, show ¬ ((4 : Int) = 1) by omega, show ¬ ((4 : Int) = 2) by omega, show ¬ ((4 : Int) = 3) by omega, if_false, if_true] at ht
      have hr := ih n (i + 1) _ (by omega) (by omega) (by simp only [List.length_append, List.length_take, List.length_cons, List.length_nil]; omega) ht
      simp only [F.impl_Branch_lift_l0, F.impl_Branch_lift_l0_s, Int.toNat_natCast, hgx, bi, bN, e, cond_true, cond_false, show ((4 : Int) == 1) = false from rfl, show ((4 : Int) == 2) = false from rfl, show ((4 : Int) == 3) = false from rfl, show ((4 : Int) == 4) = true from rfl, e1]
      rw [inB_true (i := ((S.length - 1 : Nat) : Int)) (n := S.length) (by omega) (by omega), set_lastT (by omega)]
      simp only [cond_true, wi]
      exact hr
    · rw [e] at ht har
      have hl2 : 1 ≤ S.length := by rw [show arity 5 = 1 from rfl] at har; omega
      have e1 : wrapK .i64 ((S.length : Int) - 1) = ((S.length - 1 : Nat) : Int) := by rw [wrap_id (by omega) (by omega)]; omega
      rw [if_neg (show ¬ arity 5 = 2 by decide), if_pos (show arity 5 = 1 from rfl)] at ht
      simp only [nodeTr, e, show ¬ ((5 : Int) = 1) by omega, show ¬ ((5 : Int) = 2) by omega, show ¬ ((5 : Int) = 3) by omega, show ¬ ((5 : Int) = 4) by omega, if_false, if_true] at ht
      have hr := ih n (i + 1) _ (by omega) (by omega) (by simp only [List.length_append, List.length_take, List.length_cons, List.length_nil]; omega) ht
      simp only [F.impl_Branch_lift_l0, F.impl_Branch_lift_l0_s, Int.toNat_natCast, hgx, bi, bN, e, cond_true, cond_false, show ((5 : Int) == 1) = false from rfl, show ((5 : Int) == 2) = false from rfl, show ((5 : Int) == 3) = false from rfl, show ((5 : Int) == 4) = false from rfl, show ((5 : Int) == 5) = true from rfl, e1]
      rw [inB_true (i := ((S.length - 1 : Nat) : Int)) (n := S.length) (by omega) (by omega), set_lastT (by omega)]
      simp only [cond_true, wi]
      exact hr

theorem implLift {R : Type} (N : Nat) (hN : 1048576 < N) (p q : Bool) (l : List Nod) (hl : SmallN l) (ok : ∀ x ∈ l, nodeOk x = true) {t : Tr} (ht : treesF l [] = some [t]) (k : Tr → Option R) : F.impl_Branch_lift N p q l k = k t := by
  have hl1 := hl.1
  simp only [F.impl_Branch_lift]
  have := lift_l0 N hN l hl ok [t] (fun y22 => bif inB 0 (List.length y22) then k (List.getD y22 (Int.toNat 0) Tr.nil) else none) l.length N 0 [] (by omega) (by omega) (by simp) (by simpa using ht)
  exact this
/-! ### branches, and the law -/

def placedF (p q : Bool) (n a e : Int) (closed : Bool) : Bool := (!p || a == 0) && (!q || (closed && e == n))

theorem specPlaced {R : Type} (p q : Bool) (l : List Nod) (text : List UInt8) (a e : Int) (closed : Bool) (k : Bool → Option R) : F.spec_l1Placed p q l text a e closed k = k (placedF p q (text.length : Int) a e closed) := by
  simp only [F.spec_l1Placed, placedF, bne]
  cases p <;> cases q <;> cases closed <;> cases (a == 0) <;> rfl

theorem implStands {R : Type} (p q : Bool) (l : List Nod) (text : List UInt8) (a e : Int) (closed : Bool) (k : Bool → Option R) : F.impl_Branch_stands p q l text a e closed k = k (placedF p q (text.length : Int) a e closed) := by
  simp only [F.impl_Branch_stands, placedF]
  cases p <;> cases q <;> cases closed <;> cases (a == 0) <;> rfl

theorem bool_of_iff {a b : Bool} {P : Prop} (h : a = true ↔ P) (k : b = true ↔ P) : a = b := by
  cases a <;> cases b <;> simp_all

theorem branchBoth {R : Type} (N : Nat) (hN : 2097152 < N) (b : Bra) (hl : SmallN b.2.2) (hok : branchOk b = true) (text : List UInt8) (ht : text.length ≤ 4096) (a e : Nat) (hae : a ≤ e) (het : e ≤ text.length) (closed : Bool) :
    ∃ (w : Bool) (t : Tr), t.isNil = false ∧ (∀ k : Bool → Option R, F.spec_l1Belongs N b.1 b.2.1 b.2.2 text (a : Int) (e : Int) closed k = k (placedF b.1 b.2.1 (text.length : Int) a e closed && w)) ∧
      (∀ k : Tr → Option R, F.impl_Branch_lift N b.1 b.2.1 b.2.2 k = k t) ∧
      ∃ S : List Bool, S.length = e - a + 1 ∧ List.getD S (e - a) false = w ∧ ∀ k : List Bool → Option R, F.impl_walk N N t (List.drop a (List.take e text)) (List.set (List.replicate (e - a + 1) false) 0 true) false k = k S := by
  obtain ⟨p, q, l⟩ := b
  simp only at hl hok ⊢
  simp only [branchOk, Bool.and_eq_true, List.all_eq_true] at hok
  obtain ⟨hbr, ok⟩ := hok
  have hl1 := hl.1
  obtain ⟨L, Q, T, hpos, hT, htr, hkids⟩ := trees_of ok hbr
  have hwf : Wf N (List.getD T (l.length - 1) .nil) := hT.wf N _ (by omega) (by omega)
  -- the specification
  obtain ⟨S1, h1, h2⟩ := specWalk (R := R) N hN text (by omega) hT hl (N + 1) (l.length - 1) (by omega) (by omega) _ _ (only_ok (n := text.length) (a := a) (by omega))
  -- the program
  have hsl : (List.drop a (List.take e text)).length = e - a := by simp; omega
  obtain ⟨S2, h3, h4⟩ := implWalk (R := R) N hN (List.drop a (List.take e text)) (by omega) N _ (Nat.le_refl _) hwf _ _ (only_ok (n := (List.drop a (List.take e text)).length) (a := 0) (by omega))
  rw [hsl] at h4
  have i1 := h1.mem e het
  have i2 := h3.mem (e - a) (by omega)
  have j1 : ends (Lang (List.getD T (l.length - 1) .nil)) text (fun j => j = a) e ↔ Lang (List.getD T (l.length - 1) .nil) (List.drop a (List.take e text)) := by
    rw [show List.drop a (List.take e text) = (text.drop a).take (e - a) from List.drop_take]
    constructor
    · rintro ⟨i, _, rfl, h⟩; exact h
    · intro h; exact ⟨a, hae, rfl, h⟩
  have j2 : ends (Lang (List.getD T (l.length - 1) .nil)) (List.drop a (List.take e text)) (fun j => j = 0) (e - a) ↔ Lang (List.getD T (l.length - 1) .nil) (List.drop a (List.take e text)) := by
    have hs : ((List.drop a (List.take e text)).drop 0).take (e - a - 0) = List.drop a (List.take e text) := by
      rw [List.drop_zero, Nat.sub_zero, List.take_of_length_le (by omega)]
    constructor
    · rintro ⟨i, _, rfl, h⟩; rw [hs] at h; exact h
    · intro h; exact ⟨0, Nat.zero_le _, rfl, by rw [hs]; exact h⟩
  refine ⟨List.getD S2 (e - a) false, _, hwf.notNil, fun k => ?_, fun k => implLift N (by omega) p q l hl ok htr k, S2, by rw [h3.len, hsl], rfl, h4⟩
  have hw : List.getD S1 e false = List.getD S2 (e - a) false := bool_of_iff (i1.trans j1) (i2.trans j2)
  simp only [F.spec_l1Belongs]
  rw [specPlaced]
  cases hpl : placedF p q (text.length : Int) a e closed with
  | false => rfl
  | true =>
    simp only [F.spec_l1Ready, Bool.not_true, cond_false, Bool.true_and]
    rw [specKids N l hl1 (by omega)]
    refine (hkids (fun _ r6 r7 => F.spec_l1Only (List.length text : Int) (a : Int) fun r13 => F.spec_l1Ends N l r6 r7 text (wrapK .i64 ((List.length l : Int) - 1)) r13 fun r14 => bif inB (e : Int) (List.length r14) then k (List.getD r14 (Int.toNat (e : Int)) false) else none)).trans ?_
    rw [specOnly text.length a (by omega) (by omega), wrap_id (by omega) (by omega), show ((l.length : Int) - 1) = ((l.length - 1 : Nat) : Int) by omega, specEnds]
    refine (h2 _).trans ?_
    rw [h1.len, inB_true (i := (e : Int)) (by omega) (by omega), cond_true, Int.toNat_natCast, hw]

theorem spanBoth {R : Type} (N : Nat) (hN : 2097152 < N) (bs : List Bra) (hb : SmallB bs) (hok : ∀ b ∈ bs, branchOk b = true) (text : List UInt8) (ht : text.length ≤ 4096) (a e : Nat) (hae : a ≤ e) (het : e ≤ text.length) (closed : Bool) :
    ∀ (d n i : Nat), i + d = bs.length → d < n → ∃ v : Bool, ∃ t : Tr, t.isNil = !v ∧ (∀ k : Bool → Option R, F.spec_MatchSpan_l0 N n text (a : Int) (e : Int) closed bs (bs.length : Int) (i : Int) (fun _ => k false) (fun y => k y) = k v) ∧
      ∀ k : Tr → Option R, F.impl_branchOf_l0 N n text (a : Int) (e : Int) closed bs (bs.length : Int) (i : Int) (fun _ => k .nil) (fun y => k y) = k t := by
  have hb1 := hb.1
  intro d
  induction d with
  | zero =>
    intro n i hd hn
    obtain ⟨n, rfl⟩ : ∃ m, n = m + 1 := ⟨n - 1, by omega⟩
    refine ⟨false, .nil, rfl, fun k => ?_, fun k => ?_⟩
    · simp only [F.spec_MatchSpan_l0, F.spec_MatchSpan_l0_s]
      rw [decide_eq_false (by omega)]; rfl
    · simp only [F.impl_branchOf_l0, F.impl_branchOf_l0_s]
      rw [decide_eq_false (by omega)]; rfl
  | succ d ih =>
    intro n i hd hn
    obtain ⟨n, rfl⟩ : ∃ m, n = m + 1 := ⟨n - 1, by omega⟩
    obtain ⟨v, t, hv, ih1, ih2⟩ := ih n (i + 1) (by omega) (by omega)
    obtain ⟨w, t', h0, h1, h2, S, h3, h4, h5⟩ := branchBoth (R := R) N hN bs[i] (hb.2 _ (List.getElem_mem (by omega))) (hok _ (List.getElem_mem (by omega))) text ht a e hae het closed
    have bi : decide ((i : Int) < (bs.length : Int)) = true := decide_eq_true (by omega)
    have bN : inB (i : Int) bs.length = true := inB_true (by omega) (by omega)
    have wi : wrapK .i64 ((i : Int) + 1) = ((i + 1 : Nat) : Int) := by rw [wrap_id (by omega) (by omega)]; omega
    have hgx : ∀ z, List.getD bs i z = bs[i] := fun z => getD_at bs _ (by omega)
    have specE : ∀ k : Bool → Option R, F.spec_MatchSpan_l0 N (n + 1) text (a : Int) (e : Int) closed bs (bs.length : Int) (i : Int) (fun _ => k false) (fun y => k y) = bif (placedF bs[i].1 bs[i].2.1 (text.length : Int) a e closed && w) then k true else k v := by
      intro k
      simp only [F.spec_MatchSpan_l0, F.spec_MatchSpan_l0_s, Int.toNat_natCast, hgx, bi, bN, cond_true, wi]
      rw [h1, ih1]
    have implE : ∀ k : Tr → Option R, F.impl_branchOf_l0 N (n + 1) text (a : Int) (e : Int) closed bs (bs.length : Int) (i : Int) (fun _ => k .nil) (fun y => k y) = bif (placedF bs[i].1 bs[i].2.1 (text.length : Int) a e closed && w) then k t' else k t := by
      intro k
      have wa : wrapK .i64 ((e : Int) - (a : Int)) = ((e - a : Nat) : Int) := by rw [wrap_id (by omega) (by omega)]; omega
      simp only [F.impl_branchOf_l0, F.impl_branchOf_l0_s, Int.toNat_natCast, hgx, bi, bN, cond_true, wi, wa]
      rw [implStands]
      cases placedF bs[i].1 bs[i].2.1 (text.length : Int) a e closed with
      | false => rw [cond_false, ih2]; rfl
      | true =>
        rw [cond_true, h2]
        rw [decide_eq_true (show (0 : Int) ≤ (e : Int) by omega), decide_eq_true (show (e : Int) ≤ (text.length : Int) by omega), decide_eq_true (show (0 : Int) ≤ (a : Int) by omega), decide_eq_true (show (a : Int) ≤ (e : Int) by omega)]
        simp only [Bool.and_self, cond_true]
        have hat := implAt (R := R) (e - a) 0 (by omega) (by omega)
        rw [show ((0 : Nat) : Int) = 0 from rfl] at hat
        rw [hat, h5, h3, inB_true (i := ((e - a : Nat) : Int)) (by omega) (by omega), h4, ih2]
        cases w <;> rfl
    cases hc : (placedF bs[i].1 bs[i].2.1 (text.length : Int) a e closed && w) with
    | false =>
      refine ⟨v, t, hv, fun k => ?_, fun k => ?_⟩
      · rw [specE, hc]; rfl
      · rw [implE, hc]; rfl
    | true =>
      refine ⟨true, t', h0, fun k => ?_, fun k => ?_⟩
      · rw [specE, hc]; rfl
      · rw [implE, hc]; rfl

theorem specF_ok {bs : List Bra} {G : Int} (h : specF bs G = true) : ∀ b ∈ bs, branchOk b = true := by
  simp only [specF, Bool.and_eq_true, List.all_eq_true] at h
  exact h.1.1.1.2

theorem spans {R : Type} (N : Nat) (hN : 2097152 < N) (bs : List Bra) (G : Int) (hb : SmallB bs) (text : List UInt8) (a e : Int) (closed : Bool) :
    ∃ v : Bool, (∀ k : Bool → Option R, F.spec_MatchSpan N bs G text a e closed k = k v) ∧ ∀ k : Bool → Option R, F.impl_MatchSpan N bs G text a e closed k = k v := by
  have hb1 := hb.1
  simp only [F.spec_MatchSpan, F.impl_MatchSpan, F.spec_l1SpanOK, F.impl_spanOk]
  simp only [specRuleOK N (by omega) bs G hb, implRuleOK N (by omega) bs G hb, same hb]
  cases hr : specF bs G with
  | false => exact ⟨false, fun k => rfl, fun k => rfl⟩
  | true =>
    simp only [cond_true]
    by_cases c1 : (text.length : Int) ≤ 4096
    case neg => rw [decide_eq_false c1]; exact ⟨false, fun k => rfl, fun k => rfl⟩
    rw [decide_eq_true c1]
    by_cases c2 : 0 ≤ a
    case neg => rw [decide_eq_false c2]; exact ⟨false, fun k => rfl, fun k => rfl⟩
    rw [decide_eq_true c2]
    by_cases c3 : a ≤ e
    case neg => rw [decide_eq_false c3]; exact ⟨false, fun k => rfl, fun k => rfl⟩
    rw [decide_eq_true c3]
    by_cases c4 : e ≤ (text.length : Int)
    case neg => rw [decide_eq_false c4]; exact ⟨false, fun k => rfl, fun k => rfl⟩
    rw [decide_eq_true c4]
    obtain ⟨a, rfl⟩ := Int.eq_ofNat_of_zero_le c2
    obtain ⟨e, rfl⟩ := Int.eq_ofNat_of_zero_le (show 0 ≤ e by omega)
    obtain ⟨v, t, h0, h1, h2⟩ := spanBoth (R := R) N hN bs hb (specF_ok hr) text (by omega) a e (by omega) (by omega) closed bs.length N 0 (by omega) (by omega)
    refine ⟨v, fun k => ?_, fun k => ?_⟩
    · exact h1 k
    · simp only [F.impl_branchOf]
      refine (h2 fun r8 => k (!(Tr.isNil r8))).trans ?_
      rw [h0, Bool.not_not]

theorem main (bs : List Bra) (G : Int) (hf : FitB bs) (text : List UInt8) (a e : Int) (closed : Bool) : ∃ N, F.laws_FnExactMatchSpan N bs G text a e closed (fun b => some b) = some true := by
  obtain ⟨N, hN⟩ : ∃ N, 2097152 < N := ⟨2097153, by omega⟩
  refine ⟨N, ?_⟩
  simp only [F.laws_FnExactMatchSpan]
  cases decide ((text.length : Int) > 1048576) with
  | true => rfl
  | false =>
    rw [cond_false]
    refine szRule N bs G hf (by omega) _ _ ?_ ?_
    · intro z hz
      rw [decide_eq_true hz]; rfl
    · intro z hz hs
      rw [decide_eq_false (show ¬ z < 0 by omega)]
      obtain ⟨v, h1, h2⟩ := spans (R := Bool) N hN bs G hs text a e closed
      simp only [cond_false, toRule N bs G hs (by omega), h1, h2, eqRule N bs G hs (by omega)]
      simp

theorem FnExactMatchSpan : ∀ (a0 : Ki.den (.pair (.lst (.pair .bool (.pair .bool (.lst (.pair (.int .i64) (.pair (.lst (.pair (.int .i64) (.int .i64))) (.pair (.int .i64) (.pair (.int .i64) (.int .i64))))))))) (.int .i64))), ∀ (a1 : Ki.den .str), ∀ (a2 : Ki.den (.int .i64)), ∀ (a3 : Ki.den (.int .i64)), ∀ (a4 : Ki.den .bool), Fit (.pair (.lst (.pair .bool (.pair .bool (.lst (.pair (.int .i64) (.pair (.lst (.pair (.int .i64) (.int .i64))) (.pair (.int .i64) (.pair (.int .i64) (.int .i64))))))))) (.int .i64)) a0 → Fit .str a1 → Fit (.int .i64) a2 → Fit (.int .i64) a3 → Fit .bool a4 → ∃ N, F.laws_FnExactMatchSpan N a0.1 a0.2 a1 a2 a3 a4 (fun b => some b) = some true :=
  fun a0 a1 a2 a3 a4 h _ _ _ _ => main a0.1 a0.2 ⟨h.1.1, fun x hx => ⟨(h.1.2 x hx).2.2.1, fun y hy => ((h.1.2 x hx).2.2.2 y hy).2.1.1⟩⟩ a1 a2 a3 a4

end Go.Proofs.Ytjoigbnaikepaaa.fnExactMatchSpan.Pure
