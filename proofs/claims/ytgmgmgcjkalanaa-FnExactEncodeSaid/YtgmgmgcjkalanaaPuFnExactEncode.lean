/- The plain law of FnExactEncode: both sides answer alike for every table. -/
import Derived.Test.YtgmgmgcjkalanaaFdFnExactEncode
namespace Go.Proofs.Ytgmgmgcjkalanaa.fnExactEncode.Pure
open Go.Ev Go.Proofs.Ytgmgmgcjkalanaa.fnExactEncode

set_option linter.unusedVariables false
set_option linter.unusedSimpArgs false
/-! ### whole numbers -/

theorem wrap_id {n : Int} (h0 : -9223372036854775808 ≤ n) (h1 : n ≤ 9223372036854775807) : wrapK .i64 n = n := by
  simp only [wrapK, IntKind.wrap, IntKind.signed, IntKind.bits, Bool.true_and]
  split <;> rename_i h <;> simp only [ge_iff_le, decide_eq_true_eq] at h <;> omega

theorem inB_true {i : Int} {n : Nat} (h0 : 0 ≤ i) (h1 : i < n) : inB i n = true := by
  simp only [inB, Bool.and_eq_true, decide_eq_true_eq]; exact ⟨h0, h1⟩

theorem i64_of {n : Int} (h : (Lit.int .i64 n).wf = true) : -9223372036854775808 ≤ n ∧ n ≤ 9223372036854775807 := by
  simp only [Lit.wf, IntKind.min, IntKind.max, IntKind.signed, IntKind.bits, Bool.and_eq_true, decide_eq_true_eq] at h
  constructor
  · exact h.1
  · exact h.2

theorem maxLen_eq : maxLen = 9223372036854775807 := rfl

/-- All of a list's numbers are in range. -/
def I64s (l : List Int) : Prop := ∀ x ∈ l, -9223372036854775808 ≤ x ∧ x ≤ 9223372036854775807

theorem i64s_of {l : List Int} (h : ∀ x, List.Mem (α := Int) x l → Fit (.int .i64) x) : I64s l := fun x hx => i64_of (h x hx)

theorem getD_get (l : List Int) {i : Nat} (h : i < l.length) : List.getD l i (0 : Int) = l[i] := by simp [List.getD_eq_getElem?_getD, h]
/-! ### copies, sizes, comparisons of rows of numbers -/

theorem szIntS {R : Type} (l : List Int) (n : Int) (h0 : 0 ≤ n) (h1 : n ≤ 1048576) (hl : l.length ≤ maxLen) (k : Int → Option R) : F.laws_szIntS l n k = if n < l.length then k (-1) else k (n - l.length) := by
  rw [maxLen_eq] at hl
  simp only [F.laws_szIntS]
  rw [wrap_id (by omega) (by omega), Bool.cond_decide]
  by_cases h : n < l.length
  · rw [if_pos (by omega), if_pos h]
  · rw [if_neg (by omega), if_neg h]

theorem toIntS_l0 {R : Type} (N : Nat) (l : List Int) (hl : l.length ≤ 1048576) (k : List Int → Option R) : ∀ (d n i : Nat), i + d = l.length → d < n → F.laws_toIntS_l0 N n l (i : Int) (l.take i ++ List.replicate d 0) k = k l := by
  intro d
  induction d with
  | zero =>
    intro n i hi hn
    obtain ⟨n, rfl⟩ : ∃ m, n = m + 1 := ⟨n - 1, by omega⟩
    simp only [F.laws_toIntS_l0, F.laws_toIntS_l0_s, Bool.cond_decide]
    rw [if_neg (by omega)]
    simp [show i = l.length by omega]
  | succ d ih =>
    intro n i hi hn
    obtain ⟨n, rfl⟩ : ∃ m, n = m + 1 := ⟨n - 1, by omega⟩
    simp only [F.laws_toIntS_l0, F.laws_toIntS_l0_s, Bool.cond_decide]
    rw [if_pos (by omega), inB_true (by omega) (by omega), inB_true (by omega) (by simp; omega), wrap_id (by omega) (by omega)]
    simp only [cond_true, Int.toNat_natCast]
    have := ih n (i + 1) (by omega) (by omega)
    rw [show ((i + 1 : Nat) : Int) = (i : Int) + 1 by omega] at this
    rw [← this]
    congr 1
    rw [getD_get l (by omega), List.set_append_right _ _ (by simp; omega), List.take_succ_eq_append_getElem (i := i) (by omega)]
    simp only [List.length_take, Nat.min_eq_left (show i ≤ l.length by omega), Nat.sub_self, List.replicate_succ, List.set_cons_zero, List.append_assoc, List.singleton_append]

theorem toIntS {R : Type} (N : Nat) (l : List Int) (hl : l.length ≤ 1048576) (hN : 1048576 < N) (k : List Int → Option R) : F.laws_toIntS N l k = k l := by
  simp only [F.laws_toIntS, Bool.cond_decide]
  rw [if_pos (by omega)]
  have hb : Nat.ble (Int.toNat (l.length : Int)) (bigOf 8) = true := by
    rw [Nat.ble_eq]
    simp only [bigOf, Int.toNat_natCast]
    omega
  rw [hb]
  simp only [cond_true, Int.toNat_natCast]
  exact toIntS_l0 N l hl k l.length N 0 (by omega) (by omega)

theorem eqIntS_l0 {R : Type} (N : Nat) (l : List Int) (hl : l.length ≤ 1048576) (k : Unit → Option R) (k' : Bool → Option R) : ∀ (d n i : Nat), i + d = l.length → d < n → F.laws_eqIntS_l0 N n l l (i : Int) k k' = k () := by
  intro d
  induction d with
  | zero =>
    intro n i hi hn
    obtain ⟨n, rfl⟩ : ∃ m, n = m + 1 := ⟨n - 1, by omega⟩
    simp only [F.laws_eqIntS_l0, F.laws_eqIntS_l0_s, Bool.cond_decide]
    rw [if_neg (by omega)]
  | succ d ih =>
    intro n i hi hn
    obtain ⟨n, rfl⟩ : ∃ m, n = m + 1 := ⟨n - 1, by omega⟩
    simp only [F.laws_eqIntS_l0, F.laws_eqIntS_l0_s, Bool.cond_decide]
    rw [if_pos (by omega), inB_true (by omega) (by omega), wrap_id (by omega) (by omega)]
    simp only [cond_true, bne_self_eq_false, cond_false]
    have := ih n (i + 1) (by omega) (by omega)
    rw [show ((i + 1 : Nat) : Int) = (i : Int) + 1 by omega] at this
    exact this

theorem eqIntS {R : Type} (N : Nat) (l : List Int) (hl : l.length ≤ 1048576) (hN : 1048576 < N) (k : Bool → Option R) : F.laws_eqIntS N l l k = k true := by
  simp only [F.laws_eqIntS, bne_self_eq_false, cond_false]
  exact eqIntS_l0 N l hl _ _ l.length N 0 (by omega) (by omega)
/-! ### all between -/

/-- All numbers lie between. -/
def allIn (l : List Int) (lo hi : Int) : Bool := l.all fun x => decide (lo ≤ x ∧ x ≤ hi)

theorem allIn_drop (l : List Int) (lo hi : Int) {i : Nat} (h : i < l.length) : allIn (l.drop i) lo hi = (decide (lo ≤ l[i] ∧ l[i] ≤ hi) && allIn (l.drop (i + 1)) lo hi) := by
  simp only [allIn]
  rw [List.drop_eq_getElem_cons h, List.all_cons]

theorem l2All_l0 {R : Type} (N : Nat) (l : List Int) (lo hi : Int) (hl : l.length ≤ 1048576) (k : Bool → Option R) : ∀ (d n i : Nat), i + d = l.length → d < n → F.spec_l2All_l0 N n lo hi l (l.length : Int) (i : Int) (fun _ => k true) (fun b => k b) = k (allIn (l.drop i) lo hi) := by
  intro d
  induction d with
  | zero =>
    intro n i hi' hn
    obtain ⟨n, rfl⟩ : ∃ m, n = m + 1 := ⟨n - 1, by omega⟩
    simp only [F.spec_l2All_l0, F.spec_l2All_l0_s, Bool.cond_decide]
    rw [if_neg (by omega), List.drop_of_length_le (by omega)]
    rfl
  | succ d ih =>
    intro n i hi' hn
    obtain ⟨n, rfl⟩ : ∃ m, n = m + 1 := ⟨n - 1, by omega⟩
    simp only [F.spec_l2All_l0, F.spec_l2All_l0_s, F.spec_l1Between, Bool.cond_decide]
    rw [if_pos (by omega), inB_true (by omega) (by omega), wrap_id (by omega) (by omega), allIn_drop l lo hi (by omega)]
    simp only [cond_true, Int.toNat_natCast]
    simp only [getD_get l (show i < l.length by omega)]
    have := ih n (i + 1) (by omega) (by omega)
    rw [show ((i + 1 : Nat) : Int) = (i : Int) + 1 by omega] at this
    rw [this]
    by_cases h1 : lo ≤ l[i]
    · rw [if_pos h1]
      by_cases h2 : l[i] ≤ hi
      · simp [h1, h2]
      · simp [h2]
    · rw [if_neg h1]
      simp [h1]

theorem l2All {R : Type} (N : Nat) (l : List Int) (lo hi : Int) (hl : l.length ≤ 1048576) (hN : 1048576 < N) (k : Bool → Option R) : F.spec_l2All N l lo hi k = k (allIn l lo hi) := by
  simp only [F.spec_l2All]
  exact l2All_l0 N l lo hi hl k l.length N 0 (by omega) (by omega)

theorem index_l0 {R : Type} (N : Nat) (l : List Int) (lo hi : Int) (hl : l.length ≤ 1048576) (k : Bool → Option R) : ∀ (d n i : Nat), i + d = l.length → d < n →
    F.slices_IndexFunc_l0 N n l (l.length : Int) (i : Int) lo hi (fun _ _ => k (!decide ((-1 : Int) ≥ 0))) (fun j _ _ => k (!decide (j ≥ 0))) = k (allIn (l.drop i) lo hi) := by
  intro d
  induction d with
  | zero =>
    intro n i hi' hn
    obtain ⟨n, rfl⟩ : ∃ m, n = m + 1 := ⟨n - 1, by omega⟩
    simp only [F.slices_IndexFunc_l0, F.slices_IndexFunc_l0_s, Bool.cond_decide]
    rw [if_neg (by omega), List.drop_of_length_le (by omega)]
    rfl
  | succ d ih =>
    intro n i hi' hn
    obtain ⟨n, rfl⟩ : ∃ m, n = m + 1 := ⟨n - 1, by omega⟩
    simp only [F.slices_IndexFunc_l0, F.slices_IndexFunc_l0_s, F.impl_DfaOK_1_1, Bool.cond_decide]
    rw [if_pos (by omega), inB_true (by omega) (by omega), wrap_id (by omega) (by omega), allIn_drop l lo hi (by omega)]
    simp only [cond_true, Int.toNat_natCast]
    simp only [getD_get l (show i < l.length by omega)]
    have := ih n (i + 1) (by omega) (by omega)
    rw [show ((i + 1 : Nat) : Int) = (i : Int) + 1 by omega] at this
    rw [this]
    by_cases h1 : l[i] < lo
    · rw [if_pos h1]
      simp [show ¬ (lo ≤ l[i]) by omega]
    · rw [if_neg h1]
      by_cases h2 : l[i] > hi
      · rw [if_pos h2]
        simp [show ¬ (l[i] ≤ hi) by omega]
      · rw [if_neg h2]
        simp [show lo ≤ l[i] by omega, show l[i] ≤ hi by omega]

theorem implIn {R : Type} (N : Nat) (l : List Int) (lo hi : Int) (hl : l.length ≤ 1048576) (hN : 1048576 < N) (k : Bool → Option R) : F.impl_DfaOK_1 N l lo hi k = k (allIn l lo hi) := by
  simp only [F.impl_DfaOK_1, F.slices_ContainsFunc, F.slices_IndexFunc]
  exact index_l0 N l lo hi hl k l.length N 0 (by omega) (by omega)

/-- An automaton in order. -/
def okDfa (c : List Int) (w : Int) (n t e : List Int) : Bool :=
  decide (c.length = 256 ∧ 1 ≤ w ∧ w ≤ 256 ∧ 1 ≤ t.length ∧ t.length ≤ 4000 ∧ e.length = t.length ∧ (n.length : Int) = t.length * w) &&
    (allIn c 0 (w - 1) && (allIn n 0 (t.length - 1) && (allIn t (-1) 99 && allIn e (-1) 99)))

theorem mul_ok {t : Nat} {w : Int} (h1 : t ≤ 4000) (h2 : 1 ≤ w) (h3 : w ≤ 256) : wrapK .i64 ((t : Int) * w) = t * w := by
  have a : 0 ≤ (t : Int) * w := Int.mul_nonneg (by omega) (by omega)
  have b : (t : Int) * w ≤ 4000 * 256 := Int.mul_le_mul (by omega) h3 (by omega) (by omega)
  exact wrap_id (by omega) (by omega)

theorem implDfaOK {R : Type} (N : Nat) (c : List Int) (w : Int) (n t e : List Int) (hc : c.length ≤ 1048576) (hn : n.length ≤ 1048576) (ht : t.length ≤ 1048576) (he : e.length ≤ 1048576) (hN : 1048576 < N) (k : Bool → Option R) :
    F.impl_DfaOK N c w n t e k = k (okDfa c w n t e) := by
  by_cases hg : c.length = 256 ∧ 1 ≤ w ∧ w ≤ 256 ∧ 1 ≤ t.length ∧ t.length ≤ 4000 ∧ e.length = t.length ∧ (n.length : Int) = t.length * w
  · obtain ⟨g1, g2, g3, g4, g5, g6, g7⟩ := hg
    simp only [F.impl_DfaOK, Bool.cond_decide]
    rw [mul_ok g5 g2 g3, wrap_id (n := w - 1) (by omega) (by omega), wrap_id (n := (t.length : Int) - 1) (by omega) (by omega)]
    simp only [show ((c.length : Int) != 256) = false by simp; omega, cond_false, if_neg (show ¬ (w < 1) by omega), if_neg (show ¬ (w > 256) by omega), if_neg (show ¬ ((t.length : Int) < 1) by omega), if_neg (show ¬ ((t.length : Int) > 4000) by omega),
      show ((e.length : Int) != t.length) = false by simp; omega, show ((n.length : Int) != t.length * w) = false by simp; omega]
    rw [implIn N c _ _ hc hN, implIn N n _ _ hn hN, implIn N t _ _ ht hN, implIn N e _ _ he hN]
    simp only [okDfa, g1, g2, g3, g4, g5, g6, g7, true_and, and_self, decide_true, Bool.true_and]
    cases allIn c 0 (w - 1) <;> cases allIn n 0 (t.length - 1) <;> cases allIn t (-1) 99 <;> simp
  · have e0 : okDfa c w n t e = false := by simp only [okDfa, decide_eq_false hg, Bool.false_and]
    rw [e0]
    simp only [F.impl_DfaOK, Bool.cond_decide]
    by_cases g1 : c.length = 256
    case neg => simp only [show ((c.length : Int) != 256) = true by simp; omega, cond_true]
    simp only [show ((c.length : Int) != 256) = false by simp; omega, cond_false]
    by_cases g2 : 1 ≤ w
    case neg => rw [if_pos (by omega)]
    by_cases g3 : w ≤ 256
    case neg => rw [if_neg (by omega), if_pos (by omega)]
    rw [if_neg (by omega), if_neg (by omega)]
    by_cases g4 : 1 ≤ t.length
    case neg => rw [if_pos (by omega)]
    by_cases g5 : t.length ≤ 4000
    case neg => rw [if_neg (by omega), if_pos (by omega)]
    rw [if_neg (by omega), if_neg (by omega)]
    by_cases g6 : e.length = t.length
    case neg => simp only [show ((e.length : Int) != t.length) = true by simp; omega, cond_true]
    simp only [show ((e.length : Int) != t.length) = false by simp; omega, cond_false]
    rw [mul_ok g5 g2 g3]
    have g7 : ¬ ((n.length : Int) = t.length * w) := fun h => hg ⟨g1, g2, g3, g4, g5, g6, h⟩
    simp only [show ((n.length : Int) != t.length * w) = true by simpa using g7, cond_true]
/-! ### tables: sizes, copies, comparisons -/

theorem szTable {R : Type} (c : List Int) (w : Int) (b d t e n q : List Int) (hc : c.length ≤ maxLen) (hb : b.length ≤ maxLen) (hd : d.length ≤ maxLen) (ht : t.length ≤ maxLen) (he : e.length ≤ maxLen) (hn : n.length ≤ maxLen) (hq : q.length ≤ maxLen) (k : Int → Option R) (r : Option R)
    (h1 : ∀ z, z < 0 → k z = r) (h2 : ∀ z, 0 ≤ z → c.length ≤ 1048576 → b.length ≤ 1048576 → d.length ≤ 1048576 → t.length ≤ 1048576 → e.length ≤ 1048576 → n.length ≤ 1048576 → q.length ≤ 1048576 → k z = r) : F.laws_szTable c w b d t e n q 1048576 k = r := by
  have step : ∀ (l : List Int) (m : Int) (k' : Int → Option R), 0 ≤ m → m ≤ 1048576 → l.length ≤ maxLen → (∀ z, 0 ≤ z → z ≤ 1048576 → l.length ≤ 1048576 → k' z = r) → F.laws_szIntS l m (fun z => bif decide (z < 0) then k (-1) else k' z) = r := by
    intro l m k' h0 h1' hl b
    rw [szIntS l m h0 h1' hl]
    split
    · simp [h1]
    · rw [Bool.cond_decide, if_neg (by omega)]
      exact b _ (by omega) (by omega) (by omega)
  simp only [F.laws_szTable]
  refine step c _ _ (by omega) (by omega) hc fun z hz hz' a1 => ?_
  refine step b _ _ hz hz' hb fun z hz hz' a2 => ?_
  refine step d _ _ hz hz' hd fun z hz hz' a3 => ?_
  refine step t _ _ hz hz' ht fun z hz hz' a4 => ?_
  refine step e _ _ hz hz' he fun z hz hz' a5 => ?_
  refine step n _ _ hz hz' hn fun z hz hz' a6 => ?_
  refine step q _ _ hz hz' hq fun z hz hz' a7 => ?_
  exact h2 z hz a1 a2 a3 a4 a5 a6 a7

theorem toTable {R : Type} (N : Nat) (c : List Int) (w : Int) (b d t e n q : List Int) (hc : c.length ≤ 1048576) (hb : b.length ≤ 1048576) (hd : d.length ≤ 1048576) (ht : t.length ≤ 1048576) (he : e.length ≤ 1048576) (hn : n.length ≤ 1048576) (hq : q.length ≤ 1048576) (hN : 1048576 < N)
    (k : Int → List Int → List Int → List Int → List Int → List Int → List Int → List Int → Option R) : F.laws_toTable N c w b d t e n q k = k w c b d t e n q := by
  simp only [F.laws_toTable]
  rw [toIntS N c hc hN, toIntS N b hb hN, toIntS N d hd hN, toIntS N t ht hN, toIntS N e he hN, toIntS N n hn hN, toIntS N q hq hN]

theorem eqTable {R : Type} (N : Nat) (c : List Int) (w : Int) (b d t e n q : List Int) (hc : c.length ≤ 1048576) (hb : b.length ≤ 1048576) (hd : d.length ≤ 1048576) (ht : t.length ≤ 1048576) (he : e.length ≤ 1048576) (hn : n.length ≤ 1048576) (hq : q.length ≤ 1048576) (hN : 1048576 < N)
    (k : Bool → Option R) : F.laws_eqTable N c w b d t e n q c w b d t e n q k = k true := by
  simp only [F.laws_eqTable, bne_self_eq_false, cond_false]
  rw [eqIntS N c hc hN]
  simp only [Bool.not_true, cond_false]
  rw [eqIntS N b hb hN]
  simp only [Bool.not_true, cond_false]
  rw [eqIntS N d hd hN]
  simp only [Bool.not_true, cond_false]
  rw [eqIntS N t ht hN]
  simp only [Bool.not_true, cond_false]
  rw [eqIntS N e he hN]
  simp only [Bool.not_true, cond_false]
  rw [eqIntS N n hn hN]
  simp only [Bool.not_true, cond_false]
  rw [eqIntS N q hq hN]
  simp only [Bool.not_true, cond_false]
/-! ### both sides' TableOK -/

/-- P holds at d places from i on. -/
def allF (P : Nat → Bool) : Nat → Nat → Bool
  | 0, _ => true
  | d + 1, i => P i && allF P d (i + 1)

theorem allF_iff (P : Nat → Bool) : ∀ d i, allF P d i = true ↔ ∀ j, i ≤ j → j < i + d → P j = true
  | 0, i => by simp [allF]; omega
  | d + 1, i => by
    simp only [allF, Bool.and_eq_true, allF_iff P d (i + 1)]
    constructor
    · rintro ⟨h1, h2⟩ j h3 h4
      rcases Nat.eq_or_lt_of_le h3 with rfl | h
      · exact h1
      · exact h2 j (by omega) (by omega)
    · intro h
      exact ⟨h i (by omega) (by omega), fun j h1 h2 => h j (by omega) (by omega)⟩

theorem allIn_iff (l : List Int) (lo hi : Int) : allIn l lo hi = true ↔ ∀ j, j < l.length → lo ≤ List.getD l j 0 ∧ List.getD l j 0 ≤ hi := by
  simp only [allIn, List.all_eq_true, decide_eq_true_eq]
  constructor
  · intro h j hj
    rw [getD_get l hj]
    exact h _ (List.getElem_mem hj)
  · intro h x hx
    obtain ⟨j, hj, rfl⟩ := List.getElem_of_mem hx
    have := h j hj
    rwa [getD_get l hj] at this

theorem spec_own {R : Type} (N : Nat) (x12 : Int) (q : List Int) (c : List Int) (w : Int) (b d t e n q' : List Int) (hq : q.length ≤ 1048576) (hn : n.length = q.length) (k : Int → List Int → Int → List Int → List Int → List Int → List Int → List Int → List Int → Option R) (k' : Bool → Int → List Int → Int → List Int → List Int → List Int → List Int → List Int → List Int → Option R) :
    ∀ (m z i : Nat), i + m = q.length → m < z → F.spec_TableOK_l0 N z x12 q (q.length : Int) (i : Int) c w b d t e n q' k k' = bif allF (fun j => decide (List.getD q j 0 = -1 → List.getD n j 0 = 0)) m i then k x12 c w b d t e n q' else k' false x12 c w b d t e n q' := by
  intro m
  induction m with
  | zero =>
    intro z i hi hz
    obtain ⟨z, rfl⟩ : ∃ y, z = y + 1 := ⟨z - 1, by omega⟩
    simp only [F.spec_TableOK_l0, F.spec_TableOK_l0_s, Bool.cond_decide]
    rw [if_neg (by omega)]
    simp [allF]
  | succ m ih =>
    intro z i hi hz
    obtain ⟨z, rfl⟩ : ∃ y, z = y + 1 := ⟨z - 1, by omega⟩
    simp only [F.spec_TableOK_l0, F.spec_TableOK_l0_s, Bool.cond_decide]
    rw [if_pos (by omega), inB_true (by omega) (by omega), inB_true (n := n.length) (by omega) (by omega), wrap_id (by omega) (by omega)]
    have := ih z (i + 1) (by omega) (by omega)
    rw [show ((i + 1 : Nat) : Int) = (i : Int) + 1 by omega] at this
    rw [this]
    simp only [cond_true, Int.toNat_natCast, allF]
    by_cases h1 : List.getD q i 0 = -1
    · rw [show (List.getD q i 0 == -1) = true by simpa using h1]
      by_cases h2 : List.getD n i 0 = 0
      · rw [show (List.getD n i 0 != 0) = false by simpa using h2, decide_eq_true (show List.getD q i 0 = -1 → List.getD n i 0 = 0 from fun _ => h2)]
        simp only [cond_true, cond_false, Bool.true_and]
      · rw [show (List.getD n i 0 != 0) = true by simpa using h2]
        simp only [cond_true]
        rw [decide_eq_false (fun h => h2 (h h1))]
        rfl
    · rw [show (List.getD q i 0 == -1) = false by simpa using h1, decide_eq_true (show List.getD q i 0 = -1 → List.getD n i 0 = 0 from fun h => (h1 h).elim)]
      simp only [cond_false, Bool.true_and]

/-- A table in order. -/
def okTable (c : List Int) (w : Int) (b d t e n q : List Int) : Prop :=
  c.length = 256 ∧ 1 ≤ w ∧ w ≤ 256 ∧ allIn c 0 (w - 1) = true ∧ 1 ≤ b.length ∧ b.length ≤ 4000 ∧ d.length = b.length ∧ t.length = b.length ∧ e.length = b.length ∧ n.length = q.length ∧ n.length ≤ 60000 ∧
    allF (fun j => decide (List.getD q j 0 = -1 → List.getD n j 0 = 0)) q.length 0 = true ∧ allIn b 0 59999 = true ∧ allIn d 0 (b.length - 1) = true ∧ allIn t (-1) 99 = true ∧ allIn e (-1) 99 = true ∧ allIn q (-1) (b.length - 1) = true ∧ allIn n 0 (b.length - 1) = true

instance (c : List Int) (w : Int) (b d t e n q : List Int) : Decidable (okTable c w b d t e n q) := by unfold okTable; infer_instance

theorem dec_neg {R : Type} {p : Prop} [Decidable p] (h : ¬ p) (k : Bool → Option R) : k false = k (decide p) := by rw [decide_eq_false h]

theorem specTableOK {R : Type} (N : Nat) (c : List Int) (w : Int) (b d t e n q : List Int) (hc : c.length ≤ 1048576) (hb : b.length ≤ 1048576) (hd : d.length ≤ 1048576) (ht : t.length ≤ 1048576) (he : e.length ≤ 1048576) (hn : n.length ≤ 1048576) (hq : q.length ≤ 1048576) (hN : 1048576 < N) (k : Bool → Option R) :
    F.spec_TableOK N c w b d t e n q k = k (decide (okTable c w b d t e n q)) := by
  simp only [F.spec_TableOK, F.spec_l1Between]
  by_cases g1 : c.length = 256
  case neg => simp only [show ((c.length : Int) != 256) = true by simp; omega, cond_true]; exact dec_neg (fun h => g1 h.1) k
  simp only [show ((c.length : Int) != 256) = false by simp; omega, cond_false]
  by_cases g2 : 1 ≤ w
  case neg => simp only [decide_eq_false g2, cond_false, Bool.not_false, cond_true]; exact dec_neg (fun h => g2 h.2.1) k
  by_cases g3 : w ≤ 256
  case neg => simp only [decide_eq_true g2, cond_true, decide_eq_false g3, Bool.not_false]; exact dec_neg (fun h => g3 h.2.2.1) k
  simp only [decide_eq_true g2, cond_true, decide_eq_true g3, Bool.not_true, cond_false]
  rw [wrap_id (n := w - 1) (by omega) (by omega), l2All N c _ _ hc hN]
  cases g4 : allIn c 0 (w - 1)
  · exact dec_neg (fun h => by have := h.2.2.2.1; rw [g4] at this; cases this) k
  simp only [Bool.not_true, cond_false]
  by_cases g5 : 1 ≤ b.length
  case neg => simp only [decide_eq_false (show ¬ ((1 : Int) ≤ b.length) by omega), cond_false, Bool.not_false, cond_true]; exact dec_neg (fun h => g5 h.2.2.2.2.1) k
  by_cases g6 : b.length ≤ 4000
  case neg => simp only [decide_eq_true (show (1 : Int) ≤ b.length by omega), cond_true, decide_eq_false (show ¬ ((b.length : Int) ≤ 4000) by omega), Bool.not_false]; exact dec_neg (fun h => g6 h.2.2.2.2.2.1) k
  simp only [decide_eq_true (show (1 : Int) ≤ b.length by omega), cond_true, decide_eq_true (show (b.length : Int) ≤ 4000 by omega), Bool.not_true, cond_false]
  by_cases g7 : d.length = b.length
  case neg => simp only [show ((d.length : Int) != b.length) = true by simp; omega, cond_true]; exact dec_neg (fun h => g7 h.2.2.2.2.2.2.1) k
  simp only [show ((d.length : Int) != b.length) = false by simp; omega, cond_false]
  by_cases g8 : t.length = b.length
  case neg => simp only [show ((t.length : Int) != b.length) = true by simp; omega, cond_true]; exact dec_neg (fun h => g8 h.2.2.2.2.2.2.2.1) k
  simp only [show ((t.length : Int) != b.length) = false by simp; omega, cond_false]
  by_cases g9 : e.length = b.length
  case neg => simp only [show ((e.length : Int) != b.length) = true by simp; omega, cond_true]; exact dec_neg (fun h => g9 h.2.2.2.2.2.2.2.2.1) k
  simp only [show ((e.length : Int) != b.length) = false by simp; omega, cond_false]
  by_cases g10 : n.length = q.length
  case neg => simp only [show ((n.length : Int) != q.length) = true by simp; omega, cond_true]; exact dec_neg (fun h => g10 h.2.2.2.2.2.2.2.2.2.1) k
  simp only [show ((n.length : Int) != q.length) = false by simp; omega, cond_false]
  by_cases g11 : n.length ≤ 60000
  case neg => simp only [decide_eq_true (show (n.length : Int) > 60000 by omega), cond_true]; exact dec_neg (fun h => g11 h.2.2.2.2.2.2.2.2.2.2.1) k
  simp only [decide_eq_false (show ¬ ((n.length : Int) > 60000) by omega), cond_false]
  have := spec_own N (b.length : Int) q c w b d t e n q hq g10 (fun y24 y25 y26 y27 y28 y29 y30 y31 y32 =>
                        F.spec_l2All N y27 0 59999 fun r33 =>
                        bif r33 then
                          F.spec_l2All N y28 0 (wrapK .i64 (y24 - 1)) fun r34 =>
                          bif r34 then
                            F.spec_l2All N y29 (-1) 99 fun r35 =>
                            bif r35 then
                              F.spec_l2All N y30 (-1) 99 fun r36 =>
                              bif r36 then
                                F.spec_l2All N y32 (-1) (wrapK .i64 (y24 - 1)) fun r37 =>
                                bif r37 then
                                  F.spec_l2All N y31 0 (wrapK .i64 (y24 - 1)) fun r38 =>
                                  k r38
                                else
                                  k false
                              else
                                k false
                            else
                              k false
                          else
                            k false
                        else
                          k false) (fun y39 y40 y41 y42 y43 y44 y45 y46 y47 y48 => k y39) q.length N 0 (by omega) (by omega)
  rw [show ((0 : Nat) : Int) = 0 from rfl] at this
  rw [this]
  cases g12 : allF (fun j => decide (List.getD q j 0 = -1 → List.getD n j 0 = 0)) q.length 0
  · exact dec_neg (fun h => by have := h.2.2.2.2.2.2.2.2.2.2.2.1; rw [g12] at this; cases this) k
  simp only [cond_true]
  rw [wrap_id (n := (b.length : Int) - 1) (by omega) (by omega)]
  rw [l2All N b _ _ hb hN, l2All N d _ _ hd hN, l2All N t _ _ ht hN, l2All N e _ _ he hN, l2All N q _ _ hq hN, l2All N n _ _ hn hN]
  cases g13 : allIn b 0 59999
  · exact dec_neg (fun h => by have := h.2.2.2.2.2.2.2.2.2.2.2.2.1; rw [g13] at this; cases this) k
  cases g14 : allIn d 0 (b.length - 1)
  · exact dec_neg (fun h => by have := h.2.2.2.2.2.2.2.2.2.2.2.2.2.1; rw [g14] at this; cases this) k
  cases g15 : allIn t (-1) 99
  · exact dec_neg (fun h => by have := h.2.2.2.2.2.2.2.2.2.2.2.2.2.2.1; rw [g15] at this; cases this) k
  cases g16 : allIn e (-1) 99
  · exact dec_neg (fun h => by have := h.2.2.2.2.2.2.2.2.2.2.2.2.2.2.2.1; rw [g16] at this; cases this) k
  cases g17 : allIn q (-1) (b.length - 1)
  · exact dec_neg (fun h => by have := h.2.2.2.2.2.2.2.2.2.2.2.2.2.2.2.2.1; rw [g17] at this; cases this) k
  cases g18 : allIn n 0 (b.length - 1)
  · exact dec_neg (fun h => by have := h.2.2.2.2.2.2.2.2.2.2.2.2.2.2.2.2.2; rw [g18] at this; cases this) k
  simp only [cond_true]
  rw [decide_eq_true (show okTable c w b d t e n q from ⟨g1, g2, g3, g4, g5, g6, g7, g8, g9, g10, g11, g12, g13, g14, g15, g16, g17, g18⟩)]

theorem impl_l0 {R : Type} (N : Nat) (c : List Int) (w : Int) (b d t e n q : List Int) (hb : b.length ≤ 1048576) (hd : d.length = b.length) (k : Int → List Int → Int → List Int → List Int → List Int → List Int → List Int → List Int → Option R) (k' : Bool → Int → List Int → Int → List Int → List Int → List Int → List Int → List Int → List Int → Option R) :
    ∀ (m z i : Nat), i + m = b.length → m < z → F.impl_TableOK_l0 N z (b.length : Int) (b.length : Int) (i : Int) c w b d t e n q k k' = bif allF (fun j => decide (0 ≤ List.getD b j 0 ∧ List.getD b j 0 < 60000 ∧ 0 ≤ List.getD d j 0 ∧ List.getD d j 0 < b.length)) m i then k (b.length : Int) c w b d t e n q else k' false (b.length : Int) c w b d t e n q := by
  intro m
  induction m with
  | zero =>
    intro z i hi hz
    obtain ⟨z, rfl⟩ : ∃ y, z = y + 1 := ⟨z - 1, by omega⟩
    simp only [F.impl_TableOK_l0, F.impl_TableOK_l0_s, Bool.cond_decide]
    rw [if_neg (by omega)]
    simp [allF]
  | succ m ih =>
    intro z i hi hz
    obtain ⟨z, rfl⟩ : ∃ y, z = y + 1 := ⟨z - 1, by omega⟩
    simp only [F.impl_TableOK_l0, F.impl_TableOK_l0_s, Bool.cond_decide]
    rw [if_pos (by omega), inB_true (n := b.length) (by omega) (by omega), inB_true (n := d.length) (by omega) (by omega), wrap_id (by omega) (by omega)]
    have := ih z (i + 1) (by omega) (by omega)
    rw [show ((i + 1 : Nat) : Int) = (i : Int) + 1 by omega] at this
    rw [this]
    simp only [cond_true, Int.toNat_natCast, allF]
    by_cases h1 : List.getD b i 0 < 0
    · rw [if_pos h1, decide_eq_false (fun h => by omega)]
      rfl
    rw [if_neg h1]
    by_cases h2 : List.getD b i 0 ≥ 60000
    · rw [if_pos h2, decide_eq_false (fun h => by omega)]
      rfl
    rw [if_neg h2]
    by_cases h3 : List.getD d i 0 < 0
    · rw [if_pos h3, decide_eq_false (fun h => by omega)]
      rfl
    rw [if_neg h3]
    by_cases h4 : List.getD d i 0 ≥ b.length
    · rw [if_pos h4, decide_eq_false (fun h => by omega)]
      rfl
    rw [if_neg h4]
    rw [decide_eq_true (show 0 ≤ List.getD b i 0 ∧ List.getD b i 0 < 60000 ∧ 0 ≤ List.getD d i 0 ∧ List.getD d i 0 < b.length by omega), Bool.true_and]

theorem impl_l2 {R : Type} (N : Nat) (x : Int) (c : List Int) (w : Int) (b d t e n q : List Int) (hq : q.length ≤ 1048576) (hn : n.length = q.length) (k : Unit → Option R) (k' : Bool → Option R) :
    ∀ (m z i : Nat), i + m = q.length → m < z → F.impl_TableOK_l2 N z x q (q.length : Int) (i : Int) c w b d t e n q k k' = bif allF (fun j => decide (-1 ≤ List.getD q j 0 ∧ List.getD q j 0 < x ∧ 0 ≤ List.getD n j 0 ∧ List.getD n j 0 < x ∧ (List.getD q j 0 = -1 → List.getD n j 0 = 0))) m i then k () else k' false := by
  intro m
  induction m with
  | zero =>
    intro z i hi hz
    obtain ⟨z, rfl⟩ : ∃ y, z = y + 1 := ⟨z - 1, by omega⟩
    simp only [F.impl_TableOK_l2, F.impl_TableOK_l2_s, Bool.cond_decide]
    rw [if_neg (by omega)]
    simp [allF]
  | succ m ih =>
    intro z i hi hz
    obtain ⟨z, rfl⟩ : ∃ y, z = y + 1 := ⟨z - 1, by omega⟩
    simp only [F.impl_TableOK_l2, F.impl_TableOK_l2_s, Bool.cond_decide]
    rw [if_pos (by omega), inB_true (n := q.length) (by omega) (by omega), inB_true (n := n.length) (by omega) (by omega), wrap_id (by omega) (by omega)]
    have := ih z (i + 1) (by omega) (by omega)
    rw [show ((i + 1 : Nat) : Int) = (i : Int) + 1 by omega] at this
    rw [this]
    simp only [cond_true, Int.toNat_natCast, allF]
    by_cases h1 : List.getD q i 0 < -1
    · rw [if_pos h1, decide_eq_false (fun h => by omega)]
      rfl
    rw [if_neg h1]
    by_cases h2 : List.getD q i 0 ≥ x
    · rw [if_pos h2, decide_eq_false (fun h => by omega)]
      rfl
    rw [if_neg h2]
    by_cases h3 : List.getD n i 0 < 0
    · rw [if_pos h3, decide_eq_false (fun h => by omega)]
      rfl
    rw [if_neg h3]
    by_cases h4 : List.getD n i 0 ≥ x
    · rw [if_pos h4, decide_eq_false (fun h => by omega)]
      rfl
    rw [if_neg h4]
    by_cases h5 : List.getD q i 0 = -1
    · rw [show (List.getD q i 0 == -1) = true by simpa using h5]
      by_cases h6 : List.getD n i 0 = 0
      · rw [show (List.getD n i 0 != 0) = false by simpa using h6]
        simp only [cond_true, cond_false]
        rw [decide_eq_true (show -1 ≤ List.getD q i 0 ∧ List.getD q i 0 < x ∧ 0 ≤ List.getD n i 0 ∧ List.getD n i 0 < x ∧ (List.getD q i 0 = -1 → List.getD n i 0 = 0) from ⟨by omega, by omega, by omega, by omega, fun _ => h6⟩), Bool.true_and]
      · rw [show (List.getD n i 0 != 0) = true by simpa using h6]
        simp only [cond_true]
        rw [decide_eq_false (fun h => h6 (h.2.2.2.2 h5))]
        rfl
    · rw [show (List.getD q i 0 == -1) = false by simpa using h5]
      simp only [cond_false]
      rw [decide_eq_true (show -1 ≤ List.getD q i 0 ∧ List.getD q i 0 < x ∧ 0 ≤ List.getD n i 0 ∧ List.getD n i 0 < x ∧ (List.getD q i 0 = -1 → List.getD n i 0 = 0) from ⟨by omega, by omega, by omega, by omega, fun h => (h5 h).elim⟩), Bool.true_and]

theorem implTableOK {R : Type} (N : Nat) (c : List Int) (w : Int) (b d t e n q : List Int) (hc : c.length ≤ 1048576) (hb : b.length ≤ 1048576) (hd : d.length ≤ 1048576) (ht : t.length ≤ 1048576) (he : e.length ≤ 1048576) (hn : n.length ≤ 1048576) (hq : q.length ≤ 1048576) (hN : 1048576 < N) (k : Bool → Option R) :
    F.impl_TableOK N c w b d t e n q k = k (decide (okTable c w b d t e n q)) := by
  simp only [F.impl_TableOK]
  by_cases g7 : d.length = b.length
  case neg => simp only [show ((d.length : Int) != b.length) = true by simp; omega, cond_true]; exact dec_neg (fun h => g7 h.2.2.2.2.2.2.1) k
  simp only [show ((d.length : Int) != b.length) = false by simp; omega, cond_false]
  by_cases g10 : n.length = q.length
  case neg => simp only [show ((q.length : Int) != n.length) = true by simp; omega, cond_true]; exact dec_neg (fun h => g10 h.2.2.2.2.2.2.2.2.2.1) k
  simp only [show ((q.length : Int) != n.length) = false by simp; omega, cond_false]
  by_cases g11 : n.length ≤ 60000
  case neg => simp only [decide_eq_true (show (n.length : Int) > 60000 by omega), cond_true]; exact dec_neg (fun h => g11 h.2.2.2.2.2.2.2.2.2.2.1) k
  simp only [decide_eq_false (show ¬ ((n.length : Int) > 60000) by omega), cond_false]
  by_cases g5 : 1 ≤ b.length
  case neg => simp only [decide_eq_true (show (b.length : Int) < 1 by omega), cond_true]; exact dec_neg (fun h => g5 h.2.2.2.2.1) k
  simp only [decide_eq_false (show ¬ ((b.length : Int) < 1) by omega), cond_false]
  by_cases g6 : b.length ≤ 4000
  case neg => simp only [decide_eq_true (show (b.length : Int) > 4000 by omega), cond_true]; exact dec_neg (fun h => g6 h.2.2.2.2.2.1) k
  simp only [decide_eq_false (show ¬ ((b.length : Int) > 4000) by omega), cond_false]
  by_cases g2 : 1 ≤ w
  case neg => simp only [decide_eq_true (show w < 1 by omega), cond_true]; exact dec_neg (fun h => g2 h.2.1) k
  simp only [decide_eq_false (show ¬ (w < 1) by omega), cond_false]
  by_cases g3 : w ≤ 256
  case neg => simp only [decide_eq_true (show w > 256 by omega), cond_true]; exact dec_neg (fun h => g3 h.2.2.1) k
  simp only [decide_eq_false (show ¬ (w > 256) by omega), cond_false]
  by_cases g8 : t.length = b.length
  case neg => simp only [show ((t.length : Int) != b.length) = true by simp; omega, cond_true]; exact dec_neg (fun h => g8 h.2.2.2.2.2.2.2.1) k
  simp only [show ((t.length : Int) != b.length) = false by simp; omega, cond_false]
  rw [mul_ok g6 g2 g3]
  have a1 : 0 ≤ (b.length : Int) * w := Int.mul_nonneg (by omega) (by omega)
  have a2 : (b.length : Int) * w ≤ 4000 * 256 := Int.mul_le_mul (by omega) g3 (by omega) (by omega)
  have hbl : Nat.ble (Int.toNat ((b.length : Int) * w)) (bigOf 8) = true := by
    rw [Nat.ble_eq]
    simp only [bigOf]
    omega
  simp only [decide_eq_true a1, cond_true, hbl]
  rw [implDfaOK N c w _ t e hc (by simp; omega) ht he hN]
  have hz : allIn (List.replicate (Int.toNat ((b.length : Int) * w)) 0) 0 (t.length - 1) = true := by
    simp only [allIn, List.all_eq_true, decide_eq_true_eq]
    intro x hx
    rw [(List.mem_replicate.1 hx).2]
    omega
  have hlz : ((List.replicate (Int.toNat ((b.length : Int) * w)) (0 : Int)).length : Int) = t.length * w := by
    rw [List.length_replicate, g8]; omega
  have hok : okDfa c w (List.replicate (Int.toNat ((b.length : Int) * w)) 0) t e = decide (c.length = 256 ∧ e.length = b.length ∧ allIn c 0 (w - 1) = true ∧ allIn t (-1) 99 = true ∧ allIn e (-1) 99 = true) := by
    simp only [okDfa, hz, hlz, Bool.true_and]
    rw [Bool.eq_iff_iff]
    simp only [Bool.and_eq_true, decide_eq_true_eq, g8]
    constructor
    · rintro ⟨⟨h1, _, _, _, _, h2, _⟩, h3, h4, h5⟩; exact ⟨h1, h2, h3, h4, h5⟩
    · rintro ⟨h1, h2, h3, h4, h5⟩; exact ⟨⟨h1, g2, g3, g5, g6, h2, trivial⟩, h3, h4, h5⟩
  rw [hok]
  by_cases gd : c.length = 256 ∧ e.length = b.length ∧ allIn c 0 (w - 1) = true ∧ allIn t (-1) 99 = true ∧ allIn e (-1) 99 = true
  case neg =>
    rw [decide_eq_false gd]
    simp only [Bool.not_false, cond_true]
    exact dec_neg (fun h => gd ⟨h.1, h.2.2.2.2.2.2.2.2.1, h.2.2.2.1, h.2.2.2.2.2.2.2.2.2.2.2.2.2.2.1, h.2.2.2.2.2.2.2.2.2.2.2.2.2.2.2.1⟩) k
  rw [decide_eq_true gd]
  simp only [Bool.not_true, cond_false]
  obtain ⟨g1, g9, g4, g15, g16⟩ := gd
  have e0 := impl_l0 N c w b d t e n q hb g7 (fun y21 y22 y23 y24 y25 y26 y27 y28 y29 => F.impl_TableOK_l2 N N y21 y29 (List.length y29 : Int) 0 y22 y23 y24 y25 y26 y27 y28 y29 (fun _ => k true) (fun y42 => k y42)) (fun y43 y44 y45 y46 y47 y48 y49 y50 y51 y52 => k y43) b.length N 0 (by omega) (by omega)
  rw [show ((0 : Nat) : Int) = 0 from rfl] at e0
  rw [e0]
  generalize hf0 : allF _ b.length 0 = f0
  cases f0
  case false =>
    have h : ¬ (allF (fun j => decide (0 ≤ List.getD b j 0 ∧ List.getD b j 0 < 60000 ∧ 0 ≤ List.getD d j 0 ∧ List.getD d j 0 < b.length)) b.length 0 = true) := by rw [hf0]; simp
    refine dec_neg (fun h' => h ?_) k
    have h1 := h'.2.2.2.2.2.2.2.2.2.2.2.2.1
    have h2 := h'.2.2.2.2.2.2.2.2.2.2.2.2.2.1
    rw [allIn_iff] at h1 h2
    rw [allF_iff]
    intro j _ hj
    have a := h1 j (by omega)
    have b := h2 j (by omega)
    rw [decide_eq_true_eq]
    omega
  have h0 := hf0
  simp only [cond_true]
  have e2 := impl_l2 N (b.length : Int) c w b d t e n q hq g10 (fun _ => k true) (fun y42 => k y42) q.length N 0 (by omega) (by omega)
  rw [show ((0 : Nat) : Int) = 0 from rfl] at e2
  rw [e2]
  generalize hf2 : allF _ q.length 0 = f2
  cases f2
  case false =>
    have h : ¬ (allF (fun j => decide (-1 ≤ List.getD q j 0 ∧ List.getD q j 0 < (b.length : Int) ∧ 0 ≤ List.getD n j 0 ∧ List.getD n j 0 < (b.length : Int) ∧ (List.getD q j 0 = -1 → List.getD n j 0 = 0))) q.length 0 = true) := by rw [hf2]; simp
    refine dec_neg (fun h' => h ?_) k
    have h1 := h'.2.2.2.2.2.2.2.2.2.2.2.1
    have h2 := h'.2.2.2.2.2.2.2.2.2.2.2.2.2.2.2.2.1
    have h3 := h'.2.2.2.2.2.2.2.2.2.2.2.2.2.2.2.2.2
    rw [allIn_iff] at h2 h3
    rw [allF_iff] at h1 ⊢
    intro j _ hj
    have a := h1 j (by omega) (by omega)
    have b' := h2 j (by omega)
    have c' := h3 j (by omega)
    rw [decide_eq_true_eq] at a ⊢
    exact ⟨by omega, by omega, by omega, by omega, a⟩
  have h2 := hf2
  simp only [cond_true]
  rw [allF_iff] at h0 h2
  have q0 := fun j (hj : j < b.length) => by have := h0 j (by omega) (by omega); rwa [decide_eq_true_eq] at this
  have q2 := fun j (hj : j < q.length) => by have := h2 j (by omega) (by omega); rwa [decide_eq_true_eq] at this
  rw [decide_eq_true (show okTable c w b d t e n q from ⟨g1, g2, g3, g4, g5, g6, g7, g8, g9, g10, g11, ?_, ?_, ?_, g15, g16, ?_, ?_⟩)]
  · rw [allF_iff]
    intro j _ hj
    rw [decide_eq_true_eq]
    exact (q2 j (by omega)).2.2.2.2
  · rw [allIn_iff]
    intro j hj
    have := q0 j hj
    omega
  · rw [allIn_iff]
    intro j hj
    have := q0 j (by omega)
    omega
  · rw [allIn_iff]
    intro j hj
    have := q2 j hj
    omega
  · rw [allIn_iff]
    intro j hj
    have := q2 j (by omega)
    omega
/-! ### the bytes of a table -/

theorem wrap_u8 (n : Int) : wrapK .u8 n = n % 256 := by
  simp only [wrapK, IntKind.wrap, IntKind.signed, IntKind.bits, Bool.false_and, cond_false, Bool.false_eq_true, if_false]
  rfl

/-- Two bytes, the high one first. -/
def b2 (v : Int) : List Int := [v / 256 % 256, v % 256]

theorem room {a b : Nat} (h : a + b ≤ 1048576) : Nat.ble (a + b) (bigOf 1) = true := by
  rw [Nat.ble_eq]
  simp only [bigOf]
  omega

theorem fdiv_256 (v : Int) : Int.fdiv v 256 = v / 256 := Int.fdiv_eq_ediv_of_nonneg _ (by omega)

theorem two_l0 {R : Type} (N : Nat) (vs : List Int) (hv : vs.length ≤ 1048576) (k : List Int → Option R) : ∀ (d n i : Nat) (out : List Int), i + d = vs.length → d < n → out.length + 2 * d ≤ 1048576 → F.impl_cursor_two_l0 N n vs (vs.length : Int) (i : Int) out k = k (out ++ (vs.drop i).flatMap b2) := by
  intro d
  induction d with
  | zero =>
    intro n i out hi hn ho
    obtain ⟨n, rfl⟩ : ∃ m, n = m + 1 := ⟨n - 1, by omega⟩
    simp only [F.impl_cursor_two_l0, F.impl_cursor_two_l0_s, Bool.cond_decide]
    rw [if_neg (by omega), List.drop_of_length_le (by omega)]
    simp
  | succ d ih =>
    intro n i out hi hn ho
    obtain ⟨n, rfl⟩ : ∃ m, n = m + 1 := ⟨n - 1, by omega⟩
    simp only [F.impl_cursor_two_l0, F.impl_cursor_two_l0_s]
    rw [decide_eq_true (show (i : Int) < (vs.length : Int) by omega), inB_true (by omega) (by omega), wrap_id (n := (i : Int) + 1) (by omega) (by omega)]
    simp only [cond_true, Int.toNat_natCast]
    rw [room (by simp only [List.length_cons, List.length_nil]; omega), show decide (0 ≤ 8) = true from rfl]
    simp only [cond_true]
    have := ih n (i + 1) (out ++ [wrapK .u8 (Int.fdiv (List.getD vs i (0 : Int)) (2 ^ min (Int.toNat 8) 64)), wrapK .u8 (List.getD vs i (0 : Int))]) (by omega) (by omega) (by simp only [List.length_append, List.length_cons, List.length_nil]; omega)
    rw [show ((i + 1 : Nat) : Int) = (i : Int) + 1 by omega] at this
    rw [this, List.drop_eq_getElem_cons (show i < vs.length by omega), List.flatMap_cons, List.append_assoc, getD_get vs (show i < vs.length by omega), wrap_u8, wrap_u8]
    rw [show ((2 : Int) ^ min (Int.toNat 8) 64) = 256 from rfl, fdiv_256]
    rfl

theorem implTwo {R : Type} (N : Nat) (vs out : List Int) (hv : vs.length ≤ 1048576) (ho : out.length + 2 * vs.length ≤ 1048576) (hN : 1048576 < N) (k : List Int → Option R) : F.impl_cursor_two N vs out k = k (out ++ vs.flatMap b2) := by
  simp only [F.impl_cursor_two]
  exact two_l0 N vs hv k vs.length N 0 out (by omega) (by omega) ho

theorem specTwo {R : Type} (v : Int) (out : List Int) (h0 : -1 ≤ v) (h1 : v ≤ 65535) (ho : out.length + 2 ≤ 1048576) (k : List Int → Option R) : F.spec_l3Two v out k = k (out ++ b2 v) := by
  simp only [F.spec_l3Two, Bool.cond_decide]
  have e : (!(256 == 0)) = true := rfl
  simp only [e, cond_true]
  by_cases h : v < 0
  · rw [if_pos h, room (by simp only [List.length_cons, List.length_nil]; omega)]
    obtain rfl : v = -1 := by omega
    rfl
  · rw [if_neg h, room (by simp only [List.length_cons, List.length_nil]; omega)]
    rw [Int.tdiv_eq_ediv_of_nonneg (by omega), Int.tmod_eq_emod_of_nonneg (by omega), wrap_id (n := v / 256) (by omega) (by omega), wrap_u8, wrap_u8, Int.emod_emod_of_dvd v (by omega)]
    rfl

/-- The sum of bytes. -/
def tot : List Int → Int
  | [] => 0
  | x :: l => x + tot l

def Bytes (l : List Int) : Prop := ∀ x ∈ l, 0 ≤ x ∧ x ≤ 255

theorem tot_bound {l : List Int} (h : Bytes l) : 0 ≤ tot l ∧ tot l ≤ 255 * l.length := by
  induction l with
  | nil => simp [tot]
  | cons x l ih =>
    have h1 := h x (by simp)
    have h2 := ih (fun y hy => h y (by simp [hy]))
    simp only [tot, List.length_cons]
    omega

theorem Bytes.drop {l : List Int} (h : Bytes l) (i : Nat) : Bytes (l.drop i) := fun x hx => h x (List.mem_of_mem_drop hx)

theorem specSum_l0 {R : Type} (N : Nat) (l : List Int) (hl : l.length ≤ 1048576) (hb : Bytes l) (k : Int → Option R) : ∀ (d n i : Nat) (s : Int), i + d = l.length → d < n → 0 ≤ s → s < 65536 → F.spec_l3Sum_l0 N n l s (i : Int) k = k ((s + tot (l.drop i)) % 65536) := by
  intro d
  induction d with
  | zero =>
    intro n i s hi hn h0 h1
    obtain ⟨n, rfl⟩ : ∃ m, n = m + 1 := ⟨n - 1, by omega⟩
    simp only [F.spec_l3Sum_l0, F.spec_l3Sum_l0_s, Bool.cond_decide]
    rw [if_neg (by omega), List.drop_of_length_le (by omega)]
    simp only [tot]
    rw [show (s + 0) % 65536 = s by omega]
  | succ d ih =>
    intro n i s hi hn h0 h1
    obtain ⟨n, rfl⟩ : ∃ m, n = m + 1 := ⟨n - 1, by omega⟩
    simp only [F.spec_l3Sum_l0, F.spec_l3Sum_l0_s]
    have hx := hb l[i] (List.getElem_mem (by omega))
    rw [decide_eq_true (show (i : Int) < (l.length : Int) by omega), inB_true (by omega) (by omega), wrap_id (n := (i : Int) + 1) (by omega) (by omega), show (!(65536 == 0)) = true from rfl]
    simp only [cond_true, Int.toNat_natCast]
    rw [getD_get l (show i < l.length by omega), wrap_id (n := l[i]) (by omega) (by omega), wrap_id (n := s + l[i]) (by omega) (by omega), Int.tmod_eq_emod_of_nonneg (by omega)]
    have := ih n (i + 1) ((s + l[i]) % 65536) (by omega) (by omega) (by omega) (by omega)
    rw [show ((i + 1 : Nat) : Int) = (i : Int) + 1 by omega] at this
    rw [this, List.drop_eq_getElem_cons (show i < l.length by omega)]
    simp only [tot]
    congr 1
    omega

theorem specSum {R : Type} (N : Nat) (l : List Int) (hl : l.length ≤ 1048576) (hb : Bytes l) (hN : 1048576 < N) (k : Int → Option R) : F.spec_l3Sum N l k = k (tot l % 65536) := by
  simp only [F.spec_l3Sum]
  have := specSum_l0 N l hl hb k l.length N 0 0 (by omega) (by omega) (by omega) (by omega)
  rw [show ((0 : Nat) : Int) = 0 from rfl] at this
  rw [this, Int.zero_add]
  rfl

theorem implSum_l0 {R : Type} (N : Nat) (l : List Int) (hl : l.length ≤ 1048576) (hb : Bytes l) (k : Int → Option R) : ∀ (d n i : Nat) (s : Int), i + d = l.length → d < n → 0 ≤ s → s ≤ 255 * i → F.impl_sum_l0 N n s l (l.length : Int) (i : Int) k = k (s + tot (l.drop i)) := by
  intro d
  induction d with
  | zero =>
    intro n i s hi hn h0 h1
    obtain ⟨n, rfl⟩ : ∃ m, n = m + 1 := ⟨n - 1, by omega⟩
    simp only [F.impl_sum_l0, F.impl_sum_l0_s, Bool.cond_decide]
    rw [if_neg (by omega), List.drop_of_length_le (by omega)]
    simp only [tot, Int.add_zero]
  | succ d ih =>
    intro n i s hi hn h0 h1
    obtain ⟨n, rfl⟩ : ∃ m, n = m + 1 := ⟨n - 1, by omega⟩
    simp only [F.impl_sum_l0, F.impl_sum_l0_s]
    have hx := hb l[i] (List.getElem_mem (by omega))
    rw [decide_eq_true (show (i : Int) < (l.length : Int) by omega), inB_true (by omega) (by omega), wrap_id (n := (i : Int) + 1) (by omega) (by omega)]
    simp only [cond_true, Int.toNat_natCast]
    rw [getD_get l (show i < l.length by omega), wrap_id (n := l[i]) (by omega) (by omega), wrap_id (n := s + l[i]) (by omega) (by omega)]
    have := ih n (i + 1) (s + l[i]) (by omega) (by omega) (by omega) (by omega)
    rw [show ((i + 1 : Nat) : Int) = (i : Int) + 1 by omega] at this
    rw [this, List.drop_eq_getElem_cons (show i < l.length by omega)]
    simp only [tot, Int.add_assoc]

theorem implSum {R : Type} (N : Nat) (l : List Int) (hl : l.length ≤ 1048576) (hb : Bytes l) (hN : 1048576 < N) (k : Int → Option R) : F.impl_sum N l k = k (tot l % 65536) := by
  simp only [F.impl_sum]
  have := implSum_l0 N l hl hb (fun y6 => bif !(65536 == 0) then k (Int.tmod y6 65536) else none) l.length N 0 0 (by omega) (by omega) (by omega) (by omega)
  rw [show ((0 : Nat) : Int) = 0 from rfl] at this
  rw [this, show (!(65536 == 0)) = true from rfl, Int.zero_add]
  simp only [cond_true, List.drop_zero]
  rw [Int.tmod_eq_emod_of_nonneg (tot_bound hb).1]

/-- For d places from i on. -/
def rows (f : Nat → List Int) : Nat → Nat → List Int
  | 0, _ => []
  | d + 1, i => f i ++ rows f d (i + 1)

theorem rows_length {f : Nat → List Int} {m : Nat} (h : ∀ i, (f i).length = m) : ∀ d i, (rows f d i).length = m * d
  | 0, _ => by simp [rows]
  | d + 1, i => by simp only [rows, List.length_append, h, rows_length h d, Nat.mul_succ]; omega

theorem rows_bytes {f : Nat → List Int} (h : ∀ i, Bytes (f i)) : ∀ d i, Bytes (rows f d i)
  | 0, _ => by simp [rows, Bytes]
  | d + 1, i => by
    intro x hx
    simp only [rows, List.mem_append] at hx
    rcases hx with hx | hx
    · exact h i x hx
    · exact rows_bytes h d (i + 1) x hx

theorem b2_bytes (v : Int) : Bytes (b2 v) := by
  intro x hx
  simp only [b2, List.mem_cons, List.not_mem_nil, or_false] at hx
  omega

theorem Bytes.append {a b : List Int} (h : Bytes a) (k : Bytes b) : Bytes (a ++ b) := by
  intro x hx
  rcases List.mem_append.1 hx with hx | hx
  · exact h x hx
  · exact k x hx

/-! ### the loops of both sides -/

def classB (c : List Int) (i : Nat) : List Int := [List.getD c i 0 % 256]
def stateB (b d t e : List Int) (i : Nat) : List Int := b2 (List.getD b i 0) ++ b2 (List.getD d i 0) ++ b2 (List.getD t i 0) ++ b2 (List.getD e i 0)
def slotB (n q : List Int) (i : Nat) : List Int := b2 (List.getD n i 0) ++ b2 (List.getD q i 0)

theorem spec_cls {R : Type} (N : Nat) (c : List Int) (hc : c.length ≤ 1048576) (x15 : List Int) (x16 : Int) (x17 x18 x19 x20 x21 x22 : List Int) (k : List Int → Int → List Int → List Int → List Int → List Int → List Int → List Int → List Int → Option R) :
    ∀ (m z i : Nat) (out : List Int), i + m = c.length → m < z → out.length + m ≤ 1048576 → F.spec_l3Raw_l0 N z c (c.length : Int) (i : Int) x15 x16 x17 x18 x19 x20 x21 x22 out k = k x15 x16 x17 x18 x19 x20 x21 x22 (out ++ rows (classB c) m i) := by
  intro m
  induction m with
  | zero =>
    intro z i out hi hz ho
    obtain ⟨z, rfl⟩ : ∃ y, z = y + 1 := ⟨z - 1, by omega⟩
    simp only [F.spec_l3Raw_l0, F.spec_l3Raw_l0_s, Bool.cond_decide]
    rw [if_neg (by omega)]
    simp [rows]
  | succ m ih =>
    intro z i out hi hz ho
    obtain ⟨z, rfl⟩ : ∃ y, z = y + 1 := ⟨z - 1, by omega⟩
    simp only [F.spec_l3Raw_l0, F.spec_l3Raw_l0_s]
    rw [decide_eq_true (show (i : Int) < (c.length : Int) by omega), inB_true (by omega) (by omega), wrap_id (n := (i : Int) + 1) (by omega) (by omega), room (by simp only [List.length_cons, List.length_nil]; omega)]
    simp only [cond_true, Int.toNat_natCast]
    have := ih z (i + 1) (out ++ [wrapK .u8 (List.getD c i (0 : Int))]) (by omega) (by omega) (by simp only [List.length_append, List.length_cons, List.length_nil]; omega)
    rw [show ((i + 1 : Nat) : Int) = (i : Int) + 1 by omega] at this
    rw [this, wrap_u8, List.append_assoc]
    rfl

theorem impl_cls {R : Type} (N : Nat) (c : List Int) (hc : c.length ≤ 1048576) (x15 : List Int) (x16 : Int) (x17 x18 x19 x20 x21 x22 : List Int) (k : List Int → Int → List Int → List Int → List Int → List Int → List Int → List Int → List Int → Option R) :
    ∀ (m z i : Nat) (out : List Int), i + m = c.length → m < z → out.length + m ≤ 1048576 → F.impl_Encode_l0 N z c (c.length : Int) (i : Int) x15 x16 x17 x18 x19 x20 x21 x22 out k = k x15 x16 x17 x18 x19 x20 x21 x22 (out ++ rows (classB c) m i) := by
  intro m
  induction m with
  | zero =>
    intro z i out hi hz ho
    obtain ⟨z, rfl⟩ : ∃ y, z = y + 1 := ⟨z - 1, by omega⟩
    simp only [F.impl_Encode_l0, F.impl_Encode_l0_s, Bool.cond_decide]
    rw [if_neg (by omega)]
    simp [rows]
  | succ m ih =>
    intro z i out hi hz ho
    obtain ⟨z, rfl⟩ : ∃ y, z = y + 1 := ⟨z - 1, by omega⟩
    simp only [F.impl_Encode_l0, F.impl_Encode_l0_s]
    rw [decide_eq_true (show (i : Int) < (c.length : Int) by omega), inB_true (by omega) (by omega), wrap_id (n := (i : Int) + 1) (by omega) (by omega), room (by simp only [List.length_cons, List.length_nil]; omega)]
    simp only [cond_true, Int.toNat_natCast]
    have := ih z (i + 1) (out ++ [wrapK .u8 (List.getD c i (0 : Int))]) (by omega) (by omega) (by simp only [List.length_append, List.length_cons, List.length_nil]; omega)
    rw [show ((i + 1 : Nat) : Int) = (i : Int) + 1 by omega] at this
    rw [this, wrap_u8, List.append_assoc]
    rfl

/-- Numbers that fit in two bytes, or -1. -/
def Small (l : List Int) : Prop := ∀ i, i < l.length → -1 ≤ List.getD l i 0 ∧ List.getD l i 0 ≤ 65535

theorem spec_states {R : Type} (N : Nat) (c : List Int) (w : Int) (b d t e n q : List Int) (hb : b.length ≤ 1048576) (hd : d.length = b.length) (ht : t.length = b.length) (he : e.length = b.length) (sb : Small b) (sd : Small d) (st : Small t) (se : Small e) (k : List Int → Int → List Int → List Int → List Int → List Int → List Int → List Int → List Int → Option R) :
    ∀ (m z i : Nat) (out : List Int), i + m = b.length → m < z → out.length + 8 * m ≤ 1048576 → F.spec_l3Raw_l2 N z (b.length : Int) (i : Int) c w b d t e n q out k = k c w b d t e n q (out ++ rows (stateB b d t e) m i) := by
  intro m
  induction m with
  | zero =>
    intro z i out hi hz ho
    obtain ⟨z, rfl⟩ : ∃ y, z = y + 1 := ⟨z - 1, by omega⟩
    simp only [F.spec_l3Raw_l2, F.spec_l3Raw_l2_s, Bool.cond_decide]
    rw [if_neg (by omega)]
    simp [rows]
  | succ m ih =>
    intro z i out hi hz ho
    obtain ⟨z, rfl⟩ : ∃ y, z = y + 1 := ⟨z - 1, by omega⟩
    simp only [F.spec_l3Raw_l2, F.spec_l3Raw_l2_s]
    rw [decide_eq_true (show (i : Int) < (b.length : Int) by omega), inB_true (n := b.length) (by omega) (by omega), inB_true (n := d.length) (by omega) (by omega), inB_true (n := t.length) (by omega) (by omega), inB_true (n := e.length) (by omega) (by omega), wrap_id (n := (i : Int) + 1) (by omega) (by omega)]
    simp only [cond_true, Int.toNat_natCast]
    have l2 : ∀ v, (b2 v).length = 2 := fun _ => rfl
    rw [specTwo _ _ (sb i (by omega)).1 (sb i (by omega)).2 (by omega), specTwo _ _ (sd i (by omega)).1 (sd i (by omega)).2 (by simp only [List.length_append, l2]; omega), specTwo _ _ (st i (by omega)).1 (st i (by omega)).2 (by simp only [List.length_append, l2]; omega), specTwo _ _ (se i (by omega)).1 (se i (by omega)).2 (by simp only [List.length_append, l2]; omega)]
    have := ih z (i + 1) (out ++ b2 (List.getD b i 0) ++ b2 (List.getD d i 0) ++ b2 (List.getD t i 0) ++ b2 (List.getD e i 0)) (by omega) (by omega) (by simp only [List.length_append, l2]; omega)
    rw [show ((i + 1 : Nat) : Int) = (i : Int) + 1 by omega] at this
    rw [this]
    simp only [rows, stateB, List.append_assoc]

theorem impl_states {R : Type} (N : Nat) (hN : 1048576 < N) (c : List Int) (w : Int) (b d t e n q : List Int) (hb : b.length ≤ 1048576) (hd : d.length = b.length) (ht : t.length = b.length) (he : e.length = b.length) (k : List Int → Int → List Int → List Int → List Int → List Int → List Int → List Int → List Int → Option R) :
    ∀ (m z i : Nat) (out : List Int), i + m = b.length → m < z → out.length + 8 * m ≤ 1048576 → F.impl_Encode_l2 N z (b.length : Int) (i : Int) c w b d t e n q out k = k c w b d t e n q (out ++ rows (stateB b d t e) m i) := by
  intro m
  induction m with
  | zero =>
    intro z i out hi hz ho
    obtain ⟨z, rfl⟩ : ∃ y, z = y + 1 := ⟨z - 1, by omega⟩
    simp only [F.impl_Encode_l2, F.impl_Encode_l2_s, Bool.cond_decide]
    rw [if_neg (by omega)]
    simp [rows]
  | succ m ih =>
    intro z i out hi hz ho
    obtain ⟨z, rfl⟩ : ∃ y, z = y + 1 := ⟨z - 1, by omega⟩
    simp only [F.impl_Encode_l2, F.impl_Encode_l2_s]
    rw [decide_eq_true (show (i : Int) < (b.length : Int) by omega), inB_true (n := b.length) (by omega) (by omega), inB_true (n := d.length) (by omega) (by omega), inB_true (n := t.length) (by omega) (by omega), inB_true (n := e.length) (by omega) (by omega), wrap_id (n := (i : Int) + 1) (by omega) (by omega)]
    simp only [cond_true, Int.toNat_natCast]
    have l2 : ∀ v, (b2 v).length = 2 := fun _ => rfl
    rw [implTwo _ _ _ (by simp) (by simp only [List.length_cons, List.length_nil]; omega) hN]
    have := ih z (i + 1) (out ++ ([List.getD b i 0, List.getD d i 0, List.getD t i 0, List.getD e i 0] : List Int).flatMap b2) (by omega) (by omega) (by simp only [List.length_append, List.flatMap_cons, List.flatMap_nil, List.length_nil, l2]; omega)
    rw [show ((i + 1 : Nat) : Int) = (i : Int) + 1 by omega] at this
    rw [this]
    simp only [rows, stateB, List.append_assoc, List.flatMap_cons, List.flatMap_nil, List.append_nil]

theorem spec_slots {R : Type} (N : Nat) (c : List Int) (w : Int) (b d t e n q : List Int) (hn : n.length ≤ 1048576) (hq : q.length = n.length) (sn : Small n) (sq : Small q) (k : List Int → Option R) :
    ∀ (m z i : Nat) (out : List Int), i + m = n.length → m < z → out.length + 4 * m ≤ 1048576 → F.spec_l3Raw_l4 N z (n.length : Int) (i : Int) c w b d t e n q out k = k (out ++ rows (slotB n q) m i) := by
  intro m
  induction m with
  | zero =>
    intro z i out hi hz ho
    obtain ⟨z, rfl⟩ : ∃ y, z = y + 1 := ⟨z - 1, by omega⟩
    simp only [F.spec_l3Raw_l4, F.spec_l3Raw_l4_s, Bool.cond_decide]
    rw [if_neg (by omega)]
    simp [rows]
  | succ m ih =>
    intro z i out hi hz ho
    obtain ⟨z, rfl⟩ : ∃ y, z = y + 1 := ⟨z - 1, by omega⟩
    simp only [F.spec_l3Raw_l4, F.spec_l3Raw_l4_s]
    rw [decide_eq_true (show (i : Int) < (n.length : Int) by omega), inB_true (n := n.length) (by omega) (by omega), inB_true (n := q.length) (by omega) (by omega), wrap_id (n := (i : Int) + 1) (by omega) (by omega)]
    simp only [cond_true, Int.toNat_natCast]
    have l2 : ∀ v, (b2 v).length = 2 := fun _ => rfl
    rw [specTwo _ _ (sn i (by omega)).1 (sn i (by omega)).2 (by omega), specTwo _ _ (sq i (by omega)).1 (sq i (by omega)).2 (by simp only [List.length_append, l2]; omega)]
    have := ih z (i + 1) (out ++ b2 (List.getD n i 0) ++ b2 (List.getD q i 0)) (by omega) (by omega) (by simp only [List.length_append, l2]; omega)
    rw [show ((i + 1 : Nat) : Int) = (i : Int) + 1 by omega] at this
    rw [this]
    simp only [rows, slotB, List.append_assoc]

theorem impl_slots {R : Type} (N : Nat) (hN : 1048576 < N) (c : List Int) (w : Int) (b d t e n q : List Int) (hn : n.length ≤ 1048576) (hq : q.length = n.length) (k : List Int → Option R) :
    ∀ (m z i : Nat) (out : List Int), i + m = n.length → m < z → out.length + 4 * m ≤ 1048576 → F.impl_Encode_l4 N z (n.length : Int) (i : Int) c w b d t e n q out k = k (out ++ rows (slotB n q) m i) := by
  intro m
  induction m with
  | zero =>
    intro z i out hi hz ho
    obtain ⟨z, rfl⟩ : ∃ y, z = y + 1 := ⟨z - 1, by omega⟩
    simp only [F.impl_Encode_l4, F.impl_Encode_l4_s, Bool.cond_decide]
    rw [if_neg (by omega)]
    simp [rows]
  | succ m ih =>
    intro z i out hi hz ho
    obtain ⟨z, rfl⟩ : ∃ y, z = y + 1 := ⟨z - 1, by omega⟩
    simp only [F.impl_Encode_l4, F.impl_Encode_l4_s]
    rw [decide_eq_true (show (i : Int) < (n.length : Int) by omega), inB_true (n := n.length) (by omega) (by omega), inB_true (n := q.length) (by omega) (by omega), wrap_id (n := (i : Int) + 1) (by omega) (by omega)]
    simp only [cond_true, Int.toNat_natCast]
    have l2 : ∀ v, (b2 v).length = 2 := fun _ => rfl
    rw [implTwo _ _ _ (by simp) (by simp only [List.length_cons, List.length_nil]; omega) hN]
    have := ih z (i + 1) (out ++ ([List.getD n i 0, List.getD q i 0] : List Int).flatMap b2) (by omega) (by omega) (by simp only [List.length_append, List.flatMap_cons, List.flatMap_nil, List.length_nil, l2]; omega)
    rw [show ((i + 1 : Nat) : Int) = (i : Int) + 1 by omega] at this
    rw [this]
    simp only [rows, slotB, List.append_assoc, List.flatMap_cons, List.flatMap_nil, List.append_nil]

/-- All bytes but the sum. -/
def bodyB (c : List Int) (w : Int) (b d t e n q : List Int) : List Int :=
  (((([88, 68, 70, 49] : List Int) ++ b2 b.length ++ b2 w ++ b2 n.length) ++ rows (classB c) c.length 0) ++ rows (stateB b d t e) b.length 0) ++ rows (slotB n q) n.length 0

theorem b2_len (v : Int) : (b2 v).length = 2 := rfl
theorem classB_len (c : List Int) (i : Nat) : (classB c i).length = 1 := rfl
theorem stateB_len (b d t e : List Int) (i : Nat) : (stateB b d t e i).length = 8 := rfl
theorem slotB_len (n q : List Int) (i : Nat) : (slotB n q i).length = 4 := rfl

theorem bodyB_len (c : List Int) (w : Int) (b d t e n q : List Int) : (bodyB c w b d t e n q).length = 10 + c.length + 8 * b.length + 4 * n.length := by
  simp only [bodyB, List.length_append, b2_len, rows_length (classB_len c), rows_length (stateB_len b d t e), rows_length (slotB_len n q), List.length_cons, List.length_nil]
  omega

theorem bodyB_bytes (c : List Int) (w : Int) (b d t e n q : List Int) : Bytes (bodyB c w b d t e n q) := by
  have h1 : ∀ i, Bytes (classB c i) := fun i x hx => by
    simp only [classB, List.mem_singleton] at hx
    omega
  have h2 : ∀ i, Bytes (stateB b d t e i) := fun i => (((b2_bytes _).append (b2_bytes _)).append (b2_bytes _)).append (b2_bytes _)
  have h3 : ∀ i, Bytes (slotB n q i) := fun i => (b2_bytes _).append (b2_bytes _)
  have h4 : Bytes ([88, 68, 70, 49] : List Int) := fun x hx => by
    simp only [List.mem_cons, List.not_mem_nil, or_false] at hx
    omega
  exact (((((h4.append (b2_bytes _)).append (b2_bytes _)).append (b2_bytes _)).append (rows_bytes h1 _ _)).append (rows_bytes h2 _ _)).append (rows_bytes h3 _ _)

/-- The image of a table in order. -/
def imageB (c : List Int) (w : Int) (b d t e n q : List Int) : List UInt8 :=
  intsStr (bodyB c w b d t e n q ++ b2 (tot (bodyB c w b d t e n q) % 65536))

theorem small_of {l : List Int} {lo hi : Int} (h : allIn l lo hi = true) (h0 : -1 ≤ lo) (h1 : hi ≤ 65535) : Small l := by
  rw [allIn_iff] at h
  intro i hi'
  have := h i hi'
  omega

theorem specRaw {R : Type} (N : Nat) (hN : 1048576 < N) {c : List Int} {w : Int} {b d t e n q : List Int} (h : okTable c w b d t e n q) (k : List UInt8 → Option R) : F.spec_l3Raw N c w b d t e n q k = k (imageB c w b d t e n q) := by
  obtain ⟨g1, g2, g3, g4, g5, g6, g7, g8, g9, g10, g11, g12, g13, g14, g15, g16, g17, g18⟩ := h
  simp only [F.spec_l3Raw]
  rw [show Nat.ble 1 (List.length [88, 68, 70, 49]) = true from rfl]
  simp only [cond_true]
  rw [specTwo _ _ (by omega) (by omega) (by simp), specTwo _ _ (by omega) (by omega) (by simp [b2_len]), specTwo _ _ (by omega) (by omega) (by simp [b2_len])]
  have e1 := spec_cls N c (by omega) c w b d t e n q (fun y24 y25 y26 y27 y28 y29 y30 y31 y32 =>
        F.spec_l3Raw_l2 N N (List.length y26 : Int) 0 y24 y25 y26 y27 y28 y29 y30 y31 y32
          (fun y48 y49 y50 y51 y52 y53 y54 y55 y56 =>
            F.spec_l3Raw_l4 N N (List.length y54 : Int) 0 y48 y49 y50 y51 y52 y53 y54 y55 y56
              (fun y70 =>
                F.spec_l3Sum N y70 fun r71 =>
                F.spec_l3Two r71 y70 fun r72 =>
                k (intsStr r72)))) c.length N 0 (([88, 68, 70, 49] : List Int) ++ b2 b.length ++ b2 w ++ b2 n.length) (by omega) (by omega) (by simp [b2_len]; omega)
  rw [show ((0 : Nat) : Int) = 0 from rfl] at e1
  rw [e1]
  have e2 := spec_states N c w b d t e n q (by omega) g7 g8 g9 (small_of g13 (by omega) (by omega)) (small_of g14 (by omega) (by omega)) (small_of g15 (by omega) (by omega)) (small_of g16 (by omega) (by omega)) (fun y48 y49 y50 y51 y52 y53 y54 y55 y56 =>
            F.spec_l3Raw_l4 N N (List.length y54 : Int) 0 y48 y49 y50 y51 y52 y53 y54 y55 y56
              (fun y70 =>
                F.spec_l3Sum N y70 fun r71 =>
                F.spec_l3Two r71 y70 fun r72 =>
                k (intsStr r72))) b.length N 0 ((([88, 68, 70, 49] : List Int) ++ b2 b.length ++ b2 w ++ b2 n.length) ++ rows (classB c) c.length 0) (by omega) (by omega) (by simp [b2_len, rows_length (classB_len c)]; omega)
  rw [show ((0 : Nat) : Int) = 0 from rfl] at e2
  rw [e2]
  have e3 := spec_slots N c w b d t e n q (by omega) g10.symm (small_of g18 (by omega) (by omega)) (small_of g17 (by omega) (by omega)) (fun y70 =>
                F.spec_l3Sum N y70 fun r71 =>
                F.spec_l3Two r71 y70 fun r72 =>
                k (intsStr r72)) n.length N 0 (((([88, 68, 70, 49] : List Int) ++ b2 b.length ++ b2 w ++ b2 n.length) ++ rows (classB c) c.length 0) ++ rows (stateB b d t e) b.length 0) (by omega) (by omega) (by simp [b2_len, rows_length (classB_len c), rows_length (stateB_len b d t e)]; omega)
  rw [show ((0 : Nat) : Int) = 0 from rfl] at e3
  rw [e3]
  show F.spec_l3Sum N (bodyB c w b d t e n q) _ = _
  have hlen := bodyB_len c w b d t e n q
  exact (specSum N (bodyB c w b d t e n q) (by omega) (bodyB_bytes c w b d t e n q) hN _).trans (specTwo _ (bodyB c w b d t e n q) (by omega) (by omega) (by omega) _)

theorem specEncode {R : Type} (N : Nat) (c : List Int) (w : Int) (b d t e n q : List Int) (hc : c.length ≤ 1048576) (hb : b.length ≤ 1048576) (hd : d.length ≤ 1048576) (ht : t.length ≤ 1048576) (he : e.length ≤ 1048576) (hn : n.length ≤ 1048576) (hq : q.length ≤ 1048576) (hN : 1048576 < N) (k : List UInt8 → Option R) :
    F.spec_Encode N c w b d t e n q k = k (if okTable c w b d t e n q then imageB c w b d t e n q else []) := by
  simp only [F.spec_Encode]
  rw [specTableOK N c w b d t e n q hc hb hd ht he hn hq hN]
  by_cases h : okTable c w b d t e n q
  · rw [decide_eq_true h, if_pos h]
    simp only [Bool.not_true, cond_false]
    exact specRaw N hN h k
  · rw [decide_eq_false h, if_neg h]
    rfl

theorem implEncode {R : Type} (N : Nat) (c : List Int) (w : Int) (b d t e n q : List Int) (hc : c.length ≤ 1048576) (hb : b.length ≤ 1048576) (hd : d.length ≤ 1048576) (ht : t.length ≤ 1048576) (he : e.length ≤ 1048576) (hn : n.length ≤ 1048576) (hq : q.length ≤ 1048576) (hN : 1048576 < N) (k : List UInt8 → Option R) :
    F.impl_Encode N c w b d t e n q k = k (if okTable c w b d t e n q then imageB c w b d t e n q else []) := by
  simp only [F.impl_Encode]
  rw [implTableOK N c w b d t e n q hc hb hd ht he hn hq hN]
  by_cases h : okTable c w b d t e n q
  case neg => rw [decide_eq_false h, if_neg h]; rfl
  rw [decide_eq_true h, if_pos h]
  obtain ⟨g1, g2, g3, g4, g5, g6, g7, g8, g9, g10, g11, g12, g13, g14, g15, g16, g17, g18⟩ := h
  simp only [Bool.not_true, cond_false]
  rw [show (([] : List Int) ++ strInts [88, 68, 70, 49]) = ([88, 68, 70, 49] : List Int) from rfl, show Nat.ble (List.length ([] : List Int) + List.length (strInts [88, 68, 70, 49])) (bigOf 1) = true from room (by simp [strInts])]
  simp only [cond_true]
  rw [implTwo _ _ _ (by simp) (by simp) hN]
  have e0 : (([88, 68, 70, 49] : List Int) ++ ([(b.length : Int), w, (n.length : Int)] : List Int).flatMap b2) = ([88, 68, 70, 49] : List Int) ++ b2 b.length ++ b2 w ++ b2 n.length := by
    simp only [List.flatMap_cons, List.flatMap_nil, List.append_nil, List.append_assoc]
  rw [e0]
  have e1 := impl_cls N c (by omega) c w b d t e n q (fun y23 y24 y25 y26 y27 y28 y29 y30 y31 =>
          F.impl_Encode_l2 N N (List.length y25 : Int) 0 y23 y24 y25 y26 y27 y28 y29 y30 y31
            (fun y44 y45 y46 y47 y48 y49 y50 y51 y52 =>
              F.impl_Encode_l4 N N (List.length y50 : Int) 0 y44 y45 y46 y47 y48 y49 y50 y51 y52
                (fun y65 =>
                  F.impl_sum N y65 fun r66 =>
                  F.impl_cursor_two N [r66] y65 fun r67 =>
                  k (intsStr r67)))) c.length N 0 (([88, 68, 70, 49] : List Int) ++ b2 b.length ++ b2 w ++ b2 n.length) (by omega) (by omega) (by simp [b2_len]; omega)
  rw [show ((0 : Nat) : Int) = 0 from rfl] at e1
  rw [e1]
  have e2 := impl_states N hN c w b d t e n q (by omega) g7 g8 g9 (fun y44 y45 y46 y47 y48 y49 y50 y51 y52 =>
              F.impl_Encode_l4 N N (List.length y50 : Int) 0 y44 y45 y46 y47 y48 y49 y50 y51 y52
                (fun y65 =>
                  F.impl_sum N y65 fun r66 =>
                  F.impl_cursor_two N [r66] y65 fun r67 =>
                  k (intsStr r67))) b.length N 0 ((([88, 68, 70, 49] : List Int) ++ b2 b.length ++ b2 w ++ b2 n.length) ++ rows (classB c) c.length 0) (by omega) (by omega) (by simp [b2_len, rows_length (classB_len c)]; omega)
  rw [show ((0 : Nat) : Int) = 0 from rfl] at e2
  rw [e2]
  have e3 := impl_slots N hN c w b d t e n q (by omega) g10.symm (fun y65 =>
                  F.impl_sum N y65 fun r66 =>
                  F.impl_cursor_two N [r66] y65 fun r67 =>
                  k (intsStr r67)) n.length N 0 (((([88, 68, 70, 49] : List Int) ++ b2 b.length ++ b2 w ++ b2 n.length) ++ rows (classB c) c.length 0) ++ rows (stateB b d t e) b.length 0) (by omega) (by omega) (by simp [b2_len, rows_length (classB_len c), rows_length (stateB_len b d t e)]; omega)
  rw [show ((0 : Nat) : Int) = 0 from rfl] at e3
  rw [e3]
  show F.impl_sum N (bodyB c w b d t e n q) _ = _
  have hlen := bodyB_len c w b d t e n q
  refine (implSum N (bodyB c w b d t e n q) (by omega) (bodyB_bytes c w b d t e n q) hN _).trans ((implTwo _ _ (bodyB c w b d t e n q) (by simp) (by simp only [List.length_cons, List.length_nil]; omega) hN _).trans ?_)
  simp only [List.flatMap_cons, List.flatMap_nil, List.append_nil]
  rfl
theorem main (c : List Int) (w : Int) (b d t e n q : List Int) (hc : c.length ≤ maxLen) (hb : b.length ≤ maxLen) (hd : d.length ≤ maxLen) (ht : t.length ≤ maxLen) (he : e.length ≤ maxLen) (hn : n.length ≤ maxLen) (hq : q.length ≤ maxLen) : ∃ N, F.laws_FnExactEncode N c w b d t e n q (fun b => some b) = some true := by
  obtain ⟨N, hN⟩ : ∃ N, 1048576 < N := ⟨1048577, by omega⟩
  refine ⟨N, ?_⟩
  simp only [F.laws_FnExactEncode]
  refine szTable c w b d t e n q hc hb hd ht he hn hq _ _ ?_ ?_
  · intro z hz
    rw [Bool.cond_decide, if_pos hz]
  · intro z hz h1 h2 h3 h4 h5 h6 h7
    rw [Bool.cond_decide, if_neg (by omega)]
    simp only [toTable N c w b d t e n q h1 h2 h3 h4 h5 h6 h7 hN, specEncode N c w b d t e n q h1 h2 h3 h4 h5 h6 h7 hN, implEncode N c w b d t e n q h1 h2 h3 h4 h5 h6 h7 hN, eqTable N c w b d t e n q h1 h2 h3 h4 h5 h6 h7 hN]
    simp

theorem FnExactEncode : ∀ (a0 : Ki.den (.pair (.lst (.int .i64)) (.pair (.int .i64) (.pair (.lst (.int .i64)) (.pair (.lst (.int .i64)) (.pair (.lst (.int .i64)) (.pair (.lst (.int .i64)) (.pair (.lst (.int .i64)) (.lst (.int .i64)))))))))), Fit (.pair (.lst (.int .i64)) (.pair (.int .i64) (.pair (.lst (.int .i64)) (.pair (.lst (.int .i64)) (.pair (.lst (.int .i64)) (.pair (.lst (.int .i64)) (.pair (.lst (.int .i64)) (.lst (.int .i64))))))))) a0 → ∃ N, F.laws_FnExactEncode N a0.1 a0.2.1 a0.2.2.1 a0.2.2.2.1 a0.2.2.2.2.1 a0.2.2.2.2.2.1 a0.2.2.2.2.2.2.1 a0.2.2.2.2.2.2.2 (fun b => some b) = some true :=
  fun a0 h => main a0.1 a0.2.1 a0.2.2.1 a0.2.2.2.1 a0.2.2.2.2.1 a0.2.2.2.2.2.1 a0.2.2.2.2.2.2.1 a0.2.2.2.2.2.2.2 h.1.1 h.2.2.1.1 h.2.2.2.1.1 h.2.2.2.2.1.1 h.2.2.2.2.2.1.1 h.2.2.2.2.2.2.1.1 h.2.2.2.2.2.2.2.1

end Go.Proofs.Ytgmgmgcjkalanaa.fnExactEncode.Pure
