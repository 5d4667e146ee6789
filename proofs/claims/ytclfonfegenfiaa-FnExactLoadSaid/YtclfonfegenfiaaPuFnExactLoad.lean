/- The plain law of FnExactLoad: both sides answer alike for every image. -/
import Derived.Test.YtclfonfegenfiaaFdFnExactLoad
namespace Go.Proofs.Ytclfonfegenfiaa.fnExactLoad.Pure
open Go.Ev Go.Proofs.Ytclfonfegenfiaa.fnExactLoad

set_option linter.unusedVariables false
set_option linter.unusedSimpArgs false
/-! ### whole numbers -/

theorem wrap_id {n : Int} (h0 : -9223372036854775808 ≤ n) (h1 : n ≤ 9223372036854775807) : wrapK .i64 n = n := by
  simp only [wrapK, IntKind.wrap, IntKind.signed, IntKind.bits, Bool.true_and]
  split <;> rename_i h <;> simp only [ge_iff_le, decide_eq_true_eq] at h <;> omega

theorem inB_true {i : Int} {n : Nat} (h0 : 0 ≤ i) (h1 : i < n) : inB i n = true := by
  simp only [inB, Bool.and_eq_true, decide_eq_true_eq]; exact ⟨h0, h1⟩

theorem i64_of {n : Int} (h : (Lit.int .i64 n).wf = true) : -9223372036854775808 ≤ n ∧ n ≤ 9223372036854775807 := by
  simp only [Lit.wf, IntKind.min, IntKind.max, IntKind.signed, IntKind.bits, Bool.and_eq_true, decide_eq_true_eq] at h
  constructor
  · exact h.1
  · exact h.2

theorem maxLen_eq : maxLen = 9223372036854775807 := rfl

/-- All of a list's numbers are in range. -/
def I64s (l : List Int) : Prop := ∀ x ∈ l, -9223372036854775808 ≤ x ∧ x ≤ 9223372036854775807

theorem i64s_of {l : List Int} (h : ∀ x, List.Mem (α := Int) x l → Fit (.int .i64) x) : I64s l := fun x hx => i64_of (h x hx)

theorem getD_get (l : List Int) {i : Nat} (h : i < l.length) : List.getD l i (0 : Int) = l[i] := by simp [List.getD_eq_getElem?_getD, h]
/-! ### copies, sizes, comparisons of rows of numbers -/


theorem eqIntS_l0 {R : Type} (N : Nat) (l : List Int) (hl : l.length ≤ 1048576) (k : Unit → Option R) (k' : Bool → Option R) : ∀ (d n i : Nat), i + d = l.length → d < n → F.laws_eqIntS_l0 N n l l (i : Int) k k' = k () := by
  intro d
  induction d with
  | zero =>
    intro n i hi hn
    obtain ⟨n, rfl⟩ : ∃ m, n = m + 1 := ⟨n - 1, by omega⟩
    simp only [F.laws_eqIntS_l0, F.laws_eqIntS_l0_s, Bool.cond_decide]
    rw [if_neg (by omega)]
  | succ d ih =>
    intro n i hi hn
    obtain ⟨n, rfl⟩ : ∃ m, n = m + 1 := ⟨n - 1, by omega⟩
    simp only [F.laws_eqIntS_l0, F.laws_eqIntS_l0_s, Bool.cond_decide]
    rw [if_pos (by omega), inB_true (by omega) (by omega), wrap_id (by omega) (by omega)]
    simp only [cond_true, bne_self_eq_false, cond_false]
    have := ih n (i + 1) (by omega) (by omega)
    rw [show ((i + 1 : Nat) : Int) = (i : Int) + 1 by omega] at this
    exact this

theorem eqIntS {R : Type} (N : Nat) (l : List Int) (hl : l.length ≤ 1048576) (hN : 1048576 < N) (k : Bool → Option R) : F.laws_eqIntS N l l k = k true := by
  simp only [F.laws_eqIntS, bne_self_eq_false, cond_false]
  exact eqIntS_l0 N l hl _ _ l.length N 0 (by omega) (by omega)
/-! ### all between -/

/-- All numbers lie between. -/
def allIn (l : List Int) (lo hi : Int) : Bool := l.all fun x => decide (lo ≤ x ∧ x ≤ hi)

theorem allIn_drop (l : List Int) (lo hi : Int) {i : Nat} (h : i < l.length) : allIn (l.drop i) lo hi = (decide (lo ≤ l[i] ∧ l[i] ≤ hi) && allIn (l.drop (i + 1)) lo hi) := by
  simp only [allIn]
  rw [List.drop_eq_getElem_cons h, List.all_cons]

theorem l2All_l0 {R : Type} (N : Nat) (l : List Int) (lo hi : Int) (hl : l.length ≤ 1048576) (k : Bool → Option R) : ∀ (d n i : Nat), i + d = l.length → d < n → F.spec_l2All_l0 N n lo hi l (l.length : Int) (i : Int) (fun _ => k true) (fun b => k b) = k (allIn (l.drop i) lo hi) := by
  intro d
  induction d with
  | zero =>
    intro n i hi' hn
    obtain ⟨n, rfl⟩ : ∃ m, n = m + 1 := ⟨n - 1, by omega⟩
    simp only [F.spec_l2All_l0, F.spec_l2All_l0_s, Bool.cond_decide]
    rw [if_neg (by omega), List.drop_of_length_le (by omega)]
    rfl
  | succ d ih =>
    intro n i hi' hn
    obtain ⟨n, rfl⟩ : ∃ m, n = m + 1 := ⟨n - 1, by omega⟩
    simp only [F.spec_l2All_l0, F.spec_l2All_l0_s, F.spec_l1Between, Bool.cond_decide]
    rw [if_pos (by omega), inB_true (by omega) (by omega), wrap_id (by omega) (by omega), allIn_drop l lo hi (by omega)]
    simp only [cond_true, Int.toNat_natCast]
    simp only [getD_get l (show i < l.length by omega)]
    have := ih n (i + 1) (by omega) (by omega)
    rw [show ((i + 1 : Nat) : Int) = (i : Int) + 1 by omega] at this
    rw [this]
    by_cases h1 : lo ≤ l[i]
    · rw [if_pos h1]
      by_cases h2 : l[i] ≤ hi
      · simp [h1, h2]
      · simp [h2]
    · rw [if_neg h1]
      simp [h1]

theorem l2All {R : Type} (N : Nat) (l : List Int) (lo hi : Int) (hl : l.length ≤ 1048576) (hN : 1048576 < N) (k : Bool → Option R) : F.spec_l2All N l lo hi k = k (allIn l lo hi) := by
  simp only [F.spec_l2All]
  exact l2All_l0 N l lo hi hl k l.length N 0 (by omega) (by omega)

theorem index_l0 {R : Type} (N : Nat) (l : List Int) (lo hi : Int) (hl : l.length ≤ 1048576) (k : Bool → Option R) : ∀ (d n i : Nat), i + d = l.length → d < n →
    F.slices_IndexFunc_l0 N n l (l.length : Int) (i : Int) lo hi (fun _ _ => k (!decide ((-1 : Int) ≥ 0))) (fun j _ _ => k (!decide (j ≥ 0))) = k (allIn (l.drop i) lo hi) := by
  intro d
  induction d with
  | zero =>
    intro n i hi' hn
    obtain ⟨n, rfl⟩ : ∃ m, n = m + 1 := ⟨n - 1, by omega⟩
    simp only [F.slices_IndexFunc_l0, F.slices_IndexFunc_l0_s, Bool.cond_decide]
    rw [if_neg (by omega), List.drop_of_length_le (by omega)]
    rfl
  | succ d ih =>
    intro n i hi' hn
    obtain ⟨n, rfl⟩ : ∃ m, n = m + 1 := ⟨n - 1, by omega⟩
    simp only [F.slices_IndexFunc_l0, F.slices_IndexFunc_l0_s, F.impl_DfaOK_1_1, Bool.cond_decide]
    rw [if_pos (by omega), inB_true (by omega) (by omega), wrap_id (by omega) (by omega), allIn_drop l lo hi (by omega)]
    simp only [cond_true, Int.toNat_natCast]
    simp only [getD_get l (show i < l.length by omega)]
    have := ih n (i + 1) (by omega) (by omega)
    rw [show ((i + 1 : Nat) : Int) = (i : Int) + 1 by omega] at this
    rw [this]
    by_cases h1 : l[i] < lo
    · rw [if_pos h1]
      simp [show ¬ (lo ≤ l[i]) by omega]
    · rw [if_neg h1]
      by_cases h2 : l[i] > hi
      · rw [if_pos h2]
        simp [show ¬ (l[i] ≤ hi) by omega]
      · rw [if_neg h2]
        simp [show lo ≤ l[i] by omega, show l[i] ≤ hi by omega]

theorem implIn {R : Type} (N : Nat) (l : List Int) (lo hi : Int) (hl : l.length ≤ 1048576) (hN : 1048576 < N) (k : Bool → Option R) : F.impl_DfaOK_1 N l lo hi k = k (allIn l lo hi) := by
  simp only [F.impl_DfaOK_1, F.slices_ContainsFunc, F.slices_IndexFunc]
  exact index_l0 N l lo hi hl k l.length N 0 (by omega) (by omega)

/-- An automaton in order. -/
def okDfa (c : List Int) (w : Int) (n t e : List Int) : Bool :=
  decide (c.length = 256 ∧ 1 ≤ w ∧ w ≤ 256 ∧ 1 ≤ t.length ∧ t.length ≤ 4000 ∧ e.length = t.length ∧ (n.length : Int) = t.length * w) &&
    (allIn c 0 (w - 1) && (allIn n 0 (t.length - 1) && (allIn t (-1) 99 && allIn e (-1) 99)))

theorem mul_ok {t : Nat} {w : Int} (h1 : t ≤ 4000) (h2 : 1 ≤ w) (h3 : w ≤ 256) : wrapK .i64 ((t : Int) * w) = t * w := by
  have a : 0 ≤ (t : Int) * w := Int.mul_nonneg (by omega) (by omega)
  have b : (t : Int) * w ≤ 4000 * 256 := Int.mul_le_mul (by omega) h3 (by omega) (by omega)
  exact wrap_id (by omega) (by omega)

theorem implDfaOK {R : Type} (N : Nat) (c : List Int) (w : Int) (n t e : List Int) (hc : c.length ≤ 1048576) (hn : n.length ≤ 1048576) (ht : t.length ≤ 1048576) (he : e.length ≤ 1048576) (hN : 1048576 < N) (k : Bool → Option R) :
    F.impl_DfaOK N c w n t e k = k (okDfa c w n t e) := by
  by_cases hg : c.length = 256 ∧ 1 ≤ w ∧ w ≤ 256 ∧ 1 ≤ t.length ∧ t.length ≤ 4000 ∧ e.length = t.length ∧ (n.length : Int) = t.length * w
  · obtain ⟨g1, g2, g3, g4, g5, g6, g7⟩ := hg
    simp only [F.impl_DfaOK, Bool.cond_decide]
    rw [mul_ok g5 g2 g3, wrap_id (n := w - 1) (by omega) (by omega), wrap_id (n := (t.length : Int) - 1) (by omega) (by omega)]
    simp only [show ((c.length : Int) != 256) = false by simp; omega, cond_false, if_neg (show ¬ (w < 1) by omega), if_neg (show ¬ (w > 256) by omega), if_neg (show ¬ ((t.length : Int) < 1) by omega), if_neg (show ¬ ((t.length : Int) > 4000) by omega),
      show ((e.length : Int) != t.length) = false by simp; omega, show ((n.length : Int) != t.length * w) = false by simp; omega]
    rw [implIn N c _ _ hc hN, implIn N n _ _ hn hN, implIn N t _ _ ht hN, implIn N e _ _ he hN]
    simp only [okDfa, g1, g2, g3, g4, g5, g6, g7, true_and, and_self, decide_true, Bool.true_and]
    cases allIn c 0 (w - 1) <;> cases allIn n 0 (t.length - 1) <;> cases allIn t (-1) 99 <;> simp
  · have e0 : okDfa c w n t e = false := by simp only [okDfa, decide_eq_false hg, Bool.false_and]
    rw [e0]
    simp only [F.impl_DfaOK, Bool.cond_decide]
    by_cases g1 : c.length = 256
    case neg => simp only [show ((c.length : Int) != 256) = true by simp; omega, cond_true]
    simp only [show ((c.length : Int) != 256) = false by simp; omega, cond_false]
    by_cases g2 : 1 ≤ w
    case neg => rw [if_pos (by omega)]
    by_cases g3 : w ≤ 256
    case neg => rw [if_neg (by omega), if_pos (by omega)]
    rw [if_neg (by omega), if_neg (by omega)]
    by_cases g4 : 1 ≤ t.length
    case neg => rw [if_pos (by omega)]
    by_cases g5 : t.length ≤ 4000
    case neg => rw [if_neg (by omega), if_pos (by omega)]
    rw [if_neg (by omega), if_neg (by omega)]
    by_cases g6 : e.length = t.length
    case neg => simp only [show ((e.length : Int) != t.length) = true by simp; omega, cond_true]
    simp only [show ((e.length : Int) != t.length) = false by simp; omega, cond_false]
    rw [mul_ok g5 g2 g3]
    have g7 : ¬ ((n.length : Int) = t.length * w) := fun h => hg ⟨g1, g2, g3, g4, g5, g6, h⟩
    simp only [show ((n.length : Int) != t.length * w) = true by simpa using g7, cond_true]
/-! ### tables: sizes, copies, comparisons -/

theorem eqTable {R : Type} (N : Nat) (c : List Int) (w : Int) (b d t e n q : List Int) (hc : c.length ≤ 1048576) (hb : b.length ≤ 1048576) (hd : d.length ≤ 1048576) (ht : t.length ≤ 1048576) (he : e.length ≤ 1048576) (hn : n.length ≤ 1048576) (hq : q.length ≤ 1048576) (hN : 1048576 < N)
    (k : Bool → Option R) : F.laws_eqTable N c w b d t e n q c w b d t e n q k = k true := by
  simp only [F.laws_eqTable, bne_self_eq_false, cond_false]
  rw [eqIntS N c hc hN]
  simp only [Bool.not_true, cond_false]
  rw [eqIntS N b hb hN]
  simp only [Bool.not_true, cond_false]
  rw [eqIntS N d hd hN]
  simp only [Bool.not_true, cond_false]
  rw [eqIntS N t ht hN]
  simp only [Bool.not_true, cond_false]
  rw [eqIntS N e he hN]
  simp only [Bool.not_true, cond_false]
  rw [eqIntS N n hn hN]
  simp only [Bool.not_true, cond_false]
  rw [eqIntS N q hq hN]
  simp only [Bool.not_true, cond_false]
/-! ### both sides' TableOK -/

/-- P holds at d places from i on. -/
def allF (P : Nat → Bool) : Nat → Nat → Bool
  | 0, _ => true
  | d + 1, i => P i && allF P d (i + 1)

theorem allF_iff (P : Nat → Bool) : ∀ d i, allF P d i = true ↔ ∀ j, i ≤ j → j < i + d → P j = true
  | 0, i => by simp [allF]; omega
  | d + 1, i => by
    simp only [allF, Bool.and_eq_true, allF_iff P d (i + 1)]
    constructor
    · rintro ⟨h1, h2⟩ j h3 h4
      rcases Nat.eq_or_lt_of_le h3 with rfl | h
      · exact h1
      · exact h2 j (by omega) (by omega)
    · intro h
      exact ⟨h i (by omega) (by omega), fun j h1 h2 => h j (by omega) (by omega)⟩

theorem allIn_iff (l : List Int) (lo hi : Int) : allIn l lo hi = true ↔ ∀ j, j < l.length → lo ≤ List.getD l j 0 ∧ List.getD l j 0 ≤ hi := by
  simp only [allIn, List.all_eq_true, decide_eq_true_eq]
  constructor
  · intro h j hj
    rw [getD_get l hj]
    exact h _ (List.getElem_mem hj)
  · intro h x hx
    obtain ⟨j, hj, rfl⟩ := List.getElem_of_mem hx
    have := h j hj
    rwa [getD_get l hj] at this

theorem spec_own {R : Type} (N : Nat) (x12 : Int) (q : List Int) (c : List Int) (w : Int) (b d t e n q' : List Int) (hq : q.length ≤ 1048576) (hn : n.length = q.length) (k : Int → List Int → Int → List Int → List Int → List Int → List Int → List Int → List Int → Option R) (k' : Bool → Int → List Int → Int → List Int → List Int → List Int → List Int → List Int → List Int → Option R) :
    ∀ (m z i : Nat), i + m = q.length → m < z → F.spec_TableOK_l0 N z x12 q (q.length : Int) (i : Int) c w b d t e n q' k k' = bif allF (fun j => decide (List.getD q j 0 = -1 → List.getD n j 0 = 0)) m i then k x12 c w b d t e n q' else k' false x12 c w b d t e n q' := by
  intro m
  induction m with
  | zero =>
    intro z i hi hz
    obtain ⟨z, rfl⟩ : ∃ y, z = y + 1 := ⟨z - 1, by omega⟩
    simp only [F.spec_TableOK_l0, F.spec_TableOK_l0_s, Bool.cond_decide]
    rw [if_neg (by omega)]
    simp [allF]
  | succ m ih =>
    intro z i hi hz
    obtain ⟨z, rfl⟩ : ∃ y, z = y + 1 := ⟨z - 1, by omega⟩
    simp only [F.spec_TableOK_l0, F.spec_TableOK_l0_s, Bool.cond_decide]
    rw [if_pos (by omega), inB_true (by omega) (by omega), inB_true (n := n.length) (by omega) (by omega), wrap_id (by omega) (by omega)]
    have := ih z (i + 1) (by omega) (by omega)
    rw [show ((i + 1 : Nat) : Int) = (i : Int) + 1 by omega] at this
    rw [this]
    simp only [cond_true, Int.toNat_natCast, allF]
    by_cases h1 : List.getD q i 0 = -1
    · rw [show (List.getD q i 0 == -1) = true by simpa using h1]
      by_cases h2 : List.getD n i 0 = 0
      · rw [show (List.getD n i 0 != 0) = false by simpa using h2, decide_eq_true (show List.getD q i 0 = -1 → List.getD n i 0 = 0 from fun _ => h2)]
        simp only [cond_true, cond_false, Bool.true_and]
      · rw [show (List.getD n i 0 != 0) = true by simpa using h2]
        simp only [cond_true]
        rw [decide_eq_false (fun h => h2 (h h1))]
        rfl
    · rw [show (List.getD q i 0 == -1) = false by simpa using h1, decide_eq_true (show List.getD q i 0 = -1 → List.getD n i 0 = 0 from fun h => (h1 h).elim)]
      simp only [cond_false, Bool.true_and]

/-- A table in order. -/
def okTable (c : List Int) (w : Int) (b d t e n q : List Int) : Prop :=
  c.length = 256 ∧ 1 ≤ w ∧ w ≤ 256 ∧ allIn c 0 (w - 1) = true ∧ 1 ≤ b.length ∧ b.length ≤ 4000 ∧ d.length = b.length ∧ t.length = b.length ∧ e.length = b.length ∧ n.length = q.length ∧ n.length ≤ 60000 ∧
    allF (fun j => decide (List.getD q j 0 = -1 → List.getD n j 0 = 0)) q.length 0 = true ∧ allIn b 0 59999 = true ∧ allIn d 0 (b.length - 1) = true ∧ allIn t (-1) 99 = true ∧ allIn e (-1) 99 = true ∧ allIn q (-1) (b.length - 1) = true ∧ allIn n 0 (b.length - 1) = true

instance (c : List Int) (w : Int) (b d t e n q : List Int) : Decidable (okTable c w b d t e n q) := by unfold okTable; infer_instance

theorem dec_neg {R : Type} {p : Prop} [Decidable p] (h : ¬ p) (k : Bool → Option R) : k false = k (decide p) := by rw [decide_eq_false h]

theorem specTableOK {R : Type} (N : Nat) (c : List Int) (w : Int) (b d t e n q : List Int) (hc : c.length ≤ 1048576) (hb : b.length ≤ 1048576) (hd : d.length ≤ 1048576) (ht : t.length ≤ 1048576) (he : e.length ≤ 1048576) (hn : n.length ≤ 1048576) (hq : q.length ≤ 1048576) (hN : 1048576 < N) (k : Bool → Option R) :
    F.spec_TableOK N c w b d t e n q k = k (decide (okTable c w b d t e n q)) := by
  simp only [F.spec_TableOK, F.spec_l1Between]
  by_cases g1 : c.length = 256
  case neg => simp only [show ((c.length : Int) != 256) = true by simp; omega, cond_true]; exact dec_neg (fun h => g1 h.1) k
  simp only [show ((c.length : Int) != 256) = false by simp; omega, cond_false]
  by_cases g2 : 1 ≤ w
  case neg => simp only [decide_eq_false g2, cond_false, Bool.not_false, cond_true]; exact dec_neg (fun h => g2 h.2.1) k
  by_cases g3 : w ≤ 256
  case neg => simp only [decide_eq_true g2, cond_true, decide_eq_false g3, Bool.not_false]; exact dec_neg (fun h => g3 h.2.2.1) k
  simp only [decide_eq_true g2, cond_true, decide_eq_true g3, Bool.not_true, cond_false]
  rw [wrap_id (n := w - 1) (by omega) (by omega), l2All N c _ _ hc hN]
  cases g4 : allIn c 0 (w - 1)
  · exact dec_neg (fun h => by have := h.2.2.2.1; rw [g4] at this; cases this) k
  simp only [Bool.not_true, cond_false]
  by_cases g5 : 1 ≤ b.length
  case neg => simp only [decide_eq_false (show ¬ ((1 : Int) ≤ b.length) by omega), cond_false, Bool.not_false, cond_true]; exact dec_neg (fun h => g5 h.2.2.2.2.1) k
  by_cases g6 : b.length ≤ 4000
  case neg => simp only [decide_eq_true (show (1 : Int) ≤ b.length by omega), cond_true, decide_eq_false (show ¬ ((b.length : Int) ≤ 4000) by omega), Bool.not_false]; exact dec_neg (fun h => g6 h.2.2.2.2.2.1) k
  simp only [decide_eq_true (show (1 : Int) ≤ b.length by omega), cond_true, decide_eq_true (show (b.length : Int) ≤ 4000 by omega), Bool.not_true, cond_false]
  by_cases g7 : d.length = b.length
  case neg => simp only [show ((d.length : Int) != b.length) = true by simp; omega, cond_true]; exact dec_neg (fun h => g7 h.2.2.2.2.2.2.1) k
  simp only [show ((d.length : Int) != b.length) = false by simp; omega, cond_false]
  by_cases g8 : t.length = b.length
  case neg => simp only [show ((t.length : Int) != b.length) = true by simp; omega, cond_true]; exact dec_neg (fun h => g8 h.2.2.2.2.2.2.2.1) k
  simp only [show ((t.length : Int) != b.length) = false by simp; omega, cond_false]
  by_cases g9 : e.length = b.length
  case neg => simp only [show ((e.length : Int) != b.length) = true by simp; omega, cond_true]; exact dec_neg (fun h => g9 h.2.2.2.2.2.2.2.2.1) k
  simp only [show ((e.length : Int) != b.length) = false by simp; omega, cond_false]
  by_cases g10 : n.length = q.length
  case neg => simp only [show ((n.length : Int) != q.length) = true by simp; omega, cond_true]; exact dec_neg (fun h => g10 h.2.2.2.2.2.2.2.2.2.1) k
  simp only [show ((n.length : Int) != q.length) = false by simp; omega, cond_false]
  by_cases g11 : n.length ≤ 60000
  case neg => simp only [decide_eq_true (show (n.length : Int) > 60000 by omega), cond_true]; exact dec_neg (fun h => g11 h.2.2.2.2.2.2.2.2.2.2.1) k
  simp only [decide_eq_false (show ¬ ((n.length : Int) > 60000) by omega), cond_false]
  have := spec_own N (b.length : Int) q c w b d t e n q hq g10 (fun y24 y25 y26 y27 y28 y29 y30 y31 y32 =>
                        F.spec_l2All N y27 0 59999 fun r33 =>
                        bif r33 then
                          F.spec_l2All N y28 0 (wrapK .i64 (y24 - 1)) fun r34 =>
                          bif r34 then
                            F.spec_l2All N y29 (-1) 99 fun r35 =>
                            bif r35 then
                              F.spec_l2All N y30 (-1) 99 fun r36 =>
                              bif r36 then
                                F.spec_l2All N y32 (-1) (wrapK .i64 (y24 - 1)) fun r37 =>
                                bif r37 then
                                  F.spec_l2All N y31 0 (wrapK .i64 (y24 - 1)) fun r38 =>
                                  k r38
                                else
                                  k false
                              else
                                k false
                            else
                              k false
                          else
                            k false
                        else
                          k false) (fun y39 y40 y41 y42 y43 y44 y45 y46 y47 y48 => k y39) q.length N 0 (by omega) (by omega)
  rw [show ((0 : Nat) : Int) = 0 from rfl] at this
  rw [this]
  cases g12 : allF (fun j => decide (List.getD q j 0 = -1 → List.getD n j 0 = 0)) q.length 0
  · exact dec_neg (fun h => by have := h.2.2.2.2.2.2.2.2.2.2.2.1; rw [g12] at this; cases this) k
  simp only [cond_true]
  rw [wrap_id (n := (b.length : Int) - 1) (by omega) (by omega)]
  rw [l2All N b _ _ hb hN, l2All N d _ _ hd hN, l2All N t _ _ ht hN, l2All N e _ _ he hN, l2All N q _ _ hq hN, l2All N n _ _ hn hN]
  cases g13 : allIn b 0 59999
  · exact dec_neg (fun h => by have := h.2.2.2.2.2.2.2.2.2.2.2.2.1; rw [g13] at this; cases this) k
  cases g14 : allIn d 0 (b.length - 1)
  · exact dec_neg (fun h => by have := h.2.2.2.2.2.2.2.2.2.2.2.2.2.1; rw [g14] at this; cases this) k
  cases g15 : allIn t (-1) 99
  · exact dec_neg (fun h => by have := h.2.2.2.2.2.2.2.2.2.2.2.2.2.2.1; rw [g15] at this; cases this) k
  cases g16 : allIn e (-1) 99
  · exact dec_neg (fun h => by have := h.2.2.2.2.2.2.2.2.2.2.2.2.2.2.2.1; rw [g16] at this; cases this) k
  cases g17 : allIn q (-1) (b.length - 1)
  · exact dec_neg (fun h => by have := h.2.2.2.2.2.2.2.2.2.2.2.2.2.2.2.2.1; rw [g17] at this; cases this) k
  cases g18 : allIn n 0 (b.length - 1)
  · exact dec_neg (fun h => by have := h.2.2.2.2.2.2.2.2.2.2.2.2.2.2.2.2.2; rw [g18] at this; cases this) k
  simp only [cond_true]
  rw [decide_eq_true (show okTable c w b d t e n q from ⟨g1, g2, g3, g4, g5, g6, g7, g8, g9, g10, g11, g12, g13, g14, g15, g16, g17, g18⟩)]

theorem impl_l0 {R : Type} (N : Nat) (c : List Int) (w : Int) (b d t e n q : List Int) (hb : b.length ≤ 1048576) (hd : d.length = b.length) (k : Int → List Int → Int → List Int → List Int → List Int → List Int → List Int → List Int → Option R) (k' : Bool → Int → List Int → Int → List Int → List Int → List Int → List Int → List Int → List Int → Option R) :
    ∀ (m z i : Nat), i + m = b.length → m < z → F.impl_TableOK_l0 N z (b.length : Int) (b.length : Int) (i : Int) c w b d t e n q k k' = bif allF (fun j => decide (0 ≤ List.getD b j 0 ∧ List.getD b j 0 < 60000 ∧ 0 ≤ List.getD d j 0 ∧ List.getD d j 0 < b.length)) m i then k (b.length : Int) c w b d t e n q else k' false (b.length : Int) c w b d t e n q := by
  intro m
  induction m with
  | zero =>
    intro z i hi hz
    obtain ⟨z, rfl⟩ : ∃ y, z = y + 1 := ⟨z - 1, by omega⟩
    simp only [F.impl_TableOK_l0, F.impl_TableOK_l0_s, Bool.cond_decide]
    rw [if_neg (by omega)]
    simp [allF]
  | succ m ih =>
    intro z i hi hz
    obtain ⟨z, rfl⟩ : ∃ y, z = y + 1 := ⟨z - 1, by omega⟩
    simp only [F.impl_TableOK_l0, F.impl_TableOK_l0_s, Bool.cond_decide]
    rw [if_pos (by omega), inB_true (n := b.length) (by omega) (by omega), inB_true (n := d.length) (by omega) (by omega), wrap_id (by omega) (by omega)]
    have := ih z (i + 1) (by omega) (by omega)
    rw [show ((i + 1 : Nat) : Int) = (i : Int) + 1 by omega] at this
    rw [this]
    simp only [cond_true, Int.toNat_natCast, allF]
    by_cases h1 : List.getD b i 0 < 0
    · rw [if_pos h1, decide_eq_false (fun h => by omega)]
      rfl
    rw [if_neg h1]
    by_cases h2 : List.getD b i 0 ≥ 60000
    · rw [if_pos h2, decide_eq_false (fun h => by omega)]
      rfl
    rw [if_neg h2]
    by_cases h3 : List.getD d i 0 < 0
    · rw [if_pos h3, decide_eq_false (fun h => by omega)]
      rfl
    rw [if_neg h3]
    by_cases h4 : List.getD d i 0 ≥ b.length
    · rw [if_pos h4, decide_eq_false (fun h => by omega)]
      rfl
    rw [if_neg h4]
    rw [decide_eq_true (show 0 ≤ List.getD b i 0 ∧ List.getD b i 0 < 60000 ∧ 0 ≤ List.getD d i 0 ∧ List.getD d i 0 < b.length by omega), Bool.true_and]

theorem impl_l2 {R : Type} (N : Nat) (x : Int) (c : List Int) (w : Int) (b d t e n q : List Int) (hq : q.length ≤ 1048576) (hn : n.length = q.length) (k : Unit → Option R) (k' : Bool → Option R) :
    ∀ (m z i : Nat), i + m = q.length → m < z → F.impl_TableOK_l2 N z x q (q.length : Int) (i : Int) c w b d t e n q k k' = bif allF (fun j => decide (-1 ≤ List.getD q j 0 ∧ List.getD q j 0 < x ∧ 0 ≤ List.getD n j 0 ∧ List.getD n j 0 < x ∧ (List.getD q j 0 = -1 → List.getD n j 0 = 0))) m i then k () else k' false := by
  intro m
  induction m with
  | zero =>
    intro z i hi hz
    obtain ⟨z, rfl⟩ : ∃ y, z = y + 1 := ⟨z - 1, by omega⟩
    simp only [F.impl_TableOK_l2, F.impl_TableOK_l2_s, Bool.cond_decide]
    rw [if_neg (by omega)]
    simp [allF]
  | succ m ih =>
    intro z i hi hz
    obtain ⟨z, rfl⟩ : ∃ y, z = y + 1 := ⟨z - 1, by omega⟩
    simp only [F.impl_TableOK_l2, F.impl_TableOK_l2_s, Bool.cond_decide]
    rw [if_pos (by omega), inB_true (n := q.length) (by omega) (by omega), inB_true (n := n.length) (by omega) (by omega), wrap_id (by omega) (by omega)]
    have := ih z (i + 1) (by omega) (by omega)
    rw [show ((i + 1 : Nat) : Int) = (i : Int) + 1 by omega] at this
    rw [this]
    simp only [cond_true, Int.toNat_natCast, allF]
    by_cases h1 : List.getD q i 0 < -1
    · rw [if_pos h1, decide_eq_false (fun h => by omega)]
      rfl
    rw [if_neg h1]
    by_cases h2 : List.getD q i 0 ≥ x
    · rw [if_pos h2, decide_eq_false (fun h => by omega)]
      rfl
    rw [if_neg h2]
    by_cases h3 : List.getD n i 0 < 0
    · rw [if_pos h3, decide_eq_false (fun h => by omega)]
      rfl
    rw [if_neg h3]
    by_cases h4 : List.getD n i 0 ≥ x
    · rw [if_pos h4, decide_eq_false (fun h => by omega)]
      rfl
    rw [if_neg h4]
    by_cases h5 : List.getD q i 0 = -1
    · rw [show (List.getD q i 0 == -1) = true by simpa using h5]
      by_cases h6 : List.getD n i 0 = 0
      · rw [show (List.getD n i 0 != 0) = false by simpa using h6]
        simp only [cond_true, cond_false]
        rw [decide_eq_true (show -1 ≤ List.getD q i 0 ∧ List.getD q i 0 < x ∧ 0 ≤ List.getD n i 0 ∧ List.getD n i 0 < x ∧ (List.getD q i 0 = -1 → List.getD n i 0 = 0) from ⟨by omega, by omega, by omega, by omega, fun _ => h6⟩), Bool.true_and]
      · rw [show (List.getD n i 0 != 0) = true by simpa using h6]
        simp only [cond_true]
        rw [decide_eq_false (fun h => h6 (h.2.2.2.2 h5))]
        rfl
    · rw [show (List.getD q i 0 == -1) = false by simpa using h5]
      simp only [cond_false]
      rw [decide_eq_true (show -1 ≤ List.getD q i 0 ∧ List.getD q i 0 < x ∧ 0 ≤ List.getD n i 0 ∧ List.getD n i 0 < x ∧ (List.getD q i 0 = -1 → List.getD n i 0 = 0) from ⟨by omega, by omega, by omega, by omega, fun h => (h5 h).elim⟩), Bool.true_and]

theorem implTableOK {R : Type} (N : Nat) (c : List Int) (w : Int) (b d t e n q : List Int) (hc : c.length ≤ 1048576) (hb : b.length ≤ 1048576) (hd : d.length ≤ 1048576) (ht : t.length ≤ 1048576) (he : e.length ≤ 1048576) (hn : n.length ≤ 1048576) (hq : q.length ≤ 1048576) (hN : 1048576 < N) (k : Bool → Option R) :
    F.impl_TableOK N c w b d t e n q k = k (decide (okTable c w b d t e n q)) := by
  simp only [F.impl_TableOK]
  by_cases g7 : d.length = b.length
  case neg => simp only [show ((d.length : Int) != b.length) = true by simp; omega, cond_true]; exact dec_neg (fun h => g7 h.2.2.2.2.2.2.1) k
  simp only [show ((d.length : Int) != b.length) = false by simp; omega, cond_false]
  by_cases g10 : n.length = q.length
  case neg => simp only [show ((q.length : Int) != n.length) = true by simp; omega, cond_true]; exact dec_neg (fun h => g10 h.2.2.2.2.2.2.2.2.2.1) k
  simp only [show ((q.length : Int) != n.length) = false by simp; omega, cond_false]
  by_cases g11 : n.length ≤ 60000
  case neg => simp only [decide_eq_true (show (n.length : Int) > 60000 by omega), cond_true]; exact dec_neg (fun h => g11 h.2.2.2.2.2.2.2.2.2.2.1) k
  simp only [decide_eq_false (show ¬ ((n.length : Int) > 60000) by omega), cond_false]
  by_cases g5 : 1 ≤ b.length
  case neg => simp only [decide_eq_true (show (b.length : Int) < 1 by omega), cond_true]; exact dec_neg (fun h => g5 h.2.2.2.2.1) k
  simp only [decide_eq_false (show ¬ ((b.length : Int) < 1) by omega), cond_false]
  by_cases g6 : b.length ≤ 4000
  case neg => simp only [decide_eq_true (show (b.length : Int) > 4000 by omega), cond_true]; exact dec_neg (fun h => g6 h.2.2.2.2.2.1) k
  simp only [decide_eq_false (show ¬ ((b.length : Int) > 4000) by omega), cond_false]
  by_cases g2 : 1 ≤ w
  case neg => simp only [decide_eq_true (show w < 1 by omega), cond_true]; exact dec_neg (fun h => g2 h.2.1) k
  simp only [decide_eq_false (show ¬ (w < 1) by omega), cond_false]
  by_cases g3 : w ≤ 256
  case neg => simp only [decide_eq_true (show w > 256 by omega), cond_true]; exact dec_neg (fun h => g3 h.2.2.1) k
  simp only [decide_eq_false (show ¬ (w > 256) by omega), cond_false]
  by_cases g8 : t.length = b.length
  case neg => simp only [show ((t.length : Int) != b.length) = true by simp; omega, cond_true]; exact dec_neg (fun h => g8 h.2.2.2.2.2.2.2.1) k
  simp only [show ((t.length : Int) != b.length) = false by simp; omega, cond_false]
  rw [mul_ok g6 g2 g3]
  have a1 : 0 ≤ (b.length : Int) * w := Int.mul_nonneg (by omega) (by omega)
  have a2 : (b.length : Int) * w ≤ 4000 * 256 := Int.mul_le_mul (by omega) g3 (by omega) (by omega)
  have hbl : Nat.ble (Int.toNat ((b.length : Int) * w)) (bigOf 8) = true := by
    rw [Nat.ble_eq]
    simp only [bigOf]
    omega
  simp only [decide_eq_true a1, cond_true, hbl]
  rw [implDfaOK N c w _ t e hc (by simp; omega) ht he hN]
  have hz : allIn (List.replicate (Int.toNat ((b.length : Int) * w)) 0) 0 (t.length - 1) = true := by
    simp only [allIn, List.all_eq_true, decide_eq_true_eq]
    intro x hx
    rw [(List.mem_replicate.1 hx).2]
    omega
  have hlz : ((List.replicate (Int.toNat ((b.length : Int) * w)) (0 : Int)).length : Int) = t.length * w := by
    rw [List.length_replicate, g8]; omega
  have hok : okDfa c w (List.replicate (Int.toNat ((b.length : Int) * w)) 0) t e = decide (c.length = 256 ∧ e.length = b.length ∧ allIn c 0 (w - 1) = true ∧ allIn t (-1) 99 = true ∧ allIn e (-1) 99 = true) := by
    simp only [okDfa, hz, hlz, Bool.true_and]
    rw [Bool.eq_iff_iff]
    simp only [Bool.and_eq_true, decide_eq_true_eq, g8]
    constructor
    · rintro ⟨⟨h1, _, _, _, _, h2, _⟩, h3, h4, h5⟩; exact ⟨h1, h2, h3, h4, h5⟩
    · rintro ⟨h1, h2, h3, h4, h5⟩; exact ⟨⟨h1, g2, g3, g5, g6, h2, trivial⟩, h3, h4, h5⟩
  rw [hok]
  by_cases gd : c.length = 256 ∧ e.length = b.length ∧ allIn c 0 (w - 1) = true ∧ allIn t (-1) 99 = true ∧ allIn e (-1) 99 = true
  case neg =>
    rw [decide_eq_false gd]
    simp only [Bool.not_false, cond_true]
    exact dec_neg (fun h => gd ⟨h.1, h.2.2.2.2.2.2.2.2.1, h.2.2.2.1, h.2.2.2.2.2.2.2.2.2.2.2.2.2.2.1, h.2.2.2.2.2.2.2.2.2.2.2.2.2.2.2.1⟩) k
  rw [decide_eq_true gd]
  simp only [Bool.not_true, cond_false]
  obtain ⟨g1, g9, g4, g15, g16⟩ := gd
  have e0 := impl_l0 N c w b d t e n q hb g7 (fun y21 y22 y23 y24 y25 y26 y27 y28 y29 => F.impl_TableOK_l2 N N y21 y29 (List.length y29 : Int) 0 y22 y23 y24 y25 y26 y27 y28 y29 (fun _ => k true) (fun y42 => k y42)) (fun y43 y44 y45 y46 y47 y48 y49 y50 y51 y52 => k y43) b.length N 0 (by omega) (by omega)
  rw [show ((0 : Nat) : Int) = 0 from rfl] at e0
  rw [e0]
  generalize hf0 : allF _ b.length 0 = f0
  cases f0
  case false =>
    have h : ¬ (allF (fun j => decide (0 ≤ List.getD b j 0 ∧ List.getD b j 0 < 60000 ∧ 0 ≤ List.getD d j 0 ∧ List.getD d j 0 < b.length)) b.length 0 = true) := by rw [hf0]; simp
    refine dec_neg (fun h' => h ?_) k
    have h1 := h'.2.2.2.2.2.2.2.2.2.2.2.2.1
    have h2 := h'.2.2.2.2.2.2.2.2.2.2.2.2.2.1
    rw [allIn_iff] at h1 h2
    rw [allF_iff]
    intro j _ hj
    have a := h1 j (by omega)
    have b := h2 j (by omega)
    rw [decide_eq_true_eq]
    omega
  have h0 := hf0
  simp only [cond_true]
  have e2 := impl_l2 N (b.length : Int) c w b d t e n q hq g10 (fun _ => k true) (fun y42 => k y42) q.length N 0 (by omega) (by omega)
  rw [show ((0 : Nat) : Int) = 0 from rfl] at e2
  rw [e2]
  generalize hf2 : allF _ q.length 0 = f2
  cases f2
  case false =>
    have h : ¬ (allF (fun j => decide (-1 ≤ List.getD q j 0 ∧ List.getD q j 0 < (b.length : Int) ∧ 0 ≤ List.getD n j 0 ∧ List.getD n j 0 < (b.length : Int) ∧ (List.getD q j 0 = -1 → List.getD n j 0 = 0))) q.length 0 = true) := by rw [hf2]; simp
    refine dec_neg (fun h' => h ?_) k
    have h1 := h'.2.2.2.2.2.2.2.2.2.2.2.1
    have h2 := h'.2.2.2.2.2.2.2.2.2.2.2.2.2.2.2.2.1
    have h3 := h'.2.2.2.2.2.2.2.2.2.2.2.2.2.2.2.2.2
    rw [allIn_iff] at h2 h3
    rw [allF_iff] at h1 ⊢
    intro j _ hj
    have a := h1 j (by omega) (by omega)
    have b' := h2 j (by omega)
    have c' := h3 j (by omega)
    rw [decide_eq_true_eq] at a ⊢
    exact ⟨by omega, by omega, by omega, by omega, a⟩
  have h2 := hf2
  simp only [cond_true]
  rw [allF_iff] at h0 h2
  have q0 := fun j (hj : j < b.length) => by have := h0 j (by omega) (by omega); rwa [decide_eq_true_eq] at this
  have q2 := fun j (hj : j < q.length) => by have := h2 j (by omega) (by omega); rwa [decide_eq_true_eq] at this
  rw [decide_eq_true (show okTable c w b d t e n q from ⟨g1, g2, g3, g4, g5, g6, g7, g8, g9, g10, g11, ?_, ?_, ?_, g15, g16, ?_, ?_⟩)]
  · rw [allF_iff]
    intro j _ hj
    rw [decide_eq_true_eq]
    exact (q2 j (by omega)).2.2.2.2
  · rw [allIn_iff]
    intro j hj
    have := q0 j hj
    omega
  · rw [allIn_iff]
    intro j hj
    have := q0 j (by omega)
    omega
  · rw [allIn_iff]
    intro j hj
    have := q2 j hj
    omega
  · rw [allIn_iff]
    intro j hj
    have := q2 j (by omega)
    omega
/-- The sum of bytes. -/
def tot : List Int → Int
  | [] => 0
  | x :: l => x + tot l

def Bytes (l : List Int) : Prop := ∀ x ∈ l, 0 ≤ x ∧ x ≤ 255

theorem tot_bound {l : List Int} (h : Bytes l) : 0 ≤ tot l ∧ tot l ≤ 255 * l.length := by
  induction l with
  | nil => simp [tot]
  | cons x l ih =>
    have h1 := h x (by simp)
    have h2 := ih (fun y hy => h y (by simp [hy]))
    simp only [tot, List.length_cons]
    omega

theorem Bytes.drop {l : List Int} (h : Bytes l) (i : Nat) : Bytes (l.drop i) := fun x hx => h x (List.mem_of_mem_drop hx)

theorem specSum_l0 {R : Type} (N : Nat) (l : List Int) (hl : l.length ≤ 1048576) (hb : Bytes l) (k : Int → Option R) : ∀ (d n i : Nat) (s : Int), i + d = l.length → d < n → 0 ≤ s → s < 65536 → F.spec_l3Sum_l0 N n l s (i : Int) k = k ((s + tot (l.drop i)) % 65536) := by
  intro d
  induction d with
  | zero =>
    intro n i s hi hn h0 h1
    obtain ⟨n, rfl⟩ : ∃ m, n = m + 1 := ⟨n - 1, by omega⟩
    simp only [F.spec_l3Sum_l0, F.spec_l3Sum_l0_s, Bool.cond_decide]
    rw [if_neg (by omega), List.drop_of_length_le (by omega)]
    simp only [tot]
    rw [show (s + 0) % 65536 = s by omega]
  | succ d ih =>
    intro n i s hi hn h0 h1
    obtain ⟨n, rfl⟩ : ∃ m, n = m + 1 := ⟨n - 1, by omega⟩
    simp only [F.spec_l3Sum_l0, F.spec_l3Sum_l0_s]
    have hx := hb l[i] (List.getElem_mem (by omega))
    rw [decide_eq_true (show (i : Int) < (l.length : Int) by omega), inB_true (by omega) (by omega), wrap_id (n := (i : Int) + 1) (by omega) (by omega), show (!(65536 == 0)) = true from rfl]
    simp only [cond_true, Int.toNat_natCast]
    rw [getD_get l (show i < l.length by omega), wrap_id (n := l[i]) (by omega) (by omega), wrap_id (n := s + l[i]) (by omega) (by omega), Int.tmod_eq_emod_of_nonneg (by omega)]
    have := ih n (i + 1) ((s + l[i]) % 65536) (by omega) (by omega) (by omega) (by omega)
    rw [show ((i + 1 : Nat) : Int) = (i : Int) + 1 by omega] at this
    rw [this, List.drop_eq_getElem_cons (show i < l.length by omega)]
    simp only [tot]
    congr 1
    omega

theorem specSum {R : Type} (N : Nat) (l : List Int) (hl : l.length ≤ 1048576) (hb : Bytes l) (hN : 1048576 < N) (k : Int → Option R) : F.spec_l3Sum N l k = k (tot l % 65536) := by
  simp only [F.spec_l3Sum]
  have := specSum_l0 N l hl hb k l.length N 0 0 (by omega) (by omega) (by omega) (by omega)
  rw [show ((0 : Nat) : Int) = 0 from rfl] at this
  rw [this, Int.zero_add]
  rfl

theorem implSum_l0 {R : Type} (N : Nat) (l : List Int) (hl : l.length ≤ 1048576) (hb : Bytes l) (k : Int → Option R) : ∀ (d n i : Nat) (s : Int), i + d = l.length → d < n → 0 ≤ s → s ≤ 255 * i → F.impl_sum_l0 N n s l (l.length : Int) (i : Int) k = k (s + tot (l.drop i)) := by
  intro d
  induction d with
  | zero =>
    intro n i s hi hn h0 h1
    obtain ⟨n, rfl⟩ : ∃ m, n = m + 1 := ⟨n - 1, by omega⟩
    simp only [F.impl_sum_l0, F.impl_sum_l0_s, Bool.cond_decide]
    rw [if_neg (by omega), List.drop_of_length_le (by omega)]
    simp only [tot, Int.add_zero]
  | succ d ih =>
    intro n i s hi hn h0 h1
    obtain ⟨n, rfl⟩ : ∃ m, n = m + 1 := ⟨n - 1, by omega⟩
    simp only [F.impl_sum_l0, F.impl_sum_l0_s]
    have hx := hb l[i] (List.getElem_mem (by omega))
    rw [decide_eq_true (show (i : Int) < (l.length : Int) by omega), inB_true (by omega) (by omega), wrap_id (n := (i : Int) + 1) (by omega) (by omega)]
    simp only [cond_true, Int.toNat_natCast]
    rw [getD_get l (show i < l.length by omega), wrap_id (n := l[i]) (by omega) (by omega), wrap_id (n := s + l[i]) (by omega) (by omega)]
    have := ih n (i + 1) (s + l[i]) (by omega) (by omega) (by omega) (by omega)
    rw [show ((i + 1 : Nat) : Int) = (i : Int) + 1 by omega] at this
    rw [this, List.drop_eq_getElem_cons (show i < l.length by omega)]
    simp only [tot, Int.add_assoc]

theorem implSum {R : Type} (N : Nat) (l : List Int) (hl : l.length ≤ 1048576) (hb : Bytes l) (hN : 1048576 < N) (k : Int → Option R) : F.impl_sum N l k = k (tot l % 65536) := by
  simp only [F.impl_sum]
  have := implSum_l0 N l hl hb (fun y6 => bif !(65536 == 0) then k (Int.tmod y6 65536) else none) l.length N 0 0 (by omega) (by omega) (by omega) (by omega)
  rw [show ((0 : Nat) : Int) = 0 from rfl] at this
  rw [this, show (!(65536 == 0)) = true from rfl, Int.zero_add]
  simp only [cond_true, List.drop_zero]
  rw [Int.tmod_eq_emod_of_nonneg (tot_bound hb).1]
/-! ### marks -/

/-- From k on, one after the other. -/
def upFrom : Int → Nat → List Int
  | _, 0 => []
  | k, d + 1 => k :: upFrom (k + 1) d

theorem upFrom_len : ∀ (d : Nat) (k : Int), (upFrom k d).length = d
  | 0, _ => rfl
  | d + 1, k => by simp [upFrom, upFrom_len d (k + 1)]

theorem upFrom_get : ∀ (d i : Nat) (k : Int), i < d → List.getD (upFrom k d) i (0 : Int) = k + i
  | 0, _, _, h => by omega
  | d + 1, 0, k, _ => by simp [upFrom]
  | d + 1, i + 1, k, h => by
    simp only [upFrom, List.getD_cons_succ]
    rw [upFrom_get d i (k + 1) (by omega)]
    omega

theorem upFrom_succ : ∀ (i : Nat) (k : Int), upFrom k (i + 1) = upFrom k i ++ [k + i]
  | 0, k => by simp [upFrom]
  | i + 1, k => by
    rw [show upFrom k (i + 1 + 1) = k :: upFrom (k + 1) (i + 1) from rfl, upFrom_succ i (k + 1)]
    simp only [upFrom, List.cons_append]
    congr 2
    simp
    omega

theorem mark_l0 {R : Type} (N : Nat) (l : List Int) (hl : l.length ≤ 1048576) (k : Int) (h0 : 0 ≤ k) (h1 : k ≤ 1099511627776) (q : Int → List Int → Option R) : ∀ (d m i : Nat), i + d = l.length → d < m →
    F.laws_markIntS_l0 N m (k + i) (i : Int) (upFrom k i ++ l.drop i) q = q (k + l.length) (upFrom k l.length) := by
  intro d
  induction d with
  | zero =>
    intro m i hi hm
    obtain ⟨m, rfl⟩ : ∃ z, m = z + 1 := ⟨m - 1, by omega⟩
    simp only [F.laws_markIntS_l0, F.laws_markIntS_l0_s, Bool.cond_decide]
    rw [if_neg (by simp [upFrom_len]; omega), List.drop_of_length_le (by omega), show i = l.length by omega, List.append_nil]
  | succ d ih =>
    intro m i hi hm
    obtain ⟨m, rfl⟩ : ∃ z, m = z + 1 := ⟨m - 1, by omega⟩
    have hlen : (upFrom k i ++ l.drop i).length = l.length := by simp [upFrom_len]; omega
    simp only [F.laws_markIntS_l0, F.laws_markIntS_l0_s, Bool.cond_decide]
    rw [if_pos (by rw [hlen]; omega), inB_true (by omega) (by rw [hlen]; omega), wrap_id (by omega) (by omega), wrap_id (by omega) (by omega)]
    simp only [cond_true, Int.toNat_natCast]
    have := ih m (i + 1) (by omega) (by omega)
    rw [show ((i + 1 : Nat) : Int) = (i : Int) + 1 by omega, show k + ((i : Int) + 1) = k + i + 1 by omega] at this
    rw [← this]
    congr 1
    rw [List.set_append_right _ _ (by rw [upFrom_len]; omega), upFrom_len, Nat.sub_self, List.drop_eq_getElem_cons (by omega), List.set_cons_zero, upFrom_succ, List.append_assoc]
    rfl

theorem markIntS {R : Type} (N : Nat) (l : List Int) (hl : l.length ≤ 1048576) (k : Int) (h0 : 0 ≤ k) (h1 : k ≤ 1099511627776) (hN : 1048576 < N) (q : Int → List Int → Option R) : F.laws_markIntS N k l q = q (k + l.length) (upFrom k l.length) := by
  simp only [F.laws_markIntS]
  have := mark_l0 N l hl k h0 h1 q l.length N 0 (by omega) (by omega)
  simp only [Int.natCast_zero, Int.add_zero, upFrom, List.nil_append, List.drop_zero] at this
  exact this

theorem held_l0 {R : Type} (N : Nat) (n : Nat) (hl : n ≤ 1048576) (k : Int) (h0 : 0 ≤ k) (h1 : k ≤ 1099511627776) (q : Int → Option R) (q2 : Int → Int → Option R) : ∀ (d m i : Nat), i + d = n → d < m →
    F.laws_heldIntS_l0 N m (upFrom k n) (k + i) (i : Int) q q2 = q (k + n) := by
  intro d
  induction d with
  | zero =>
    intro m i hi hm
    obtain ⟨m, rfl⟩ : ∃ z, m = z + 1 := ⟨m - 1, by omega⟩
    simp only [F.laws_heldIntS_l0, F.laws_heldIntS_l0_s, Bool.cond_decide]
    rw [if_neg (by simp [upFrom_len]; omega), show i = n by omega]
  | succ d ih =>
    intro m i hi hm
    obtain ⟨m, rfl⟩ : ∃ z, m = z + 1 := ⟨m - 1, by omega⟩
    simp only [F.laws_heldIntS_l0, F.laws_heldIntS_l0_s, Bool.cond_decide, upFrom_len]
    rw [if_pos (by omega), inB_true (by omega) (by omega), wrap_id (by omega) (by omega), wrap_id (by omega) (by omega)]
    simp only [cond_true, Int.toNat_natCast]
    rw [upFrom_get n i k (by omega), show ((k + (i : Int)) != k + i) = false by simp, cond_false]
    have := ih m (i + 1) (by omega) (by omega)
    rw [show ((i + 1 : Nat) : Int) = (i : Int) + 1 by omega, show k + ((i : Int) + 1) = k + i + 1 by omega] at this
    exact this

theorem heldIntS {R : Type} (N : Nat) (n : Nat) (hl : n ≤ 1048576) (k : Int) (h0 : 0 ≤ k) (h1 : k ≤ 1099511627776) (hN : 1048576 < N) (q : Int → Option R) : F.laws_heldIntS N (upFrom k n) k q = q (k + n) := by
  simp only [F.laws_heldIntS]
  have := held_l0 N n hl k h0 h1 q (fun y7 y8 => q y8) n N 0 (by omega) (by omega)
  simp only [Int.natCast_zero, Int.add_zero] at this
  exact this
/-! ### loading an image -/

/-- The number in two bytes. -/
def two (l : List Int) (i : Nat) : Int := List.getD l i 0 * 256 + List.getD l (i + 1) 0

def optN (n : Int) : Int := if n = 65535 then -1 else n

theorem Bytes.get {l : List Int} (h : Bytes l) (i : Nat) : 0 ≤ List.getD l i 0 ∧ List.getD l i 0 ≤ 255 := by
  by_cases hi : i < l.length
  · rw [getD_get l hi]; exact h _ (List.getElem_mem hi)
  · rw [List.getD_eq_getElem?_getD, List.getElem?_eq_none (by omega)]; simp

theorem two_bound {l : List Int} (h : Bytes l) (i : Nat) : 0 ≤ two l i ∧ two l i ≤ 65535 := by
  have h1 := h.get i
  have h2 := h.get (i + 1)
  simp only [two]
  omega

theorem optN_bound {l : List Int} (h : Bytes l) (i : Nat) : -1 ≤ optN (two l i) ∧ optN (two l i) ≤ 65535 := by
  have := two_bound h i
  unfold optN
  split <;> omega

theorem getD_drop (l : List Int) (a i : Nat) : List.getD (l.drop a) i 0 = List.getD l (a + i) 0 := by
  simp [List.getD_eq_getElem?_getD]

theorem two_drop (l : List Int) (a i : Nat) : two (l.drop a) i = two l (a + i) := by
  simp only [two, getD_drop, Nat.add_assoc]

theorem or_two {a b : Int} (ha : 0 ≤ a ∧ a ≤ 255) (hb : 0 ≤ b ∧ b ≤ 255) : wrapK .i64 ((BitVec.ofInt 64 (wrapK .i64 (wrapK .i64 a * 2 ^ min (Int.toNat 8) 64)) ||| BitVec.ofInt 64 (wrapK .i64 b)).toNat : Int) = a * 256 + b := by
  obtain ⟨x, rfl⟩ := Int.eq_ofNat_of_zero_le ha.1
  obtain ⟨y, rfl⟩ := Int.eq_ofNat_of_zero_le hb.1
  have e : ((2 : Int) ^ min (Int.toNat 8) 64) = 256 := rfl
  rw [wrap_id (n := (x : Int)) (by omega) (by omega), e, wrap_id (n := (x : Int) * 256) (by omega) (by omega), wrap_id (n := (y : Int)) (by omega) (by omega)]
  have h1 : BitVec.ofInt 64 ((x : Int) * 256) = BitVec.ofNat 64 (x * 256) := by
    rw [show ((x : Int) * 256) = ((x * 256 : Nat) : Int) by omega, BitVec.ofInt_natCast]
  have h2 : BitVec.ofInt 64 (y : Int) = BitVec.ofNat 64 y := BitVec.ofInt_natCast ..
  rw [h1, h2, BitVec.toNat_or, BitVec.toNat_ofNat, BitVec.toNat_ofNat, Nat.mod_eq_of_lt (by omega), Nat.mod_eq_of_lt (by omega)]
  have h3 : x * 256 ||| y = x * 256 + y := by
    have := Nat.two_pow_add_eq_or_of_lt (i := 8) (b := y) (by omega) x
    rw [Nat.mul_comm, ← this]
  rw [h3, wrap_id (by omega) (by omega)]
  omega

theorem take_rest (l : List Int) : List.take (l.length - Int.toNat 2) (l.drop (Int.toNat 2)) = l.drop 2 := by
  rw [show Int.toNat 2 = 2 from rfl, List.take_of_length_le (by simp)]

theorem implTake {R : Type} (x1 : Int) {l : List Int} (hb : Bytes l) (hl : 2 ≤ l.length) (k : Int → Int → List Int → List Int → List Int → List Int → List Int → List Int → List Int → List Int → Option R) : F.impl_cursor_take x1 l k = k (two l 0) x1 (l.drop 2) [] [] [] [] [] [] [] := by
  simp only [F.impl_cursor_take]
  rw [inB_true (by omega) (by omega), inB_true (by omega) (by omega)]
  have e : (decide (0 ≤ 2) && decide ((2 : Int) ≤ (l.length : Int))) = true := by simp; omega
  simp only [cond_true, show decide (0 ≤ 8) = true from rfl, e]
  rw [take_rest, show Int.toNat 0 = 0 from rfl, show Int.toNat 1 = 1 from rfl, or_two (hb.get 0) (hb.get 1)]
  rfl

theorem implTake1 {R : Type} (x1 : Int) {l : List Int} (c b d t e n q : List Int) (hb : Bytes l) (hl : 2 ≤ l.length) (k : Int → Int → List Int → List Int → List Int → List Int → List Int → List Int → List Int → List Int → Option R) : F.impl_cursor_take_v1 x1 l c b d t e n q k = k (two l 0) x1 c b d t e n q (l.drop 2) := by
  simp only [F.impl_cursor_take_v1]
  rw [inB_true (by omega) (by omega), inB_true (by omega) (by omega)]
  have e : (decide (0 ≤ 2) && decide ((2 : Int) ≤ (l.length : Int))) = true := by simp; omega
  simp only [cond_true, show decide (0 ≤ 8) = true from rfl, e]
  rw [take_rest, show Int.toNat 0 = 0 from rfl, show Int.toNat 1 = 1 from rfl, or_two (hb.get 0) (hb.get 1)]
  rfl

theorem implTake2 {R : Type} {l : List Int} (hb : Bytes l) (hl : 2 ≤ l.length) (k : Int → List Int → Option R) : F.impl_cursor_take_v2 l k = k (two l 0) (l.drop 2) := by
  simp only [F.impl_cursor_take_v2]
  rw [inB_true (by omega) (by omega), inB_true (by omega) (by omega)]
  have e : (decide (0 ≤ 2) && decide ((2 : Int) ≤ (l.length : Int))) = true := by simp; omega
  simp only [cond_true, show decide (0 ≤ 8) = true from rfl, e]
  rw [take_rest, show Int.toNat 0 = 0 from rfl, show Int.toNat 1 = 1 from rfl, or_two (hb.get 0) (hb.get 1)]
  rfl

theorem implSigned {R : Type} (x1 : Int) {l : List Int} (c b d t e n q : List Int) (hb : Bytes l) (hl : 2 ≤ l.length) (k : Int → Int → List Int → List Int → List Int → List Int → List Int → List Int → List Int → List Int → Option R) : F.impl_imageReader_signed x1 l c b d t e n q k = k (optN (two l 0)) x1 c b d t e n q (l.drop 2) := by
  simp only [F.impl_imageReader_signed]
  rw [implTake1 x1 c b d t e n q hb hl]
  unfold optN
  by_cases h : two l 0 = 65535
  · rw [if_pos h, h]; rfl
  · rw [if_neg h]
    have : (two l 0 == 65535) = false := by simpa using h
    rw [this]
    rfl

/-! ### the reference's numbers -/

theorem strInts_len (s : List UInt8) : (strInts s).length = s.length := by simp [strInts]

theorem strInts_bytes (s : List UInt8) : Bytes (strInts s) := by
  intro x hx
  simp only [strInts, List.mem_map] at hx
  obtain ⟨b, _, rfl⟩ := hx
  have := b.toNat_lt
  omega

theorem byteAt_eq (s : List UInt8) (i : Int) (h : i.toNat < s.length) : byteAt s i = List.getD (strInts s) i.toNat 0 := by
  rw [getD_get _ (by rw [strInts_len]; exact h)]
  simp [byteAt, strInts, List.getD_eq_getElem?_getD, h]

theorem specNum {R : Type} (s : List UInt8) (hs : s.length ≤ 1048576) (i : Nat) (h : i + 1 < s.length) (k : Int → Option R) : F.spec_l3Num s (i : Int) k = k (two (strInts s) i) := by
  simp only [F.spec_l3Num]
  rw [inB_true (by omega) (by omega), wrap_id (n := (i : Int) + 1) (by omega) (by omega), inB_true (by omega) (by omega)]
  simp only [cond_true]
  rw [byteAt_eq s _ (by omega), byteAt_eq s _ (by omega), show ((i : Int) + 1).toNat = i + 1 by omega, show ((i : Int)).toNat = i by omega]
  have h1 := (strInts_bytes s).get i
  have h2 := (strInts_bytes s).get (i + 1)
  rw [wrap_id (n := List.getD (strInts s) i 0) (by omega) (by omega), wrap_id (n := List.getD (strInts s) i 0 * 256) (by omega) (by omega), wrap_id (n := List.getD (strInts s) (i + 1) 0) (by omega) (by omega), wrap_id (by omega) (by omega)]
  rfl

theorem specOpt {R : Type} (s : List UInt8) (hs : s.length ≤ 1048576) (i : Nat) (h : i + 1 < s.length) (k : Int → Option R) : F.spec_l3Opt s (i : Int) k = k (optN (two (strInts s) i)) := by
  simp only [F.spec_l3Opt]
  rw [specNum s hs i h]
  unfold optN
  by_cases h : two (strInts s) i = 65535
  · rw [if_pos h, h]; rfl
  · rw [if_neg h]
    have : (two (strInts s) i == 65535) = false := by simpa using h
    rw [this]
    rfl

/-- Numbers for d places from i on. -/
def gen (f : Nat → Int) : Nat → Nat → List Int
  | 0, _ => []
  | d + 1, i => f i :: gen f d (i + 1)

theorem gen_len (f : Nat → Int) : ∀ d i, (gen f d i).length = d
  | 0, _ => rfl
  | d + 1, i => by simp [gen, gen_len f d]

theorem room8 {a b : Nat} (h : a + b ≤ 2097152) : Nat.ble (a + b) (bigOf 8) = true := by
  rw [Nat.ble_eq]
  simp only [bigOf]
  omega

def clsN (l : List Int) (i : Nat) : Int := List.getD l (10 + i) 0
def baseN (l : List Int) (s : Nat) : Int := two l (266 + 8 * s)
def defN (l : List Int) (s : Nat) : Int := two l (266 + 8 * s + 2)
def tagN (l : List Int) (s : Nat) : Int := optN (two l (266 + 8 * s + 4))
def endN (l : List Int) (s : Nat) : Int := optN (two l (266 + 8 * s + 6))
def nextN (l : List Int) (n k : Nat) : Int := two l (266 + 8 * n + 4 * k)
def chkN (l : List Int) (n k : Nat) : Int := optN (two l (266 + 8 * n + 4 * k + 2))

theorem spec_l0 {R : Type} (N : Nat) (s : List UInt8) (hs : s.length ≤ 1048576) (hl : 268 ≤ s.length) (x10 x11 x13 x14 : Int) (x15 x16 x17 x18 x19 x20 x21 x23 x24 x25 x26 x27 x28 : List Int)
    (k : List UInt8 → Int → Int → Int → Int → List Int → List Int → List Int → List Int → List Int → List Int → List Int → List Int → List Int → List Int → List Int → List Int → List Int → List Int → Option R) : ∀ (d m i : Nat) (c : List Int), i + d = 256 → d < m → c.length + d ≤ 1048576 →
    F.spec_Load_l0 N m s x10 x11 (i : Int) x13 x14 x15 x16 x17 x18 x19 x20 x21 c x23 x24 x25 x26 x27 x28 k = k s x10 x11 x13 x14 x15 x16 x17 x18 x19 x20 x21 (c ++ gen (clsN (strInts s)) d i) x23 x24 x25 x26 x27 x28 := by
  intro d
  induction d with
  | zero =>
    intro m i c hi hm hc
    obtain ⟨m, rfl⟩ : ∃ z, m = z + 1 := ⟨m - 1, by omega⟩
    simp only [F.spec_Load_l0, F.spec_Load_l0_s, Bool.cond_decide]
    rw [if_neg (by omega)]
    simp [gen]
  | succ d ih =>
    intro m i c hi hm hc
    obtain ⟨m, rfl⟩ : ∃ z, m = z + 1 := ⟨m - 1, by omega⟩
    simp only [F.spec_Load_l0, F.spec_Load_l0_s]
    have hb := (strInts_bytes s).get (10 + i)
    rw [decide_eq_true (show (i : Int) < 256 by omega), wrap_id (n := 10 + (i : Int)) (by omega) (by omega), inB_true (by omega) (by omega), wrap_id (n := (i : Int) + 1) (by omega) (by omega), byteAt_eq s _ (by omega), show (10 + (i : Int)).toNat = 10 + i by omega, wrap_id (n := List.getD (strInts s) (10 + i) 0) (by omega) (by omega)]
    simp only [cond_true]
    rw [room8 (by simp only [List.length_cons, List.length_nil]; omega)]
    simp only [cond_true]
    have := ih m (i + 1) (c ++ [List.getD (strInts s) (10 + i) 0]) (by omega) (by omega) (by simp; omega)
    rw [show ((i + 1 : Nat) : Int) = (i : Int) + 1 by omega] at this
    rw [this]
    simp [gen, clsN]

theorem spec_l2 {R : Type} (N : Nat) (s : List UInt8) (hs : s.length ≤ 1048576) (n : Nat) (hl : 268 + 8 * n ≤ s.length) (x50 x52 x53 : Int) (x54 x55 x56 x57 x58 x59 x60 x61 x66 x67 : List Int)
    (k : List UInt8 → Int → Int → Int → Int → List Int → List Int → List Int → List Int → List Int → List Int → List Int → List Int → List Int → List Int → List Int → List Int → List Int → List Int → Option R) : ∀ (d m i : Nat) (b q t e : List Int), i + d = n → d < m → b.length + d ≤ 1048576 → q.length + d ≤ 1048576 → t.length + d ≤ 1048576 → e.length + d ≤ 1048576 →
    F.spec_Load_l2 N m s (n : Int) x50 (i : Int) x52 x53 x54 x55 x56 x57 x58 x59 x60 x61 b q t e x66 x67 k = k s (n : Int) x50 x52 x53 x54 x55 x56 x57 x58 x59 x60 x61 (b ++ gen (baseN (strInts s)) d i) (q ++ gen (defN (strInts s)) d i) (t ++ gen (tagN (strInts s)) d i) (e ++ gen (endN (strInts s)) d i) x66 x67 := by
  intro d
  induction d with
  | zero =>
    intro m i b q t e hi hm h1 h2 h3 h4
    obtain ⟨m, rfl⟩ : ∃ z, m = z + 1 := ⟨m - 1, by omega⟩
    simp only [F.spec_Load_l2, F.spec_Load_l2_s, Bool.cond_decide]
    rw [if_neg (by omega)]
    simp [gen]
  | succ d ih =>
    intro m i b q t e hi hm h1 h2 h3 h4
    obtain ⟨m, rfl⟩ : ∃ z, m = z + 1 := ⟨m - 1, by omega⟩
    simp only [F.spec_Load_l2, F.spec_Load_l2_s]
    rw [decide_eq_true (show (i : Int) < (n : Int) by omega), wrap_id (n := 8 * (i : Int)) (by omega) (by omega), wrap_id (n := 266 + 8 * (i : Int)) (by omega) (by omega), wrap_id (n := 266 + 8 * (i : Int) + 2) (by omega) (by omega), wrap_id (n := 266 + 8 * (i : Int) + 4) (by omega) (by omega), wrap_id (n := 266 + 8 * (i : Int) + 6) (by omega) (by omega), wrap_id (n := (i : Int) + 1) (by omega) (by omega)]
    simp only [cond_true]
    rw [show 266 + 8 * (i : Int) = ((266 + 8 * i : Nat) : Int) by omega, specNum s hs _ (by omega), room8 (by simp only [List.length_cons, List.length_nil]; omega)]
    simp only [cond_true]
    rw [show ((266 + 8 * i : Nat) : Int) + 2 = ((266 + 8 * i + 2 : Nat) : Int) by omega, specNum s hs _ (by omega), room8 (by simp only [List.length_cons, List.length_nil]; omega)]
    simp only [cond_true]
    rw [show ((266 + 8 * i : Nat) : Int) + 4 = ((266 + 8 * i + 4 : Nat) : Int) by omega, specOpt s hs _ (by omega), room8 (by simp only [List.length_cons, List.length_nil]; omega)]
    simp only [cond_true]
    rw [show ((266 + 8 * i : Nat) : Int) + 6 = ((266 + 8 * i + 6 : Nat) : Int) by omega, specOpt s hs _ (by omega), room8 (by simp only [List.length_cons, List.length_nil]; omega)]
    simp only [cond_true]
    have := ih m (i + 1) (b ++ [baseN (strInts s) i]) (q ++ [defN (strInts s) i]) (t ++ [tagN (strInts s) i]) (e ++ [endN (strInts s) i]) (by omega) (by omega) (by simp; omega) (by simp; omega) (by simp; omega) (by simp; omega)
    rw [show ((i + 1 : Nat) : Int) = (i : Int) + 1 by omega] at this
    refine this.trans ?_
    simp [gen]

theorem spec_l4 {R : Type} (N : Nat) (s : List UInt8) (hs : s.length ≤ 1048576) (n z : Nat) (hl : 268 + 8 * n + 4 * z ≤ s.length) (x95 x96 : Int) (x97 x98 x99 x100 x101 x102 x103 x104 x105 x106 x107 x108 : List Int)
    (k : Int → Int → List Int → List Int → List Int → List Int → List Int → List Int → List Int → List Int → List Int → List Int → List Int → List Int → List Int → List Int → Option R) : ∀ (d m i : Nat) (b q : List Int), i + d = z → d < m → b.length + d ≤ 1048576 → q.length + d ≤ 1048576 →
    F.spec_Load_l4 N m s (n : Int) (z : Int) (i : Int) x95 x96 x97 x98 x99 x100 x101 x102 x103 x104 x105 x106 x107 x108 b q k = k x95 x96 x97 x98 x99 x100 x101 x102 x103 x104 x105 x106 x107 x108 (b ++ gen (nextN (strInts s) n) d i) (q ++ gen (chkN (strInts s) n) d i) := by
  intro d
  induction d with
  | zero =>
    intro m i b q hi hm h1 h2
    obtain ⟨m, rfl⟩ : ∃ z, m = z + 1 := ⟨m - 1, by omega⟩
    simp only [F.spec_Load_l4, F.spec_Load_l4_s, Bool.cond_decide]
    rw [if_neg (by omega)]
    simp [gen]
  | succ d ih =>
    intro m i b q hi hm h1 h2
    obtain ⟨m, rfl⟩ : ∃ z, m = z + 1 := ⟨m - 1, by omega⟩
    simp only [F.spec_Load_l4, F.spec_Load_l4_s]
    rw [decide_eq_true (show (i : Int) < (z : Int) by omega), wrap_id (n := 8 * (n : Int)) (by omega) (by omega), wrap_id (n := 266 + 8 * (n : Int)) (by omega) (by omega), wrap_id (n := 4 * (i : Int)) (by omega) (by omega), wrap_id (n := 266 + 8 * (n : Int) + 4 * (i : Int)) (by omega) (by omega), wrap_id (n := 266 + 8 * (n : Int) + 4 * (i : Int) + 2) (by omega) (by omega), wrap_id (n := (i : Int) + 1) (by omega) (by omega)]
    simp only [cond_true]
    rw [show 266 + 8 * (n : Int) + 4 * (i : Int) = ((266 + 8 * n + 4 * i : Nat) : Int) by omega, specNum s hs _ (by omega), room8 (by simp only [List.length_cons, List.length_nil]; omega)]
    simp only [cond_true]
    rw [show ((266 + 8 * n + 4 * i : Nat) : Int) + 2 = ((266 + 8 * n + 4 * i + 2 : Nat) : Int) by omega, specOpt s hs _ (by omega), room8 (by simp only [List.length_cons, List.length_nil]; omega)]
    simp only [cond_true]
    have := ih m (i + 1) (b ++ [nextN (strInts s) n i]) (q ++ [chkN (strInts s) n i]) (by omega) (by omega) (by simp; omega) (by simp; omega)
    rw [show ((i + 1 : Nat) : Int) = (i : Int) + 1 by omega] at this
    refine this.trans ?_
    simp [gen]

/-! ### the program's loops -/

theorem impl_r0 {R : Type} (N : Nat) (l : List Int) (hb : Bytes l) (x41 x42 x47 : Int) (x50 x51 x52 x53 x54 x55 : List Int) (k : Int → Int → Int → List Int → List Int → List Int → List Int → List Int → List Int → List Int → List Int → Option R) :
    ∀ (d m i : Nat) (c : List Int), i + d = 256 → d < m → c.length + d ≤ 1048576 →
    F.impl_imageReader_read_l0 N m x41 x42 0 256 256 (i : Int) x47 (l.drop 10) c x50 x51 x52 x53 x54 x55 k = k x41 x42 x47 (l.drop 10) (c ++ gen (clsN l) d i) x50 x51 x52 x53 x54 x55 := by
  intro d
  induction d with
  | zero =>
    intro m i c hi hm hc
    obtain ⟨m, rfl⟩ : ∃ z, m = z + 1 := ⟨m - 1, by omega⟩
    simp only [F.impl_imageReader_read_l0, F.impl_imageReader_read_l0_s, Bool.cond_decide]
    rw [if_neg (by omega)]
    simp [gen]
  | succ d ih =>
    intro m i c hi hm hc
    obtain ⟨m, rfl⟩ : ∃ z, m = z + 1 := ⟨m - 1, by omega⟩
    simp only [F.impl_imageReader_read_l0, F.impl_imageReader_read_l0_s]
    have hx := hb.get (10 + i)
    rw [decide_eq_true (show (i : Int) < 256 by omega), inB_true (by omega) (by omega), wrap_id (n := (i : Int) + 1) (by omega) (by omega), getD_drop, show 10 + (0 + (i : Int).toNat) = 10 + i by omega, wrap_id (n := List.getD l (10 + i) 0) (by omega) (by omega)]
    simp only [cond_true]
    rw [room8 (by simp only [List.length_cons, List.length_nil]; omega)]
    simp only [cond_true]
    have := ih m (i + 1) (c ++ [List.getD l (10 + i) 0]) (by omega) (by omega) (by simp; omega)
    rw [show ((i + 1 : Nat) : Int) = (i : Int) + 1 by omega] at this
    rw [this]
    simp [gen, clsN]

theorem impl_r2 {R : Type} (N : Nat) (l : List Int) (hb : Bytes l) (hs : l.length ≤ 1048576) (n : Nat) (hl : 268 + 8 * n ≤ l.length) (x67 x70 : Int) (c x n' q' : List Int) (k : Int → Int → List Int → List Int → List Int → List Int → List Int → List Int → List Int → List Int → Option R) :
    ∀ (d m i : Nat) (b q t e : List Int), i + d = n → d < m → b.length + d ≤ 1048576 → q.length + d ≤ 1048576 → t.length + d ≤ 1048576 → e.length + d ≤ 1048576 →
    F.impl_imageReader_read_l2 N m x67 (n : Int) (i : Int) x70 (l.drop (266 + 8 * i)) c b q t e n' q' k = k x67 x70 (l.drop (266 + 8 * n)) c (b ++ gen (baseN l) d i) (q ++ gen (defN l) d i) (t ++ gen (tagN l) d i) (e ++ gen (endN l) d i) n' q' := by
  intro d
  induction d with
  | zero =>
    intro m i b q t e hi hm h1 h2 h3 h4
    obtain ⟨m, rfl⟩ : ∃ z, m = z + 1 := ⟨m - 1, by omega⟩
    simp only [F.impl_imageReader_read_l2, F.impl_imageReader_read_l2_s, Bool.cond_decide]
    rw [if_neg (by omega)]
    simp [gen, show i = n by omega]
  | succ d ih =>
    intro m i b q t e hi hm h1 h2 h3 h4
    obtain ⟨m, rfl⟩ : ∃ z, m = z + 1 := ⟨m - 1, by omega⟩
    simp only [F.impl_imageReader_read_l2, F.impl_imageReader_read_l2_s]
    rw [decide_eq_true (show (i : Int) < (n : Int) by omega), wrap_id (n := (i : Int) + 1) (by omega) (by omega)]
    simp only [cond_true]
    rw [implTake1 _ _ _ _ _ _ _ _ (hb.drop _) (by simp; omega), room8 (by simp only [List.length_cons, List.length_nil]; omega)]
    simp only [cond_true, List.drop_drop, two_drop]
    rw [implTake1 _ _ _ _ _ _ _ _ (hb.drop _) (by simp; omega), room8 (by simp only [List.length_cons, List.length_nil]; omega)]
    simp only [cond_true, List.drop_drop, two_drop]
    rw [implSigned _ _ _ _ _ _ _ _ (hb.drop _) (by simp; omega), room8 (by simp only [List.length_cons, List.length_nil]; omega)]
    simp only [cond_true, List.drop_drop, two_drop]
    rw [implSigned _ _ _ _ _ _ _ _ (hb.drop _) (by simp; omega), room8 (by simp only [List.length_cons, List.length_nil]; omega)]
    simp only [cond_true, List.drop_drop, two_drop]
    have := ih m (i + 1) (b ++ [baseN l i]) (q ++ [defN l i]) (t ++ [tagN l i]) (e ++ [endN l i]) (by omega) (by omega) (by simp; omega) (by simp; omega) (by simp; omega) (by simp; omega)
    rw [show ((i + 1 : Nat) : Int) = (i : Int) + 1 by omega, show 266 + 8 * (i + 1) = 266 + 8 * i + 2 + 2 + 2 + 2 by omega] at this
    refine this.trans ?_
    simp [gen]

theorem impl_r4 {R : Type} (N : Nat) (l : List Int) (hb : Bytes l) (hs : l.length ≤ 1048576) (n z : Nat) (hl : 268 + 8 * n + 4 * z ≤ l.length) (x70 : Int) (c b d' t e : List Int) (k : Int → List Int → List Int → List Int → List Int → List Int → List Int → List Int → List Int → Option R) :
    ∀ (d m i : Nat) (x q : List Int), i + d = z → d < m → x.length + d ≤ 1048576 → q.length + d ≤ 1048576 →
    F.impl_imageReader_read_l4 N m (z : Int) (i : Int) x70 (l.drop (266 + 8 * n + 4 * i)) c b d' t e x q k = k x70 (l.drop (266 + 8 * n + 4 * z)) c b d' t e (x ++ gen (nextN l n) d i) (q ++ gen (chkN l n) d i) := by
  intro d
  induction d with
  | zero =>
    intro m i x q hi hm h1 h2
    obtain ⟨m, rfl⟩ : ∃ z, m = z + 1 := ⟨m - 1, by omega⟩
    simp only [F.impl_imageReader_read_l4, F.impl_imageReader_read_l4_s, Bool.cond_decide]
    rw [if_neg (by omega)]
    simp [gen, show i = z by omega]
  | succ d ih =>
    intro m i x q hi hm h1 h2
    obtain ⟨m, rfl⟩ : ∃ z, m = z + 1 := ⟨m - 1, by omega⟩
    simp only [F.impl_imageReader_read_l4, F.impl_imageReader_read_l4_s]
    rw [decide_eq_true (show (i : Int) < (z : Int) by omega), wrap_id (n := (i : Int) + 1) (by omega) (by omega)]
    simp only [cond_true]
    rw [implTake1 _ _ _ _ _ _ _ _ (hb.drop _) (by simp; omega), room8 (by simp only [List.length_cons, List.length_nil]; omega)]
    simp only [cond_true, List.drop_drop, two_drop]
    rw [implSigned _ _ _ _ _ _ _ _ (hb.drop _) (by simp; omega), room8 (by simp only [List.length_cons, List.length_nil]; omega)]
    simp only [cond_true, List.drop_drop, two_drop]
    have := ih m (i + 1) (x ++ [nextN l n i]) (q ++ [chkN l n i]) (by omega) (by omega) (by simp; omega) (by simp; omega)
    rw [show ((i + 1 : Nat) : Int) = (i : Int) + 1 by omega, show 266 + 8 * n + 4 * (i + 1) = 266 + 8 * n + 4 * i + 2 + 2 by omega] at this
    refine this.trans ?_
    simp [gen]

/-! ### both sides -/

def clsL (l : List Int) : List Int := gen (clsN l) 256 0
def loadedOk (l : List Int) : Prop :=
  okTable (clsL l) (two l 6) (gen (baseN l) (two l 4).toNat 0) (gen (defN l) (two l 4).toNat 0) (gen (tagN l) (two l 4).toNat 0) (gen (endN l) (two l 4).toNat 0)
    (gen (nextN l (two l 4).toNat) (two l 8).toNat 0) (gen (chkN l (two l 4).toNat) (two l 8).toNat 0)

instance (l : List Int) : Decidable (loadedOk l) := by unfold loadedOk okTable; infer_instance

def loaded {R : Type} (s : List UInt8) (kf : Int → Option R) (kt : Int → List Int → List Int → List Int → List Int → List Int → List Int → List Int → Option R) : Option R :=
  if s.length < 268 then kf 1
  else if s.take 4 ≠ [88, 68, 70, 49] then kf 2
  else if ¬ (1 ≤ two (strInts s) 4 ∧ two (strInts s) 4 ≤ 4000 ∧ 1 ≤ two (strInts s) 6 ∧ two (strInts s) 6 ≤ 256 ∧ two (strInts s) 8 ≤ 60000) then kf 3
  else if (s.length : Int) ≠ 268 + 8 * two (strInts s) 4 + 4 * two (strInts s) 8 then kf 4
  else if tot ((strInts s).take (s.length - 2)) % 65536 ≠ two (strInts s) (s.length - 2) then kf 5
  else if ¬ loadedOk (strInts s) then kf 6
  else kt (two (strInts s) 6) (clsL (strInts s)) (gen (baseN (strInts s)) (two (strInts s) 4).toNat 0) (gen (defN (strInts s)) (two (strInts s) 4).toNat 0) (gen (tagN (strInts s)) (two (strInts s) 4).toNat 0) (gen (endN (strInts s)) (two (strInts s) 4).toNat 0)
    (gen (nextN (strInts s) (two (strInts s) 4).toNat) (two (strInts s) 8).toNat 0) (gen (chkN (strInts s) (two (strInts s) 4).toNat) (two (strInts s) 8).toNat 0)

theorem strInts_take (s : List UInt8) (n : Nat) : strInts (s.take n) = (strInts s).take n := by simp [strInts, List.map_take]
theorem strInts_drop (s : List UInt8) (n : Nat) : strInts (s.drop n) = (strInts s).drop n := by simp [strInts, List.map_drop]

theorem bigB {n : Nat} (h : n ≤ 1048576) : Nat.ble n big = true := by
  rw [Nat.ble_eq]; simp only [big]; omega

theorem specBetween {R : Type} (x a b : Int) (k : Bool → Option R) : F.spec_l1Between x a b k = k (decide (a ≤ x ∧ x ≤ b)) := by
  simp only [F.spec_l1Between, Bool.cond_decide]
  by_cases h : a ≤ x
  · rw [if_pos h]; simp [h]
  · rw [if_neg h]; simp [h]

theorem and4 {s : List UInt8} (h : 268 ≤ s.length) : (decide (0 ≤ 4) && decide ((4 : Int) ≤ (s.length : Int))) = true := by simp; omega

theorem andSub {s : List UInt8} (h : 268 ≤ s.length) (hs : s.length ≤ 1048576) : (decide (0 ≤ (wrapK .i64 ((List.length s : Int) - 2))) && decide ((wrapK .i64 ((List.length s : Int) - 2)) ≤ (List.length s : Int))) = true := by
  rw [wrap_id (by omega) (by omega)]; simp; omega

theorem specLoad {R : Type} (N : Nat) (hN : 1048576 < N) (s : List UInt8) (hs : s.length ≤ 1048576) (k : Int → Int → List Int → List Int → List Int → List Int → List Int → List Int → List Int → Option R) :
    F.spec_Load N s k = loaded s (fun c => k 0 c [] [] [] [] [] [] []) (fun w => k w 0) := by
  have hB := strInts_bytes s
  have hL := strInts_len s
  unfold F.spec_Load loaded
  by_cases h0 : s.length < 268
  · rw [Bool.cond_decide, if_pos (by omega), if_pos h0]
  rw [Bool.cond_decide, if_neg (by omega), if_neg h0, and4 (by omega)]
  simp only [cond_true, List.drop_zero, show Int.toNat 4 = 4 from rfl]
  by_cases h1 : s.take 4 = [88, 68, 70, 49]
  case neg =>
    rw [if_pos h1]
    have : (s.take 4 == [88, 68, 70, 49]) = false := by simpa using h1
    rw [this]
    rfl
  rw [if_neg (not_not_intro h1), h1]
  simp only [show (!(([88, 68, 70, 49] : List UInt8) == [88, 68, 70, 49])) = false from rfl, cond_false]
  rw [show (4 : Int) = ((4 : Nat) : Int) from rfl, specNum s hs 4 (by omega), show (6 : Int) = ((6 : Nat) : Int) from rfl, specNum s hs 6 (by omega), show (8 : Int) = ((8 : Nat) : Int) from rfl, specNum s hs 8 (by omega)]
  simp only [specBetween]
  have b4 := two_bound hB 4
  have b6 := two_bound hB 6
  have b8 := two_bound hB 8
  by_cases h2 : 1 ≤ two (strInts s) 4 ∧ two (strInts s) 4 ≤ 4000
  case neg =>
    rw [if_pos (by rintro ⟨a, b, _⟩; exact h2 ⟨a, b⟩), decide_eq_false h2]
    rfl
  rw [decide_eq_true h2]
  simp only [Bool.not_true, cond_false]
  by_cases h3 : 1 ≤ two (strInts s) 6 ∧ two (strInts s) 6 ≤ 256
  case neg =>
    rw [if_pos (by rintro ⟨_, _, a, b, _⟩; exact h3 ⟨a, b⟩), decide_eq_false h3]
    rfl
  rw [decide_eq_true h3]
  simp only [Bool.not_true, cond_false]
  by_cases h4 : two (strInts s) 8 ≤ 60000
  case neg =>
    rw [if_pos (by rintro ⟨_, _, _, _, a⟩; exact h4 a), Bool.cond_decide, if_pos (by omega)]
  rw [Bool.cond_decide, if_neg (by omega), if_neg (not_not_intro ⟨h2.1, h2.2, h3.1, h3.2, h4⟩)]
  rw [show ((8 : Nat) : Int) = 8 from rfl, show ((4 : Nat) : Int) = 4 from rfl, wrap_id (n := 8 * two (strInts s) 4) (by omega) (by omega), wrap_id (n := 268 + 8 * two (strInts s) 4) (by omega) (by omega), wrap_id (n := 4 * two (strInts s) 8) (by omega) (by omega), wrap_id (n := 268 + 8 * two (strInts s) 4 + 4 * two (strInts s) 8) (by omega) (by omega)]
  by_cases h5 : (s.length : Int) = 268 + 8 * two (strInts s) 4 + 4 * two (strInts s) 8
  case neg =>
    rw [if_pos h5]
    have : ((s.length : Int) != 268 + 8 * two (strInts s) 4 + 4 * two (strInts s) 8) = true := by simpa using h5
    rw [this]
    rfl
  rw [if_neg (not_not_intro h5), andSub (by omega) hs]
  have : ((s.length : Int) != 268 + 8 * two (strInts s) 4 + 4 * two (strInts s) 8) = false := by simpa using h5
  rw [this]
  simp only [cond_false, cond_true]
  rw [wrap_id (n := (s.length : Int) - 2) (by omega) (by omega), show ((s.length : Int) - 2).toNat = s.length - 2 by omega, bigB (by simp; omega)]
  simp only [cond_true]
  rw [specSum N _ (by simp [strInts]; omega) (strInts_bytes _) hN, show (s.length : Int) - 2 = ((s.length - 2 : Nat) : Int) by omega, specNum s hs _ (by omega), strInts_take]
  by_cases h6 : tot ((strInts s).take (s.length - 2)) % 65536 = two (strInts s) (s.length - 2)
  case neg =>
    rw [if_pos h6]
    have : (tot ((strInts s).take (s.length - 2)) % 65536 != two (strInts s) (s.length - 2)) = true := by simpa using h6
    rw [this]
    rfl
  rw [if_neg (not_not_intro h6)]
  have : (tot ((strInts s).take (s.length - 2)) % 65536 != two (strInts s) (s.length - 2)) = false := by simpa using h6
  rw [this]
  simp only [cond_false]
  obtain ⟨n, hn⟩ := Int.eq_ofNat_of_zero_le b4.1
  obtain ⟨z, hz⟩ := Int.eq_ofNat_of_zero_le b8.1
  have hnn : (two (strInts s) 4).toNat = n := by omega
  have hzz : (two (strInts s) 8).toNat = z := by omega
  have e0 := spec_l0 (R := R) N s hs (by omega) n z 0 (two (strInts s) 6) [] [] [] [] [] [] [] [] [] [] [] [] []
  have h7' : loadedOk (strInts s) ↔ okTable (gen (clsN (strInts s)) 256 0) (two (strInts s) 6) (gen (baseN (strInts s)) n 0) (gen (defN (strInts s)) n 0) (gen (tagN (strInts s)) n 0) (gen (endN (strInts s)) n 0) (gen (nextN (strInts s) n) z 0) (gen (chkN (strInts s) n) z 0) := by
    unfold loadedOk clsL
    rw [hnn, hzz]
  have key : ∀ K, F.spec_Load_l0 (R := R) N N s (two (strInts s) 4) (two (strInts s) 8) 0 0 (two (strInts s) 6) [] [] [] [] [] [] [] [] [] [] [] [] [] [] K = K s n z 0 (two (strInts s) 6) [] [] [] [] [] [] [] (gen (clsN (strInts s)) 256 0) [] [] [] [] [] [] := by
    intro K
    rw [hn, hz]
    exact e0 K 256 N 0 [] (by omega) (by omega) (by simp)
  rw [key]
  have key2 := fun K => spec_l2 (R := R) N s hs n (by omega) z 0 (two (strInts s) 6) [] [] [] [] [] [] [] (gen (clsN (strInts s)) 256 0) [] [] K n N 0 [] [] [] [] (by omega) (by omega) (by simp; omega) (by simp; omega) (by simp; omega) (by simp; omega)
  have key4 := fun K => spec_l4 (R := R) N s hs n z (by omega) 0 (two (strInts s) 6) [] [] [] [] [] [] [] (gen (clsN (strInts s)) 256 0) (gen (baseN (strInts s)) n 0) (gen (defN (strInts s)) n 0) (gen (tagN (strInts s)) n 0) (gen (endN (strInts s)) n 0) K z N 0 [] [] (by omega) (by omega) (by simp; omega) (by simp; omega)
  simp only [List.nil_append, Int.natCast_zero] at key2 key4
  rw [key2, key4]
  rw [specTableOK N _ _ _ _ _ _ _ _ (by rw [gen_len]; omega) (by rw [gen_len]; omega) (by rw [gen_len]; omega) (by rw [gen_len]; omega) (by rw [gen_len]; omega) (by rw [gen_len]; omega) (by rw [gen_len]; omega) hN]
  by_cases h7 : loadedOk (strInts s)
  · rw [if_neg (not_not_intro h7), decide_eq_true (h7'.1 h7)]
    simp only [Bool.not_true, cond_false]
    rw [hnn, hzz]
    rfl
  · rw [if_pos h7, decide_eq_false (fun h => h7 (h7'.2 h))]
    simp only [Bool.not_false, cond_true]

theorem must {R : Type} (b : Bool) (c : Int) (k0 : Int → Option R) (k1 : Unit → Option R) : F.impl_must b c k0 k1 = if b then k1 () else k0 c := by
  cases b <;> rfl

theorem dropAll (s : List UInt8) (n : Nat) : List.drop n (List.take s.length s) = s.drop n := by rw [List.take_length]

theorem implRead {R : Type} (N : Nat) (hN : 1048576 < N) (s : List UInt8) (hs : s.length ≤ 1048576) (k0 : Int → Option R) (k1 : Int → List Int → List Int → List Int → List Int → List Int → List Int → List Int → List Int → Option R) (kt : Int → List Int → List Int → List Int → List Int → List Int → List Int → List Int → Option R)
    (hk : ∀ w b c d e f g h i, k1 w b c d e f g h i = kt w c d e f g h i) :
    F.impl_imageReader_read N s 0 k0 k1 = loaded s k0 kt := by
  have hB := strInts_bytes s
  have hL := strInts_len s
  unfold F.impl_imageReader_read loaded
  by_cases h0 : s.length < 268
  · rw [if_pos h0, must, if_neg (by simp; omega)]
  rw [must, if_pos (by simp; omega), if_neg h0, and4 (by omega)]
  simp only [cond_true, List.drop_zero, show Int.toNat 4 = 4 from rfl]
  by_cases h1 : s.take 4 = [88, 68, 70, 49]
  case neg =>
    have : (s.take 4 == [88, 68, 70, 49]) = false := by simpa using h1
    rw [if_pos h1, must, this, if_neg (by simp)]
  rw [if_neg (not_not_intro h1), h1, must, if_pos (by rfl)]
  rw [bigB (by simp; omega)]
  simp only [cond_true]
  rw [dropAll, strInts_drop]
  rw [implTake 0 (hB.drop 4) (by simp; omega), List.drop_drop, two_drop]
  rw [implTake1 0 _ _ _ _ _ _ _ (hB.drop _) (by simp; omega), List.drop_drop, two_drop]
  rw [implTake1 0 _ _ _ _ _ _ _ (hB.drop _) (by simp; omega), List.drop_drop, two_drop]
  simp only [Nat.add_zero]
  have b4 := two_bound hB 4
  have b6 := two_bound hB 6
  have b8 := two_bound hB 8
  by_cases q1 : 1 ≤ two (strInts s) 4
  case neg =>
    rw [if_pos (by rintro ⟨a, _⟩; exact q1 a), Bool.cond_decide, if_neg (by omega), must, if_neg (by simp)]
  rw [Bool.cond_decide, if_pos (by omega)]
  by_cases q2 : two (strInts s) 4 ≤ 4000
  case neg =>
    rw [if_pos (by rintro ⟨_, a, _⟩; exact q2 a), Bool.cond_decide, if_neg (by omega), must, if_neg (by simp)]
  rw [Bool.cond_decide, if_pos (by omega)]
  by_cases q3 : 1 ≤ two (strInts s) 6
  case neg =>
    rw [if_pos (by rintro ⟨_, _, a, _⟩; exact q3 a), Bool.cond_decide, if_neg (by omega), must, if_neg (by simp)]
  rw [Bool.cond_decide, if_pos (by omega)]
  by_cases q4 : two (strInts s) 6 ≤ 256
  case neg =>
    rw [if_pos (by rintro ⟨_, _, _, a, _⟩; exact q4 a), Bool.cond_decide, if_neg (by omega), must, if_neg (by simp)]
  rw [Bool.cond_decide, if_pos (by omega)]
  by_cases h4 : two (strInts s) 8 ≤ 60000
  case neg =>
    rw [if_pos (by rintro ⟨_, _, _, _, a⟩; exact h4 a), must, if_neg (by simp; omega)]
  rw [must, if_pos (by simp; omega), if_neg (not_not_intro ⟨q1, q2, q3, q4, h4⟩)]
  rw [wrap_id (n := 8 * two (strInts s) 4) (by omega) (by omega), wrap_id (n := 268 + 8 * two (strInts s) 4) (by omega) (by omega), wrap_id (n := 4 * two (strInts s) 8) (by omega) (by omega), wrap_id (n := 268 + 8 * two (strInts s) 4 + 4 * two (strInts s) 8) (by omega) (by omega)]
  by_cases h5 : (s.length : Int) = 268 + 8 * two (strInts s) 4 + 4 * two (strInts s) 8
  case neg =>
    rw [if_pos h5, must, if_neg (by simpa using h5)]
  rw [if_neg (not_not_intro h5), must, if_pos (by simpa using h5), andSub (by omega) hs]
  simp only [cond_true]
  rw [wrap_id (n := (s.length : Int) - 2) (by omega) (by omega), show ((s.length : Int) - 2).toNat = s.length - 2 by omega, dropAll, bigB (by simp; omega)]
  simp only [cond_true]
  rw [strInts_drop, implTake2 (hB.drop _) (by simp; omega), two_drop, bigB (by simp; omega)]
  simp only [cond_true, Nat.add_zero]
  rw [implSum N _ (by simp [strInts]; omega) (strInts_bytes _) hN, strInts_take, must]
  by_cases h6 : tot ((strInts s).take (s.length - 2)) % 65536 = two (strInts s) (s.length - 2)
  case neg =>
    rw [if_pos h6, if_neg (by simpa using fun h => h6 h.symm)]
  rw [if_neg (not_not_intro h6), if_pos (by simpa using h6.symm)]
  have e256 : ∀ {l : List Int}, 256 ≤ l.length → (decide (0 ≤ 256) && decide ((256 : Int) ≤ (l.length : Int))) = true := by intro l h; simp; omega
  rw [e256 (by simp; omega)]
  simp only [cond_true]
  obtain ⟨n, hn⟩ := Int.eq_ofNat_of_zero_le b4.1
  obtain ⟨z, hz⟩ := Int.eq_ofNat_of_zero_le b8.1
  have hnn : (two (strInts s) 4).toNat = n := by omega
  have hzz : (two (strInts s) 8).toNat = z := by omega
  have h7' : loadedOk (strInts s) ↔ okTable (gen (clsN (strInts s)) 256 0) (two (strInts s) 6) (gen (baseN (strInts s)) n 0) (gen (defN (strInts s)) n 0) (gen (tagN (strInts s)) n 0) (gen (endN (strInts s)) n 0) (gen (nextN (strInts s) n) z 0) (gen (chkN (strInts s) n) z 0) := by
    unfold loadedOk clsL
    rw [hnn, hzz]
  have key : ∀ K, F.impl_imageReader_read_l0 (R := R) N N (two (strInts s) 4) (two (strInts s) 8) 0 256 256 0 (two (strInts s) 6) ((strInts s).drop 10) [] [] [] [] [] [] [] K = K (two (strInts s) 4) (two (strInts s) 8) (two (strInts s) 6) ((strInts s).drop 10) (gen (clsN (strInts s)) 256 0) [] [] [] [] [] [] :=
    fun K => impl_r0 N (strInts s) hB _ _ _ _ _ _ _ _ _ K 256 N 0 [] (by omega) (by omega) (by simp)
  have hh : ∀ (a b : Nat), a = 256 → b = 256 → ∀ K, F.impl_imageReader_read_l0 (R := R) N N (two (strInts s) 4) (two (strInts s) 8) 0 a (b : Int) 0 (two (strInts s) 6) ((strInts s).drop 10) [] [] [] [] [] [] [] K = K (two (strInts s) 4) (two (strInts s) 8) (two (strInts s) 6) ((strInts s).drop 10) (gen (clsN (strInts s)) 256 0) [] [] [] [] [] [] := by
    rintro a b rfl rfl K; exact key K
  refine (key _).trans ?_
  rw [e256 (by simp; omega)]
  simp only [cond_true]
  rw [show Int.toNat 256 = 256 from rfl, List.take_of_length_le (by simp; omega), List.drop_drop]
  have key2 := fun K => impl_r2 (R := R) N (strInts s) hB (by omega) n (by omega) (two (strInts s) 8) (two (strInts s) 6) (gen (clsN (strInts s)) 256 0) [] [] [] K n N 0 [] [] [] [] (by omega) (by omega) (by simp; omega) (by simp; omega) (by simp; omega) (by simp; omega)
  have key4 := fun K => impl_r4 (R := R) N (strInts s) hB (by omega) n z (by omega) (two (strInts s) 6) (gen (clsN (strInts s)) 256 0) (gen (baseN (strInts s)) n 0) (gen (defN (strInts s)) n 0) (gen (tagN (strInts s)) n 0) (gen (endN (strInts s)) n 0) K z N 0 [] [] (by omega) (by omega) (by simp; omega) (by simp; omega)
  simp only [List.nil_append, Int.natCast_zero, Nat.mul_zero, Nat.add_zero] at key2 key4
  rw [hz] at key2 ⊢
  rw [hn] at ⊢
  refine (key2 _).trans ?_
  rw [key4]
  rw [implTableOK N _ _ _ _ _ _ _ _ (by rw [gen_len]; omega) (by rw [gen_len]; omega) (by rw [gen_len]; omega) (by rw [gen_len]; omega) (by rw [gen_len]; omega) (by rw [gen_len]; omega) (by rw [gen_len]; omega) hN]
  rw [must]
  by_cases h7 : loadedOk (strInts s)
  · rw [if_neg (not_not_intro h7), if_pos (by simpa using h7'.1 h7), hk]
    rfl
  · rw [if_pos h7, if_neg (by simpa using fun h => h7 (h7'.2 h))]

theorem implLoad {R : Type} (N : Nat) (hN : 1048576 < N) (s : List UInt8) (hs : s.length ≤ 1048576) (k : Int → Int → List Int → List Int → List Int → List Int → List Int → List Int → List Int → Option R) :
    F.impl_Load N s k = loaded s (fun c => k 0 c [] [] [] [] [] [] []) (fun w => k w 0) := by
  unfold F.impl_Load
  exact implRead N hN s hs _ _ _ fun _ _ _ _ _ _ _ _ _ => rfl

/-- Whatever is loaded, its rows are short. -/
theorem loaded_is (s : List UInt8) (hs : s.length ≤ 1048576) : ∃ (w o : Int) (c b d t e n q : List Int), c.length ≤ 1048576 ∧ b.length ≤ 1048576 ∧ d.length ≤ 1048576 ∧ t.length ≤ 1048576 ∧ e.length ≤ 1048576 ∧ n.length ≤ 1048576 ∧ q.length ≤ 1048576 ∧
    ∀ {R : Type} (k : Int → Int → List Int → List Int → List Int → List Int → List Int → List Int → List Int → Option R), loaded s (fun c => k 0 c [] [] [] [] [] [] []) (fun w => k w 0) = k w o c b d t e n q := by
  have nil : ([] : List Int).length ≤ 1048576 := by simp
  have b4 := two_bound (strInts_bytes s) 4
  have b8 := two_bound (strInts_bytes s) 8
  have no : ∀ o : Int, (∀ {R : Type} (k : Int → Int → List Int → List Int → List Int → List Int → List Int → List Int → List Int → Option R), loaded s (fun c => k 0 c [] [] [] [] [] [] []) (fun w => k w 0) = k 0 o [] [] [] [] [] [] []) → ∃ (w o : Int) (c b d t e n q : List Int), c.length ≤ 1048576 ∧ b.length ≤ 1048576 ∧ d.length ≤ 1048576 ∧ t.length ≤ 1048576 ∧ e.length ≤ 1048576 ∧ n.length ≤ 1048576 ∧ q.length ≤ 1048576 ∧
      ∀ {R : Type} (k : Int → Int → List Int → List Int → List Int → List Int → List Int → List Int → List Int → Option R), loaded s (fun c => k 0 c [] [] [] [] [] [] []) (fun w => k w 0) = k w o c b d t e n q :=
    fun o h => ⟨0, o, [], [], [], [], [], [], [], nil, nil, nil, nil, nil, nil, nil, h⟩
  by_cases h0 : s.length < 268
  · exact no 1 fun k => by unfold loaded; rw [if_pos h0]
  by_cases h1 : s.take 4 ≠ [88, 68, 70, 49]
  · exact no 2 fun k => by unfold loaded; rw [if_neg h0, if_pos h1]
  by_cases h2 : ¬ (1 ≤ two (strInts s) 4 ∧ two (strInts s) 4 ≤ 4000 ∧ 1 ≤ two (strInts s) 6 ∧ two (strInts s) 6 ≤ 256 ∧ two (strInts s) 8 ≤ 60000)
  · exact no 3 fun k => by unfold loaded; rw [if_neg h0, if_neg h1, if_pos h2]
  by_cases h3 : (s.length : Int) ≠ 268 + 8 * two (strInts s) 4 + 4 * two (strInts s) 8
  · exact no 4 fun k => by unfold loaded; rw [if_neg h0, if_neg h1, if_neg h2, if_pos h3]
  by_cases h4 : tot ((strInts s).take (s.length - 2)) % 65536 ≠ two (strInts s) (s.length - 2)
  · exact no 5 fun k => by unfold loaded; rw [if_neg h0, if_neg h1, if_neg h2, if_neg h3, if_pos h4]
  by_cases h5 : ¬ loadedOk (strInts s)
  · exact no 6 fun k => by unfold loaded; rw [if_neg h0, if_neg h1, if_neg h2, if_neg h3, if_neg h4, if_pos h5]
  refine ⟨_, 0, _, _, _, _, _, _, _, ?_, ?_, ?_, ?_, ?_, ?_, ?_, fun k => by unfold loaded; rw [if_neg h0, if_neg h1, if_neg h2, if_neg h3, if_neg h4, if_neg h5]⟩ <;> (try unfold clsL) <;> rw [gen_len] <;> omega
theorem main (s : List UInt8) : ∃ N, F.laws_FnExactLoad N s (fun b => some b) = some true := by
  obtain ⟨N, hN⟩ : ∃ N, 1048576 < N := ⟨1048577, by omega⟩
  refine ⟨N, ?_⟩
  unfold F.laws_FnExactLoad
  by_cases hs : s.length ≤ 1048576
  case neg => rw [Bool.cond_decide, if_pos (by omega)]
  rw [Bool.cond_decide, if_neg (by omega)]
  obtain ⟨w', o, c', b', d', t', e', n', q', k1, k2, k3, k4, k5, k6, k7, hp⟩ := loaded_is s hs
  have hp1 := fun k => (specLoad (R := Bool) N hN s hs k).trans (hp k)
  have hp2 := fun k => (implLoad (R := Bool) N hN s hs k).trans (hp k)
  rw [hp1, hp2]
  simp only [hp2, eqTable N c' w' b' d' t' e' n' q' k1 k2 k3 k4 k5 k6 k7 hN, F.laws_markTable, F.laws_heldTable]
  have M := fun (l : List Int) (hl : l.length ≤ 1048576) (k : Int) (h0 : 0 ≤ k) (h1 : k ≤ 1099511627776) => fun q => markIntS (R := Bool) N l hl k h0 h1 hN q
  simp only [Bool.not_true, cond_false, bne_self_eq_false]
  rw [M c' k1 _ (by omega) (by omega), M b' k2 _ (by omega) (by omega), M d' k3 _ (by omega) (by omega), M t' k4 _ (by omega) (by omega), M e' k5 _ (by omega) (by omega), M n' k6 _ (by omega) (by omega), M q' k7 _ (by omega) (by omega)]
  have H := fun (m : Nat) (hl : m ≤ 1048576) (k : Int) (h0 : 0 ≤ k) (h1 : k ≤ 1099511627776) => fun q => heldIntS (R := Bool) N m hl k h0 h1 hN q
  rw [H _ k1 _ (by omega) (by omega), Bool.cond_decide, if_neg (by omega), H _ k2 _ (by omega) (by omega), Bool.cond_decide, if_neg (by omega), H _ k3 _ (by omega) (by omega), Bool.cond_decide, if_neg (by omega), H _ k4 _ (by omega) (by omega), Bool.cond_decide, if_neg (by omega),
    H _ k5 _ (by omega) (by omega), Bool.cond_decide, if_neg (by omega), H _ k6 _ (by omega) (by omega), Bool.cond_decide, if_neg (by omega), H _ k7 _ (by omega) (by omega), Bool.cond_decide, if_neg (by omega)]
  rw [Bool.cond_decide, if_neg (by omega)]
  simp only [bne_self_eq_false, cond_false]

theorem FnExactLoad : ∀ (a0 : Ki.den .str), Fit .str a0 → ∃ N, F.laws_FnExactLoad N a0 (fun b => some b) = some true := fun a0 _ => main a0

end Go.Proofs.Ytclfonfegenfiaa.fnExactLoad.Pure
