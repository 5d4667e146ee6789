/- The plain law of FnExactDfaOK: both sides answer alike for every automaton. -/
import Derived.Test.YtioegjpinjigkaaFdFnExactDfaOK
namespace Go.Proofs.Ytioegjpinjigkaa.fnExactDfaOK.Pure
open Go.Ev Go.Proofs.Ytioegjpinjigkaa.fnExactDfaOK

set_option linter.unusedSimpArgs false
/-! ### whole numbers -/

theorem wrap_id {n : Int} (h0 : -9223372036854775808 ≤ n) (h1 : n ≤ 9223372036854775807) : wrapK .i64 n = n := by
  simp only [wrapK, IntKind.wrap, IntKind.signed, IntKind.bits, Bool.true_and]
  split <;> rename_i h <;> simp only [ge_iff_le, decide_eq_true_eq] at h <;> omega

theorem inB_true {i : Int} {n : Nat} (h0 : 0 ≤ i) (h1 : i < n) : inB i n = true := by
  simp only [inB, Bool.and_eq_true, decide_eq_true_eq]; exact ⟨h0, h1⟩

theorem i64_of {n : Int} (h : (Lit.int .i64 n).wf = true) : -9223372036854775808 ≤ n ∧ n ≤ 9223372036854775807 := by
  simp only [Lit.wf, IntKind.min, IntKind.max, IntKind.signed, IntKind.bits, Bool.and_eq_true, decide_eq_true_eq] at h
  constructor
  · exact h.1
  · exact h.2

theorem maxLen_eq : maxLen = 9223372036854775807 := rfl

/-- All of a list's numbers are in range. -/
def I64s (l : List Int) : Prop := ∀ x ∈ l, -9223372036854775808 ≤ x ∧ x ≤ 9223372036854775807

theorem i64s_of {l : List Int} (h : ∀ x, List.Mem (α := Int) x l → Fit (.int .i64) x) : I64s l := fun x hx => i64_of (h x hx)

theorem getD_get (l : List Int) {i : Nat} (h : i < l.length) : List.getD l i (0 : Int) = l[i] := by simp [List.getD_eq_getElem?_getD, h]
/-! ### copies, sizes, comparisons of rows of numbers -/

theorem szIntS {R : Type} (l : List Int) (n : Int) (h0 : 0 ≤ n) (h1 : n ≤ 1048576) (hl : l.length ≤ maxLen) (k : Int → Option R) : F.laws_szIntS l n k = if n < l.length then k (-1) else k (n - l.length) := by
  rw [maxLen_eq] at hl
  simp only [F.laws_szIntS]
  rw [wrap_id (by omega) (by omega), Bool.cond_decide]
  by_cases h : n < l.length
  · rw [if_pos (by omega), if_pos h]
  · rw [if_neg (by omega), if_neg h]

theorem toIntS_l0 {R : Type} (N : Nat) (l : List Int) (hl : l.length ≤ 1048576) (k : List Int → Option R) : ∀ (d n i : Nat), i + d = l.length → d < n → F.laws_toIntS_l0 N n l (i : Int) (l.take i ++ List.replicate d 0) k = k l := by
  intro d
  induction d with
  | zero =>
    intro n i hi hn
    obtain ⟨n, rfl⟩ : ∃ m, n = m + 1 := ⟨n - 1, by omega⟩
    simp only [F.laws_toIntS_l0, F.laws_toIntS_l0_s, Bool.cond_decide]
    rw [if_neg (by omega)]
    simp [show i = l.length by omega]
  | succ d ih =>
    intro n i hi hn
    obtain ⟨n, rfl⟩ : ∃ m, n = m + 1 := ⟨n - 1, by omega⟩
    simp only [F.laws_toIntS_l0, F.laws_toIntS_l0_s, Bool.cond_decide]
    rw [if_pos (by omega), inB_true (by omega) (by omega), inB_true (by omega) (by simp; omega), wrap_id (by omega) (by omega)]
    simp only [cond_true, Int.toNat_natCast]
    have := ih n (i + 1) (by omega) (by omega)
    rw [show ((i + 1 : Nat) : Int) = (i : Int) + 1 by omega] at this
    rw [← this]
    congr 1
    rw [getD_get l (by omega), List.set_append_right _ _ (by simp; omega), List.take_succ_eq_append_getElem (i := i) (by omega)]
    simp only [List.length_take, Nat.min_eq_left (show i ≤ l.length by omega), Nat.sub_self, List.replicate_succ, List.set_cons_zero, List.append_assoc, List.singleton_append]

theorem toIntS {R : Type} (N : Nat) (l : List Int) (hl : l.length ≤ 1048576) (hN : 1048576 < N) (k : List Int → Option R) : F.laws_toIntS N l k = k l := by
  simp only [F.laws_toIntS, Bool.cond_decide]
  rw [if_pos (by omega)]
  have hb : Nat.ble (Int.toNat (l.length : Int)) (bigOf 8) = true := by
    rw [Nat.ble_eq]
    simp only [bigOf, Int.toNat_natCast]
    omega
  rw [hb]
  simp only [cond_true, Int.toNat_natCast]
  exact toIntS_l0 N l hl k l.length N 0 (by omega) (by omega)

theorem eqIntS_l0 {R : Type} (N : Nat) (l : List Int) (hl : l.length ≤ 1048576) (k : Unit → Option R) (k' : Bool → Option R) : ∀ (d n i : Nat), i + d = l.length → d < n → F.laws_eqIntS_l0 N n l l (i : Int) k k' = k () := by
  intro d
  induction d with
  | zero =>
    intro n i hi hn
    obtain ⟨n, rfl⟩ : ∃ m, n = m + 1 := ⟨n - 1, by omega⟩
    simp only [F.laws_eqIntS_l0, F.laws_eqIntS_l0_s, Bool.cond_decide]
    rw [if_neg (by omega)]
  | succ d ih =>
    intro n i hi hn
    obtain ⟨n, rfl⟩ : ∃ m, n = m + 1 := ⟨n - 1, by omega⟩
    simp only [F.laws_eqIntS_l0, F.laws_eqIntS_l0_s, Bool.cond_decide]
    rw [if_pos (by omega), inB_true (by omega) (by omega), wrap_id (by omega) (by omega)]
    simp only [cond_true, bne_self_eq_false, cond_false]
    have := ih n (i + 1) (by omega) (by omega)
    rw [show ((i + 1 : Nat) : Int) = (i : Int) + 1 by omega] at this
    exact this

theorem eqIntS {R : Type} (N : Nat) (l : List Int) (hl : l.length ≤ 1048576) (hN : 1048576 < N) (k : Bool → Option R) : F.laws_eqIntS N l l k = k true := by
  simp only [F.laws_eqIntS, bne_self_eq_false, cond_false]
  exact eqIntS_l0 N l hl _ _ l.length N 0 (by omega) (by omega)
/-! ### automata: sizes, copies, comparisons -/

theorem szDfa {R : Type} (c : List Int) (w : Int) (n t e : List Int) (hc : c.length ≤ maxLen) (hn : n.length ≤ maxLen) (ht : t.length ≤ maxLen) (he : e.length ≤ maxLen) (k : Int → Option R) (r : Option R)
    (h1 : ∀ z, z < 0 → k z = r) (h2 : ∀ z, 0 ≤ z → c.length ≤ 1048576 → n.length ≤ 1048576 → t.length ≤ 1048576 → e.length ≤ 1048576 → k z = r) : F.laws_szDfa c w n t e 1048576 k = r := by
  have step : ∀ (l : List Int) (m : Int) (k' : Int → Option R), 0 ≤ m → m ≤ 1048576 → l.length ≤ maxLen → (∀ z, z < 0 → k' z = r) → (∀ z, 0 ≤ z → z ≤ 1048576 → l.length ≤ 1048576 → k' z = r) → F.laws_szIntS l m k' = r := by
    intro l m k' h0 h1 hl a b
    rw [szIntS l m h0 h1 hl]
    split
    · exact a _ (by omega)
    · exact b _ (by omega) (by omega) (by omega)
  simp only [F.laws_szDfa]
  refine step c _ _ (by omega) (by omega) hc ?_ ?_
  · intro z hz
    rw [Bool.cond_decide, if_pos hz]; exact h1 _ (by omega)
  · intro z hz hz' a1
    rw [Bool.cond_decide, if_neg (by omega)]
    refine step n _ _ hz hz' hn ?_ ?_
    · intro z hz
      rw [Bool.cond_decide, if_pos hz]; exact h1 _ (by omega)
    · intro z hz hz' a2
      rw [Bool.cond_decide, if_neg (by omega)]
      refine step t _ _ hz hz' ht ?_ ?_
      · intro z hz
        rw [Bool.cond_decide, if_pos hz]; exact h1 _ (by omega)
      · intro z hz hz' a3
        rw [Bool.cond_decide, if_neg (by omega)]
        refine step e _ _ hz hz' he ?_ ?_
        · intro z hz
          rw [Bool.cond_decide, if_pos hz]; exact h1 _ (by omega)
        · intro z hz hz' a4
          rw [Bool.cond_decide, if_neg (by omega)]
          exact h2 z hz a1 a2 a3 a4

theorem toDfa {R : Type} (N : Nat) (c : List Int) (w : Int) (n t e : List Int) (hc : c.length ≤ 1048576) (hn : n.length ≤ 1048576) (ht : t.length ≤ 1048576) (he : e.length ≤ 1048576) (hN : 1048576 < N) (k : Int → List Int → List Int → List Int → List Int → Option R) :
    F.laws_toDfa N c w n t e k = k w c n t e := by
  simp only [F.laws_toDfa]
  rw [toIntS N c hc hN, toIntS N n hn hN, toIntS N t ht hN, toIntS N e he hN]

theorem eqDfa {R : Type} (N : Nat) (c : List Int) (w : Int) (n t e : List Int) (hc : c.length ≤ 1048576) (hn : n.length ≤ 1048576) (ht : t.length ≤ 1048576) (he : e.length ≤ 1048576) (hN : 1048576 < N) (k : Bool → Option R) :
    F.laws_eqDfa N c w n t e c w n t e k = k true := by
  simp only [F.laws_eqDfa, bne_self_eq_false, cond_false]
  rw [eqIntS N c hc hN]
  simp only [Bool.not_true, cond_false]
  rw [eqIntS N n hn hN]
  simp only [Bool.not_true, cond_false]
  rw [eqIntS N t ht hN]
  simp only [Bool.not_true, cond_false]
  rw [eqIntS N e he hN]
  simp only [Bool.not_true, cond_false]
/-! ### both sides' DfaOK -/

/-- All numbers lie between. -/
def allIn (l : List Int) (lo hi : Int) : Bool := l.all fun x => decide (lo ≤ x ∧ x ≤ hi)

theorem allIn_drop (l : List Int) (lo hi : Int) {i : Nat} (h : i < l.length) : allIn (l.drop i) lo hi = (decide (lo ≤ l[i] ∧ l[i] ≤ hi) && allIn (l.drop (i + 1)) lo hi) := by
  simp only [allIn]
  rw [List.drop_eq_getElem_cons h, List.all_cons]

theorem l2All_l0 {R : Type} (N : Nat) (l : List Int) (lo hi : Int) (hl : l.length ≤ 1048576) (k : Bool → Option R) : ∀ (d n i : Nat), i + d = l.length → d < n → F.spec_l2All_l0 N n lo hi l (l.length : Int) (i : Int) (fun _ => k true) (fun b => k b) = k (allIn (l.drop i) lo hi) := by
  intro d
  induction d with
  | zero =>
    intro n i hi' hn
    obtain ⟨n, rfl⟩ : ∃ m, n = m + 1 := ⟨n - 1, by omega⟩
    simp only [F.spec_l2All_l0, F.spec_l2All_l0_s, Bool.cond_decide]
    rw [if_neg (by omega), List.drop_of_length_le (by omega)]
    rfl
  | succ d ih =>
    intro n i hi' hn
    obtain ⟨n, rfl⟩ : ∃ m, n = m + 1 := ⟨n - 1, by omega⟩
    simp only [F.spec_l2All_l0, F.spec_l2All_l0_s, F.spec_l1Between, Bool.cond_decide]
    rw [if_pos (by omega), inB_true (by omega) (by omega), wrap_id (by omega) (by omega), allIn_drop l lo hi (by omega)]
    simp only [cond_true, Int.toNat_natCast]
    simp only [getD_get l (show i < l.length by omega)]
    have := ih n (i + 1) (by omega) (by omega)
    rw [show ((i + 1 : Nat) : Int) = (i : Int) + 1 by omega] at this
    rw [this]
    by_cases h1 : lo ≤ l[i]
    · rw [if_pos h1]
      by_cases h2 : l[i] ≤ hi
      · simp [h1, h2]
      · simp [h2]
    · rw [if_neg h1]
      simp [h1]

theorem l2All {R : Type} (N : Nat) (l : List Int) (lo hi : Int) (hl : l.length ≤ 1048576) (hN : 1048576 < N) (k : Bool → Option R) : F.spec_l2All N l lo hi k = k (allIn l lo hi) := by
  simp only [F.spec_l2All]
  exact l2All_l0 N l lo hi hl k l.length N 0 (by omega) (by omega)

theorem index_l0 {R : Type} (N : Nat) (l : List Int) (lo hi : Int) (hl : l.length ≤ 1048576) (k : Bool → Option R) : ∀ (d n i : Nat), i + d = l.length → d < n →
    F.slices_IndexFunc_l0 N n l (l.length : Int) (i : Int) lo hi (fun _ _ => k (!decide ((-1 : Int) ≥ 0))) (fun j _ _ => k (!decide (j ≥ 0))) = k (allIn (l.drop i) lo hi) := by
  intro d
  induction d with
  | zero =>
    intro n i hi' hn
    obtain ⟨n, rfl⟩ : ∃ m, n = m + 1 := ⟨n - 1, by omega⟩
    simp only [F.slices_IndexFunc_l0, F.slices_IndexFunc_l0_s, Bool.cond_decide]
    rw [if_neg (by omega), List.drop_of_length_le (by omega)]
    rfl
  | succ d ih =>
    intro n i hi' hn
    obtain ⟨n, rfl⟩ : ∃ m, n = m + 1 := ⟨n - 1, by omega⟩
    simp only [F.slices_IndexFunc_l0, F.slices_IndexFunc_l0_s, F.impl_DfaOK_1_1, Bool.cond_decide]
    rw [if_pos (by omega), inB_true (by omega) (by omega), wrap_id (by omega) (by omega), allIn_drop l lo hi (by omega)]
    simp only [cond_true, Int.toNat_natCast]
    simp only [getD_get l (show i < l.length by omega)]
    have := ih n (i + 1) (by omega) (by omega)
    rw [show ((i + 1 : Nat) : Int) = (i : Int) + 1 by omega] at this
    rw [this]
    by_cases h1 : l[i] < lo
    · rw [if_pos h1]
      simp [show ¬ (lo ≤ l[i]) by omega]
    · rw [if_neg h1]
      by_cases h2 : l[i] > hi
      · rw [if_pos h2]
        simp [show ¬ (l[i] ≤ hi) by omega]
      · rw [if_neg h2]
        simp [show lo ≤ l[i] by omega, show l[i] ≤ hi by omega]

theorem implIn {R : Type} (N : Nat) (l : List Int) (lo hi : Int) (hl : l.length ≤ 1048576) (hN : 1048576 < N) (k : Bool → Option R) : F.impl_DfaOK_1 N l lo hi k = k (allIn l lo hi) := by
  simp only [F.impl_DfaOK_1, F.slices_ContainsFunc, F.slices_IndexFunc]
  exact index_l0 N l lo hi hl k l.length N 0 (by omega) (by omega)

/-- An automaton in order. -/
def okDfa (c : List Int) (w : Int) (n t e : List Int) : Bool :=
  decide (c.length = 256 ∧ 1 ≤ w ∧ w ≤ 256 ∧ 1 ≤ t.length ∧ t.length ≤ 4000 ∧ e.length = t.length ∧ (n.length : Int) = t.length * w) &&
    (allIn c 0 (w - 1) && (allIn n 0 (t.length - 1) && (allIn t (-1) 99 && allIn e (-1) 99)))

theorem mul_ok {t : Nat} {w : Int} (h1 : t ≤ 4000) (h2 : 1 ≤ w) (h3 : w ≤ 256) : wrapK .i64 ((t : Int) * w) = t * w := by
  have a : 0 ≤ (t : Int) * w := Int.mul_nonneg (by omega) (by omega)
  have b : (t : Int) * w ≤ 4000 * 256 := Int.mul_le_mul (by omega) h3 (by omega) (by omega)
  exact wrap_id (by omega) (by omega)

theorem specDfaOK {R : Type} (N : Nat) (c : List Int) (w : Int) (n t e : List Int) (hc : c.length ≤ 1048576) (hn : n.length ≤ 1048576) (ht : t.length ≤ 1048576) (he : e.length ≤ 1048576) (hN : 1048576 < N) (k : Bool → Option R) :
    F.spec_DfaOK N c w n t e k = k (okDfa c w n t e) := by
  by_cases hg : c.length = 256 ∧ 1 ≤ w ∧ w ≤ 256 ∧ 1 ≤ t.length ∧ t.length ≤ 4000 ∧ e.length = t.length ∧ (n.length : Int) = t.length * w
  · obtain ⟨g1, g2, g3, g4, g5, g6, g7⟩ := hg
    simp only [F.spec_DfaOK, F.spec_l1Between, Bool.cond_decide]
    rw [mul_ok g5 g2 g3, wrap_id (n := w - 1) (by omega) (by omega), wrap_id (n := (t.length : Int) - 1) (by omega) (by omega)]
    simp only [show ((c.length : Int) != 256) = false by simp; omega, cond_false, if_pos g2, decide_eq_true g3, Bool.not_true, if_pos (show (1 : Int) ≤ t.length by omega), decide_eq_true (show (t.length : Int) ≤ 4000 by omega),
      show ((e.length : Int) != t.length) = false by simp; omega, show ((n.length : Int) != t.length * w) = false by simp; omega]
    rw [l2All N c _ _ hc hN, l2All N n _ _ hn hN, l2All N t _ _ ht hN, l2All N e _ _ he hN]
    simp only [okDfa, g1, g2, g3, g4, g5, g6, g7, true_and, and_self, decide_true, Bool.true_and]
    cases allIn c 0 (w - 1) <;> cases allIn n 0 (t.length - 1) <;> cases allIn t (-1) 99 <;> simp
  · have e0 : okDfa c w n t e = false := by simp only [okDfa, decide_eq_false hg, Bool.false_and]
    rw [e0]
    simp only [F.spec_DfaOK, F.spec_l1Between, Bool.cond_decide]
    by_cases g1 : c.length = 256
    case neg => simp only [show ((c.length : Int) != 256) = true by simp; omega, cond_true]
    simp only [show ((c.length : Int) != 256) = false by simp; omega, cond_false]
    by_cases g2 : 1 ≤ w
    case neg => simp [g2]
    by_cases g3 : w ≤ 256
    case neg => simp [g2, g3]
    simp only [if_pos g2, decide_eq_true g3, Bool.not_true, cond_false]
    by_cases g4 : 1 ≤ t.length
    case neg => rw [if_neg (by omega)]; simp
    rw [if_pos (by omega)]
    by_cases g5 : t.length ≤ 4000
    case neg => simp [show ¬ ((t.length : Int) ≤ 4000) by omega]
    simp only [decide_eq_true (show (t.length : Int) ≤ 4000 by omega), Bool.not_true, cond_false]
    by_cases g6 : e.length = t.length
    case neg => simp only [show ((e.length : Int) != t.length) = true by simp; omega, cond_true]
    simp only [show ((e.length : Int) != t.length) = false by simp; omega, cond_false]
    rw [mul_ok g5 g2 g3]
    have g7 : ¬ ((n.length : Int) = t.length * w) := fun h => hg ⟨g1, g2, g3, g4, g5, g6, h⟩
    simp only [show ((n.length : Int) != t.length * w) = true by simpa using g7, cond_true]

theorem implDfaOK {R : Type} (N : Nat) (c : List Int) (w : Int) (n t e : List Int) (hc : c.length ≤ 1048576) (hn : n.length ≤ 1048576) (ht : t.length ≤ 1048576) (he : e.length ≤ 1048576) (hN : 1048576 < N) (k : Bool → Option R) :
    F.impl_DfaOK N c w n t e k = k (okDfa c w n t e) := by
  by_cases hg : c.length = 256 ∧ 1 ≤ w ∧ w ≤ 256 ∧ 1 ≤ t.length ∧ t.length ≤ 4000 ∧ e.length = t.length ∧ (n.length : Int) = t.length * w
  · obtain ⟨g1, g2, g3, g4, g5, g6, g7⟩ := hg
    simp only [F.impl_DfaOK, Bool.cond_decide]
    rw [mul_ok g5 g2 g3, wrap_id (n := w - 1) (by omega) (by omega), wrap_id (n := (t.length : Int) - 1) (by omega) (by omega)]
    simp only [show ((c.length : Int) != 256) = false by simp; omega, cond_false, if_neg (show ¬ (w < 1) by omega), if_neg (show ¬ (w > 256) by omega), if_neg (show ¬ ((t.length : Int) < 1) by omega), if_neg (show ¬ ((t.length : Int) > 4000) by omega),
      show ((e.length : Int) != t.length) = false by simp; omega, show ((n.length : Int) != t.length * w) = false by simp; omega]
    rw [implIn N c _ _ hc hN, implIn N n _ _ hn hN, implIn N t _ _ ht hN, implIn N e _ _ he hN]
    simp only [okDfa, g1, g2, g3, g4, g5, g6, g7, true_and, and_self, decide_true, Bool.true_and]
    cases allIn c 0 (w - 1) <;> cases allIn n 0 (t.length - 1) <;> cases allIn t (-1) 99 <;> simp
  · have e0 : okDfa c w n t e = false := by simp only [okDfa, decide_eq_false hg, Bool.false_and]
    rw [e0]
    simp only [F.impl_DfaOK, Bool.cond_decide]
    by_cases g1 : c.length = 256
    case neg => simp only [show ((c.length : Int) != 256) = true by simp; omega, cond_true]
    simp only [show ((c.length : Int) != 256) = false by simp; omega, cond_false]
    by_cases g2 : 1 ≤ w
    case neg => rw [if_pos (by omega)]
    by_cases g3 : w ≤ 256
    case neg => rw [if_neg (by omega), if_pos (by omega)]
    rw [if_neg (by omega), if_neg (by omega)]
    by_cases g4 : 1 ≤ t.length
    case neg => rw [if_pos (by omega)]
    by_cases g5 : t.length ≤ 4000
    case neg => rw [if_neg (by omega), if_pos (by omega)]
    rw [if_neg (by omega), if_neg (by omega)]
    by_cases g6 : e.length = t.length
    case neg => simp only [show ((e.length : Int) != t.length) = true by simp; omega, cond_true]
    simp only [show ((e.length : Int) != t.length) = false by simp; omega, cond_false]
    rw [mul_ok g5 g2 g3]
    have g7 : ¬ ((n.length : Int) = t.length * w) := fun h => hg ⟨g1, g2, g3, g4, g5, g6, h⟩
    simp only [show ((n.length : Int) != t.length * w) = true by simpa using g7, cond_true]
theorem main (c : List Int) (w : Int) (n t e : List Int) (hc : c.length ≤ maxLen) (hn : n.length ≤ maxLen) (ht : t.length ≤ maxLen) (he : e.length ≤ maxLen) : ∃ N, F.laws_FnExactDfaOK N c w n t e (fun b => some b) = some true := by
  obtain ⟨N, hN⟩ : ∃ N, 1048576 < N := ⟨1048577, by omega⟩
  refine ⟨N, ?_⟩
  simp only [F.laws_FnExactDfaOK]
  refine szDfa c w n t e hc hn ht he _ _ ?_ ?_
  · intro z hz
    rw [Bool.cond_decide, if_pos hz]
  · intro z hz h1 h2 h3 h4
    rw [Bool.cond_decide, if_neg (by omega)]
    simp only [toDfa N c w n t e h1 h2 h3 h4 hN, specDfaOK N c w n t e h1 h2 h3 h4 hN, implDfaOK N c w n t e h1 h2 h3 h4 hN, eqDfa N c w n t e h1 h2 h3 h4 hN]
    simp

theorem FnExactDfaOK : ∀ (a0 : Ki.den (.pair (.lst (.int .i64)) (.pair (.int .i64) (.pair (.lst (.int .i64)) (.pair (.lst (.int .i64)) (.lst (.int .i64))))))), Fit (.pair (.lst (.int .i64)) (.pair (.int .i64) (.pair (.lst (.int .i64)) (.pair (.lst (.int .i64)) (.lst (.int .i64)))))) a0 → ∃ N, F.laws_FnExactDfaOK N a0.1 a0.2.1 a0.2.2.1 a0.2.2.2.1 a0.2.2.2.2 (fun b => some b) = some true :=
  fun a0 h => main a0.1 a0.2.1 a0.2.2.1 a0.2.2.2.1 a0.2.2.2.2 h.1.1 h.2.2.1.1 h.2.2.2.1.1 h.2.2.2.2.1

end Go.Proofs.Ytioegjpinjigkaa.fnExactDfaOK.Pure
