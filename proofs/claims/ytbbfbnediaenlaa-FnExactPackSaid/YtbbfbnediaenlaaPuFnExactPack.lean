/- The plain law of FnExactPack: both sides answer alike for every automaton. -/
import Derived.Test.YtbbfbnediaenlaaFdFnExactPack
namespace Go.Proofs.Ytbbfbnediaenlaa.fnExactPack.Pure
open Go.Ev Go.Proofs.Ytbbfbnediaenlaa.fnExactPack

set_option linter.unusedVariables false
set_option linter.unusedSimpArgs false
/-! ### whole numbers -/

theorem wrap_id {n : Int} (h0 : -9223372036854775808 ≤ n) (h1 : n ≤ 9223372036854775807) : wrapK .i64 n = n := by
  simp only [wrapK, IntKind.wrap, IntKind.signed, IntKind.bits, Bool.true_and]
  split <;> rename_i h <;> simp only [ge_iff_le, decide_eq_true_eq] at h <;> omega

theorem inB_true {i : Int} {n : Nat} (h0 : 0 ≤ i) (h1 : i < n) : inB i n = true := by
  simp only [inB, Bool.and_eq_true, decide_eq_true_eq]; exact ⟨h0, h1⟩

theorem i64_of {n : Int} (h : (Lit.int .i64 n).wf = true) : -9223372036854775808 ≤ n ∧ n ≤ 9223372036854775807 := by
  simp only [Lit.wf, IntKind.min, IntKind.max, IntKind.signed, IntKind.bits, Bool.and_eq_true, decide_eq_true_eq] at h
  constructor
  · exact h.1
  · exact h.2

theorem maxLen_eq : maxLen = 9223372036854775807 := rfl

/-- All of a list's numbers are in range. -/
def I64s (l : List Int) : Prop := ∀ x ∈ l, -9223372036854775808 ≤ x ∧ x ≤ 9223372036854775807

theorem i64s_of {l : List Int} (h : ∀ x, List.Mem (α := Int) x l → Fit (.int .i64) x) : I64s l := fun x hx => i64_of (h x hx)

theorem getD_get (l : List Int) {i : Nat} (h : i < l.length) : List.getD l i (0 : Int) = l[i] := by simp [List.getD_eq_getElem?_getD, h]
/-! ### copies, sizes, comparisons of rows of numbers -/

theorem szIntS {R : Type} (l : List Int) (n : Int) (h0 : 0 ≤ n) (h1 : n ≤ 1048576) (hl : l.length ≤ maxLen) (k : Int → Option R) : F.laws_szIntS l n k = if n < l.length then k (-1) else k (n - l.length) := by
  rw [maxLen_eq] at hl
  simp only [F.laws_szIntS]
  rw [wrap_id (by omega) (by omega), Bool.cond_decide]
  by_cases h : n < l.length
  · rw [if_pos (by omega), if_pos h]
  · rw [if_neg (by omega), if_neg h]

theorem toIntS_l0 {R : Type} (N : Nat) (l : List Int) (hl : l.length ≤ 1048576) (k : List Int → Option R) : ∀ (d n i : Nat), i + d = l.length → d < n → F.laws_toIntS_l0 N n l (i : Int) (l.take i ++ List.replicate d 0) k = k l := by
  intro d
  induction d with
  | zero =>
    intro n i hi hn
    obtain ⟨n, rfl⟩ : ∃ m, n = m + 1 := ⟨n - 1, by omega⟩
    simp only [F.laws_toIntS_l0, F.laws_toIntS_l0_s, Bool.cond_decide]
    rw [if_neg (by omega)]
    simp [show i = l.length by omega]
  | succ d ih =>
    intro n i hi hn
    obtain ⟨n, rfl⟩ : ∃ m, n = m + 1 := ⟨n - 1, by omega⟩
    simp only [F.laws_toIntS_l0, F.laws_toIntS_l0_s, Bool.cond_decide]
    rw [if_pos (by omega), inB_true (by omega) (by omega), inB_true (by omega) (by simp; omega), wrap_id (by omega) (by omega)]
    simp only [cond_true, Int.toNat_natCast]
    have := ih n (i + 1) (by omega) (by omega)
    rw [show ((i + 1 : Nat) : Int) = (i : Int) + 1 by omega] at this
    rw [← this]
    congr 1
    rw [getD_get l (by omega), List.set_append_right _ _ (by simp; omega), List.take_succ_eq_append_getElem (i := i) (by omega)]
    simp only [List.length_take, Nat.min_eq_left (show i ≤ l.length by omega), Nat.sub_self, List.replicate_succ, List.set_cons_zero, List.append_assoc, List.singleton_append]

theorem toIntS {R : Type} (N : Nat) (l : List Int) (hl : l.length ≤ 1048576) (hN : 1048576 < N) (k : List Int → Option R) : F.laws_toIntS N l k = k l := by
  simp only [F.laws_toIntS, Bool.cond_decide]
  rw [if_pos (by omega)]
  have hb : Nat.ble (Int.toNat (l.length : Int)) (bigOf 8) = true := by
    rw [Nat.ble_eq]
    simp only [bigOf, Int.toNat_natCast]
    omega
  rw [hb]
  simp only [cond_true, Int.toNat_natCast]
  exact toIntS_l0 N l hl k l.length N 0 (by omega) (by omega)

theorem eqIntS_l0 {R : Type} (N : Nat) (l : List Int) (hl : l.length ≤ 1048576) (k : Unit → Option R) (k' : Bool → Option R) : ∀ (d n i : Nat), i + d = l.length → d < n → F.laws_eqIntS_l0 N n l l (i : Int) k k' = k () := by
  intro d
  induction d with
  | zero =>
    intro n i hi hn
    obtain ⟨n, rfl⟩ : ∃ m, n = m + 1 := ⟨n - 1, by omega⟩
    simp only [F.laws_eqIntS_l0, F.laws_eqIntS_l0_s, Bool.cond_decide]
    rw [if_neg (by omega)]
  | succ d ih =>
    intro n i hi hn
    obtain ⟨n, rfl⟩ : ∃ m, n = m + 1 := ⟨n - 1, by omega⟩
    simp only [F.laws_eqIntS_l0, F.laws_eqIntS_l0_s, Bool.cond_decide]
    rw [if_pos (by omega), inB_true (by omega) (by omega), wrap_id (by omega) (by omega)]
    simp only [cond_true, bne_self_eq_false, cond_false]
    have := ih n (i + 1) (by omega) (by omega)
    rw [show ((i + 1 : Nat) : Int) = (i : Int) + 1 by omega] at this
    exact this

theorem eqIntS {R : Type} (N : Nat) (l : List Int) (hl : l.length ≤ 1048576) (hN : 1048576 < N) (k : Bool → Option R) : F.laws_eqIntS N l l k = k true := by
  simp only [F.laws_eqIntS, bne_self_eq_false, cond_false]
  exact eqIntS_l0 N l hl _ _ l.length N 0 (by omega) (by omega)
/-! ### automata: sizes, copies, comparisons -/

theorem szDfa {R : Type} (c : List Int) (w : Int) (n t e : List Int) (hc : c.length ≤ maxLen) (hn : n.length ≤ maxLen) (ht : t.length ≤ maxLen) (he : e.length ≤ maxLen) (k : Int → Option R) (r : Option R)
    (h1 : ∀ z, z < 0 → k z = r) (h2 : ∀ z, 0 ≤ z → c.length ≤ 1048576 → n.length ≤ 1048576 → t.length ≤ 1048576 → e.length ≤ 1048576 → k z = r) : F.laws_szDfa c w n t e 1048576 k = r := by
  have step : ∀ (l : List Int) (m : Int) (k' : Int → Option R), 0 ≤ m → m ≤ 1048576 → l.length ≤ maxLen → (∀ z, z < 0 → k' z = r) → (∀ z, 0 ≤ z → z ≤ 1048576 → l.length ≤ 1048576 → k' z = r) → F.laws_szIntS l m k' = r := by
    intro l m k' h0 h1 hl a b
    rw [szIntS l m h0 h1 hl]
    split
    · exact a _ (by omega)
    · exact b _ (by omega) (by omega) (by omega)
  simp only [F.laws_szDfa]
  refine step c _ _ (by omega) (by omega) hc ?_ ?_
  · intro z hz
    rw [Bool.cond_decide, if_pos hz]; exact h1 _ (by omega)
  · intro z hz hz' a1
    rw [Bool.cond_decide, if_neg (by omega)]
    refine step n _ _ hz hz' hn ?_ ?_
    · intro z hz
      rw [Bool.cond_decide, if_pos hz]; exact h1 _ (by omega)
    · intro z hz hz' a2
      rw [Bool.cond_decide, if_neg (by omega)]
      refine step t _ _ hz hz' ht ?_ ?_
      · intro z hz
        rw [Bool.cond_decide, if_pos hz]; exact h1 _ (by omega)
      · intro z hz hz' a3
        rw [Bool.cond_decide, if_neg (by omega)]
        refine step e _ _ hz hz' he ?_ ?_
        · intro z hz
          rw [Bool.cond_decide, if_pos hz]; exact h1 _ (by omega)
        · intro z hz hz' a4
          rw [Bool.cond_decide, if_neg (by omega)]
          exact h2 z hz a1 a2 a3 a4

theorem toDfa {R : Type} (N : Nat) (c : List Int) (w : Int) (n t e : List Int) (hc : c.length ≤ 1048576) (hn : n.length ≤ 1048576) (ht : t.length ≤ 1048576) (he : e.length ≤ 1048576) (hN : 1048576 < N) (k : Int → List Int → List Int → List Int → List Int → Option R) :
    F.laws_toDfa N c w n t e k = k w c n t e := by
  simp only [F.laws_toDfa]
  rw [toIntS N c hc hN, toIntS N n hn hN, toIntS N t ht hN, toIntS N e he hN]

theorem eqDfa {R : Type} (N : Nat) (c : List Int) (w : Int) (n t e : List Int) (hc : c.length ≤ 1048576) (hn : n.length ≤ 1048576) (ht : t.length ≤ 1048576) (he : e.length ≤ 1048576) (hN : 1048576 < N) (k : Bool → Option R) :
    F.laws_eqDfa N c w n t e c w n t e k = k true := by
  simp only [F.laws_eqDfa, bne_self_eq_false, cond_false]
  rw [eqIntS N c hc hN]
  simp only [Bool.not_true, cond_false]
  rw [eqIntS N n hn hN]
  simp only [Bool.not_true, cond_false]
  rw [eqIntS N t ht hN]
  simp only [Bool.not_true, cond_false]
  rw [eqIntS N e he hN]
  simp only [Bool.not_true, cond_false]
/-! ### all between -/

/-- All numbers lie between. -/
def allIn (l : List Int) (lo hi : Int) : Bool := l.all fun x => decide (lo ≤ x ∧ x ≤ hi)

theorem allIn_drop (l : List Int) (lo hi : Int) {i : Nat} (h : i < l.length) : allIn (l.drop i) lo hi = (decide (lo ≤ l[i] ∧ l[i] ≤ hi) && allIn (l.drop (i + 1)) lo hi) := by
  simp only [allIn]
  rw [List.drop_eq_getElem_cons h, List.all_cons]

theorem l2All_l0 {R : Type} (N : Nat) (l : List Int) (lo hi : Int) (hl : l.length ≤ 1048576) (k : Bool → Option R) : ∀ (d n i : Nat), i + d = l.length → d < n → F.spec_l2All_l0 N n lo hi l (l.length : Int) (i : Int) (fun _ => k true) (fun b => k b) = k (allIn (l.drop i) lo hi) := by
  intro d
  induction d with
  | zero =>
    intro n i hi' hn
    obtain ⟨n, rfl⟩ : ∃ m, n = m + 1 := ⟨n - 1, by omega⟩
    simp only [F.spec_l2All_l0, F.spec_l2All_l0_s, Bool.cond_decide]
    rw [if_neg (by omega), List.drop_of_length_le (by omega)]
    rfl
  | succ d ih =>
    intro n i hi' hn
    obtain ⟨n, rfl⟩ : ∃ m, n = m + 1 := ⟨n - 1, by omega⟩
    simp only [F.spec_l2All_l0, F.spec_l2All_l0_s, F.spec_l1Between, Bool.cond_decide]
    rw [if_pos (by omega), inB_true (by omega) (by omega), wrap_id (by omega) (by omega), allIn_drop l lo hi (by omega)]
    simp only [cond_true, Int.toNat_natCast]
    simp only [getD_get l (show i < l.length by omega)]
    have := ih n (i + 1) (by omega) (by omega)
    rw [show ((i + 1 : Nat) : Int) = (i : Int) + 1 by omega] at this
    rw [this]
    by_cases h1 : lo ≤ l[i]
    · rw [if_pos h1]
      by_cases h2 : l[i] ≤ hi
      · simp [h1, h2]
      · simp [h2]
    · rw [if_neg h1]
      simp [h1]

theorem l2All {R : Type} (N : Nat) (l : List Int) (lo hi : Int) (hl : l.length ≤ 1048576) (hN : 1048576 < N) (k : Bool → Option R) : F.spec_l2All N l lo hi k = k (allIn l lo hi) := by
  simp only [F.spec_l2All]
  exact l2All_l0 N l lo hi hl k l.length N 0 (by omega) (by omega)

theorem index_l0 {R : Type} (N : Nat) (l : List Int) (lo hi : Int) (hl : l.length ≤ 1048576) (k : Bool → Option R) : ∀ (d n i : Nat), i + d = l.length → d < n →
    F.slices_IndexFunc_l0 N n l (l.length : Int) (i : Int) lo hi (fun _ _ => k (!decide ((-1 : Int) ≥ 0))) (fun j _ _ => k (!decide (j ≥ 0))) = k (allIn (l.drop i) lo hi) := by
  intro d
  induction d with
  | zero =>
    intro n i hi' hn
    obtain ⟨n, rfl⟩ : ∃ m, n = m + 1 := ⟨n - 1, by omega⟩
    simp only [F.slices_IndexFunc_l0, F.slices_IndexFunc_l0_s, Bool.cond_decide]
    rw [if_neg (by omega), List.drop_of_length_le (by omega)]
    rfl
  | succ d ih =>
    intro n i hi' hn
    obtain ⟨n, rfl⟩ : ∃ m, n = m + 1 := ⟨n - 1, by omega⟩
    simp only [F.slices_IndexFunc_l0, F.slices_IndexFunc_l0_s, F.impl_DfaOK_1_1, Bool.cond_decide]
    rw [if_pos (by omega), inB_true (by omega) (by omega), wrap_id (by omega) (by omega), allIn_drop l lo hi (by omega)]
    simp only [cond_true, Int.toNat_natCast]
    simp only [getD_get l (show i < l.length by omega)]
    have := ih n (i + 1) (by omega) (by omega)
    rw [show ((i + 1 : Nat) : Int) = (i : Int) + 1 by omega] at this
    rw [this]
    by_cases h1 : l[i] < lo
    · rw [if_pos h1]
      simp [show ¬ (lo ≤ l[i]) by omega]
    · rw [if_neg h1]
      by_cases h2 : l[i] > hi
      · rw [if_pos h2]
        simp [show ¬ (l[i] ≤ hi) by omega]
      · rw [if_neg h2]
        simp [show lo ≤ l[i] by omega, show l[i] ≤ hi by omega]

theorem implIn {R : Type} (N : Nat) (l : List Int) (lo hi : Int) (hl : l.length ≤ 1048576) (hN : 1048576 < N) (k : Bool → Option R) : F.impl_DfaOK_1 N l lo hi k = k (allIn l lo hi) := by
  simp only [F.impl_DfaOK_1, F.slices_ContainsFunc, F.slices_IndexFunc]
  exact index_l0 N l lo hi hl k l.length N 0 (by omega) (by omega)

/-- An automaton in order. -/
def okDfa (c : List Int) (w : Int) (n t e : List Int) : Bool :=
  decide (c.length = 256 ∧ 1 ≤ w ∧ w ≤ 256 ∧ 1 ≤ t.length ∧ t.length ≤ 4000 ∧ e.length = t.length ∧ (n.length : Int) = t.length * w) &&
    (allIn c 0 (w - 1) && (allIn n 0 (t.length - 1) && (allIn t (-1) 99 && allIn e (-1) 99)))

theorem mul_ok {t : Nat} {w : Int} (h1 : t ≤ 4000) (h2 : 1 ≤ w) (h3 : w ≤ 256) : wrapK .i64 ((t : Int) * w) = t * w := by
  have a : 0 ≤ (t : Int) * w := Int.mul_nonneg (by omega) (by omega)
  have b : (t : Int) * w ≤ 4000 * 256 := Int.mul_le_mul (by omega) h3 (by omega) (by omega)
  exact wrap_id (by omega) (by omega)

theorem specDfaOK {R : Type} (N : Nat) (c : List Int) (w : Int) (n t e : List Int) (hc : c.length ≤ 1048576) (hn : n.length ≤ 1048576) (ht : t.length ≤ 1048576) (he : e.length ≤ 1048576) (hN : 1048576 < N) (k : Bool → Option R) :
    F.spec_DfaOK N c w n t e k = k (okDfa c w n t e) := by
  by_cases hg : c.length = 256 ∧ 1 ≤ w ∧ w ≤ 256 ∧ 1 ≤ t.length ∧ t.length ≤ 4000 ∧ e.length = t.length ∧ (n.length : Int) = t.length * w
  · obtain ⟨g1, g2, g3, g4, g5, g6, g7⟩ := hg
    simp only [F.spec_DfaOK, F.spec_l1Between, Bool.cond_decide]
    rw [mul_ok g5 g2 g3, wrap_id (n := w - 1) (by omega) (by omega), wrap_id (n := (t.length : Int) - 1) (by omega) (by omega)]
    simp only [show ((c.length : Int) != 256) = false by simp; omega, cond_false, if_pos g2, decide_eq_true g3, Bool.not_true, if_pos (show (1 : Int) ≤ t.length by omega), decide_eq_true (show (t.length : Int) ≤ 4000 by omega),
      show ((e.length : Int) != t.length) = false by simp; omega, show ((n.length : Int) != t.length * w) = false by simp; omega]
    rw [l2All N c _ _ hc hN, l2All N n _ _ hn hN, l2All N t _ _ ht hN, l2All N e _ _ he hN]
    simp only [okDfa, g1, g2, g3, g4, g5, g6, g7, true_and, and_self, decide_true, Bool.true_and]
    cases allIn c 0 (w - 1) <;> cases allIn n 0 (t.length - 1) <;> cases allIn t (-1) 99 <;> simp
  · have e0 : okDfa c w n t e = false := by simp only [okDfa, decide_eq_false hg, Bool.false_and]
    rw [e0]
    simp only [F.spec_DfaOK, F.spec_l1Between, Bool.cond_decide]
    by_cases g1 : c.length = 256
    case neg => simp only [show ((c.length : Int) != 256) = true by simp; omega, cond_true]
    simp only [show ((c.length : Int) != 256) = false by simp; omega, cond_false]
    by_cases g2 : 1 ≤ w
    case neg => simp [g2]
    by_cases g3 : w ≤ 256
    case neg => simp [g2, g3]
    simp only [if_pos g2, decide_eq_true g3, Bool.not_true, cond_false]
    by_cases g4 : 1 ≤ t.length
    case neg => rw [if_neg (by omega)]; simp
    rw [if_pos (by omega)]
    by_cases g5 : t.length ≤ 4000
    case neg => simp [show ¬ ((t.length : Int) ≤ 4000) by omega]
    simp only [decide_eq_true (show (t.length : Int) ≤ 4000 by omega), Bool.not_true, cond_false]
    by_cases g6 : e.length = t.length
    case neg => simp only [show ((e.length : Int) != t.length) = true by simp; omega, cond_true]
    simp only [show ((e.length : Int) != t.length) = false by simp; omega, cond_false]
    rw [mul_ok g5 g2 g3]
    have g7 : ¬ ((n.length : Int) = t.length * w) := fun h => hg ⟨g1, g2, g3, g4, g5, g6, h⟩
    simp only [show ((n.length : Int) != t.length * w) = true by simpa using g7, cond_true]

theorem implDfaOK {R : Type} (N : Nat) (c : List Int) (w : Int) (n t e : List Int) (hc : c.length ≤ 1048576) (hn : n.length ≤ 1048576) (ht : t.length ≤ 1048576) (he : e.length ≤ 1048576) (hN : 1048576 < N) (k : Bool → Option R) :
    F.impl_DfaOK N c w n t e k = k (okDfa c w n t e) := by
  by_cases hg : c.length = 256 ∧ 1 ≤ w ∧ w ≤ 256 ∧ 1 ≤ t.length ∧ t.length ≤ 4000 ∧ e.length = t.length ∧ (n.length : Int) = t.length * w
  · obtain ⟨g1, g2, g3, g4, g5, g6, g7⟩ := hg
    simp only [F.impl_DfaOK, Bool.cond_decide]
    rw [mul_ok g5 g2 g3, wrap_id (n := w - 1) (by omega) (by omega), wrap_id (n := (t.length : Int) - 1) (by omega) (by omega)]
    simp only [show ((c.length : Int) != 256) = false by simp; omega, cond_false, if_neg (show ¬ (w < 1) by omega), if_neg (show ¬ (w > 256) by omega), if_neg (show ¬ ((t.length : Int) < 1) by omega), if_neg (show ¬ ((t.length : Int) > 4000) by omega),
      show ((e.length : Int) != t.length) = false by simp; omega, show ((n.length : Int) != t.length * w) = false by simp; omega]
    rw [implIn N c _ _ hc hN, implIn N n _ _ hn hN, implIn N t _ _ ht hN, implIn N e _ _ he hN]
    simp only [okDfa, g1, g2, g3, g4, g5, g6, g7, true_and, and_self, decide_true, Bool.true_and]
    cases allIn c 0 (w - 1) <;> cases allIn n 0 (t.length - 1) <;> cases allIn t (-1) 99 <;> simp
  · have e0 : okDfa c w n t e = false := by simp only [okDfa, decide_eq_false hg, Bool.false_and]
    rw [e0]
    simp only [F.impl_DfaOK, Bool.cond_decide]
    by_cases g1 : c.length = 256
    case neg => simp only [show ((c.length : Int) != 256) = true by simp; omega, cond_true]
    simp only [show ((c.length : Int) != 256) = false by simp; omega, cond_false]
    by_cases g2 : 1 ≤ w
    case neg => rw [if_pos (by omega)]
    by_cases g3 : w ≤ 256
    case neg => rw [if_neg (by omega), if_pos (by omega)]
    rw [if_neg (by omega), if_neg (by omega)]
    by_cases g4 : 1 ≤ t.length
    case neg => rw [if_pos (by omega)]
    by_cases g5 : t.length ≤ 4000
    case neg => rw [if_neg (by omega), if_pos (by omega)]
    rw [if_neg (by omega), if_neg (by omega)]
    by_cases g6 : e.length = t.length
    case neg => simp only [show ((e.length : Int) != t.length) = true by simp; omega, cond_true]
    simp only [show ((e.length : Int) != t.length) = false by simp; omega, cond_false]
    rw [mul_ok g5 g2 g3]
    have g7 : ¬ ((n.length : Int) = t.length * w) := fun h => hg ⟨g1, g2, g3, g4, g5, g6, h⟩
    simp only [show ((n.length : Int) != t.length * w) = true by simpa using g7, cond_true]
/-! ### the entry that stands most often -/

theorem revInd {α : Type} {P : List α → Prop} (h0 : P []) (h1 : ∀ l x, P l → P (l ++ [x])) (l : List α) : P l := by
  have : ∀ m : List α, P m.reverse := by
    intro m
    induction m with
    | nil => exact h0
    | cons a m ih => rw [List.reverse_cons]; exact h1 _ _ ih
  have h := this l.reverse
  rwa [List.reverse_reverse] at h

theorem take_succ_map {α β : Type} (f : α → β) (l : List α) {i : Nat} (h : i < l.length) : (l.take (i + 1)).map f = (l.take i).map f ++ [f l[i]] := by
  rw [List.take_succ_eq_append_getElem (i := i) h, List.map_append]
  rfl

theorem commFold : ∀ (l : List (Int × Int)), (∀ p ∈ l, 0 ≤ p.1) → (l = [] ∧ l.foldl commStep (-1, 0) = (-1, 0)) ∨ (l.foldl commStep (-1, 0) ∈ l ∧ ∀ p ∈ l, p.2 < (l.foldl commStep (-1, 0)).2 ∨ (p.2 = (l.foldl commStep (-1, 0)).2 ∧ (l.foldl commStep (-1, 0)).1 ≤ p.1)) := by
  intro l
  induction l using revInd with
  | h0 => intro _; exact .inl ⟨rfl, rfl⟩
  | h1 l p ih =>
    intro h
    right
    rw [List.foldl_append, List.foldl_cons, List.foldl_nil]
    have hl : ∀ q ∈ l, 0 ≤ q.1 := fun q hq => h q (List.mem_append.2 (.inl hq))
    rcases ih hl with ⟨rfl, h2⟩ | ⟨h1, h2⟩
    · rw [h2]
      simp [commStep]
    · generalize l.foldl commStep (-1, 0) = b at h1 h2
      have hb := hl b h1
      unfold commStep
      cases hc : (decide (b.1 < 0) || (decide (p.2 > b.2) || (decide (p.2 = b.2) && decide (p.1 < b.1)))) <;> simp only [cond_true, cond_false]
      · simp only [Bool.or_eq_false_iff, Bool.and_eq_false_iff, decide_eq_false_iff_not] at hc
        refine ⟨List.mem_append.2 (.inl h1), fun q hq => ?_⟩
        rcases List.mem_append.1 hq with hq | hq
        · exact h2 q hq
        · have : q = p := by simpa using hq
          subst this
          omega
      · simp only [Bool.or_eq_true, Bool.and_eq_true, decide_eq_true_eq] at hc
        refine ⟨List.mem_append.2 (.inr (by simp)), fun q hq => ?_⟩
        rcases List.mem_append.1 hq with hq | hq
        · have := h2 q hq
          omega
        · have : q = p := by simpa using hq
          subst this
          omega

theorem commFold_ext (l l' : List (Int × Int)) (h : ∀ p ∈ l, 0 ≤ p.1) (he : ∀ p, p ∈ l ↔ p ∈ l') : l.foldl commStep (-1, 0) = l'.foldl commStep (-1, 0) := by
  have h' : ∀ p ∈ l', 0 ≤ p.1 := fun p hp => h p ((he p).2 hp)
  rcases commFold l h with ⟨rfl, h2⟩ | ⟨h1, h2⟩
  · have : l' = [] := by
      cases l' with
      | nil => rfl
      | cons p r => exact absurd ((he p).2 (by simp)) (by simp)
    rw [this]
  · rcases commFold l' h' with ⟨rfl, k2⟩ | ⟨k1, k2⟩
    · exact absurd ((he _).1 h1) (by simp)
    · have a := h2 _ ((he _).2 k1)
      have b := k2 _ ((he _).1 h1)
      refine Prod.ext ?_ ?_ <;> omega

/-- How often x stands in l. -/
def cnt (x : Int) (l : List Int) : Int := (l.count x : Int)

theorem mget_eqI (k z : Int) : ∀ (l : List (Int × Int)), mget eqI k z l = ((l.find? fun p => p.1 == k).map (·.2)).getD z
  | [] => rfl
  | (a, x) :: r => by
    simp only [mget, List.find?]
    by_cases h : k = a
    · subst h; simp [eqI]
    · have h1 : eqI k a = false := by simp [eqI, h]
      have h2 : (a == k) = false := by simp; exact fun e => h e.symm
      rw [h1, h2]
      exact mget_eqI k z r

/-- The counts of a row. -/
def counts (l : List Int) : List (Int × Int) := l.foldl (fun m x => mset eqI x (mget eqI x 0 m + 1) m) []

theorem mset_keys (k v : Int) : ∀ (l : List (Int × Int)) (q : Int), (∃ p ∈ mset eqI k v l, p.1 = q) ↔ q = k ∨ ∃ p ∈ l, p.1 = q
  | [], q => by simp [mset]; exact eq_comm
  | (a, x) :: r, q => by
    simp only [mset]
    by_cases h : k = a
    · subst h
      rw [show eqI k k = true by simp [eqI]]
      simp only [cond_true, List.mem_cons]
      constructor
      · rintro ⟨p, rfl | hp, rfl⟩
        · exact .inl rfl
        · exact .inr ⟨p, .inr hp, rfl⟩
      · rintro (rfl | ⟨p, rfl | hp, rfl⟩)
        · exact ⟨_, .inl rfl, rfl⟩
        · exact ⟨_, .inl rfl, rfl⟩
        · exact ⟨p, .inr hp, rfl⟩
    · rw [show eqI k a = false by simp [eqI, h]]
      simp only [cond_false, List.mem_cons]
      have ih := mset_keys k v r q
      constructor
      · rintro ⟨p, rfl | hp, rfl⟩
        · exact .inr ⟨_, .inl rfl, rfl⟩
        · rcases ih.1 ⟨p, hp, rfl⟩ with h | ⟨p', h1, h2⟩
          · exact .inl h
          · exact .inr ⟨p', .inr h1, h2⟩
      · rintro (rfl | ⟨p, rfl | hp, rfl⟩)
        · obtain ⟨p, h1, h2⟩ := ih.2 (.inl rfl)
          exact ⟨p, .inr h1, h2⟩
        · exact ⟨_, .inl rfl, rfl⟩
        · obtain ⟨p', h1, h2⟩ := ih.2 (.inr ⟨p, hp, rfl⟩)
          exact ⟨p', .inr h1, h2⟩

theorem mset_keysOk (k v : Int) (hk : 0 ≤ k) : ∀ (l : List (Int × Int)), keysOk l = true → keysOk (mset eqI k v l) = true
  | [], _ => by simp [mset, keysOk, hk]
  | (a, x) :: r, h => by
    simp only [keysOk, Bool.and_eq_true, Bool.not_eq_true', decide_eq_true_eq, List.any_eq_false] at h
    obtain ⟨⟨h0, h1⟩, h2⟩ := h
    simp only [mset]
    by_cases e : k = a
    · subst e
      rw [show eqI k k = true by simp [eqI]]
      simp only [cond_true, keysOk, Bool.and_eq_true, Bool.not_eq_true', decide_eq_true_eq, List.any_eq_false]
      exact ⟨⟨h0, h1⟩, h2⟩
    · rw [show eqI k a = false by simp [eqI, e]]
      simp only [cond_false, keysOk, Bool.and_eq_true, Bool.not_eq_true', decide_eq_true_eq, List.any_eq_false]
      refine ⟨⟨h0, fun p hp hpa => ?_⟩, mset_keysOk k v hk r h2⟩
      rcases (mset_keys k v r p.1).1 ⟨p, hp, rfl⟩ with h | ⟨p', q1, q2⟩
      · exact e (h.symm.trans (by simpa using hpa))
      · exact h1 p' q1 (by rw [q2]; exact hpa)

theorem mget_mset (k v z q : Int) : ∀ (l : List (Int × Int)), mget eqI q z (mset eqI k v l) = if q = k then v else mget eqI q z l
  | [] => by
    simp only [mset, mget]
    by_cases h : q = k
    · rw [show eqI q k = true by simp [eqI, h], if_pos h]; rfl
    · rw [show eqI q k = false by simp [eqI, h], if_neg h]; rfl
  | (a, x) :: r => by
    simp only [mset]
    by_cases e : k = a
    · subst e
      rw [show eqI k k = true by simp [eqI]]
      simp only [cond_true, mget]
      by_cases h : q = k
      · rw [show eqI q k = true by simp [eqI, h], if_pos h]; rfl
      · rw [show eqI q k = false by simp [eqI, h], if_neg h]; rfl
    · rw [show eqI k a = false by simp [eqI, e]]
      simp only [cond_false, mget]
      by_cases h : q = a
      · subst h
        rw [show eqI q q = true by simp [eqI], if_neg (fun e' : q = k => e e'.symm)]; rfl
      · rw [show eqI q a = false by simp [eqI, h]]
        simp only [cond_false]
        exact mget_mset k v z q r

theorem keysOk_mem : ∀ (l : List (Int × Int)), keysOk l = true → ∀ p ∈ l, mget eqI p.1 0 l = p.2
  | [], _, p, hp => by simp at hp
  | (a, x) :: r, h, p, hp => by
    simp only [keysOk, Bool.and_eq_true, Bool.not_eq_true', decide_eq_true_eq, List.any_eq_false] at h
    obtain ⟨⟨h0, h1⟩, h2⟩ := h
    rcases List.mem_cons.1 hp with rfl | hp
    · simp [mget, eqI]
    · simp only [mget]
      have : p.1 ≠ a := fun e => h1 p hp (by simpa using e)
      rw [show eqI p.1 a = false by simp [eqI, this]]
      exact keysOk_mem r h2 p hp

theorem mget_absent (q z : Int) : ∀ (l : List (Int × Int)), (∀ p ∈ l, p.1 ≠ q) → mget eqI q z l = z
  | [], _ => rfl
  | (a, x) :: r, h => by
    simp only [mget]
    rw [show eqI q a = false from by
      have := h (a, x) (by simp)
      simp only [eqI, beq_eq_false_iff_ne]
      exact fun e => this e.symm]
    exact mget_absent q z r fun p hp => h p (by simp [hp])

theorem counts_ok (l : List Int) (h0 : ∀ x ∈ l, 0 ≤ x) : keysOk (counts l) = true ∧ (∀ q, mget eqI q 0 (counts l) = cnt q l) ∧ ∀ q, (∃ p ∈ counts l, p.1 = q) ↔ q ∈ l := by
  induction l using revInd with
  | h0 => exact ⟨rfl, fun q => rfl, fun q => by simp [counts]⟩
  | h1 l x ih =>
    obtain ⟨i1, i2, i3⟩ := ih fun y hy => h0 y (by simp [hy])
    have e : counts (l ++ [x]) = mset eqI x (mget eqI x 0 (counts l) + 1) (counts l) := by simp [counts, List.foldl_append]
    rw [e]
    refine ⟨mset_keysOk _ _ (h0 x (by simp)) _ i1, fun q => ?_, fun q => ?_⟩
    · rw [mget_mset, i2, i2]
      simp only [cnt, List.count_append, List.count_singleton]
      by_cases h : q = x
      · subst h; simp
      · rw [if_neg h]
        have : (x == q) = false := by simpa using fun e : x = q => h e.symm
        simp [this]
    · rw [mset_keys, i3]
      simp only [List.mem_append, List.mem_singleton]
      exact or_comm

/-- The entry that stands most often; of several the smallest. -/
def comm (l : List Int) : Int := ((l.map fun x => (x, cnt x l)).foldl commStep (-1, 0)).1

theorem comm_counts (l : List Int) (h0 : ∀ x ∈ l, 0 ≤ x) : commF (counts l) = comm l := by
  obtain ⟨i1, i2, i3⟩ := counts_ok l h0
  unfold commF comm
  rw [commFold_ext (counts l) (l.map fun x => (x, cnt x l))]
  · intro p hp
    exact h0 _ ((i3 p.1).1 ⟨p, hp, rfl⟩)
  · intro p
    rw [List.mem_map]
    constructor
    · intro hp
      exact ⟨p.1, (i3 p.1).1 ⟨p, hp, rfl⟩, by rw [← i2, keysOk_mem _ i1 p hp]⟩
    · rintro ⟨x, hx, rfl⟩
      obtain ⟨p, hp, hpx⟩ := (i3 x).2 hx
      have := keysOk_mem _ i1 p hp
      rw [hpx, i2] at this
      have : p = (x, cnt x l) := Prod.ext hpx this.symm
      rw [← this]
      exact hp

theorem cnt_le (x : Int) (l : List Int) : 0 ≤ cnt x l ∧ cnt x l ≤ l.length := by
  have := List.count_le_length (a := x) (l := l)
  unfold cnt
  omega

theorem comm_l0 {R : Type} (N : Nat) (l : List Int) (h0 : ∀ x ∈ l, 0 ≤ x) (hl : l.length ≤ 256) (b : Int) (k : Int → List (Int × Int) → Option R) : ∀ (d m i : Nat), i + d = l.length → d < m →
    F.impl_commonest_l0 N m b l (l.length : Int) (i : Int) (counts (l.take i)) k = k b (counts l) := by
  intro d
  induction d with
  | zero =>
    intro m i hi hm
    obtain ⟨m, rfl⟩ : ∃ z, m = z + 1 := ⟨m - 1, by omega⟩
    simp only [F.impl_commonest_l0, F.impl_commonest_l0_s, Bool.cond_decide]
    rw [if_neg (by omega), List.take_of_length_le (by omega)]
  | succ d ih =>
    intro m i hi hm
    obtain ⟨m, rfl⟩ : ∃ z, m = z + 1 := ⟨m - 1, by omega⟩
    simp only [F.impl_commonest_l0, F.impl_commonest_l0_s, Bool.cond_decide]
    rw [if_pos (by omega), inB_true (by omega) (by omega), wrap_id (n := (i : Int) + 1) (by omega) (by omega)]
    simp only [cond_true, Int.toNat_natCast]
    simp only [getD_get l (show i < l.length by omega)]
    have hc := (counts_ok (l.take i) fun x hx => h0 x (List.mem_of_mem_take hx)).2.1 l[i]
    have hb := cnt_le l[i] (l.take i)
    have hlen : (l.take i).length ≤ 256 := by rw [List.length_take]; omega
    rw [wrap_id (by rw [hc]; omega) (by rw [hc]; omega)]
    have e : mset eqI l[i] (mget eqI l[i] 0 (counts (l.take i)) + 1) (counts (l.take i)) = counts (l.take (i + 1)) := by
      unfold counts
      rw [List.take_succ_eq_append_getElem (i := i) (by omega), List.foldl_append]
      rfl
    rw [e]
    have := ih m (i + 1) (by omega) (by omega)
    rw [show ((i + 1 : Nat) : Int) = (i : Int) + 1 by omega] at this
    exact this

theorem implCommonest {R : Type} (N : Nat) (l : List Int) (h0 : ∀ x ∈ l, 0 ≤ x) (hl : l.length ≤ 256) (hN : 1048576 < N) (k : Int → Option R) : F.impl_commonest N l k = k (comm l) := by
  simp only [F.impl_commonest]
  have := comm_l0 (R := R) N l h0 hl (-1) (fun y7 y8 => F.impl_commonest_l2 N N y7 y8 (List.length y8) (List.range (List.length y8)) 0 fun y14 => k y14) l.length N 0 (by omega) (by omega)
  rw [show counts (l.take 0) = [] from rfl] at this
  refine this.trans ?_
  obtain ⟨N, rfl⟩ : ∃ z, N = z + 1 := ⟨N - 1, by omega⟩
  simp only [F.impl_commonest_l2, F.impl_commonest_l2_s]
  have hk : commOk (-1) (counts l) (List.length (counts l)) (List.range (List.length (counts l))) 0 = true := by
    simp [commOk, (counts_ok l h0).1]
  rw [hk, cond_true, comm_counts l h0]

theorem def_l2 {R : Type} (N : Nat) (l : List Int) (hl : l.length ≤ 256) (a : List Int) (b t x : Int) (c : List Int) (u v : Int) (k : List Int → Int → Int → Int → Int → List Int → Int → Int → Option R) : ∀ (d m i : Nat), i + d = l.length → d < m →
    F.spec_l3Default_l2 N m a b t x (cnt x (l.take i)) c u v l (l.length : Int) (i : Int) k = k a b t x (cnt x l) c u v := by
  intro d
  induction d with
  | zero =>
    intro m i hi hm
    obtain ⟨m, rfl⟩ : ∃ z, m = z + 1 := ⟨m - 1, by omega⟩
    simp only [F.spec_l3Default_l2, F.spec_l3Default_l2_s, Bool.cond_decide]
    rw [if_neg (by omega), List.take_of_length_le (by omega)]
  | succ d ih =>
    intro m i hi hm
    obtain ⟨m, rfl⟩ : ∃ z, m = z + 1 := ⟨m - 1, by omega⟩
    simp only [F.spec_l3Default_l2, F.spec_l3Default_l2_s, Bool.cond_decide]
    have hb := cnt_le x (l.take i)
    have hlen : (l.take i).length ≤ 256 := by rw [List.length_take]; omega
    rw [if_pos (by omega), inB_true (by omega) (by omega), wrap_id (n := (i : Int) + 1) (by omega) (by omega), wrap_id (n := cnt x (l.take i) + 1) (by omega) (by omega)]
    simp only [cond_true, Int.toNat_natCast]
    simp only [getD_get l (show i < l.length by omega)]
    have := ih m (i + 1) (by omega) (by omega)
    rw [show ((i + 1 : Nat) : Int) = (i : Int) + 1 by omega] at this
    have e : cnt x (l.take (i + 1)) = if x = l[i] then cnt x (l.take i) + 1 else cnt x (l.take i) := by
      rw [List.take_succ_eq_append_getElem (i := i) (by omega)]
      simp only [cnt, List.count_append, List.count_singleton]
      by_cases h : x = l[i]
      · simp [h]
      · rw [if_neg h]
        have : (l[i] == x) = false := by simpa using fun e : l[i] = x => h e.symm
        simp [this]
    rw [e] at this
    by_cases h : x = l[i]
    · rw [if_pos h] at this
      rw [show (x == l[i]) = true by simpa using h, cond_true]
      exact this
    · rw [if_neg h] at this
      rw [show (x == l[i]) = false by simpa using h, cond_false]
      exact this

/-- The best so far. -/
def bestTo (l : List Int) (i : Nat) : Int × Int := ((l.take i).map fun x => (x, cnt x l)).foldl commStep (-1, 0)

theorem bestTo_ok (l : List Int) (h0 : ∀ x ∈ l, 0 ≤ x) (i : Nat) : (bestTo l i = (-1, 0)) ∨ (0 ≤ (bestTo l i).1) := by
  rcases commFold ((l.take i).map fun x => (x, cnt x l)) (by
    intro p hp
    obtain ⟨x, hx, rfl⟩ := List.mem_map.1 hp
    exact h0 x (List.mem_of_mem_take hx)) with ⟨_, h⟩ | ⟨h, _⟩
  · exact .inl h
  · right
    obtain ⟨x, hx, hxe⟩ := List.mem_map.1 h
    unfold bestTo
    rw [← hxe]
    exact h0 x (List.mem_of_mem_take hx)

theorem def_l0 {R : Type} (N : Nat) (l : List Int) (h0 : ∀ x ∈ l, 0 ≤ x) (hl : l.length ≤ 256) (hN : 1048576 < N) (k : Int → Option R) : ∀ (d m i : Nat), i + d = l.length → d < m →
    F.spec_l3Default_l0 N m l (bestTo l i).1 (bestTo l i).2 l (l.length : Int) (i : Int) k = k (comm l) := by
  intro d
  induction d with
  | zero =>
    intro m i hi hm
    obtain ⟨m, rfl⟩ : ∃ z, m = z + 1 := ⟨m - 1, by omega⟩
    simp only [F.spec_l3Default_l0, F.spec_l3Default_l0_s, Bool.cond_decide]
    rw [if_neg (by omega)]
    simp only [bestTo, comm]
    rw [List.take_of_length_le (by omega)]
  | succ d ih =>
    intro m i hi hm
    obtain ⟨m, rfl⟩ : ∃ z, m = z + 1 := ⟨m - 1, by omega⟩
    simp only [F.spec_l3Default_l0, F.spec_l3Default_l0_s, Bool.cond_decide]
    rw [if_pos (by omega), inB_true (by omega) (by omega)]
    simp only [cond_true, Int.toNat_natCast]
    simp only [getD_get l (show i < l.length by omega)]
    have h2 := fun k' => def_l2 (R := R) N l hl l (bestTo l i).1 (bestTo l i).2 l[i] l (l.length : Int) (i : Int) k' l.length N 0 (by omega) (by omega)
    have h2' := h2
    simp only [show cnt l[i] (List.take 0 l) = 0 from rfl, show ((0 : Nat) : Int) = 0 from rfl] at h2'
    rw [h2', wrap_id (n := (i : Int) + 1) (by omega) (by omega)]
    have ih' := ih m (i + 1) (by omega) (by omega)
    rw [show ((i + 1 : Nat) : Int) = (i : Int) + 1 by omega] at ih'
    have e : bestTo l (i + 1) = commStep (bestTo l i) (l[i], cnt l[i] l) := by
      unfold bestTo
      rw [take_succ_map _ l (by omega), List.foldl_append]
      rfl
    have hpos : 0 < cnt l[i] l := by
      unfold cnt
      have : 0 < l.count l[i] := List.count_pos_iff.2 (List.getElem_mem _)
      omega
    have hbt := bestTo_ok l h0 i
    generalize bestTo l i = bt at e hbt ⊢
    generalize cnt l[i] l = c at e hpos ⊢
    have hx := h0 l[i] (List.getElem_mem _)
    generalize l[i] = x at e hx ⊢
    rw [e] at ih'
    unfold commStep at ih'
    simp only at ih'
    by_cases g1 : c > bt.2
    · rw [if_pos g1]
      rw [show (decide (bt.1 < 0) || (decide (c > bt.2) || (decide (c = bt.2) && decide (x < bt.1)))) = true by simp [g1]] at ih'
      exact ih'
    · rw [if_neg g1]
      have hb0 : ¬ bt.1 < 0 := by
        rcases hbt with h | h
        · rw [h] at g1; simp at g1; omega
        · omega
      by_cases g2 : c = bt.2
      · rw [show (c == bt.2) = true by simpa using g2, cond_true]
        by_cases g3 : x < bt.1
        · rw [if_pos g3]
          rw [show (decide (bt.1 < 0) || (decide (c > bt.2) || (decide (c = bt.2) && decide (x < bt.1)))) = true by simp [g2, g3]] at ih'
          exact ih'
        · rw [if_neg g3]
          rw [show (decide (bt.1 < 0) || (decide (c > bt.2) || (decide (c = bt.2) && decide (x < bt.1)))) = false by simp [g1, g3, hb0]] at ih'
          exact ih'
      · rw [show (c == bt.2) = false by simpa using g2, cond_false]
        rw [show (decide (bt.1 < 0) || (decide (c > bt.2) || (decide (c = bt.2) && decide (x < bt.1)))) = false by simp [g1, g2, hb0]] at ih'
        exact ih'

theorem specDefault {R : Type} (N : Nat) (l : List Int) (h0 : ∀ x ∈ l, 0 ≤ x) (hl : l.length ≤ 256) (hN : 1048576 < N) (k : Int → Option R) : F.spec_l3Default N l k = k (comm l) := by
  simp only [F.spec_l3Default]
  exact def_l0 N l h0 hl hN k l.length N 0 (by omega) (by omega)
/-! ### rows laid over one another -/

/-- The columns, from i on, where a row is not df. -/
def odds (row : List Int) (df : Int) : Nat → Nat → List Int
  | 0, _ => []
  | d + 1, i => bif List.getD row i 0 != df then (i : Int) :: odds row df d (i + 1) else odds row df d (i + 1)

theorem odds_mem (row : List Int) (df : Int) : ∀ (d i : Nat), ∀ c ∈ odds row df d i, (i : Int) ≤ c ∧ c < i + d
  | 0, _, c, h => by simp [odds] at h
  | d + 1, i, c, h => by
    simp only [odds] at h
    cases hc : (List.getD row i 0 != df) <;> rw [hc] at h <;> simp only [cond_true, cond_false] at h
    · have := odds_mem row df d (i + 1) c h; omega
    · rcases List.mem_cons.1 h with rfl | h
      · omega
      · have := odds_mem row df d (i + 1) c h; omega

theorem odds_len (row : List Int) (df : Int) : ∀ (d i : Nat), (odds row df d i).length ≤ d
  | 0, _ => by simp [odds]
  | d + 1, i => by
    simp only [odds]
    have := odds_len row df d (i + 1)
    cases (List.getD row i 0 != df) <;> simp only [cond_true, cond_false, List.length_cons] <;> omega

theorem odds_sorted (row : List Int) (df : Int) : ∀ (d i : Nat), (odds row df d i).Pairwise (· < ·)
  | 0, _ => by simp [odds]
  | d + 1, i => by
    simp only [odds]
    have h := odds_sorted row df d (i + 1)
    cases (List.getD row i 0 != df) <;> simp only [cond_true, cond_false]
    · exact h
    · refine List.pairwise_cons.2 ⟨fun c hc => ?_, h⟩
      have := odds_mem row df d (i + 1) c hc
      omega

def isFree (ck : List Int) (k : Int) : Bool := decide ((ck.length : Int) ≤ k) || List.getD ck k.toNat 0 == -1

def fitsAt (ck odd : List Int) (k : Int) : Bool := odd.all fun c => isFree ck (k + c)

def srch (ck odd : List Int) : Nat → Nat → Nat
  | 0, k => k
  | d + 1, k => bif fitsAt ck odd k then k else srch ck odd d (k + 1)

theorem srch_le (ck odd : List Int) : ∀ (d k : Nat), srch ck odd d k ≤ k + d
  | 0, k => Nat.le_refl _
  | d + 1, k => by
    simp only [srch]
    have := srch_le ck odd d (k + 1)
    cases fitsAt ck odd k <;> simp only [cond_true, cond_false] <;> omega

theorem srch_skip (ck odd : List Int) : ∀ (j d k : Nat), (∀ i, k ≤ i → i < k + j → fitsAt ck odd i = false) → srch ck odd (j + d) k = srch ck odd d (k + j)
  | 0, d, k, _ => by rw [Nat.zero_add, Nat.add_zero]
  | j + 1, d, k, h => by
    rw [show j + 1 + d = (j + d) + 1 by omega]
    simp only [srch]
    rw [h k (Nat.le_refl _) (by omega), cond_false, srch_skip ck odd j d (k + 1) fun i h1 h2 => h i (by omega) (by omega)]
    congr 1
    omega

theorem fits_far {ck odd : List Int} (ho : ∀ c ∈ odd, 0 ≤ c) {k : Int} (hk : (ck.length : Int) ≤ k) : fitsAt ck odd k = true := by
  unfold fitsAt
  rw [List.all_eq_true]
  intro c hc
  have := ho c hc
  unfold isFree
  rw [decide_eq_true (by omega), Bool.true_or]

def ext (l : List Int) (n : Nat) (v : Int) : List Int := l ++ List.replicate (n - l.length) v

theorem ext_len (l : List Int) (n : Nat) (v : Int) : (ext l n v).length = max l.length n := by
  simp only [ext, List.length_append, List.length_replicate]
  omega

theorem ext_id {l : List Int} {n : Nat} (v : Int) (h : n ≤ l.length) : ext l n v = l := by
  simp only [ext, Nat.sub_eq_zero_of_le h, List.replicate_zero, List.append_nil]

theorem ext_step {l : List Int} {n : Nat} (v : Int) (h : l.length < n) : ext (l ++ [v]) n v = ext l n v := by
  simp only [ext, List.length_append, List.length_singleton, List.append_assoc]
  rw [show n - l.length = (n - (l.length + 1)) + 1 by omega, List.replicate_succ]
  rfl

/-- One entry. -/
def put1 (k : Nat) (row : List Int) (s : Int) (p : List Int × List Int) (c : Int) : List Int × List Int :=
  ((ext p.1 (k + c.toNat + 1) 0).set (k + c.toNat) (List.getD row c.toNat 0), (ext p.2 (k + c.toNat + 1) (-1)).set (k + c.toNat) s)

def place (k : Nat) (row : List Int) (s : Int) (odd : List Int) (p : List Int × List Int) : List Int × List Int := odd.foldl (put1 k row s) p

/-- What is known of the slots. -/
structure Slots (n : Nat) (p : List Int × List Int) : Prop where
  len : p.1.length = p.2.length
  size : p.2.length ≤ 60000
  low : ∀ x ∈ p.2, -1 ≤ x

theorem put1_slots {k : Nat} {row : List Int} {s : Int} {p : List Int × List Int} {c : Int} (hs : 0 ≤ s) (hk : (k : Int) + c < 60000) (h0 : 0 ≤ c) (h : Slots 0 p) : Slots 0 (put1 k row s p c) := by
  refine ⟨?_, ?_, ?_⟩
  · simp only [put1, List.length_set, ext_len, h.len]
  · simp only [put1, List.length_set, ext_len]
    have := h.size
    omega
  · intro x hx
    rcases List.mem_or_eq_of_mem_set hx with hx | rfl
    · simp only [ext, List.mem_append, List.mem_replicate] at hx
      rcases hx with hx | ⟨_, rfl⟩
      · exact h.low x hx
      · omega
    · omega

theorem place_slots {k : Nat} {row : List Int} {s : Int} (hs : 0 ≤ s) : ∀ {odd : List Int} {p : List Int × List Int}, (∀ c ∈ odd, 0 ≤ c ∧ (k : Int) + c < 60000) → Slots 0 p → Slots 0 (place k row s odd p)
  | [], _, _, h => h
  | c :: odd, p, ho, h => by
    have hc := ho c (by simp)
    exact place_slots (odd := odd) hs (fun d hd => ho d (by simp [hd])) (put1_slots hs hc.2 hc.1 h)

/-- Taken: there, and somebody's. -/
def Taken (ck : List Int) (j : Nat) : Prop := j < ck.length ∧ 0 ≤ List.getD ck j 0

theorem put1_taken {k : Nat} {row : List Int} {s : Int} {p : List Int × List Int} {c : Int} (hs : 0 ≤ s) {j : Nat} (h : Taken p.2 j) : Taken (put1 k row s p c).2 j := by
  obtain ⟨h1, h2⟩ := h
  refine ⟨by simp only [put1, List.length_set, ext_len]; omega, ?_⟩
  simp only [put1]
  have hl : j < (ext p.2 (k + c.toNat + 1) (-1)).length := by rw [ext_len]; omega
  rw [List.getD_eq_getElem?_getD, List.getElem?_set]
  by_cases e : k + c.toNat = j
  · rw [if_pos e, if_pos (by omega)]
    exact hs
  · rw [if_neg e, ← List.getD_eq_getElem?_getD]
    have : List.getD (ext p.2 (k + c.toNat + 1) (-1)) j 0 = List.getD p.2 j 0 := by
      simp only [ext, List.getD_eq_getElem?_getD, List.getElem?_append_left h1]
    rw [this]
    exact h2

theorem place_taken {k : Nat} {row : List Int} {s : Int} (hs : 0 ≤ s) : ∀ {odd : List Int} {p : List Int × List Int} {j : Nat}, Taken p.2 j → Taken (place k row s odd p).2 j
  | [], _, _, h => h
  | _ :: odd, _, _, h => place_taken (odd := odd) hs (put1_taken hs h)

theorem taken_free {ck : List Int} (hlow : ∀ x ∈ ck, -1 ≤ x) (j : Nat) : isFree ck j = false ↔ Taken ck j := by
  simp only [isFree, Taken, Int.toNat_natCast, Bool.or_eq_false_iff, decide_eq_false_iff_not]
  by_cases h : j < ck.length
  · rw [getD_get ck h]
    have := hlow ck[j] (List.getElem_mem h)
    by_cases h2 : 0 ≤ ck[j]
    · have e : (ck[j] == -1) = false := by simp; omega
      exact ⟨fun _ => ⟨h, h2⟩, fun _ => ⟨by omega, e⟩⟩
    · have e : (ck[j] == -1) = true := by simp; omega
      exact ⟨fun k => (by rw [e] at k; cases k.2), fun k => (h2 k.2).elim⟩
  · exact ⟨fun k => (k.1 (by omega)).elim, fun k => (h k.1).elim⟩

/-! #### the reference -/

theorem spec_l2 {R : Type} (N : Nat) (row : List Int) (df : Int) (hl : row.length ≤ 256) (x31 : Int) (x32 : List Int) (x34 x35 : Int) (x39 : List Int) (x40 : Int) (x41 x42 x43 : List Int) (x44 x45 : Int) (x47 x48 x49 x50 x51 x52 x53 x54 x55 x56 x57 x58 x59 x60 : List Int)
    (k : Int → List Int → Int → Int → List Int → Int → List Int → List Int → List Int → Int → Int → List Int → List Int → List Int → List Int → List Int → List Int → List Int → List Int → List Int → List Int → List Int → List Int → List Int → List Int → List Int → Option R) : ∀ (d m i : Nat) (acc : List Int), i + d = row.length → d < m → acc.length ≤ i →
    F.spec_Pack_l2 N m x31 x32 df x34 x35 row (row.length : Int) (i : Int) x39 x40 x41 x42 x43 x44 x45 acc x47 x48 x49 x50 x51 x52 x53 x54 x55 x56 x57 x58 x59 x60 k = k x31 x32 x34 x35 x39 x40 x41 x42 x43 x44 x45 (acc ++ odds row df d i) x47 x48 x49 x50 x51 x52 x53 x54 x55 x56 x57 x58 x59 x60 := by
  intro d
  induction d with
  | zero =>
    intro m i acc hi hm ha
    obtain ⟨m, rfl⟩ : ∃ z, m = z + 1 := ⟨m - 1, by omega⟩
    simp only [F.spec_Pack_l2, F.spec_Pack_l2_s, Bool.cond_decide]
    rw [if_neg (by omega)]
    simp [odds]
  | succ d ih =>
    intro m i acc hi hm ha
    obtain ⟨m, rfl⟩ : ∃ z, m = z + 1 := ⟨m - 1, by omega⟩
    simp only [F.spec_Pack_l2, F.spec_Pack_l2_s, Bool.cond_decide]
    have hb : Nat.ble (acc.length + [(i : Int)].length) (bigOf 8) = true := by rw [Nat.ble_eq]; simp only [bigOf, List.length_singleton]; omega
    rw [if_pos (by omega), inB_true (by omega) (by omega), wrap_id (n := (i : Int) + 1) (by omega) (by omega), hb]
    simp only [cond_true, Int.toNat_natCast, odds]
    cases hc : (List.getD row i 0 != df)
    · have := ih m (i + 1) acc (by omega) (by omega) (by omega)
      rw [show ((i + 1 : Nat) : Int) = (i : Int) + 1 by omega] at this
      simpa only [cond_false] using this
    · have := ih m (i + 1) (acc ++ [(i : Int)]) (by omega) (by omega) (by simp; omega)
      rw [show ((i + 1 : Nat) : Int) = (i : Int) + 1 by omega, List.append_assoc] at this
      simpa only [cond_true, List.singleton_append] using this

theorem specFree {R : Type} (ck : List Int) (k : Int) (h0 : 0 ≤ k) (c : Bool → Option R) : F.spec_l3Free ck k c = c (isFree ck k) := by
  simp only [F.spec_l3Free, isFree, Bool.cond_decide]
  by_cases h : (ck.length : Int) ≤ k
  · rw [if_pos (by omega), decide_eq_true h, Bool.true_or]
  · rw [if_neg (by omega), inB_true h0 (by omega), decide_eq_false h, Bool.false_or, cond_true]

theorem fits_drop {ck odd : List Int} {k : Int} {i : Nat} (h : i < odd.length) : fitsAt ck (odd.drop i) k = (isFree ck (k + odd[i]) && fitsAt ck (odd.drop (i + 1)) k) := by
  simp only [fitsAt]
  rw [List.drop_eq_getElem_cons h, List.all_cons]

theorem spec_l6 {R : Type} (N : Nat) (odd ck : List Int) (k : Nat) (hk : k ≤ 60000) (hl : odd.length ≤ 256) (ho : ∀ c ∈ odd, 0 ≤ c ∧ c < 256) (x115 : Int) (x116 : List Int) (x119 x120 : Int) (x123 : List Int) (x124 : Int) (x125 x126 x127 : List Int) (x128 x129 : Int) (x131 x132 x133 x134 x135 x136 x137 x138 x139 x140 x141 x142 x143 : List Int)
    (q : Int → List Int → Int → Bool → Int → Int → List Int → Int → List Int → List Int → List Int → Int → Int → List Int → List Int → List Int → List Int → List Int → List Int → List Int → List Int → List Int → List Int → List Int → List Int → List Int → List Int → List Int → Option R) : ∀ (d m i : Nat), i + d = odd.length → d < m →
    F.spec_Pack_l6 N m x115 x116 (k : Int) true x119 x120 (odd.length : Int) (i : Int) x123 x124 x125 x126 x127 x128 x129 odd x131 x132 x133 x134 x135 x136 x137 x138 x139 x140 x141 x142 x143 ck q = q x115 x116 (k : Int) (fitsAt ck (odd.drop i) k) x119 x120 x123 x124 x125 x126 x127 x128 x129 odd x131 x132 x133 x134 x135 x136 x137 x138 x139 x140 x141 x142 x143 ck := by
  intro d
  induction d with
  | zero =>
    intro m i hi hm
    obtain ⟨m, rfl⟩ : ∃ z, m = z + 1 := ⟨m - 1, by omega⟩
    simp only [F.spec_Pack_l6, F.spec_Pack_l6_s, Bool.cond_decide]
    rw [if_neg (by omega), List.drop_of_length_le (by omega)]
    rfl
  | succ d ih =>
    intro m i hi hm
    obtain ⟨m, rfl⟩ : ∃ z, m = z + 1 := ⟨m - 1, by omega⟩
    simp only [F.spec_Pack_l6, F.spec_Pack_l6_s, Bool.cond_decide]
    rw [if_pos (by omega), inB_true (by omega) (by omega), wrap_id (n := (i : Int) + 1) (by omega) (by omega)]
    simp only [cond_true, Int.toNat_natCast]
    simp only [getD_get odd (show i < odd.length by omega)]
    have hc := ho odd[i] (List.getElem_mem _)
    rw [wrap_id (by omega) (by omega), specFree _ _ (by omega), fits_drop (by omega)]
    cases hf : isFree ck (k + odd[i])
    · simp
    · have := ih m (i + 1) (by omega) (by omega)
      rw [show ((i + 1 : Nat) : Int) = (i : Int) + 1 by omega] at this
      simpa using this

theorem spec_l4 {R : Type} (N : Nat) (hN : 1048576 < N) (odd ck : List Int) (hl : odd.length ≤ 256) (ho : ∀ c ∈ odd, 0 ≤ c ∧ c < 256) (hck : ck.length ≤ 60000) (x87 : Int) (x88 : List Int) (x91 x92 : Int) (x93 : List Int) (x94 : Int) (x95 x96 x97 : List Int) (x98 x99 : Int) (x101 x102 x103 x104 x105 x106 x107 x108 x109 x110 x111 x112 x113 : List Int)
    (q : Int → List Int → Int → Int → Int → List Int → Int → List Int → List Int → List Int → Int → Int → List Int → List Int → List Int → List Int → List Int → List Int → List Int → List Int → List Int → List Int → List Int → List Int → List Int → List Int → List Int → Option R) : ∀ (d m k : Nat), k + d = ck.length → d + 1 < m →
    F.spec_Pack_l4 N m x87 x88 (k : Int) false x91 x92 x93 x94 x95 x96 x97 x98 x99 odd x101 x102 x103 x104 x105 x106 x107 x108 x109 x110 x111 x112 x113 ck q = q x87 x88 (srch ck odd d k : Nat) x91 x92 x93 x94 x95 x96 x97 x98 x99 odd x101 x102 x103 x104 x105 x106 x107 x108 x109 x110 x111 x112 x113 ck := by
  have stop : ∀ (m : Nat) (k : Int), 0 < m → F.spec_Pack_l4 N m x87 x88 k true x91 x92 x93 x94 x95 x96 x97 x98 x99 odd x101 x102 x103 x104 x105 x106 x107 x108 x109 x110 x111 x112 x113 ck q = q x87 x88 k x91 x92 x93 x94 x95 x96 x97 x98 x99 odd x101 x102 x103 x104 x105 x106 x107 x108 x109 x110 x111 x112 x113 ck := by
    intro m k hm
    obtain ⟨m, rfl⟩ : ∃ z, m = z + 1 := ⟨m - 1, by omega⟩
    simp only [F.spec_Pack_l4, F.spec_Pack_l4_s, Bool.not_true, cond_false]
  intro d
  induction d with
  | zero =>
    intro m k hk hm
    obtain ⟨m, rfl⟩ : ∃ z, m = z + 1 := ⟨m - 1, by omega⟩
    simp only [F.spec_Pack_l4, F.spec_Pack_l4_s, Bool.not_false, cond_true]
    have h6 := fun q => spec_l6 (R := R) N odd ck k (by omega) hl ho x87 x88 x91 x92 x93 x94 x95 x96 x97 x98 x99 x101 x102 x103 x104 x105 x106 x107 x108 x109 x110 x111 x112 x113 q odd.length N 0 (by omega) (by omega)
    simp only [Int.natCast_zero] at h6
    rw [h6, List.drop_zero, fits_far (fun c hc => (ho c hc).1) (by omega)]
    simp only [Bool.not_true, cond_false, srch]
    exact stop m k (by omega)
  | succ d ih =>
    intro m k hk hm
    obtain ⟨m, rfl⟩ : ∃ z, m = z + 1 := ⟨m - 1, by omega⟩
    simp only [F.spec_Pack_l4, F.spec_Pack_l4_s, Bool.not_false, cond_true]
    have h6 := fun q => spec_l6 (R := R) N odd ck k (by omega) hl ho x87 x88 x91 x92 x93 x94 x95 x96 x97 x98 x99 x101 x102 x103 x104 x105 x106 x107 x108 x109 x110 x111 x112 x113 q odd.length N 0 (by omega) (by omega)
    simp only [Int.natCast_zero] at h6
    rw [h6, List.drop_zero]
    simp only [srch]
    cases hf : fitsAt ck odd k
    · simp only [Bool.not_false, cond_true, cond_false]
      rw [wrap_id (by omega) (by omega)]
      have := ih m (k + 1) (by omega) (by omega)
      rw [show ((k + 1 : Nat) : Int) = (k : Int) + 1 by omega] at this
      exact this
    · simp only [Bool.not_true, cond_false, cond_true]
      exact stop m k (by omega)

theorem spec_l10 {R : Type} (N : Nat) (n : Nat) (hn : n ≤ 60000) (k c : Int) (hkc : k + c + 1 = n) (h0 : 0 ≤ k + c) (x230 : Int) (x231 : List Int) (x234 x235 x236 x237 : Int) (x238 : List Int) (x239 : Int) (x240 x241 x242 : List Int) (x243 x244 : Int) (x245 x246 x247 x248 x249 x250 x251 x252 x253 x254 x255 x256 x257 : List Int)
    (q : Int → List Int → Int → Int → Int → Int → Int → Int → List Int → Int → List Int → List Int → List Int → Int → Int → List Int → List Int → List Int → List Int → List Int → List Int → List Int → List Int → List Int → List Int → List Int → List Int → List Int → List Int → List Int → Option R) : ∀ (d m : Nat) (nx ck : List Int), n - ck.length = d → d < m → nx.length = ck.length → ck.length ≤ 60000 →
    F.spec_Pack_l10 N m x230 x231 k c x234 x235 x236 x237 x238 x239 x240 x241 x242 x243 x244 x245 x246 x247 x248 x249 x250 x251 x252 x253 x254 x255 x256 x257 nx ck q = q x230 x231 k c x234 x235 x236 x237 x238 x239 x240 x241 x242 x243 x244 x245 x246 x247 x248 x249 x250 x251 x252 x253 x254 x255 x256 x257 (ext nx n 0) (ext ck n (-1)) := by
  intro d
  induction d with
  | zero =>
    intro m nx ck hd hm hl hs
    obtain ⟨m, rfl⟩ : ∃ z, m = z + 1 := ⟨m - 1, by omega⟩
    simp only [F.spec_Pack_l10, F.spec_Pack_l10_s, Bool.cond_decide]
    rw [wrap_id (by omega) (by omega), if_neg (by omega), ext_id _ (by omega), ext_id _ (by omega)]
  | succ d ih =>
    intro m nx ck hd hm hl hs
    obtain ⟨m, rfl⟩ : ∃ z, m = z + 1 := ⟨m - 1, by omega⟩
    simp only [F.spec_Pack_l10, F.spec_Pack_l10_s, Bool.cond_decide]
    have hb : Nat.ble (nx.length + 1) (bigOf 8) = true := by rw [Nat.ble_eq]; simp only [bigOf]; omega
    have hb' : Nat.ble (ck.length + 1) (bigOf 8) = true := by rw [Nat.ble_eq]; simp only [bigOf]; omega
    simp only [List.length_singleton]
    rw [wrap_id (by omega) (by omega), if_pos (by omega), hb, hb']
    simp only [cond_true]
    rw [ih m (nx ++ [0]) (ck ++ [-1]) (by simp; omega) (by omega) (by simp [hl]) (by simp; omega), ext_step _ (by omega), ext_step _ (by omega)]

/-- The loop over the columns of a row. -/
theorem spec_l8 {R : Type} (N : Nat) (hN : 1048576 < N) (row odd : List Int) (k : Nat) (hk : k ≤ 60000) (hrow : row.length ≤ 256) (hl : odd.length ≤ 256) (ho : ∀ c ∈ odd, 0 ≤ c ∧ c < row.length) (s : Int) (hs : 0 ≤ s) (x204 x205 : Int) (x208 : List Int) (x209 : Int) (x210 x211 x212 : List Int) (x213 x214 : Int) (x216 x217 x218 x219 x220 x221 x222 x223 x224 x225 x226 x227 : List Int)
    (q : Int → Int → List Int → Int → List Int → List Int → List Int → Int → Int → List Int → List Int → List Int → List Int → List Int → List Int → List Int → List Int → List Int → List Int → List Int → List Int → List Int → List Int → Option R)
    (q2 : Int → Int → Int → List Int → Int → List Int → List Int → List Int → Int → Int → List Int → List Int → List Int → List Int → List Int → List Int → List Int → List Int → List Int → List Int → List Int → List Int → List Int → List Int → Option R) (r : Option R)
    (hq2 : ∀ y1 y2, q2 2 x204 x205 x208 x209 x210 x211 x212 0 x214 [] [] [] [] [] [] [] x223 x224 x225 x226 x227 y1 y2 = r) : ∀ (d m i : Nat) (p : List Int × List Int), i + d = odd.length → d < m → Slots 0 p →
    F.spec_Pack_l8 N m s row (k : Int) x204 x205 (odd.length : Int) (i : Int) x208 x209 x210 x211 x212 x213 x214 odd x216 x217 x218 x219 x220 x221 x222 x223 x224 x225 x226 x227 p.1 p.2 q q2 =
      if (∀ c ∈ odd.drop i, (k : Int) + c < 60000) then q x204 x205 x208 x209 x210 x211 x212 x213 x214 x216 x217 x218 x219 x220 x221 x222 x223 x224 x225 x226 x227 (place k row s (odd.drop i) p).1 (place k row s (odd.drop i) p).2 else r := by
  intro d
  induction d with
  | zero =>
    intro m i p hi hm hp
    obtain ⟨m, rfl⟩ : ∃ z, m = z + 1 := ⟨m - 1, by omega⟩
    simp only [F.spec_Pack_l8, F.spec_Pack_l8_s, Bool.cond_decide]
    rw [if_neg (by omega), List.drop_of_length_le (by omega), if_pos (by simp)]
    rfl
  | succ d ih =>
    intro m i p hi hm hp
    obtain ⟨m, rfl⟩ : ∃ z, m = z + 1 := ⟨m - 1, by omega⟩
    have hil : i < odd.length := by omega
    simp only [F.spec_Pack_l8, F.spec_Pack_l8_s, Bool.cond_decide]
    rw [if_pos (by omega), inB_true (by omega) (by omega)]
    simp only [cond_true, Int.toNat_natCast]
    simp only [getD_get odd hil]
    have hc := ho odd[i] (List.getElem_mem _)
    rw [List.drop_eq_getElem_cons hil]
    generalize odd[i] = c at hc ⊢
    rw [wrap_id (by omega) (by omega)]
    by_cases hbig : (k : Int) + c ≥ 60000
    · rw [if_pos hbig, if_neg (by intro h; have := h c (by simp); omega)]
      exact hq2 _ _
    · rw [if_neg hbig]
      have h10 := fun q => spec_l10 (R := R) N (k + c.toNat + 1) (by omega) (k : Int) c (by omega) (by omega) s row x204 x205 (odd.length : Int) (i : Int) x208 x209 x210 x211 x212 x213 x214 odd x216 x217 x218 x219 x220 x221 x222 x223 x224 x225 x226 x227 q (k + c.toNat + 1 - p.2.length) N p.1 p.2 rfl (by omega) hp.len hp.size
      rw [h10, wrap_id (n := (i : Int) + 1) (by omega) (by omega), wrap_id (n := (k : Int) + c) (by omega) (by omega), inB_true (by omega) (by omega), inB_true (by omega) (by rw [ext_len]; omega), inB_true (by omega) (by rw [ext_len]; omega)]
      simp only [cond_true]
      have := ih m (i + 1) (put1 k row s p c) (by omega) (by omega) (put1_slots hs (by omega) hc.1 hp)
      rw [show ((i + 1 : Nat) : Int) = (i : Int) + 1 by omega] at this
      have e : ((k : Int) + c).toNat = k + c.toNat := by omega
      rw [e]
      refine this.trans ?_
      by_cases hr : ∀ c' ∈ odd.drop (i + 1), (k : Int) + c' < 60000
      · rw [if_pos hr, if_pos (by intro c' hc'; rcases List.mem_cons.1 hc' with rfl | h; omega; exact hr c' h)]
        rfl
      · rw [if_neg hr, if_neg fun h => hr fun c' hc' => h c' (by simp [hc'])]

/-- A row's place: bases, defaults, slots. -/
abbrev Laid := List Int × List Int × (List Int × List Int)

def packRow (row : List Int) (s : Nat) (st : Laid) : Option Laid :=
  if odds row (comm row) row.length 0 = [] then some (st.1 ++ [0], st.2.1 ++ [comm row], st.2.2)
  else if ∀ c ∈ odds row (comm row) row.length 0, (srch st.2.2.2 (odds row (comm row) row.length 0) st.2.2.2.length 0 : Int) + c < 60000 then
    some (st.1 ++ [(srch st.2.2.2 (odds row (comm row) row.length 0) st.2.2.2.length 0 : Int)], st.2.1 ++ [comm row], place (srch st.2.2.2 (odds row (comm row) row.length 0) st.2.2.2.length 0) row s (odds row (comm row) row.length 0) st.2.2)
  else none

def packAll (rows : Nat → List Int) : Nat → Nat → Laid → Option Laid
  | 0, _, st => some st
  | d + 1, s, st => match packRow (rows s) s st with
    | some st' => packAll rows d (s + 1) st'
    | none => none

def rowOf (n : List Int) (w s : Nat) : List Int := (n.take ((s + 1) * w)).drop (s * w)

theorem rowOf_len {n : List Int} {w s t : Nat} (hn : n.length = t * w) (hs : s < t) : (rowOf n w s).length = w := by
  have : (s + 1) * w ≤ t * w := Nat.mul_le_mul_right w hs
  have e : (s + 1) * w = s * w + w := by rw [Nat.add_mul, Nat.one_mul]
  simp only [rowOf, List.length_drop, List.length_take]
  omega

theorem rowOf_mem {n : List Int} {w s : Nat} {x : Int} (h : x ∈ rowOf n w s) : x ∈ n := List.mem_of_mem_take (List.mem_of_mem_drop h)

theorem packRow_slots {row : List Int} {s : Nat} {st st' : Laid} (h : packRow row s st = some st') (hs : Slots 0 st.2.2) : Slots 0 st'.2.2 := by
  unfold packRow at h
  split at h
  · cases h; exact hs
  · split at h
    · rename_i hc
      cases h
      exact place_slots (by omega) (fun c hc' => ⟨by have := odds_mem _ _ _ _ c hc'; omega, hc c hc'⟩) hs
    · cases h

theorem packRow_lens {row : List Int} {s : Nat} {st st' : Laid} (h : packRow row s st = some st') : st'.1.length = st.1.length + 1 ∧ st'.2.1.length = st.2.1.length + 1 := by
  unfold packRow at h
  split at h
  · cases h; simp
  · split at h
    · cases h; simp
    · cases h

theorem spec_l0 {R : Type} (N : Nat) (hN : 1048576 < N) (t : Nat) (ht : t ≤ 4000) (w : Nat) (hw : w ≤ 256) (c n tg e : List Int) (hn : n.length = t * w) (hlow : ∀ x ∈ n, 0 ≤ x)
    (q : Int → Int → List Int → List Int → List Int → List Int → List Int → List Int → List Int → List Int → List Int → List Int → List Int → List Int → List Int → List Int → Option R)
    (q2 : Int → Int → Int → List Int → List Int → List Int → List Int → List Int → List Int → List Int → List Int → List Int → List Int → List Int → List Int → List Int → List Int → Option R) (r : Option R)
    (hq2 : ∀ y1 y2 y3 y4 y5 y6 y7, q2 2 0 w [] [] [] [] [] [] [] y1 y2 y3 y4 y5 y6 y7 = r) : ∀ (d m s : Nat) (st : Laid), s + d = t → d < m → Slots 0 st.2.2 → st.1.length ≤ s → st.2.1.length ≤ s →
    F.spec_Pack_l0 N m (t : Int) (s : Int) c (w : Int) n tg e 0 (w : Int) [] [] [] [] [] [] [] c st.1 st.2.1 tg e st.2.2.1 st.2.2.2 q q2 =
      match packAll (rowOf n w) d s st with
      | some st' => q 0 w [] [] [] [] [] [] [] c st'.1 st'.2.1 tg e st'.2.2.1 st'.2.2.2
      | none => r := by
  intro d
  induction d with
  | zero =>
    intro m s st hs hm hS h1 h2
    obtain ⟨m, rfl⟩ : ∃ z, m = z + 1 := ⟨m - 1, by omega⟩
    simp only [F.spec_Pack_l0, F.spec_Pack_l0_s, Bool.cond_decide]
    rw [if_neg (by omega)]
    rfl
  | succ d ih =>
    intro m s st hs hm hS h1 h2
    obtain ⟨m, rfl⟩ : ∃ z, m = z + 1 := ⟨m - 1, by omega⟩
    simp only [F.spec_Pack_l0, F.spec_Pack_l0_s, Bool.cond_decide]
    have hst : s < t := by omega
    have b1 : s * w ≤ 4000 * 256 := Nat.mul_le_mul (by omega) hw
    have b2 : (s + 1) * w ≤ t * w := Nat.mul_le_mul_right w hst
    have b3 : t * w ≤ 4000 * 256 := Nat.mul_le_mul ht hw
    have b4 : (s + 1) * w = s * w + w := by rw [Nat.add_mul, Nat.one_mul]
    have e1 : wrapK .i64 ((s : Int) * (w : Int)) = ((s * w : Nat) : Int) := by rw [← Int.natCast_mul, wrap_id (by omega) (by omega)]
    have e2 : wrapK .i64 (wrapK .i64 ((s : Int) + 1) * (w : Int)) = (((s + 1) * w : Nat) : Int) := by
      rw [wrap_id (n := (s : Int) + 1) (by omega) (by omega), show (s : Int) + 1 = ((s + 1 : Nat) : Int) by omega, ← Int.natCast_mul, wrap_id (by omega) (by omega)]
    rw [if_pos (by omega), e1, e2]
    have c1 : (decide (0 ≤ (((s + 1) * w : Nat) : Int)) && decide ((((s + 1) * w : Nat) : Int) ≤ (n.length : Int))) = true := by
      rw [Bool.and_eq_true, decide_eq_true_eq, decide_eq_true_eq]; omega
    have c2 : (decide (0 ≤ ((s * w : Nat) : Int)) && decide (((s * w : Nat) : Int) ≤ (((s + 1) * w : Nat) : Int))) = true := by
      rw [Bool.and_eq_true, decide_eq_true_eq, decide_eq_true_eq]; omega
    rw [c1, c2]
    simp only [cond_true, Int.toNat_natCast]
    have hrow : List.drop (s * w) (List.take ((s + 1) * w) n) = rowOf n w s := rfl
    rw [hrow]
    have hrl := rowOf_len hn hst
    have hr0 : ∀ x ∈ rowOf n w s, 0 ≤ x := fun x hx => hlow x (rowOf_mem hx)
    generalize hR : rowOf n w s = row at hrl hr0 ⊢
    rw [specDefault N row hr0 (by omega) hN]
    have hb1 : Nat.ble (st.2.1.length + 1) (bigOf 8) = true := by rw [Nat.ble_eq]; simp only [bigOf]; omega
    simp only [List.length_singleton]
    rw [hb1]
    simp only [cond_true]
    have hl2 := fun q => spec_l2 (R := R) N row (comm row) (by omega) (s : Int) row (t : Int) (s : Int) c (w : Int) n tg e 0 (w : Int) [] [] [] [] [] [] [] c st.1 (st.2.1 ++ [comm row]) tg e st.2.2.1 st.2.2.2 q row.length N 0 [] (by omega) (by omega) (by simp)
    simp only [Int.natCast_zero, List.nil_append] at hl2
    rw [hl2]
    simp only [packAll, hR]
    have step : ∀ st' : Laid, packRow row s st = some st' → F.spec_Pack_l0 N m (t : Int) ((s : Int) + 1) c (w : Int) n tg e 0 (w : Int) [] [] [] [] [] [] [] c st'.1 st'.2.1 tg e st'.2.2.1 st'.2.2.2 q q2 =
        match packAll (rowOf n w) d (s + 1) st' with
        | some st' => q 0 w [] [] [] [] [] [] [] c st'.1 st'.2.1 tg e st'.2.2.1 st'.2.2.2
        | none => r := by
      intro st' hp
      have hl := packRow_lens hp
      have := ih m (s + 1) st' (by omega) (by omega) (packRow_slots hp hS) (by omega) (by omega)
      rw [show ((s + 1 : Nat) : Int) = (s : Int) + 1 by omega] at this
      exact this
    have ho := odds_mem row (comm row) row.length 0
    have hol := odds_len row (comm row) row.length 0
    by_cases ho0 : odds row (comm row) row.length 0 = []
    · have hp : packRow row s st = some (st.1 ++ [0], st.2.1 ++ [comm row], st.2.2) := by unfold packRow; rw [if_pos ho0]
      rw [hp, ho0]
      have hb2 : Nat.ble (st.1.length + 1) (bigOf 8) = true := by rw [Nat.ble_eq]; simp only [bigOf]; omega
      simp only [List.length_nil, Int.natCast_zero, beq_self_eq_true, cond_true]
      rw [hb2, wrap_id (n := (s : Int) + 1) (by omega) (by omega)]
      exact step _ hp
    · have hpos : 0 < (odds row (comm row) row.length 0).length := by
        cases h : odds row (comm row) row.length 0 with
        | nil => exact (ho0 h).elim
        | cons a b => simp
      have hb0 : (((odds row (comm row) row.length 0).length : Int) == 0) = false := by simp; omega
      rw [hb0]
      simp only [cond_false]
      have hsz := hS.size
      have hl4 := fun q => spec_l4 (R := R) N hN (odds row (comm row) row.length 0) st.2.2.2 (by omega) (fun c hc => by have := ho c hc; omega) hsz (s : Int) row (t : Int) (s : Int) c (w : Int) n tg e 0 (w : Int) [] [] [] [] [] [] [] c st.1 (st.2.1 ++ [comm row]) tg e st.2.2.1 q st.2.2.2.length N 0 (by omega) (by omega)
      simp only [Int.natCast_zero] at hl4
      rw [hl4]
      have hb2 : Nat.ble (st.1.length + 1) (bigOf 8) = true := by rw [Nat.ble_eq]; simp only [bigOf]; omega
      rw [hb2]
      simp only [cond_true]
      have hk := srch_le st.2.2.2 (odds row (comm row) row.length 0) st.2.2.2.length 0
      have hpk : packRow row s st = if ∀ c ∈ odds row (comm row) row.length 0, (srch st.2.2.2 (odds row (comm row) row.length 0) st.2.2.2.length 0 : Int) + c < 60000 then
          some (st.1 ++ [(srch st.2.2.2 (odds row (comm row) row.length 0) st.2.2.2.length 0 : Int)], st.2.1 ++ [comm row], place (srch st.2.2.2 (odds row (comm row) row.length 0) st.2.2.2.length 0) row s (odds row (comm row) row.length 0) st.2.2) else none := by
        rw [packRow, if_neg ho0]
      generalize srch st.2.2.2 (odds row (comm row) row.length 0) st.2.2.2.length 0 = k at hk hpk ⊢
      generalize odds row (comm row) row.length 0 = odd at *
      have hl8 := fun q q2 hq => spec_l8 (R := R) N hN row odd k (by omega) (by omega) (by omega) (fun c hc => by have := ho c hc; omega) (s : Int) (by omega) (t : Int) (s : Int) c (w : Int) n tg e 0 (w : Int) [] [] [] [] [] [] [] c (st.1 ++ [(k : Int)]) (st.2.1 ++ [comm row]) tg e q q2 r hq odd.length N 0 st.2.2 (by omega) (by omega) hS
      simp only [Int.natCast_zero, List.drop_zero] at hl8
      rw [hl8]
      · by_cases hc : ∀ c ∈ odd, (k : Int) + c < 60000
        · rw [if_pos hc] at hpk ⊢
          rw [hpk, wrap_id (n := (s : Int) + 1) (by omega) (by omega)]
          exact step _ hpk
        · rw [if_neg hc] at hpk ⊢
          rw [hpk]
      · intro y1 y2
        exact hq2 ..

theorem allIn_low {l : List Int} {lo hi : Int} (h : allIn l lo hi = true) : ∀ x ∈ l, lo ≤ x ∧ x ≤ hi := by
  simp only [allIn, List.all_eq_true, decide_eq_true_eq] at h
  exact h

/-- What packing gives. -/
def packed {R : Type} (c : List Int) (w : Int) (n t e : List Int) (k : Int → Int → List Int → List Int → List Int → List Int → List Int → List Int → List Int → Option R) : Option R :=
  bif okDfa c w n t e then (match packAll (rowOf n w.toNat) t.length 0 ([], [], ([], [])) with
    | some st => k w 0 c st.1 st.2.1 t e st.2.2.1 st.2.2.2
    | none => k 0 2 [] [] [] [] [] [] [])
  else k 0 1 [] [] [] [] [] [] []

theorem slots0 : Slots 0 ([], []) := ⟨rfl, by simp, by simp⟩

theorem specPack {R : Type} (N : Nat) (c : List Int) (w : Int) (n t e : List Int) (hc : c.length ≤ 1048576) (hn : n.length ≤ 1048576) (ht : t.length ≤ 1048576) (he : e.length ≤ 1048576) (hN : 1048576 < N) (k : Int → Int → List Int → List Int → List Int → List Int → List Int → List Int → List Int → Option R) :
    F.spec_Pack N c w n t e k = packed c w n t e k := by
  simp only [F.spec_Pack]
  rw [specDfaOK N c w n t e hc hn ht he hN]
  unfold packed
  cases hok : okDfa c w n t e
  · rfl
  · simp only [Bool.not_true, cond_false, cond_true]
    simp only [okDfa, Bool.and_eq_true, decide_eq_true_eq] at hok
    obtain ⟨⟨g1, g2, g3, g4, g5, g6, g7⟩, a1, a2, a3, a4⟩ := hok
    obtain ⟨w, rfl⟩ : ∃ v : Nat, w = v := ⟨w.toNat, by omega⟩
    have b1 : Nat.ble (0 + c.length) (bigOf 8) = true := by rw [Nat.ble_eq]; simp only [bigOf]; omega
    have b2 : Nat.ble (0 + t.length) (bigOf 8) = true := by rw [Nat.ble_eq]; simp only [bigOf]; omega
    have b3 : Nat.ble (0 + e.length) (bigOf 8) = true := by rw [Nat.ble_eq]; simp only [bigOf]; omega
    simp only [List.length_nil]
    rw [b1, b2, b3]
    simp only [cond_true, List.nil_append]
    have := spec_l0 (R := R) N hN t.length g5 w (by omega) c n t e (by rw [← Int.natCast_mul] at g7; omega) (fun x hx => (allIn_low a2 x hx).1) (fun y337 y338 y339 y340 y341 y342 y343 y344 y345 y346 y347 y348 y349 y350 y351 y352 => k y338 0 y346 y347 y348 y349 y350 y351 y352)
      (fun y353 y354 y355 y356 y357 y358 y359 y360 y361 y362 y363 y364 y365 y366 y367 y368 y369 => k y354 y353 y356 y357 y358 y359 y360 y361 y362) (k 0 2 [] [] [] [] [] [] []) (fun _ _ _ _ _ _ _ => rfl) t.length N 0 ([], [], ([], [])) (by omega) (by omega) slots0 (by simp) (by simp)
    simp only [Int.natCast_zero] at this
    exact this

/-! #### the program -/

theorem lay_l0 {R : Type} (N : Nat) (row : List Int) (df : Int) (hl : row.length ≤ 256) (x13 : Int) (x14 : List Int) (x19 x20 : Int) (x22 x23 x24 x25 x26 x27 x28 : List Int)
    (k : Int → List Int → Int → Int → List Int → List Int → List Int → List Int → List Int → List Int → List Int → List Int → Option R) : ∀ (d m i : Nat) (acc : List Int), i + d = row.length → d < m → acc.length ≤ i →
    F.impl_laying_lay_l0 N m x13 x14 df row (row.length : Int) (i : Int) x19 x20 acc x22 x23 x24 x25 x26 x27 x28 k = k x13 x14 x19 x20 (acc ++ odds row df d i) x22 x23 x24 x25 x26 x27 x28 := by
  intro d
  induction d with
  | zero =>
    intro m i acc hi hm ha
    obtain ⟨m, rfl⟩ : ∃ z, m = z + 1 := ⟨m - 1, by omega⟩
    simp only [F.impl_laying_lay_l0, F.impl_laying_lay_l0_s, Bool.cond_decide]
    rw [if_neg (by omega)]
    simp [odds]
  | succ d ih =>
    intro m i acc hi hm ha
    obtain ⟨m, rfl⟩ : ∃ z, m = z + 1 := ⟨m - 1, by omega⟩
    simp only [F.impl_laying_lay_l0, F.impl_laying_lay_l0_s, Bool.cond_decide]
    have hb : Nat.ble (acc.length + 1) (bigOf 8) = true := by rw [Nat.ble_eq]; simp only [bigOf]; omega
    simp only [List.length_singleton]
    rw [if_pos (by omega), inB_true (by omega) (by omega), wrap_id (n := (i : Int) + 1) (by omega) (by omega), hb]
    simp only [cond_true, Int.toNat_natCast, odds]
    cases hc : (List.getD row i 0 != df)
    · have := ih m (i + 1) acc (by omega) (by omega) (by omega)
      rw [show ((i + 1 : Nat) : Int) = (i : Int) + 1 by omega] at this
      simpa only [cond_false] using this
    · have := ih m (i + 1) (acc ++ [(i : Int)]) (by omega) (by omega) (by simp; omega)
      rw [show ((i + 1 : Nat) : Int) = (i : Int) + 1 by omega, List.append_assoc] at this
      simpa only [cond_true, List.singleton_append] using this

theorem implTaken {R : Type} (ck : List Int) (hlow : ∀ x ∈ ck, -1 ≤ x) (x1 : List Int) (x2 : Int) (x3 x4 x5 x6 x7 : List Int) (x9 k : Int) (h0 : 0 ≤ k) (c : Bool → Option R) : F.impl_laying_taken x1 x2 x3 x4 x5 x6 x7 ck x9 k c = c (!isFree ck k) := by
  simp only [F.impl_laying_taken, isFree, Bool.cond_decide]
  by_cases h : k < (ck.length : Int)
  · rw [if_pos h, inB_true h0 h, show decide ((ck.length : Int) ≤ k) = false from decide_eq_false (by omega), Bool.false_or, cond_true]
    have hk : k.toNat < ck.length := by omega
    rw [getD_get ck hk]
    have := hlow _ (List.getElem_mem hk)
    by_cases h2 : ck[k.toNat] = -1
    · rw [h2]; rfl
    · have e : (ck[k.toNat] == -1) = false := by simpa using h2
      rw [e, decide_eq_true (by omega)]
      rfl
  · rw [if_neg h, decide_eq_true (by omega), Bool.true_or]
    rfl

theorem fits_l0 {R : Type} (N : Nat) (odd ck : List Int) (hlow : ∀ x ∈ ck, -1 ≤ x) (k : Nat) (hk : k ≤ 60000) (hl : odd.length ≤ 256) (ho : ∀ c ∈ odd, 0 ≤ c ∧ c < 256) (x12 : List Int) (x13 : Int) (x14 x15 x16 x17 x18 : List Int) (x20 : Int) (c : Bool → Option R) : ∀ (d m i : Nat), i + d = odd.length → d < m →
    F.impl_laying_fits_l0 N m x12 x13 x14 x15 x16 x17 x18 ck x20 (k : Int) odd (odd.length : Int) (i : Int) (fun _ => c true) (fun b => c b) = c (fitsAt ck (odd.drop i) k) := by
  intro d
  induction d with
  | zero =>
    intro m i hi hm
    obtain ⟨m, rfl⟩ : ∃ z, m = z + 1 := ⟨m - 1, by omega⟩
    simp only [F.impl_laying_fits_l0, F.impl_laying_fits_l0_s, Bool.cond_decide]
    rw [if_neg (by omega), List.drop_of_length_le (by omega)]
    rfl
  | succ d ih =>
    intro m i hi hm
    obtain ⟨m, rfl⟩ : ∃ z, m = z + 1 := ⟨m - 1, by omega⟩
    simp only [F.impl_laying_fits_l0, F.impl_laying_fits_l0_s, Bool.cond_decide]
    rw [if_pos (by omega), inB_true (by omega) (by omega), wrap_id (n := (i : Int) + 1) (by omega) (by omega)]
    simp only [cond_true, Int.toNat_natCast]
    simp only [getD_get odd (show i < odd.length by omega)]
    have hc := ho odd[i] (List.getElem_mem _)
    rw [wrap_id (by omega) (by omega), implTaken ck hlow _ _ _ _ _ _ _ _ _ (by omega), fits_drop (by omega)]
    cases hf : isFree ck (k + odd[i])
    · simp
    · have := ih m (i + 1) (by omega) (by omega)
      rw [show ((i + 1 : Nat) : Int) = (i : Int) + 1 by omega] at this
      simpa using this

theorem implFits {R : Type} (N : Nat) (hN : 1048576 < N) (odd ck : List Int) (hlow : ∀ x ∈ ck, -1 ≤ x) (k : Nat) (hk : k ≤ 60000) (hl : odd.length ≤ 256) (ho : ∀ c ∈ odd, 0 ≤ c ∧ c < 256) (x12 : List Int) (x13 : Int) (x14 x15 x16 x17 x18 : List Int) (x20 : Int) (c : Bool → Option R) :
    F.impl_laying_fits N x12 x13 x14 x15 x16 x17 x18 ck x20 (k : Int) odd c = c (fitsAt ck odd k) := by
  simp only [F.impl_laying_fits]
  exact fits_l0 N odd ck hlow k hk hl ho x12 x13 x14 x15 x16 x17 x18 x20 c odd.length N 0 (by omega) (by omega)

theorem lay_l2 {R : Type} (N : Nat) (hN : 1048576 < N) (odd ck : List Int) (hlow : ∀ x ∈ ck, -1 ≤ x) (hl : odd.length ≤ 256) (ho : ∀ c ∈ odd, 0 ≤ c ∧ c < 256) (hck : ck.length ≤ 60000) (x41 : Int) (x42 : List Int) (x44 x45 : Int) (x47 x48 x49 x50 x51 x52 : List Int)
    (q : Int → List Int → Int → Int → Int → List Int → List Int → List Int → List Int → List Int → List Int → List Int → List Int → Option R) : ∀ (d m k : Nat), k + d = ck.length → d < m →
    F.impl_laying_lay_l2 N m x41 x42 (k : Int) x44 x45 odd x47 x48 x49 x50 x51 x52 ck q = q x41 x42 (srch ck odd d k : Nat) x44 x45 odd x47 x48 x49 x50 x51 x52 ck := by
  intro d
  induction d with
  | zero =>
    intro m k hk hm
    obtain ⟨m, rfl⟩ : ∃ z, m = z + 1 := ⟨m - 1, by omega⟩
    simp only [F.impl_laying_lay_l2, F.impl_laying_lay_l2_s]
    rw [implFits N hN odd ck hlow k (by omega) hl ho, fits_far (fun c hc => (ho c hc).1) (by omega)]
    rfl
  | succ d ih =>
    intro m k hk hm
    obtain ⟨m, rfl⟩ : ∃ z, m = z + 1 := ⟨m - 1, by omega⟩
    simp only [F.impl_laying_lay_l2, F.impl_laying_lay_l2_s]
    rw [implFits N hN odd ck hlow k (by omega) hl ho, wrap_id (by omega) (by omega)]
    simp only [srch]
    cases hf : fitsAt ck odd k
    · simp only [Bool.not_false, cond_true, cond_false]
      have := ih m (k + 1) (by omega) (by omega)
      rw [show ((k + 1 : Nat) : Int) = (k : Int) + 1 by omega] at this
      exact this
    · simp only [Bool.not_true, cond_false, cond_true]

theorem lay_l6 {R : Type} (N : Nat) (n : Nat) (hn : n ≤ 60000) (k c : Int) (hkc : k + c + 1 = n) (h0 : 0 ≤ k + c) (x83 : Int) (x84 : List Int) (x87 x88 x89 x90 : Int) (x91 x92 x93 x94 x95 x96 : List Int)
    (q : Int → List Int → Int → Int → Int → Int → Int → Int → List Int → List Int → List Int → List Int → List Int → List Int → List Int → List Int → Option R) : ∀ (d m : Nat) (nx ck : List Int), n - ck.length = d → d < m → nx.length = ck.length → ck.length ≤ 60000 →
    F.impl_laying_lay_l6 N m x83 x84 k c x87 x88 x89 x90 x91 x92 x93 x94 x95 x96 nx ck q = q x83 x84 k c x87 x88 x89 x90 x91 x92 x93 x94 x95 x96 (ext nx n 0) (ext ck n (-1)) := by
  intro d
  induction d with
  | zero =>
    intro m nx ck hd hm hl hs
    obtain ⟨m, rfl⟩ : ∃ z, m = z + 1 := ⟨m - 1, by omega⟩
    simp only [F.impl_laying_lay_l6, F.impl_laying_lay_l6_s, Bool.cond_decide]
    rw [wrap_id (by omega) (by omega), if_neg (by omega), ext_id _ (by omega), ext_id _ (by omega)]
  | succ d ih =>
    intro m nx ck hd hm hl hs
    obtain ⟨m, rfl⟩ : ∃ z, m = z + 1 := ⟨m - 1, by omega⟩
    simp only [F.impl_laying_lay_l6, F.impl_laying_lay_l6_s, Bool.cond_decide]
    have hb : Nat.ble (nx.length + 1) (bigOf 8) = true := by rw [Nat.ble_eq]; simp only [bigOf]; omega
    have hb' : Nat.ble (ck.length + 1) (bigOf 8) = true := by rw [Nat.ble_eq]; simp only [bigOf]; omega
    simp only [List.length_singleton]
    rw [wrap_id (by omega) (by omega), if_pos (by omega), hb, hb']
    simp only [cond_true]
    rw [ih m (nx ++ [0]) (ck ++ [-1]) (by simp; omega) (by omega) (by simp [hl]) (by simp; omega), ext_step _ (by omega), ext_step _ (by omega)]

theorem lay_l4 {R : Type} (N : Nat) (hN : 1048576 < N) (row odd : List Int) (k : Nat) (hk : k ≤ 60000) (hrow : row.length ≤ 256) (hl : odd.length ≤ 256) (ho : ∀ c ∈ odd, 0 ≤ c ∧ c < row.length) (hfit : ∀ c ∈ odd, (k : Int) + c < 60000) (s : Int) (hs : 0 ≤ s) (x73 x74 : Int) (x76 x77 x78 x79 x80 : List Int)
    (q : Int → Int → Int → List Int → List Int → List Int → List Int → List Int → List Int → List Int → Option R) : ∀ (d m i : Nat) (p : List Int × List Int), i + d = odd.length → d < m → Slots 0 p →
    F.impl_laying_lay_l4 N m s row (k : Int) (odd.length : Int) (i : Int) x73 x74 odd x76 x77 x78 x79 x80 p.1 p.2 q = q (k : Int) x73 x74 x76 x77 x78 x79 x80 (place k row s (odd.drop i) p).1 (place k row s (odd.drop i) p).2 := by
  intro d
  induction d with
  | zero =>
    intro m i p hi hm hp
    obtain ⟨m, rfl⟩ : ∃ z, m = z + 1 := ⟨m - 1, by omega⟩
    simp only [F.impl_laying_lay_l4, F.impl_laying_lay_l4_s, Bool.cond_decide]
    rw [if_neg (by omega), List.drop_of_length_le (by omega)]
    rfl
  | succ d ih =>
    intro m i p hi hm hp
    obtain ⟨m, rfl⟩ : ∃ z, m = z + 1 := ⟨m - 1, by omega⟩
    have hil : i < odd.length := by omega
    simp only [F.impl_laying_lay_l4, F.impl_laying_lay_l4_s, Bool.cond_decide]
    rw [if_pos (by omega), inB_true (by omega) (by omega)]
    simp only [cond_true, Int.toNat_natCast]
    simp only [getD_get odd hil]
    have hc := ho odd[i] (List.getElem_mem _)
    have hb := hfit odd[i] (List.getElem_mem _)
    rw [List.drop_eq_getElem_cons hil]
    generalize odd[i] = c at hc hb ⊢
    have h6 := fun q => lay_l6 (R := R) N (k + c.toNat + 1) (by omega) (k : Int) c (by omega) (by omega) s row (odd.length : Int) (i : Int) x73 x74 odd x76 x77 x78 x79 x80 q (k + c.toNat + 1 - p.2.length) N p.1 p.2 rfl (by omega) hp.len hp.size
    rw [h6, wrap_id (n := (i : Int) + 1) (by omega) (by omega), wrap_id (n := (k : Int) + c) (by omega) (by omega), inB_true (by omega) (by rw [ext_len]; omega), inB_true (by omega) (by omega), inB_true (by omega) (by rw [ext_len]; omega)]
    simp only [cond_true]
    have := ih m (i + 1) (put1 k row s p c) (by omega) (by omega) (put1_slots hs (by omega) hc.1 hp)
    rw [show ((i + 1 : Nat) : Int) = (i : Int) + 1 by omega] at this
    have e : ((k : Int) + c).toNat = k + c.toNat := by omega
    rw [e]
    exact this

theorem lay_l8 {R : Type} (N : Nat) (ck : List Int) (hlow : ∀ x ∈ ck, -1 ≤ x) (hck : ck.length ≤ 60000) (x125 x126 : Int) (x128 x129 x130 x131 x132 x133 : List Int) : ∀ (d f : Nat), f + d = ck.length → (∀ j, j < f → Taken ck j) →
    ∃ f' : Nat, f' ≤ ck.length ∧ (∀ j, j < f' → Taken ck j) ∧ ∀ (m : Nat), d < m → ∀ q : Int → Int → Int → List Int → List Int → List Int → List Int → List Int → List Int → List Int → Option R,
      F.impl_laying_lay_l8 N m x125 x126 (f : Int) x128 x129 x130 x131 x132 x133 ck q = q x125 x126 (f' : Int) x128 x129 x130 x131 x132 x133 ck := by
  intro d
  induction d with
  | zero =>
    intro f hf ht
    refine ⟨f, by omega, ht, fun m hm q => ?_⟩
    obtain ⟨m, rfl⟩ : ∃ z, m = z + 1 := ⟨m - 1, by omega⟩
    simp only [F.impl_laying_lay_l8, F.impl_laying_lay_l8_s]
    rw [implTaken ck hlow _ _ _ _ _ _ _ _ _ (by omega)]
    have : isFree ck (f : Int) = true := by unfold isFree; rw [decide_eq_true (by omega), Bool.true_or]
    rw [this]
    rfl
  | succ d ih =>
    intro f hf ht
    cases hfr : isFree ck (f : Int)
    · have htk := (taken_free hlow f).1 hfr
      obtain ⟨f', h1, h2, h3⟩ := ih (f + 1) (by omega) fun j hj => by
        by_cases e : j = f
        · subst e; exact htk
        · exact ht j (by omega)
      refine ⟨f', h1, h2, fun m hm q => ?_⟩
      obtain ⟨m, rfl⟩ : ∃ z, m = z + 1 := ⟨m - 1, by omega⟩
      simp only [F.impl_laying_lay_l8, F.impl_laying_lay_l8_s]
      rw [implTaken ck hlow _ _ _ _ _ _ _ _ _ (by omega), hfr, wrap_id (by omega) (by omega)]
      have := h3 m (by omega) q
      rw [show ((f + 1 : Nat) : Int) = (f : Int) + 1 by omega] at this
      exact this
    · refine ⟨f, by omega, ht, fun m hm q => ?_⟩
      obtain ⟨m, rfl⟩ : ∃ z, m = z + 1 := ⟨m - 1, by omega⟩
      simp only [F.impl_laying_lay_l8, F.impl_laying_lay_l8_s]
      rw [implTaken ck hlow _ _ _ _ _ _ _ _ _ (by omega), hfr]
      rfl

theorem sorted_last {l : List Int} (h : l.Pairwise (· < ·)) (hp : 0 < l.length) : ∀ c ∈ l, c ≤ l[l.length - 1] := by
  intro c hc
  obtain ⟨i, hi, rfl⟩ := List.getElem_of_mem hc
  by_cases e : i = l.length - 1
  · subst e; exact Int.le_refl _
  · have := List.pairwise_iff_getElem.1 h i (l.length - 1) hi (by omega) (by omega)
    omega

/-- A row laid by the program. -/
theorem implLay {R : Type} (N : Nat) (hN : 1048576 < N) (row : List Int) (hr0 : ∀ x ∈ row, 0 ≤ x) (hrow : row.length ≤ 256) (s : Nat) (st : Laid) (hS : Slots 0 st.2.2) (h1 : st.1.length ≤ 4000) (h2 : st.2.1.length ≤ 4000) (f : Nat) (hf : f ≤ st.2.2.2.length) (htk : ∀ j, j < f → Taken st.2.2.2 j) (W : Int) (c t e : List Int) :
    match packRow row s st with
    | some st' => ∃ f' : Nat, f' ≤ st'.2.2.2.length ∧ (∀ j, j < f' → Taken st'.2.2.2 j) ∧ ∀ k : Bool → Int → Int → List Int → List Int → List Int → List Int → List Int → List Int → List Int → Option R,
        F.impl_laying_lay N (s : Int) row W (f : Int) c st.1 st.2.1 t e st.2.2.1 st.2.2.2 k = k true W (f' : Int) c st'.1 st'.2.1 t e st'.2.2.1 st'.2.2.2
    | none => ∀ k : Bool → Int → Int → List Int → List Int → List Int → List Int → List Int → List Int → List Int → Option R,
        F.impl_laying_lay N (s : Int) row W (f : Int) c st.1 st.2.1 t e st.2.2.1 st.2.2.2 k = k false W (f : Int) c st.1 (st.2.1 ++ [comm row]) t e st.2.2.1 st.2.2.2 := by
  have hsz := hS.size
  have hlow := hS.low
  have hb1 : Nat.ble (st.2.1.length + 1) (bigOf 8) = true := by rw [Nat.ble_eq]; simp only [bigOf]; omega
  have hb2 : Nat.ble (st.1.length + 1) (bigOf 8) = true := by rw [Nat.ble_eq]; simp only [bigOf]; omega
  have ho := odds_mem row (comm row) row.length 0
  have hol := odds_len row (comm row) row.length 0
  have hsrt := odds_sorted row (comm row) row.length 0
  by_cases ho0 : odds row (comm row) row.length 0 = []
  · have hp : packRow row s st = some (st.1 ++ [0], st.2.1 ++ [comm row], st.2.2) := by unfold packRow; rw [if_pos ho0]
    rw [hp]
    obtain ⟨f', k1, k2, k3⟩ := lay_l8 (R := R) N st.2.2.2 hlow hsz 0 W c st.1 (st.2.1 ++ [comm row]) t e st.2.2.1 (st.2.2.2.length - f) f (by omega) htk
    refine ⟨f', k1, k2, fun k => ?_⟩
    simp only [F.impl_laying_lay]
    rw [implCommonest N row hr0 hrow hN]
    simp only [List.length_singleton]
    rw [hb1]
    simp only [cond_true]
    have h0 := fun q => lay_l0 (R := R) N row (comm row) hrow (s : Int) row W (f : Int) c st.1 (st.2.1 ++ [comm row]) t e st.2.2.1 st.2.2.2 q row.length N 0 [] (by omega) (by omega) (by simp)
    simp only [Int.natCast_zero, List.nil_append] at h0
    rw [h0]
    rw [ho0]
    simp only [List.length_nil, Int.natCast_zero]
    rw [show decide ((0 : Int) > 0) = false from rfl]
    simp only [cond_false]
    have h4 := fun q => lay_l4 (R := R) N hN row [] 0 (by omega) hrow (by simp) (by simp) (by simp) (s : Int) (by omega) W (f : Int) c st.1 (st.2.1 ++ [comm row]) t e q 0 N 0 st.2.2 rfl (by omega) hS
    simp only [Int.natCast_zero, List.length_nil, List.drop_nil] at h4
    rw [h4]
    have hpl : place 0 row (s : Int) [] st.2.2 = st.2.2 := rfl
    rw [hpl, k3 N (by omega), hb2]
    rfl
  · have hpos : 0 < (odds row (comm row) row.length 0).length := by
      cases h : odds row (comm row) row.length 0 with
      | nil => exact (ho0 h).elim
      | cons a b => simp
    have hk := srch_le st.2.2.2 (odds row (comm row) row.length 0) st.2.2.2.length 0
    have hpk : packRow row s st = if ∀ c ∈ odds row (comm row) row.length 0, (srch st.2.2.2 (odds row (comm row) row.length 0) st.2.2.2.length 0 : Int) + c < 60000 then
        some (st.1 ++ [(srch st.2.2.2 (odds row (comm row) row.length 0) st.2.2.2.length 0 : Int)], st.2.1 ++ [comm row], place (srch st.2.2.2 (odds row (comm row) row.length 0) st.2.2.2.length 0) row s (odds row (comm row) row.length 0) st.2.2) else none := by
      rw [packRow, if_neg ho0]
    generalize hod : odds row (comm row) row.length 0 = odd at *
    have ho' : ∀ c ∈ odd, 0 ≤ c ∧ c < 256 := fun c hc => by have := ho c hc; omega
    have hfst := ho' odd[0] (List.getElem_mem _)
    -- where the search begins
    have hb0 : ∃ b0 : Nat, b0 ≤ st.2.2.2.length ∧ (bif decide (wrapK .i64 ((f : Int) - odd[0]) > 0) then wrapK .i64 ((f : Int) - odd[0]) else 0) = (b0 : Int) ∧ srch st.2.2.2 odd (st.2.2.2.length - b0) b0 = srch st.2.2.2 odd st.2.2.2.length 0 := by
      rw [wrap_id (by omega) (by omega)]
      refine ⟨((f : Int) - odd[0]).toNat, by omega, ?_, ?_⟩
      · rw [Bool.cond_decide]; split <;> omega
      · have := srch_skip st.2.2.2 odd ((f : Int) - odd[0]).toNat (st.2.2.2.length - ((f : Int) - odd[0]).toNat) 0 (by
          intro i hi1 hi2
          have hti := htk (i + odd[0].toNat) (by omega)
          have hfree := (taken_free hlow (i + odd[0].toNat)).2 hti
          unfold fitsAt
          rw [List.all_eq_false]
          refine ⟨odd[0], List.getElem_mem _, ?_⟩
          rw [show (i : Int) + odd[0] = ((i + odd[0].toNat : Nat) : Int) by omega, hfree]
          simp)
        rw [Nat.zero_add] at this
        rw [← this]
        congr 1
        omega
    obtain ⟨b0, hb0l, hb0e, hb0s⟩ := hb0
    have hlast := sorted_last hsrt hpos
    generalize hsr : srch st.2.2.2 odd st.2.2.2.length 0 = kk at *
    by_cases hc : ∀ c ∈ odd, (kk : Int) + c < 60000
    · rw [if_pos hc] at hpk
      rw [hpk]
      have hpS := place_slots (k := kk) (row := row) (s := (s : Int)) (by omega) (odd := odd) (p := st.2.2) (fun c h => ⟨(ho' c h).1, hc c h⟩) hS
      have hpT : ∀ j, j < f → Taken (place kk row (s : Int) odd st.2.2).2 j := fun j hj => place_taken (by omega) (htk j hj)
      have hfl : f ≤ (place kk row (s : Int) odd st.2.2).2.length := by
        by_cases h0 : f = 0
        · omega
        · have := (hpT (f - 1) (by omega)).1
          omega
      obtain ⟨f', k1, k2, k3⟩ := lay_l8 (R := R) N (place kk row (s : Int) odd st.2.2).2 hpS.low hpS.size (kk : Int) W c st.1 (st.2.1 ++ [comm row]) t e (place kk row (s : Int) odd st.2.2).1 ((place kk row (s : Int) odd st.2.2).2.length - f) f (by omega) hpT
      refine ⟨f', k1, k2, fun k => ?_⟩
      have h := hc odd[odd.length - 1] (List.getElem_mem _)
      simp only [F.impl_laying_lay]
      rw [implCommonest N row hr0 hrow hN]
      simp only [List.length_singleton]
      rw [hb1]
      simp only [cond_true]
      have h0 := fun q => lay_l0 (R := R) N row (comm row) hrow (s : Int) row W (f : Int) c st.1 (st.2.1 ++ [comm row]) t e st.2.2.1 st.2.2.2 q row.length N 0 [] (by omega) (by omega) (by simp)
      simp only [Int.natCast_zero, List.nil_append] at h0
      rw [h0]
      rw [hod]
      rw [decide_eq_true (show (odd.length : Int) > 0 by omega), inB_true (by omega) (by omega)]
      simp only [cond_true, show Int.toNat 0 = 0 from rfl]
      simp only [getD_get odd hpos]
      rw [hb0e]
      have hl2 := fun q => lay_l2 (R := R) N hN odd st.2.2.2 hlow (by omega) ho' hsz (s : Int) row W (f : Int) c st.1 (st.2.1 ++ [comm row]) t e st.2.2.1 q (st.2.2.2.length - b0) N b0 (by omega) (by omega)
      rw [hl2, hb0s]
      rw [wrap_id (n := (odd.length : Int) - 1) (by omega) (by omega), inB_true (by omega) (by omega), show ((odd.length : Int) - 1).toNat = odd.length - 1 by omega]
      simp only [cond_true]
      simp only [getD_get odd (show odd.length - 1 < odd.length by omega)]
      have hla := ho' odd[odd.length - 1] (List.getElem_mem _)
      rw [wrap_id (by omega) (by omega), Bool.cond_decide]
      rw [if_neg (by omega)]
      have h4 := fun q => lay_l4 (R := R) N hN row odd kk (by omega) hrow (by omega) (fun c h => by have := ho c h; omega) hc (s : Int) (by omega) W (f : Int) c st.1 (st.2.1 ++ [comm row]) t e q odd.length N 0 st.2.2 (by omega) (by omega) hS
      simp only [Int.natCast_zero, List.drop_zero] at h4
      have hs8 := hpS.size
      rw [h4, k3 N (by omega), hb2]
      rfl
    · rw [if_neg hc] at hpk
      rw [hpk]
      intro k
      simp only [F.impl_laying_lay]
      rw [implCommonest N row hr0 hrow hN]
      simp only [List.length_singleton]
      rw [hb1]
      simp only [cond_true]
      have h0 := fun q => lay_l0 (R := R) N row (comm row) hrow (s : Int) row W (f : Int) c st.1 (st.2.1 ++ [comm row]) t e st.2.2.1 st.2.2.2 q row.length N 0 [] (by omega) (by omega) (by simp)
      simp only [Int.natCast_zero, List.nil_append] at h0
      rw [h0]
      rw [hod]
      rw [decide_eq_true (show (odd.length : Int) > 0 by omega), inB_true (by omega) (by omega)]
      simp only [cond_true, show Int.toNat 0 = 0 from rfl]
      simp only [getD_get odd hpos]
      rw [hb0e]
      have hl2 := fun q => lay_l2 (R := R) N hN odd st.2.2.2 hlow (by omega) ho' hsz (s : Int) row W (f : Int) c st.1 (st.2.1 ++ [comm row]) t e st.2.2.1 q (st.2.2.2.length - b0) N b0 (by omega) (by omega)
      rw [hl2, hb0s]
      rw [wrap_id (n := (odd.length : Int) - 1) (by omega) (by omega), inB_true (by omega) (by omega), show ((odd.length : Int) - 1).toNat = odd.length - 1 by omega]
      simp only [cond_true]
      simp only [getD_get odd (show odd.length - 1 < odd.length by omega)]
      have hla := ho' odd[odd.length - 1] (List.getElem_mem _)
      rw [wrap_id (by omega) (by omega), Bool.cond_decide]
      rw [if_pos]
      apply Classical.byContradiction
      intro hn
      exact hc fun c h => by have := hlast c h; omega

theorem impl_l0 {R : Type} (N : Nat) (hN : 1048576 < N) (t : Nat) (ht : t ≤ 4000) (w : Nat) (hw : w ≤ 256) (c n tg e : List Int) (hn : n.length = t * w) (hlow : ∀ x ∈ n, 0 ≤ x)
    (q : Int → Int → Int → List Int → List Int → List Int → List Int → List Int → List Int → List Int → List Int → List Int → List Int → List Int → List Int → List Int → List Int → Option R)
    (q2 : Int → Int → Int → Int → List Int → List Int → List Int → List Int → List Int → List Int → List Int → List Int → List Int → List Int → List Int → List Int → List Int → List Int → Option R) (r : Laid → Option R) (r2 : Option R)
    (hq : ∀ st f, q 0 w f [] [] [] [] [] [] [] c st.1 st.2.1 tg e st.2.2.1 st.2.2.2 = r st)
    (hq2 : ∀ f y1 y2 y3 y4 y5 y6 y7, q2 2 0 w f [] [] [] [] [] [] [] y1 y2 y3 y4 y5 y6 y7 = r2) : ∀ (d m s : Nat) (st : Laid) (f : Nat), s + d = t → d < m → Slots 0 st.2.2 → st.1.length ≤ s → st.2.1.length ≤ s → f ≤ st.2.2.2.length → (∀ j, j < f → Taken st.2.2.2 j) →
    F.impl_Pack_l0 N m (t : Int) (s : Int) c (w : Int) n tg e 0 (w : Int) (f : Int) [] [] [] [] [] [] [] c st.1 st.2.1 tg e st.2.2.1 st.2.2.2 q q2 =
      match packAll (rowOf n w) d s st with
      | some st' => r st'
      | none => r2 := by
  intro d
  induction d with
  | zero =>
    intro m s st f hs hm hS h1 h2 hf htk
    obtain ⟨m, rfl⟩ : ∃ z, m = z + 1 := ⟨m - 1, by omega⟩
    simp only [F.impl_Pack_l0, F.impl_Pack_l0_s, Bool.cond_decide]
    rw [if_neg (by omega)]
    exact hq st f
  | succ d ih =>
    intro m s st f hs hm hS h1 h2 hf htk
    obtain ⟨m, rfl⟩ : ∃ z, m = z + 1 := ⟨m - 1, by omega⟩
    simp only [F.impl_Pack_l0, F.impl_Pack_l0_s, Bool.cond_decide]
    have hst : s < t := by omega
    have b1 : s * w ≤ 4000 * 256 := Nat.mul_le_mul (by omega) hw
    have b2 : (s + 1) * w ≤ t * w := Nat.mul_le_mul_right w hst
    have b3 : t * w ≤ 4000 * 256 := Nat.mul_le_mul ht hw
    have b4 : (s + 1) * w = s * w + w := by rw [Nat.add_mul, Nat.one_mul]
    have e1 : wrapK .i64 ((s : Int) * (w : Int)) = ((s * w : Nat) : Int) := by rw [← Int.natCast_mul, wrap_id (by omega) (by omega)]
    have e2 : wrapK .i64 (wrapK .i64 ((s : Int) + 1) * (w : Int)) = (((s + 1) * w : Nat) : Int) := by
      rw [wrap_id (n := (s : Int) + 1) (by omega) (by omega), show (s : Int) + 1 = ((s + 1 : Nat) : Int) by omega, ← Int.natCast_mul, wrap_id (by omega) (by omega)]
    rw [if_pos (by omega), e1, e2]
    have c1 : (decide (0 ≤ (((s + 1) * w : Nat) : Int)) && decide ((((s + 1) * w : Nat) : Int) ≤ (n.length : Int))) = true := by
      rw [Bool.and_eq_true, decide_eq_true_eq, decide_eq_true_eq]; omega
    have c2 : (decide (0 ≤ ((s * w : Nat) : Int)) && decide (((s * w : Nat) : Int) ≤ (((s + 1) * w : Nat) : Int))) = true := by
      rw [Bool.and_eq_true, decide_eq_true_eq, decide_eq_true_eq]; omega
    rw [c1, c2]
    simp only [cond_true, Int.toNat_natCast]
    have hrow : List.drop (s * w) (List.take ((s + 1) * w) n) = rowOf n w s := rfl
    rw [hrow]
    have hrl := rowOf_len hn hst
    have hlay := implLay (R := R) N hN (rowOf n w s) (fun x hx => hlow x (rowOf_mem hx)) (by omega) s st hS (by omega) (by omega) f hf htk (w : Int) c tg e
    simp only [packAll]
    cases hp : packRow (rowOf n w s) s st with
    | none =>
      rw [hp] at hlay
      rw [hlay]
      exact hq2 ..
    | some st' =>
      rw [hp] at hlay
      obtain ⟨f', k1, k2, k3⟩ := hlay
      rw [k3, wrap_id (n := (s : Int) + 1) (by omega) (by omega)]
      have hl := packRow_lens hp
      have := ih m (s + 1) st' f' (by omega) (by omega) (packRow_slots hp hS) (by omega) (by omega) k1 k2
      rw [show ((s + 1 : Nat) : Int) = (s : Int) + 1 by omega] at this
      exact this

theorem implPack {R : Type} (N : Nat) (c : List Int) (w : Int) (n t e : List Int) (hc : c.length ≤ 1048576) (hn : n.length ≤ 1048576) (ht : t.length ≤ 1048576) (he : e.length ≤ 1048576) (hN : 1048576 < N) (k : Int → Int → List Int → List Int → List Int → List Int → List Int → List Int → List Int → Option R) :
    F.impl_Pack N c w n t e k = packed c w n t e k := by
  simp only [F.impl_Pack]
  rw [implDfaOK N c w n t e hc hn ht he hN]
  unfold packed
  cases hok : okDfa c w n t e
  · rfl
  · simp only [Bool.not_true, cond_false, cond_true]
    simp only [okDfa, Bool.and_eq_true, decide_eq_true_eq] at hok
    obtain ⟨⟨g1, g2, g3, g4, g5, g6, g7⟩, a1, a2, a3, a4⟩ := hok
    obtain ⟨w, rfl⟩ : ∃ v : Nat, w = v := ⟨w.toNat, by omega⟩
    have b1 : Nat.ble (0 + c.length) (bigOf 8) = true := by rw [Nat.ble_eq]; simp only [bigOf]; omega
    have b2 : Nat.ble (0 + t.length) (bigOf 8) = true := by rw [Nat.ble_eq]; simp only [bigOf]; omega
    have b3 : Nat.ble (0 + e.length) (bigOf 8) = true := by rw [Nat.ble_eq]; simp only [bigOf]; omega
    simp only [List.length_nil]
    rw [b1, b2, b3]
    simp only [cond_true, List.nil_append]
    have := impl_l0 (R := R) N hN t.length g5 w (by omega) c n t e (by rw [← Int.natCast_mul] at g7; omega) (fun x hx => (allIn_low a2 x hx).1) (fun y41 y42 y43 y44 y45 y46 y47 y48 y49 y50 y51 y52 y53 y54 y55 y56 y57 => k y42 0 y51 y52 y53 y54 y55 y56 y57)
      (fun y58 y59 y60 y61 y62 y63 y64 y65 y66 y67 y68 y69 y70 y71 y72 y73 y74 y75 => k y59 y58 y62 y63 y64 y65 y66 y67 y68) (fun st => k w 0 c st.1 st.2.1 t e st.2.2.1 st.2.2.2) (k 0 2 [] [] [] [] [] [] []) (fun _ _ => rfl) (fun _ _ _ _ _ _ _ _ => rfl) t.length N 0 ([], [], ([], [])) 0 (by omega) (by omega) slots0 (by simp) (by simp) (by simp) (by intro j hj; omega)
    simp only [Int.natCast_zero] at this
    exact this

theorem packAll_lens (rows : Nat → List Int) : ∀ (d s : Nat) (st st' : Laid), packAll rows d s st = some st' → Slots 0 st.2.2 → Slots 0 st'.2.2 ∧ st'.1.length = st.1.length + d ∧ st'.2.1.length = st.2.1.length + d
  | 0, s, st, st', h, hS => by
    simp only [packAll, Option.some.injEq] at h
    subst h
    exact ⟨hS, rfl, rfl⟩
  | d + 1, s, st, st', h, hS => by
    simp only [packAll] at h
    split at h
    · rename_i st1 hp
      have hl := packRow_lens hp
      obtain ⟨k1, k2, k3⟩ := packAll_lens rows d (s + 1) st1 st' h (packRow_slots hp hS)
      exact ⟨k1, by omega, by omega⟩
    · cases h
/-! ### marks -/

/-- From k on, one after the other. -/
def upFrom : Int → Nat → List Int
  | _, 0 => []
  | k, d + 1 => k :: upFrom (k + 1) d

theorem upFrom_len : ∀ (d : Nat) (k : Int), (upFrom k d).length = d
  | 0, _ => rfl
  | d + 1, k => by simp [upFrom, upFrom_len d (k + 1)]

theorem upFrom_get : ∀ (d i : Nat) (k : Int), i < d → List.getD (upFrom k d) i (0 : Int) = k + i
  | 0, _, _, h => by omega
  | d + 1, 0, k, _ => by simp [upFrom]
  | d + 1, i + 1, k, h => by
    simp only [upFrom, List.getD_cons_succ]
    rw [upFrom_get d i (k + 1) (by omega)]
    omega

theorem upFrom_succ : ∀ (i : Nat) (k : Int), upFrom k (i + 1) = upFrom k i ++ [k + i]
  | 0, k => by simp [upFrom]
  | i + 1, k => by
    rw [show upFrom k (i + 1 + 1) = k :: upFrom (k + 1) (i + 1) from rfl, upFrom_succ i (k + 1)]
    simp only [upFrom, List.cons_append]
    congr 2
    simp
    omega

theorem mark_l0 {R : Type} (N : Nat) (l : List Int) (hl : l.length ≤ 1048576) (k : Int) (h0 : 0 ≤ k) (h1 : k ≤ 1099511627776) (q : Int → List Int → Option R) : ∀ (d m i : Nat), i + d = l.length → d < m →
    F.laws_markIntS_l0 N m (k + i) (i : Int) (upFrom k i ++ l.drop i) q = q (k + l.length) (upFrom k l.length) := by
  intro d
  induction d with
  | zero =>
    intro m i hi hm
    obtain ⟨m, rfl⟩ : ∃ z, m = z + 1 := ⟨m - 1, by omega⟩
    simp only [F.laws_markIntS_l0, F.laws_markIntS_l0_s, Bool.cond_decide]
    rw [if_neg (by simp [upFrom_len]; omega), List.drop_of_length_le (by omega), show i = l.length by omega, List.append_nil]
  | succ d ih =>
    intro m i hi hm
    obtain ⟨m, rfl⟩ : ∃ z, m = z + 1 := ⟨m - 1, by omega⟩
    have hlen : (upFrom k i ++ l.drop i).length = l.length := by simp [upFrom_len]; omega
    simp only [F.laws_markIntS_l0, F.laws_markIntS_l0_s, Bool.cond_decide]
    rw [if_pos (by rw [hlen]; omega), inB_true (by omega) (by rw [hlen]; omega), wrap_id (by omega) (by omega), wrap_id (by omega) (by omega)]
    simp only [cond_true, Int.toNat_natCast]
    have := ih m (i + 1) (by omega) (by omega)
    rw [show ((i + 1 : Nat) : Int) = (i : Int) + 1 by omega, show k + ((i : Int) + 1) = k + i + 1 by omega] at this
    rw [← this]
    congr 1
    rw [List.set_append_right _ _ (by rw [upFrom_len]; omega), upFrom_len, Nat.sub_self, List.drop_eq_getElem_cons (by omega), List.set_cons_zero, upFrom_succ, List.append_assoc]
    rfl

theorem markIntS {R : Type} (N : Nat) (l : List Int) (hl : l.length ≤ 1048576) (k : Int) (h0 : 0 ≤ k) (h1 : k ≤ 1099511627776) (hN : 1048576 < N) (q : Int → List Int → Option R) : F.laws_markIntS N k l q = q (k + l.length) (upFrom k l.length) := by
  simp only [F.laws_markIntS]
  have := mark_l0 N l hl k h0 h1 q l.length N 0 (by omega) (by omega)
  simp only [Int.natCast_zero, Int.add_zero, upFrom, List.nil_append, List.drop_zero] at this
  exact this

theorem held_l0 {R : Type} (N : Nat) (n : Nat) (hl : n ≤ 1048576) (k : Int) (h0 : 0 ≤ k) (h1 : k ≤ 1099511627776) (q : Int → Option R) (q2 : Int → Int → Option R) : ∀ (d m i : Nat), i + d = n → d < m →
    F.laws_heldIntS_l0 N m (upFrom k n) (k + i) (i : Int) q q2 = q (k + n) := by
  intro d
  induction d with
  | zero =>
    intro m i hi hm
    obtain ⟨m, rfl⟩ : ∃ z, m = z + 1 := ⟨m - 1, by omega⟩
    simp only [F.laws_heldIntS_l0, F.laws_heldIntS_l0_s, Bool.cond_decide]
    rw [if_neg (by simp [upFrom_len]; omega), show i = n by omega]
  | succ d ih =>
    intro m i hi hm
    obtain ⟨m, rfl⟩ : ∃ z, m = z + 1 := ⟨m - 1, by omega⟩
    simp only [F.laws_heldIntS_l0, F.laws_heldIntS_l0_s, Bool.cond_decide, upFrom_len]
    rw [if_pos (by omega), inB_true (by omega) (by omega), wrap_id (by omega) (by omega), wrap_id (by omega) (by omega)]
    simp only [cond_true, Int.toNat_natCast]
    rw [upFrom_get n i k (by omega), show ((k + (i : Int)) != k + i) = false by simp, cond_false]
    have := ih m (i + 1) (by omega) (by omega)
    rw [show ((i + 1 : Nat) : Int) = (i : Int) + 1 by omega, show k + ((i : Int) + 1) = k + i + 1 by omega] at this
    exact this

theorem heldIntS {R : Type} (N : Nat) (n : Nat) (hl : n ≤ 1048576) (k : Int) (h0 : 0 ≤ k) (h1 : k ≤ 1099511627776) (hN : 1048576 < N) (q : Int → Option R) : F.laws_heldIntS N (upFrom k n) k q = q (k + n) := by
  simp only [F.laws_heldIntS]
  have := held_l0 N n hl k h0 h1 q (fun y7 y8 => q y8) n N 0 (by omega) (by omega)
  simp only [Int.natCast_zero, Int.add_zero] at this
  exact this
theorem eqTable {R : Type} (N : Nat) (c : List Int) (w : Int) (b d t e n q : List Int) (hc : c.length ≤ 1048576) (hb : b.length ≤ 1048576) (hd : d.length ≤ 1048576) (ht : t.length ≤ 1048576) (he : e.length ≤ 1048576) (hn : n.length ≤ 1048576) (hq : q.length ≤ 1048576) (hN : 1048576 < N)
    (k : Bool → Option R) : F.laws_eqTable N c w b d t e n q c w b d t e n q k = k true := by
  simp only [F.laws_eqTable, bne_self_eq_false, cond_false]
  rw [eqIntS N c hc hN]
  simp only [Bool.not_true, cond_false]
  rw [eqIntS N b hb hN]
  simp only [Bool.not_true, cond_false]
  rw [eqIntS N d hd hN]
  simp only [Bool.not_true, cond_false]
  rw [eqIntS N t ht hN]
  simp only [Bool.not_true, cond_false]
  rw [eqIntS N e he hN]
  simp only [Bool.not_true, cond_false]
  rw [eqIntS N n hn hN]
  simp only [Bool.not_true, cond_false]
  rw [eqIntS N q hq hN]
  simp only [Bool.not_true, cond_false]
/-- Whatever packing gives, its rows are short. -/
theorem packed_is (c : List Int) (w : Int) (n t e : List Int) (hc : c.length ≤ 1048576) (hn : n.length ≤ 1048576) (ht : t.length ≤ 1048576) (he : e.length ≤ 1048576) : ∃ (w' o : Int) (c' b' d' t' e' n' q' : List Int), c'.length ≤ 1048576 ∧ b'.length ≤ 1048576 ∧ d'.length ≤ 1048576 ∧ t'.length ≤ 1048576 ∧ e'.length ≤ 1048576 ∧ n'.length ≤ 1048576 ∧ q'.length ≤ 1048576 ∧
    ∀ (k : Int → Int → List Int → List Int → List Int → List Int → List Int → List Int → List Int → Option Bool), packed c w n t e k = k w' o c' b' d' t' e' n' q' := by
  unfold packed
  have nil : ([] : List Int).length ≤ 1048576 := by simp
  cases hok : okDfa c w n t e
  · exact ⟨0, 1, [], [], [], [], [], [], [], nil, nil, nil, nil, nil, nil, nil, fun k => rfl⟩
  · cases hp : packAll (rowOf n w.toNat) t.length 0 ([], [], ([], [])) with
    | none => exact ⟨0, 2, [], [], [], [], [], [], [], nil, nil, nil, nil, nil, nil, nil, fun k => rfl⟩
    | some st =>
      obtain ⟨hS, h1, h2⟩ := packAll_lens _ _ _ _ _ hp slots0
      have h3 := hS.size
      have h4 := hS.len
      simp only [List.length_nil, Nat.zero_add] at h1 h2
      exact ⟨w, 0, c, st.1, st.2.1, t, e, st.2.2.1, st.2.2.2, hc, by omega, by omega, ht, he, by omega, by omega, fun k => rfl⟩
theorem main (c : List Int) (w : Int) (n t e : List Int) (hc : c.length ≤ maxLen) (hn : n.length ≤ maxLen) (ht : t.length ≤ maxLen) (he : e.length ≤ maxLen) : ∃ N, F.laws_FnExactPack N c w n t e (fun b => some b) = some true := by
  obtain ⟨N, hN⟩ : ∃ N, 1048576 < N := ⟨1048577, by omega⟩
  refine ⟨N, ?_⟩
  simp only [F.laws_FnExactPack]
  refine szDfa c w n t e hc hn ht he _ _ ?_ ?_
  · intro z hz
    rw [Bool.cond_decide, if_pos hz]
  · intro z hz h1 h2 h3 h4
    rw [Bool.cond_decide, if_neg (by omega)]
    simp only [toDfa N c w n t e h1 h2 h3 h4 hN, specPack N c w n t e h1 h2 h3 h4 hN, implPack N c w n t e h1 h2 h3 h4 hN]
    obtain ⟨w', o, c', b', d', t', e', n', q', k1, k2, k3, k4, k5, k6, k7, hp⟩ := packed_is c w n t e h1 h2 h3 h4
    simp only [hp, eqTable N c' w' b' d' t' e' n' q' k1 k2 k3 k4 k5 k6 k7 hN, eqDfa N c w n t e h1 h2 h3 h4 hN, F.laws_markDfa, F.laws_markTable, F.laws_heldTable]
    have M := fun (l : List Int) (hl : l.length ≤ 1048576) (k : Int) (h0 : 0 ≤ k) (h1 : k ≤ 1099511627776) => fun q => markIntS (R := Bool) N l hl k h0 h1 hN q
    rw [M c h1 _ (by omega) (by omega), M n h2 _ (by omega) (by omega), M t h3 _ (by omega) (by omega), M e h4 _ (by omega) (by omega)]
    rw [M c' k1 _ (by omega) (by omega), M b' k2 _ (by omega) (by omega), M d' k3 _ (by omega) (by omega), M t' k4 _ (by omega) (by omega), M e' k5 _ (by omega) (by omega), M n' k6 _ (by omega) (by omega), M q' k7 _ (by omega) (by omega)]
    have H := fun (m : Nat) (hl : m ≤ 1048576) (k : Int) (h0 : 0 ≤ k) (h1 : k ≤ 1099511627776) => fun q => heldIntS (R := Bool) N m hl k h0 h1 hN q
    rw [H _ k1 _ (by omega) (by omega), Bool.cond_decide, if_neg (by omega), H _ k2 _ (by omega) (by omega), Bool.cond_decide, if_neg (by omega), H _ k3 _ (by omega) (by omega), Bool.cond_decide, if_neg (by omega), H _ k4 _ (by omega) (by omega), Bool.cond_decide, if_neg (by omega),
      H _ k5 _ (by omega) (by omega), Bool.cond_decide, if_neg (by omega), H _ k6 _ (by omega) (by omega), Bool.cond_decide, if_neg (by omega), H _ k7 _ (by omega) (by omega), Bool.cond_decide, if_neg (by omega)]
    simp only [bne_self_eq_false, cond_false, Bool.not_true]
    rw [Bool.cond_decide, if_neg (by omega), Bool.cond_decide, if_neg (by omega)]

theorem FnExactPack : ∀ (a0 : Ki.den (.pair (.lst (.int .i64)) (.pair (.int .i64) (.pair (.lst (.int .i64)) (.pair (.lst (.int .i64)) (.lst (.int .i64))))))), Fit (.pair (.lst (.int .i64)) (.pair (.int .i64) (.pair (.lst (.int .i64)) (.pair (.lst (.int .i64)) (.lst (.int .i64)))))) a0 → ∃ N, F.laws_FnExactPack N a0.1 a0.2.1 a0.2.2.1 a0.2.2.2.1 a0.2.2.2.2 (fun b => some b) = some true :=
  fun a0 h => main a0.1 a0.2.1 a0.2.2.1 a0.2.2.2.1 a0.2.2.2.2 h.1.1 h.2.2.1.1 h.2.2.2.1.1 h.2.2.2.2.1

end Go.Proofs.Ytbbfbnediaenlaa.fnExactPack.Pure
