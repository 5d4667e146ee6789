/- The plain law of FnExactMinimize: both sides answer alike for every automaton. -/
import Derived.Test.YtclfonfegenfiaaFdFnExactMinimize
namespace Go.Proofs.Ytclfonfegenfiaa.fnExactMinimize.Pure
open Go.Ev Go.Proofs.Ytclfonfegenfiaa.fnExactMinimize

set_option linter.unusedVariables false
set_option linter.unusedSimpArgs false
/-! ### whole numbers -/

theorem wrap_id {n : Int} (h0 : -9223372036854775808 ≤ n) (h1 : n ≤ 9223372036854775807) : wrapK .i64 n = n := by
  simp only [wrapK, IntKind.wrap, IntKind.signed, IntKind.bits, Bool.true_and]
  split <;> rename_i h <;> simp only [ge_iff_le, decide_eq_true_eq] at h <;> omega

theorem inB_true {i : Int} {n : Nat} (h0 : 0 ≤ i) (h1 : i < n) : inB i n = true := by
  simp only [inB, Bool.and_eq_true, decide_eq_true_eq]; exact ⟨h0, h1⟩

theorem i64_of {n : Int} (h : (Lit.int .i64 n).wf = true) : -9223372036854775808 ≤ n ∧ n ≤ 9223372036854775807 := by
  simp only [Lit.wf, IntKind.min, IntKind.max, IntKind.signed, IntKind.bits, Bool.and_eq_true, decide_eq_true_eq] at h
  constructor
  · exact h.1
  · exact h.2

theorem maxLen_eq : maxLen = 9223372036854775807 := rfl

/-- All of a list's numbers are in range. -/
def I64s (l : List Int) : Prop := ∀ x ∈ l, -9223372036854775808 ≤ x ∧ x ≤ 9223372036854775807

theorem i64s_of {l : List Int} (h : ∀ x, List.Mem (α := Int) x l → Fit (.int .i64) x) : I64s l := fun x hx => i64_of (h x hx)

theorem getD_get (l : List Int) {i : Nat} (h : i < l.length) : List.getD l i (0 : Int) = l[i] := by simp [List.getD_eq_getElem?_getD, h]
/-! ### copies, sizes, comparisons of rows of numbers -/

theorem szIntS {R : Type} (l : List Int) (n : Int) (h0 : 0 ≤ n) (h1 : n ≤ 1048576) (hl : l.length ≤ maxLen) (k : Int → Option R) : F.laws_szIntS l n k = if n < l.length then k (-1) else k (n - l.length) := by
  rw [maxLen_eq] at hl
  simp only [F.laws_szIntS]
  rw [wrap_id (by omega) (by omega), Bool.cond_decide]
  by_cases h : n < l.length
  · rw [if_pos (by omega), if_pos h]
  · rw [if_neg (by omega), if_neg h]

theorem toIntS_l0 {R : Type} (N : Nat) (l : List Int) (hl : l.length ≤ 1048576) (k : List Int → Option R) : ∀ (d n i : Nat), i + d = l.length → d < n → F.laws_toIntS_l0 N n l (i : Int) (l.take i ++ List.replicate d 0) k = k l := by
  intro d
  induction d with
  | zero =>
    intro n i hi hn
    obtain ⟨n, rfl⟩ : ∃ m, n = m + 1 := ⟨n - 1, by omega⟩
    simp only [F.laws_toIntS_l0, F.laws_toIntS_l0_s, Bool.cond_decide]
    rw [if_neg (by omega)]
    simp [show i = l.length by omega]
  | succ d ih =>
    intro n i hi hn
    obtain ⟨n, rfl⟩ : ∃ m, n = m + 1 := ⟨n - 1, by omega⟩
    simp only [F.laws_toIntS_l0, F.laws_toIntS_l0_s, Bool.cond_decide]
    rw [if_pos (by omega), inB_true (by omega) (by omega), inB_true (by omega) (by simp; omega), wrap_id (by omega) (by omega)]
    simp only [cond_true, Int.toNat_natCast]
    have := ih n (i + 1) (by omega) (by omega)
    rw [show ((i + 1 : Nat) : Int) = (i : Int) + 1 by omega] at this
    rw [← this]
    congr 1
    rw [getD_get l (by omega), List.set_append_right _ _ (by simp; omega), List.take_succ_eq_append_getElem (i := i) (by omega)]
    simp only [List.length_take, Nat.min_eq_left (show i ≤ l.length by omega), Nat.sub_self, List.replicate_succ, List.set_cons_zero, List.append_assoc, List.singleton_append]

theorem toIntS {R : Type} (N : Nat) (l : List Int) (hl : l.length ≤ 1048576) (hN : 1048576 < N) (k : List Int → Option R) : F.laws_toIntS N l k = k l := by
  simp only [F.laws_toIntS, Bool.cond_decide]
  rw [if_pos (by omega)]
  have hb : Nat.ble (Int.toNat (l.length : Int)) (bigOf 8) = true := by
    rw [Nat.ble_eq]
    simp only [bigOf, Int.toNat_natCast]
    omega
  rw [hb]
  simp only [cond_true, Int.toNat_natCast]
  exact toIntS_l0 N l hl k l.length N 0 (by omega) (by omega)

theorem eqIntS_l0 {R : Type} (N : Nat) (l : List Int) (hl : l.length ≤ 1048576) (k : Unit → Option R) (k' : Bool → Option R) : ∀ (d n i : Nat), i + d = l.length → d < n → F.laws_eqIntS_l0 N n l l (i : Int) k k' = k () := by
  intro d
  induction d with
  | zero =>
    intro n i hi hn
    obtain ⟨n, rfl⟩ : ∃ m, n = m + 1 := ⟨n - 1, by omega⟩
    simp only [F.laws_eqIntS_l0, F.laws_eqIntS_l0_s, Bool.cond_decide]
    rw [if_neg (by omega)]
  | succ d ih =>
    intro n i hi hn
    obtain ⟨n, rfl⟩ : ∃ m, n = m + 1 := ⟨n - 1, by omega⟩
    simp only [F.laws_eqIntS_l0, F.laws_eqIntS_l0_s, Bool.cond_decide]
    rw [if_pos (by omega), inB_true (by omega) (by omega), wrap_id (by omega) (by omega)]
    simp only [cond_true, bne_self_eq_false, cond_false]
    have := ih n (i + 1) (by omega) (by omega)
    rw [show ((i + 1 : Nat) : Int) = (i : Int) + 1 by omega] at this
    exact this

theorem eqIntS {R : Type} (N : Nat) (l : List Int) (hl : l.length ≤ 1048576) (hN : 1048576 < N) (k : Bool → Option R) : F.laws_eqIntS N l l k = k true := by
  simp only [F.laws_eqIntS, bne_self_eq_false, cond_false]
  exact eqIntS_l0 N l hl _ _ l.length N 0 (by omega) (by omega)
/-! ### automata: sizes, copies, comparisons -/

theorem szDfa {R : Type} (c : List Int) (w : Int) (n t e : List Int) (hc : c.length ≤ maxLen) (hn : n.length ≤ maxLen) (ht : t.length ≤ maxLen) (he : e.length ≤ maxLen) (k : Int → Option R) (r : Option R)
    (h1 : ∀ z, z < 0 → k z = r) (h2 : ∀ z, 0 ≤ z → c.length ≤ 1048576 → n.length ≤ 1048576 → t.length ≤ 1048576 → e.length ≤ 1048576 → k z = r) : F.laws_szDfa c w n t e 1048576 k = r := by
  have step : ∀ (l : List Int) (m : Int) (k' : Int → Option R), 0 ≤ m → m ≤ 1048576 → l.length ≤ maxLen → (∀ z, z < 0 → k' z = r) → (∀ z, 0 ≤ z → z ≤ 1048576 → l.length ≤ 1048576 → k' z = r) → F.laws_szIntS l m k' = r := by
    intro l m k' h0 h1 hl a b
    rw [szIntS l m h0 h1 hl]
    split
    · exact a _ (by omega)
    · exact b _ (by omega) (by omega) (by omega)
  simp only [F.laws_szDfa]
  refine step c _ _ (by omega) (by omega) hc ?_ ?_
  · intro z hz
    rw [Bool.cond_decide, if_pos hz]; exact h1 _ (by omega)
  · intro z hz hz' a1
    rw [Bool.cond_decide, if_neg (by omega)]
    refine step n _ _ hz hz' hn ?_ ?_
    · intro z hz
      rw [Bool.cond_decide, if_pos hz]; exact h1 _ (by omega)
    · intro z hz hz' a2
      rw [Bool.cond_decide, if_neg (by omega)]
      refine step t _ _ hz hz' ht ?_ ?_
      · intro z hz
        rw [Bool.cond_decide, if_pos hz]; exact h1 _ (by omega)
      · intro z hz hz' a3
        rw [Bool.cond_decide, if_neg (by omega)]
        refine step e _ _ hz hz' he ?_ ?_
        · intro z hz
          rw [Bool.cond_decide, if_pos hz]; exact h1 _ (by omega)
        · intro z hz hz' a4
          rw [Bool.cond_decide, if_neg (by omega)]
          exact h2 z hz a1 a2 a3 a4

theorem toDfa {R : Type} (N : Nat) (c : List Int) (w : Int) (n t e : List Int) (hc : c.length ≤ 1048576) (hn : n.length ≤ 1048576) (ht : t.length ≤ 1048576) (he : e.length ≤ 1048576) (hN : 1048576 < N) (k : Int → List Int → List Int → List Int → List Int → Option R) :
    F.laws_toDfa N c w n t e k = k w c n t e := by
  simp only [F.laws_toDfa]
  rw [toIntS N c hc hN, toIntS N n hn hN, toIntS N t ht hN, toIntS N e he hN]

theorem eqDfa {R : Type} (N : Nat) (c : List Int) (w : Int) (n t e : List Int) (hc : c.length ≤ 1048576) (hn : n.length ≤ 1048576) (ht : t.length ≤ 1048576) (he : e.length ≤ 1048576) (hN : 1048576 < N) (k : Bool → Option R) :
    F.laws_eqDfa N c w n t e c w n t e k = k true := by
  simp only [F.laws_eqDfa, bne_self_eq_false, cond_false]
  rw [eqIntS N c hc hN]
  simp only [Bool.not_true, cond_false]
  rw [eqIntS N n hn hN]
  simp only [Bool.not_true, cond_false]
  rw [eqIntS N t ht hN]
  simp only [Bool.not_true, cond_false]
  rw [eqIntS N e he hN]
  simp only [Bool.not_true, cond_false]
/-! ### all between -/

/-- All numbers lie between. -/
def allIn (l : List Int) (lo hi : Int) : Bool := l.all fun x => decide (lo ≤ x ∧ x ≤ hi)

theorem allIn_drop (l : List Int) (lo hi : Int) {i : Nat} (h : i < l.length) : allIn (l.drop i) lo hi = (decide (lo ≤ l[i] ∧ l[i] ≤ hi) && allIn (l.drop (i + 1)) lo hi) := by
  simp only [allIn]
  rw [List.drop_eq_getElem_cons h, List.all_cons]

theorem l2All_l0 {R : Type} (N : Nat) (l : List Int) (lo hi : Int) (hl : l.length ≤ 1048576) (k : Bool → Option R) : ∀ (d n i : Nat), i + d = l.length → d < n → F.spec_l2All_l0 N n lo hi l (l.length : Int) (i : Int) (fun _ => k true) (fun b => k b) = k (allIn (l.drop i) lo hi) := by
  intro d
  induction d with
  | zero =>
    intro n i hi' hn
    obtain ⟨n, rfl⟩ : ∃ m, n = m + 1 := ⟨n - 1, by omega⟩
    simp only [F.spec_l2All_l0, F.spec_l2All_l0_s, Bool.cond_decide]
    rw [if_neg (by omega), List.drop_of_length_le (by omega)]
    rfl
  | succ d ih =>
    intro n i hi' hn
    obtain ⟨n, rfl⟩ : ∃ m, n = m + 1 := ⟨n - 1, by omega⟩
    simp only [F.spec_l2All_l0, F.spec_l2All_l0_s, F.spec_l1Between, Bool.cond_decide]
    rw [if_pos (by omega), inB_true (by omega) (by omega), wrap_id (by omega) (by omega), allIn_drop l lo hi (by omega)]
    simp only [cond_true, Int.toNat_natCast]
    simp only [getD_get l (show i < l.length by omega)]
    have := ih n (i + 1) (by omega) (by omega)
    rw [show ((i + 1 : Nat) : Int) = (i : Int) + 1 by omega] at this
    rw [this]
    by_cases h1 : lo ≤ l[i]
    · rw [if_pos h1]
      by_cases h2 : l[i] ≤ hi
      · simp [h1, h2]
      · simp [h2]
    · rw [if_neg h1]
      simp [h1]

theorem l2All {R : Type} (N : Nat) (l : List Int) (lo hi : Int) (hl : l.length ≤ 1048576) (hN : 1048576 < N) (k : Bool → Option R) : F.spec_l2All N l lo hi k = k (allIn l lo hi) := by
  simp only [F.spec_l2All]
  exact l2All_l0 N l lo hi hl k l.length N 0 (by omega) (by omega)

theorem index_l0 {R : Type} (N : Nat) (l : List Int) (lo hi : Int) (hl : l.length ≤ 1048576) (k : Bool → Option R) : ∀ (d n i : Nat), i + d = l.length → d < n →
    F.slices_IndexFunc_l0 N n l (l.length : Int) (i : Int) lo hi (fun _ _ => k (!decide ((-1 : Int) ≥ 0))) (fun j _ _ => k (!decide (j ≥ 0))) = k (allIn (l.drop i) lo hi) := by
  intro d
  induction d with
  | zero =>
    intro n i hi' hn
    obtain ⟨n, rfl⟩ : ∃ m, n = m + 1 := ⟨n - 1, by omega⟩
    simp only [F.slices_IndexFunc_l0, F.slices_IndexFunc_l0_s, Bool.cond_decide]
    rw [if_neg (by omega), List.drop_of_length_le (by omega)]
    rfl
  | succ d ih =>
    intro n i hi' hn
    obtain ⟨n, rfl⟩ : ∃ m, n = m + 1 := ⟨n - 1, by omega⟩
    simp only [F.slices_IndexFunc_l0, F.slices_IndexFunc_l0_s, F.impl_DfaOK_1_1, Bool.cond_decide]
    rw [if_pos (by omega), inB_true (by omega) (by omega), wrap_id (by omega) (by omega), allIn_drop l lo hi (by omega)]
    simp only [cond_true, Int.toNat_natCast]
    simp only [getD_get l (show i < l.length by omega)]
    have := ih n (i + 1) (by omega) (by omega)
    rw [show ((i + 1 : Nat) : Int) = (i : Int) + 1 by omega] at this
    rw [this]
    by_cases h1 : l[i] < lo
    · rw [if_pos h1]
      simp [show ¬ (lo ≤ l[i]) by omega]
    · rw [if_neg h1]
      by_cases h2 : l[i] > hi
      · rw [if_pos h2]
        simp [show ¬ (l[i] ≤ hi) by omega]
      · rw [if_neg h2]
        simp [show lo ≤ l[i] by omega, show l[i] ≤ hi by omega]

theorem implIn {R : Type} (N : Nat) (l : List Int) (lo hi : Int) (hl : l.length ≤ 1048576) (hN : 1048576 < N) (k : Bool → Option R) : F.impl_DfaOK_1 N l lo hi k = k (allIn l lo hi) := by
  simp only [F.impl_DfaOK_1, F.slices_ContainsFunc, F.slices_IndexFunc]
  exact index_l0 N l lo hi hl k l.length N 0 (by omega) (by omega)

/-- An automaton in order. -/
def okDfa (c : List Int) (w : Int) (n t e : List Int) : Bool :=
  decide (c.length = 256 ∧ 1 ≤ w ∧ w ≤ 256 ∧ 1 ≤ t.length ∧ t.length ≤ 4000 ∧ e.length = t.length ∧ (n.length : Int) = t.length * w) &&
    (allIn c 0 (w - 1) && (allIn n 0 (t.length - 1) && (allIn t (-1) 99 && allIn e (-1) 99)))

theorem mul_ok {t : Nat} {w : Int} (h1 : t ≤ 4000) (h2 : 1 ≤ w) (h3 : w ≤ 256) : wrapK .i64 ((t : Int) * w) = t * w := by
  have a : 0 ≤ (t : Int) * w := Int.mul_nonneg (by omega) (by omega)
  have b : (t : Int) * w ≤ 4000 * 256 := Int.mul_le_mul (by omega) h3 (by omega) (by omega)
  exact wrap_id (by omega) (by omega)

theorem specDfaOK {R : Type} (N : Nat) (c : List Int) (w : Int) (n t e : List Int) (hc : c.length ≤ 1048576) (hn : n.length ≤ 1048576) (ht : t.length ≤ 1048576) (he : e.length ≤ 1048576) (hN : 1048576 < N) (k : Bool → Option R) :
    F.spec_DfaOK N c w n t e k = k (okDfa c w n t e) := by
  by_cases hg : c.length = 256 ∧ 1 ≤ w ∧ w ≤ 256 ∧ 1 ≤ t.length ∧ t.length ≤ 4000 ∧ e.length = t.length ∧ (n.length : Int) = t.length * w
  · obtain ⟨g1, g2, g3, g4, g5, g6, g7⟩ := hg
    simp only [F.spec_DfaOK, F.spec_l1Between, Bool.cond_decide]
    rw [mul_ok g5 g2 g3, wrap_id (n := w - 1) (by omega) (by omega), wrap_id (n := (t.length : Int) - 1) (by omega) (by omega)]
    simp only [show ((c.length : Int) != 256) = false by simp; omega, cond_false, if_pos g2, decide_eq_true g3, Bool.not_true, if_pos (show (1 : Int) ≤ t.length by omega), decide_eq_true (show (t.length : Int) ≤ 4000 by omega),
      show ((e.length : Int) != t.length) = false by simp; omega, show ((n.length : Int) != t.length * w) = false by simp; omega]
    rw [l2All N c _ _ hc hN, l2All N n _ _ hn hN, l2All N t _ _ ht hN, l2All N e _ _ he hN]
    simp only [okDfa, g1, g2, g3, g4, g5, g6, g7, true_and, and_self, decide_true, Bool.true_and]
    cases allIn c 0 (w - 1) <;> cases allIn n 0 (t.length - 1) <;> cases allIn t (-1) 99 <;> simp
  · have e0 : okDfa c w n t e = false := by simp only [okDfa, decide_eq_false hg, Bool.false_and]
    rw [e0]
    simp only [F.spec_DfaOK, F.spec_l1Between, Bool.cond_decide]
    by_cases g1 : c.length = 256
    case neg => simp only [show ((c.length : Int) != 256) = true by simp; omega, cond_true]
    simp only [show ((c.length : Int) != 256) = false by simp; omega, cond_false]
    by_cases g2 : 1 ≤ w
    case neg => simp [g2]
    by_cases g3 : w ≤ 256
    case neg => simp [g2, g3]
    simp only [if_pos g2, decide_eq_true g3, Bool.not_true, cond_false]
    by_cases g4 : 1 ≤ t.length
    case neg => rw [if_neg (by omega)]; simp
    rw [if_pos (by omega)]
    by_cases g5 : t.length ≤ 4000
    case neg => simp [show ¬ ((t.length : Int) ≤ 4000) by omega]
    simp only [decide_eq_true (show (t.length : Int) ≤ 4000 by omega), Bool.not_true, cond_false]
    by_cases g6 : e.length = t.length
    case neg => simp only [show ((e.length : Int) != t.length) = true by simp; omega, cond_true]
    simp only [show ((e.length : Int) != t.length) = false by simp; omega, cond_false]
    rw [mul_ok g5 g2 g3]
    have g7 : ¬ ((n.length : Int) = t.length * w) := fun h => hg ⟨g1, g2, g3, g4, g5, g6, h⟩
    simp only [show ((n.length : Int) != t.length * w) = true by simpa using g7, cond_true]

theorem implDfaOK {R : Type} (N : Nat) (c : List Int) (w : Int) (n t e : List Int) (hc : c.length ≤ 1048576) (hn : n.length ≤ 1048576) (ht : t.length ≤ 1048576) (he : e.length ≤ 1048576) (hN : 1048576 < N) (k : Bool → Option R) :
    F.impl_DfaOK N c w n t e k = k (okDfa c w n t e) := by
  by_cases hg : c.length = 256 ∧ 1 ≤ w ∧ w ≤ 256 ∧ 1 ≤ t.length ∧ t.length ≤ 4000 ∧ e.length = t.length ∧ (n.length : Int) = t.length * w
  · obtain ⟨g1, g2, g3, g4, g5, g6, g7⟩ := hg
    simp only [F.impl_DfaOK, Bool.cond_decide]
    rw [mul_ok g5 g2 g3, wrap_id (n := w - 1) (by omega) (by omega), wrap_id (n := (t.length : Int) - 1) (by omega) (by omega)]
    simp only [show ((c.length : Int) != 256) = false by simp; omega, cond_false, if_neg (show ¬ (w < 1) by omega), if_neg (show ¬ (w > 256) by omega), if_neg (show ¬ ((t.length : Int) < 1) by omega), if_neg (show ¬ ((t.length : Int) > 4000) by omega),
      show ((e.length : Int) != t.length) = false by simp; omega, show ((n.length : Int) != t.length * w) = false by simp; omega]
    rw [implIn N c _ _ hc hN, implIn N n _ _ hn hN, implIn N t _ _ ht hN, implIn N e _ _ he hN]
    simp only [okDfa, g1, g2, g3, g4, g5, g6, g7, true_and, and_self, decide_true, Bool.true_and]
    cases allIn c 0 (w - 1) <;> cases allIn n 0 (t.length - 1) <;> cases allIn t (-1) 99 <;> simp
  · have e0 : okDfa c w n t e = false := by simp only [okDfa, decide_eq_false hg, Bool.false_and]
    rw [e0]
    simp only [F.impl_DfaOK, Bool.cond_decide]
    by_cases g1 : c.length = 256
    case neg => simp only [show ((c.length : Int) != 256) = true by simp; omega, cond_true]
    simp only [show ((c.length : Int) != 256) = false by simp; omega, cond_false]
    by_cases g2 : 1 ≤ w
    case neg => rw [if_pos (by omega)]
    by_cases g3 : w ≤ 256
    case neg => rw [if_neg (by omega), if_pos (by omega)]
    rw [if_neg (by omega), if_neg (by omega)]
    by_cases g4 : 1 ≤ t.length
    case neg => rw [if_pos (by omega)]
    by_cases g5 : t.length ≤ 4000
    case neg => rw [if_neg (by omega), if_pos (by omega)]
    rw [if_neg (by omega), if_neg (by omega)]
    by_cases g6 : e.length = t.length
    case neg => simp only [show ((e.length : Int) != t.length) = true by simp; omega, cond_true]
    simp only [show ((e.length : Int) != t.length) = false by simp; omega, cond_false]
    rw [mul_ok g5 g2 g3]
    have g7 : ¬ ((n.length : Int) = t.length * w) := fun h => hg ⟨g1, g2, g3, g4, g5, g6, h⟩
    simp only [show ((n.length : Int) != t.length * w) = true by simpa using g7, cond_true]
/-! ### marks -/

/-- From k on, one after the other. -/
def upFrom : Int → Nat → List Int
  | _, 0 => []
  | k, d + 1 => k :: upFrom (k + 1) d

theorem upFrom_len : ∀ (d : Nat) (k : Int), (upFrom k d).length = d
  | 0, _ => rfl
  | d + 1, k => by simp [upFrom, upFrom_len d (k + 1)]

theorem upFrom_get : ∀ (d i : Nat) (k : Int), i < d → List.getD (upFrom k d) i (0 : Int) = k + i
  | 0, _, _, h => by omega
  | d + 1, 0, k, _ => by simp [upFrom]
  | d + 1, i + 1, k, h => by
    simp only [upFrom, List.getD_cons_succ]
    rw [upFrom_get d i (k + 1) (by omega)]
    omega

theorem upFrom_succ : ∀ (i : Nat) (k : Int), upFrom k (i + 1) = upFrom k i ++ [k + i]
  | 0, k => by simp [upFrom]
  | i + 1, k => by
    rw [show upFrom k (i + 1 + 1) = k :: upFrom (k + 1) (i + 1) from rfl, upFrom_succ i (k + 1)]
    simp only [upFrom, List.cons_append]
    congr 2
    simp
    omega

theorem mark_l0 {R : Type} (N : Nat) (l : List Int) (hl : l.length ≤ 1048576) (k : Int) (h0 : 0 ≤ k) (h1 : k ≤ 1099511627776) (q : Int → List Int → Option R) : ∀ (d m i : Nat), i + d = l.length → d < m →
    F.laws_markIntS_l0 N m (k + i) (i : Int) (upFrom k i ++ l.drop i) q = q (k + l.length) (upFrom k l.length) := by
  intro d
  induction d with
  | zero =>
    intro m i hi hm
    obtain ⟨m, rfl⟩ : ∃ z, m = z + 1 := ⟨m - 1, by omega⟩
    simp only [F.laws_markIntS_l0, F.laws_markIntS_l0_s, Bool.cond_decide]
    rw [if_neg (by simp [upFrom_len]; omega), List.drop_of_length_le (by omega), show i = l.length by omega, List.append_nil]
  | succ d ih =>
    intro m i hi hm
    obtain ⟨m, rfl⟩ : ∃ z, m = z + 1 := ⟨m - 1, by omega⟩
    have hlen : (upFrom k i ++ l.drop i).length = l.length := by simp [upFrom_len]; omega
    simp only [F.laws_markIntS_l0, F.laws_markIntS_l0_s, Bool.cond_decide]
    rw [if_pos (by rw [hlen]; omega), inB_true (by omega) (by rw [hlen]; omega), wrap_id (by omega) (by omega), wrap_id (by omega) (by omega)]
    simp only [cond_true, Int.toNat_natCast]
    have := ih m (i + 1) (by omega) (by omega)
    rw [show ((i + 1 : Nat) : Int) = (i : Int) + 1 by omega, show k + ((i : Int) + 1) = k + i + 1 by omega] at this
    rw [← this]
    congr 1
    rw [List.set_append_right _ _ (by rw [upFrom_len]; omega), upFrom_len, Nat.sub_self, List.drop_eq_getElem_cons (by omega), List.set_cons_zero, upFrom_succ, List.append_assoc]
    rfl

theorem markIntS {R : Type} (N : Nat) (l : List Int) (hl : l.length ≤ 1048576) (k : Int) (h0 : 0 ≤ k) (h1 : k ≤ 1099511627776) (hN : 1048576 < N) (q : Int → List Int → Option R) : F.laws_markIntS N k l q = q (k + l.length) (upFrom k l.length) := by
  simp only [F.laws_markIntS]
  have := mark_l0 N l hl k h0 h1 q l.length N 0 (by omega) (by omega)
  simp only [Int.natCast_zero, Int.add_zero, upFrom, List.nil_append, List.drop_zero] at this
  exact this

theorem held_l0 {R : Type} (N : Nat) (n : Nat) (hl : n ≤ 1048576) (k : Int) (h0 : 0 ≤ k) (h1 : k ≤ 1099511627776) (q : Int → Option R) (q2 : Int → Int → Option R) : ∀ (d m i : Nat), i + d = n → d < m →
    F.laws_heldIntS_l0 N m (upFrom k n) (k + i) (i : Int) q q2 = q (k + n) := by
  intro d
  induction d with
  | zero =>
    intro m i hi hm
    obtain ⟨m, rfl⟩ : ∃ z, m = z + 1 := ⟨m - 1, by omega⟩
    simp only [F.laws_heldIntS_l0, F.laws_heldIntS_l0_s, Bool.cond_decide]
    rw [if_neg (by simp [upFrom_len]; omega), show i = n by omega]
  | succ d ih =>
    intro m i hi hm
    obtain ⟨m, rfl⟩ : ∃ z, m = z + 1 := ⟨m - 1, by omega⟩
    simp only [F.laws_heldIntS_l0, F.laws_heldIntS_l0_s, Bool.cond_decide, upFrom_len]
    rw [if_pos (by omega), inB_true (by omega) (by omega), wrap_id (by omega) (by omega), wrap_id (by omega) (by omega)]
    simp only [cond_true, Int.toNat_natCast]
    rw [upFrom_get n i k (by omega), show ((k + (i : Int)) != k + i) = false by simp, cond_false]
    have := ih m (i + 1) (by omega) (by omega)
    rw [show ((i + 1 : Nat) : Int) = (i : Int) + 1 by omega, show k + ((i : Int) + 1) = k + i + 1 by omega] at this
    exact this

theorem heldIntS {R : Type} (N : Nat) (n : Nat) (hl : n ≤ 1048576) (k : Int) (h0 : 0 ≤ k) (h1 : k ≤ 1099511627776) (hN : 1048576 < N) (q : Int → Option R) : F.laws_heldIntS N (upFrom k n) k q = q (k + n) := by
  simp only [F.laws_heldIntS]
  have := held_l0 N n hl k h0 h1 q (fun y7 y8 => q y8) n N 0 (by omega) (by omega)
  simp only [Int.natCast_zero, Int.add_zero] at this
  exact this
/-! ### what stands first of its kind -/

section reps
variable {α β γ : Type} [DecidableEq β] [DecidableEq γ]

/-- One more. -/
def repStep (f : α → β) (acc : List α) (x : α) : List α := if f x ∈ acc.map f then acc else acc ++ [x]

/-- The first of each kind, in order. -/
def reps (f : α → β) (l : List α) : List α := l.foldl (repStep f) []

theorem reps_snoc (f : α → β) (l : List α) (x : α) : reps f (l ++ [x]) = repStep f (reps f l) x := by simp [reps, List.foldl_append]

theorem repsInd {P : List α → Prop} (h0 : P []) (h1 : ∀ l x, P l → P (l ++ [x])) (l : List α) : P l := by
  have : ∀ m : List α, P m.reverse := by
    intro m
    induction m with
    | nil => exact h0
    | cons a m ih => rw [List.reverse_cons]; exact h1 _ _ ih
  have h := this l.reverse
  rwa [List.reverse_reverse] at h

theorem reps_mem {f : α → β} {l : List α} {x : α} (h : x ∈ reps f l) : x ∈ l := by
  induction l using repsInd with
  | h0 => simp [reps] at h
  | h1 l y ih =>
    rw [reps_snoc, repStep] at h
    split at h
    · exact List.mem_append.2 (.inl (ih h))
    · rcases List.mem_append.1 h with h | h
      · exact List.mem_append.2 (.inl (ih h))
      · exact List.mem_append.2 (.inr h)

theorem reps_kinds (f : α → β) (l : List α) (y : β) : y ∈ (reps f l).map f ↔ y ∈ l.map f := by
  constructor
  · intro h
    obtain ⟨x, hx, e⟩ := List.mem_map.1 h
    exact List.mem_map.2 ⟨x, reps_mem hx, e⟩
  · intro h
    induction l using repsInd with
    | h0 => simp at h
    | h1 l x ih =>
      have h : y ∈ l.map f ∨ y = f x := by simpa [List.map_append] using h
      rw [reps_snoc, repStep]
      split
      · rename_i hx
        rcases h with h | rfl
        · exact ih h
        · exact hx
      · rw [List.map_append, List.mem_append]
        rcases h with h | rfl
        · exact .inl (ih h)
        · exact .inr (by simp)

theorem reps_has {f : α → β} {l : List α} {x : α} (h : x ∈ l) : f x ∈ (reps f l).map f := (reps_kinds f l (f x)).2 (List.mem_map.2 ⟨x, h, rfl⟩)

theorem reps_nodup (f : α → β) (l : List α) : ((reps f l).map f).Nodup := by
  induction l using repsInd with
  | h0 => simp [reps]
  | h1 l x ih =>
    rw [reps_snoc, repStep]
    split
    · exact ih
    · rename_i h
      rw [List.map_append, List.nodup_append]
      exact ⟨ih, by simp, fun a ha b hb => by simp at hb; subst hb; exact fun e => h (e ▸ ha)⟩

theorem reps_len_le (f : α → β) (l : List α) : (reps f l).length ≤ l.length := by
  induction l using repsInd with
  | h0 => simp [reps]
  | h1 l x ih =>
    rw [reps_snoc, repStep]
    split <;> simp <;> omega

/-- More can only stand behind. -/
theorem reps_prefix (f : α → β) (l m : List α) : ∃ r, reps f (l ++ m) = reps f l ++ r := by
  induction m using repsInd with
  | h0 => exact ⟨[], by simp⟩
  | h1 m x ih =>
    obtain ⟨r, hr⟩ := ih
    rw [← List.append_assoc, reps_snoc, repStep]
    split
    · exact ⟨r, hr⟩
    · exact ⟨r ++ [x], by rw [hr, List.append_assoc]⟩

theorem idxOf_stay {l m : List β} {x : β} (h : x ∈ l) : (l ++ m).idxOf x = l.idxOf x := by rw [List.idxOf_append, if_pos h]

/-- The place of x's kind, in a part that has it. -/
theorem idx_stay {f : α → β} {l m : List α} {x : α} (h : f x ∈ (reps f l).map f) : ((reps f (l ++ m)).map f).idxOf (f x) = ((reps f l).map f).idxOf (f x) := by
  obtain ⟨r, hr⟩ := reps_prefix f l m
  rw [hr, List.map_append, idxOf_stay h]

theorem idx_take {f : α → β} {l : List α} {i : Nat} {x : α} (h : f x ∈ (reps f (l.take i)).map f) : ((reps f l).map f).idxOf (f x) = ((reps f (l.take i)).map f).idxOf (f x) := by
  have := idx_stay (m := l.drop i) h
  rwa [List.take_append_drop] at this

theorem idxOf_inj {l : List β} {x y : β} (h : x ∈ l) (e : l.idxOf x = l.idxOf y) : x = y := by
  have h1 := List.idxOf_lt_length_iff.2 h
  have a := List.getElem_idxOf h1
  have b := List.getElem_idxOf (e ▸ h1 : l.idxOf y < l.length)
  simp only [e] at a
  exact a.symm.trans b

/-- Alike kinds: the same list. -/
theorem reps_same {f : α → β} {g : α → γ} {l : List α} (h : ∀ x ∈ l, ∀ y ∈ l, f x = f y ↔ g x = g y) : reps f l = reps g l := by
  induction l using repsInd with
  | h0 => rfl
  | h1 l x ih =>
    have ih := ih fun a ha b hb => h a (by simp [ha]) b (by simp [hb])
    rw [reps_snoc, reps_snoc, repStep, repStep, ih]
    have : f x ∈ (reps g l).map f ↔ g x ∈ (reps g l).map g := by
      simp only [List.mem_map]
      constructor
      · rintro ⟨y, hy, e⟩; exact ⟨y, hy, (h y (by simp [reps_mem hy]) x (by simp)).1 e⟩
      · rintro ⟨y, hy, e⟩; exact ⟨y, hy, (h y (by simp [reps_mem hy]) x (by simp)).2 e⟩
    by_cases hc : f x ∈ (reps g l).map f
    · rw [if_pos hc, if_pos (this.1 hc)]
    · rw [if_neg hc, if_neg (fun k => hc (this.2 k))]

theorem idx_same {f : α → β} {g : α → γ} {x : α} : ∀ {r : List α}, (∀ y ∈ r, f y = f x ↔ g y = g x) → (r.map f).idxOf (f x) = (r.map g).idxOf (g x)
  | [], _ => rfl
  | y :: r, h => by
    simp only [List.map_cons, List.idxOf_cons]
    have h1 := h y (by simp)
    have ih := idx_same (x := x) (r := r) fun z hz => h z (by simp [hz])
    by_cases e : f y = f x
    · rw [show (f y == f x) = true by simpa using e, show (g y == g x) = true by simpa using h1.1 e]
      rfl
    · rw [show (f y == f x) = false by simpa using e, show (g y == g x) = false by simpa using fun k => e (h1.2 k), ih]

/-- Finer kinds are more; as many: the same. -/
theorem reps_finer {f : α → β} {g : α → γ} {l : List α} (h : ∀ x ∈ l, ∀ y ∈ l, g x = g y → f x = f y) :
    (reps f l).length ≤ (reps g l).length ∧ ((reps g l).length = (reps f l).length → ∀ x ∈ l, ∀ y ∈ l, f x = f y → g x = g y) := by
  induction l using repsInd with
  | h0 => exact ⟨Nat.le_refl _, fun _ x hx => by simp at hx⟩
  | h1 l x ih =>
    obtain ⟨i1, i2⟩ := ih fun a ha b hb => h a (by simp [ha]) b (by simp [hb])
    rw [reps_snoc, reps_snoc, repStep, repStep]
    have hgf : g x ∈ (reps g l).map g → f x ∈ (reps f l).map f := by
      intro k
      rw [reps_kinds] at k ⊢
      obtain ⟨y, hy, e⟩ := List.mem_map.1 k
      exact List.mem_map.2 ⟨y, hy, h y (by simp [hy]) x (by simp) e⟩
    by_cases hf : f x ∈ (reps f l).map f
    · rw [if_pos hf]
      by_cases hg : g x ∈ (reps g l).map g
      · rw [if_pos hg]
        refine ⟨i1, fun e a ha b hb hab => ?_⟩
        have i2 := i2 e
        rw [reps_kinds] at hg
        obtain ⟨u, hu, hue⟩ := List.mem_map.1 hg
        have hux : f u = f x := h u (by simp [hu]) x (by simp) hue
        have key : ∀ a ∈ l, f a = f x → g a = g x := fun a ha e => (i2 a ha u hu (e.trans hux.symm)).trans hue
        simp only [List.mem_append, List.mem_singleton] at ha hb
        rcases ha with ha | ha <;> rcases hb with hb | hb
        · exact i2 a ha b hb hab
        · rw [hb] at hab ⊢; exact key a ha hab
        · rw [ha] at hab ⊢; exact (key b hb hab.symm).symm
        · rw [ha, hb]
      · rw [if_neg hg]
        simp only [List.length_append, List.length_singleton]
        exact ⟨by omega, fun e => by omega⟩
    · have hg : g x ∉ (reps g l).map g := fun k => hf (hgf k)
      rw [if_neg hf, if_neg hg]
      simp only [List.length_append, List.length_singleton]
      refine ⟨by omega, fun e a ha b hb hab => ?_⟩
      have i2 := i2 (by omega)
      have no : ∀ a ∈ l, f a ≠ f x := fun a ha e => hf (e ▸ reps_has ha)
      simp only [List.mem_append, List.mem_singleton] at ha hb
      rcases ha with ha | ha <;> rcases hb with hb | hb
      · exact i2 a ha b hb hab
      · rw [hb] at hab; exact (no a ha hab).elim
      · rw [ha] at hab; exact (no b hb hab.symm).elim
      · rw [ha, hb]

end reps

/-! ### numbered names -/

section names
variable {α : Type} [DecidableEq α]

/-- Names and their numbers. -/
def nm : Nat → List α → List (α × Int)
  | _, [] => []
  | i, x :: r => (x, (i : Int)) :: nm (i + 1) r

omit [DecidableEq α] in
theorem nm_len : ∀ (i : Nat) (l : List α), (nm i l).length = l.length
  | _, [] => rfl
  | i, _ :: r => by simp [nm, nm_len (i + 1) r]

theorem nm_has {e : α → α → Bool} (he : ∀ a b, e a b = decide (a = b)) (x : α) : ∀ (i : Nat) (l : List α), mhas e x (nm i l) = decide (x ∈ l)
  | _, [] => by simp [nm, mhas]
  | i, a :: r => by
    simp only [nm, mhas, he, nm_has he x (i + 1) r]
    by_cases h : x = a
    · simp [h]
    · simp [h]

theorem nm_get {e : α → α → Bool} (he : ∀ a b, e a b = decide (a = b)) (x : α) (z : Int) : ∀ (i : Nat) (l : List α), x ∈ l → mget e x z (nm i l) = ((i + l.idxOf x : Nat) : Int)
  | _, [], h => by simp at h
  | i, a :: r, h => by
    simp only [nm, mget, he, List.idxOf_cons]
    by_cases h1 : x = a
    · subst h1; simp
    · have h2 : x ∈ r := by simpa [h1] using h
      rw [decide_eq_false h1, cond_false, nm_get he x z (i + 1) r h2, show (a == x) = false by simpa using fun e => h1 e.symm]
      simp only [cond_false]
      congr 1
      omega

theorem nm_set {e : α → α → Bool} (he : ∀ a b, e a b = decide (a = b)) (x : α) : ∀ (i : Nat) (l : List α), x ∉ l → mset e x ((i + l.length : Nat) : Int) (nm i l) = nm i (l ++ [x])
  | i, [], _ => by simp [nm, mset]
  | i, a :: r, h => by
    simp only [List.mem_cons, not_or] at h
    simp only [nm, mset, he, decide_eq_false h.1, cond_false, List.cons_append, List.length_cons]
    have := nm_set he x (i + 1) r h.2
    rw [show i + 1 + r.length = i + (r.length + 1) by omega] at this
    rw [this]

end names

theorem eqI_dec (a b : Int) : eqI a b = decide (a = b) := by rw [Bool.eq_iff_iff]; simp [eqI]
theorem eqL_dec (a b : List Int) : eqL a b = decide (a = b) := by rw [Bool.eq_iff_iff]; simp [eqL]
theorem eqS_dec (a b : List UInt8) : eqS a b = decide (a = b) := by rw [Bool.eq_iff_iff]; simp [eqS]
/-! ### walks in breadth -/

section bfs
variable {α β : Type} [DecidableEq α] [DecidableEq β]

def addNew (l : List α) (x : α) : List α := if x ∈ l then l else l ++ [x]

/-- Once each, in order. -/
def dd (l : List α) : List α := l.foldl addNew []

/-- From place i on: what each leads to is put behind. -/
def bfs (succ : α → List α) : Nat → Nat → List α → List α
  | 0, _, l => l
  | d + 1, i, l => match l[i]? with
    | some x => bfs succ d (i + 1) ((succ x).foldl addNew l)
    | none => l

theorem addNew_mem {l : List α} {x y : α} : y ∈ addNew l x ↔ y ∈ l ∨ y = x := by
  unfold addNew
  split
  · rename_i h
    exact ⟨.inl, fun k => k.elim id (fun e => e ▸ h)⟩
  · simp

theorem foldNew_mem {y : α} : ∀ {m l : List α}, y ∈ m.foldl addNew l ↔ y ∈ l ∨ y ∈ m
  | [], l => by simp
  | x :: m, l => by
    rw [List.foldl_cons, foldNew_mem, addNew_mem, List.mem_cons, or_assoc]

theorem addNew_nodup {l : List α} {x : α} (h : l.Nodup) : (addNew l x).Nodup := by
  unfold addNew
  split
  · exact h
  · rename_i hx
    rw [List.nodup_append]
    exact ⟨h, by simp, fun a ha b hb => by simp at hb; subst hb; exact fun e => hx (e ▸ ha)⟩

theorem foldNew_nodup : ∀ {m l : List α}, l.Nodup → (m.foldl addNew l).Nodup
  | [], _, h => h
  | _ :: m, _, h => foldNew_nodup (m := m) (addNew_nodup h)

theorem addNew_pre (l : List α) (x : α) : ∃ r, addNew l x = l ++ r := by
  unfold addNew
  split
  · exact ⟨[], by simp⟩
  · exact ⟨[x], rfl⟩

theorem foldNew_pre : ∀ (m l : List α), ∃ r, m.foldl addNew l = l ++ r
  | [], l => ⟨[], by simp⟩
  | x :: m, l => by
    obtain ⟨r, hr⟩ := addNew_pre l x
    obtain ⟨s, hs⟩ := foldNew_pre m (addNew l x)
    exact ⟨r ++ s, by rw [List.foldl_cons, hs, hr, List.append_assoc]⟩

theorem foldNew_id : ∀ {m l : List α}, (∀ x ∈ m, x ∈ l) → m.foldl addNew l = l
  | [], _, _ => rfl
  | x :: m, l, h => by
    rw [List.foldl_cons, show addNew l x = l from if_pos (h x (by simp))]
    exact foldNew_id fun y hy => h y (by simp [hy])

omit [DecidableEq α] in
theorem dd_reps (f : α → β) (l : List α) : dd (l.map f) = (reps f l).map f := by
  induction l using repsInd with
  | h0 => rfl
  | h1 l x ih =>
    rw [List.map_append, reps_snoc]
    simp only [dd, List.map_cons, List.map_nil, List.foldl_append, List.foldl_cons, List.foldl_nil]
    rw [show List.foldl addNew [] (List.map f l) = dd (l.map f) from rfl, ih, addNew, repStep]
    split <;> simp

theorem dd_snoc (l : List α) (x : α) : dd (l ++ [x]) = addNew (dd l) x := by simp [dd, List.foldl_append]

theorem dd_mem {l : List α} {x : α} : x ∈ dd l ↔ x ∈ l := by simp [dd, foldNew_mem]

/-- Images of what is put behind. -/
theorem dd_fold (B : α → β) : ∀ (m l : List α), dd ((m.foldl addNew l).map B) = (m.map B).foldl addNew (dd (l.map B))
  | [], _ => rfl
  | x :: m, l => by
    rw [List.foldl_cons, dd_fold B m, List.map_cons, List.foldl_cons]
    congr 1
    unfold addNew
    split
    · rename_i h
      rw [if_pos]
      rw [dd_mem]
      exact List.mem_map.2 ⟨x, h, rfl⟩
    · rw [List.map_append, List.map_cons, List.map_nil, dd_snoc]
      rfl

/-- **The walk's image is the walk of the images.** -/
theorem bfs_image {succ : α → List α} {succ' : β → List β} {B : α → β} {S : α → Prop} (hS : ∀ x, S x → ∀ y ∈ succ x, S y) (hB : ∀ x, S x → succ' (B x) = (succ x).map B) :
    ∀ (d d' i j : Nat) (l : List α) (q : List β), (∀ x ∈ l, S x) → q = dd (l.map B) → j = (dd ((l.take i).map B)).length → (∃ r, q = dd ((l.take i).map B) ++ r) → (∀ x ∈ l.take i, ∀ y ∈ succ' (B x), y ∈ q) →
      (bfs succ d i l).length ≤ i + d → i ≤ l.length → (dd ((bfs succ d i l).map B)).length ≤ j + d' → bfs succ' d' j q = dd ((bfs succ d i l).map B)
  | 0, d', i, j, l, q, hl, hq, hj, hp, hc, hd, hi, hd' => by
    simp only [bfs] at hd hd' ⊢
    have e : l.take i = l := List.take_of_length_le (by omega)
    rw [e] at hj
    cases d' with
    | zero => simp only [bfs]; exact hq
    | succ d' =>
      have : q[j]? = none := by rw [hq, hj]; simp
      simp only [bfs, this]
      exact hq
  | d + 1, d', i, j, l, q, hl, hq, hj, hp, hc, hd, hi, hd' => by
    simp only [bfs] at hd hd' ⊢
    cases hx : l[i]? with
    | none =>
      rw [hx] at hd hd'
      simp only at hd hd' ⊢
      have hlen : l.length ≤ i := by simpa using hx
      have e : l.take i = l := List.take_of_length_le hlen
      rw [e] at hj
      cases d' with
      | zero => simp only [bfs]; exact hq
      | succ d' =>
        have : q[j]? = none := by rw [hq, hj]; simp
        simp only [bfs, this]
        exact hq
    | some x =>
      rw [hx] at hd hd'
      simp only at hd hd' ⊢
      have hlt : i < l.length := (List.getElem?_eq_some_iff.1 hx).1
      have hxl : x ∈ l := List.mem_of_getElem? hx
      have hSx := hl x hxl
      obtain ⟨r, hr⟩ := foldNew_pre (succ x) l
      have ht : (l ++ r).take (i + 1) = l.take i ++ [x] := by
        rw [List.take_append_of_le_length (by omega), List.take_add_one, hx]
        rfl
      have htd : dd (((l ++ r).take (i + 1)).map B) = addNew (dd ((l.take i).map B)) (B x) := by
        rw [ht, List.map_append, List.map_cons, List.map_nil, dd_snoc]
      have hl' : ∀ y ∈ (succ x).foldl addNew l, S y := by
        intro y hy
        rcases foldNew_mem.1 hy with h | h
        · exact hl y h
        · exact hS x hSx y h
      have hq' : (succ' (B x)).foldl addNew q = dd (((succ x).foldl addNew l).map B) := by rw [dd_fold, hB x hSx, hq]
      obtain ⟨r0, hr0⟩ := hp
      by_cases hk : B x ∈ dd ((l.take i).map B)
      · -- seen before
        have hk' : ∃ z ∈ l.take i, B z = B x := by
          rw [dd_mem] at hk
          obtain ⟨z, h1, h2⟩ := List.mem_map.1 hk
          exact ⟨z, h1, h2⟩
        obtain ⟨z, hz, hzx⟩ := hk'
        have hsame : (succ' (B x)).foldl addNew q = q := foldNew_id fun y hy => hc z hz y (hzx ▸ hy)
        rw [hsame] at hq'
        refine bfs_image hS hB d d' (i + 1) j _ q hl' hq' ?_ ?_ ?_ (by omega) ?_ hd'
        · rw [hr, htd, addNew, if_pos hk]; exact hj
        · rw [hr, htd, addNew, if_pos hk]; exact ⟨r0, hr0⟩
        · rw [hr, ht]
          intro y hy
          rcases List.mem_append.1 hy with hy | hy
          · exact hc y hy
          · have : y = x := by simpa using hy
            subst this
            intro u hu
            exact hc z hz u (hzx ▸ hu)
        · rw [hr]; simp; omega
      · have hin : B x ∈ q := by rw [hq, dd_mem]; exact List.mem_map.2 ⟨x, hxl, rfl⟩
        -- it is the next one
        have hqj : q[j]? = some (B x) := by
          obtain ⟨r1, hr1⟩ : ∃ r1, q = addNew (dd ((l.take i).map B)) (B x) ++ r1 := by
            have e1 : l = (l.take i ++ [x]) ++ l.drop (i + 1) := by
              have := List.take_append_drop (i + 1) l
              rw [List.take_add_one, hx] at this
              exact this.symm
            have e2 : q = dd (((l.take i ++ [x]) ++ l.drop (i + 1)).map B) := by rw [← e1]; exact hq
            rw [List.map_append, dd, List.foldl_append] at e2
            obtain ⟨r1, h1⟩ := foldNew_pre ((l.drop (i + 1)).map B) (List.foldl addNew [] ((l.take i ++ [x]).map B))
            refine ⟨r1, e2.trans (h1.trans ?_)⟩
            rw [List.map_append, List.map_cons, List.map_nil]
            rw [show List.foldl addNew [] (List.map B (List.take i l) ++ [B x]) = dd (List.map B (List.take i l) ++ [B x]) from rfl, dd_snoc]
          rw [hr1, addNew, if_neg hk, hj]
          simp
        cases d' with
        | zero =>
          exfalso
          have h1 : (dd ((l.take i).map B)).length < q.length := by
            rw [← hj]; exact (List.getElem?_eq_some_iff.1 hqj).1
          have h2 : q.length ≤ (dd (List.map B (bfs succ d (i + 1) ((succ x).foldl addNew l)))).length := by
            obtain ⟨s, hs⟩ := bfs_pre succ d (i + 1) ((succ x).foldl addNew l)
            rw [hs, hr, hq, List.append_assoc, List.map_append, dd, dd, List.foldl_append]
            obtain ⟨s2, hs2⟩ := foldNew_pre ((r ++ s).map B) (List.foldl addNew [] (l.map B))
            rw [hs2]; simp
          omega
        | succ d' =>
          simp only [bfs, hqj]
          refine bfs_image hS hB d d' (i + 1) (j + 1) _ _ hl' hq' ?_ ?_ ?_ (by omega) ?_ (by omega)
          · rw [hr, htd, addNew, if_neg hk]; simp [hj]
          · rw [hr, htd]
            have e2 : (succ' (B x)).foldl addNew q = dd ((l ++ r).map B) := by rw [hq', hr]
            rw [e2]
            have e1 : l ++ r = (l.take i ++ [x]) ++ (l ++ r).drop (i + 1) := by
              rw [← ht]; exact (List.take_append_drop (i + 1) (l ++ r)).symm
            rw [e1, List.map_append, dd, List.foldl_append]
            obtain ⟨r1, h1⟩ := foldNew_pre (((l ++ r).drop (i + 1)).map B) (List.foldl addNew [] ((l.take i ++ [x]).map B))
            refine ⟨r1, h1.trans ?_⟩
            rw [List.map_append, List.map_cons, List.map_nil]
            rw [show List.foldl addNew [] (List.map B (List.take i l) ++ [B x]) = dd (List.map B (List.take i l) ++ [B x]) from rfl, dd_snoc]
          · rw [hr, ht]
            intro y hy u hu
            rw [foldNew_mem]
            rcases List.mem_append.1 hy with hy | hy
            · exact .inl (hc y hy u hu)
            · have : y = x := by simpa using hy
              subst this
              exact .inr hu
          · rw [hr]; simp; omega
  where bfs_pre (succ : α → List α) : ∀ (d i : Nat) (l : List α), ∃ r, bfs succ d i l = l ++ r
    | 0, _, l => ⟨[], by simp [bfs]⟩
    | d + 1, i, l => by
      simp only [bfs]
      cases l[i]? with
      | none => exact ⟨[], by simp⟩
      | some x =>
        obtain ⟨r, hr⟩ := bfs_pre succ d (i + 1) ((succ x).foldl addNew l)
        obtain ⟨s, hs⟩ := foldNew_pre (succ x) l
        exact ⟨s ++ r, by simp only; rw [hr, hs, List.append_assoc]⟩

/-- What is reached. -/
inductive Rch (succ : α → List α) (x0 : α) : α → Prop
  | base : Rch succ x0 x0
  | step {x y : α} : Rch succ x0 x → y ∈ succ x → Rch succ x0 y

theorem bfs_sound {succ : α → List α} {x0 : α} : ∀ (d i : Nat) (l : List α), (∀ x ∈ l, Rch succ x0 x) → ∀ x ∈ bfs succ d i l, Rch succ x0 x
  | 0, _, _, h => h
  | d + 1, i, l, h => by
    simp only [bfs]
    cases hx : l[i]? with
    | none => exact h
    | some x =>
      refine bfs_sound d (i + 1) _ fun y hy => ?_
      rcases foldNew_mem.1 hy with hy | hy
      · exact h y hy
      · exact .step (h x (List.mem_of_getElem? hx)) hy

theorem bfs_nodup {succ : α → List α} : ∀ (d i : Nat) (l : List α), l.Nodup → (bfs succ d i l).Nodup
  | 0, _, _, h => h
  | d + 1, i, l, h => by
    simp only [bfs]
    cases l[i]? with
    | none => exact h
    | some x => exact bfs_nodup d (i + 1) _ (foldNew_nodup h)

/-- It is closed when it ends by itself. -/
theorem bfs_closed {succ : α → List α} : ∀ (d i : Nat) (l : List α), (∀ x ∈ l.take i, ∀ y ∈ succ x, y ∈ l) → (bfs succ d i l).length < i + d → ∀ x ∈ bfs succ d i l, ∀ y ∈ succ x, y ∈ bfs succ d i l
  | 0, i, l, h, hd => by
    simp only [bfs] at hd ⊢
    rwa [List.take_of_length_le (by omega)] at h
  | d + 1, i, l, h, hd => by
    simp only [bfs] at hd ⊢
    cases hx : l[i]? with
    | none =>
      have : l.length ≤ i := by simpa using hx
      simp only
      rwa [List.take_of_length_le this] at h
    | some x =>
      rw [hx] at hd
      simp only at hd ⊢
      obtain ⟨r, hr⟩ := foldNew_pre (succ x) l
      have hlt : i < l.length := (List.getElem?_eq_some_iff.1 hx).1
      refine bfs_closed d (i + 1) _ ?_ (by omega)
      intro z hz y hy
      rw [foldNew_mem]
      rw [hr, List.take_append_of_le_length (by omega), List.take_add_one, hx] at hz
      rcases List.mem_append.1 hz with hz | hz
      · exact .inl (h z hz y hy)
      · have : z = x := by simpa using hz
        subst this
        exact .inr hy

theorem bfs_sub (succ : α → List α) (d i : Nat) (l : List α) : ∀ x ∈ l, x ∈ bfs succ d i l := by
  obtain ⟨r, hr⟩ := bfs_image.bfs_pre succ d i l
  intro x hx
  rw [hr]
  exact List.mem_append.2 (.inl hx)

theorem bfs_all {succ : α → List α} {x0 : α} {d : Nat} (hd : (bfs succ d 0 [x0]).length < d) (x : α) : x ∈ bfs succ d 0 [x0] ↔ Rch succ x0 x := by
  constructor
  · exact bfs_sound d 0 [x0] (fun y hy => by have : y = x0 := by simpa using hy
                                             subst this; exact .base) x
  · intro h
    have hc := bfs_closed (succ := succ) d 0 [x0] (by simp) (by omega)
    induction h with
    | base => exact bfs_sub succ d 0 [x0] x0 (by simp)
    | step _ hy ih => exact hc _ ih _ hy

end bfs

theorem nodup_le {l : List Nat} (h : l.Nodup) {T : Nat} (hT : ∀ x ∈ l, x < T) : l.length ≤ T := by
  have := h.length_le_of_subset (l₂ := List.range T) fun x hx => List.mem_range.2 (hT x hx)
  simpa using this
/-! ### automata by number -/

structure Mdl where
  c : List Int
  n : List Int
  t : List Int
  e : List Int
  w : Nat
  T : Nat

structure MOk (A : Mdl) : Prop where
  lc : A.c.length = 256
  w1 : 1 ≤ A.w
  w2 : A.w ≤ 256
  T1 : 1 ≤ A.T
  T2 : A.T ≤ 4000
  lt : A.t.length = A.T
  le : A.e.length = A.T
  ln : A.n.length = A.T * A.w
  hc : ∀ x ∈ A.c, 0 ≤ x ∧ x < A.w
  hn : ∀ x ∈ A.n, 0 ≤ x ∧ x < A.T
  ht : ∀ x ∈ A.t, -1 ≤ x ∧ x ≤ 99
  he : ∀ x ∈ A.e, -1 ≤ x ∧ x ≤ 99

theorem mok_of {c : List Int} {w : Int} {n t e : List Int} (h : okDfa c w n t e = true) : MOk ⟨c, n, t, e, w.toNat, t.length⟩ ∧ w = (w.toNat : Int) := by
  simp only [okDfa, Bool.and_eq_true, decide_eq_true_eq] at h
  obtain ⟨⟨h1, h2, h3, h4, h5, h6, h7⟩, h8, h9, h10, h11⟩ := h
  have hw : w = (w.toNat : Int) := by omega
  have hin : ∀ {l : List Int} {a b : Int}, allIn l a b = true → ∀ x ∈ l, a ≤ x ∧ x ≤ b := by
    intro l a b h x hx
    simp only [allIn, List.all_eq_true, Bool.and_eq_true, decide_eq_true_eq] at h
    exact h x hx
  refine ⟨⟨h1, by show 1 ≤ w.toNat; omega, by show w.toNat ≤ 256; omega, h4, h5, rfl, h6, ?_, ?_, ?_, hin h10, hin h11⟩, hw⟩
  · show n.length = t.length * w.toNat
    rw [hw] at h7
    exact_mod_cast h7
  · intro x hx
    have := hin h8 x hx
    show 0 ≤ x ∧ x < (w.toNat : Int)
    omega
  · intro x hx
    have := hin h9 x hx
    show 0 ≤ x ∧ x < (t.length : Int)
    omega

/-- The class of a byte. -/
def Mdl.ch (A : Mdl) (j : Nat) : Nat := (A.c.getD j 0).toNat
/-- By class. -/
def Mdl.nc (A : Mdl) (s k : Nat) : Nat := (A.n.getD (s * A.w + k) 0).toNat
/-- By byte. -/
def Mdl.nx (A : Mdl) (s j : Nat) : Nat := A.nc s (A.ch j)

theorem getD_nn {l : List Int} {P : Int → Prop} (h : ∀ x ∈ l, P x) {i : Nat} (hi : i < l.length) : P (List.getD l i 0) := by
  rw [getD_get l hi]
  exact h _ (List.getElem_mem _)

theorem MOk.ch_lt {A : Mdl} (h : MOk A) {j : Nat} (hj : j < 256) : A.ch j < A.w := by
  have := getD_nn h.hc (i := j) (by rw [h.lc]; exact hj)
  unfold Mdl.ch
  omega

theorem MOk.ch_eq {A : Mdl} (h : MOk A) {j : Nat} (hj : j < 256) : List.getD A.c j 0 = (A.ch j : Int) := by
  have := getD_nn h.hc (i := j) (by rw [h.lc]; exact hj)
  unfold Mdl.ch
  omega

theorem idx_lt {s k w T : Nat} (hs : s < T) (hk : k < w) : s * w + k < T * w := by
  have h1 : (s + 1) * w ≤ T * w := Nat.mul_le_mul_right _ hs
  rw [Nat.succ_mul] at h1
  omega

theorem MOk.nc_lt {A : Mdl} (h : MOk A) {s k : Nat} (hs : s < A.T) (hk : k < A.w) : A.nc s k < A.T := by
  have := getD_nn h.hn (i := s * A.w + k) (by rw [h.ln]; exact idx_lt hs hk)
  unfold Mdl.nc
  omega

theorem MOk.nc_eq {A : Mdl} (h : MOk A) {s k : Nat} (hs : s < A.T) (hk : k < A.w) : List.getD A.n (s * A.w + k) 0 = (A.nc s k : Int) := by
  have := getD_nn h.hn (i := s * A.w + k) (by rw [h.ln]; exact idx_lt hs hk)
  unfold Mdl.nc
  omega

theorem MOk.nx_lt {A : Mdl} (h : MOk A) {s j : Nat} (hs : s < A.T) (hj : j < 256) : A.nx s j < A.T := h.nc_lt hs (h.ch_lt hj)

theorem MOk.idx {A : Mdl} (h : MOk A) {s k : Nat} (hs : s < A.T) (hk : k < A.w) :
    wrapK .i64 ((wrapK .i64 ((s : Int) * (A.w : Int))) + (k : Int)) = ((s * A.w + k : Nat) : Int) ∧ s * A.w + k < A.n.length := by
  have h1 := idx_lt hs hk
  have h2 : A.T * A.w ≤ 4000 * 256 := Nat.mul_le_mul h.T2 h.w2
  have h3 : ((s : Int) * (A.w : Int)) = ((s * A.w : Nat) : Int) := by push_cast; rfl
  rw [h3, h.ln]
  generalize s * A.w = q at *
  generalize A.T * A.w = p at *
  rw [wrap_id (n := (q : Int)) (by omega) (by omega), wrap_id (by omega) (by omega)]
  exact ⟨by omega, h1⟩

/-- Numbers as they stand in rows. -/
def ints (l : List Nat) : List Int := List.map (fun x : Nat => (x : Int)) l

theorem ints_len (l : List Nat) : (ints l).length = l.length := by simp [ints]
theorem ints_get (l : List Nat) (i : Nat) : List.getD (ints l) i (0 : Int) = ((l.getD i 0 : Nat) : Int) := by
  simp only [ints, List.getD_eq_getElem?_getD, List.getElem?_map]
  cases l[i]? <;> rfl
theorem ints_snoc (l : List Nat) (x : Nat) : ints l ++ [(x : Int)] = ints (l ++ [x]) := by simp [ints]

theorem implStep {R : Type} {A : Mdl} (h : MOk A) {s j : Nat} (hs : s < A.T) (hj : j < 256) (k : Int → Option R) : F.impl_Dfa_step A.c (A.w : Int) A.n A.t A.e (s : Int) (j : Int) k = k (A.nx s j : Int) := by
  simp only [F.impl_Dfa_step]
  obtain ⟨e1, e2⟩ := h.idx hs (h.ch_lt hj)
  rw [inB_true (by omega) (by rw [h.lc]; omega), cond_true, Int.toNat_natCast, h.ch_eq hj, e1, inB_true (by omega) (by omega), cond_true, Int.toNat_natCast, h.nc_eq hs (h.ch_lt hj)]
  rfl

theorem specGo {R : Type} {A : Mdl} (h : MOk A) {s j : Nat} (hs : s < A.T) (hj : j < 256) (k : Int → Option R) : F.spec_l2Go A.c (A.w : Int) A.n A.t A.e (s : Int) (j : Int) k = k (A.nx s j : Int) := by
  simp only [F.spec_l2Go]
  obtain ⟨e1, e2⟩ := h.idx hs (h.ch_lt hj)
  rw [inB_true (by omega) (by rw [h.lc]; omega), cond_true, Int.toNat_natCast, h.ch_eq hj, e1, inB_true (by omega) (by omega), cond_true, Int.toNat_natCast, h.nc_eq hs (h.ch_lt hj)]
  rfl

/-- The states that a state leads to, by the bytes in order. -/
def Mdl.sB (A : Mdl) (s : Nat) : List Nat := (List.range 256).map (A.nx s)

/-- Which of the first T are in a list. -/
def memB (T : Nat) (l : List Nat) : List Bool := (List.range T).map fun x => decide (x ∈ l)

theorem memB_get {T x : Nat} {l : List Nat} (hx : x < T) : List.getD (memB T l) x false = decide (x ∈ l) := by
  simp [memB, List.getD_eq_getElem?_getD, hx]

theorem memB_set {T x : Nat} {l : List Nat} : List.set (memB T l) x true = memB T (l ++ [x]) := by
  apply List.ext_getElem?
  intro i
  simp only [memB, List.getElem?_set, List.length_map, List.length_range, List.getElem?_map]
  by_cases hi : i < T
  · rw [List.getElem?_range hi]
    by_cases e : x = i
    · subst e; simp [hi]
    · simp [e, Ne.symm e]
  · simp only [List.getElem?_eq_none (show (List.range T).length ≤ i by simp; omega), Option.map_none]
    by_cases e : x = i
    · simp [e, hi]
    · simp [e]

theorem len_ble {n m b : Nat} (h : n ≤ 1048576) (hm : m ≤ 1048576) (hb : b ≤ 4095) : Nat.ble (n + m) (bigOf b) = true := by
  rw [Nat.ble_eq]
  have : 2097152 ≤ bigOf b := by
    unfold bigOf
    rw [Nat.le_div_iff_mul_le (by omega)]
    omega
  omega

/-- The walk's inner round. -/
theorem reached_l2 {R : Type} {A : Mdl} (h : MOk A) (C N : Nat) {i s : Nat} (hs : s < A.T) (k : List Int → Int → List Int → List Int → List Int → Int → List Bool → List Int → Option R) :
    ∀ (d j : Nat) (l : List Nat), j + d = 256 → (∀ x ∈ l, x < A.T) → l.Nodup → i < l.length → l.getD i 0 = s →
    F.impl_Dfa_reached_l2 C N d j A.c (A.w : Int) A.n A.t A.e (i : Int) (memB A.T l) (ints l) k =
      k A.c (A.w : Int) A.n A.t A.e (i : Int) (memB A.T (((List.range' j d).map (A.nx s)).foldl addNew l)) (ints (((List.range' j d).map (A.nx s)).foldl addNew l))
  | 0, j, l, hj, hl, hnd, hi, hsi => by simp only [F.impl_Dfa_reached_l2]; rfl
  | d + 1, j, l, hj, hl, hnd, hi, hsi => by
    simp only [F.impl_Dfa_reached_l2, F.impl_Dfa_reached_l2_s]
    have hx := h.nx_lt hs (show j < 256 by omega)
    have hlen := nodup_le hnd hl
    have hT := h.T2
    rw [inB_true (by omega) (by rw [ints_len]; omega), cond_true, Int.toNat_natCast, ints_get, hsi, implStep h hs (by omega)]
    have hm : (memB A.T l).length = A.T := by simp [memB]
    rw [inB_true (by omega) (by rw [hm]; omega), cond_true, cond_true, Int.toNat_natCast, memB_get hx]
    rw [show List.range' j (d + 1) = j :: List.range' (j + 1) d from List.range'_succ .., List.map_cons, List.foldl_cons]
    by_cases hin : A.nx s j ∈ l
    · rw [decide_eq_true hin, Bool.not_true, cond_false, reached_l2 h C N hs k d (j + 1) l (by omega) hl hnd hi hsi, show addNew l (A.nx s j) = l from if_pos hin]
    · rw [decide_eq_false hin, Bool.not_false, cond_true, len_ble (by rw [ints_len]; omega) (by simp) (by omega), cond_true, memB_set, ints_snoc]
      have hadd : addNew l (A.nx s j) = l ++ [A.nx s j] := if_neg hin
      rw [reached_l2 h C N hs k d (j + 1) (l ++ [A.nx s j]) (by omega) ?_ (hadd ▸ addNew_nodup hnd) (by simp; omega) ?_, hadd]
      · intro y hy
        rcases List.mem_append.1 hy with hy | hy
        · exact hl y hy
        · have : y = A.nx s j := by simpa using hy
          omega
      · rw [← hsi]; simp [List.getD_eq_getElem?_getD, List.getElem?_append_left hi]

theorem foldNew_lt {T : Nat} {m l : List Nat} (hm : ∀ x ∈ m, x < T) (hl : ∀ x ∈ l, x < T) : ∀ x ∈ m.foldl addNew l, x < T := by
  intro x hx
  rcases foldNew_mem.1 hx with h | h
  · exact hl x h
  · exact hm x h

theorem sB_lt {A : Mdl} (h : MOk A) {s : Nat} (hs : s < A.T) : ∀ x ∈ A.sB s, x < A.T := by
  intro x hx
  simp only [Mdl.sB, List.mem_map, List.mem_range] at hx
  obtain ⟨j, hj, rfl⟩ := hx
  exact h.nx_lt hs hj

theorem reached_l0 {R : Type} {A : Mdl} (h : MOk A) (N : Nat) (k : List Int → Option R) : ∀ (d m i : Nat) (l : List Nat), i + d = A.T + 1 → d < m → (∀ x ∈ l, x < A.T) → l.Nodup → i ≤ l.length →
    F.impl_Dfa_reached_l0 256 N m A.c (A.w : Int) A.n A.t A.e (i : Int) (memB A.T l) (ints l) k = k (ints (bfs A.sB d i l))
  | 0, m, i, l, hi, hm, hl, hnd, hil => by
    have := nodup_le hnd hl
    omega
  | d + 1, m, i, l, hi, hm, hl, hnd, hil => by
    obtain ⟨m, rfl⟩ : ∃ z, m = z + 1 := ⟨m - 1, by omega⟩
    simp only [F.impl_Dfa_reached_l0, F.impl_Dfa_reached_l0_s, Bool.cond_decide, F.impl_everyByte, ints_len, bfs]
    have hT := h.T2
    by_cases hlt : i < l.length
    · rw [if_pos (by omega)]
      have hx : l[i]? = some l[i] := List.getElem?_eq_getElem hlt
      have hs : l[i] < A.T := hl _ (List.getElem_mem _)
      have hg : l.getD i 0 = l[i] := by simp [List.getD_eq_getElem?_getD, hx]
      rw [reached_l2 h 256 N hs _ 256 0 l (by omega) hl hnd hlt hg, hx]
      simp only
      rw [wrap_id (by omega) (by omega), show ((i : Int) + 1) = ((i + 1 : Nat) : Int) by omega]
      rw [show (List.map (A.nx l[i]) (List.range' 0 256)) = A.sB l[i] by rw [← List.range_eq_range']; rfl]
      obtain ⟨r, hr⟩ := foldNew_pre (A.sB l[i]) l
      refine reached_l0 h N k d m (i + 1) _ (by omega) (by omega) (foldNew_lt (sB_lt h hs) hl) (foldNew_nodup hnd) ?_
      rw [hr]; simp; omega
    · rw [if_neg (by omega), List.getElem?_eq_none (by omega)]

/-- The states that are reached, in the order of the bytes. -/
def Mdl.Lb (A : Mdl) : List Nat := bfs A.sB (A.T + 1) 0 [0]

theorem implReached {R : Type} {A : Mdl} (h : MOk A) (N : Nat) (hN : 1048576 < N) (k : List Int → Option R) : F.impl_Dfa_reached N A.c (A.w : Int) A.n A.t A.e k = k (ints A.Lb) := by
  have hT1 := h.T1
  have hT2 := h.T2
  simp only [F.impl_Dfa_reached, F.impl_Dfa_reached_c, Bool.cond_decide, h.lt]
  rw [if_pos (by omega), show Nat.ble (Int.toNat (A.T : Int)) (bigOf 1) = true by rw [Nat.ble_eq]; simp [bigOf]; omega, cond_true]
  simp only [Int.toNat_natCast, List.length_replicate]
  rw [inB_true (by omega) (by omega), cond_true]
  have e : List.set (List.replicate A.T false) (Int.toNat 0) true = memB A.T [0] := by
    have : List.replicate A.T false = memB A.T [] := by
      apply List.ext_getElem?
      intro i
      simp only [memB, List.getElem?_replicate, List.getElem?_map, List.not_mem_nil, decide_false]
      by_cases hi : i < A.T
      · rw [List.getElem?_range hi]; simp [hi]
      · rw [List.getElem?_eq_none (show (List.range A.T).length ≤ i by simp; omega)]; simp [hi]
    rw [this]
    exact memB_set
  rw [e]
  have := reached_l0 h N k (A.T + 1) N 0 [0] (by omega) (by omega) (by simp; omega) (by simp) (by simp)
  exact this
/-! ### the program's blocks -/

def Mdl.run (A : Mdl) : Nat → List Nat → Nat
  | s, [] => s
  | s, j :: w => A.run (A.nx s j) w

/-- No text tells them apart. -/
def Mdl.Eqv (A : Mdl) (s u : Nat) : Prop := ∀ w : List Nat, (∀ j ∈ w, j < 256) → A.t.getD (A.run s w) 0 = A.t.getD (A.run u w) 0 ∧ A.e.getD (A.run s w) 0 = A.e.getD (A.run u w) 0

theorem Mdl.Eqv.refl (A : Mdl) (s : Nat) : A.Eqv s s := fun _ _ => ⟨rfl, rfl⟩
theorem Mdl.Eqv.symm {A : Mdl} {s u : Nat} (h : A.Eqv s u) : A.Eqv u s := fun w hw => ⟨(h w hw).1.symm, (h w hw).2.symm⟩
theorem Mdl.Eqv.trans {A : Mdl} {s u v : Nat} (h : A.Eqv s u) (k : A.Eqv u v) : A.Eqv s v := fun w hw => ⟨(h w hw).1.trans (k w hw).1, (h w hw).2.trans (k w hw).2⟩
theorem Mdl.Eqv.step {A : Mdl} {s u j : Nat} (h : A.Eqv s u) (hj : j < 256) : A.Eqv (A.nx s j) (A.nx u j) := fun w hw => h (j :: w) (by
  intro i hi
  rcases List.mem_cons.1 hi with rfl | hi
  · exact hj
  · exact hw i hi)
theorem Mdl.Eqv.tags {A : Mdl} {s u : Nat} (h : A.Eqv s u) : A.t.getD s 0 = A.t.getD u 0 ∧ A.e.getD s 0 = A.e.getD u 0 := h [] (by simp)

theorem eqv_of {A : Mdl} {S : List Nat} (hS : ∀ x ∈ S, ∀ j, j < 256 → A.nx x j ∈ S) {P : Nat → Nat} (h0 : ∀ x ∈ S, ∀ y ∈ S, P x = P y → A.t.getD x 0 = A.t.getD y 0 ∧ A.e.getD x 0 = A.e.getD y 0)
    (h1 : ∀ j, j < 256 → ∀ x ∈ S, ∀ y ∈ S, P x = P y → P (A.nx x j) = P (A.nx y j)) : ∀ x ∈ S, ∀ y ∈ S, P x = P y → A.Eqv x y := by
  intro x hx y hy hp w
  induction w generalizing x y with
  | nil => intro _; exact h0 x hx y hy hp
  | cons j w ih =>
    intro hw
    have hj := hw j (by simp)
    exact ih _ (hS x hx j hj) _ (hS y hy j hj) (h1 j hj x hx y hy hp) fun i hi => hw i (by simp [hi])

/-- Which kind, by number. -/
def partOf {β : Type} [DecidableEq β] (key : Nat → β) (S : List Nat) (s : Nat) : Nat := ((reps key S).map key).idxOf (key s)

theorem partOf_iff {β : Type} [DecidableEq β] {key : Nat → β} {S : List Nat} {x y : Nat} (hx : x ∈ S) : partOf key S x = partOf key S y ↔ key x = key y := by
  constructor
  · exact fun h => idxOf_inj (reps_has hx) h
  · intro h; unfold partOf; rw [h]

/-- A row of numbers by state; nothing where it has not been yet. -/
def ofL (T : Nat) (P : Nat → Nat) (l : List Nat) : List Int := (List.range T).map fun s => if s ∈ l then ((P s : Nat) : Int) else 0

theorem ofL_len (T : Nat) (P : Nat → Nat) (l : List Nat) : (ofL T P l).length = T := by simp [ofL]

theorem ofL_get {T : Nat} {P : Nat → Nat} {l : List Nat} {s : Nat} (hs : s < T) (h : s ∈ l) : List.getD (ofL T P l) s 0 = ((P s : Nat) : Int) := by
  simp [ofL, List.getD_eq_getElem?_getD, hs, h]

theorem ofL_set {T : Nat} {P : Nat → Nat} {l : List Nat} {s : Nat} : List.set (ofL T P l) s ((P s : Nat) : Int) = ofL T P (l ++ [s]) := by
  apply List.ext_getElem?
  intro i
  simp only [ofL, List.getElem?_set, List.length_map, List.length_range, List.getElem?_map]
  by_cases hi : i < T
  · rw [List.getElem?_range hi]
    by_cases e : s = i
    · subst e; simp [hi]
    · simp [e, Ne.symm e]
  · simp only [List.getElem?_eq_none (show (List.range T).length ≤ i by simp; omega), Option.map_none]
    by_cases e : s = i
    · simp [e, hi]
    · simp [e]

theorem ofL_nil (T : Nat) (P : Nat → Nat) : ofL T P [] = List.replicate T 0 := by
  apply List.ext_getElem?
  intro i
  simp only [ofL, List.getElem?_replicate, List.getElem?_map, List.not_mem_nil, if_false]
  by_cases hi : i < T
  · rw [List.getElem?_range hi]; simp [hi]
  · rw [List.getElem?_eq_none (show (List.range T).length ≤ i by simp; omega)]; simp [hi]

/-- One step of the naming. -/
theorem names_step {α : Type} [DecidableEq α] {e : α → α → Bool} (he : ∀ a b, e a b = decide (a = b)) (key : Nat → α) (S : List Nat) {i : Nat} (hi : i < S.length) :
    (bif !(mhas e (key S[i]) (nm 0 ((reps key (S.take i)).map key))) then mset e (key S[i]) ((nm 0 ((reps key (S.take i)).map key)).length : Int) (nm 0 ((reps key (S.take i)).map key)) else nm 0 ((reps key (S.take i)).map key)) = nm 0 ((reps key (S.take (i + 1))).map key) ∧
    mget e (key S[i]) 0 (nm 0 ((reps key (S.take (i + 1))).map key)) = ((partOf key S S[i] : Nat) : Int) := by
  have ht : S.take (i + 1) = S.take i ++ [S[i]] := List.take_succ_eq_append_getElem (i := i) hi
  have hin : key S[i] ∈ (reps key (S.take (i + 1))).map key := reps_has (ht ▸ List.mem_append.2 (.inr (by simp)))
  constructor
  · rw [nm_has he, nm_len, ht, reps_snoc, repStep]
    by_cases h : key S[i] ∈ (reps key (S.take i)).map key
    · rw [decide_eq_true h, if_pos h]; rfl
    · rw [decide_eq_false h, if_neg h]
      have := nm_set he (key S[i]) 0 _ h
      rw [Nat.zero_add] at this
      rw [Bool.not_false, cond_true, this, List.map_append]
      rfl
  · rw [nm_get he _ _ _ _ hin, Nat.zero_add]
    unfold partOf
    rw [idx_take hin]

def Mdl.keyT (A : Mdl) (s : Nat) : List Int := [A.t.getD s 0, A.e.getD s 0]
def Mdl.keyP (A : Mdl) (P : Nat → Nat) (j s : Nat) : List Int := [((P s : Nat) : Int), ((P (A.nx s j) : Nat) : Int)]

theorem blocks2 {R : Type} {A : Mdl} (h : MOk A) {s : Nat} (hs : s < A.T) (k : List Int → Option R) : F.impl_Dfa_blocks_2 (s : Int) A.c (A.w : Int) A.n A.t A.e k = k (A.keyT s) := by
  simp only [F.impl_Dfa_blocks_2]
  rw [inB_true (by omega) (by rw [h.lt]; omega), cond_true, inB_true (by omega) (by rw [h.le]; omega), cond_true, Int.toNat_natCast]
  rfl

theorem blocks3 {R : Type} {A : Mdl} (h : MOk A) {S : List Nat} {P : Nat → Nat} {s j : Nat} (hs : s < A.T) (hj : j < 256) (hS : s ∈ S) (hS' : A.nx s j ∈ S) (k : List Int → Option R) : F.impl_Dfa_blocks_3 (s : Int) (ofL A.T P S) A.c (A.w : Int) A.n A.t A.e (j : Int) k = k (A.keyP P j s) := by
  simp only [F.impl_Dfa_blocks_3]
  rw [inB_true (by omega) (by rw [ofL_len]; omega), cond_true, implStep h hs hj, inB_true (by omega) (by rw [ofL_len]; have := h.nx_lt hs hj; omega), cond_true]
  simp only [Int.toNat_natCast]
  rw [ofL_get hs hS, ofL_get (h.nx_lt hs hj) hS']
  rfl

theorem ints_at {S : List Nat} {i : Nat} (hi : i < S.length) : List.getD (ints S) i (0 : Int) = ((S[i] : Nat) : Int) := by
  rw [ints_get, List.getD_eq_getElem?_getD, List.getElem?_eq_getElem hi]; rfl

theorem split0 {R : Type} {A : Mdl} (h : MOk A) (N : Nat) {S : List Nat} (hS : ∀ x ∈ S, x < A.T) (hlen : S.length ≤ A.T) (old : List Int) (cn : Int) (k : List Int → Int → List Int → List Int → List Int → Int → List (List Int × Int) → List Int → List Int → Option R) :
    ∀ (d m i : Nat), i + d = S.length → d < m →
    F.impl_Dfa_blocks_1_l0 N m (ints S) (S.length : Int) (i : Int) A.c (A.w : Int) A.n A.t A.e cn (nm 0 ((reps A.keyT (S.take i)).map A.keyT)) (ofL A.T (partOf A.keyT S) (S.take i)) old k =
      k A.c (A.w : Int) A.n A.t A.e cn (nm 0 ((reps A.keyT S).map A.keyT)) (ofL A.T (partOf A.keyT S) S) old := by
  intro d
  induction d with
  | zero =>
    intro m i hi hm
    obtain ⟨m, rfl⟩ : ∃ z, m = z + 1 := ⟨m - 1, by omega⟩
    simp only [F.impl_Dfa_blocks_1_l0, F.impl_Dfa_blocks_1_l0_s, Bool.cond_decide]
    rw [if_neg (by omega), List.take_of_length_le (by omega)]
  | succ d ih =>
    intro m i hi hm
    obtain ⟨m, rfl⟩ : ∃ z, m = z + 1 := ⟨m - 1, by omega⟩
    have hT := h.T2
    have hlt : i < S.length := by omega
    have hs := hS _ (List.getElem_mem hlt)
    simp only [F.impl_Dfa_blocks_1_l0, F.impl_Dfa_blocks_1_l0_s, Bool.cond_decide, ints_len]
    rw [if_pos (by omega), inB_true (by omega) (by omega), wrap_id (n := (i : Int) + 1) (by omega) (by omega)]
    simp only [cond_true, Int.toNat_natCast, ints_at hlt]
    rw [blocks2 h hs, inB_true (by omega) (by rw [ofL_len]; omega)]
    simp only [cond_true]
    obtain ⟨e1, e2⟩ := names_step eqL_dec A.keyT S hlt
    have ih := ih m (i + 1) (by omega) (by omega)
    rw [← e1, show ((i + 1 : Nat) : Int) = (i : Int) + 1 by omega, List.take_succ_eq_append_getElem (i := i) hlt, ← ofL_set, ← e2, ← e1] at ih
    rw [← ih]
    cases mhas eqL (A.keyT S[i]) (nm 0 (List.map A.keyT (reps A.keyT (List.take i S)))) <;> rfl

theorem split1 {R : Type} {A : Mdl} (h : MOk A) (N : Nat) {S : List Nat} (hS : ∀ x ∈ S, x < A.T) (hlen : S.length ≤ A.T) (hcl : ∀ x ∈ S, ∀ j, j < 256 → A.nx x j ∈ S) {j : Nat} (hj : j < 256) (P : Nat → Nat) (cn : Int)
    (k : List Int → Int → List Int → List Int → List Int → Int → Int → List (List Int × Int) → List Int → List Int → Option R) :
    ∀ (d m i : Nat), i + d = S.length → d < m →
    F.impl_Dfa_blocks_1_v1_l0 N m (ints S) (S.length : Int) (i : Int) A.c (A.w : Int) A.n A.t A.e (j : Int) cn (nm 0 ((reps (A.keyP P j) (S.take i)).map (A.keyP P j))) (ofL A.T (partOf (A.keyP P j) S) (S.take i)) (ofL A.T P S) k =
      k A.c (A.w : Int) A.n A.t A.e (j : Int) cn (nm 0 ((reps (A.keyP P j) S).map (A.keyP P j))) (ofL A.T (partOf (A.keyP P j) S) S) (ofL A.T P S) := by
  intro d
  induction d with
  | zero =>
    intro m i hi hm
    obtain ⟨m, rfl⟩ : ∃ z, m = z + 1 := ⟨m - 1, by omega⟩
    simp only [F.impl_Dfa_blocks_1_v1_l0, F.impl_Dfa_blocks_1_v1_l0_s, Bool.cond_decide]
    rw [if_neg (by omega), List.take_of_length_le (by omega)]
  | succ d ih =>
    intro m i hi hm
    obtain ⟨m, rfl⟩ : ∃ z, m = z + 1 := ⟨m - 1, by omega⟩
    have hT := h.T2
    have hlt : i < S.length := by omega
    have hm0 : S[i] ∈ S := List.getElem_mem hlt
    have hs := hS _ hm0
    simp only [F.impl_Dfa_blocks_1_v1_l0, F.impl_Dfa_blocks_1_v1_l0_s, Bool.cond_decide, ints_len]
    rw [if_pos (by omega), inB_true (by omega) (by omega), wrap_id (n := (i : Int) + 1) (by omega) (by omega)]
    simp only [cond_true, Int.toNat_natCast, ints_at hlt]
    rw [blocks3 h hs hj hm0 (hcl _ hm0 j hj), inB_true (by omega) (by rw [ofL_len]; omega)]
    simp only [cond_true]
    obtain ⟨e1, e2⟩ := names_step eqL_dec (A.keyP P j) S hlt
    have ih := ih m (i + 1) (by omega) (by omega)
    rw [← e1, show ((i + 1 : Nat) : Int) = (i : Int) + 1 by omega, List.take_succ_eq_append_getElem (i := i) hlt, ← ofL_set, ← e2, ← e1] at ih
    rw [← ih]
    cases mhas eqL (A.keyP P j S[i]) (nm 0 (List.map (A.keyP P j) (reps (A.keyP P j) (List.take i S)))) <;> rfl

theorem sidx_l0 {R : Type} (N : Nat) (l : List Int) (x : Int) (hl : l.length ≤ 1048576) (k0 : Unit → Option R) (k1 : Int → Option R) : ∀ (d m i : Nat), i + d = l.length → d < m → (x ∈ l.drop i) →
    F.slices_Index_l0 N m l x (l.length : Int) (i : Int) k0 k1 = k1 ((i + (l.drop i).idxOf x : Nat) : Int) := by
  intro d
  induction d with
  | zero =>
    intro m i hi hm hx
    rw [List.drop_of_length_le (by omega)] at hx
    simp at hx
  | succ d ih =>
    intro m i hi hm hx
    obtain ⟨m, rfl⟩ : ∃ z, m = z + 1 := ⟨m - 1, by omega⟩
    have hlt : i < l.length := by omega
    simp only [F.slices_Index_l0, F.slices_Index_l0_s, Bool.cond_decide]
    rw [if_pos (by omega), inB_true (by omega) (by omega), wrap_id (n := (i : Int) + 1) (by omega) (by omega)]
    simp only [cond_true, Int.toNat_natCast, getD_get l hlt]
    rw [List.drop_eq_getElem_cons hlt] at hx ⊢
    rw [List.idxOf_cons]
    by_cases e : x = l[i]
    · rw [show (x == l[i]) = true by simpa using e, show (l[i] == x) = true by simpa using e.symm]
      simp
    · rw [show (x == l[i]) = false by simpa using e, show (l[i] == x) = false by simpa using fun k => e k.symm]
      simp only [cond_false]
      have hx' : x ∈ l.drop (i + 1) := by
        rcases List.mem_cons.1 hx with h | h
        · exact (e h).elim
        · exact h
      have := ih m (i + 1) (by omega) (by omega) hx'
      rw [show ((i + 1 : Nat) : Int) = (i : Int) + 1 by omega] at this
      rw [this]
      congr 2
      omega

theorem sliceIndex {R : Type} (N : Nat) (l : List Int) (x : Int) (hl : l.length ≤ 1048576) (hN : 1048576 < N) (hx : x ∈ l) (k : Int → Option R) : F.slices_Index N l x k = k ((l.idxOf x : Nat) : Int) := by
  simp only [F.slices_Index]
  have := sidx_l0 N l x hl (fun _ => k (-1)) (fun y7 => k y7) l.length N 0 (by omega) (by omega) hx
  rw [Nat.zero_add, List.drop_zero] at this
  exact this

/-- Is it the least byte of its class? -/
def Mdl.isRep (A : Mdl) (j : Nat) : Prop := A.c.idxOf (List.getD A.c j 0) = j

theorem rep_of {A : Mdl} (h : MOk A) {j : Nat} (hj : j < 256) : ∃ r, r < 256 ∧ A.isRep r ∧ A.ch r = A.ch j := by
  have hmem : List.getD A.c j 0 ∈ A.c := by rw [getD_get A.c (by rw [h.lc]; exact hj)]; exact List.getElem_mem _
  have hlt := List.idxOf_lt_length_iff.2 hmem
  have e : List.getD A.c (A.c.idxOf (List.getD A.c j 0)) 0 = List.getD A.c j 0 := by
    rw [getD_get A.c hlt]; exact List.getElem_idxOf hlt
  refine ⟨A.c.idxOf (List.getD A.c j 0), by rw [h.lc] at hlt; exact hlt, ?_, ?_⟩
  · unfold Mdl.isRep; rw [e]
  · unfold Mdl.ch; rw [e]

/-- How many kinds. -/
def cnP (P : Nat → Nat) (S : List Nat) : Nat := (reps P S).length

/-- A step of the refinement. -/
structure Ref (A : Mdl) (S : List Nat) (P P' : Nat → Nat) : Prop where
  fine : ∀ x ∈ S, ∀ y ∈ S, P' x = P' y → P x = P y
  keep : (∀ x ∈ S, ∀ y ∈ S, A.Eqv x y → P x = P y) → ∀ x ∈ S, ∀ y ∈ S, A.Eqv x y → P' x = P' y

theorem Ref.refl {A : Mdl} {S : List Nat} {P : Nat → Nat} : Ref A S P P := ⟨fun _ _ _ _ h => h, fun h => h⟩
theorem Ref.trans {A : Mdl} {S : List Nat} {P Q U : Nat → Nat} (h : Ref A S P Q) (k : Ref A S Q U) : Ref A S P U := ⟨fun x hx y hy e => h.fine x hx y hy (k.fine x hx y hy e), fun e => k.keep (h.keep e)⟩
theorem Ref.le {A : Mdl} {S : List Nat} {P P' : Nat → Nat} (h : Ref A S P P') : cnP P S ≤ cnP P' S := (reps_finer h.fine).1
theorem Ref.same {A : Mdl} {S : List Nat} {P P' : Nat → Nat} (h : Ref A S P P') (e : cnP P' S = cnP P S) : ∀ x ∈ S, ∀ y ∈ S, P x = P y → P' x = P' y := (reps_finer h.fine).2 e

theorem part_cn {β : Type} [DecidableEq β] (key : Nat → β) (S : List Nat) : cnP (partOf key S) S = (reps key S).length := by
  unfold cnP
  rw [reps_same (f := partOf key S) (g := key) fun x hx y hy => partOf_iff hx]

theorem key_ref {A : Mdl} {S : List Nat} (hcl : ∀ x ∈ S, ∀ j, j < 256 → A.nx x j ∈ S) {j : Nat} (hj : j < 256) (P : Nat → Nat) :
    Ref A S P (partOf (A.keyP P j) S) ∧ ∀ x ∈ S, ∀ y ∈ S, partOf (A.keyP P j) S x = partOf (A.keyP P j) S y → P (A.nx x j) = P (A.nx y j) := by
  have hk : ∀ x y, A.keyP P j x = A.keyP P j y ↔ P x = P y ∧ P (A.nx x j) = P (A.nx y j) := by
    intro x y
    simp only [Mdl.keyP, List.cons.injEq, and_true]
    omega
  refine ⟨⟨fun x hx y hy e => ((hk x y).1 ((partOf_iff hx).1 e)).1, fun e x hx y hy hxy => (partOf_iff hx).2 ((hk x y).2 ⟨e x hx y hy hxy, e _ (hcl x hx j hj) _ (hcl y hy j hj) (hxy.step hj)⟩)⟩, fun x hx y hy e => ((hk x y).1 ((partOf_iff hx).1 e)).2⟩

theorem blocks1 {R : Type} {A : Mdl} (h : MOk A) (N : Nat) (hN : 1048576 < N) {S : List Nat} (hS : ∀ x ∈ S, x < A.T) (hlen : S.length ≤ A.T) (old : List Int) (ho : old.length = A.T) (cn : Int) (k : List Int → Int → List Int → List Int → List Int → Int → List Int → Option R) :
    F.impl_Dfa_blocks_1 N (ints S) A.c (A.w : Int) A.n A.t A.e cn old k = k A.c (A.w : Int) A.n A.t A.e ((cnP (partOf A.keyT S) S : Nat) : Int) (ofL A.T (partOf A.keyT S) S) := by
  have hT := h.T2
  simp only [F.impl_Dfa_blocks_1, Bool.cond_decide, ints_len, ho]
  rw [if_pos (by omega), show Nat.ble (Int.toNat (A.T : Int)) (bigOf 8) = true by rw [Nat.ble_eq]; simp [bigOf]; omega, cond_true]
  have := split0 h N hS hlen old cn (fun y22 y23 y24 y25 y26 y27 y28 y29 y30 => k y22 y23 y24 y25 y26 (List.length y28 : Int) y29) S.length N 0 (by omega) (by omega)
  rw [List.take_zero, ofL_nil, nm_len] at this
  rw [part_cn]
  simp only [List.length_map] at this
  exact this

theorem blocks1v {R : Type} {A : Mdl} (h : MOk A) (N : Nat) (hN : 1048576 < N) {S : List Nat} (hS : ∀ x ∈ S, x < A.T) (hlen : S.length ≤ A.T) (hcl : ∀ x ∈ S, ∀ j, j < 256 → A.nx x j ∈ S) {j : Nat} (hj : j < 256) (P : Nat → Nat) (cn : Int) (k : List Int → Int → List Int → List Int → List Int → Int → Int → List Int → Option R) :
    F.impl_Dfa_blocks_1_v1 N (ints S) A.c (A.w : Int) A.n A.t A.e (j : Int) cn (ofL A.T P S) k = k A.c (A.w : Int) A.n A.t A.e (j : Int) ((cnP (partOf (A.keyP P j) S) S : Nat) : Int) (ofL A.T (partOf (A.keyP P j) S) S) := by
  have hT := h.T2
  simp only [F.impl_Dfa_blocks_1_v1, Bool.cond_decide, ints_len, ofL_len]
  rw [if_pos (by omega), show Nat.ble (Int.toNat (A.T : Int)) (bigOf 8) = true by rw [Nat.ble_eq]; simp [bigOf]; omega, cond_true]
  have := split1 h N hS hlen hcl hj P cn (fun y24 y25 y26 y27 y28 y29 y30 y31 y32 y33 => k y24 y25 y26 y27 y28 y29 (List.length y31 : Int) y32) S.length N 0 (by omega) (by omega)
  rw [List.take_zero, ofL_nil, nm_len] at this
  rw [part_cn]
  simp only [List.length_map] at this
  exact this

/-- One pass over the bytes. -/
theorem pass {A : Mdl} (h : MOk A) (C N : Nat) (hN : 1048576 < N) {S : List Nat} (hS : ∀ x ∈ S, x < A.T) (hlen : S.length ≤ A.T) (hcl : ∀ x ∈ S, ∀ j, j < 256 → A.nx x j ∈ S) (b : Int) : ∀ (d j : Nat) (P : Nat → Nat), j + d = 256 →
    ∃ P', (∀ {R : Type} (k : Int → List Int → Int → List Int → List Int → List Int → Int → List Int → List Int → Option R), F.impl_Dfa_blocks_l2 C N d j b A.c (A.w : Int) A.n A.t A.e ((cnP P S : Nat) : Int) (ofL A.T P S) (ints S) k = k b A.c (A.w : Int) A.n A.t A.e ((cnP P' S : Nat) : Int) (ofL A.T P' S) (ints S)) ∧
      Ref A S P P' ∧ (cnP P' S = cnP P S → ∀ i, j ≤ i → i < 256 → A.isRep i → ∀ x ∈ S, ∀ y ∈ S, P x = P y → P (A.nx x i) = P (A.nx y i))
  | 0, j, P, hj => ⟨P, fun k => by simp only [F.impl_Dfa_blocks_l2], .refl, fun _ i h1 h2 => by omega⟩
  | d + 1, j, P, hj => by
    have hT := h.T2
    have hmem : List.getD A.c j 0 ∈ A.c := by rw [getD_get A.c (by rw [h.lc]; omega)]; exact List.getElem_mem _
    have hstep : ∀ {R : Type} (k : Int → List Int → Int → List Int → List Int → List Int → Int → List Int → List Int → Option R), F.impl_Dfa_blocks_l2 C N (d + 1) j b A.c (A.w : Int) A.n A.t A.e ((cnP P S : Nat) : Int) (ofL A.T P S) (ints S) k =
        bif ((A.c.idxOf (List.getD A.c j 0) : Nat) : Int) == (j : Int) then F.impl_Dfa_blocks_l2 C N d (j + 1) b A.c (A.w : Int) A.n A.t A.e ((cnP (partOf (A.keyP P j) S) S : Nat) : Int) (ofL A.T (partOf (A.keyP P j) S) S) (ints S) k
        else F.impl_Dfa_blocks_l2 C N d (j + 1) b A.c (A.w : Int) A.n A.t A.e ((cnP P S : Nat) : Int) (ofL A.T P S) (ints S) k := by
      intro R k
      simp only [F.impl_Dfa_blocks_l2, F.impl_Dfa_blocks_l2_s]
      rw [inB_true (by omega) (by rw [h.lc]; omega), cond_true, Int.toNat_natCast, sliceIndex N A.c _ (by rw [h.lc]; omega) hN hmem]
      cases ((A.c.idxOf (List.getD A.c j 0) : Nat) : Int) == (j : Int)
      · rfl
      · simp only [cond_true]
        rw [blocks1v h N hN hS hlen hcl (by omega) P]
    by_cases hr : A.isRep j
    · obtain ⟨q1, q2⟩ := key_ref hcl (show j < 256 by omega) P
      obtain ⟨P', k1, k2, k3⟩ := pass h C N hN hS hlen hcl b d (j + 1) (partOf (A.keyP P j) S) (by omega)
      refine ⟨P', fun k => ?_, q1.trans k2, fun e i h1 h2 h3 x hx y hy hxy => ?_⟩
      · rw [hstep, show A.c.idxOf (List.getD A.c j 0) = j from hr, show ((j : Int) == (j : Int)) = true from beq_self_eq_true _, cond_true]
        exact k1 k
      · have a := q1.le
        have c := k2.le
        have e1 : cnP (partOf (A.keyP P j) S) S = cnP P S := by omega
        have s1 := q1.same e1 x hx y hy hxy
        by_cases hij : i = j
        · subst hij
          exact q2 x hx y hy s1
        · exact q1.fine _ (hcl x hx i h2) _ (hcl y hy i h2) (k3 (by omega) i (by omega) h2 h3 x hx y hy s1)
    · obtain ⟨P', k1, k2, k3⟩ := pass h C N hN hS hlen hcl b d (j + 1) P (by omega)
      refine ⟨P', fun k => ?_, k2, fun e i h1 h2 h3 => ?_⟩
      · rw [hstep, show (((A.c.idxOf (List.getD A.c j 0) : Nat) : Int) == (j : Int)) = false from beq_eq_false_iff_ne.2 (fun e => hr (by unfold Mdl.isRep; omega)), cond_false]
        exact k1 k
      · have : i ≠ j := fun e => hr (e ▸ h3)
        exact k3 e i (by omega) h2 h3

def Stab (A : Mdl) (S : List Nat) (P : Nat → Nat) : Prop := ∀ j, j < 256 → ∀ x ∈ S, ∀ y ∈ S, P x = P y → P (A.nx x j) = P (A.nx y j)

theorem refine_loop {A : Mdl} (h : MOk A) (N : Nat) (hN : 1048576 < N) {S : List Nat} (hS : ∀ x ∈ S, x < A.T) (hlen : S.length ≤ A.T) (hcl : ∀ x ∈ S, ∀ j, j < 256 → A.nx x j ∈ S) : ∀ (m : Nat) (P : Nat → Nat) (b : Nat), (b = cnP P S ∧ 1 ≤ m) ∨ A.T + 2 ≤ cnP P S + m → (b = cnP P S → Stab A S P) →
    ∃ P', (∀ {R : Type} (k : List Int → Option R), F.impl_Dfa_blocks_l0 256 N m (b : Int) A.c (A.w : Int) A.n A.t A.e ((cnP P S : Nat) : Int) (ofL A.T P S) (ints S) k = k (ofL A.T P' S)) ∧ Ref A S P P' ∧ Stab A S P'
  | 0, P, b, hm, hs => by
    have := reps_len_le P S
    unfold cnP at hm
    omega
  | m + 1, P, b, hm, hs => by
    by_cases hb : b = cnP P S
    · refine ⟨P, fun k => ?_, .refl, hs hb⟩
      simp only [F.impl_Dfa_blocks_l0, F.impl_Dfa_blocks_l0_s]
      rw [show ((b : Int) != ((cnP P S : Nat) : Int)) = false by simp; omega, cond_false]
    · obtain ⟨P1, k1, k2, k3⟩ := pass h 256 N hN hS hlen hcl ((cnP P S : Nat) : Int) 256 0 P (by omega)
      have hle := k2.le
      have hmax : cnP P1 S ≤ A.T := Nat.le_trans (reps_len_le P1 S) hlen
      obtain ⟨P2, j1, j2, j3⟩ := refine_loop h N hN hS hlen hcl m P1 (cnP P S) (by omega) (fun e => by
        have hst := k3 e.symm
        intro i hi x hx y hy hxy
        obtain ⟨r, r1, r2, r3⟩ := rep_of h hi
        have e2 : ∀ z, A.nx z i = A.nx z r := fun z => by unfold Mdl.nx; rw [r3]
        rw [e2, e2]
        exact k2.same e.symm _ (hcl x hx r r1) _ (hcl y hy r r1) (hst r (Nat.zero_le _) r1 r2 x hx y hy (k2.fine x hx y hy hxy)))
      refine ⟨P2, fun k => ?_, k2.trans j2, j3⟩
      simp only [F.impl_Dfa_blocks_l0, F.impl_Dfa_blocks_l0_s, F.impl_everyByte]
      rw [show ((b : Int) != ((cnP P S : Nat) : Int)) = true by simp; omega, cond_true, k1, j1]

/-- **The program's partition.** -/
theorem implBlocks {A : Mdl} (h : MOk A) (N : Nat) (hN : 1048576 < N) {S : List Nat} (hS : ∀ x ∈ S, x < A.T) (hlen : S.length ≤ A.T) (h0 : S ≠ []) (hcl : ∀ x ∈ S, ∀ j, j < 256 → A.nx x j ∈ S) :
    ∃ P : Nat → Nat, (∀ {R : Type} (k : List Int → Option R), F.impl_Dfa_blocks N A.c (A.w : Int) A.n A.t A.e (ints S) k = k (ofL A.T P S)) ∧ ∀ x ∈ S, ∀ y ∈ S, P x = P y ↔ A.Eqv x y := by
  have hT := h.T2
  have hpos : 1 ≤ cnP (partOf A.keyT S) S := by
    obtain ⟨x, hx⟩ := List.exists_mem_of_ne_nil S h0
    have := reps_has (f := partOf A.keyT S) hx
    unfold cnP
    cases hr : reps (partOf A.keyT S) S with
    | nil => rw [hr] at this; simp at this
    | cons a r => simp
  obtain ⟨P', j1, j2, j3⟩ := refine_loop h N hN hS hlen hcl N (partOf A.keyT S) 0 (.inr (by omega)) (fun e => by omega)
  have hkey : ∀ x y, A.keyT x = A.keyT y ↔ A.t.getD x 0 = A.t.getD y 0 ∧ A.e.getD x 0 = A.e.getD y 0 := by
    intro x y
    simp only [Mdl.keyT, List.cons.injEq, and_true]
  refine ⟨P', fun k => ?_, fun x hx y hy => ⟨?_, ?_⟩⟩
  · simp only [F.impl_Dfa_blocks, F.impl_Dfa_blocks_c, Bool.cond_decide, h.lt]
    rw [if_pos (by omega), show Nat.ble (Int.toNat (A.T : Int)) (bigOf 8) = true by rw [Nat.ble_eq]; simp [bigOf]; omega, cond_true, Int.toNat_natCast, blocks1 h N hN hS hlen _ (by simp)]
    exact j1 k
  · exact eqv_of hcl (fun x hx y hy e => (hkey x y).1 ((partOf_iff hx).1 (j2.fine x hx y hy e))) j3 x hx y hy
  · intro e
    exact j2.keep (fun x hx y hy e => (partOf_iff hx).2 ((hkey x y).2 e.tags)) x hx y hy e
/-! ### the program's Minimize, behind the partition -/

def PI (P : Nat → Nat) (s : Nat) : Int := ((P s : Nat) : Int)
/-- Where a byte leads from a state: the number of the kind. -/
def cell (A : Mdl) (P : Nat → Nat) (S : List Nat) (s j : Nat) : Nat := partOf (PI P) S (A.nx s j)

def fullRow (A : Mdl) (P : Nat → Nat) (S : List Nat) (s : Nat) : List Int := ofL 256 (cell A P S s) (List.range 256)

theorem names_get {A : Mdl} (P : Nat → Nat) (S : List Nat) {x : Nat} (hx : x ∈ S) : mget eqI (PI P x) 0 (nm 0 ((reps (PI P) S).map (PI P))) = ((partOf (PI P) S x : Nat) : Int) := by
  rw [nm_get eqI_dec _ _ _ _ (reps_has hx), Nat.zero_add]
  rfl

theorem min_l0 {R : Type} {A : Mdl} (h : MOk A) (C N : Nat) {S : List Nat} (hS : ∀ x ∈ S, x < A.T) (hlen : S.length ≤ A.T) (P : Nat → Nat) (wd : Int) (a1 a2 a3 a4 : List Int) (rows : List (List Int))
    (k : List Int → Int → List Int → List Int → List Int → Int → List Int → List Int → List Int → List Int → List Int → List Int → List (Int × Int) → List (List Int) → Option R) :
    ∀ (d m i : Nat), i + d = S.length → d < m →
    F.impl_Minimize_l0 C N m (S.length : Int) (i : Int) A.c (A.w : Int) A.n A.t A.e wd (ints (reps (PI P) (S.take i))) (ints S) a1 a2 a3 a4 (ofL A.T P S) (nm 0 ((reps (PI P) (S.take i)).map (PI P))) rows k =
      k A.c (A.w : Int) A.n A.t A.e wd (ints (reps (PI P) S)) a1 a2 a3 a4 (ofL A.T P S) (nm 0 ((reps (PI P) S).map (PI P))) rows := by
  intro d
  induction d with
  | zero =>
    intro m i hi hm
    obtain ⟨m, rfl⟩ : ∃ z, m = z + 1 := ⟨m - 1, by omega⟩
    simp only [F.impl_Minimize_l0, F.impl_Minimize_l0_s, Bool.cond_decide]
    rw [if_neg (by omega), List.take_of_length_le (by omega)]
  | succ d ih =>
    intro m i hi hm
    obtain ⟨m, rfl⟩ : ∃ z, m = z + 1 := ⟨m - 1, by omega⟩
    have hT := h.T2
    have hlt : i < S.length := by omega
    have hm0 : S[i] ∈ S := List.getElem_mem hlt
    have hs := hS _ hm0
    have hle := reps_len_le (PI P) (S.take i)
    have htl : (S.take i).length ≤ S.length := by rw [List.length_take]; omega
    simp only [F.impl_Minimize_l0, F.impl_Minimize_l0_s, Bool.cond_decide, ints_len]
    rw [if_pos (by omega), inB_true (by omega) (by omega), wrap_id (n := (i : Int) + 1) (by omega) (by omega)]
    simp only [cond_true, Int.toNat_natCast, ints_at hlt, ofL_get hs hm0]
    rw [inB_true (by omega) (by rw [ofL_len]; omega), len_ble (by omega) (by simp) (by omega)]
    simp only [cond_true]
    have ih := ih m (i + 1) (by omega) (by omega)
    have ht : S.take (i + 1) = S.take i ++ [S[i]] := List.take_succ_eq_append_getElem (i := i) hlt
    rw [show ((i + 1 : Nat) : Int) = (i : Int) + 1 by omega, ht, reps_snoc, repStep] at ih
    have hh : mhas eqI ((P S[i] : Nat) : Int) (nm 0 ((reps (PI P) (S.take i)).map (PI P))) = decide (PI P S[i] ∈ (reps (PI P) (S.take i)).map (PI P)) := nm_has eqI_dec _ _ _
    rw [hh]
    by_cases hc : PI P S[i] ∈ (reps (PI P) (S.take i)).map (PI P)
    · rw [if_pos hc] at ih
      rw [decide_eq_true hc, Bool.not_true, cond_false]
      exact ih
    · rw [if_neg hc, List.map_append, List.map_cons, List.map_nil, ← nm_set eqI_dec _ 0 _ hc, Nat.zero_add, List.length_map, ← ints_snoc] at ih
      rw [decide_eq_false hc, Bool.not_false, cond_true]
      exact ih

theorem min_l4 {R : Type} {A : Mdl} (h : MOk A) (C N : Nat) {S : List Nat} (hS : ∀ x ∈ S, x < A.T) (hcl : ∀ x ∈ S, ∀ j, j < 256 → A.nx x j ∈ S) (P : Nat → Nat) {s : Nat} (hs : s ∈ S) (p q wd : Int) (f a1 a2 a3 a4 : List Int) (rows : List (List Int))
    (k : Int → Int → List Int → Int → List Int → List Int → List Int → Int → List Int → List Int → List Int → List Int → List Int → List Int → List Int → List (Int × Int) → List (List Int) → Option R) :
    ∀ (d j : Nat), j + d = 256 →
    F.impl_Minimize_l4 C N d j p q A.c (A.w : Int) A.n A.t A.e wd f (s : Int) (ofL 256 (cell A P S s) (List.range j)) a1 a2 a3 a4 (ofL A.T P S) (nm 0 ((reps (PI P) S).map (PI P))) rows k =
      k p q A.c (A.w : Int) A.n A.t A.e wd f (fullRow A P S s) a1 a2 a3 a4 (ofL A.T P S) (nm 0 ((reps (PI P) S).map (PI P))) rows
  | 0, j, hj => by
    simp only [F.impl_Minimize_l4]
    rw [show j = 256 by omega]
    rfl
  | d + 1, j, hj => by
    have hnx := hcl s hs j (by omega)
    have hnt := hS _ hnx
    simp only [F.impl_Minimize_l4, F.impl_Minimize_l4_s]
    rw [implStep h (hS s hs) (by omega), inB_true (by omega) (by rw [ofL_len]; omega), cond_true, inB_true (by omega) (by omega), cond_true]
    simp only [Int.toNat_natCast, ofL_get hnt hnx]
    have e : mget eqI ((P (A.nx s j) : Nat) : Int) 0 (nm 0 ((reps (PI P) S).map (PI P))) = ((cell A P S s j : Nat) : Int) := names_get (A := A) P S hnx
    rw [e, ofL_set, ← List.range_succ]
    exact min_l4 h C N hS hcl P hs p q wd f a1 a2 a3 a4 rows k d (j + 1) (by omega)

theorem ofL_nil' {T : Nat} (P : Nat → Nat) : List.replicate T (0 : Int) = ofL T P (List.range 0) := (ofL_nil T P).symm

theorem min_l2 {R : Type} {A : Mdl} (h : MOk A) (N : Nat) {S : List Nat} (hS : ∀ x ∈ S, x < A.T) (hlen : S.length ≤ A.T) (hcl : ∀ x ∈ S, ∀ j, j < 256 → A.nx x j ∈ S) (P : Nat → Nat) (wd : Int) (a1 a2 a3 a4 : List Int) {f : List Nat} (hf : ∀ x ∈ f, x ∈ S) (hfl : f.length ≤ A.T)
    (k : List Int → Int → List Int → List Int → List Int → Int → List Int → List Int → List Int → List Int → List Int → List (List Int) → Option R) :
    ∀ (d m i : Nat), i + d = f.length → d < m →
    F.impl_Minimize_l2 256 N m (f.length : Int) (i : Int) A.c (A.w : Int) A.n A.t A.e wd (ints f) a1 a2 a3 a4 (ofL A.T P S) (nm 0 ((reps (PI P) S).map (PI P))) ((f.take i).map (fullRow A P S)) k =
      k A.c (A.w : Int) A.n A.t A.e wd (ints f) a1 a2 a3 a4 (f.map (fullRow A P S)) := by
  intro d
  induction d with
  | zero =>
    intro m i hi hm
    obtain ⟨m, rfl⟩ : ∃ z, m = z + 1 := ⟨m - 1, by omega⟩
    simp only [F.impl_Minimize_l2, F.impl_Minimize_l2_s, Bool.cond_decide]
    rw [if_neg (by omega), List.take_of_length_le (by omega)]
  | succ d ih =>
    intro m i hi hm
    obtain ⟨m, rfl⟩ : ∃ z, m = z + 1 := ⟨m - 1, by omega⟩
    have hT := h.T2
    have hlt : i < f.length := by omega
    have hm0 : f[i] ∈ S := hf _ (List.getElem_mem hlt)
    simp only [F.impl_Minimize_l2, F.impl_Minimize_l2_s, Bool.cond_decide, ints_len, F.impl_everyByte]
    rw [if_pos (by omega), inB_true (by omega) (by omega), cond_true]
    simp only [Int.toNat_natCast, ints_at hlt]
    rw [ofL_nil' (cell A P S f[i]), min_l4 h 256 N hS hcl P hm0 _ _ _ _ _ _ _ _ _ _ 256 0 (by omega)]
    have htl : (f.take i).length ≤ f.length := by rw [List.length_take]; omega
    rw [wrap_id (n := (i : Int) + 1) (by omega) (by omega), len_ble (by rw [List.length_map]; omega) (by simp) (by omega), cond_true]
    have ih := ih m (i + 1) (by omega) (by omega)
    rw [show ((i + 1 : Nat) : Int) = (i : Int) + 1 by omega, List.take_succ_eq_append_getElem (i := i) hlt, List.map_append] at ih
    exact ih

/-! columns -/

def byt2 (v : Nat) : List Int := [((v % 256 : Nat) : Int), ((v / 256 % 256 : Nat) : Int)]

theorem wrap8 (v : Nat) : wrapK .u8 ((v : Nat) : Int) = ((v % 256 : Nat) : Int) := by
  simp only [wrapK, IntKind.wrap, IntKind.signed, IntKind.bits, Bool.false_and, Bool.false_eq_true, if_false]
  omega

theorem fdiv8 (v : Nat) : Int.fdiv ((v : Nat) : Int) (2 ^ min (Int.toNat 8) 64) = ((v / 256 : Nat) : Int) := by
  have : (2 : Int) ^ min (Int.toNat 8) 64 = 256 := by decide
  rw [this, Int.fdiv_eq_ediv_of_nonneg _ (by omega)]
  omega

/-- The bytes of a column, as numbers. -/
def colI (A : Mdl) (P : Nat → Nat) (S f : List Nat) (j : Nat) : List Int := (f.map fun s => byt2 (cell A P S s j)).flatten
def colB (A : Mdl) (P : Nat → Nat) (S f : List Nat) (j : Nat) : List UInt8 := intsStr (colI A P S f j)

theorem colI_len (A : Mdl) (P : Nat → Nat) (S : List Nat) (j : Nat) : ∀ f : List Nat, (colI A P S f j).length = 2 * f.length
  | [] => rfl
  | s :: f => by
    have := colI_len A P S j f
    simp only [colI, List.map_cons, List.flatten_cons, List.length_append, List.length_cons] at this ⊢
    rw [this]
    simp [byt2]
    omega

theorem fullRow_get (A : Mdl) (P : Nat → Nat) (S : List Nat) (s : Nat) {j : Nat} (hj : j < 256) : List.getD (fullRow A P S s) j 0 = ((cell A P S s j : Nat) : Int) := ofL_get hj (by simpa using hj)

theorem rows_get {A : Mdl} {P : Nat → Nat} {S f : List Nat} {i : Nat} (hi : i < f.length) (z : List Int) : List.getD (f.map (fullRow A P S)) i z = fullRow A P S f[i] := by
  simp [List.getD_eq_getElem?_getD, hi]

theorem min_l8 {R : Type} {A : Mdl} (h : MOk A) (C N : Nat) (P : Nat → Nat) (S : List Nat) (wd u : Int) (g a1 a2 a3 a4 cl b1 b2 b3 at' : List Int) (names : List (List UInt8 × Int)) {f : List Nat} (hfl : f.length ≤ A.T) {j : Nat} (hj : j < 256)
    (k : Int → List Int → Int → List Int → List Int → List Int → Int → List Int → Int → List Int → List Int → List Int → List Int → List Int → List (List Int) → List Int → List Int → List Int → List Int → List (List UInt8 × Int) → List Int → Option R) :
    ∀ (d m i : Nat), i + d = f.length → d < m →
    F.impl_Minimize_l8 C N m (j : Int) (f.length : Int) (i : Int) A.c (A.w : Int) A.n A.t A.e wd g u (colI A P S (f.take i) j) (f.map (fullRow A P S)) a1 a2 a3 a4 cl b1 b2 b3 names at' k =
      k (j : Int) A.c (A.w : Int) A.n A.t A.e wd g u (colI A P S f j) a1 a2 a3 a4 (f.map (fullRow A P S)) cl b1 b2 b3 names at' := by
  intro d
  induction d with
  | zero =>
    intro m i hi hm
    obtain ⟨m, rfl⟩ : ∃ z, m = z + 1 := ⟨m - 1, by omega⟩
    simp only [F.impl_Minimize_l8, F.impl_Minimize_l8_s, Bool.cond_decide]
    rw [if_neg (by omega), List.take_of_length_le (by omega)]
  | succ d ih =>
    intro m i hi hm
    obtain ⟨m, rfl⟩ : ∃ z, m = z + 1 := ⟨m - 1, by omega⟩
    have hT := h.T2
    have hlt : i < f.length := by omega
    simp only [F.impl_Minimize_l8, F.impl_Minimize_l8_s, Bool.cond_decide, List.length_map]
    have htl : (f.take i).length ≤ f.length := by rw [List.length_take]; omega
    rw [if_pos (by omega), inB_true (by omega) (by omega), inB_true (by omega) (by omega), if_pos (by omega), wrap_id (n := (i : Int) + 1) (by omega) (by omega)]
    simp only [cond_true, Int.toNat_natCast, rows_get hlt, fullRow_get A P S f[i] hj]
    rw [fdiv8, wrap8, wrap8, len_ble (by rw [colI_len]; omega) (by simp) (by omega), cond_true]
    have ih := ih m (i + 1) (by omega) (by omega)
    rw [show ((i + 1 : Nat) : Int) = (i : Int) + 1 by omega, List.take_succ_eq_append_getElem (i := i) hlt] at ih
    have e : colI A P S (f.take i ++ [f[i]]) j = colI A P S (f.take i) j ++ byt2 (cell A P S f[i] j) := by
      unfold colI
      rw [List.map_append, List.flatten_append, List.map_cons, List.map_nil, List.flatten_cons, List.flatten_nil, List.append_nil]
    rw [e] at ih
    exact ih

theorem names_rng {α : Type} [DecidableEq α] {e : α → α → Bool} (he : ∀ a b, e a b = decide (a = b)) (key : Nat → α) {j n : Nat} (hj : j < n) :
    (bif !(mhas e (key j) (nm 0 ((reps key (List.range j)).map key))) then mset e (key j) ((nm 0 ((reps key (List.range j)).map key)).length : Int) (nm 0 ((reps key (List.range j)).map key)) else nm 0 ((reps key (List.range j)).map key)) = nm 0 ((reps key (List.range (j + 1))).map key) ∧
    mget e (key j) 0 (nm 0 ((reps key (List.range (j + 1))).map key)) = ((partOf key (List.range n) j : Nat) : Int) := by
  have := names_step he key (List.range n) (i := j) (by simpa using hj)
  simp only [List.getElem_range, List.take_range, Nat.min_eq_left (show j ≤ n by omega), Nat.min_eq_left (show j + 1 ≤ n by omega)] at this
  exact this

theorem min_l6 {R : Type} {A : Mdl} (h : MOk A) (C N : Nat) (hN : 1048576 < N) (P : Nat → Nat) (S : List Nat) (wd u : Int) (g a1 a2 a3 a4 b1 b2 b3 : List Int) {f : List Nat} (hfl : f.length ≤ A.T)
    (k : List Int → Int → List Int → List Int → List Int → Int → List Int → Int → List Int → List Int → List Int → List Int → List (List Int) → List Int → List Int → List Int → List Int → List Int → Option R) :
    ∀ (d j : Nat), j + d = 256 →
    F.impl_Minimize_l6 C N d j A.c (A.w : Int) A.n A.t A.e wd g u a1 a2 a3 a4 (f.map (fullRow A P S)) (ofL 256 (partOf (colB A P S f) (List.range 256)) (List.range j)) b1 b2 b3 (nm 0 ((reps (colB A P S f) (List.range j)).map (colB A P S f))) (ints (reps (colB A P S f) (List.range j))) k =
      k A.c (A.w : Int) A.n A.t A.e wd g u a1 a2 a3 a4 (f.map (fullRow A P S)) (ofL 256 (partOf (colB A P S f) (List.range 256)) (List.range 256)) b1 b2 b3 (ints (reps (colB A P S f) (List.range 256)))
  | 0, j, hj => by
    simp only [F.impl_Minimize_l6]
    rw [show j = 256 by omega]
  | d + 1, j, hj => by
    have hT := h.T2
    simp only [F.impl_Minimize_l6, F.impl_Minimize_l6_s, List.length_map]
    have h8 := fun k' => min_l8 (R := R) h C N P S wd u g a1 a2 a3 a4 (ofL 256 (partOf (colB A P S f) (List.range 256)) (List.range j)) b1 b2 b3 (ints (reps (colB A P S f) (List.range j))) (nm 0 ((reps (colB A P S f) (List.range j)).map (colB A P S f))) hfl (show j < 256 by omega) k' f.length N 0 (by omega) (by omega)
    have h8 := fun k' => h8 k'
    simp only [List.take_zero] at h8
    rw [show colI A P S [] j = [] from rfl] at h8
    rw [show ((0 : Nat) : Int) = 0 from rfl] at h8
    rw [h8]
    rw [show intsStr (colI A P S f j) = colB A P S f j from rfl]
    have hle := reps_len_le (colB A P S f) (List.range j)
    rw [List.length_range] at hle
    rw [len_ble (by rw [ints_len]; omega) (by simp) (by omega), inB_true (by omega) (by rw [ofL_len]; omega)]
    simp only [cond_true, Int.toNat_natCast]
    obtain ⟨e1, e2⟩ := names_rng eqS_dec (colB A P S f) (show j < 256 by omega)
    have ih := min_l6 h C N hN P S wd u g a1 a2 a3 a4 b1 b2 b3 hfl k d (j + 1) (by omega)
    have er : reps (colB A P S f) (List.range (j + 1)) = repStep (colB A P S f) (reps (colB A P S f) (List.range j)) j := by rw [show List.range (j + 1) = List.range j ++ [j] from List.range_succ, reps_snoc]
    have eo : ofL 256 (partOf (colB A P S f) (List.range 256)) (List.range (j + 1)) = List.set (ofL 256 (partOf (colB A P S f) (List.range 256)) (List.range j)) j ((partOf (colB A P S f) (List.range 256) j : Nat) : Int) := by rw [show List.range (j + 1) = List.range j ++ [j] from List.range_succ, ofL_set]
    rw [← e1] at ih e2
    rw [eo, ← e2] at ih
    rw [er, repStep] at ih
    have hh := nm_has eqS_dec (colB A P S f j) 0 ((reps (colB A P S f) (List.range j)).map (colB A P S f))
    by_cases hc : colB A P S f j ∈ (reps (colB A P S f) (List.range j)).map (colB A P S f)
    · simp only [hc, decide_true] at hh
      rw [hh, if_pos hc] at ih
      rw [hh]
      exact ih
    · simp only [hc, decide_false] at hh
      rw [hh, if_neg hc, ← ints_snoc] at ih
      rw [hh]
      exact ih

theorem min_l12 {R : Type} {A : Mdl} (h : MOk A) (C N : Nat) (P : Nat → Nat) (S : List Nat) (p q wd wi : Int) (g a1 a2 a3 a4 cl tg en pre : List Int) {f : List Nat} (hfl : f.length ≤ A.T) {i : Nat} (hi : i < f.length) {at' : List Nat} (hat : ∀ x ∈ at', x < 256) (hal : at'.length ≤ 256) (hpre : pre.length ≤ 1048276)
    (k : Int → Int → List Int → Int → List Int → List Int → List Int → Int → Int → List Int → List Int → List Int → List Int → List Int → List (List Int) → List Int → List Int → List Int → List Int → List Int → Option R) :
    ∀ (d m r : Nat), r + d = at'.length → d < m →
    F.impl_Minimize_l12 C N m (i : Int) p q (at'.length : Int) (r : Int) A.c (A.w : Int) A.n A.t A.e wd wi g (ints at') a1 a2 a3 a4 (f.map (fullRow A P S)) cl (pre ++ ints ((at'.take r).map (cell A P S f[i]))) tg en k =
      k p q A.c (A.w : Int) A.n A.t A.e wd wi g a1 a2 a3 a4 (f.map (fullRow A P S)) cl (pre ++ ints (at'.map (cell A P S f[i]))) tg en (ints at') := by
  intro d
  induction d with
  | zero =>
    intro m r hr hm
    obtain ⟨m, rfl⟩ : ∃ z, m = z + 1 := ⟨m - 1, by omega⟩
    simp only [F.impl_Minimize_l12, F.impl_Minimize_l12_s, Bool.cond_decide]
    rw [if_neg (by omega), List.take_of_length_le (by omega)]
  | succ d ih =>
    intro m r hr hm
    obtain ⟨m, rfl⟩ : ∃ z, m = z + 1 := ⟨m - 1, by omega⟩
    have hT := h.T2
    have hlt : r < at'.length := by omega
    have hc := hat _ (List.getElem_mem hlt)
    have htl : (at'.take r).length ≤ at'.length := by rw [List.length_take]; omega
    simp only [F.impl_Minimize_l12, F.impl_Minimize_l12_s, Bool.cond_decide, List.length_map, ints_len]
    rw [if_pos (by omega), inB_true (by omega) (by omega), inB_true (by omega) (by omega), wrap_id (n := (r : Int) + 1) (by omega) (by omega)]
    simp only [cond_true, Int.toNat_natCast, ints_at hlt, rows_get hi, fullRow_get A P S f[i] hc]
    rw [inB_true (by omega) (by omega), cond_true, len_ble (by rw [List.length_append, ints_len, List.length_map]; omega) (by simp) (by omega), cond_true, List.append_assoc, ints_snoc]
    have ih := ih m (r + 1) (by omega) (by omega)
    rw [show ((r + 1 : Nat) : Int) = (r : Int) + 1 by omega, List.take_succ_eq_append_getElem (i := r) hlt, List.map_append] at ih
    exact ih

/-- The entries behind one another. -/
def nextOf (cl : Nat → Nat → Nat) (at' : List Nat) : List Nat → List Int
  | [] => []
  | s :: f => ints (at'.map (cl s)) ++ nextOf cl at' f

theorem nextOf_snoc (cl : Nat → Nat → Nat) (at' : List Nat) (s : Nat) : ∀ f : List Nat, nextOf cl at' (f ++ [s]) = nextOf cl at' f ++ ints (at'.map (cl s))
  | [] => by simp [nextOf]
  | x :: f => by
    show ints (at'.map (cl x)) ++ nextOf cl at' (f ++ [s]) = (ints (at'.map (cl x)) ++ nextOf cl at' f) ++ ints (at'.map (cl s))
    rw [nextOf_snoc cl at' s f, List.append_assoc]

theorem nextOf_len (cl : Nat → Nat → Nat) (at' : List Nat) : ∀ f : List Nat, (nextOf cl at' f).length = f.length * at'.length
  | [] => by simp [nextOf]
  | x :: f => by
    simp only [nextOf, List.length_append, ints_len, List.length_map, nextOf_len cl at' f, List.length_cons, Nat.succ_mul]
    omega

theorem min_l10 {R : Type} {A : Mdl} (h : MOk A) (C N : Nat) (hN : 1048576 < N) (P : Nat → Nat) (S : List Nat) (wd wi : Int) (a1 a2 a3 a4 cl : List Int) {f : List Nat} (hf : ∀ x ∈ f, x < A.T) (hfl : f.length ≤ A.T) {at' : List Nat} (hat : ∀ x ∈ at', x < 256) (hal : at'.length ≤ 256) (hsz : f.length * at'.length ≤ 1048276)
    (k : Int → Int → List Int → List Int → List Int → List Int → List Int → List Int → List Int → List Int → Option R) :
    ∀ (d m i : Nat), i + d = f.length → d < m →
    F.impl_Minimize_l10 C N m (f.length : Int) (i : Int) A.c (A.w : Int) A.n A.t A.e wd wi (ints f) a1 a2 a3 a4 (f.map (fullRow A P S)) cl (nextOf (cell A P S) at' (f.take i)) ((f.take i).map fun s => List.getD A.t s 0) ((f.take i).map fun s => List.getD A.e s 0) (ints at') k =
      k wd wi a1 a2 a3 a4 cl (nextOf (cell A P S) at' f) (f.map fun s => List.getD A.t s 0) (f.map fun s => List.getD A.e s 0) := by
  intro d
  induction d with
  | zero =>
    intro m i hi hm
    obtain ⟨m, rfl⟩ : ∃ z, m = z + 1 := ⟨m - 1, by omega⟩
    simp only [F.impl_Minimize_l10, F.impl_Minimize_l10_s, Bool.cond_decide]
    rw [if_neg (by omega), List.take_of_length_le (by omega)]
  | succ d ih =>
    intro m i hi hm
    obtain ⟨m, rfl⟩ : ∃ z, m = z + 1 := ⟨m - 1, by omega⟩
    have hT := h.T2
    have hlt : i < f.length := by omega
    have hs := hf _ (List.getElem_mem hlt)
    have htl : (f.take i).length ≤ f.length := by rw [List.length_take]; omega
    simp only [F.impl_Minimize_l10, F.impl_Minimize_l10_s, Bool.cond_decide, ints_len]
    rw [if_pos (by omega), inB_true (by omega) (by omega)]
    simp only [cond_true, Int.toNat_natCast, ints_at hlt]
    rw [inB_true (by omega) (by rw [h.lt]; omega), cond_true, len_ble (by rw [List.length_map]; omega) (by simp) (by omega), cond_true, inB_true (by omega) (by rw [h.le]; omega), cond_true, len_ble (by rw [List.length_map]; omega) (by simp) (by omega), cond_true]
    have hpl : (nextOf (cell A P S) at' (f.take i)).length ≤ 1048276 := by
      rw [nextOf_len]
      exact Nat.le_trans (Nat.mul_le_mul_right _ htl) hsz
    have h12 := fun q1 q2 k' => min_l12 (R := R) h C N P S (f.length : Int) (i : Int) wd wi (ints f) a1 a2 a3 a4 cl q1 q2 (nextOf (cell A P S) at' (f.take i)) hfl hlt hat hal hpl k' at'.length N 0 (by omega) (by omega)
    simp only [List.take_zero, List.map_nil] at h12
    rw [show ints [] = [] from rfl] at h12
    simp only [List.append_nil] at h12
    rw [show ((0 : Nat) : Int) = 0 from rfl] at h12
    rw [h12, wrap_id (n := (i : Int) + 1) (by omega) (by omega)]
    have ih := ih m (i + 1) (by omega) (by omega)
    rw [show ((i + 1 : Nat) : Int) = (i : Int) + 1 by omega, List.take_succ_eq_append_getElem (i := i) hlt, nextOf_snoc, List.map_append, List.map_append] at ih
    exact ih

/-- What both sides give. cl: where a byte leads from a state; f: a state of each kind; at': a byte of each class; cc: the classes. -/
def outOf {β : Type} (A : Mdl) (cc : Nat → Nat) (cl : Nat → Nat → Nat) (f at' : List Nat) (k : Int → List Int → List Int → List Int → List Int → β) : β :=
  k (at'.length : Int) (ints ((List.range 256).map cc)) (nextOf cl at' f) (f.map fun s => List.getD A.t s 0) (f.map fun s => List.getD A.e s 0)

theorem ofL_all (P : Nat → Nat) (n : Nat) : ofL n P (List.range n) = ints ((List.range n).map P) := by
  simp only [ofL, ints, List.map_map]
  apply List.map_congr_left
  intro x hx
  rw [if_pos hx]
  rfl

theorem rng_reps_lt {β : Type} [DecidableEq β] (key : Nat → β) : ∀ x ∈ reps key (List.range 256), x < 256 := fun x hx => List.mem_range.1 (reps_mem hx)

theorem rng_reps_len {β : Type} [DecidableEq β] (key : Nat → β) : (reps key (List.range 256)).length ≤ 256 := by
  have := reps_len_le key (List.range 256)
  rwa [List.length_range] at this

theorem implTail {R : Type} {A : Mdl} (h : MOk A) (N : Nat) (hN : 1048576 < N) {S : List Nat} (hS : ∀ x ∈ S, x < A.T) (hlen : S.length ≤ A.T) (hcl : ∀ x ∈ S, ∀ j, j < 256 → A.nx x j ∈ S) (P : Nat → Nat) (hsz : (reps (PI P) S).length * (reps (colB A P S (reps (PI P) S)) (List.range 256)).length ≤ 1048276)
    (hok : okDfa A.c (A.w : Int) A.n A.t A.e = true) (hb : ∀ k : List Int → Option R, F.impl_Dfa_blocks N A.c (A.w : Int) A.n A.t A.e (ints S) k = k (ofL A.T P S)) (hr : ∀ k : List Int → Option R, F.impl_Dfa_reached N A.c (A.w : Int) A.n A.t A.e k = k (ints S))
    (k : Int → List Int → List Int → List Int → List Int → Option R) :
    F.impl_Minimize N A.c (A.w : Int) A.n A.t A.e k = outOf A (partOf (colB A P S (reps (PI P) S)) (List.range 256)) (cell A P S) (reps (PI P) S) (reps (colB A P S (reps (PI P) S)) (List.range 256)) k := by
  have hT := h.T2
  have hT1 := h.T1
  have hq : A.T * A.w ≤ 4000 * 256 := Nat.mul_le_mul h.T2 h.w2
  have hfm : ∀ x ∈ reps (PI P) S, x ∈ S := fun x hx => reps_mem hx
  have hfl : (reps (PI P) S).length ≤ A.T := Nat.le_trans (reps_len_le _ _) hlen
  simp only [F.impl_Minimize, F.impl_Minimize_c]
  rw [implDfaOK N A.c _ A.n A.t A.e (by rw [h.lc]; omega) (by rw [h.ln]; omega) (by rw [h.lt]; omega) (by rw [h.le]; omega) hN, hok]
  simp only [Bool.not_true, cond_false]
  rw [hr, hb, ints_len]
  have h0 := fun k' => min_l0 (R := R) h 256 N hS hlen P 0 [] [] [] [] [] k' S.length N 0 (by omega) (by omega)
  simp only [List.take_zero] at h0
  rw [show reps (PI P) [] = [] from rfl] at h0
  refine (h0 _).trans ?_
  rw [ints_len]
  have h2 := fun k' => min_l2 (R := R) h N hS hlen hcl P 0 [] [] [] [] hfm hfl k' (reps (PI P) S).length N 0 (by omega) (by omega)
  simp only [List.take_zero] at h2
  refine (h2 _).trans ?_
  simp only [Bool.cond_decide, F.impl_everyByte]
  rw [if_pos (by omega), show Nat.ble (Int.toNat 256) (bigOf 8) = true by decide, cond_true]
  have h6 := fun k' => min_l6 (R := R) h 256 N hN P S 0 0 (ints (reps (PI P) S)) [] [] [] [] [] [] [] hfl k' 256 0 (by omega)
  rw [← ofL_nil'] at h6
  refine (h6 _).trans ?_
  simp only [ints_len]
  have h10 := fun wi cl k' => min_l10 (R := R) h 256 N hN P S 0 wi [] [] [] [] cl (fun x hx => hS x (hfm x hx)) hfl (rng_reps_lt (colB A P S (reps (PI P) S))) (rng_reps_len _) hsz k' (reps (PI P) S).length N 0 (by omega) (by omega)
  simp only [List.take_zero, List.map_nil] at h10
  refine (h10 _ _ _).trans ?_
  rw [ofL_all]
  rfl
/-! ### the reference's walk and its table of pairs -/

def place (l : List Int) (x : Int) : Int := if x ∈ l then ((l.idxOf x : Nat) : Int) else -1

theorem place_l0 {R : Type} (N : Nat) (l : List Int) (x : Int) (hl : l.length ≤ 1048576) (k0 : Unit → Option R) (k1 : Int → Option R) : ∀ (d m i : Nat), i + d = l.length → d < m →
    F.spec_l2Place_l0 N m x l (l.length : Int) (i : Int) k0 k1 = if x ∈ l.drop i then k1 ((i + (l.drop i).idxOf x : Nat) : Int) else k0 () := by
  intro d
  induction d with
  | zero =>
    intro m i hi hm
    obtain ⟨m, rfl⟩ : ∃ z, m = z + 1 := ⟨m - 1, by omega⟩
    simp only [F.spec_l2Place_l0, F.spec_l2Place_l0_s, Bool.cond_decide]
    rw [if_neg (by omega), List.drop_of_length_le (by omega), if_neg (by simp)]
  | succ d ih =>
    intro m i hi hm
    obtain ⟨m, rfl⟩ : ∃ z, m = z + 1 := ⟨m - 1, by omega⟩
    have hlt : i < l.length := by omega
    simp only [F.spec_l2Place_l0, F.spec_l2Place_l0_s, Bool.cond_decide]
    rw [if_pos (by omega), inB_true (by omega) (by omega), wrap_id (n := (i : Int) + 1) (by omega) (by omega)]
    simp only [cond_true, Int.toNat_natCast, getD_get l hlt]
    rw [List.drop_eq_getElem_cons hlt]
    by_cases e : l[i] = x
    · rw [show (l[i] == x) = true by simpa using e, if_pos (by simp [e]), cond_true, List.idxOf_cons, show (l[i] == x) = true by simpa using e, cond_true, Nat.add_zero]
    · rw [show (l[i] == x) = false by simpa using e, cond_false, List.idxOf_cons, show (l[i] == x) = false by simpa using e, cond_false]
      have := ih m (i + 1) (by omega) (by omega)
      rw [show ((i + 1 : Nat) : Int) = (i : Int) + 1 by omega] at this
      rw [this]
      have hiff : x ∈ l[i] :: l.drop (i + 1) ↔ x ∈ l.drop (i + 1) := by
        rw [List.mem_cons]
        exact ⟨fun h => h.elim (fun h => (e h.symm).elim) id, .inr⟩
      by_cases hx : x ∈ l.drop (i + 1)
      · rw [if_pos hx, if_pos (hiff.2 hx)]
        congr 2
        omega
      · rw [if_neg hx, if_neg (fun h => hx (hiff.1 h))]

theorem specPlace {R : Type} (N : Nat) (l : List Int) (x : Int) (hl : l.length ≤ 1048576) (hN : 1048576 < N) (k : Int → Option R) : F.spec_l2Place N l x k = k (place l x) := by
  simp only [F.spec_l2Place]
  have := place_l0 N l x hl (fun _ => k (-1)) (fun y7 => k y7) l.length N 0 (by omega) (by omega)
  rw [Nat.zero_add, List.drop_zero] at this
  refine this.trans ?_
  unfold place
  split <;> rfl

theorem place_v1 (N : Nat) {R : Type} : ∀ (m : Nat) (x : Int) (l : List Int) (n i : Int) (k0 : Unit → Option R) (k1 : Int → Option R), F.spec_l2Place_v1_l0 N m x l n i k0 k1 = F.spec_l2Place_l0 N m x l n i k0 k1
  | 0, _, _, _, _, _, _ => rfl
  | m + 1, x, l, n, i, k0, k1 => by
    simp only [F.spec_l2Place_v1_l0, F.spec_l2Place_v1_l0_s, F.spec_l2Place_l0, F.spec_l2Place_l0_s, place_v1 N m]

theorem specPlace1 {R : Type} (N : Nat) (l : List Int) (x : Int) (hl : l.length ≤ 1048576) (hN : 1048576 < N) (k : Int → Option R) : F.spec_l2Place_v1 N l x k = k (place l x) := by
  rw [← specPlace N l x hl hN k]
  simp only [F.spec_l2Place_v1, F.spec_l2Place, place_v1]

theorem ints_mem {l : List Nat} {x : Nat} : ((x : Nat) : Int) ∈ ints l ↔ x ∈ l := by
  simp only [ints, List.mem_map]
  constructor
  · rintro ⟨y, hy, e⟩; exact (show y = x by omega) ▸ hy
  · exact fun h => ⟨x, h, rfl⟩

theorem ints_idx {x : Nat} : ∀ (l : List Nat), (ints l).idxOf ((x : Nat) : Int) = l.idxOf x
  | [] => rfl
  | y :: l => by
    have ih := ints_idx (x := x) l
    simp only [ints, List.map_cons, List.idxOf_cons] at ih ⊢
    rw [ih]
    by_cases e : y = x
    · simp [e]
    · rw [show (((y : Nat) : Int) == ((x : Nat) : Int)) = false by simp; omega, show (y == x) = false by simpa using e]

theorem place_ints (l : List Nat) (x : Nat) : place (ints l) ((x : Nat) : Int) = if x ∈ l then ((l.idxOf x : Nat) : Int) else -1 := by
  unfold place
  rw [ints_idx]
  simp only [ints_mem]

theorem place_neg (l : List Int) (x : Int) : decide (place l x ≥ 0) = decide (x ∈ l) := by
  unfold place
  split
  · rename_i h; simp [h]
  · rename_i h; simp [h]

theorem place_neg' (l : List Int) (x : Int) : decide (place l x < 0) = !decide (x ∈ l) := by
  unfold place
  split
  · rename_i h; simp [h]
  · rename_i h; simp [h]

/-- Is the class some byte's? -/
def Mdl.used (A : Mdl) (k : Nat) : Bool := decide (((k : Nat) : Int) ∈ A.c)
def Mdl.uc (A : Mdl) : List Nat := (List.range A.w).filter A.used
/-- The states that a state leads to, by the classes in order. -/
def Mdl.sC (A : Mdl) (s : Nat) : List Nat := A.uc.map (A.nc s)

theorem used_iff {A : Mdl} (h : MOk A) {k : Nat} : A.used k = true ↔ ∃ j, j < 256 ∧ A.ch j = k := by
  unfold Mdl.used
  rw [decide_eq_true_eq]
  constructor
  · intro hk
    obtain ⟨j, hj, e⟩ := List.getElem_of_mem hk
    have hj' : j < 256 := by rw [h.lc] at hj; exact hj
    refine ⟨j, hj', ?_⟩
    have := h.ch_eq hj'
    rw [getD_get A.c hj, e] at this
    omega
  · rintro ⟨j, hj, rfl⟩
    rw [← h.ch_eq hj, getD_get A.c (by rw [h.lc]; exact hj)]
    exact List.getElem_mem _

theorem uc_mem {A : Mdl} (h : MOk A) {k : Nat} : k ∈ A.uc ↔ ∃ j, j < 256 ∧ A.ch j = k := by
  unfold Mdl.uc
  rw [List.mem_filter, List.mem_range, used_iff h]
  exact ⟨fun x => x.2, fun x => ⟨by obtain ⟨j, hj, rfl⟩ := x; exact h.ch_lt hj, x⟩⟩

theorem sC_mem {A : Mdl} (h : MOk A) {s y : Nat} : y ∈ A.sC s ↔ y ∈ A.sB s := by
  unfold Mdl.sC Mdl.sB
  simp only [List.mem_map, List.mem_range]
  constructor
  · rintro ⟨k, hk, rfl⟩
    obtain ⟨j, hj, rfl⟩ := (uc_mem h).1 hk
    exact ⟨j, hj, rfl⟩
  · rintro ⟨j, hj, rfl⟩
    exact ⟨A.ch j, (uc_mem h).2 ⟨j, hj, rfl⟩, rfl⟩

theorem sreach_l2 {R : Type} {A : Mdl} (h : MOk A) (N : Nat) (hN : 1048576 < N) {i s : Nat} (hs : s < A.T) (k : Int → List Int → Int → List Int → List Int → List Int → List Int → Option R) :
    ∀ (d m j : Nat) (l : List Nat), j + d = A.w → d < m → (∀ x ∈ l, x < A.T) → l.Nodup → i < l.length → l.getD i 0 = s →
    F.spec_l2Reached_l2 N m (i : Int) (j : Int) A.c (A.w : Int) A.n A.t A.e (ints l) k =
      k (i : Int) A.c (A.w : Int) A.n A.t A.e (ints ((((List.range' j d).filter A.used).map (A.nc s)).foldl addNew l)) := by
  intro d
  induction d with
  | zero =>
    intro m j l hj hm hl hnd hi hsi
    obtain ⟨m, rfl⟩ : ∃ z, m = z + 1 := ⟨m - 1, by omega⟩
    simp only [F.spec_l2Reached_l2, F.spec_l2Reached_l2_s, Bool.cond_decide]
    rw [if_neg (by omega)]
    rfl
  | succ d ih =>
    intro m j l hj hm hl hnd hi hsi
    obtain ⟨m, rfl⟩ : ∃ z, m = z + 1 := ⟨m - 1, by omega⟩
    have hT := h.T2
    have hw := h.w2
    have hlen := nodup_le hnd hl
    obtain ⟨e1, e2⟩ := h.idx hs (show j < A.w by omega)
    have hnc := h.nc_lt hs (show j < A.w by omega)
    simp only [F.spec_l2Reached_l2, F.spec_l2Reached_l2_s]
    rw [Bool.cond_decide, if_pos (by omega), specPlace N A.c _ (by rw [h.lc]; omega) hN, inB_true (by omega) (by rw [ints_len]; omega), cond_true]
    simp only [Int.toNat_natCast, ints_get, hsi]
    rw [e1, inB_true (by omega) (by omega), cond_true]
    simp only [Int.toNat_natCast, h.nc_eq hs (show j < A.w by omega)]
    rw [place_neg, wrap_id (n := (j : Int) + 1) (by omega) (by omega), show (j : Int) + 1 = ((j + 1 : Nat) : Int) by omega]
    rw [show List.range' j (d + 1) = j :: List.range' (j + 1) d from List.range'_succ .., List.filter_cons]
    cases hu : A.used j
    · rw [show decide (((j : Nat) : Int) ∈ A.c) = false from hu, cond_false, if_neg (by simp)]
      exact ih m (j + 1) l (by omega) (by omega) hl hnd hi hsi
    · rw [show decide (((j : Nat) : Int) ∈ A.c) = true from hu, cond_true, if_pos rfl, List.map_cons, List.foldl_cons, specPlace1 N _ _ (by rw [ints_len]; omega) hN, place_neg', show decide (((A.nc s j : Nat) : Int) ∈ ints l) = decide (A.nc s j ∈ l) by simp only [ints_mem]]
      by_cases hin : A.nc s j ∈ l
      · rw [decide_eq_true hin, Bool.not_true, cond_false, show addNew l (A.nc s j) = l from if_pos hin]
        exact ih m (j + 1) l (by omega) (by omega) hl hnd hi hsi
      · have hadd : addNew l (A.nc s j) = l ++ [A.nc s j] := if_neg hin
        rw [decide_eq_false hin, Bool.not_false, cond_true, len_ble (by rw [ints_len]; omega) (by simp) (by omega), cond_true, ints_snoc, hadd]
        refine ih m (j + 1) _ (by omega) (by omega) ?_ (hadd ▸ addNew_nodup hnd) (by simp; omega) ?_
        · intro y hy
          rcases List.mem_append.1 hy with hy | hy
          · exact hl y hy
          · have : y = A.nc s j := by simpa using hy
            omega
        · rw [← hsi]; simp [List.getD_eq_getElem?_getD, List.getElem?_append_left hi]

theorem sC_lt {A : Mdl} (h : MOk A) {s : Nat} (hs : s < A.T) : ∀ x ∈ A.sC s, x < A.T := fun x hx => sB_lt h hs x ((sC_mem h).1 hx)

theorem sreach_l0 {R : Type} {A : Mdl} (h : MOk A) (N : Nat) (hN : 1048576 < N) (k : List Int → Option R) : ∀ (d m i : Nat) (l : List Nat), i + d = A.T + 1 → d < m → (∀ x ∈ l, x < A.T) → l.Nodup → i ≤ l.length →
    F.spec_l2Reached_l0 N m (i : Int) A.c (A.w : Int) A.n A.t A.e (ints l) k = k (ints (bfs A.sC d i l))
  | 0, m, i, l, hi, hm, hl, hnd, hil => by
    have := nodup_le hnd hl
    omega
  | d + 1, m, i, l, hi, hm, hl, hnd, hil => by
    obtain ⟨m, rfl⟩ : ∃ z, m = z + 1 := ⟨m - 1, by omega⟩
    simp only [F.spec_l2Reached_l0, F.spec_l2Reached_l0_s, Bool.cond_decide, ints_len, bfs]
    have hT := h.T2
    by_cases hlt : i < l.length
    · rw [if_pos (by omega)]
      have hx : l[i]? = some l[i] := List.getElem?_eq_getElem hlt
      have hs : l[i] < A.T := hl _ (List.getElem_mem _)
      have hg : l.getD i 0 = l[i] := by simp [List.getD_eq_getElem?_getD, hx]
      have hw := h.w2
      have := fun k' => sreach_l2 (R := R) h N hN hs k' A.w N 0 l (by omega) (by omega) hl hnd hlt hg
      refine (this _).trans ?_
      rw [hx]
      simp only
      rw [wrap_id (by omega) (by omega), show ((i : Int) + 1) = ((i + 1 : Nat) : Int) by omega]
      rw [show (List.map (A.nc l[i]) ((List.range' 0 A.w).filter A.used)) = A.sC l[i] by rw [← List.range_eq_range']; rfl]
      obtain ⟨r, hr⟩ := foldNew_pre (A.sC l[i]) l
      refine sreach_l0 h N hN k d m (i + 1) _ (by omega) (by omega) (foldNew_lt (sC_lt h hs) hl) (foldNew_nodup hnd) ?_
      rw [hr]; simp; omega
    · rw [if_neg (by omega), List.getElem?_eq_none (by omega)]

/-- The states that are reached, in the order of the classes. -/
def Mdl.Lc (A : Mdl) : List Nat := bfs A.sC (A.T + 1) 0 [0]

theorem specReached {R : Type} {A : Mdl} (h : MOk A) (N : Nat) (hN : 1048576 < N) (k : List Int → Option R) : F.spec_l2Reached N A.c (A.w : Int) A.n A.t A.e k = k (ints A.Lc) := by
  have hT1 := h.T1
  have hT2 := h.T2
  simp only [F.spec_l2Reached]
  have := sreach_l0 h N hN k (A.T + 1) N 0 [0] (by omega) (by omega) (by simp; omega) (by simp) (by simp)
  exact this

theorem bfs_T {A : Mdl} (h : MOk A) {succ : Nat → List Nat} (hs : ∀ s, s < A.T → ∀ x ∈ succ s, x < A.T) (d i : Nat) (l : List Nat) (hl : ∀ x ∈ l, x < A.T) (hn : l.Nodup) : (∀ x ∈ bfs succ d i l, x < A.T) ∧ (bfs succ d i l).length ≤ A.T := by
  have h1 : ∀ (d i : Nat) (l : List Nat), (∀ x ∈ l, x < A.T) → ∀ x ∈ bfs succ d i l, x < A.T := by
    intro d
    induction d with
    | zero => intro i l h; exact h
    | succ d ih =>
      intro i l h
      simp only [bfs]
      cases hx : l[i]? with
      | none => exact h
      | some x => exact ih _ _ (foldNew_lt (hs x (h x (List.mem_of_getElem? hx))) h)
  exact ⟨h1 d i l hl, nodup_le (bfs_nodup d i l hn) (h1 d i l hl)⟩

/-- What is known of a list of what is reached. -/
structure LOk (A : Mdl) (S : List Nat) : Prop where
  lt : ∀ x ∈ S, x < A.T
  len : S.length ≤ A.T
  nd : S.Nodup
  zero : 0 ∈ S
  cl : ∀ x ∈ S, ∀ j, j < 256 → A.nx x j ∈ S
  rch : ∀ x, x ∈ S ↔ Rch A.sB 0 x

theorem lb_ok {A : Mdl} (h : MOk A) : LOk A A.Lb := by
  have hT1 := h.T1
  obtain ⟨a, b⟩ := bfs_T (succ := A.sB) h (fun s hs => sB_lt h hs) (A.T + 1) 0 [0] (by simp; omega) (by simp)
  have hall := bfs_all (succ := A.sB) (x0 := 0) (d := A.T + 1) (by omega)
  refine ⟨a, b, bfs_nodup _ _ _ (by simp), (hall 0).2 .base, fun x hx j hj => (hall _).2 (.step ((hall x).1 hx) ?_), hall⟩
  simp only [Mdl.sB, List.mem_map, List.mem_range]
  exact ⟨j, hj, rfl⟩

theorem lc_ok {A : Mdl} (h : MOk A) : LOk A A.Lc := by
  have hT1 := h.T1
  obtain ⟨a, b⟩ := bfs_T (succ := A.sC) h (fun s hs => sC_lt h hs) (A.T + 1) 0 [0] (by simp; omega) (by simp)
  have hall := bfs_all (succ := A.sC) (x0 := 0) (d := A.T + 1) (by omega)
  have hiff : ∀ x, Rch A.sC 0 x ↔ Rch A.sB 0 x := by
    intro x
    constructor
    · intro hx
      induction hx with
      | base => exact .base
      | step _ hy ih => exact .step ih ((sC_mem h).1 hy)
    · intro hx
      induction hx with
      | base => exact .base
      | step _ hy ih => exact .step ih ((sC_mem h).2 hy)
  refine ⟨a, b, bfs_nodup _ _ _ (by simp), (hall 0).2 .base, fun x hx j hj => (hall _).2 (.step ((hall x).1 hx) ((sC_mem h).2 ?_)), fun x => (hall x).trans (hiff x)⟩
  simp only [Mdl.sB, List.mem_map, List.mem_range]
  exact ⟨j, hj, rfl⟩
/-! ### pairs that are told apart -/

theorem nd_idx : ∀ {l : List Nat}, l.Nodup → ∀ (i : Nat) (h : i < l.length), l.idxOf l[i] = i
  | [], _, i, h => by simp at h
  | x :: r, hn, 0, h => by simp
  | x :: r, hn, i + 1, h => by
    obtain ⟨h1, h2⟩ := List.nodup_cons.1 hn
    have hlt : i < r.length := by simpa using h
    rw [List.idxOf_cons]
    have hne : x ≠ (x :: r)[i + 1] := by
      intro e
      apply h1
      have : (x :: r)[i + 1] = r[i] := rfl
      rw [this] at e
      exact e ▸ List.getElem_mem hlt
    rw [show (x == (x :: r)[i + 1]) = false by simpa using hne]
    show r.idxOf r[i] + 1 = i + 1
    rw [nd_idx h2 i hlt]

/-- A table of pairs. -/
def mat (n : Nat) (M : Nat → Nat → Bool) : List (List Bool) := (List.range n).map fun x => (List.range n).map (M x)

theorem mat_len (n : Nat) (M : Nat → Nat → Bool) : (mat n M).length = n := by simp [mat]
theorem mat_row {n x : Nat} {M : Nat → Nat → Bool} (hx : x < n) (z : List Bool) : List.getD (mat n M) x z = (List.range n).map (M x) := by simp [mat, List.getD_eq_getElem?_getD, hx]
theorem row_len (n : Nat) (f : Nat → Bool) : ((List.range n).map f).length = n := by simp
theorem row_get {n y : Nat} {f : Nat → Bool} (hy : y < n) (z : Bool) : List.getD ((List.range n).map f) y z = f y := by simp [List.getD_eq_getElem?_getD, hy]

def updM (M : Nat → Nat → Bool) (x y : Nat) : Nat → Nat → Bool := fun a b => if a = x ∧ b = y then true else M a b

theorem mat_set {n x y : Nat} {M : Nat → Nat → Bool} (hx : x < n) : List.set (mat n M) x (List.set ((List.range n).map (M x)) y true) = mat n (updM M x y) := by
  apply List.ext_getElem?
  intro a
  simp only [mat, List.getElem?_set, List.length_map, List.length_range, List.getElem?_map]
  by_cases ha : a < n
  · rw [List.getElem?_range ha]
    by_cases e : x = a
    · subst e
      simp only [if_true, hx, Option.map_some, Option.some.injEq]
      apply List.ext_getElem?
      intro b
      simp only [List.getElem?_set, List.length_map, List.length_range, List.getElem?_map]
      by_cases hb : b < n
      · rw [List.getElem?_range hb]
        by_cases e2 : y = b
        · subst e2; simp [updM, hb]
        · simp [updM, e2, Ne.symm e2]
      · rw [List.getElem?_eq_none (show (List.range n).length ≤ b by simp; omega)]
        by_cases e2 : y = b
        · simp [e2, hb]
        · simp [e2]
    · simp only [e, if_false, Option.map_some, Option.some.injEq]
      apply List.map_congr_left
      intro b _
      simp [updM, Ne.symm e]
  · rw [List.getElem?_eq_none (show (List.range n).length ≤ a by simp; omega)]
    by_cases e : x = a
    · omega
    · simp [e]

/-- How the table turns. -/
structure Ch (A : Mdl) (L : List Nat) (M : Nat → Nat → Bool) (g : Bool) (M' : Nat → Nat → Bool) (g' : Bool) : Prop where
  mono : ∀ a b, M a b = true → M' a b = true
  sound : (∀ a b, a < L.length → b < L.length → M a b = true → ¬ A.Eqv (L.getD a 0) (L.getD b 0)) → ∀ a b, a < L.length → b < L.length → M' a b = true → ¬ A.Eqv (L.getD a 0) (L.getD b 0)
  gm : g = true → g' = true
  same : g' = false → M' = M
  new : g = false → g' = true → ∃ a b, a < L.length ∧ b < L.length ∧ M a b = false ∧ M' a b = true

theorem Ch.refl {A : Mdl} {L : List Nat} {M : Nat → Nat → Bool} {g : Bool} : Ch A L M g M g := ⟨fun _ _ h => h, fun h => h, fun h => h, fun _ => rfl, fun h k => by rw [h] at k; cases k⟩

theorem Ch.trans {A : Mdl} {L : List Nat} {M M1 M2 : Nat → Nat → Bool} {g g1 g2 : Bool} (h : Ch A L M g M1 g1) (k : Ch A L M1 g1 M2 g2) : Ch A L M g M2 g2 where
  mono a b e := k.mono a b (h.mono a b e)
  sound e := k.sound (h.sound e)
  gm e := k.gm (h.gm e)
  same e := by
    have : g1 = false := by
      cases hg : g1 with
      | false => rfl
      | true => rw [k.gm hg] at e; cases e
    rw [k.same e, h.same this]
  new e1 e2 := by
    cases hg : g1 with
    | true =>
      obtain ⟨a, b, q1, q2, q3, q4⟩ := h.new e1 hg
      exact ⟨a, b, q1, q2, q3, k.mono a b q4⟩
    | false =>
      have := h.same hg
      subst this
      exact k.new hg e2

section
variable {A : Mdl} {L : List Nat}

/-- Where a class leads from the state at place x. -/
def tx (A : Mdl) (L : List Nat) (x c : Nat) : Nat := L.idxOf (A.nc (L.getD x 0) c)

theorem L_at {x : Nat} (hx : x < L.length) : L.getD x 0 ∈ L ∧ L.getD x 0 = L[x] := by
  have e : L.getD x 0 = L[x] := by simp [List.getD_eq_getElem?_getD, hx]
  exact ⟨e ▸ List.getElem_mem hx, e⟩

theorem tx_ok (h : MOk A) (hL : LOk A L) {x c : Nat} (hx : x < L.length) (hc : c ∈ A.uc) : tx A L x c < L.length ∧ L.getD (tx A L x c) 0 = A.nc (L.getD x 0) c ∧ A.nc (L.getD x 0) c ∈ L := by
  obtain ⟨j, hj, e⟩ := (uc_mem h).1 hc
  have hm : A.nc (L.getD x 0) c ∈ L := by
    have := hL.cl _ (L_at hx).1 j hj
    unfold Mdl.nx at this
    rwa [e] at this
  have hlt := List.idxOf_lt_length_iff.2 hm
  refine ⟨hlt, ?_, hm⟩
  unfold tx
  rw [(L_at hlt).2]
  exact List.getElem_idxOf hlt

/-- What one pair's look at the classes leaves. -/
theorem apt_l14 (h : MOk A) (hL : LOk A L) (N : Nat) {x y : Nat} (hx : x < L.length) (hy : y < L.length) : ∀ (d m i : Nat) (M : Nat → Nat → Bool) (g : Bool), i + d = A.uc.length → d < m →
    ∃ M' g', (∀ {R : Type} (k : List Int → Int → Bool → Int → Int → List Int → Int → List Int → List Int → List Int → List Int → List Int → List (List Bool) → Option R),
      F.spec_l2Apart_l14 N m (ints L) (L.length : Int) g (x : Int) (y : Int) (A.uc.length : Int) (i : Int) A.c (A.w : Int) A.n A.t A.e (ofL A.T (fun s => L.idxOf s) L) (ints A.uc) (mat L.length M) k =
        k (ints L) (L.length : Int) g' (x : Int) (y : Int) A.c (A.w : Int) A.n A.t A.e (ofL A.T (fun s => L.idxOf s) L) (ints A.uc) (mat L.length M')) ∧
      (M x y = false → Ch A L M g M' g') ∧ (∀ a b, M a b = true → M' a b = true) ∧ (g = true → g' = true) ∧
      (M x y = true → Ch A L M true M' true) ∧ (g' = false → ∀ r, i ≤ r → r < A.uc.length → M (tx A L x (A.uc.getD r 0)) (tx A L y (A.uc.getD r 0)) = false)
  | 0, m, i, M, g, hi, hm => by
    obtain ⟨m, rfl⟩ : ∃ z, m = z + 1 := ⟨m - 1, by omega⟩
    refine ⟨M, g, fun k => ?_, fun _ => .refl, fun _ _ e => e, fun e => e, fun _ => .refl, fun _ r h1 h2 => by omega⟩
    simp only [F.spec_l2Apart_l14, F.spec_l2Apart_l14_s, Bool.cond_decide]
    rw [if_neg (by omega)]
  | d + 1, m, i, M, g, hi, hm => by
    obtain ⟨m, rfl⟩ : ∃ z, m = z + 1 := ⟨m - 1, by omega⟩
    have hT := h.T2
    have hw := h.w2
    have hn := hL.len
    have hlt : i < A.uc.length := by omega
    have hul : A.uc.length ≤ A.w := by
      have := List.length_filter_le A.used (List.range A.w)
      simpa [Mdl.uc] using this
    have hcm : A.uc[i] ∈ A.uc := List.getElem_mem hlt
    have hcw : A.uc[i] < A.w := by
      have := hcm
      unfold Mdl.uc at this
      rw [List.mem_filter, List.mem_range] at this
      exact this.1
    have hsx := (L_at hx).1
    have hsy := (L_at hy).1
    obtain ⟨p1, p2, p3⟩ := tx_ok h hL hx hcm
    obtain ⟨q1, q2, q3⟩ := tx_ok h hL hy hcm
    obtain ⟨e1, e2⟩ := h.idx (hL.lt _ hsx) hcw
    obtain ⟨f1, f2⟩ := h.idx (hL.lt _ hsy) hcw
    have hgd : A.uc.getD i 0 = A.uc[i] := (by simp [List.getD_eq_getElem?_getD, hlt])
    have hstep : ∀ {R : Type} (k : List Int → Int → Bool → Int → Int → List Int → Int → List Int → List Int → List Int → List Int → List Int → List (List Bool) → Option R),
        F.spec_l2Apart_l14 N (m + 1) (ints L) (L.length : Int) g (x : Int) (y : Int) (A.uc.length : Int) (i : Int) A.c (A.w : Int) A.n A.t A.e (ofL A.T (fun s => L.idxOf s) L) (ints A.uc) (mat L.length M) k =
        bif M (tx A L x A.uc[i]) (tx A L y A.uc[i]) then F.spec_l2Apart_l14 N m (ints L) (L.length : Int) true (x : Int) (y : Int) (A.uc.length : Int) ((i + 1 : Nat) : Int) A.c (A.w : Int) A.n A.t A.e (ofL A.T (fun s => L.idxOf s) L) (ints A.uc) (mat L.length (updM M x y)) k
        else F.spec_l2Apart_l14 N m (ints L) (L.length : Int) g (x : Int) (y : Int) (A.uc.length : Int) ((i + 1 : Nat) : Int) A.c (A.w : Int) A.n A.t A.e (ofL A.T (fun s => L.idxOf s) L) (ints A.uc) (mat L.length M) k := by
      intro R k
      simp only [F.spec_l2Apart_l14, F.spec_l2Apart_l14_s, Bool.cond_decide, ints_len, mat_len, ofL_len]
      rw [if_pos (by omega), inB_true (by omega) (by omega), inB_true (by omega) (by omega), inB_true (i := (y : Int)) (by omega) (by omega), wrap_id (n := (i : Int) + 1) (by omega) (by omega)]
      simp only [cond_true, Int.toNat_natCast, ints_at hlt, ints_get]
      rw [e1, inB_true (by omega) (by omega), f1, inB_true (i := ((L.getD y 0 * A.w + A.uc[i] : Nat) : Int)) (by omega) (by omega)]
      simp only [cond_true, Int.toNat_natCast, h.nc_eq (hL.lt _ hsx) hcw, h.nc_eq (hL.lt _ hsy) hcw]
      rw [inB_true (by omega) (by have := hL.lt _ p3; omega), inB_true (i := ((A.nc (L.getD y 0) A.uc[i] : Nat) : Int)) (by omega) (by have := hL.lt _ q3; omega)]
      simp only [cond_true, ofL_get (hL.lt _ p3) p3, ofL_get (hL.lt _ q3) q3, Int.toNat_natCast]
      rw [show L.idxOf (A.nc (L.getD x 0) A.uc[i]) = tx A L x A.uc[i] from rfl, show L.idxOf (A.nc (L.getD y 0) A.uc[i]) = tx A L y A.uc[i] from rfl]
      rw [inB_true (by omega) (by omega), cond_true]
      simp only [mat_row p1, mat_row hx, row_len, row_get q1]
      rw [inB_true (by omega) (by omega), cond_true, inB_true (by omega) (by omega), cond_true, mat_set hx]
      rfl
    cases hM : M (tx A L x A.uc[i]) (tx A L y A.uc[i])
    · obtain ⟨M', g', k1, k2, k3, k4, k5, k6⟩ := apt_l14 h hL N hx hy d m (i + 1) M g (by omega) (by omega)
      refine ⟨M', g', fun k => by rw [hstep, hM, cond_false]; exact k1 k, k2, k3, k4, k5, fun e r h1 h2 => ?_⟩
      by_cases hr : r = i
      · subst hr; rw [hgd]; exact hM
      · exact k6 e r (by omega) h2
    · obtain ⟨M', g', k1, k2, k3, k4, k5, k6⟩ := apt_l14 h hL N hx hy d m (i + 1) (updM M x y) true (by omega) (by omega)
      have hup : updM M x y x y = true := by simp [updM]
      have hch := k5 hup
      have hg' : g' = true := k4 rfl
      have hmono : ∀ a b, M a b = true → updM M x y a b = true := fun a b e => by unfold updM; split <;> first | rfl | exact e
      have hsound : (∀ a b, a < L.length → b < L.length → M a b = true → ¬ A.Eqv (L.getD a 0) (L.getD b 0)) → ∀ a b, a < L.length → b < L.length → updM M x y a b = true → ¬ A.Eqv (L.getD a 0) (L.getD b 0) := by
        intro hs a b ha hb e
        unfold updM at e
        split at e
        · rename_i hab
          obtain ⟨rfl, rfl⟩ := hab
          intro heq
          obtain ⟨j, hj, ej⟩ := (uc_mem h).1 hcm
          have := heq.step hj
          unfold Mdl.nx at this
          rw [ej, ← p2, ← q2] at this
          exact hs _ _ p1 q1 hM this
        · exact hs a b ha hb e
      refine ⟨M', g', fun k => by rw [hstep, hM, cond_true]; exact k1 k, fun e => ⟨fun a b e => hch.mono a b (hmono a b e), fun e => hch.sound (hsound e), fun _ => hg', fun e => (by rw [hg'] at e; cases e), fun _ _ => ⟨x, y, hx, hy, e, hch.mono x y hup⟩⟩, fun a b e => k3 a b (hmono a b e), fun _ => hg', fun e => ?_, fun e => (by rw [hg'] at e; cases e)⟩
      exact ⟨fun a b e => hch.mono a b (hmono a b e), fun e => hch.sound (hsound e), fun _ => rfl, fun e => (by cases e), fun e => (by cases e)⟩

/-- No class leads the pair to one that is told apart. -/
def calmAt (A : Mdl) (L : List Nat) (M : Nat → Nat → Bool) (x y : Nat) : Prop := M x y = false → ∀ c ∈ A.uc, M (tx A L x c) (tx A L y c) = false

theorem apt_l12 (h : MOk A) (hL : LOk A L) (N : Nat) (hN : 1048576 < N) {x : Nat} (hx : x < L.length) : ∀ (d m y : Nat) (M : Nat → Nat → Bool) (g : Bool), y + d = L.length → d < m →
    ∃ M' g', (∀ {R : Type} (k : List Int → Int → Bool → Int → List Int → Int → List Int → List Int → List Int → List Int → List Int → List (List Bool) → Option R),
      F.spec_l2Apart_l12 N m (ints L) (L.length : Int) g (x : Int) (y : Int) A.c (A.w : Int) A.n A.t A.e (ofL A.T (fun s => L.idxOf s) L) (ints A.uc) (mat L.length M) k =
        k (ints L) (L.length : Int) g' (x : Int) A.c (A.w : Int) A.n A.t A.e (ofL A.T (fun s => L.idxOf s) L) (ints A.uc) (mat L.length M')) ∧
      Ch A L M g M' g' ∧ (g' = false → ∀ b, y ≤ b → b < L.length → calmAt A L M x b)
  | 0, m, y, M, g, hi, hm => by
    obtain ⟨m, rfl⟩ : ∃ z, m = z + 1 := ⟨m - 1, by omega⟩
    refine ⟨M, g, fun k => ?_, .refl, fun _ b h1 h2 => by omega⟩
    simp only [F.spec_l2Apart_l12, F.spec_l2Apart_l12_s, Bool.cond_decide]
    rw [if_neg (by omega)]
  | d + 1, m, y, M, g, hi, hm => by
    obtain ⟨m, rfl⟩ : ∃ z, m = z + 1 := ⟨m - 1, by omega⟩
    have hT := h.T2
    have hw := h.w2
    have hn := hL.len
    have hy : y < L.length := by omega
    have hul : A.uc.length ≤ A.w := by
      have := List.length_filter_le A.used (List.range A.w)
      simpa [Mdl.uc] using this
    have base : ∀ {R : Type} (k : List Int → Int → Bool → Int → List Int → Int → List Int → List Int → List Int → List Int → List Int → List (List Bool) → Option R),
        F.spec_l2Apart_l12 N (m + 1) (ints L) (L.length : Int) g (x : Int) (y : Int) A.c (A.w : Int) A.n A.t A.e (ofL A.T (fun s => L.idxOf s) L) (ints A.uc) (mat L.length M) k =
        bif M x y then F.spec_l2Apart_l12 N m (ints L) (L.length : Int) g (x : Int) ((y + 1 : Nat) : Int) A.c (A.w : Int) A.n A.t A.e (ofL A.T (fun s => L.idxOf s) L) (ints A.uc) (mat L.length M) k
        else F.spec_l2Apart_l14 N N (ints L) (L.length : Int) g (x : Int) (y : Int) (A.uc.length : Int) 0 A.c (A.w : Int) A.n A.t A.e (ofL A.T (fun s => L.idxOf s) L) (ints A.uc) (mat L.length M)
          (fun y143 y144 y145 y146 y147 y148 y149 y150 y151 y152 y153 y154 y155 => F.spec_l2Apart_l12 N m y143 y144 y145 y146 (wrapK .i64 (y147 + 1)) y148 y149 y150 y151 y152 y153 y154 y155 k) := by
      intro R k
      simp only [F.spec_l2Apart_l12, F.spec_l2Apart_l12_s, Bool.cond_decide, ints_len, mat_len]
      rw [if_pos (by omega), inB_true (by omega) (by omega), cond_true]
      simp only [Int.toNat_natCast, mat_row hx, row_len, row_get hy]
      rw [inB_true (by omega) (by omega), cond_true, wrap_id (n := (y : Int) + 1) (by omega) (by omega)]
      rfl
    cases hM : M x y
    · obtain ⟨M1, g1, k1, k2, k3, k4, k5, k6⟩ := apt_l14 h hL N hx hy A.uc.length N 0 M g (by omega) (by omega)
      obtain ⟨M2, g2, j1, j2, j3⟩ := apt_l12 h hL N hN hx d m (y + 1) M1 g1 (by omega) (by omega)
      refine ⟨M2, g2, fun k => ?_, (k2 hM).trans j2, fun e b h1 h2 => ?_⟩
      · rw [base, hM, cond_false]
        refine (k1 _).trans ?_
        rw [wrap_id (n := (y : Int) + 1) (by omega) (by omega)]
        exact j1 k
      · have hg1 : g1 = false := by
          cases hg : g1 with
          | false => rfl
          | true => rw [j2.gm hg] at e; cases e
        have hsame := (k2 hM).same hg1
        by_cases hb : b = y
        · subst hb
          intro _ c hc
          obtain ⟨r, hr, rfl⟩ := List.getElem_of_mem hc
          have := k6 hg1 r (Nat.zero_le _) hr
          rwa [show A.uc.getD r 0 = A.uc[r] by simp [List.getD_eq_getElem?_getD, hr]] at this
        · have := j3 e b (by omega) h2
          rwa [hsame] at this
    · obtain ⟨M2, g2, j1, j2, j3⟩ := apt_l12 h hL N hN hx d m (y + 1) M g (by omega) (by omega)
      refine ⟨M2, g2, fun k => by rw [base, hM, cond_true]; exact j1 k, j2, fun e b h1 h2 => ?_⟩
      by_cases hb : b = y
      · subst hb; intro e'; rw [hM] at e'; cases e'
      · exact j3 e b (by omega) h2

theorem apt_l10 (h : MOk A) (hL : LOk A L) (N : Nat) (hN : 1048576 < N) : ∀ (d m x : Nat) (M : Nat → Nat → Bool) (g : Bool), x + d = L.length → d < m →
    ∃ M' g', (∀ {R : Type} (k : List Int → Int → Bool → List Int → Int → List Int → List Int → List Int → List Int → List Int → List (List Bool) → Option R),
      F.spec_l2Apart_l10 N m (ints L) (L.length : Int) g (x : Int) A.c (A.w : Int) A.n A.t A.e (ofL A.T (fun s => L.idxOf s) L) (ints A.uc) (mat L.length M) k =
        k (ints L) (L.length : Int) g' A.c (A.w : Int) A.n A.t A.e (ofL A.T (fun s => L.idxOf s) L) (ints A.uc) (mat L.length M')) ∧
      Ch A L M g M' g' ∧ (g' = false → ∀ a b, x ≤ a → a < L.length → b < L.length → calmAt A L M a b)
  | 0, m, x, M, g, hi, hm => by
    obtain ⟨m, rfl⟩ : ∃ z, m = z + 1 := ⟨m - 1, by omega⟩
    refine ⟨M, g, fun k => ?_, .refl, fun _ a b h1 h2 => by omega⟩
    simp only [F.spec_l2Apart_l10, F.spec_l2Apart_l10_s, Bool.cond_decide]
    rw [if_neg (by omega)]
  | d + 1, m, x, M, g, hi, hm => by
    obtain ⟨m, rfl⟩ : ∃ z, m = z + 1 := ⟨m - 1, by omega⟩
    have hT := h.T2
    have hn := hL.len
    obtain ⟨M1, g1, k1, k2, k3⟩ := apt_l12 h hL N hN (x := x) (by omega) L.length N 0 M g (by omega) (by omega)
    obtain ⟨M2, g2, j1, j2, j3⟩ := apt_l10 h hL N hN d m (x + 1) M1 g1 (by omega) (by omega)
    refine ⟨M2, g2, fun k => ?_, k2.trans j2, fun e a b h1 h2 h3 => ?_⟩
    · simp only [F.spec_l2Apart_l10, F.spec_l2Apart_l10_s, Bool.cond_decide]
      rw [if_pos (by omega)]
      refine (k1 _).trans ?_
      rw [wrap_id (n := (x : Int) + 1) (by omega) (by omega)]
      exact j1 k
    · have hg1 : g1 = false := by
        cases hg : g1 with
        | false => rfl
        | true => rw [j2.gm hg] at e; cases e
      have hsame := k2.same hg1
      by_cases hb : a = x
      · subst hb; exact k3 hg1 b (Nat.zero_le _) h3
      · have := j3 e a b (by omega) h2 h3
        rwa [hsame] at this

/-- How many pairs are not told apart. -/
def fal (n : Nat) (M : Nat → Nat → Bool) : Nat := (((List.range n).flatMap fun x => (List.range n).map fun y => (x, y)).filter fun p => !M p.1 p.2).length

theorem filter_lt {α : Type} {p q : α → Bool} : ∀ {l : List α}, (∀ x ∈ l, q x = true → p x = true) → (l.filter q).length ≤ (l.filter p).length ∧ ((∃ x ∈ l, p x = true ∧ q x = false) → (l.filter q).length < (l.filter p).length)
  | [], _ => ⟨Nat.le_refl _, fun ⟨x, hx, _⟩ => by simp at hx⟩
  | a :: l, h => by
    obtain ⟨i1, i2⟩ := filter_lt (l := l) fun x hx => h x (by simp [hx])
    have ha := h a (by simp)
    simp only [List.filter_cons]
    cases hq : q a
    · cases hp : p a
      · refine ⟨by simpa using i1, fun ⟨x, hx, e1, e2⟩ => ?_⟩
        rcases List.mem_cons.1 hx with rfl | hx
        · rw [hp] at e1; cases e1
        · simpa using i2 ⟨x, hx, e1, e2⟩
      · simp only [if_true, Bool.false_eq_true, if_false, List.length_cons]
        exact ⟨by omega, fun _ => by omega⟩
    · rw [ha hq]
      simp only [if_true, List.length_cons]
      refine ⟨by omega, fun ⟨x, hx, e1, e2⟩ => ?_⟩
      rcases List.mem_cons.1 hx with rfl | hx
      · rw [hq] at e2; cases e2
      · have := i2 ⟨x, hx, e1, e2⟩; omega

theorem fal_lt {n : Nat} {M M' : Nat → Nat → Bool} (h : ∀ a b, M a b = true → M' a b = true) (k : ∃ a b, a < n ∧ b < n ∧ M a b = false ∧ M' a b = true) : fal n M' < fal n M := by
  obtain ⟨a, b, ha, hb, e1, e2⟩ := k
  refine (filter_lt fun p _ e => ?_).2 ⟨(a, b), ?_, by simp [e1], by simp [e2]⟩
  · cases hM : M p.1 p.2
    · rfl
    · have := h _ _ hM
      simp [this] at e
  · simp only [List.mem_flatMap, List.mem_range, List.mem_map, Prod.mk.injEq]
    exact ⟨a, ha, b, hb, rfl, rfl⟩

theorem fal_le (n : Nat) (M : Nat → Nat → Bool) : fal n M ≤ n * n := by
  unfold fal
  refine Nat.le_trans (List.length_filter_le _ _) ?_
  have : ∀ l : List Nat, (l.flatMap fun x => (List.range n).map fun y => (x, y)).length = l.length * n := by
    intro l
    induction l with
    | nil => simp
    | cons a l ih => rw [List.flatMap_cons, List.length_append, ih, List.length_cons, Nat.succ_mul]; simp; omega
  rw [this, List.length_range]
  exact Nat.le_refl _

theorem apt_l8 (h : MOk A) (hL : LOk A L) (N : Nat) (hN : 1048576 < N) : ∀ (m : Nat) (M : Nat → Nat → Bool) (g : Bool), (g = false ∧ 1 ≤ m) ∨ fal L.length M + 3 ≤ m → (g = false → ∀ a b, a < L.length → b < L.length → calmAt A L M a b) →
    (∀ a b, a < L.length → b < L.length → M a b = true → ¬ A.Eqv (L.getD a 0) (L.getD b 0)) →
    ∃ M', (∀ {R : Type} (k : List (List Bool) → Option R), F.spec_l2Apart_l8 N m (ints L) (L.length : Int) g A.c (A.w : Int) A.n A.t A.e (ofL A.T (fun s => L.idxOf s) L) (ints A.uc) (mat L.length M) k = k (mat L.length M')) ∧
      (∀ a b, M a b = true → M' a b = true) ∧ (∀ a b, a < L.length → b < L.length → calmAt A L M' a b) ∧ (∀ a b, a < L.length → b < L.length → M' a b = true → ¬ A.Eqv (L.getD a 0) (L.getD b 0))
  | 0, M, g, hm, hg, hs => by omega
  | m + 1, M, g, hm, hg, hs => by
    cases g with
    | false =>
      refine ⟨M, fun k => ?_, fun _ _ e => e, hg rfl, hs⟩
      simp only [F.spec_l2Apart_l8, F.spec_l2Apart_l8_s, cond_false]
    | true =>
      have hm' : fal L.length M + 3 ≤ m + 1 := by simpa using hm
      have hT := h.T2
      have hn := hL.len
      obtain ⟨M1, g1, k1, k2, k3⟩ := apt_l10 h hL N hN L.length N 0 M false (by omega) (by omega)
      have hdec : (g1 = false ∧ 1 ≤ m) ∨ fal L.length M1 + 3 ≤ m := by
        cases hg1 : g1 with
        | false => exact .inl ⟨rfl, by omega⟩
        | true =>
          have := fal_lt (n := L.length) k2.mono (k2.new rfl hg1)
          exact .inr (by omega)
      obtain ⟨M2, j1, j2, j3, j4⟩ := apt_l8 h hL N hN m M1 g1 hdec (fun e a b ha hb => by
        rw [k2.same e]
        exact k3 e a b (Nat.zero_le _) ha hb) (k2.sound hs)
      refine ⟨M2, fun k => ?_, fun a b e => j2 a b (k2.mono a b e), j3, j4⟩
      simp only [F.spec_l2Apart_l8, F.spec_l2Apart_l8_s, cond_true]
      refine (k1 _).trans ?_
      exact j1 k

end
/-! ### the table, whole -/

section
variable {A : Mdl} {L : List Nat}

theorem apt_l0 {R : Type} (h : MOk A) (hL : LOk A L) (N : Nat) (p : List Int) (q : Int) (k : List Int → Int → List Int → Int → List Int → List Int → List Int → List Int → Option R) : ∀ (d m i : Nat), i + d = L.length → d < m →
    F.spec_l2Apart_l0 N m p q (ints L) (L.length : Int) (i : Int) A.c (A.w : Int) A.n A.t A.e (ofL A.T (fun s => L.idxOf s) (L.take i)) k = k p q A.c (A.w : Int) A.n A.t A.e (ofL A.T (fun s => L.idxOf s) L) := by
  intro d
  induction d with
  | zero =>
    intro m i hi hm
    obtain ⟨m, rfl⟩ : ∃ z, m = z + 1 := ⟨m - 1, by omega⟩
    simp only [F.spec_l2Apart_l0, F.spec_l2Apart_l0_s, Bool.cond_decide]
    rw [if_neg (by omega), List.take_of_length_le (by omega)]
  | succ d ih =>
    intro m i hi hm
    obtain ⟨m, rfl⟩ : ∃ z, m = z + 1 := ⟨m - 1, by omega⟩
    have hT := h.T2
    have hn := hL.len
    have hlt : i < L.length := by omega
    have hs := hL.lt _ (List.getElem_mem hlt)
    simp only [F.spec_l2Apart_l0, F.spec_l2Apart_l0_s, Bool.cond_decide, ints_len, ofL_len]
    rw [if_pos (by omega), inB_true (by omega) (by omega), wrap_id (n := (i : Int) + 1) (by omega) (by omega)]
    simp only [cond_true, Int.toNat_natCast, ints_at hlt]
    rw [inB_true (by omega) (by omega), cond_true]
    have ih := ih m (i + 1) (by omega) (by omega)
    have hidx : L.idxOf L[i] = i := nd_idx hL.nd i hlt
    rw [show ((i + 1 : Nat) : Int) = (i : Int) + 1 by omega, List.take_succ_eq_append_getElem (i := i) hlt, ← ofL_set] at ih
    simp only [hidx] at ih
    exact ih

theorem apt_l2 {R : Type} (h : MOk A) (N : Nat) (hN : 1048576 < N) (p : List Int) (q : Int) (a1 a2 a3 a4 : List Int) (k : List Int → Int → List Int → Int → List Int → List Int → List Int → List Int → List Int → Option R) : ∀ (d m j : Nat) (u : List Nat), j + d = A.w → d < m → u.length ≤ j →
    F.spec_l2Apart_l2 N m p q (j : Int) A.c (A.w : Int) a1 a2 a3 a4 (ints u) k = k p q A.c (A.w : Int) a1 a2 a3 a4 (ints (u ++ (List.range' j d).filter A.used)) := by
  intro d
  induction d with
  | zero =>
    intro m j u hj hm hu
    obtain ⟨m, rfl⟩ : ∃ z, m = z + 1 := ⟨m - 1, by omega⟩
    simp only [F.spec_l2Apart_l2, F.spec_l2Apart_l2_s, Bool.cond_decide]
    rw [if_neg (by omega)]
    simp
  | succ d ih =>
    intro m j u hj hm hu
    obtain ⟨m, rfl⟩ : ∃ z, m = z + 1 := ⟨m - 1, by omega⟩
    have hw := h.w2
    simp only [F.spec_l2Apart_l2, F.spec_l2Apart_l2_s]
    rw [Bool.cond_decide, if_pos (by omega), specPlace N A.c _ (by rw [h.lc]; omega) hN, place_neg, wrap_id (n := (j : Int) + 1) (by omega) (by omega), show (j : Int) + 1 = ((j + 1 : Nat) : Int) by omega]
    rw [show List.range' j (d + 1) = j :: List.range' (j + 1) d from List.range'_succ .., List.filter_cons]
    cases hu' : A.used j
    · rw [show decide (((j : Nat) : Int) ∈ A.c) = false from hu', cond_false, if_neg (by simp)]
      exact ih m (j + 1) u (by omega) (by omega) (by omega)
    · rw [show decide (((j : Nat) : Int) ∈ A.c) = true from hu', cond_true, if_pos rfl, len_ble (by rw [ints_len]; omega) (by simp) (by omega), cond_true, ints_snoc]
      have := ih m (j + 1) (u ++ [j]) (by omega) (by omega) (by simp; omega)
      rw [this, List.append_assoc]
      rfl

/-- To begin with. -/
def M0 (A : Mdl) (L : List Nat) (x y : Nat) : Bool := decide (A.t.getD (L.getD x 0) 0 ≠ A.t.getD (L.getD y 0) 0) || decide (A.e.getD (L.getD x 0) 0 ≠ A.e.getD (L.getD y 0) 0)

/-- A row so far. -/
def bofL (n : Nat) (f : Nat → Bool) (i : Nat) : List Bool := (List.range n).map fun y => if y < i then f y else false

theorem bofL_set {n i : Nat} {f : Nat → Bool} : List.set (bofL n f i) i (f i) = bofL n f (i + 1) := by
  apply List.ext_getElem?
  intro a
  simp only [bofL, List.getElem?_set, List.length_map, List.length_range, List.getElem?_map]
  by_cases ha : a < n
  · rw [List.getElem?_range ha]
    by_cases e : i = a
    · subst e; simp [ha]
    · have : a < i + 1 ↔ a < i := by omega
      simp [e, this]
  · rw [List.getElem?_eq_none (show (List.range n).length ≤ a by simp; omega)]
    by_cases e : i = a
    · simp [e, ha]
    · simp [e]

theorem apt_l6 {R : Type} (h : MOk A) (hL : LOk A L) (N : Nat) {x : Nat} (hx : x < L.length) (b1 b2 : List Int) (tb : List (List Bool)) (k : List Int → Int → Int → List Int → Int → List Int → List Int → List Int → List Int → List Int → List (List Bool) → List Bool → Option R) :
    ∀ (d m y : Nat), y + d = L.length → d < m →
    F.spec_l2Apart_l6 N m (ints L) (L.length : Int) (x : Int) (y : Int) A.c (A.w : Int) A.n A.t A.e b1 b2 tb (bofL L.length (M0 A L x) y) k =
      k (ints L) (L.length : Int) (x : Int) A.c (A.w : Int) A.n A.t A.e b1 b2 tb (bofL L.length (M0 A L x) L.length) := by
  intro d
  induction d with
  | zero =>
    intro m y hy hm
    obtain ⟨m, rfl⟩ : ∃ z, m = z + 1 := ⟨m - 1, by omega⟩
    simp only [F.spec_l2Apart_l6, F.spec_l2Apart_l6_s, Bool.cond_decide]
    rw [if_neg (by omega), show y = L.length by omega]
  | succ d ih =>
    intro m y hy hm
    obtain ⟨m, rfl⟩ : ∃ z, m = z + 1 := ⟨m - 1, by omega⟩
    have hT := h.T2
    have hn := hL.len
    have hlt : y < L.length := by omega
    have hsx := hL.lt _ (L_at hx).1
    have hsy := hL.lt _ (L_at hlt).1
    have hbl : (bofL L.length (M0 A L x) y).length = L.length := by simp [bofL]
    simp only [F.spec_l2Apart_l6, F.spec_l2Apart_l6_s, Bool.cond_decide, ints_len, hbl]
    rw [if_pos (by omega), inB_true (by omega) (by omega), inB_true (i := (y : Int)) (by omega) (by omega), wrap_id (n := (y : Int) + 1) (by omega) (by omega)]
    simp only [cond_true, Int.toNat_natCast, ints_get]
    rw [inB_true (by omega) (by rw [h.lt]; omega), inB_true (i := ((L.getD y 0 : Nat) : Int)) (by omega) (by rw [h.lt]; omega), inB_true (by omega) (by rw [h.le]; omega), inB_true (i := ((L.getD y 0 : Nat) : Int)) (by omega) (by rw [h.le]; omega)]
    simp only [cond_true]
    have ih := ih m (y + 1) (by omega) (by omega)
    rw [← bofL_set, show ((y + 1 : Nat) : Int) = (y : Int) + 1 by omega] at ih
    rw [← ih]
    have hM : M0 A L x y = bif (List.getD A.t (L.getD x 0) 0 != List.getD A.t (L.getD y 0) 0) then true else (List.getD A.e (L.getD x 0) 0 != List.getD A.e (L.getD y 0) 0) := by
      unfold M0
      by_cases e1 : A.t.getD (L.getD x 0) 0 = A.t.getD (L.getD y 0) 0
      · simp only [e1, ne_eq, not_true, decide_false, Bool.false_or, bne_self_eq_false, cond_false]
        rw [Bool.eq_iff_iff]
        simp only [decide_eq_true_eq, bne_iff_ne, ne_eq]
      · rw [show (List.getD A.t (L.getD x 0) 0 != List.getD A.t (L.getD y 0) 0) = true from bne_iff_ne.2 e1, decide_eq_true e1]
        rfl
    rw [hM]
    cases (List.getD A.t (L.getD x 0) 0 != List.getD A.t (L.getD y 0) 0) <;> rfl

theorem bofL_all (n : Nat) (f : Nat → Bool) : bofL n f n = (List.range n).map f := by
  unfold bofL
  apply List.map_congr_left
  intro y hy
  rw [if_pos (List.mem_range.1 hy)]

theorem bofL_zero (n : Nat) (f : Nat → Bool) : bofL n f 0 = List.replicate n false := by
  unfold bofL
  apply List.ext_getElem?
  intro a
  simp only [List.getElem?_map, List.getElem?_replicate, Nat.not_lt_zero, if_false]
  by_cases ha : a < n
  · rw [List.getElem?_range ha]; simp [ha]
  · rw [List.getElem?_eq_none (show (List.range n).length ≤ a by simp; omega)]; simp [ha]

theorem apt_l4 {R : Type} (h : MOk A) (hL : LOk A L) (N : Nat) (hN : 1048576 < N) (b1 b2 : List Int) (k : List Int → Int → List Int → Int → List Int → List Int → List Int → List Int → List Int → List (List Bool) → Option R) :
    ∀ (d m x : Nat), x + d = L.length → d < m →
    F.spec_l2Apart_l4 N m (ints L) (L.length : Int) (x : Int) A.c (A.w : Int) A.n A.t A.e b1 b2 ((List.range x).map fun x => (List.range L.length).map (M0 A L x)) k =
      k (ints L) (L.length : Int) A.c (A.w : Int) A.n A.t A.e b1 b2 (mat L.length (M0 A L)) := by
  intro d
  induction d with
  | zero =>
    intro m x hx hm
    obtain ⟨m, rfl⟩ : ∃ z, m = z + 1 := ⟨m - 1, by omega⟩
    simp only [F.spec_l2Apart_l4, F.spec_l2Apart_l4_s, Bool.cond_decide]
    rw [if_neg (by omega), show x = L.length by omega]
    rfl
  | succ d ih =>
    intro m x hx hm
    obtain ⟨m, rfl⟩ : ∃ z, m = z + 1 := ⟨m - 1, by omega⟩
    have hT := h.T2
    have hn := hL.len
    simp only [F.spec_l2Apart_l4, F.spec_l2Apart_l4_s, Bool.cond_decide]
    rw [if_pos (by omega), if_pos (by omega), show Nat.ble (Int.toNat (L.length : Int)) (bigOf 1) = true by rw [Nat.ble_eq]; simp [bigOf]; omega, cond_true, Int.toNat_natCast]
    have h6 := fun tb k' => apt_l6 (R := R) h hL N (x := x) (by omega) b1 b2 tb k' L.length N 0 (by omega) (by omega)
    simp only [bofL_zero, bofL_all] at h6
    refine (h6 _ _).trans ?_
    rw [wrap_id (n := (x : Int) + 1) (by omega) (by omega), len_ble (by simp; omega) (by simp) (by omega), cond_true]
    have ih := ih m (x + 1) (by omega) (by omega)
    rw [show ((x + 1 : Nat) : Int) = (x : Int) + 1 by omega, List.range_succ, List.map_append] at ih
    exact ih

theorem eqv_rel {S : List Nat} (hS : ∀ x ∈ S, ∀ j, j < 256 → A.nx x j ∈ S) {ρ : Nat → Nat → Prop} (h0 : ∀ x ∈ S, ∀ y ∈ S, ρ x y → A.t.getD x 0 = A.t.getD y 0 ∧ A.e.getD x 0 = A.e.getD y 0)
    (h1 : ∀ j, j < 256 → ∀ x ∈ S, ∀ y ∈ S, ρ x y → ρ (A.nx x j) (A.nx y j)) : ∀ x ∈ S, ∀ y ∈ S, ρ x y → A.Eqv x y := by
  intro x hx y hy hp w
  induction w generalizing x y with
  | nil => intro _; exact h0 x hx y hy hp
  | cons j w ih =>
    intro hw
    have hj := hw j (by simp)
    exact ih _ (hS x hx j hj) _ (hS y hy j hj) (h1 j hj x hx y hy hp) fun i hi => hw i (by simp [hi])

/-- **The reference's table.** -/
theorem specApart (h : MOk A) (hL : LOk A L) (N : Nat) (hN : 16777216 < N) : ∃ M, (∀ {R : Type} (k : List (List Bool) → Option R), F.spec_l2Apart N A.c (A.w : Int) A.n A.t A.e (ints L) k = k (mat L.length M)) ∧
    ∀ a b, a < L.length → b < L.length → (M a b = true ↔ ¬ A.Eqv (L.getD a 0) (L.getD b 0)) := by
  have hT := h.T2
  have hT1 := h.T1
  have hn := hL.len
  have hsq : L.length * L.length ≤ 4000 * 4000 := Nat.mul_le_mul (by omega) (by omega)
  have hf := fal_le L.length (M0 A L)
  have hs0 : ∀ a b, a < L.length → b < L.length → M0 A L a b = true → ¬ A.Eqv (L.getD a 0) (L.getD b 0) := by
    intro a b _ _ e heq
    have := heq.tags
    unfold M0 at e
    simp only [this.1, this.2, ne_eq, not_true, decide_false, Bool.or_self] at e
    cases e
  obtain ⟨M, k1, k2, k3, k4⟩ := apt_l8 h hL N (by omega) N (M0 A L) true (.inr (by omega)) (fun e => by cases e) hs0
  refine ⟨M, ?_, fun a b ha hb => ⟨k4 a b ha hb, fun hne => ?_⟩⟩
  · intro R k
    simp only [F.spec_l2Apart, Bool.cond_decide, h.lt, ints_len]
    rw [if_pos (by omega), show Nat.ble (Int.toNat (A.T : Int)) (bigOf 8) = true by rw [Nat.ble_eq]; simp [bigOf]; omega, cond_true, Int.toNat_natCast]
    have a0 := fun k' => apt_l0 (R := R) h hL N (ints L) (L.length : Int) k' L.length N 0 (by omega) (by omega)
    simp only [List.take_zero, ofL_nil] at a0
    refine (a0 _).trans ?_
    have hw := h.w2
    have a2 := fun k' => apt_l2 (R := R) h N (by omega) (ints L) (L.length : Int) A.n A.t A.e (ofL A.T (fun s => L.idxOf s) L) k' A.w N 0 [] (by omega) (by omega) (by simp)
    rw [show [] ++ (List.range' 0 A.w).filter A.used = A.uc by rw [← List.range_eq_range']; rfl] at a2
    refine (a2 _).trans ?_
    have a4 := fun k' => apt_l4 (R := R) h hL N (by omega) (ofL A.T (fun s => L.idxOf s) L) (ints A.uc) k' L.length N 0 (by omega) (by omega)
    refine (a4 _).trans ?_
    exact k1 k
  · cases hM : M a b
    · exfalso
      apply hne
      have hmem : ∀ {x : Nat}, x ∈ L → L.idxOf x < L.length ∧ L.getD (L.idxOf x) 0 = x := by
        intro x hx
        have hlt := List.idxOf_lt_length_iff.2 hx
        exact ⟨hlt, (L_at hlt).2.trans (List.getElem_idxOf hlt)⟩
      refine eqv_rel hL.cl (ρ := fun s u => M (L.idxOf s) (L.idxOf u) = false) ?_ ?_ _ (L_at ha).1 _ (L_at hb).1 ?_
      · intro x hx y hy e
        have h0 : M0 A L (L.idxOf x) (L.idxOf y) = false := by
          cases hz : M0 A L (L.idxOf x) (L.idxOf y)
          · rfl
          · rw [k2 _ _ hz] at e; cases e
        unfold M0 at h0
        rw [(hmem hx).2, (hmem hy).2] at h0
        simpa only [ne_eq, decide_not, Bool.or_eq_false_iff, Bool.not_eq_false', decide_eq_true_eq] using h0
      · intro j hj x hx y hy e
        have hc : A.ch j ∈ A.uc := (uc_mem h).2 ⟨j, hj, rfl⟩
        have := k3 _ _ (hmem hx).1 (hmem hy).1 e _ hc
        unfold tx at this
        rw [(hmem hx).2, (hmem hy).2] at this
        exact this
      · show M (L.idxOf (L.getD a 0)) (L.idxOf (L.getD b 0)) = false
        rw [(L_at ha).2, (L_at hb).2, nd_idx hL.nd a ha, nd_idx hL.nd b hb]
        exact hM
    · rfl

end
/-! ### the reference's Minimize, behind the table -/

section
variable {A : Mdl} {L : List Nat}

open Classical in
/-- The first of the list that a state is like. -/
noncomputable def chf (A : Mdl) (L : List Nat) (s : Nat) : Nat := (L.find? fun u => decide (A.Eqv s u)).getD s

theorem chf_of {s : Nat} (hs : s ∈ L) : chf A L s ∈ L ∧ A.Eqv s (chf A L s) := by
  unfold chf
  cases hf : L.find? fun u => @decide (A.Eqv s u) (Classical.propDecidable _) with
  | none =>
    have := List.find?_eq_none.1 hf s hs
    simp [Mdl.Eqv.refl] at this
  | some u =>
    simp only [Option.getD_some]
    exact ⟨List.mem_of_find?_eq_some hf, by simpa using List.find?_some hf⟩

theorem chf_eq {s u : Nat} (hs : s ∈ L) (hu : u ∈ L) : chf A L s = chf A L u ↔ A.Eqv s u := by
  constructor
  · intro e
    have a := (chf_of (A := A) hs).2
    have b := (chf_of (A := A) hu).2
    rw [e] at a
    exact a.trans b.symm
  · intro e
    have : (fun v => @decide (A.Eqv s v) (Classical.propDecidable _)) = fun v => @decide (A.Eqv u v) (Classical.propDecidable _) := by
      funext v
      by_cases h : A.Eqv s v
      · have k := e.symm.trans h
        simp [h, k]
      · have k : ¬ A.Eqv u v := fun k => h (e.trans k)
        simp [h, k]
    have hf : (L.find? fun v => @decide (A.Eqv s v) (Classical.propDecidable _)) = L.find? fun v => @decide (A.Eqv u v) (Classical.propDecidable _) := congrArg (fun p => L.find? p) this
    have ha := chf_of (A := A) hs
    unfold chf at ha ⊢
    rw [hf] at ha ⊢
    cases hv : L.find? fun v => @decide (A.Eqv u v) (Classical.propDecidable _) with
    | none =>
      have := List.find?_eq_none.1 hv u hu
      simp [Mdl.Eqv.refl] at this
    | some v => rfl

/-- The place of the first that is like the state at place i. -/
theorem chf_at {i j : Nat} (hi : i < L.length) (hj : j < L.length) (h1 : A.Eqv (L.getD i 0) (L.getD j 0)) (h2 : ∀ r, r < j → ¬ A.Eqv (L.getD i 0) (L.getD r 0)) : chf A L L[i] = L[j] := by
  unfold chf
  have : (L.find? fun u => @decide (A.Eqv L[i] u) (Classical.propDecidable _)) = some L[j] := by
    rw [List.find?_eq_some_iff_getElem]
    rw [(L_at hi).2, (L_at hj).2] at h1
    refine ⟨by simpa using h1, j, hj, rfl, fun r hr => ?_⟩
    have := h2 r hr
    rw [(L_at hi).2, (L_at (show r < L.length by omega)).2] at this
    simpa using this
  rw [this]
  rfl

theorem least_of {p : Nat → Prop} : ∀ n, p n → ∃ k, k ≤ n ∧ p k ∧ ∀ r, r < k → ¬ p r
  | 0, h => ⟨0, Nat.le_refl _, h, fun r hr => by omega⟩
  | n + 1, h => by
    by_cases h' : ∃ m, m ≤ n ∧ p m
    · obtain ⟨m, hm, hp⟩ := h'
      obtain ⟨k, h1, h2, h3⟩ := least_of m hp
      exact ⟨k, by omega, h2, h3⟩
    · exact ⟨n + 1, Nat.le_refl _, h, fun r hr hp => h' ⟨r, by omega, hp⟩⟩

theorem smin_l2 {R : Type} (N : Nat) {M : Nat → Nat → Bool} {i j : Nat} (hi : i < L.length) (hj : j < L.length) (hM : M i j = false) (hM' : ∀ r, r < j → M i r = true) (hL : L.length ≤ 4000) (s p q : Int) (c : List Int) (w : Int) (n t e : List Int) (wd : Int) (li ch a1 a2 a3 a4 : List Int)
    (k : Int → Int → Int → Int → List Int → Int → List Int → List Int → List Int → Int → List Int → List (List Bool) → List Int → List Int → List Int → List Int → List Int → Option R) :
    ∀ (d m r : Nat), r + d = j → d < m →
    F.spec_Minimize_l2 N m (i : Int) s (r : Int) p q c w n t e wd li (mat L.length M) ch a1 a2 a3 a4 k = k s (j : Int) p q c w n t e wd li (mat L.length M) ch a1 a2 a3 a4 := by
  intro d
  induction d with
  | zero =>
    intro m r hr hm
    obtain ⟨m, rfl⟩ : ∃ z, m = z + 1 := ⟨m - 1, by omega⟩
    have : r = j := by omega
    subst this
    simp only [F.spec_Minimize_l2, F.spec_Minimize_l2_s, mat_len]
    rw [inB_true (by omega) (by omega), cond_true]
    simp only [Int.toNat_natCast, mat_row hi, row_len, row_get hj]
    rw [inB_true (by omega) (by omega), cond_true, hM, cond_false]
  | succ d ih =>
    intro m r hr hm
    obtain ⟨m, rfl⟩ : ∃ z, m = z + 1 := ⟨m - 1, by omega⟩
    simp only [F.spec_Minimize_l2, F.spec_Minimize_l2_s, mat_len]
    rw [inB_true (by omega) (by omega), cond_true]
    simp only [Int.toNat_natCast, mat_row hi, row_len, row_get (show r < L.length by omega)]
    rw [inB_true (by omega) (by omega), cond_true, hM' r (by omega), cond_true, wrap_id (n := (r : Int) + 1) (by omega) (by omega), show (r : Int) + 1 = ((r + 1 : Nat) : Int) by omega]
    exact ih m (r + 1) (by omega) (by omega)

theorem smin_l0 {R : Type} (h : MOk A) (hL : LOk A L) (N : Nat) (hN : 1048576 < N) {M : Nat → Nat → Bool} (hM : ∀ a b, a < L.length → b < L.length → (M a b = true ↔ ¬ A.Eqv (L.getD a 0) (L.getD b 0))) (wd : Int) (a1 a2 a3 a4 : List Int)
    (k : List Int → Int → List Int → List Int → List Int → Int → List Int → List Int → List Int → List Int → List Int → Option R) :
    ∀ (d m i : Nat), i + d = L.length → d < m →
    F.spec_Minimize_l0 N m (L.length : Int) (i : Int) A.c (A.w : Int) A.n A.t A.e wd (ints L) (mat L.length M) (ofL A.T (chf A L) (L.take i)) a1 a2 a3 a4 k = k A.c (A.w : Int) A.n A.t A.e wd (ofL A.T (chf A L) L) a1 a2 a3 a4 := by
  intro d
  induction d with
  | zero =>
    intro m i hi hm
    obtain ⟨m, rfl⟩ : ∃ z, m = z + 1 := ⟨m - 1, by omega⟩
    simp only [F.spec_Minimize_l0, F.spec_Minimize_l0_s, Bool.cond_decide]
    rw [if_neg (by omega), List.take_of_length_le (by omega)]
  | succ d ih =>
    intro m i hi hm
    obtain ⟨m, rfl⟩ : ∃ z, m = z + 1 := ⟨m - 1, by omega⟩
    have hT := h.T2
    have hn := hL.len
    have hlt : i < L.length := by omega
    have hs := hL.lt _ (List.getElem_mem hlt)
    obtain ⟨j, j1, j2, j3⟩ := least_of (p := fun r => A.Eqv (L.getD i 0) (L.getD r 0)) i (Mdl.Eqv.refl A _)
    have hj : j < L.length := by omega
    have m1 : M i j = false := by
      cases e : M i j
      · rfl
      · exact ((hM i j hlt hj).1 e j2).elim
    have m2 : ∀ r, r < j → M i r = true := fun r hr => (hM i r hlt (by omega)).2 (j3 r hr)
    simp only [F.spec_Minimize_l0, F.spec_Minimize_l0_s, Bool.cond_decide, ints_len]
    rw [if_pos (by omega), inB_true (by omega) (by omega), cond_true]
    simp only [Int.toNat_natCast, ints_at hlt]
    have h2 := fun s p q c w n t e wd li ch a1 a2 a3 a4 k' => smin_l2 (R := R) N hlt hj m1 m2 (by omega) s p q c w n t e wd li ch a1 a2 a3 a4 k' j N 0 (by omega) (by omega)
    refine (h2 _ _ _ _ _ _ _ _ _ _ _ _ _ _ _ _).trans ?_
    simp only [ints_len, ofL_len]
    rw [inB_true (by omega) (by omega), inB_true (by omega) (by omega), wrap_id (n := (i : Int) + 1) (by omega) (by omega)]
    simp only [cond_true, Int.toNat_natCast, ints_at hj]
    have ih := ih m (i + 1) (by omega) (by omega)
    rw [show ((i + 1 : Nat) : Int) = (i : Int) + 1 by omega, List.take_succ_eq_append_getElem (i := i) hlt, ← ofL_set, chf_at hlt hj j2 j3] at ih
    exact ih

/-- Where a kind leads, by the bytes in order. -/
noncomputable def sQ (A : Mdl) (L : List Nat) (s : Nat) : List Nat := (List.range 256).map fun j => chf A L (A.nx s j)

/-- Where a byte leads from a kind: the number of the kind. -/
noncomputable def cS (A : Mdl) (L Q : List Nat) (s j : Nat) : Nat := Q.idxOf (chf A L (A.nx s j))

theorem foldNew_in {m l : List Nat} {x : Nat} (h : x ∈ m) : x ∈ m.foldl addNew l := foldNew_mem.2 (.inr h)

theorem smin_l6 {R : Type} (h : MOk A) (hL : LOk A L) (N : Nat) (hN : 1048576 < N) {i s : Nat} (hs : s ∈ L) (wd : Int) (rows : List (List Int)) (a1 a2 a3 a4 : List Int)
    (k : Int → List Int → Int → List Int → List Int → List Int → Int → List Int → List Int → List (List Int) → List Int → List Int → List Int → List Int → List Int → Option R) :
    ∀ (d m j : Nat) (o : List Nat) (row : List Int) (Q : List Nat), j + d = 256 → d < m → (∀ x ∈ o, x ∈ L) → o.Nodup → i < o.length → o.getD i 0 = s → row.length ≤ j →
    (∃ r, Q = (((List.range' j d).map fun j => chf A L (A.nx s j)).foldl addNew o) ++ r) →
    F.spec_Minimize_l6 N m (i : Int) (j : Int) A.c (A.w : Int) A.n A.t A.e wd (ofL A.T (chf A L) L) (ints o) rows row a1 a2 a3 a4 k =
      k (i : Int) A.c (A.w : Int) A.n A.t A.e wd (ofL A.T (chf A L) L) (ints (((List.range' j d).map fun j => chf A L (A.nx s j)).foldl addNew o)) rows (row ++ ints ((List.range' j d).map (cS A L Q s))) a1 a2 a3 a4 := by
  intro d
  induction d with
  | zero =>
    intro m j o row Q hj hm ho hnd hi hsi hrow hQ
    obtain ⟨m, rfl⟩ : ∃ z, m = z + 1 := ⟨m - 1, by omega⟩
    simp only [F.spec_Minimize_l6, F.spec_Minimize_l6_s, Bool.cond_decide]
    rw [if_neg (by omega)]
    simp [ints]
  | succ d ih =>
    intro m j o row Q hj hm ho hnd hi hsi hrow hQ
    obtain ⟨m, rfl⟩ : ∃ z, m = z + 1 := ⟨m - 1, by omega⟩
    have hT := h.T2
    have hn := hL.len
    have hol : o.length ≤ A.T := nodup_le hnd fun x hx => hL.lt x (ho x hx)
    have hnx := hL.cl s hs j (by omega)
    have hc := (chf_of (A := A) hnx).1
    simp only [F.spec_Minimize_l6, F.spec_Minimize_l6_s, ints_len, ofL_len]
    rw [Bool.cond_decide, if_pos (by omega), inB_true (by omega) (by omega), cond_true]
    simp only [Int.toNat_natCast, ints_get, hsi]
    rw [specGo h (hL.lt s hs) (by omega), inB_true (by omega) (by have := hL.lt _ hnx; omega), cond_true]
    simp only [Int.toNat_natCast, ofL_get (hL.lt _ hnx) hnx]
    rw [specPlace1 N _ _ (by rw [ints_len]; omega) hN, place_neg', show decide (((chf A L (A.nx s j) : Nat) : Int) ∈ ints o) = decide (chf A L (A.nx s j) ∈ o) by simp only [ints_mem]]
    rw [wrap_id (n := (j : Int) + 1) (by omega) (by omega), show (j : Int) + 1 = ((j + 1 : Nat) : Int) by omega]
    rw [show List.range' j (d + 1) = j :: List.range' (j + 1) d from List.range'_succ .., List.map_cons, List.foldl_cons, List.map_cons] at *
    obtain ⟨r, hr⟩ := hQ
    obtain ⟨r1, hr1⟩ := foldNew_pre ((List.range' (j + 1) d).map fun j => chf A L (A.nx s j)) (addNew o (chf A L (A.nx s j)))
    have hmem : chf A L (A.nx s j) ∈ addNew o (chf A L (A.nx s j)) := addNew_mem.2 (.inr rfl)
    have hidx : cS A L Q s j = (addNew o (chf A L (A.nx s j))).idxOf (chf A L (A.nx s j)) := by
      unfold cS
      rw [hr, hr1, List.append_assoc, idxOf_stay hmem]
    have hints : ∀ xs : List Nat, row ++ ints (cS A L Q s j :: xs) = (row ++ [((cS A L Q s j : Nat) : Int)]) ++ ints xs := by
      intro xs; simp [ints]
    rw [hints]
    by_cases hin : chf A L (A.nx s j) ∈ o
    · have hadd : addNew o (chf A L (A.nx s j)) = o := if_pos hin
      rw [hadd] at hr hidx ⊢
      rw [decide_eq_true hin, Bool.not_true, cond_false, specPlace1 N _ _ (by rw [ints_len]; omega) hN, place_ints, if_pos hin, ← hidx, len_ble (by omega) (by simp) (by omega), cond_true]
      exact ih m (j + 1) o _ Q (by omega) (by omega) ho hnd hi hsi (by simp; omega) ⟨r, hr⟩
    · have hadd : addNew o (chf A L (A.nx s j)) = o ++ [chf A L (A.nx s j)] := if_neg hin
      have hnd' := addNew_nodup (x := chf A L (A.nx s j)) hnd
      rw [hadd] at hr hidx hmem hnd' ⊢
      rw [decide_eq_false hin, Bool.not_false, cond_true, len_ble (by omega) (by simp) (by omega), cond_true, ints_snoc]
      have ho' : ∀ x ∈ o ++ [chf A L (A.nx s j)], x ∈ L := by
        intro x hx
        rcases List.mem_append.1 hx with hx | hx
        · exact ho x hx
        · have : x = chf A L (A.nx s j) := by simpa using hx
          rw [this]; exact hc
      have hl' := nodup_le hnd' fun x hx => hL.lt x (ho' x hx)
      rw [specPlace1 N _ _ (by rw [ints_len]; omega) hN, place_ints, if_pos hmem, ← hidx, len_ble (by omega) (by simp) (by omega), cond_true]
      refine ih m (j + 1) _ _ Q (by omega) (by omega) ho' hnd' (by simp; omega) ?_ (by simp; omega) ⟨r, hr⟩
      rw [← hsi]; simp [List.getD_eq_getElem?_getD, List.getElem?_append_left hi]

noncomputable def rowQ (A : Mdl) (L Q : List Nat) (s : Nat) : List Int := ints ((List.range 256).map (cS A L Q s))

theorem smin_l4 {R : Type} (h : MOk A) (hL : LOk A L) (N : Nat) (hN : 1048576 < N) (Q : List Nat) (wd : Int) (a1 a2 a3 a4 : List Int)
    (k : List Int → Int → List Int → List Int → List Int → Int → List Int → List (List Int) → List Int → List Int → List Int → List Int → Option R) :
    ∀ (d m i : Nat) (o : List Nat), i + d = A.T + 1 → d < m → (∀ x ∈ o, x ∈ L) → o.Nodup → i ≤ o.length → bfs (sQ A L) d i o = Q →
    F.spec_Minimize_l4 N m (i : Int) A.c (A.w : Int) A.n A.t A.e wd (ofL A.T (chf A L) L) (ints o) ((o.take i).map (rowQ A L Q)) a1 a2 a3 a4 k =
      k A.c (A.w : Int) A.n A.t A.e wd (ints Q) (Q.map (rowQ A L Q)) a1 a2 a3 a4
  | 0, m, i, o, hi, hm, ho, hnd, hil, hQ => by
    have := nodup_le hnd fun x hx => hL.lt x (ho x hx)
    omega
  | d + 1, m, i, o, hi, hm, ho, hnd, hil, hQ => by
    obtain ⟨m, rfl⟩ : ∃ z, m = z + 1 := ⟨m - 1, by omega⟩
    have hT := h.T2
    simp only [F.spec_Minimize_l4, F.spec_Minimize_l4_s, Bool.cond_decide, ints_len]
    simp only [bfs] at hQ
    by_cases hlt : i < o.length
    · rw [if_pos (by omega)]
      have hx : o[i]? = some o[i] := List.getElem?_eq_getElem hlt
      rw [hx] at hQ
      simp only at hQ
      have hs : o[i] ∈ L := ho _ (List.getElem_mem _)
      have hg : o.getD i 0 = o[i] := by simp [List.getD_eq_getElem?_getD, hx]
      have hsq : sQ A L o[i] = (List.range' 0 256).map fun j => chf A L (A.nx o[i] j) := by rw [← List.range_eq_range']; rfl
      have hpre : ∃ r, Q = ((sQ A L o[i]).foldl addNew o) ++ r := by
        obtain ⟨r, hr⟩ := bfs_image.bfs_pre (sQ A L) d (i + 1) ((sQ A L o[i]).foldl addNew o)
        exact ⟨r, hQ.symm.trans hr⟩
      rw [hsq] at hpre hQ
      have h6 := fun rows k' => smin_l6 (R := R) h hL N hN hs wd rows a1 a2 a3 a4 k' 256 N 0 o [] Q (by omega) (by omega) ho hnd hlt hg (by simp) hpre
      refine (h6 _ _).trans ?_
      have htl : (o.take i).length ≤ o.length := by rw [List.length_take]; omega
      have hol := nodup_le hnd fun x hx => hL.lt x (ho x hx)
      rw [wrap_id (n := (i : Int) + 1) (by omega) (by omega), len_ble (by rw [List.length_map]; omega) (by simp) (by omega), cond_true, show ((i : Int) + 1) = ((i + 1 : Nat) : Int) by omega, List.nil_append]
      obtain ⟨r, hr⟩ := foldNew_pre ((List.range' 0 256).map fun j => chf A L (A.nx o[i] j)) o
      have e : List.map (rowQ A L Q) (List.take i o) ++ [ints ((List.range' 0 256).map (cS A L Q o[i]))] = (((((List.range' 0 256).map fun j => chf A L (A.nx o[i] j)).foldl addNew o)).take (i + 1)).map (rowQ A L Q) := by
        rw [hr, List.take_append_of_le_length (by omega), List.take_succ_eq_append_getElem (i := i) hlt, List.map_append]
        unfold rowQ
        rw [List.range_eq_range']
        rfl
      rw [e]
      refine smin_l4 h hL N hN Q wd a1 a2 a3 a4 k d m (i + 1) _ (by omega) (by omega) ?_ (foldNew_nodup hnd) (by rw [hr]; simp; omega) hQ
      intro x hx
      rcases foldNew_mem.1 hx with hx | hx
      · exact ho x hx
      · simp only [List.mem_map, List.mem_range', Nat.one_mul] at hx
        obtain ⟨j, ⟨z, hz, rfl⟩, rfl⟩ := hx
        exact (chf_of (hL.cl _ hs _ (by omega))).1
    · rw [if_neg (by omega)]
      rw [List.getElem?_eq_none (by omega)] at hQ
      simp only at hQ
      subst hQ
      rw [List.take_of_length_le (by omega)]

/-! classes -/

theorem rowQ_get (Q : List Nat) (s : Nat) {j : Nat} (hj : j < 256) : List.getD (rowQ A L Q s) j 0 = ((cS A L Q s j : Nat) : Int) := by
  unfold rowQ
  rw [ints_at (by simpa using hj)]
  simp

theorem rowQ_len (Q : List Nat) (s : Nat) : (rowQ A L Q s).length = 256 := by simp [rowQ, ints]

theorem rowsQ_get {Q f : List Nat} {i : Nat} (hi : i < f.length) (z : List Int) : List.getD (f.map (rowQ A L Q)) i z = rowQ A L Q f[i] := by
  simp [List.getD_eq_getElem?_getD, hi]

/-- A column. -/
noncomputable def colS (A : Mdl) (L Q : List Nat) (j : Nat) : List Nat := Q.map fun s => cS A L Q s j

theorem map_eq_take {f g : Nat → Nat} {Q : List Nat} {i : Nat} (hi : i < Q.length) : (Q.take (i + 1)).map f = (Q.take (i + 1)).map g ↔ (Q.take i).map f = (Q.take i).map g ∧ f Q[i] = g Q[i] := by
  rw [List.take_succ_eq_append_getElem (i := i) hi, List.map_append, List.map_append]
  constructor
  · intro e
    have := List.append_inj e (by simp)
    exact ⟨this.1, by simpa using this.2⟩
  · rintro ⟨e1, e2⟩
    rw [e1]; simp [e2]

theorem smin_l12 {R : Type} (N : Nat) {Q : List Nat} (hQ : Q.length ≤ 4000) {x hd : Nat} (hx : x < 256) (hh : hd < 256) (cl p q r : Int) (c : List Int) (w : Int) (n t e : List Int) (wd : Int) (od : List Int) (mw : Int) (hs a1 a2 a3 a4 b1 b2 b3 b4 : List Int)
    (k : Int → Int → Int → Bool → Int → Int → List Int → Int → List Int → List Int → List Int → Int → List Int → List (List Int) → Int → List Int → List Int → List Int → List Int → List Int → List Int → List Int → List Int → List Int → Option R) :
    ∀ (d m i : Nat), i + d = Q.length → d < m →
    F.spec_Minimize_l12 N m (x : Int) cl p (hd : Int) (decide ((Q.take i).map (fun s => cS A L Q s hd) = (Q.take i).map (fun s => cS A L Q s x))) q r (Q.length : Int) (i : Int) c w n t e wd od (Q.map (rowQ A L Q)) mw hs a1 a2 a3 a4 b1 b2 b3 b4 k =
      k (x : Int) cl p (decide (colS A L Q hd = colS A L Q x)) q r c w n t e wd od (Q.map (rowQ A L Q)) mw hs a1 a2 a3 a4 b1 b2 b3 b4 := by
  intro d
  induction d with
  | zero =>
    intro m i hi hm
    obtain ⟨m, rfl⟩ : ∃ z, m = z + 1 := ⟨m - 1, by omega⟩
    simp only [F.spec_Minimize_l12, F.spec_Minimize_l12_s, Bool.cond_decide]
    rw [if_neg (by omega), List.take_of_length_le (by omega)]
    rfl
  | succ d ih =>
    intro m i hi hm
    obtain ⟨m, rfl⟩ : ∃ z, m = z + 1 := ⟨m - 1, by omega⟩
    have hlt : i < Q.length := by omega
    simp only [F.spec_Minimize_l12, F.spec_Minimize_l12_s, List.length_map]
    rw [Bool.cond_decide, if_pos (by omega), inB_true (by omega) (by omega), cond_true]
    simp only [Int.toNat_natCast, rowsQ_get hlt, rowQ_len, rowQ_get Q Q[i] hx, rowQ_get Q Q[i] hh]
    rw [inB_true (by omega) (by omega), cond_true, inB_true (by omega) (by omega), cond_true, wrap_id (n := (i : Int) + 1) (by omega) (by omega)]
    have ih := ih m (i + 1) (by omega) (by omega)
    rw [show ((i + 1 : Nat) : Int) = (i : Int) + 1 by omega] at ih
    rw [← ih]
    by_cases e1 : cS A L Q Q[i] hd = cS A L Q Q[i] x
    · rw [show (((cS A L Q Q[i] hd : Nat) : Int) != ((cS A L Q Q[i] x : Nat) : Int)) = false by simp; omega, cond_false]
      congr 1
      rw [Bool.eq_iff_iff, decide_eq_true_eq, decide_eq_true_eq, map_eq_take hlt]
      exact ⟨fun h => ⟨h, e1⟩, fun h => h.1⟩
    · rw [show (((cS A L Q Q[i] hd : Nat) : Int) != ((cS A L Q Q[i] x : Nat) : Int)) = true by simp; omega, cond_true]
      congr 1
      symm
      rw [decide_eq_false_iff_not, map_eq_take hlt]
      exact fun h => e1 h.2

/-- Where it stands. -/
def ix {β : Type} [DecidableEq β] (l : List β) (x : β) : Nat := l.idxOf x

theorem ix_append {β : Type} [DecidableEq β] (l m : List β) (x : β) : ix (l ++ m) x = if x ∈ l then ix l x else ix m x + l.length := List.idxOf_append
theorem ix_self {β : Type} [DecidableEq β] (x : β) : ix [x] x = 0 := by simp [ix]

/-- The class so far. -/
noncomputable def clsTo (A : Mdl) (L Q hs : List Nat) (x : Nat) : Int := if colS A L Q x ∈ hs.map (colS A L Q) then ((ix (hs.map (colS A L Q)) (colS A L Q x) : Nat) : Int) else -1

theorem clsTo_snoc {Q hs : List Nat} {x y : Nat} (hn : ((hs ++ [y]).map (colS A L Q)).Nodup) : clsTo A L Q (hs ++ [y]) x = if colS A L Q y = colS A L Q x then (hs.length : Int) else clsTo A L Q hs x := by
  rw [List.map_append, List.nodup_append] at hn
  unfold clsTo
  rw [List.map_append, ix_append]
  by_cases e : colS A L Q y = colS A L Q x
  · rw [if_pos e, if_pos (by simp [e])]
    have hno : colS A L Q x ∉ hs.map (colS A L Q) := fun hm => hn.2.2 _ hm _ (by simp) e.symm
    rw [if_neg hno, List.map_cons, List.map_nil, e, ix_self]
    simp
  · rw [if_neg e]
    by_cases hm : colS A L Q x ∈ hs.map (colS A L Q)
    · rw [if_pos hm, if_pos (List.mem_append.2 (.inl hm)), if_pos hm]
    · have hno : ¬ colS A L Q x ∈ hs.map (colS A L Q) ++ [y].map (colS A L Q) := by
        intro hh
        rcases List.mem_append.1 hh with hh | hh
        · exact hm hh
        · simp only [List.map_cons, List.map_nil, List.mem_singleton] at hh
          exact e hh.symm
      rw [if_neg hno, if_neg hm]

theorem smin_l10 {R : Type} (N : Nat) (hN : 1048576 < N) {Q : List Nat} (hQ : Q.length ≤ 4000) {x : Nat} (hx : x < 256) {hs : List Nat} (hh : ∀ y ∈ hs, y < 256) (hhl : hs.length ≤ 256) (hnd : (hs.map (colS A L Q)).Nodup) (c : List Int) (w : Int) (n t e : List Int) (wd : Int) (od : List Int) (mw : Int) (a1 a2 a3 a4 b1 b2 b3 b4 : List Int)
    (k : Int → Int → List Int → Int → List Int → List Int → List Int → Int → List Int → List (List Int) → Int → List Int → List Int → List Int → List Int → List Int → List Int → List Int → List Int → List Int → Option R) :
    ∀ (d m i : Nat), i + d = hs.length → d < m →
    F.spec_Minimize_l10 N m (x : Int) (clsTo A L Q (hs.take i) x) (hs.length : Int) (i : Int) c w n t e wd od (Q.map (rowQ A L Q)) mw (ints hs) a1 a2 a3 a4 b1 b2 b3 b4 k =
      k (x : Int) (clsTo A L Q hs x) c w n t e wd od (Q.map (rowQ A L Q)) mw (ints hs) a1 a2 a3 a4 b1 b2 b3 b4 := by
  intro d
  induction d with
  | zero =>
    intro m i hi hm
    obtain ⟨m, rfl⟩ : ∃ z, m = z + 1 := ⟨m - 1, by omega⟩
    simp only [F.spec_Minimize_l10, F.spec_Minimize_l10_s, Bool.cond_decide]
    rw [if_neg (by omega), List.take_of_length_le (by omega)]
  | succ d ih =>
    intro m i hi hm
    obtain ⟨m, rfl⟩ : ∃ z, m = z + 1 := ⟨m - 1, by omega⟩
    have hlt : i < hs.length := by omega
    have hy := hh _ (List.getElem_mem hlt)
    simp only [F.spec_Minimize_l10, F.spec_Minimize_l10_s, ints_len, List.length_map]
    rw [Bool.cond_decide, if_pos (by omega), inB_true (by omega) (by omega), cond_true]
    simp only [Int.toNat_natCast, ints_at hlt]
    have h12 := fun cl p q r c w n t e wd od mw hs a1 a2 a3 a4 b1 b2 b3 b4 k' => smin_l12 (R := R) (A := A) (L := L) N hQ hx hy cl p q r c w n t e wd od mw hs a1 a2 a3 a4 b1 b2 b3 b4 k' Q.length N 0 (by omega) (by omega)
    simp only [List.take_zero, List.map_nil, decide_true] at h12
    refine (h12 _ _ _ _ _ _ _ _ _ _ _ _ _ _ _ _ _ _ _ _ _ _).trans ?_
    rw [wrap_id (n := (i : Int) + 1) (by omega) (by omega)]
    have ih := ih m (i + 1) (by omega) (by omega)
    have hnd' : ((hs.take i ++ [hs[i]]).map (colS A L Q)).Nodup := by
      rw [← List.take_succ_eq_append_getElem (i := i) hlt]
      exact ((List.take_sublist (i + 1) hs).map _).nodup hnd
    rw [show ((i + 1 : Nat) : Int) = (i : Int) + 1 by omega, List.take_succ_eq_append_getElem (i := i) hlt, clsTo_snoc hnd', List.length_take, Nat.min_eq_left (show i ≤ hs.length by omega)] at ih
    by_cases e1 : colS A L Q hs[i] = colS A L Q x
    · rw [if_pos e1] at ih
      rw [decide_eq_true e1, cond_true]
      exact ih
    · rw [if_neg e1] at ih
      rw [decide_eq_false e1, cond_false]
      exact ih

theorem clsTo_neg {Q hs : List Nat} {x : Nat} : clsTo A L Q hs x < 0 ↔ colS A L Q x ∉ hs.map (colS A L Q) := by
  unfold clsTo
  split
  · rename_i h; simp only [h, not_true, iff_false]; omega
  · rename_i h; simp [h]

theorem smin_l8 {R : Type} (N : Nat) (hN : 1048576 < N) {Q : List Nat} (hQ : Q.length ≤ 4000) (c : List Int) (w : Int) (n t e : List Int) (wd : Int) (od : List Int) (mw : Int) (a1 a2 a3 a4 b2 b3 b4 : List Int)
    (k : List Int → Int → List Int → List Int → List Int → Int → List Int → List (List Int) → Int → List Int → List Int → List Int → List Int → List Int → List Int → List Int → List Int → List Int → Option R) :
    ∀ (d m x : Nat), x + d = 256 → d < m →
    F.spec_Minimize_l8 N m (x : Int) c w n t e wd od (Q.map (rowQ A L Q)) mw (ints (reps (colS A L Q) (List.range x))) a1 a2 a3 a4 (ints ((List.range x).map (partOf (colS A L Q) (List.range 256)))) b2 b3 b4 k =
      k c w n t e wd od (Q.map (rowQ A L Q)) mw (ints (reps (colS A L Q) (List.range 256))) a1 a2 a3 a4 (ints ((List.range 256).map (partOf (colS A L Q) (List.range 256)))) b2 b3 b4 := by
  intro d
  induction d with
  | zero =>
    intro m x hx hm
    obtain ⟨m, rfl⟩ : ∃ z, m = z + 1 := ⟨m - 1, by omega⟩
    simp only [F.spec_Minimize_l8, F.spec_Minimize_l8_s, Bool.cond_decide]
    rw [if_neg (by omega), show x = 256 by omega]
  | succ d ih =>
    intro m x hx hm
    obtain ⟨m, rfl⟩ : ∃ z, m = z + 1 := ⟨m - 1, by omega⟩
    have hle := reps_len_le (colS A L Q) (List.range x)
    rw [List.length_range] at hle
    have hh : ∀ y ∈ reps (colS A L Q) (List.range x), y < 256 := fun y hy => by have := List.mem_range.1 (reps_mem hy); omega
    simp only [F.spec_Minimize_l8, F.spec_Minimize_l8_s, ints_len]
    rw [Bool.cond_decide, if_pos (by omega)]
    have h10 := fun c w n t e wd od mw a1 a2 a3 a4 b1 b2 b3 b4 k' => smin_l10 (R := R) (A := A) (L := L) N hN hQ (show x < 256 by omega) hh (by omega) (reps_nodup _ _) c w n t e wd od mw a1 a2 a3 a4 b1 b2 b3 b4 k' (reps (colS A L Q) (List.range x)).length N 0 (by omega) (by omega)
    rw [show clsTo A L Q (List.take 0 (reps (colS A L Q) (List.range x))) x = -1 by simp [clsTo]] at h10
    refine (h10 _ _ _ _ _ _ _ _ _ _ _ _ _ _ _ _ _).trans ?_
    simp only [ints_len]
    rw [len_ble (n := (reps (colS A L Q) (List.range x)).length) (by omega) (by simp) (by omega), len_ble (by rw [List.length_map, List.length_range]; omega) (by simp) (by omega), len_ble (by rw [List.length_map, List.length_range]; omega) (by simp) (by omega)]
    simp only [cond_true]
    rw [wrap_id (n := (x : Int) + 1) (by omega) (by omega)]
    have ih := ih m (x + 1) (by omega) (by omega)
    have er : reps (colS A L Q) (List.range (x + 1)) = repStep (colS A L Q) (reps (colS A L Q) (List.range x)) x := by rw [show List.range (x + 1) = List.range x ++ [x] from List.range_succ, reps_snoc]
    have hp : partOf (colS A L Q) (List.range 256) x = ix ((reps (colS A L Q) (List.range (x + 1))).map (colS A L Q)) (colS A L Q x) := by
      unfold partOf ix
      have hin : colS A L Q x ∈ (reps (colS A L Q) ((List.range 256).take (x + 1))).map (colS A L Q) := reps_has (by rw [List.take_range, Nat.min_eq_left (by omega)]; simp)
      have := idx_take hin
      rw [List.take_range, Nat.min_eq_left (by omega)] at this
      exact this
    rw [show ((x + 1 : Nat) : Int) = (x : Int) + 1 by omega, show (List.range (x + 1)).map (partOf (colS A L Q) (List.range 256)) = (List.range x).map (partOf (colS A L Q) (List.range 256)) ++ [partOf (colS A L Q) (List.range 256) x] by rw [show List.range (x + 1) = List.range x ++ [x] from List.range_succ, List.map_append]; rfl, ← ints_snoc, hp, er, repStep] at ih
    rw [Bool.cond_decide]
    by_cases hc : colS A L Q x ∈ (reps (colS A L Q) (List.range x)).map (colS A L Q)
    · rw [if_pos hc] at ih
      rw [if_neg (fun h => clsTo_neg.1 h hc)]
      unfold clsTo
      rw [if_pos hc]
      exact ih
    · rw [if_neg hc, List.map_append, ix_append, if_neg hc, ← ints_snoc] at ih
      rw [if_pos (clsTo_neg.2 hc)]
      simp only [List.map_cons, List.map_nil, ix_self, List.length_map, Nat.zero_add] at ih
      exact ih

theorem smin_l16 {R : Type} (N : Nat) {Q : List Nat} (hQ : Q.length ≤ 4000) {i : Nat} (hi : i < Q.length) {hs : List Nat} (hh : ∀ y ∈ hs, y < 256) (hhl : hs.length ≤ 256) (s p q : Int) (c : List Int) (w : Int) (n t e : List Int) (wd mw : Int) (a1 a2 a3 a4 b1 pre b3 b4 : List Int) (hpre : pre.length ≤ 1048576 - 300)
    (k : Int → Int → Int → List Int → Int → List Int → List Int → List Int → Int → List (List Int) → Int → List Int → List Int → List Int → List Int → List Int → List Int → List Int → List Int → List Int → List Int → Option R) :
    ∀ (d m r : Nat), r + d = hs.length → d < m →
    F.spec_Minimize_l16 N m (i : Int) s p q (hs.length : Int) (r : Int) c w n t e wd (Q.map (rowQ A L Q)) mw (ints hs) (ints Q) a1 a2 a3 a4 b1 (pre ++ ints ((hs.take r).map (cS A L Q Q[i]))) b3 b4 k =
      k s p q c w n t e wd (Q.map (rowQ A L Q)) mw (ints hs) (ints Q) a1 a2 a3 a4 b1 (pre ++ ints (hs.map (cS A L Q Q[i]))) b3 b4 := by
  intro d
  induction d with
  | zero =>
    intro m r hr hm
    obtain ⟨m, rfl⟩ : ∃ z, m = z + 1 := ⟨m - 1, by omega⟩
    simp only [F.spec_Minimize_l16, F.spec_Minimize_l16_s, Bool.cond_decide]
    rw [if_neg (by omega), List.take_of_length_le (by omega)]
  | succ d ih =>
    intro m r hr hm
    obtain ⟨m, rfl⟩ : ∃ z, m = z + 1 := ⟨m - 1, by omega⟩
    have hlt : r < hs.length := by omega
    have hc := hh _ (List.getElem_mem hlt)
    have htl : (hs.take r).length ≤ hs.length := by rw [List.length_take]; omega
    simp only [F.spec_Minimize_l16, F.spec_Minimize_l16_s, Bool.cond_decide, List.length_map, ints_len]
    rw [if_pos (by omega), inB_true (by omega) (by omega), cond_true, inB_true (by omega) (by omega), cond_true, wrap_id (n := (r : Int) + 1) (by omega) (by omega)]
    simp only [Int.toNat_natCast, ints_at hlt, rowsQ_get hi, rowQ_len, rowQ_get Q Q[i] hc]
    rw [inB_true (by omega) (by omega), cond_true, len_ble (by rw [List.length_append, ints_len, List.length_map]; omega) (by simp) (by omega), cond_true, List.append_assoc, ints_snoc]
    have ih := ih m (r + 1) (by omega) (by omega)
    rw [show ((r + 1 : Nat) : Int) = (r : Int) + 1 by omega, List.take_succ_eq_append_getElem (i := r) hlt, List.map_append] at ih
    exact ih

theorem smin_l14 {R : Type} (h : MOk A) (N : Nat) (hN : 1048576 < N) {Q : List Nat} (hQ : Q.length ≤ 4000) (hQT : ∀ x ∈ Q, x < A.T) {hs : List Nat} (hh : ∀ y ∈ hs, y < 256) (hhl : hs.length ≤ 256) (hsz : Q.length * hs.length ≤ 1048576 - 300) (wd mw : Int) (a1 a2 a3 a4 b1 : List Int)
    (k : Int → Int → List Int → List Int → List Int → List Int → List Int → List Int → List Int → List Int → Option R) :
    ∀ (d m i : Nat), i + d = Q.length → d < m →
    F.spec_Minimize_l14 N m (Q.length : Int) (i : Int) A.c (A.w : Int) A.n A.t A.e wd (Q.map (rowQ A L Q)) mw (ints hs) (ints Q) a1 a2 a3 a4 b1 (nextOf (cS A L Q) hs (Q.take i)) ((Q.take i).map fun s => List.getD A.t s 0) ((Q.take i).map fun s => List.getD A.e s 0) k =
      k wd mw a1 a2 a3 a4 b1 (nextOf (cS A L Q) hs Q) (Q.map fun s => List.getD A.t s 0) (Q.map fun s => List.getD A.e s 0) := by
  intro d
  induction d with
  | zero =>
    intro m i hi hm
    obtain ⟨m, rfl⟩ : ∃ z, m = z + 1 := ⟨m - 1, by omega⟩
    simp only [F.spec_Minimize_l14, F.spec_Minimize_l14_s, Bool.cond_decide]
    rw [if_neg (by omega), List.take_of_length_le (by omega)]
  | succ d ih =>
    intro m i hi hm
    obtain ⟨m, rfl⟩ : ∃ z, m = z + 1 := ⟨m - 1, by omega⟩
    have hlt : i < Q.length := by omega
    have hs0 := hQT _ (List.getElem_mem hlt)
    have htl : (Q.take i).length ≤ Q.length := by rw [List.length_take]; omega
    have hpl : (nextOf (cS A L Q) hs (Q.take i)).length ≤ 1048576 - 300 := by
      rw [nextOf_len]
      exact Nat.le_trans (Nat.mul_le_mul_right _ htl) hsz
    simp only [F.spec_Minimize_l14, F.spec_Minimize_l14_s, Bool.cond_decide, ints_len]
    rw [if_pos (by omega), inB_true (by omega) (by omega), cond_true]
    simp only [Int.toNat_natCast, ints_at hlt]
    have h16 := fun s p q c w n t e wd mw a1 a2 a3 a4 b1 b3 b4 k' => smin_l16 (R := R) (A := A) (L := L) N hQ hlt hh hhl s p q c w n t e wd mw a1 a2 a3 a4 b1 (nextOf (cS A L Q) hs (Q.take i)) b3 b4 hpl k' hs.length N 0 (by omega) (by omega)
    simp only [List.take_zero, List.map_nil] at h16
    rw [show ints [] = [] from rfl] at h16
    simp only [List.append_nil] at h16
    refine (h16 _ _ _ _ _ _ _ _ _ _ _ _ _ _ _ _ _ _).trans ?_
    simp only [Int.toNat_natCast]
    rw [inB_true (by omega) (by rw [h.lt]; omega), cond_true, len_ble (by rw [List.length_map]; omega) (by simp) (by omega), cond_true, inB_true (by omega) (by rw [h.le]; omega), cond_true, len_ble (by rw [List.length_map]; omega) (by simp) (by omega), cond_true, wrap_id (n := (i : Int) + 1) (by omega) (by omega)]
    have ih := ih m (i + 1) (by omega) (by omega)
    rw [show ((i + 1 : Nat) : Int) = (i : Int) + 1 by omega, List.take_succ_eq_append_getElem (i := i) hlt, nextOf_snoc, List.map_append, List.map_append] at ih
    exact ih

end
/-! ### both sides alike -/

noncomputable def Mdl.Q (A : Mdl) : List Nat := bfs (sQ A A.Lc) (A.T + 1) 0 [chf A A.Lc 0]

theorem sQ_in {A : Mdl} {L : List Nat} (hL : LOk A L) {s : Nat} (hs : s ∈ L) : ∀ x ∈ sQ A L s, x ∈ L := by
  intro x hx
  simp only [sQ, List.mem_map, List.mem_range] at hx
  obtain ⟨j, hj, rfl⟩ := hx
  exact (chf_of (hL.cl s hs j hj)).1

theorem Q_in {A : Mdl} (h : MOk A) : (∀ x ∈ A.Q, x ∈ A.Lc) ∧ A.Q.Nodup := by
  have hL := lc_ok h
  refine ⟨fun x hx => ?_, bfs_nodup _ _ _ (by simp)⟩
  have hr := bfs_sound (succ := sQ A A.Lc) (x0 := chf A A.Lc 0) _ _ _ (fun y hy => by rw [List.mem_singleton.1 hy]; exact .base) x hx
  clear hx
  induction hr with
  | base => exact (chf_of hL.zero).1
  | step h1 h2 ih => exact sQ_in hL ih _ h2

theorem Q_len {A : Mdl} (h : MOk A) : A.Q.length ≤ A.T := nodup_le (Q_in h).2 fun x hx => (lc_ok h).lt x ((Q_in h).1 x hx)

theorem specMin {R : Type} {A : Mdl} (h : MOk A) (N : Nat) (hN : 16777216 < N) (hok : okDfa A.c (A.w : Int) A.n A.t A.e = true) (hsz : A.Q.length * (reps (colS A A.Lc A.Q) (List.range 256)).length ≤ 1048576 - 300) (k : Int → List Int → List Int → List Int → List Int → Option R) :
    F.spec_Minimize N A.c (A.w : Int) A.n A.t A.e k = outOf A (partOf (colS A A.Lc A.Q) (List.range 256)) (cS A A.Lc A.Q) A.Q (reps (colS A A.Lc A.Q) (List.range 256)) k := by
  have hT := h.T2
  have hT1 := h.T1
  have hL := lc_ok h
  have hln := hL.len
  have hq : A.T * A.w ≤ 4000 * 256 := Nat.mul_le_mul h.T2 h.w2
  obtain ⟨M, m1, m2⟩ := specApart h hL N hN
  obtain ⟨q1, q2⟩ := Q_in h
  have q3 := Q_len h
  simp only [F.spec_Minimize]
  rw [specDfaOK N A.c _ A.n A.t A.e (by rw [h.lc]; omega) (by rw [h.ln]; omega) (by rw [h.lt]; omega) (by rw [h.le]; omega) (by omega), hok]
  simp only [Bool.not_true, cond_false]
  rw [specReached h N (by omega), m1, h.lt]
  simp only [Bool.cond_decide, ints_len]
  rw [if_pos (by omega), show Nat.ble (Int.toNat (A.T : Int)) (bigOf 8) = true by rw [Nat.ble_eq]; simp [bigOf]; omega, cond_true, Int.toNat_natCast]
  have h0 := fun k' => smin_l0 (R := R) h hL N (by omega) m2 0 [] [] [] [] k' A.Lc.length N 0 (by omega) (by omega)
  simp only [List.take_zero, ofL_nil] at h0
  refine (h0 _).trans ?_
  simp only [ofL_len]
  rw [inB_true (by omega) (by omega), cond_true]
  rw [show List.getD (ofL A.T (chf A A.Lc) A.Lc) (Int.toNat 0) 0 = ((chf A A.Lc 0 : Nat) : Int) from ofL_get (s := 0) (by omega) hL.zero]
  have h4 := fun k' => smin_l4 (R := R) h hL N (by omega) A.Q 0 [] [] [] [] k' (A.T + 1) N 0 [chf A A.Lc 0] (by omega) (by omega) (by intro x hx; rw [List.mem_singleton.1 hx]; exact (chf_of hL.zero).1) (by simp) (by simp) rfl
  refine (h4 _).trans ?_
  have h8 := fun k' => smin_l8 (R := R) (A := A) (L := A.Lc) N (by omega) (Q := A.Q) (by omega) A.c (A.w : Int) A.n A.t A.e 0 (ints A.Q) 0 [] [] [] [] [] [] [] k' 256 N 0 (by omega) (by omega)
  refine (h8 _).trans ?_
  simp only [ints_len]
  have h14 := fun b1 k' => smin_l14 (R := R) (L := A.Lc) h N (by omega) (Q := A.Q) (by omega) (fun x hx => hL.lt x (q1 x hx)) (rng_reps_lt (colS A A.Lc A.Q)) (rng_reps_len _) hsz 0 ((reps (colS A A.Lc A.Q) (List.range 256)).length : Int) [] [] [] [] b1 k' A.Q.length N 0 (by omega) (by omega)
  refine (h14 _ _).trans ?_
  rfl

/-- What is known of both sides' kinds. -/
theorem kinds {A : Mdl} (h : MOk A) {P : Nat → Nat} (hP : ∀ x ∈ A.Lb, ∀ y ∈ A.Lb, P x = P y ↔ A.Eqv x y) :
    A.Q = (reps (PI P) A.Lb).map (chf A A.Lc) ∧ (∀ s ∈ reps (PI P) A.Lb, ∀ j, j < 256 → cS A A.Lc A.Q (chf A A.Lc s) j = cell A P A.Lb s j) := by
  have hb := lb_ok h
  have hc := lc_ok h
  have hbc : ∀ {x}, x ∈ A.Lb → x ∈ A.Lc := fun hx => (hc.rch _).2 ((hb.rch _).1 hx)
  have hrel : ∀ x ∈ A.Lb, ∀ y ∈ A.Lb, chf A A.Lc x = chf A A.Lc y ↔ PI P x = PI P y := by
    intro x hx y hy
    rw [chf_eq (hbc hx) (hbc hy), ← hP x hx y hy]
    unfold PI
    omega
  have hQ : A.Q = (reps (PI P) A.Lb).map (chf A A.Lc) := by
    have himg := bfs_image (succ := A.sB) (succ' := sQ A A.Lc) (B := chf A A.Lc) (S := fun x => x ∈ A.Lb) (fun x hx y hy => by
        simp only [Mdl.sB, List.mem_map, List.mem_range] at hy
        obtain ⟨j, hj, rfl⟩ := hy
        exact hb.cl x hx j hj) (fun x hx => by
        unfold sQ Mdl.sB
        rw [List.map_map]
        apply List.map_congr_left
        intro j hj
        have hj := List.mem_range.1 hj
        have hcx := chf_of (A := A) (hbc hx)
        exact (chf_eq (hc.cl _ hcx.1 j hj) (hbc (hb.cl x hx j hj))).2 (hcx.2.symm.step hj)) (A.T + 1) (A.T + 1) 0 0 [0] [chf A A.Lc 0] (fun x hx => by rw [List.mem_singleton.1 hx]; exact hb.zero) rfl rfl ⟨[chf A A.Lc 0], rfl⟩ (by simp)
        (by have := hb.len; unfold Mdl.Lb at this; omega) (by simp) (by
          rw [dd_reps, List.length_map]
          have h1 := reps_len_le (chf A A.Lc) A.Lb
          have h2 := hb.len
          unfold Mdl.Lb at h1 h2
          omega)
    rw [dd_reps] at himg
    have hr : reps (chf A A.Lc) A.Lb = reps (PI P) A.Lb := reps_same hrel
    unfold Mdl.Lb at hr
    rw [hr] at himg
    exact himg
  refine ⟨hQ, fun s hs j hj => ?_⟩
  have hsb := reps_mem hs
  have hcs := chf_of (A := A) (hbc hsb)
  have hx : A.nx s j ∈ A.Lb := hb.cl s hsb j hj
  have e1 : chf A A.Lc (A.nx (chf A A.Lc s) j) = chf A A.Lc (A.nx s j) := (chf_eq (hc.cl _ hcs.1 j hj) (hbc hx)).2 (hcs.2.symm.step hj)
  unfold cS cell
  rw [e1, hQ]
  unfold partOf
  exact idx_same fun y hy => hrel y (reps_mem hy) _ hx

theorem byt2_inj {a b : Nat} (ha : a < 65536) (hb : b < 65536) : intsStr (byt2 a) = intsStr (byt2 b) ↔ a = b := by
  constructor
  · intro e
    have key : ∀ x y : Nat, x < 256 → y < 256 → UInt8.ofNat ((x : Int).toNat) = UInt8.ofNat ((y : Int).toNat) → x = y := by
      intro x y hx hy e
      have := congrArg UInt8.toNat e
      simp only [Int.toNat_natCast, UInt8.toNat_ofNat'] at this
      omega
    simp only [intsStr, byt2, List.map_cons, List.map_nil, List.cons.injEq, and_true] at e
    have e1 := key _ _ (Nat.mod_lt _ (by omega)) (Nat.mod_lt _ (by omega)) e.1
    have e2 := key _ _ (Nat.mod_lt _ (by omega)) (Nat.mod_lt _ (by omega)) e.2
    omega
  · intro e; rw [e]

theorem colB_iff {A : Mdl} {P : Nat → Nat} {S : List Nat} {i j : Nat} : ∀ {f : List Nat}, (∀ s ∈ f, cell A P S s i < 65536 ∧ cell A P S s j < 65536) → (colB A P S f i = colB A P S f j ↔ f.map (fun s => cell A P S s i) = f.map (fun s => cell A P S s j))
  | [], _ => by simp [colB, colI]
  | s :: f, h => by
    have ih := colB_iff (f := f) fun x hx => h x (by simp [hx])
    have hs := h s (by simp)
    have e : ∀ z, colB A P S (s :: f) z = intsStr (byt2 (cell A P S s z)) ++ colB A P S f z := by
      intro z
      simp [colB, colI, intsStr]
    rw [e, e, List.map_cons, List.map_cons, List.cons.injEq, ← ih, ← byt2_inj hs.1 hs.2]
    constructor
    · intro h1
      exact List.append_inj h1 (by simp [intsStr, byt2])
    · rintro ⟨h1, h2⟩
      rw [h1, h2]

theorem outOf_same {A : Mdl} (h : MOk A) {P : Nat → Nat} (hP : ∀ x ∈ A.Lb, ∀ y ∈ A.Lb, P x = P y ↔ A.Eqv x y) {β : Type} (k : Int → List Int → List Int → List Int → List Int → β) :
    outOf A (partOf (colB A P A.Lb (reps (PI P) A.Lb)) (List.range 256)) (cell A P A.Lb) (reps (PI P) A.Lb) (reps (colB A P A.Lb (reps (PI P) A.Lb)) (List.range 256)) k =
    outOf A (partOf (colS A A.Lc A.Q) (List.range 256)) (cS A A.Lc A.Q) A.Q (reps (colS A A.Lc A.Q) (List.range 256)) k ∧
    (reps (PI P) A.Lb).length = A.Q.length ∧ (reps (colB A P A.Lb (reps (PI P) A.Lb)) (List.range 256)).length = (reps (colS A A.Lc A.Q) (List.range 256)).length := by
  obtain ⟨hQ, hcs⟩ := kinds h hP
  have hb := lb_ok h
  have hc := lc_ok h
  have hT := h.T2
  have hln := hb.len
  have hcell : ∀ s ∈ reps (PI P) A.Lb, ∀ j, j < 256 → cell A P A.Lb s j < 65536 := by
    intro s hs j hj
    have h1 : cell A P A.Lb s j < ((reps (PI P) A.Lb).map (PI P)).length := List.idxOf_lt_length_iff.2 (reps_has (hb.cl s (reps_mem hs) j hj))
    have h2 := reps_len_le (PI P) A.Lb
    rw [List.length_map] at h1
    omega
  have hcol : ∀ x ∈ List.range 256, ∀ y ∈ List.range 256, colB A P A.Lb (reps (PI P) A.Lb) x = colB A P A.Lb (reps (PI P) A.Lb) y ↔ colS A A.Lc A.Q x = colS A A.Lc A.Q y := by
    intro x hx y hy
    have hx := List.mem_range.1 hx
    have hy := List.mem_range.1 hy
    rw [colB_iff fun s hs => ⟨hcell s hs x hx, hcell s hs y hy⟩]
    have e : ∀ z, z < 256 → colS A A.Lc A.Q z = (reps (PI P) A.Lb).map fun s => cell A P A.Lb s z := by
      intro z hz
      unfold colS
      conv => lhs; rw [show (List.map (fun s => cS A A.Lc A.Q s z) A.Q) = List.map (fun s => cS A A.Lc A.Q s z) ((reps (PI P) A.Lb).map (chf A A.Lc)) from congrArg _ hQ]
      rw [List.map_map]
      apply List.map_congr_left
      intro s hs
      exact hcs s hs z hz
    rw [e x hx, e y hy]
  have hreps := reps_same hcol
  have hpart : (List.range 256).map (partOf (colB A P A.Lb (reps (PI P) A.Lb)) (List.range 256)) = (List.range 256).map (partOf (colS A A.Lc A.Q) (List.range 256)) := by
    apply List.map_congr_left
    intro x hx
    unfold partOf
    rw [hreps]
    exact idx_same fun y hy => hcol y (reps_mem hy) x hx
  have hnext : ∀ (f at' : List Nat), (∀ s ∈ f, ∀ j ∈ at', cS A A.Lc A.Q (chf A A.Lc s) j = cell A P A.Lb s j) → nextOf (cell A P A.Lb) at' f = nextOf (cS A A.Lc A.Q) at' (f.map (chf A A.Lc)) := by
    intro f at' hh
    induction f with
    | nil => rfl
    | cons s f ih =>
      simp only [nextOf, List.map_cons]
      have e : at'.map (cell A P A.Lb s) = at'.map (cS A A.Lc A.Q (chf A A.Lc s)) := List.map_congr_left fun j hj => (hh s (by simp) j hj).symm
      rw [ih fun x hx => hh x (by simp [hx]), e]
  refine ⟨?_, by rw [hQ, List.length_map], by rw [hreps]⟩
  have htag : ∀ (f : List Nat), (∀ s ∈ f, s ∈ A.Lc) → (f.map fun s => List.getD A.t s 0) = ((f.map (chf A A.Lc)).map fun s => List.getD A.t s 0) ∧ (f.map fun s => List.getD A.e s 0) = ((f.map (chf A A.Lc)).map fun s => List.getD A.e s 0) := by
    intro f hf
    rw [List.map_map, List.map_map]
    constructor
    · apply List.map_congr_left
      intro s hs
      exact (chf_of (A := A) (hf s hs)).2.tags.1
    · apply List.map_congr_left
      intro s hs
      exact (chf_of (A := A) (hf s hs)).2.tags.2
  have hbc : ∀ x ∈ reps (PI P) A.Lb, x ∈ A.Lc := fun x hx => (hc.rch _).2 ((hb.rch _).1 (reps_mem hx))
  unfold outOf
  rw [hreps, hpart, hnext _ _ (fun s hs j hj => hcs s hs j (rng_reps_lt _ j hj)), (htag _ hbc).1, (htag _ hbc).2, ← hQ]

/-- The lists that both sides give. -/
structure OutLens (A : Mdl) (w : Int) (c n t e : List Int) : Prop where
  lc : c.length ≤ 1048576
  ln : n.length ≤ 1048576
  lt : t.length ≤ 1048576
  le : e.length ≤ 1048576

theorem alike {A : Mdl} (h : MOk A) (N : Nat) (hN : 16777216 < N) (hok : okDfa A.c (A.w : Int) A.n A.t A.e = true) : ∃ w c n t e, OutLens A w c n t e ∧
    (∀ {R : Type} (k : Int → List Int → List Int → List Int → List Int → Option R), F.spec_Minimize N A.c (A.w : Int) A.n A.t A.e k = k w c n t e) ∧
    (∀ {R : Type} (k : Int → List Int → List Int → List Int → List Int → Option R), F.impl_Minimize N A.c (A.w : Int) A.n A.t A.e k = k w c n t e) := by
  have hb := lb_ok h
  have hT := h.T2
  have q3 := Q_len h
  obtain ⟨P, p1, p2⟩ := implBlocks h N (by omega) hb.lt hb.len (List.ne_nil_of_mem hb.zero) hb.cl
  have hl := rng_reps_len (colS A A.Lc A.Q)
  have hrc := outOf_same h p2 (β := Nat) (fun _ _ _ _ _ => 0)
  have hsz : A.Q.length * (reps (colS A A.Lc A.Q) (List.range 256)).length ≤ 1048576 - 300 := by
    have : A.Q.length * (reps (colS A A.Lc A.Q) (List.range 256)).length ≤ 4000 * 256 := Nat.mul_le_mul (by omega) hl
    omega
  refine ⟨_, _, _, _, _, ⟨?_, ?_, ?_, ?_⟩, fun k => specMin h N hN hok hsz k, ?_⟩
  · simp [ints]
  · rw [nextOf_len]; omega
  · simp; omega
  · simp; omega
  · intro R k
    rw [implTail h N (by omega) hb.lt hb.len hb.cl P (by rw [hrc.2.1, hrc.2.2]; omega) hok p1 (fun k => implReached h N (by omega) k)]
    exact (outOf_same h p2 k).1
theorem both (c : List Int) (w : Int) (n t e : List Int) (N : Nat) (hN : 16777216 < N) (hc : c.length ≤ 1048576) (hn : n.length ≤ 1048576) (ht : t.length ≤ 1048576) (he : e.length ≤ 1048576) :
    ∃ w' c' n' t' e', c'.length ≤ 1048576 ∧ n'.length ≤ 1048576 ∧ t'.length ≤ 1048576 ∧ e'.length ≤ 1048576 ∧
    (∀ {R : Type} (k : Int → List Int → List Int → List Int → List Int → Option R), F.spec_Minimize N c w n t e k = k w' c' n' t' e') ∧
    (∀ {R : Type} (k : Int → List Int → List Int → List Int → List Int → Option R), F.impl_Minimize N c w n t e k = k w' c' n' t' e') := by
  cases hok : okDfa c w n t e
  · refine ⟨0, [], [], [], [], by simp, by simp, by simp, by simp, ?_, ?_⟩
    · intro R k
      simp only [F.spec_Minimize]
      rw [specDfaOK N c w n t e hc hn ht he (by omega), hok]
      rfl
    · intro R k
      simp only [F.impl_Minimize, F.impl_Minimize_c]
      rw [implDfaOK N c w n t e hc hn ht he (by omega), hok]
      rfl
  · obtain ⟨hA, hw⟩ := mok_of hok
    rw [hw] at hok
    obtain ⟨w', c', n', t', e', hl, h1, h2⟩ := alike hA N hN hok
    refine ⟨w', c', n', t', e', hl.lc, hl.ln, hl.lt, hl.le, ?_, ?_⟩
    · intro R k
      have := h1 k
      rw [hw]; exact this
    · intro R k
      have := h2 k
      rw [hw]; exact this

theorem main (c : List Int) (w : Int) (n t e : List Int) (hc : c.length ≤ maxLen) (hn : n.length ≤ maxLen) (ht : t.length ≤ maxLen) (he : e.length ≤ maxLen) : ∃ N, F.laws_FnExactMinimize N c w n t e (fun b => some b) = some true := by
  obtain ⟨N, hN2⟩ : ∃ N, 16777216 < N := ⟨16777217, by omega⟩
  have hN : 1048576 < N := by omega
  refine ⟨N, ?_⟩
  simp only [F.laws_FnExactMinimize]
  refine szDfa c w n t e hc hn ht he _ _ ?_ ?_
  · intro z hz
    rw [Bool.cond_decide, if_pos hz]
  · intro z hz h1 h2 h3 h4
    rw [Bool.cond_decide, if_neg (by omega)]
    obtain ⟨w', c', n', t', e', k1, k2, k3, k4, hs, hi⟩ := both c w n t e N hN2 h1 h2 h3 h4
    simp only [toDfa N c w n t e h1 h2 h3 h4 hN, hs, hi, eqDfa N c' w' n' t' e' k1 k2 k3 k4 hN, eqDfa N c w n t e h1 h2 h3 h4 hN, F.laws_markDfa, F.laws_heldDfa]
    have M := fun (l : List Int) (hl : l.length ≤ 1048576) (k : Int) (h0 : 0 ≤ k) (h1 : k ≤ 1099511627776) => fun q => markIntS (R := Bool) N l hl k h0 h1 hN q
    rw [M c h1 _ (by omega) (by omega), M n h2 _ (by omega) (by omega), M t h3 _ (by omega) (by omega), M e h4 _ (by omega) (by omega)]
    rw [M c' k1 _ (by omega) (by omega), M n' k2 _ (by omega) (by omega), M t' k3 _ (by omega) (by omega), M e' k4 _ (by omega) (by omega)]
    have H := fun (m : Nat) (hl : m ≤ 1048576) (k : Int) (h0 : 0 ≤ k) (h1 : k ≤ 1099511627776) => fun q => heldIntS (R := Bool) N m hl k h0 h1 hN q
    rw [H _ k1 _ (by omega) (by omega), Bool.cond_decide, if_neg (by omega), H _ k2 _ (by omega) (by omega), Bool.cond_decide, if_neg (by omega), H _ k3 _ (by omega) (by omega), Bool.cond_decide, if_neg (by omega), H _ k4 _ (by omega) (by omega), Bool.cond_decide, if_neg (by omega)]
    simp only [bne_self_eq_false, cond_false, Bool.not_true]
    rw [Bool.cond_decide, if_neg (by omega), Bool.cond_decide, if_neg (by omega)]

theorem FnExactMinimize : ∀ (a0 : Ki.den (.pair (.lst (.int .i64)) (.pair (.int .i64) (.pair (.lst (.int .i64)) (.pair (.lst (.int .i64)) (.lst (.int .i64))))))), Fit (.pair (.lst (.int .i64)) (.pair (.int .i64) (.pair (.lst (.int .i64)) (.pair (.lst (.int .i64)) (.lst (.int .i64)))))) a0 → ∃ N, F.laws_FnExactMinimize N a0.1 a0.2.1 a0.2.2.1 a0.2.2.2.1 a0.2.2.2.2 (fun b => some b) = some true :=
  fun a0 h => main a0.1 a0.2.1 a0.2.2.1 a0.2.2.2.1 a0.2.2.2.2 h.1.1 h.2.2.1.1 h.2.2.2.1.1 h.2.2.2.2.1

end Go.Proofs.Ytclfonfegenfiaa.fnExactMinimize.Pure
