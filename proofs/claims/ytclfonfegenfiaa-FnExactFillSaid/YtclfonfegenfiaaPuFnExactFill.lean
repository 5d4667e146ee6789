/- The plain law of FnExactFill: both sides fill a template in alike. -/
import Derived.Test.YtclfonfegenfiaaFdFnExactFill
namespace Go.Proofs.Ytclfonfegenfiaa.fnExactFill.Pure
open Go.Ev Go.Proofs.Ytclfonfegenfiaa.fnExactFill

set_option linter.unusedVariables false
set_option linter.unusedSimpArgs false
/-! ### whole numbers -/

theorem wrap_id {n : Int} (h0 : -9223372036854775808 ≤ n) (h1 : n ≤ 9223372036854775807) : wrapK .i64 n = n := by
  simp only [wrapK, IntKind.wrap, IntKind.signed, IntKind.bits, Bool.true_and]
  split <;> rename_i h <;> simp only [ge_iff_le, decide_eq_true_eq] at h <;> omega

theorem inB_true {i : Int} {n : Nat} (h0 : 0 ≤ i) (h1 : i < n) : inB i n = true := by
  simp only [inB, Bool.and_eq_true, decide_eq_true_eq]; exact ⟨h0, h1⟩

theorem i64_of {n : Int} (h : (Lit.int .i64 n).wf = true) : -9223372036854775808 ≤ n ∧ n ≤ 9223372036854775807 := by
  simp only [Lit.wf, IntKind.min, IntKind.max, IntKind.signed, IntKind.bits, Bool.and_eq_true, decide_eq_true_eq] at h
  constructor
  · exact h.1
  · exact h.2

theorem maxLen_eq : maxLen = 9223372036854775807 := rfl

/-- All of a list's numbers are in range. -/
def I64s (l : List Int) : Prop := ∀ x ∈ l, -9223372036854775808 ≤ x ∧ x ≤ 9223372036854775807

theorem i64s_of {l : List Int} (h : ∀ x, List.Mem (α := Int) x l → Fit (.int .i64) x) : I64s l := fun x hx => i64_of (h x hx)

theorem getD_get (l : List Int) {i : Nat} (h : i < l.length) : List.getD l i (0 : Int) = l[i] := by simp [List.getD_eq_getElem?_getD, h]
/-! ### templates filled in -/

theorem maxLen_eq' : maxLen = 9223372036854775807 := rfl

theorem byteAt_nat (t : List UInt8) (i : Nat) : byteAt t (i : Int) = ((t.getD i 0).toNat : Int) := by
  simp [byteAt]

theorem writeByte {R : Type} (c : UInt8) (l : List UInt8) (hl : l.length + 1 ≤ 17592186044416) (k : List UInt8 → Option R) : F.strings_Builder_WriteByte (c.toNat : Int) l k = k (l ++ [c]) := by
  have h : (decide (0 ≤ (c.toNat : Int)) && decide ((c.toNat : Int) < 256) && Nat.ble (List.length l + 1) big) = true := by
    have := c.toNat_lt
    simp only [Bool.and_eq_true, decide_eq_true_eq, Nat.ble_eq, big]
    omega
  simp only [F.strings_Builder_WriteByte, h, cond_true, Int.toNat_natCast, UInt8.ofNat_toNat]

theorem writeString {R : Type} (s l : List UInt8) (hl : l.length + s.length ≤ 17592186044416) (k : Int → List UInt8 → Option R) : F.strings_Builder_WriteString s l k = k s.length (l ++ s) := by
  have h : Nat.ble (List.length l + List.length s) big = true := by simp only [Nat.ble_eq, big]; omega
  simp only [F.strings_Builder_WriteString, h, cond_true]

/-- What stands in group g. -/
def fspan (x : List UInt8) (sp : List (Int × Int)) (g : Nat) : List UInt8 :=
  if g < sp.length then
    if 0 ≤ (sp.getD g (0, 0)).1 then
      if (sp.getD g (0, 0)).1 ≤ (sp.getD g (0, 0)).2 then
        if (sp.getD g (0, 0)).2 ≤ x.length then (x.take (sp.getD g (0, 0)).2.toNat).drop (sp.getD g (0, 0)).1.toNat else []
      else []
    else []
  else []

theorem fspan_len (x : List UInt8) (sp : List (Int × Int)) (g : Nat) : (fspan x sp g).length ≤ x.length := by
  unfold fspan
  repeat' split
  all_goals (first | (simp; done) | (simp; omega))

/-- One round. -/
def fstep (t x : List UInt8) (sp : List (Int × Int)) (i : Nat) (out : List UInt8) : Nat × List UInt8 :=
  if (t.getD i 0).toNat = 92 then
    if i + 1 < t.length then
      if (t.getD (i + 1) 0).toNat = 92 then (i + 2, out ++ [92])
      else if 48 ≤ (t.getD (i + 1) 0).toNat then
        if (t.getD (i + 1) 0).toNat ≤ 57 then (i + 2, out ++ fspan x sp ((t.getD (i + 1) 0).toNat - 48))
        else (i + 1, out ++ [t.getD i 0])
      else (i + 1, out ++ [t.getD i 0])
    else (i + 1, out ++ [t.getD i 0])
  else (i + 1, out ++ [t.getD i 0])

theorem fstep_lt (t x : List UInt8) (sp : List (Int × Int)) (i : Nat) (out : List UInt8) : i < (fstep t x sp i out).1 := by
  unfold fstep
  repeat' split
  all_goals (simp only; omega)

theorem fstep_len {t x : List UInt8} {sp : List (Int × Int)} {i : Nat} {out : List UInt8} (hx : x.length ≤ 4096) (ho : out.length ≤ i * 4096) : (fstep t x sp i out).2.length ≤ (fstep t x sp i out).1 * 4096 := by
  unfold fstep
  have := fspan_len x sp ((t.getD (i + 1) 0).toNat - 48)
  repeat' split
  all_goals (simp only [List.length_append, List.length_cons, List.length_nil]; omega)

section
variable {R : Type} {N : Nat} {t x : List UInt8} {sp : List (Int × Int)} {i : Nat} {out : List UInt8} (ht : t.length ≤ 1000) (hx : x.length ≤ 4096) (hi : i < t.length) (ho : out.length ≤ i * 4096)
include ht hx hi ho

theorem implStep (next : List UInt8 → List UInt8 → List (Int × Int) → Int → List UInt8 → Option R) (ke : List UInt8 → Option R) :
    F.impl_Fill_l0_s N t x sp (i : Int) out next ke = next t x sp ((fstep t x sp i out).1 : Int) (fstep t x sp i out).2 := by
  have e1 : wrapK .i64 ((i : Int) + 1) = ((i + 1 : Nat) : Int) := by rw [wrap_id (by omega) (by omega)]; omega
  have e2 : wrapK .i64 (((i + 1 : Nat) : Int) + 1) = ((i + 2 : Nat) : Int) := by rw [wrap_id (by omega) (by omega)]; omega
  have n0 : inB (i : Int) t.length = true := inB_true (by omega) (by omega)
  simp only [F.impl_Fill_l0_s, e1, e2, byteAt_nat, n0, cond_true, Bool.cond_decide, fstep]
  rw [if_pos (by omega)]
  have hone : F.strings_Builder_WriteByte ((t.getD i 0).toNat : Int) out (fun r => next t x sp ((i + 1 : Nat) : Int) r) = next t x sp ((i + 1 : Nat) : Int) (out ++ [t.getD i 0]) := writeByte _ _ (by omega) _
  by_cases h1 : (t.getD i 0).toNat = 92
  · rw [if_pos h1, show (((t.getD i 0).toNat : Int) == 92) = true by rw [h1]; rfl, cond_true]
    by_cases h2 : i + 1 < t.length
    · rw [if_pos h2, if_pos (by omega), inB_true (by omega) (by omega), cond_true]
      by_cases h3 : (t.getD (i + 1) 0).toNat = 92
      · rw [if_pos h3, show (((t.getD (i + 1) 0).toNat : Int) == 92) = true by rw [h3]; rfl, cond_true]
        simp only [cond_true]
        rw [writeByte _ _ (by omega)]
        have : t.getD (i + 1) 0 = 92 := UInt8.toNat_inj.1 h3
        rw [this]
      · rw [if_neg h3, show (((t.getD (i + 1) 0).toNat : Int) == 92) = false by rw [beq_eq_false_iff_ne]; omega, cond_false]
        by_cases h4 : 48 ≤ (t.getD (i + 1) 0).toNat
        · rw [if_pos h4, if_pos (by omega)]
          by_cases h5 : (t.getD (i + 1) 0).toNat ≤ 57
          · rw [if_pos h5, if_pos (by omega)]
            have eg : wrapK .i64 (wrapK .u8 (((t.getD (i + 1) 0).toNat : Int) - 48)) = (((t.getD (i + 1) 0).toNat - 48 : Nat) : Int) := by
              have : wrapK .u8 (((t.getD (i + 1) 0).toNat : Int) - 48) = (((t.getD (i + 1) 0).toNat - 48 : Nat) : Int) := by
                simp only [wrapK, IntKind.wrap, IntKind.signed, IntKind.bits, Bool.false_and, Bool.false_eq_true, if_false]
                omega
              rw [this, wrap_id (by omega) (by omega)]
            simp only [eg, Int.toNat_natCast]
            generalize (t.getD (i + 1) 0).toNat - 48 = g
            have hfl := fspan_len x sp g
            unfold fspan at hfl ⊢
            by_cases h6 : g < sp.length
            · rw [if_pos h6] at hfl ⊢
              rw [if_pos (by omega), inB_true (by omega) (by omega), cond_true]
              generalize sp.getD g (0, 0) = p at hfl ⊢
              obtain ⟨a, b⟩ := p
              simp only at hfl ⊢
              by_cases h7 : 0 ≤ a
              · rw [if_pos h7, if_pos h7]
                rw [if_pos h7] at hfl
                by_cases h8 : a ≤ b
                · rw [if_pos h8, if_pos h8]
                  rw [if_pos h8] at hfl
                  by_cases h9 : b ≤ (x.length : Int)
                  · rw [if_pos h9] at hfl ⊢
                    rw [if_pos h9]
                    simp only [show decide (0 ≤ b) = true by simp; omega, h7, h8, h9, decide_true, Bool.and_self, cond_true]
                    rw [writeString _ _ (by omega)]
                  · rw [if_neg h9, if_neg h9, List.append_nil]
                · rw [if_neg h8, if_neg h8, List.append_nil]
              · rw [if_neg h7, if_neg h7, List.append_nil]
            · rw [if_neg h6, if_neg (by omega), List.append_nil]
          · rw [if_neg h5, if_neg (by omega)]
            exact hone
        · rw [if_neg h4, if_neg (by omega)]
          exact hone
    · rw [if_neg h2, if_neg (by omega)]
      exact hone
  · rw [if_neg h1, show (((t.getD i 0).toNat : Int) == 92) = false by rw [beq_eq_false_iff_ne]; omega, cond_false]
    exact hone

omit ht hx hi ho in
theorem take_one (l : List UInt8) {i : Nat} (h : i < l.length) : List.drop i (List.take (i + 1) l) = [l.getD i 0] := by
  rw [List.take_add_one, List.getElem?_eq_getElem h, List.drop_append_of_le_length (by simp; omega)]
  simp [List.getD_eq_getElem?_getD, h]

omit ht hx ho in
theorem at1 {S : Type} (k : Int → Option S) : F.spec_l1At t ((i + 1 : Nat) : Int) k = if i + 1 < t.length then k ((t.getD (i + 1) 0).toNat : Int) else k (-1) := by
  have e1 : wrapK .i64 ((t.getD (i + 1) 0).toNat : Int) = ((t.getD (i + 1) 0).toNat : Int) := by
    have := (t.getD (i + 1) 0).toNat_lt
    rw [wrap_id (by omega) (by omega)]
  simp only [F.spec_l1At, Bool.cond_decide, byteAt_nat, e1]
  rw [if_neg (by omega)]
  by_cases h : i + 1 < t.length
  · rw [if_neg (by omega), inB_true (by omega) (by omega), if_pos h, cond_true]
  · rw [if_pos (by omega), if_neg h]

theorem specStep (next : List UInt8 → List UInt8 → List (Int × Int) → List UInt8 → Int → Option R) (ke : List UInt8 → Option R) :
    F.spec_Fill_l0_s N t x sp out (i : Int) next ke = next t x sp (fstep t x sp i out).2 ((fstep t x sp i out).1 : Int) := by
  have e1 : wrapK .i64 ((i : Int) + 1) = ((i + 1 : Nat) : Int) := by rw [wrap_id (by omega) (by omega)]; omega
  have e2 : wrapK .i64 ((i : Int) + 2) = ((i + 2 : Nat) : Int) := by rw [wrap_id (by omega) (by omega)]; omega
  have n0 : inB (i : Int) t.length = true := inB_true (by omega) (by omega)
  have c1 : (decide ((0 : Int) ≤ ((i + 1 : Nat) : Int)) && decide (((i + 1 : Nat) : Int) ≤ (List.length t : Int))) = true := by simp; omega
  have c2 : (decide (0 ≤ (i : Int)) && decide ((i : Int) ≤ ((i + 1 : Nat) : Int))) = true := by simp; omega
  have c3 : ∀ s : List UInt8, s.length ≤ 4096 → Nat.ble (List.length out + List.length s) big = true := fun s hs => by simp only [Nat.ble_eq, big]; omega
  have c4 := c3 [t.getD i 0] (by simp)
  have c5 : Nat.ble (List.length out + List.length ([92] : List Nat)) big = true := c3 [92] (by simp)
  simp only [F.spec_Fill_l0_s, e1, e2, at1 hi, byteAt_nat, n0, cond_true, Bool.cond_decide, c1, c2, c4, c5, Int.toNat_natCast, take_one t hi, F.spec_l1Between]
  rw [if_pos (by omega)]
  unfold fstep
  by_cases h1 : (t.getD i 0).toNat = 92
  · rw [if_pos h1]
    simp only [show (((t.getD i 0).toNat : Int) == 92) = true by rw [h1]; rfl, cond_true]
    by_cases h2 : i + 1 < t.length
    · rw [if_pos h2, if_pos h2]
      by_cases h3 : (t.getD (i + 1) 0).toNat = 92
      · rw [if_pos h3]
        simp only [show (((t.getD (i + 1) 0).toNat : Int) == 92) = true by rw [h3]; rfl, cond_true]
      · rw [if_neg h3]
        simp only [show (((t.getD (i + 1) 0).toNat : Int) == 92) = false by rw [beq_eq_false_iff_ne]; omega, cond_false]
        by_cases h4 : 48 ≤ (t.getD (i + 1) 0).toNat
        · rw [if_pos h4, if_pos (by omega)]
          by_cases h5 : (t.getD (i + 1) 0).toNat ≤ 57
          · rw [if_pos h5, if_pos (by omega)]
            have eg : wrapK .i64 (((t.getD (i + 1) 0).toNat : Int) - 48) = (((t.getD (i + 1) 0).toNat - 48 : Nat) : Int) := by
              rw [wrap_id (by omega) (by omega)]; omega
            simp only [eg, Int.toNat_natCast]
            generalize (t.getD (i + 1) 0).toNat - 48 = g
            have hfl := fspan_len x sp g
            unfold fspan at hfl ⊢
            by_cases h6 : g < sp.length
            · rw [if_pos h6] at hfl ⊢
              simp only [inB_true (show (0 : Int) ≤ (g : Int) by omega) (show (g : Int) < (sp.length : Int) by omega), cond_true]
              rw [if_pos (by omega)]
              generalize sp.getD g (0, 0) = p at hfl ⊢
              obtain ⟨a, b⟩ := p
              simp only at hfl ⊢
              by_cases h7 : 0 ≤ a
              · rw [if_pos h7, if_pos h7]
                rw [if_pos h7] at hfl
                by_cases h8 : a ≤ b
                · rw [if_pos h8, if_pos h8]
                  rw [if_pos h8] at hfl
                  by_cases h9 : b ≤ (x.length : Int)
                  · rw [if_pos h9] at hfl ⊢
                    rw [if_pos h9]
                    simp only [show decide (0 ≤ b) = true by simp; omega, h7, h8, h9, decide_true, Bool.and_self, cond_true, c3 _ (Nat.le_trans hfl hx)]
                  · rw [if_neg h9, if_neg h9, List.append_nil]
                · rw [if_neg h8, if_neg h8, List.append_nil]
              · rw [if_neg h7, if_neg h7, List.append_nil]
            · rw [if_neg h6, if_neg (by omega), List.append_nil]
          · rw [if_neg h5, if_neg (by omega)]
        · rw [if_neg h4, if_neg (by omega)]
    · rw [if_neg h2, if_neg h2]
      rfl
  · rw [if_neg h1]
    simp only [show (((t.getD i 0).toNat : Int) == 92) = false by rw [beq_eq_false_iff_ne]; omega, cond_false, ite_self]
end

/-- The whole walk. -/
def fillF (t x : List UInt8) (sp : List (Int × Int)) : Nat → Nat → List UInt8 → List UInt8
  | 0, _, out => out
  | d + 1, i, out => if i < t.length then fillF t x sp d (fstep t x sp i out).1 (fstep t x sp i out).2 else out

section
variable {R : Type} {N : Nat} {t x : List UInt8} {sp : List (Int × Int)} (ht : t.length ≤ 1000) (hx : x.length ≤ 4096)
include ht hx

theorem implLoop (ke : List UInt8 → Option R) : ∀ (d n i : Nat) (out : List UInt8), t.length ≤ i + d → d < n → out.length ≤ i * 4096 → F.impl_Fill_l0 N n t x sp (i : Int) out ke = ke (fillF t x sp d i out) := by
  intro d
  induction d with
  | zero =>
    intro n i out hi hn ho
    obtain ⟨n, rfl⟩ : ∃ m, n = m + 1 := ⟨n - 1, by omega⟩
    simp only [F.impl_Fill_l0, F.impl_Fill_l0_s, fillF]
    rw [Bool.cond_decide, if_neg (by omega)]
  | succ d ih =>
    intro n i out hi hn ho
    obtain ⟨n, rfl⟩ : ∃ m, n = m + 1 := ⟨n - 1, by omega⟩
    by_cases h : i < t.length
    · simp only [F.impl_Fill_l0, fillF]
      rw [implStep ht hx h ho, if_pos h]
      have := fstep_lt t x sp i out
      exact ih n _ _ (by omega) (by omega) (fstep_len hx ho)
    · simp only [F.impl_Fill_l0, F.impl_Fill_l0_s, fillF]
      rw [Bool.cond_decide, if_neg (by omega), if_neg h]

theorem specLoop (ke : List UInt8 → Option R) : ∀ (d n i : Nat) (out : List UInt8), t.length ≤ i + d → d < n → out.length ≤ i * 4096 → F.spec_Fill_l0 N n t x sp out (i : Int) ke = ke (fillF t x sp d i out) := by
  intro d
  induction d with
  | zero =>
    intro n i out hi hn ho
    obtain ⟨n, rfl⟩ : ∃ m, n = m + 1 := ⟨n - 1, by omega⟩
    simp only [F.spec_Fill_l0, F.spec_Fill_l0_s, fillF]
    rw [Bool.cond_decide, if_neg (by omega)]
  | succ d ih =>
    intro n i out hi hn ho
    obtain ⟨n, rfl⟩ : ∃ m, n = m + 1 := ⟨n - 1, by omega⟩
    by_cases h : i < t.length
    · simp only [F.spec_Fill_l0, fillF]
      rw [specStep ht hx h ho, if_pos h]
      have := fstep_lt t x sp i out
      exact ih n _ _ (by omega) (by omega) (fstep_len hx ho)
    · simp only [F.spec_Fill_l0, F.spec_Fill_l0_s, fillF]
      rw [Bool.cond_decide, if_neg (by omega), if_neg h]
end

/-- What Fill answers. -/
def fillV (t x : List UInt8) (sp : List (Int × Int)) : List UInt8 :=
  if 1000 < t.length then [] else if 4096 < x.length then [] else (fillF t x sp t.length 0 []).take 1000

theorem implFill {R : Type} (N : Nat) (hN : 1000 < N) (t x : List UInt8) (sp : List (Int × Int)) (k : List UInt8 → Option R) : F.impl_Fill N t x sp k = k (fillV t x sp) := by
  simp only [F.impl_Fill, Bool.cond_decide, fillV]
  by_cases h1 : 1000 < t.length
  · rw [if_pos (by omega), if_pos h1]
  · rw [if_neg (by omega), if_neg h1]
    by_cases h2 : 4096 < x.length
    · rw [if_pos (by omega), if_pos h2]
    · rw [if_neg (by omega), if_neg h2]
      have := implLoop (N := N) (sp := sp) (show t.length ≤ 1000 by omega) (show x.length ≤ 4096 by omega) (fun y => F.strings_Builder_String y fun r17 =>
          bif decide (0 ≤ (if (1000 : Int) < (List.length r17 : Int) then (1000 : Int) else (List.length r17 : Int))) && decide ((if (1000 : Int) < (List.length r17 : Int) then (1000 : Int) else (List.length r17 : Int)) ≤ (List.length r17 : Int)) then
            k (List.drop 0 (List.take (Int.toNat (if (1000 : Int) < (List.length r17 : Int) then (1000 : Int) else (List.length r17 : Int))) r17))
          else none) t.length N 0 [] (by omega) (by omega) (by simp)
      refine this.trans ?_
      simp only [F.strings_Builder_String]
      generalize fillF t x sp t.length 0 [] = y
      by_cases h3 : (1000 : Int) < (y.length : Int)
      · rw [if_pos h3]
        simp only [show (decide ((0 : Int) ≤ 1000) && decide ((1000 : Int) ≤ (y.length : Int))) = true by simp; omega, cond_true]
        rfl
      · rw [if_neg h3]
        simp only [show (decide ((0 : Int) ≤ (y.length : Int)) && decide ((y.length : Int) ≤ (y.length : Int))) = true by simp, cond_true, Int.toNat_natCast, List.drop_zero]
        rw [List.take_of_length_le (Nat.le_refl _), List.take_of_length_le (by omega)]

theorem specFill {R : Type} (N : Nat) (hN : 1000 < N) (t x : List UInt8) (sp : List (Int × Int)) (k : List UInt8 → Option R) : F.spec_Fill N t x sp k = k (fillV t x sp) := by
  simp only [F.spec_Fill, Bool.cond_decide, fillV]
  by_cases h1 : 1000 < t.length
  · rw [if_pos (by omega), if_pos h1]
  · rw [if_neg (by omega), if_neg h1]
    by_cases h2 : 4096 < x.length
    · rw [if_pos (by omega), if_pos h2]
    · rw [if_neg (by omega), if_neg h2]
      refine (specLoop (N := N) (sp := sp) (show t.length ≤ 1000 by omega) (show x.length ≤ 4096 by omega) _ t.length N 0 [] (by omega) (by omega) (by simp)).trans ?_
      generalize fillF t x sp t.length 0 [] = y
      by_cases h3 : 1000 < y.length
      · rw [if_pos (by omega)]
        have : (decide ((0 : Nat) ≤ 1000) && decide ((1000 : Int) ≤ (y.length : Int))) = true := by simp; omega
        rw [this]
        rfl
      · rw [if_neg (by omega), List.take_of_length_le (by omega)]

/-! ### rows of pairs -/

theorem getD_getP (l : List (Int × Int)) {i : Nat} (h : i < l.length) : List.getD l i ((0 : Int), (0 : Int)) = l[i] := by simp [List.getD_eq_getElem?_getD, h]

theorem szPairS {R : Type} (l : List (Int × Int)) (n : Int) (h0 : 0 ≤ n) (h1 : n ≤ 1048576) (hl : l.length ≤ maxLen) (k : Int → Option R) : F.laws_szPairS l n k = if n < l.length then k (-1) else k (n - l.length) := by
  rw [maxLen_eq] at hl
  simp only [F.laws_szPairS]
  rw [wrap_id (by omega) (by omega), Bool.cond_decide]
  by_cases h : n < l.length
  · rw [if_pos (by omega), if_pos h]
  · rw [if_neg (by omega), if_neg h]

theorem toPairS_l0 {R : Type} (N : Nat) (l : List (Int × Int)) (hl : l.length ≤ 1048576) (k : List (Int × Int) → Option R) : ∀ (d n i : Nat), i + d = l.length → d < n → F.laws_toPairS_l0 N n l (i : Int) (l.take i ++ List.replicate d ((0 : Int), (0 : Int))) k = k l := by
  intro d
  induction d with
  | zero =>
    intro n i hi hn
    obtain ⟨n, rfl⟩ : ∃ m, n = m + 1 := ⟨n - 1, by omega⟩
    simp only [F.laws_toPairS_l0, F.laws_toPairS_l0_s, Bool.cond_decide]
    rw [if_neg (by omega)]
    simp [show i = l.length by omega]
  | succ d ih =>
    intro n i hi hn
    obtain ⟨n, rfl⟩ : ∃ m, n = m + 1 := ⟨n - 1, by omega⟩
    simp only [F.laws_toPairS_l0, F.laws_toPairS_l0_s, Bool.cond_decide, F.laws_toPair]
    rw [if_pos (by omega), inB_true (by omega) (by omega), inB_true (by omega) (by simp; omega), wrap_id (by omega) (by omega)]
    simp only [cond_true, Int.toNat_natCast]
    have := ih n (i + 1) (by omega) (by omega)
    rw [show ((i + 1 : Nat) : Int) = (i : Int) + 1 by omega] at this
    rw [← this]
    congr 1
    rw [getD_getP l (by omega), List.set_append_right _ _ (by simp; omega), List.take_succ_eq_append_getElem (i := i) (by omega)]
    simp only [List.length_take, Nat.min_eq_left (show i ≤ l.length by omega), Nat.sub_self, List.replicate_succ, List.set_cons_zero, List.append_assoc, List.singleton_append]

theorem toPairS {R : Type} (N : Nat) (l : List (Int × Int)) (hl : l.length ≤ 1048576) (hN : 1048576 < N) (k : List (Int × Int) → Option R) : F.laws_toPairS N l k = k l := by
  simp only [F.laws_toPairS, Bool.cond_decide]
  rw [if_pos (by omega)]
  have hb : Nat.ble (Int.toNat (l.length : Int)) (bigOf 16) = true := by
    rw [Nat.ble_eq]
    simp only [bigOf, Int.toNat_natCast]
    omega
  rw [hb]
  simp only [cond_true, Int.toNat_natCast]
  exact toPairS_l0 N l hl k l.length N 0 (by omega) (by omega)

theorem eqPairS_l0 {R : Type} (N : Nat) (l : List (Int × Int)) (hl : l.length ≤ 1048576) (k : Unit → Option R) (k' : Bool → Option R) : ∀ (d n i : Nat), i + d = l.length → d < n → F.laws_eqPairS_l0 N n l l (i : Int) k k' = k () := by
  intro d
  induction d with
  | zero =>
    intro n i hi hn
    obtain ⟨n, rfl⟩ : ∃ m, n = m + 1 := ⟨n - 1, by omega⟩
    simp only [F.laws_eqPairS_l0, F.laws_eqPairS_l0_s, Bool.cond_decide]
    rw [if_neg (by omega)]
  | succ d ih =>
    intro n i hi hn
    obtain ⟨n, rfl⟩ : ∃ m, n = m + 1 := ⟨n - 1, by omega⟩
    simp only [F.laws_eqPairS_l0, F.laws_eqPairS_l0_s, Bool.cond_decide, F.laws_eqPair]
    rw [if_pos (by omega), inB_true (by omega) (by omega), wrap_id (by omega) (by omega)]
    simp only [cond_true, bne_self_eq_false, cond_false, Bool.not_true]
    have := ih n (i + 1) (by omega) (by omega)
    rw [show ((i + 1 : Nat) : Int) = (i : Int) + 1 by omega] at this
    exact this

theorem eqPairS {R : Type} (N : Nat) (l : List (Int × Int)) (hl : l.length ≤ 1048576) (hN : 1048576 < N) (k : Bool → Option R) : F.laws_eqPairS N l l k = k true := by
  simp only [F.laws_eqPairS, bne_self_eq_false, cond_false]
  exact eqPairS_l0 N l hl _ _ l.length N 0 (by omega) (by omega)

theorem main (t x : List UInt8) (sp : List (Int × Int)) (hl : sp.length ≤ maxLen) : ∃ N, F.laws_FnExactFill N t x sp (fun b => some b) = some true := by
  obtain ⟨N, hN⟩ : ∃ N, 1048576 < N := ⟨1048577, by omega⟩
  refine ⟨N, ?_⟩
  simp only [F.laws_FnExactFill, Bool.cond_decide]
  split
  · rfl
  split
  · rfl
  rw [szPairS sp 1048576 (by omega) (by omega) hl]
  by_cases h : (1048576 : Int) < (sp.length : Int)
  · rw [if_pos h, if_pos (by omega)]
  · have hl2 : sp.length ≤ 1048576 := by omega
    rw [if_neg h, if_neg (by omega), toPairS N sp hl2 hN, specFill N (by omega), toPairS N sp hl2 hN, implFill N (by omega)]
    simp only [beq_self_eq_true, Bool.not_true, cond_false]
    rw [toPairS N sp hl2 hN, eqPairS N sp hl2 hN]
    rfl

theorem FnExactFill : ∀ (a0 : Ki.den .str), ∀ (a1 : Ki.den .str), ∀ (a2 : Ki.den (.lst (.pair (.int .i64) (.int .i64)))), Fit .str a0 → Fit .str a1 → Fit (.lst (.pair (.int .i64) (.int .i64))) a2 → ∃ N, F.laws_FnExactFill N a0 a1 a2 (fun b => some b) = some true :=
  fun a0 a1 a2 _ _ h => main a0 a1 a2 h.1

end Go.Proofs.Ytclfonfegenfiaa.fnExactFill.Pure
