/- An abstract evaluator of Go code over plain data, and the proof that what it says of a function comes to pass. Part 3. -/
import Derived.Test.YtgmgmgcjkalanaaEb
import Derived.ChangeArms
import Derived.ChangeShapes
import Derived.WideShapes
import Derived.OpenShut
import Derived.ShutString
import Derived.ChangeOld
import Derived.Carry

set_option linter.unusedVariables false
set_option linter.unusedSimpArgs false

/- What is stored. -/
namespace Go.Ev

variable {R : Type} {E : Env} {X : Cx} {P : Program} {t : Nat} {ti : TyI} {w : World}

/-- What a store comes to. -/
structure Stores (E : Env) (X : Cx) (n : Nat) (av vv : Value) (u : Upd) : Prop where
  out : ∃ g o cur X', av = .pointer (some ⟨g, o, none⟩) ∧ Cells X.w g cur ∧ o + n ≤ cur.length ∧ vv.cells.toList.length = n ∧ (∀ c ∈ vv.cells.toList, c.oneCell' = true) ∧
    X'.w = setBlk X.w g (splice cur o vv.cells.toList) ∧ ∀ nb val, Good E X nb .un u val X'

theorem setBlk_facts {g : Nat} {cur : List Value} : (setBlk w g cur).os = w.os ∧ (setBlk w g cur).tape = w.tape ∧ (setBlk w g cur).output = w.output := ⟨rfl, rfl, rfl⟩

theorem rowK_none {ps : List AV} (h : ∀ a ∈ ps, a.norw = true) : ∀ K l, ps ≠ [.rw K l] := by
  intro K l e
  have := h (.rw K l) (by rw [e]; simp)
  simp [AV.norw] at this

/-- Into a box. -/
theorem store_box (R : Rel E X) {b : Nat} {v v' : Nat} {qs qs' : List AV} {ks : List Nat} {g : Nat} {fps : List Nat} {cur : List Value} (hl : look b X.s.st = some (.cell false v qs)) (hc : X.cm b = some (.box g fps)) (hcur : Cells X.w g cur)
    (hvv : v ≤ v') (hbk : b ∉ ks) (hlive : ∀ b ∈ ks, ∃ x, look b X.s.st = some x) {o n : Nat} {nc : List Value} {nf : List Nat} (hks : FromKs X ks nf) (hW : Wrote X qs' cur fps o n nc nf) (hnc : nc.length = n) :
    ∃ X', X'.w = setBlk X.w g (splice cur o nc) ∧ o + n ≤ cur.length ∧ ∀ nb val, Good E X nb .un ((b, some (.cell false v' qs')) :: kills ks) val X' := by
  obtain ⟨c1, c2, c3, f1, f2, f3, e1, e2, e3, e4, e5, e6⟩ := hW.out
  have hle : o + n ≤ cur.length := by rw [e1]; simp; omega
  have hsp : splice cur o nc = c1 ++ nc ++ c3 := by rw [e1, ← e3, splice_eq _ _ _ _ (by omega)]
  have hS : SetBlk E X b (.cell false v qs) (.cell false v' qs') ks (.box g fps) (.box g (f1 ++ nf ++ f3)) (setBlk X.w g (splice cur o nc)) (fun k => k = g) (setB X b (.cell false v' qs') ks (.box g (f1 ++ nf ++ f3)) (setBlk X.w g (splice cur o nc))) := by
    refine ⟨rfl, rfl, rfl, rfl, hl, hc, rfl, ?_, hbk, rfl, rfl, rfl, by rw [setBlk_size]; exact Nat.le_refl _, fun k hk hT => setBlk_other _ _ _ _ hT, fun k hk => by simp [CB.fp, hk]⟩
    intro ro'' v'' ps'' e
    cases e
    exact ⟨false, v, qs, rfl, hvv, fun _ ⟨K, l, e, _⟩ => rowK_none e6 K l e⟩
  obtain ⟨cb', k1, k2, k3, k4⟩ := R.blk b _ hl
  rw [hc] at k1
  cases k1
  have hnd : (f1 ++ nf ++ f3).Nodup ∧ g ∉ f1 ++ nf ++ f3 := by
    rw [e2] at k3
    simp only [CB.fp, List.nodup_cons, List.mem_append, not_or] at k3
    obtain ⟨⟨⟨g1, g2⟩, g3⟩, k3⟩ := k3
    have hdis : ∀ x ∈ nf, x ∉ g :: fps := by
      intro x hx hx'
      obtain ⟨b2, x2, cb2, q1, q2, q3, q4⟩ := hks.mem x hx
      have := R.dis b b2 _ x2 _ cb2 x hl q2 hc q3 hx' q4
      exact hbk (this ▸ q1)
    have h13 := k3
    rw [List.nodup_append] at h13
    obtain ⟨h12, h3, h13⟩ := h13
    rw [List.nodup_append] at h12
    refine ⟨?_, ?_⟩
    · rw [List.nodup_append]
      refine ⟨?_, h3, ?_⟩
      · rw [List.nodup_append]
        refine ⟨h12.1, hks.nodup, ?_⟩
        intro x hx y hy e
        subst e
        exact hdis x hy (by rw [e2]; simp [hx])
      · intro x hx y hy e
        subst e
        rcases List.mem_append.1 hx with hx | hx
        · exact h13 x (by simp [hx]) x hy rfl
        · exact hdis x hx (by rw [e2]; simp [hy])
    · simp only [List.mem_append, not_or]
      exact ⟨⟨g1, fun hx => hdis g hx (by simp)⟩, g3⟩
  refine ⟨_, rfl, hle, fun nb val => hS.good R ?_ ?_ ?_ (fun _ => .un _)⟩
  · intro hx
    refine .box e6 (cur := c1 ++ nc ++ c3) ?_ ?_
    · have := setBlk_cells hcur (splice cur o nc) (splice_length _ _ _ (by omega))
      rw [hsp] at this
      show Cells (setBlk X.w g (splice cur o nc)) g (c1 ++ nc ++ c3)
      rw [hsp]; exact this
    · refine e5.ext hx fun k hk => setBlk_other _ _ _ _ fun e => hnd.2 (e ▸ hk)
  · simp only [CB.fp, List.nodup_cons]
    exact ⟨hnd.2, hnd.1⟩
  · intro k hk
    rw [setBlk_size]
    have hin : k ∈ g :: fps ∨ k ∈ nf := by
      simp only [CB.fp, List.mem_cons, List.mem_append] at hk
      rw [e2]
      simp only [List.mem_cons, List.mem_append]
      rcases hk with hk | (hk | hk) | hk
      · exact .inl (.inl hk)
      · exact .inl (.inr (.inl (.inl hk)))
      · exact .inr hk
      · exact .inl (.inr (.inr hk))
    rcases hin with hin | hin
    · exact ⟨(k4 k hin).1, .inr ⟨b, _, _, .inl rfl, hl, hc, hin⟩⟩
    · obtain ⟨b2, x2, cb2, q1, q2, q3, q4⟩ := hks.mem k hin
      obtain ⟨cb3, j1, _, _, j4⟩ := R.blk b2 x2 q2
      rw [q3] at j1
      cases j1
      exact ⟨(j4 k q4).1, .inr ⟨b2, x2, cb2, .inr q1, q2, q3, q4⟩⟩

end Go.Ev

/- Operations: conversions, the operation itself. -/
namespace Go.Ev

variable {R : Type} {E : Env} {X : Cx} {P : Program} {t : Nat} {ti : TyI} {w : World}

/-- A row that is marked. -/
theorem mark_row (hR : Rel E X) {b v : Nat} {K : Ki} {l : List K.den} (hl : look b X.s.st = some (.cell false v [.rw K l])) (hne : 1 ≤ l.length) {val : Value} (hv : VRel X (.sl b) val) :
    ∃ (g og n cc : Nat) (w' : World), val = .slice (some ⟨g, og, none⟩) n cc ∧ (markStringish ⟨g, og, none⟩).run P X.w = .ok () w' ∧
      ∃ X', X'.w = w' ∧ ∀ nb, Good E X nb (.sl b) ((b, some (.cell false (v + 1) [.rw K l])) :: kills []) val X' := by
  obtain ⟨A, c, fp, u1, u2, u3, u4⟩ := rel_row hR hl
  cases hv with
  | sl hcm =>
    rw [u1] at hcm
    cases hcm
    obtain ⟨A', c2, e, h⟩ := u2
    cases e
    rcases h with ⟨z1, z2, _⟩ | ⟨g, o, cur, fps, rfl, q2, q3, q4, rfl, q6⟩
    · omega
    obtain ⟨ty, fr, hg, hth⟩ := q2
    let w' := X.w.freeze { block := g, off := cur.length } 1
    have hother : ∀ k, k ≠ g → w'.heap[k]? = X.w.heap[k]? := by
      intro k hk
      simp only [w', World.freeze, Nat.one_ne_zero, if_false, Array.getElem?_modify]
      rw [if_neg (fun e => hk e.symm)]
    have hg' : Cells w' g cur := by
      obtain ⟨lo, hi⟩ := fr
      refine ⟨ty, if (lo == hi) = true then (cur.length, cur.length + 1) else (min lo cur.length, max hi (cur.length + 1)), by simp only [w', World.freeze, Nat.one_ne_zero, if_false, Array.getElem?_modify, if_true, hg, Option.map_some], ?_⟩
      by_cases e : lo = hi
      · subst e
        simp only [beq_self_eq_true, if_true]
        exact .inr (Nat.le_refl _)
      · have e' : (lo == hi) = false := by simpa using e
        simp only [e', Bool.false_eq_true, if_false]
        rcases hth with h | h
        · exact (e h).elim
        · exact .inr (by simp only; omega)
    have hS : SetBlk E X b (.cell false v [.rw K l]) (.cell false (v + 1) [.rw K l]) [] (.row (some ⟨g, o, none⟩) l.length c K.size (g :: fps)) (.row (some ⟨g, o, none⟩) l.length c K.size (g :: fps)) w' (fun k => k = g)
        (setB X b (.cell false (v + 1) [.rw K l]) [] (.row (some ⟨g, o, none⟩) l.length c K.size (g :: fps)) w') := by
      refine ⟨rfl, rfl, rfl, rfl, hl, u1, ⟨rfl, rfl, rfl, rfl⟩, ?_, by simp, ?_, ?_, ?_, ?_, fun k hk hT => hother k hT, fun k hk => by simp [CB.fp, hk]⟩
      · intro ro'' v'' ps'' e
        cases e
        exact ⟨false, v, _, rfl, by omega, fun hv => by omega⟩
      all_goals simp [w', World.freeze]
    refine ⟨g, o, l.length, c, w', rfl, ?_, _, rfl, fun nb => hS.good hR ?_ ?_ ?_ ?_⟩
    · have hsh : X.w.shape? g = some (ty, cur.length) := by simp [World.shape?, hg]
      simp only [markStringish, Sem.run_bind, run_shape, Result.andThen_ok, hsh, run_freeze]
      rfl
    · intro hx
      refine .row rfl rfl ⟨_, _, rfl, .inr ⟨g, o, cur, fps, rfl, hg', q3, q4, rfl, ?_⟩⟩
      simp only [CB.fp, List.nodup_cons] at u3
      exact q6.move fun k hk => hother k fun e => u3.1 (e ▸ hk)
    · exact u3
    · intro k hk
      refine ⟨?_, ?_⟩
      · have := (u4 k hk).1
        simpa [w', World.freeze] using this
      · exact .inr ⟨b, _, _, .inl rfl, hl, u1, hk⟩
    · intro hx
      exact .sl (sz := K.size) (fp := g :: fps) (by simp [setB])

theorem convert_ok {c : Cfg} (hC : cfgOk P c = true) {s : St} {o : Oper} {nb : Nat} {cont : Cont R} {r : R} {d : Nat} {x : Operand} (hop : o.op = .convert t d x) (h : memE c s o nb cont = some r) :
    Res P c s o nb cont r fun s' k => memE c s' o nb k := by
  simp only [memE, hop] at h
  split at h
  case h_2 => cases h
  rename_i ts td hts htd
  have hTs := cfg_ty hC hts
  have hTd := cfg_ty hC htd
  obtain ⟨ds, hds, _⟩ := hTs.d
  have hmem : ∀ s' u rd, Agree s s' o u rd → ev s' x = ev s x := fun s' u rd ha => ha.ev x (by simp [hop, Op.operands])
  split at h
  · rename_i k k' n hk hx
    refine ⟨_, [], [], h, goes_pure ?_, ?_, trivial⟩
    · intro E X ac hs hR hT
      subst hs
      have hv := ev_ok hT x
      rw [hx] at hv
      generalize hv' : ac.eval x = v at hv
      cases hv
      refine ⟨_, ?_, .int _ _⟩
      simp only [execOp, hop, hv', convert, Sem.run_bind, run_und hds, run_und (hTd.int hk), Result.andThen_ok, Conv.intToInt, Sem.run_pure, wrapK]
    · intro s' ha R' k0
      simp only [memE, hop, hts, htd, hk]
      rw [hmem s' _ _ ha, hx]
  · rename_i l hk hx
    cases hst : isStr td <;> rw [hst] at h <;> simp only [cond_true, cond_false] at h
    · cases hsl : isSl td <;> rw [hsl] at h <;> simp only [cond_true, cond_false] at h
      · cases h
      split at h
      case h_2 => cases h
      rename_i te hte
      cases hby : isByte te <;> rw [hby] at h <;> simp only [cond_true, cond_false] at h
      · cases h
      obtain ⟨k1, h⟩ := chk_some h
      have hTe := cfg_ty hC hte
      refine ⟨_, _, _, h, ?_, ?_, trivial⟩
      · intro E X ac hs hR hT hF next Q hn
        subst hs
        have hv := ev_ok hT x
        rw [hx] at hv
        generalize hv' : ac.eval x = v at hv
        cases hv
        obtain ⟨cc, cs, w', q1, q2, q3, q4, q5, q6, q7, q8⟩ := run_str_bytes (P := P) (w := X.w) td.elem l
        have hlen : (strInts l).length = l.length := by simp [strInts]
        obtain ⟨X', r1, r2⟩ := good_row (w' := w') (K := .int .u8) (l := strInts l) (cs := cs) (c := cc) (fps := []) (ks := []) hR hF (by simp)
          (by
            have e : List.take (List.length (α := Int) (strInts l) * 1) cs.toList = (strInts l).map (Value.int .u8) := by rw [hlen, Nat.mul_one, q3]
            show OwnRow X.w (.int .u8) (strInts l) (List.take (List.length (α := Int) (strInts l) * 1) cs.toList) []
            rw [e]
            exact ints_row _)
          (by show List.length (α := Int) (strInts l) ≤ cc; omega) (by show cc * 1 ≤ cs.size; omega) (.inr (Nat.le_refl _)) (by simp) (by simp) q5 q6 q7 q8
        unfold Oper.wp
        have hrun : (convert t d (.string ⟨⟨l⟩⟩)).run P X.w = (Conv.stringToBytes td.elem ⟨⟨l⟩⟩).run P X.w := by
          simp only [convert, Sem.run_bind, run_und hds, run_und (hTd.slice hsl), Result.andThen_ok, run_und (hTe.byte hby)]
        simp only [execOp, hop, hv', Sem.run_bind, hrun, q4, Result.andThen_ok, Sem.run_pure, Oper.upon]
        have := hn _ X' (by simpa [kills] using r2)
        rw [r1] at this
        have e2 : List.length (α := Int) (strInts l) = l.length := hlen
        have e3 : (Value.slice (some ⟨X.w.heap.size, 0, none⟩) (List.length (α := (Ki.int IntKind.u8).den) (strInts l)) cc) = .slice (some ⟨X.w.heap.size, 0, none⟩) l.length cc := by
          show Value.slice _ (List.length (α := Int) (strInts l)) cc = _
          rw [e2]
        rw [e3] at this
        exact this
      · intro s' ha R' k0
        simp only [memE, hop, hts, htd, hk]
        rw [hmem s' _ _ ha, hx]
        simp only [hst, hsl, hte, hby, k1, cond_true, cond_false, chk_true]
    · refine ⟨_, [], [], h, goes_pure ?_, ?_, trivial⟩
      · intro E X ac hs hR hT
        subst hs
        have hv := ev_ok hT x
        rw [hx] at hv
        generalize hv' : ac.eval x = v at hv
        cases hv
        refine ⟨_, ?_, .str _⟩
        simp only [execOp, hop, hv', convert, Sem.run_bind, run_und hds, run_und (hTd.string hst), Result.andThen_ok, Sem.run_pure]
      · intro s' ha R' k0
        simp only [memE, hop, hts, htd, hk]
        rw [hmem s' _ _ ha, hx]
        simp only [hst, cond_true]
  · rename_i hk hnstr
    cases hb : (isStr td && isSl ts) <;> rw [hb] at h <;> simp only [cond_true, cond_false] at h
    · have hnb := hb
      unfold convB at h
      split at h
      case h_2 => cases h
      rename_i b hx
      split at h
      case h_2 => cases h
      rename_i v K l hl
      obtain ⟨k1, hc⟩ := chk_some h
      simp only [Bool.and_eq_true] at k1
      obtain ⟨⟨⟨k1, k2⟩, k3⟩, k4⟩ := k1
      split at k3
      case h_2 => cases k3
      rename_i te hte
      have k2 := beq_true.1 k2
      subst k2
      rw [hts] at htd
      cases htd
      have hTe := cfg_ty hC hte
      refine ⟨_, _, _, hc, ?_, ?_, trivial⟩
      · intro E X ac hs hR hT hF next Q hn
        subst hs
        have hv := ev_ok hT x
        rw [hx] at hv
        generalize hv' : ac.eval x = v at hv
        obtain ⟨g, og, n, cc, w', q1, q2, q3⟩ := mark_row (P := P) hR hl (Nat.le_of_ble_eq_true k4) hv
        obtain ⟨X', q3, q4⟩ := q3
        unfold Oper.wp
        have hrun : (convert t t v).run P X.w = .ok v w' := by
          subst q1
          simp only [convert, Sem.run_bind, run_und (hTs.slice k1), Result.andThen_ok, beq_self_eq_true, run_und (hTe.byte k3), q2, Sem.run_pure]
        simp only [execOp, hop, hv', Sem.run_bind, hrun, Result.andThen_ok, Sem.run_pure, Oper.upon]
        have := hn _ X' (by simpa [kills] using q4 _)
        rw [q3] at this
        exact this
      · intro s' ha R' k0
        simp only [memE, hop, hts, hk]
        rw [hmem s' _ _ ha, hx]
        simp only [hnb, cond_false, convB]
        have hl' : look b s'.st = some (.cell false v [.rw K l]) := by rw [← hl]; exact ha.wr b (by simp [upIds])
        have hb' : Nat.beq t t = true := beq_true.2 rfl
        simp only [hl', hte, k1, k3, k4, hb', Bool.and_self, chk_true]
    have hb' := hb
    simp only [Bool.and_eq_true] at hb'
    split at h
    case h_2 => cases h
    rename_i te hte
    cases hby : isByte te <;> rw [hby] at h <;> simp only [cond_true, cond_false] at h
    · cases h
    split at h
    case h_2 => cases h
    rename_i l hel
    have hTe := cfg_ty hC hte
    refine ⟨_, [], _, h, goes_pure ?_, ?_, trivial⟩
    · intro E X ac hs hR hT
      subst hs
      have hv := ev_ok hT x
      have hE := elems_ok hR hv hel
      obtain ⟨A, cc, e1, _⟩ := hE.ints
      have hbs := run_bytes_str (P := P) hE
      rw [e1] at hbs
      refine ⟨_, ?_, .str _⟩
      simp only [execOp, hop, e1, convert, Sem.run_bind, run_und (hTs.slice hb'.2), run_und (hTd.string hb'.1), Result.andThen_ok, run_und (hTe.byte hby), hbs, Sem.run_pure]
    · intro s' ha R' k0
      have he := hmem s' _ _ ha
      simp only [memE, hop, hts, htd, hk]
      rw [he]
      have hel' : elems s' (.int .u8) (ev s x) = some l := by rw [elems_loc ha.rd, hel]
      cases hx : ev s x <;> first
        | exact (hnstr _ hx).elim
        | (rw [hx] at hel'; simp only [hb, cond_true, hte, hby, hel'])
  · cases h

end Go.Ev

/- What is stored: into a row. -/
namespace Go.Ev

variable {R : Type} {E : Env} {X : Cx} {P : Program} {t : Nat} {ti : TyI} {w : World}

theorem seg_splice (cur : List Value) (o m k : Nat) (nc : List Value) (h : k + nc.length ≤ m) (h2 : o + m ≤ cur.length) : seg (splice cur (o + k) nc) o m = splice (seg cur o m) k nc := by
  apply List.ext_getElem?
  intro i
  simp only [seg, splice, List.getElem?_take, List.getElem?_drop, List.getElem?_append, List.length_append, List.length_take, List.length_drop]
  have e1 : min (o + k) cur.length = o + k := Nat.min_eq_left (by omega)
  have e2 : min k (min m (cur.length - o)) = k := Nat.min_eq_left (by omega)
  rw [e1, e2]
  by_cases h1 : i < m
  · rw [if_pos h1]
    by_cases h3 : i < k
    · rw [if_pos (show o + i < o + k + nc.length by omega), if_pos (show o + i < o + k by omega), if_pos (show o + i < o + k by omega), if_pos (show i < k + nc.length by omega), if_pos h3, if_pos h3, if_pos h1]
    · by_cases h4 : i < k + nc.length
      · rw [if_pos (show o + i < o + k + nc.length by omega), if_neg (show ¬ o + i < o + k by omega), if_pos h4, if_neg h3]
        congr 1
        omega
      · rw [if_neg (show ¬ o + i < o + k + nc.length by omega), if_neg h4, if_pos (by omega)]
        congr 1
        omega
  · rw [if_neg h1]
    rw [if_neg (show ¬ i < k + nc.length by omega), if_neg (by omega)]

theorem nodup_swap {f1 f2 f3 nf : List Nat} (h : (f1 ++ f2 ++ f3).Nodup) (hn : nf.Nodup) (hd : ∀ x ∈ nf, x ∉ f1 ++ f2 ++ f3) : (f1 ++ nf ++ f3).Nodup := by
  rw [List.nodup_append] at h
  obtain ⟨h12, h3, h13⟩ := h
  rw [List.nodup_append] at h12
  rw [List.nodup_append]
  refine ⟨?_, h3, ?_⟩
  · rw [List.nodup_append]
    refine ⟨h12.1, hn, ?_⟩
    intro x hx y hy e
    subst e
    exact hd x hy (by simp [hx])
  · intro x hx y hy e
    subst e
    rcases List.mem_append.1 hx with hx | hx
    · exact h13 x (by simp [hx]) x hy rfl
    · exact hd x hx (by simp [hy])

theorem store_row (R : Rel E X) {b : Nat} {v v' : Nat} {K : Ki} {l l' : List K.den} {ks : List Nat} {g og c : Nat} {fps : List Nat} {cur : List Value} (hl : look b X.s.st = some (.cell false v [.rw K l])) (hc : X.cm b = some (.row (some ⟨g, og, none⟩) l.length c K.size (g :: fps))) (hcur : Cells X.w g cur)
    (hlc : l.length ≤ c) (hcs : og + c * K.size ≤ cur.length) (hll : l'.length = l.length)
    (hvv : v ≤ v') (hve : v = v' → K.nest = false) (hbk : b ∉ ks) {o n : Nat} {nc : List Value} {nf f1 f2 f3 : List Nat} {c1 c2 c3 : List Value} (hks : FromKs X ks nf)
    (e1 : seg cur og (l.length * K.size) = c1 ++ c2 ++ c3) (e2 : fps = f1 ++ f2 ++ f3) (e3 : c1.length = o) (e4 : c2.length = n) (e5 : OwnRow X.w K l' (c1 ++ nc ++ c3) (f1 ++ nf ++ f3)) (hnc : nc.length = n) :
    ∃ X', X'.w = setBlk X.w g (splice cur (og + o) nc) ∧ og + o + n ≤ cur.length ∧ ∀ nb val, Good E X nb .un ((b, some (.cell false v' [.rw K l'])) :: kills ks) val X' := by
  have hm := Nat.mul_le_mul_right K.size hlc
  have hlen := congrArg List.length e1
  rw [seg_length (by omega)] at hlen
  simp only [List.length_append, e3, e4] at hlen
  have hle : og + o + n ≤ cur.length := by omega
  have hsp : seg (splice cur (og + o) nc) og (l.length * K.size) = c1 ++ nc ++ c3 := by
    rw [seg_splice _ _ _ _ _ (by omega) (by omega), e1, ← e3, splice_eq _ _ _ _ (by omega)]
  have hS : SetBlk E X b (.cell false v [.rw K l]) (.cell false v' [.rw K l']) ks (.row (some ⟨g, og, none⟩) l.length c K.size (g :: fps)) (.row (some ⟨g, og, none⟩) l.length c K.size (g :: (f1 ++ nf ++ f3))) (setBlk X.w g (splice cur (og + o) nc)) (fun k => k = g)
      (setB X b (.cell false v' [.rw K l']) ks (.row (some ⟨g, og, none⟩) l.length c K.size (g :: (f1 ++ nf ++ f3))) (setBlk X.w g (splice cur (og + o) nc))) := by
    refine ⟨rfl, rfl, rfl, rfl, hl, hc, ⟨rfl, rfl, rfl, rfl⟩, ?_, hbk, rfl, rfl, rfl, by rw [setBlk_size]; exact Nat.le_refl _, fun k hk hT => setBlk_other _ _ _ _ hT, fun k hk => by simp [CB.fp, hk]⟩
    intro ro'' v'' ps'' e
    cases e
    refine ⟨false, v, _, rfl, hvv, fun hv => ?_⟩
    rintro ⟨K2, l2, e, hn⟩
    cases e
    rw [hve hv] at hn
    cases hn
  obtain ⟨cb', k1, k2, k3, k4⟩ := R.blk b _ hl
  rw [hc] at k1
  cases k1
  have hdis : ∀ x ∈ nf, x ∉ g :: fps := by
    intro x hx hx'
    obtain ⟨b2, x2, cb2, q1, q2, q3, q4⟩ := hks.mem x hx
    have := R.dis b b2 _ x2 _ cb2 x hl q2 hc q3 hx' q4
    exact hbk (this ▸ q1)
  simp only [CB.fp, List.nodup_cons] at k3
  have hnd : (f1 ++ nf ++ f3).Nodup := nodup_swap (e2 ▸ k3.2) hks.nodup fun x hx hx' => hdis x hx (by rw [e2]; exact List.mem_cons_of_mem _ hx')
  have hg : g ∉ f1 ++ nf ++ f3 := by
    have h1 := k3.1
    rw [e2] at h1
    simp only [List.mem_append, not_or] at h1 ⊢
    exact ⟨⟨h1.1.1, fun hx => hdis g hx (by simp)⟩, h1.2⟩
  refine ⟨_, rfl, hle, fun nb val => hS.good R ?_ ?_ ?_ (fun _ => .un _)⟩
  · intro hx
    refine .row hll.symm rfl ?_
    rw [hll]
    refine ⟨_, _, rfl, .inr ⟨g, og, splice cur (og + o) nc, f1 ++ nf ++ f3, rfl, ?_, hlc, ?_, rfl, ?_⟩⟩
    · exact setBlk_cells hcur (splice cur (og + o) nc) (splice_length _ _ _ (by omega))
    · rw [splice_length _ _ _ (by omega)]; exact hcs
    · rw [hsp]
      exact e5.move fun k hk => setBlk_other _ _ _ _ fun e => hg (e ▸ hk)
  · simp only [CB.fp, List.nodup_cons]
    exact ⟨hg, hnd⟩
  · intro k hk
    rw [setBlk_size]
    have hin : k ∈ g :: fps ∨ k ∈ nf := by
      simp only [CB.fp, List.mem_cons, List.mem_append] at hk
      rw [e2]
      simp only [List.mem_cons, List.mem_append]
      rcases hk with hk | (hk | hk) | hk
      · exact .inl (.inl hk)
      · exact .inl (.inr (.inl (.inl hk)))
      · exact .inr hk
      · exact .inl (.inr (.inr hk))
    rcases hin with hin | hin
    · exact ⟨(k4 k hin).1, .inr ⟨b, _, _, .inl rfl, hl, hc, hin⟩⟩
    · obtain ⟨b2, x2, cb2, q1, q2, q3, q4⟩ := hks.mem k hin
      obtain ⟨cb3, j1, _, _, j4⟩ := R.blk b2 x2 q2
      rw [q3] at j1
      cases j1
      exact ⟨(j4 k q4).1, .inr ⟨b2, x2, cb2, .inr q1, q2, q3, q4⟩⟩

end Go.Ev

/- What is stored: the operation. -/
namespace Go.Ev

variable {R : Type} {E : Env} {X : Cx} {P : Program} {t : Nat} {ti : TyI} {w : World}

theorem cells_same {g : Nat} {a b : List Value} (h1 : Cells w g a) {cur : Array Value} {ty : TypeId} {fr : Nat × Nat} (h2 : w.heap[g]? = some (.cells cur ty fr)) : cur.toList = a := by
  obtain ⟨t, fr', h, _⟩ := h1
  rw [h] at h2
  cases h2
  rfl

theorem own_row (R : Rel E X) {b : Nat} {ro : Bool} {v : Nat} {K : Ki} {l : List K.den} {A : Option Addr} {n c sz : Nat} {fp : List Nat} (hl : look b X.s.st = some (.cell ro v [.rw K l])) (hc : X.cm b = some (.row A n c sz fp)) (hpos : 0 < l.length) :
    n = l.length ∧ sz = K.size ∧ ∃ g og cur fps, A = some ⟨g, og, none⟩ ∧ Cells X.w g cur ∧ l.length ≤ c ∧ og + c * K.size ≤ cur.length ∧ fp = g :: fps ∧ OwnRow X.w K l (seg cur og (l.length * K.size)) fps := by
  obtain ⟨A', cc, fp', u1, u2, u3, u4⟩ := rel_row R hl
  rw [u1] at hc
  cases hc
  obtain ⟨A2, c2, e, h⟩ := u2
  cases e
  rcases h with ⟨z, _⟩ | ⟨g, o, cur, fps, h1, h2, h3, h4, h5, h6⟩
  · omega
  · exact ⟨rfl, rfl, g, o, cur, fps, h1, h2, h3, h4, h5, h6⟩

theorem storeAt_pb (R : Rel E X) {n b o : Nat} {p : Path} {v : AV} {av vv : Value} {u : Upd} (hv : VRel X (.pb b o p) av) (hvv : VRel X v vv) (h : storeAt X.s n (.pb b o p) v = some u) : Stores E X n av vv u := by
  unfold storeAt at h
  simp only at h
  cases hb : (Nat.beq (sizes (partsOf v)) n && storable v) <;> rw [hb] at h <;> simp only [cond_true, cond_false] at h
  · cases h
  simp only [Bool.and_eq_true] at hb
  obtain ⟨p1, p2, p3⟩ := partsOf_ok hvv hb.2
  have hlen : vv.cells.toList.length = n := by rw [PRs_sizes p1 p2]; exact Nat.eq_of_beq_eq_true hb.1
  cases hv with
  | @pb _ _ _ cb g og hc hbase hpin hnr =>
    cases p with
    | nil =>
      simp only at h
      split at h
      case h_2 => cases h
      rename_i ver qs hl
      split at h
      case h_2 => cases h
      rename_i qs' hrk hns
      cases h
      obtain ⟨cb', k1, k2, k3, k4⟩ := R.blk b _ hl
      rw [hc] at k1
      cases k1
      cases k2 with
      | row => simp [CB.rowN] at hnr
      | box j1 j2 j3 =>
        simp only [CB.base, Option.some.injEq, Prod.mk.injEq] at hbase
        obtain ⟨rfl, rfl⟩ := hbase
        have hW := navSet_ok (X := X) [] o j3 j1 p1 p2 (by simp [PIn]) hns
        obtain ⟨X', q1, q2, q3⟩ := store_box R hl hc j2 (Nat.le_refl ver) (ks := []) (by simp) (by simp) .nil hW hlen
        simp only [poff, Nat.add_zero] at q1 q2
        refine ⟨_, 0 + (o + poff []), _, X', rfl, j2, by simp [poff]; omega, hlen, p3, by rw [q1]; simp [poff], fun nb val => by simpa [kills] using q3 nb val⟩
    | cons y p =>
      simp only at h
      split at h
      case h_2 => cases h
      rename_i ver qs hl
      split at h
      case h_2 => cases h
      rename_i ps' ks hg
      cases hnd : nodupN (b :: ks) <;> rw [hnd] at h <;> simp only [cond_true, cond_false] at h
      · cases h
      have hnd' := List.nodup_cons.1 (nodupN_iff.1 hnd)
      split at h
      case h_2 => cases h
      rename_i qs' hns
      simp only [Option.some.injEq] at h
      subst h
      obtain ⟨nf, g1, g2, g3, g4⟩ := giveParts_ok R p1 p2 hg hnd'.2
      obtain ⟨cb', k1, k2, k3, k4⟩ := R.blk b _ hl
      rw [hc] at k1
      cases k1
      cases k2 with
      | box j1 j2 j3 =>
        simp only [CB.base, Option.some.injEq, Prod.mk.injEq] at hbase
        obtain ⟨rfl, rfl⟩ := hbase
        have hrk : rowK qs = none := by
          unfold rowK
          split
          · exact (rowK_none j1 _ _ rfl).elim
          · rfl
        have hW := navSet_ok (X := X) _ o j3 j1 g1 g2 hpin hns
        rw [poff_reverse] at hW
        obtain ⟨X', q1, q2, q3⟩ := store_box R hl hc j2 (Nat.le_refl ver) hnd'.1 g4 g3 hW hlen
        refine ⟨_, 0 + (o + poff (y :: p)), _, X', rfl, j2, by omega, hlen, p3, by rw [q1, Nat.zero_add], fun nb val => ?_⟩
        rw [hrk]
        exact q3 nb val
      | @row A m c sz fp _ _ K l j1 j2 j3 =>
        obtain ⟨sz', N, i, f, p', e, h1, h2⟩ := PIn_rev hpin (by simp)
        simp only [CB.rowN, Option.getD_some] at h1
        obtain ⟨e1, e2, g', og', cur, fps, e3, e4, e5, e6, e7, e8⟩ := own_row R hl hc (by omega)
        subst e3 e1 e2
        simp only [CB.base, baseA, Option.some.injEq, Prod.mk.injEq] at hbase
        obtain ⟨rfl, rfl⟩ := hbase
        subst e7
        rw [e] at hns
        have ho : o = 0 := by
          by_cases ho : o = 0
          · exact ho
          · exfalso
            simp only [navSet, dropCells, beq_false.2 ho, cond_false] at hns
            cases hb1 : Nat.ble (AV.rw K l).size o <;> rw [hb1] at hns <;> simp only [cond_true, cond_false] at hns
            · cases hns
            · cases hb2 : Nat.beq (o - (AV.rw K l).size) 0 <;> rw [hb2] at hns <;> simp only [cond_true, cond_false] at hns <;> cases hns
        subst ho
        obtain ⟨hsz, l', c1, c2, c3, f1, f2, f3, z1, z2, z3, z4, z5, z6, z7⟩ := navSet_row (X := X) e8 h1 g1 g2 h2 hns
        subst z1
        have hoff : poff (y :: p) = i * K.size + f + poff p' := by rw [← poff_reverse, e]; simp only [poff, hsz]
        obtain ⟨X', q1, q2, q3⟩ := store_row R (v' := bif K.nest then ver + 1 else ver) hl hc e4 e5 e6 z2 (by cases K.nest <;> simp) (by cases K.nest <;> simp) hnd'.1 g3 z3 z4 z5 z6 z7 hlen
        refine ⟨_, og' + (0 + poff (y :: p)), _, X', rfl, e4, by omega, hlen, p3, by rw [q1, hoff, Nat.zero_add], fun nb val => ?_⟩
        exact q3 nb val

theorem storeAt_ok (R : Rel E X) {n : Nat} {a v : AV} {av vv : Value} {u : Upd} (hv : VRel X a av) (hvv : VRel X v vv) (h : storeAt X.s n a v = some u) : Stores E X n av vv u := by
  cases a with
  | pb b o p => exact storeAt_pb R hv hvv h
  | _ =>
    exfalso
    unfold storeAt at h
    simp only at h
    cases hb : (Nat.beq (sizes (partsOf v)) n && storable v) <;> rw [hb] at h <;> simp only [cond_true, cond_false] at h <;> cases h

theorem rowOf_giveParts {s s' : St} : ∀ {ps qs : List AV} {ks : List Nat}, giveParts s ps = some (qs, ks) → (∀ b ∈ ks, look b s'.st = look b s.st) → giveParts s' ps = some (qs, ks)
  | [], _, _, h, _ => h
  | p :: ps, qs, ks, h, hs => by
    simp only [giveParts] at h ⊢
    cases hg : giveParts s ps with
    | none => rw [hg] at h; cases h
    | some z =>
      obtain ⟨qs', ks'⟩ := z
      rw [hg] at h
      simp only at h
      cases p with
      | sl b =>
        simp only at h
        split at h
        case h_2 => cases h
        rename_i K l hrow
        simp only [Option.some.injEq, Prod.mk.injEq] at h
        obtain ⟨rfl, rfl⟩ := h
        rw [rowOf_giveParts hg fun b hb => hs b (by simp [hb])]
        simp only
        rw [rowOf_loc (hs b (by simp)), hrow]
      | ss b o m =>
        simp only at h
        split at h
        case h_2 => cases h
        rename_i K l hrow
        simp only [Option.some.injEq, Prod.mk.injEq] at h
        obtain ⟨rfl, rfl⟩ := h
        rw [rowOf_giveParts hg fun b hb => hs b (by simp [hb])]
        simp only
        rw [rowOf_loc (hs b (by simp)), hrow]
      | ro q K l =>
        cases q <;> simp only at h <;> first
          | (cases h; done)
          | (cases h; rw [rowOf_giveParts hg hs])
      | _ => first
          | (simp only at h; cases h; done)
          | (simp only at h; cases h; rw [rowOf_giveParts hg hs])

end Go.Ev

/- The operation store. -/
namespace Go.Ev

variable {R : Type} {E : Env} {X : Cx} {P : Program} {t : Nat} {ti : TyI} {w : World}

theorem run_storeVar (hT : TyOK P t ti) {v : Value} {g o : Nat} {cur : List Value} (hc : Cells w g cur) (hle : o + ti.sz ≤ cur.length) (hn : v.cells.toList.length = ti.sz) (h1 : ∀ c ∈ v.cells.toList, c.oneCell' = true) :
    (storeVar t ⟨g, o, none⟩ v).run P w = .ok () (setBlk w g (splice cur o v.cells.toList)) := by
  have hs : ¬ (v.cells.size ≠ ti.sz) := by simp at hn; simp [hn]
  unfold storeVar
  simp only [Sem.run_bind, hT.size, Result.andThen_ok, Sem.run_ite, if_neg hs, Sem.run_pure]
  exact run_storeCells o _ cur w hc (by omega) h1

theorem storeAt_ids {s : St} {n : Nat} {a v : AV} {u : Upd} (h : storeAt s n a v = some u) : ∃ b o p, a = .pb b o p ∧ ∃ x ks, u = (b, x) :: kills ks ∧ (p = [] → ks = []) ∧ (p ≠ [] → ∃ ps, giveParts s (partsOf v) = some (ps, ks)) := by
  unfold storeAt at h
  simp only at h
  cases hb : (Nat.beq (sizes (partsOf v)) n && storable v) <;> rw [hb] at h <;> simp only [cond_true, cond_false] at h
  · cases h
  split at h
  · rename_i b o
    split at h
    case h_2 => cases h
    split at h
    case h_2 => cases h
    cases h
    exact ⟨b, o, [], rfl, _, [], rfl, fun _ => rfl, fun h => (h rfl).elim⟩
  · rename_i b o p hne
    split at h
    case h_2 => cases h
    split at h
    case h_2 => cases h
    rename_i ps' ks hg
    cases hnd : nodupN (b :: ks) <;> rw [hnd] at h <;> simp only [cond_true, cond_false] at h
    · cases h
    split at h
    case h_2 => cases h
    cases h
    exact ⟨b, o, p, rfl, _, ks, rfl, fun e => (hne e).elim, fun _ => ⟨ps', hg⟩⟩
  · cases h

theorem storeAt_loc {s s' : St} {n : Nat} {a v : AV} {u : Upd} (h : storeAt s n a v = some u) (hs : ∀ b ∈ upIds u, look b s'.st = look b s.st) : storeAt s' n a v = some u := by
  obtain ⟨b, o, p, rfl, x, ks, hu, hk0, hk⟩ := storeAt_ids h
  have hb : look b s'.st = look b s.st := hs b (by rw [hu]; simp [upIds])
  cases p with
  | nil => rw [← h]; unfold storeAt; simp only [hb]
  | cons y p =>
    obtain ⟨ps, hg⟩ := hk (by simp)
    have hg' := rowOf_giveParts hg fun k hk => hs k (by rw [hu]; simp [upIds, kills]; exact .inr hk)
    rw [← h]
    unfold storeAt
    simp only [hb, hg, hg']

theorem store_ok {c : Cfg} (hC : cfgOk P c = true) {s : St} {o : Oper} {nb : Nat} {cont : Cont R} {r : R} {a v : Operand} (hop : o.op = .store t a v) (h : memE c s o nb cont = some r) :
    Res P c s o nb cont r fun s' k => memE c s' o nb k := by
  simp only [memE, hop] at h
  cases h1 : tyI c t with
  | none => rw [h1] at h; cases h
  | some ti =>
    rw [h1] at h
    simp only at h
    have hT := cfg_ty hC h1
    split at h
    case h_2 => cases h
    rename_i u hu
    refine ⟨_, u, [], h, ?_, ?_, trivial⟩
    · intro E X ac hs hR hT' hF next Q hn
      subst hs
      obtain ⟨g, x, cur, X', e1, e2, e3, e4, e5, e6, e7⟩ := (storeAt_ok hR (ev_ok hT' a) (typed_ok (ev_ok hT' v)) hu).out
      unfold Oper.wp
      simp only [execOp, hop, Instr.storeAt, e1, Instr.sureAddr, Sem.run_bind, Sem.run_pure, Result.andThen_ok, run_storeVar hT e2 e3 e4 e5, Oper.upon]
      have := hn undef X' (e7 nb undef)
      rw [e6] at this
      exact this
    · intro s' ha R' k
      simp only [memE, hop, h1]
      rw [ha.ev a (by simp [hop, Op.operands]), ha.ev v (by simp [hop, Op.operands]), storeAt_loc hu ha.wr]

end Go.Ev

/- Append: what is taken and what is added. -/
namespace Go.Ev

variable {R : Type} {E : Env} {X : Cx} {P : Program} {t : Nat} {ti : TyI} {w : World}

/-- A slice that is given up, and its row. -/
structure Taken (E : Env) (X : Cx) (K : Ki) (l : List K.den) (av : Value) (ks : List Nat) : Prop where
  out : ∃ A c fp, av = .slice A l.length c ∧ OwnS X.w K.size l.length (OwnRow X.w K l) (.slice A l.length c) fp ∧ FromKs X ks fp ∧ ∀ b ∈ ks, ∃ x, look b X.s.st = some x

theorem taken_ok (R : Rel E X) {K : Ki} {a : AV} {av : Value} {l : List K.den} (hv : VRel X a av) (h : elems X.s K a = some l) (ha : appendable a = true) : Taken E X K l av (ownId a) := by
  cases hv <;> simp only [elems] at h <;> (try cases h) <;> (try (simp [appendable] at ha; done))
  · exact ⟨none, 0, [], rfl, ⟨none, 0, rfl, .inl ⟨rfl, rfl, rfl⟩⟩, .nil, by simp [ownId]⟩
  · exact ⟨none, 0, [], rfl, ⟨none, 0, rfl, .inl ⟨rfl, rfl, rfl⟩⟩, .nil, by simp [ownId]⟩
  · rename_i b A n c sz fp hc
    split at h
    case h_2 => cases h
    rename_i K' l' hrow
    obtain ⟨ro, ver, K2, l2, hl, e⟩ := rowOf_some hrow
    cases e
    obtain ⟨rfl, rfl⟩ := castK_eq h
    obtain ⟨A', cc, fp', u1, u2, u3, u4⟩ := rel_row R hl
    rw [u1] at hc
    cases hc
    refine ⟨A, c, fp, rfl, u2, ?_, ?_⟩
    · have := FromKs.nil.cons R hl u1 (f := fp) (List.Sublist.refl _) (by simp)
      simpa [ownId] using this
    · intro b' hb'
      simp only [ownId, List.mem_singleton] at hb'
      subst hb'
      exact ⟨_, hl⟩
  · rename_i b o A A' n c sz fp hc ho
    split at h
    case h_2 => cases h
    rename_i K' l' hrow
    split at h
    case h_2 => cases h
    rename_i l2 hcast
    simp only [Option.some.injEq] at h
    subst h
    obtain ⟨ro, ver, K2, l3, hl, e⟩ := rowOf_some hrow
    cases e
    refine ⟨A', 0, [], by simp, ⟨A', 0, by simp, .inl ⟨by simp, rfl, rfl⟩⟩, ⟨by simp, by simp⟩, ?_⟩
    intro b' hb'
    simp only [ownId, List.mem_singleton] at hb'
    subst hb'
    exact ⟨_, hl⟩
  · rename_i b o m g og n c c' sz fp hc h1 h2 h3
    split at h
    case h_2 => cases h
    rename_i K' l' hrow
    split at h
    case h_2 => cases h
    rename_i l2 hcast
    simp only [Option.some.injEq] at h
    subst h
    obtain ⟨ro, ver, K2, l3, hl, e⟩ := rowOf_some hrow
    cases e
    obtain ⟨rfl, rfl⟩ := castK_eq hcast
    obtain ⟨A', cc, fp', u1, u2, u3, u4⟩ := rel_row R hl
    rw [u1] at hc
    cases hc
    simp only
    have hlen : ((l'.drop o).take m).length = m := by simp; omega
    obtain ⟨f', q1, q2⟩ := OwnS_part rfl u2 h1 h2 h3
    refine ⟨_, c', f', by rw [hlen], by rw [hlen]; exact q1, ?_, ?_⟩
    · have := FromKs.nil.cons R hl u1 q2 (by simp)
      simpa [ownId] using this
    · intro b' hb'
      simp only [ownId, List.mem_singleton] at hb'
      subst hb'
      exact ⟨_, hl⟩

end Go.Ev

/- Append: the run. -/
namespace Go.Ev

variable {R : Type} {E : Env} {X : Cx} {P : Program} {t : Nat} {ti : TyI} {w : World}

/-- What is added: its length and its cells. -/
structure Adds (P : Program) (w : World) (sz n : Nat) (yv : Value) (ycs : List Value) : Prop where
  len : (Builtin.lenOf yv).run P w = .ok n w
  cells : (Builtin.firstCells sz n yv).run P w = .ok ycs.toArray w
  size : ycs.length = n * sz
  one : ∀ c ∈ ycs, c.oneCell' = true

theorem run_appArgs {e t2 ty : Nat} {te : TyI} {d2 : TypeDesc} {A : Option Addr} {n c n' : Nat} {yv : Value} {ycs : List Value} (hu : P.underlying t = some (.slice e)) (hTe : TyOK P e te) (h2 : P.underlying t2 = some d2) (hd2 : ∀ k, d2 ≠ .int k)
    (hy : Adds P w te.sz n' yv ycs) (hfit : n + n' ≤ c) :
    (Builtin.append_ #[t, t2] ty #[.slice A n c, yv]).run P w = (match A with
      | some a => (storeCells (a.add (n * te.sz)) ycs).run P w
      | none => .ok () w).andThen fun _ w' => .ok (.slice A (n + n') c) w' := by
  have hz : (match d2 with | .int _ => true | _ => false) = false := by cases d2 <;> first | rfl | exact ((hd2 _) rfl).elim
  unfold Builtin.append_
  simp only [List.getElem?_toArray, List.getElem?_cons_zero, List.getElem?_cons_succ, Sem.run_bind, run_und hu, hTe.size, Result.andThen_ok, run_und h2, Sem.run_pure]
  simp only [Bool.false_eq_true, if_false, Sem.run_bind, hy.len, Result.andThen_ok, hfit, if_true, Bool.not_false, hy.cells]
  cases A with
  | none => simp
  | some a => simp

theorem growBy_le (need : Nat) : ∀ (r c : Nat), c < need → 256 ≤ c → Builtin.growBy need r c ≤ 2 * need
  | 0, c, h, _ => by simp only [Builtin.growBy]; omega
  | r + 1, c, h, h2 => by
    simp only [Builtin.growBy]
    rw [if_neg (by omega)]
    by_cases h3 : c + (c + 768) / 4 < need
    · exact growBy_le need r _ h3 (by omega)
    · cases r with
      | zero => simp only [Builtin.growBy]; omega
      | succ r => simp only [Builtin.growBy]; rw [if_pos (by omega)]; omega

theorem nextslicecap_le {need c : Nat} (h : c < need) : Builtin.nextslicecap need c ≤ 2 * need := by
  unfold Builtin.nextslicecap
  split
  · omega
  · split
    · omega
    · exact growBy_le need 4 c h (by omega)

end Go.Ev

/- Append: where the row grows. -/
namespace Go.Ev

variable {R : Type} {E : Env} {X : Cx} {P : Program} {t : Nat} {ti : TyI} {w : World}

theorem run_appGrows {e t2 ty : Nat} {te : TyI} {K : Ki} {d2 : TypeDesc} {A : Option Addr} {n c n' : Nat} {yv : Value} {ocs ycs : List Value} (hu : P.underlying t = some (.slice e)) (hTe : TyOK P e te) (hK : te.ki = some K) (h2 : P.underlying t2 = some d2) (hd2 : ∀ k, d2 ≠ .int k)
    (hy : Adds P w te.sz n' yv ycs) (hfit : c < n + n') (hb : n + n' ≤ bigOf te.bytes) (ho : ∀ w1 : World, w1.heap = w.heap → (Builtin.firstCells te.sz n (.slice A n c)).run P w1 = .ok ocs.toArray w1)
    (hy1 : ∀ w1 : World, w1.heap = w.heap → (Builtin.firstCells te.sz n' yv).run P w1 = .ok ycs.toArray w1) (hol : ocs.length = n * te.sz) :
    ∃ (c' : Nat) (cs : Array Value) (w' : World), n + n' ≤ c' ∧ c' * te.sz = cs.size ∧ cs.toList.take ((n + n') * te.sz) = ocs ++ ycs ∧
      (Builtin.append_ #[t, t2] ty #[.slice A n c, yv]).run P w = .ok (.slice (some ⟨w.heap.size, 0, none⟩) (n + n') c') w' ∧ w'.heap = w.heap.push (.cells cs e) ∧ w'.os = w.os ∧ w'.tape = w.tape ∧ w'.output = w.output := by
  obtain ⟨i, z, i1, i2, i3, i4, i5, i6⟩ := hTe.i
  obtain ⟨k1, k2⟩ := i6 K hK
  have hzs : z.cells.size = te.sz := by
    have := zcells_len K
    rw [k2, k1] at this
    simpa using this
  let need := n + n'
  let c' := (Question.appendCap need c e).cut (w.tape w.drawn (.appendCap need c e))
  have hc' : need ≤ c' := by simp only [c', Question.cut]; omega
  let w1 : World := { w with drawn := w.drawn + 1 }
  let cs : Array Value := ocs.toArray ++ ycs.toArray ++ Builtin.zeroCells z.cells (c' - need)
  have hlim := bigOf_le hb
  have hns := nextslicecap_le (need := need) hfit
  have hti : ∀ w1, (typeInfo e).run P w1 = .ok i w1 := fun w1 => by simp [typeInfo, i1]
  have hzv : ∀ w1, (zeroValue e).run P w1 = .ok z w1 := fun w1 => by simp [zeroValue, typeInfo, i1, i4]
  have hbig : ¬ (Builtin.nextslicecap need c * i.bytes > 2 ^ 48) := by
    rw [i3]
    have h3 : Builtin.nextslicecap need c * te.bytes ≤ 2 * need * te.bytes := Nat.mul_le_mul_right _ hns
    have h4 : 2 * need * te.bytes = 2 * (need * te.bytes) := Nat.mul_assoc ..
    have h5 : need * te.bytes ≤ need * (te.bytes + 1) := Nat.mul_le_mul_left _ (by omega)
    have h6 : need * (te.bytes + 1) ≤ 70368744177664 := hlim
    omega
  have hbig' : ¬ (Builtin.nextslicecap (n + n') c * i.bytes > 2 ^ 48) := hbig
  have hmax : ¬ (((n + n' : Nat) : Int) > IntKind.i64.max) := by
    have : IntKind.i64.max = 9223372036854775807 := by decide
    rw [this]
    have h5 : need * 1 ≤ need * (te.bytes + 1) := Nat.mul_le_mul_left _ (by omega)
    have h6 : need * (te.bytes + 1) ≤ 70368744177664 := hlim
    have : need = n + n' := rfl
    omega
  refine ⟨c', cs, { w1 with heap := w.heap.push (.cells cs e) }, hc', ?_, ?_, ?_, rfl, rfl, rfl, rfl⟩
  · simp [cs, Builtin.zeroCells, hzs, hol, hy.size]
    rw [← Nat.add_mul, ← Nat.add_mul]
    congr 1
    omega
  · have h1 : (ocs ++ ycs).length = (n + n') * te.sz := by rw [List.length_append, hol, hy.size, Nat.add_mul]
    simp only [cs, Array.toList_append, List.toList_toArray]
    rw [← h1, List.take_left']
    rfl
  · have hz : (match d2 with | .int _ => true | _ => false) = false := by cases d2 <;> first | rfl | exact ((hd2 _) rfl).elim
    have hch : (choose (.appendCap (n + n') c e)).run P w = .ok c' w1 := by
      simp only [choose, Sem.run, Question.forced, Bool.false_eq_true, if_false]
      rfl
    unfold Builtin.append_
    simp only [List.getElem?_toArray, List.getElem?_cons_zero, List.getElem?_cons_succ, Sem.run_bind, run_und hu, hTe.size, Result.andThen_ok, run_und h2, Sem.run_pure]
    simp only [Bool.false_eq_true, if_false, Sem.run_bind, hy.len, Result.andThen_ok, show ¬ (n + n' ≤ c) by omega, if_true, Bool.not_false, hmax, false_and, hti, hbig', hch, run_askRoom, ho w1 rfl, hy1 w1 rfl, hzv, newRow, run_newObj, Sem.run_pure]
    rfl

end Go.Ev

/- Append: the operation. -/
namespace Go.Ev

variable {R : Type} {E : Env} {X : Cx} {P : Program} {t : Nat} {ti : TyI} {w : World}

theorem FromKs.append (R : Rel E X) {ks ks' : List Nat} {f f' : List Nat} (h : FromKs X ks f) (h' : FromKs X ks' f') (hd : ∀ b ∈ ks, b ∉ ks') : FromKs X (ks ++ ks') (f ++ f') := by
  refine ⟨?_, ?_⟩
  · rw [List.nodup_append]
    refine ⟨h.nodup, h'.nodup, fun g hg g' hg' e => ?_⟩
    subst e
    obtain ⟨b, x, cb, q1, q2, q3, q4⟩ := h.mem g hg
    obtain ⟨b', x', cb', r1, r2, r3, r4⟩ := h'.mem g hg'
    have := R.dis b b' x x' cb cb' g q2 r2 q3 r3 q4 r4
    exact hd b q1 (this ▸ r1)
  · intro g hg
    rcases List.mem_append.1 hg with hg | hg
    · obtain ⟨b, x, cb, q1, q2⟩ := h.mem g hg
      exact ⟨b, x, cb, by simp [q1], q2⟩
    · obtain ⟨b, x, cb, q1, q2⟩ := h'.mem g hg
      exact ⟨b, x, cb, by simp [q1], q2⟩

/-- What is added, as rows. -/
structure AddsR (P : Program) (X : Cx) (K : Ki) (l : List K.den) (yv : Value) (ks : List Nat) : Prop where
  out : ∃ ycs fy, (∀ w1 : World, w1.heap = X.w.heap → Adds P w1 K.size l.length yv ycs) ∧ OwnRow X.w K l ycs fy ∧ FromKs X ks fy ∧ ∀ b ∈ ks, ∃ x, look b X.s.st = some x

theorem first_slice {w w1 : World} {sz n c g o : Nat} {cur : Array Value} {ty : TypeId} {fr : Nat × Nat} (hg : w.heap[g]? = some (.cells cur ty fr)) (hh : w1.heap = w.heap) (hle : o + n * sz ≤ cur.size) :
    (Builtin.firstCells sz n (.slice (some ⟨g, o, none⟩) n c)).run P w1 = .ok (seg cur.toList o (n * sz)).toArray w1 := by
  simp only [Builtin.firstCells]
  exact run_loadCells (by rw [hh]; exact hg) o _ hle

theorem first_none {w1 : World} {sz : Nat} {A : Option Addr} {c : Nat} : (Builtin.firstCells sz 0 (.slice A 0 c)).run P w1 = .ok (#[] : Array Value) w1 := by
  cases A <;> simp [Builtin.firstCells, loadCells, loadCellsFrom]

theorem addsR_elems {K : Ki} {l : List K.den} {yv : Value} (hn : K.nest = false) (h : Elems X K l yv) : AddsR P X K l yv [] := by
  obtain ⟨A, c, rfl, hc, h⟩ := h.out
  rcases h with h | ⟨g, o, cur, ty, fr, S, rfl, hg, hle, hr⟩
  · have h0 : l = [] := List.eq_nil_of_length_eq_zero h
    subst h0
    refine ⟨[], [], fun w1 _ => ⟨rfl, first_none, by simp, by simp⟩, ⟨rfl, rfl⟩, .nil, by simp⟩
  · have hrow : OwnRow X.w K l (seg cur.toList o (l.length * K.size)) [] := RowR_imp (P := fun _ => True) hr (fun x c f _ hx => Rep_any hn hx) (by simp)
    refine ⟨_, [], fun w1 hh => ⟨rfl, first_slice hg hh hle, ?_, ?_⟩, hrow, .nil, by simp⟩
    · exact seg_length (by simpa using hle)
    · exact fun v hv => RowR_all (fun x c f hx => Rep_one hx) hrow v hv

theorem addsR_taken {K : Ki} {l : List K.den} {yv : Value} {ks : List Nat} (h : Taken E X K l yv ks) : AddsR P X K l yv ks := by
  obtain ⟨A, c, fp, rfl, how, hf, hl⟩ := h.out
  obtain ⟨A', c', e, h⟩ := how
  cases e
  rcases h with ⟨h0, h1, rfl⟩ | ⟨g, o, cur, fps, h1, h2, h3, h4, h5, h6⟩
  · have e0 : l = [] := List.eq_nil_of_length_eq_zero h0
    subst e0
    refine ⟨[], [], fun w1 _ => ⟨rfl, first_none, by simp, by simp⟩, ⟨rfl, rfl⟩, ⟨by simp, by simp⟩, hl⟩
  · subst h1
    have hm := Nat.mul_le_mul_right K.size h3
    obtain ⟨ty, fr, hg, _⟩ := h2
    refine ⟨_, fps, fun w1 hh => ⟨rfl, first_slice hg hh (by simp; omega), ?_, ?_⟩, h6, ⟨?_, ?_⟩, hl⟩
    · exact seg_length (by simp; omega)
    · exact fun v hv => RowR_all (fun x c f hx => Rep_one hx) h6 v hv
    · have := hf.nodup
      rw [h5] at this
      exact (List.nodup_cons.1 this).2
    · intro k hk
      exact hf.mem k (by rw [h5]; simp [hk])

theorem addsR_str {l : List UInt8} : AddsR P X (.int .u8) (strInts l) (.string ⟨⟨l⟩⟩) [] := by
  have hlen : List.length (α := Int) (strInts l) = l.length := by simp [strInts]
  refine ⟨(strInts l).map (Value.int .u8), [], fun w1 _ => ⟨?_, ?_, ?_, ?_⟩, ints_row _, .nil, by simp⟩
  · show Result.ok l.length w1 = Result.ok (List.length (α := Int) (strInts l)) w1
    rw [hlen]
  · show Result.ok (((⟨⟨l⟩⟩ : ByteArray).extract 0 (List.length (α := Int) (strInts l))).data.map fun b => Value.int .u8 b.toNat) w1 = _
    rw [hlen, slice_mid]
    congr 1
    apply Array.ext'
    simp [strInts]
  · show ((strInts l).map (Value.int .u8)).length = List.length (α := Int) (strInts l) * 1
    simp
  · intro c hc
    obtain ⟨n, _, rfl⟩ := List.mem_map.1 hc
    rfl

theorem seg_append (cur : List Value) (o m : Nat) (nc : List Value) (h : o + m + nc.length ≤ cur.length) : seg (splice cur (o + m) nc) o (m + nc.length) = seg cur o m ++ nc := by
  rw [seg_splice _ _ _ _ _ (Nat.le_refl _) (by omega)]
  have : seg cur o (m + nc.length) = seg cur o m ++ seg cur (o + m) nc.length := by
    simp only [seg, List.take_add, List.drop_drop]
  rw [this]
  have hl : (seg cur o m).length = m := seg_length (by omega)
  have hl2 : (seg cur (o + m) nc.length).length = nc.length := seg_length (by omega)
  have := splice_eq (seg cur o m) (seg cur (o + m) nc.length) [] nc hl2
  simp only [List.append_nil, hl] at this
  exact this

/-- What append comes to. -/
theorem append_good (R : Rel E X) {e t2 ty nb : Nat} {te : TyI} {K : Ki} {d2 : TypeDesc} {l l' : List K.den} {xv yv : Value} {ks ks' : List Nat} (hu : P.underlying t = some (.slice e)) (hTe : TyOK P e te) (hK : te.ki = some K) (h2 : P.underlying t2 = some d2) (hd2 : ∀ k, d2 ≠ .int k)
    (hx : Taken E X K l xv ks) (hy : AddsR P X K l' yv ks') (hd : ∀ b ∈ ks, b ∉ ks') (hb : l.length + l'.length ≤ bigOf te.bytes) (hF : Fresh X nb) :
    ∃ val X', (Builtin.append_ #[t, t2] ty #[xv, yv]).run P X.w = .ok val X'.w ∧ Good E X nb (.sl nb) ((nb, some (.cell false 0 [.rw K (l ++ l')])) :: kills (ks ++ ks')) val X' := by
  obtain ⟨i, z, i1, i2, i3, i4, i5, i6⟩ := hTe.i
  obtain ⟨hKs, _⟩ := i6 K hK
  obtain ⟨A, c, fp, rfl, how, hf, hlv⟩ := hx.out
  obtain ⟨ycs, fy, hadds, hyrow, hfy, hlv'⟩ := hy.out
  have hA := hadds X.w rfl
  have hlive : ∀ b ∈ ks ++ ks', ∃ x, look b X.s.st = some x := fun b hb' => (List.mem_append.1 hb').elim (hlv b) (hlv' b)
  have hfk := hf.append R hfy hd
  rw [hKs] at hA
  have bound : ∀ k ∈ fp ++ fy, k < X.w.heap.size := by
    intro k hk
    obtain ⟨b, x, cb, q1, q2, q3, q4⟩ := hfk.mem k hk
    obtain ⟨cb', j1, _, _, j4⟩ := R.blk b x q2
    rw [q3] at j1
    cases j1
    exact (j4 k q4).1
  have how' := how
  obtain ⟨A', c', e', h⟩ := how'
  cases e'
  by_cases hfit : l.length + l'.length ≤ c
  · have hrun := run_appArgs (w := X.w) (ty := ty) (A := A) (n := l.length) hu hTe h2 hd2 hA hfit
    rcases h with ⟨h0, h1, rfl⟩ | ⟨g, o, cur, fps, h1, hcur, h3, h4, h5, h6⟩
    · have e0 : l = [] := List.eq_nil_of_length_eq_zero h0
      have e1 : l' = [] := List.eq_nil_of_length_eq_zero (by omega)
      subst e0 e1 h1
      have hyc : ycs = [] := hyrow.1
      have hfy0 : fy = [] := hyrow.2
      subst hyc hfy0
      have hrun' : (Builtin.append_ #[t, t2] ty #[.slice A 0 0, yv]).run P X.w = .ok (.slice A 0 0) X.w := by
        have := hrun
        simp only [List.length_nil, Nat.add_zero] at this ⊢
        rw [this]
        cases A <;> simp [storeCells]
      have hN : NewBlk E X nb (.cell false 0 [.rw K ([] ++ [])]) (ks ++ ks') (.row A 0 0 K.size []) X.w (fun _ => False) (addBlk X nb (.cell false 0 [.rw K ([] ++ [])]) (ks ++ ks') (.row A 0 0 K.size []) X.w) :=
        ⟨rfl, rfl, rfl, rfl, hF, hlive, rfl, rfl, rfl, Nat.le_refl _, fun _ _ _ => rfl, fun g hg => hg.elim⟩
      refine ⟨.slice A 0 0, addBlk X nb (.cell false 0 [.rw K ([] ++ [])]) (ks ++ ks') (.row A 0 0 K.size []) X.w, hrun', hN.good R (fun _ => .row rfl rfl ⟨A, 0, rfl, .inl ⟨rfl, rfl, rfl⟩⟩) (by simp [CB.fp]) (by simp [CB.fp]) fun _ => ?_⟩
      exact .sl (sz := K.size) (fp := []) (by simp [addBlk])
    · subst h1
      have hm : (l.length + l'.length) * K.size ≤ c * K.size := Nat.mul_le_mul_right _ hfit
      have hyl : ycs.length = l'.length * K.size := by rw [hA.size, hKs]
      have hst : (storeCells ((⟨g, o, none⟩ : Addr).add (l.length * te.sz)) ycs).run P X.w = .ok () (setBlk X.w g (splice cur (o + l.length * K.size) ycs)) := by
        rw [addr_add, ← hKs]
        exact run_storeCells _ _ cur X.w hcur (by rw [Nat.add_mul] at hm; omega) hA.one
      simp only at hrun
      rw [hst] at hrun
      simp only [Result.andThen_ok] at hrun
      subst h5
      have hnd := hfk.nodup
      simp only [List.cons_append, List.nodup_cons] at hnd
      have hN : NewBlk E X nb (.cell false 0 [.rw K (l ++ l')]) (ks ++ ks') (.row (some ⟨g, o, none⟩) (l.length + l'.length) c K.size (g :: (fps ++ fy))) (setBlk X.w g (splice cur (o + l.length * K.size) ycs)) (fun k => k = g)
          (addBlk X nb (.cell false 0 [.rw K (l ++ l')]) (ks ++ ks') (.row (some ⟨g, o, none⟩) (l.length + l'.length) c K.size (g :: (fps ++ fy))) (setBlk X.w g (splice cur (o + l.length * K.size) ycs))) := by
        refine ⟨rfl, rfl, rfl, rfl, hF, hlive, rfl, rfl, rfl, by rw [setBlk_size]; exact Nat.le_refl _, fun k _ hk => setBlk_other _ _ _ _ hk, fun k hk => ?_⟩
        subst hk
        exact hfk.mem k (by simp)
      refine ⟨.slice (some ⟨g, o, none⟩) (l.length + l'.length) c, addBlk X nb (.cell false 0 [.rw K (l ++ l')]) (ks ++ ks') (.row (some ⟨g, o, none⟩) (l.length + l'.length) c K.size (g :: (fps ++ fy))) (setBlk X.w g (splice cur (o + l.length * K.size) ycs)), hrun, hN.good R ?_ ?_ ?_ fun _ => ?_⟩
      · intro _
        have hll : (l ++ l').length = l.length + l'.length := List.length_append
        refine .row hll.symm rfl ?_
        rw [hll]
        refine ⟨_, _, rfl, .inr ⟨g, o, splice cur (o + l.length * K.size) ycs, fps ++ fy, rfl, ?_, hfit, ?_, rfl, ?_⟩⟩
        · exact setBlk_cells hcur _ (splice_length _ _ _ (by rw [Nat.add_mul] at hm; omega))
        · rw [splice_length _ _ _ (by rw [Nat.add_mul] at hm; omega)]; exact h4
        · rw [Nat.add_mul, ← hyl, seg_append _ _ _ _ (by rw [Nat.add_mul] at hm; omega)]
          exact OwnRow.move (RowR_append h6 hyrow) fun k hk => setBlk_other _ _ _ _ fun e => hnd.1 (e ▸ hk)
      · simp only [CB.fp, List.nodup_cons]; exact hnd
      · intro k hk
        rw [setBlk_size]
        obtain ⟨b, x, cb, q1, q2, q3, q4⟩ := hfk.mem k hk
        exact ⟨bound k hk, .inr ⟨b, x, cb, .inr q1, q2, q3, q4⟩⟩
      · exact .sl (sz := K.size) (fp := g :: (fps ++ fy)) (by simp [addBlk])
  · have hold : ∃ ocs fo, (∀ w1 : World, w1.heap = X.w.heap → (Builtin.firstCells te.sz l.length (.slice A l.length c)).run P w1 = .ok ocs.toArray w1) ∧ ocs.length = l.length * te.sz ∧ OwnRow X.w K l ocs fo ∧ fo.Sublist fp := by
      rcases h with ⟨h0, h1, rfl⟩ | ⟨g, o, cur, fps, h1, hcur, h3, h4, h5, h6⟩
      · have e0 : l = [] := List.eq_nil_of_length_eq_zero h0
        subst e0
        exact ⟨[], [], fun w1 _ => first_none, by simp, ⟨rfl, rfl⟩, List.Sublist.refl _⟩
      · subst h1
        have hm := Nat.mul_le_mul_right K.size h3
        obtain ⟨ty', fr, hg, _⟩ := hcur
        refine ⟨_, fps, fun w1 hh => first_slice hg hh (by rw [← hKs]; simp; omega), ?_, by rw [← hKs]; exact h6, by rw [h5]; exact List.sublist_cons_self _ _⟩
        rw [← hKs]
        exact seg_length (by simp; omega)
    obtain ⟨ocs, fo, o1, o2, o3, o4⟩ := hold
    obtain ⟨c', cs, w', g1, g2, g3, g4, g5, g6, g7, g8⟩ := run_appGrows (w := X.w) (ty := ty) (A := A) (n := l.length) (c := c) hu hTe hK h2 hd2 hA (by omega) hb o1 (fun w1 hh => by have := (hadds w1 hh).cells; rwa [hKs] at this) o2
    have hll : (l ++ l').length = l.length + l'.length := List.length_append
    obtain ⟨X', r1, r2⟩ := good_row (w' := w') (K := K) (l := l ++ l') (cs := cs) (fr := (0, 0)) (c := c') (fps := fo ++ fy) (ks := ks ++ ks') R hF hlive (by rw [hll, hKs, g3]; exact RowR_append o3 hyrow) (by omega) (by rw [hKs]; omega)
      (.inl rfl) ((o4.append_right fy).nodup hfk.nodup) (fun k hk => ⟨bound k ((o4.append_right fy).subset hk), hfk.mem k ((o4.append_right fy).subset hk)⟩) g5 g6 g7 g8
    rw [hll] at r2
    exact ⟨_, X', by rw [g4, r1], r2⟩

end Go.Ev

/- Append: the operation's lemma. -/
namespace Go.Ev

variable {R : Type} {E : Env} {X : Cx} {P : Program} {t : Nat} {ti : TyI} {w : World}

theorem notInt_ok {c : Cfg} (hC : cfgOk P c = true) (h : notInt c t = true) : ∃ d, P.underlying t = some d ∧ ∀ k, d ≠ .int k := by
  unfold notInt at h
  split at h
  · rename_i ti ht
    split at h
    · cases h
    · rename_i hi; exact (cfg_ty hC ht).notInt hi
  · cases h

theorem verId_own {a : AV} (h : appendable a = true) : verId a = ownId a := by
  cases a <;> first | rfl | simp [appendable] at h

theorem srcElems_loc {s s' : St} {K : Ki} {a : AV} (hs : ∀ b ∈ verId a, look b s'.st = look b s.st) : srcElems s' K a = srcElems s K a := by
  unfold srcElems
  split
  · rfl
  · exact elems_loc hs

theorem addsR_src {K : Ki} {l : List K.den} {a : AV} {yv : Value} (R : Rel E X) (hn : K.nest = false) (hv : VRel X a yv) (h : srcElems X.s K a = some l) : AddsR P X K l yv [] := by
  unfold srcElems at h
  split at h
  · cases h
    cases hv
    exact addsR_str
  · exact addsR_elems hn (elems_ok R hv h)

theorem append_ok {c : Cfg} (hC : cfgOk P c = true) {s : St} {o : Oper} {nb : Nat} {cont : Cont R} {r : R} {cl : Call} (hop : o.op = .call cl) (hb : cl.callee = .builtin .append) (h : memE c s o nb cont = some r) :
    Res P c s o nb cont r fun s' k => memE c s' o nb k := by
  simp only [memE, hop, hb] at h
  split at h
  case h_2 => cases h
  rename_i x y t t2 ha ht
  split at h
  case h_2 => cases h
  rename_i ti hti
  cases hb1 : (isSl ti && notInt c t2) <;> rw [hb1] at h <;> simp only [cond_true, cond_false] at h
  · cases h
  have hb1' := hb1
  simp only [Bool.and_eq_true] at hb1'
  split at h
  case h_2 => cases h
  rename_i te hte
  split at h
  case h_2 => cases h
  rename_i K hK
  split at h
  case h_2 => cases h
  rename_i l l' hx hy
  obtain ⟨hb2, h⟩ := chk_some (show chk _ _ = some r from h)
  obtain ⟨hb3, h⟩ := chk_some h
  simp only [Bool.and_eq_true, nodupN_iff, List.nodup_append] at hb2
  obtain ⟨⟨happ, hnd⟩, hy2⟩ := hb2
  have hTe := cfg_ty hC hte
  have hup : ∀ b, b ∈ ownId (ev s x) ++ (bif K.nest then ownId (ev s y) else []) → b ∈ upIds ((nb, some (Blk.cell false 0 [AV.rw K (l ++ l')])) :: kills (ownId (ev s x) ++ bif K.nest then ownId (ev s y) else [])) := by
    intro b hb
    simp only [upIds, kills, List.map_cons, List.map_map, List.mem_cons]
    exact .inr (List.mem_map.2 ⟨b, hb, rfl⟩)
  have hyo : K.nest = true → appendable (ev s y) = true ∧ ∀ K' a, srcElems s K' a = elems s K' a ∨ K' ≠ K := by
    intro hn
    refine ⟨?_, fun K' a => ?_⟩
    · rw [hn] at hy2
      cases hev : ev s y <;> rw [hev] at hy2 <;> first | rfl | simp [wholeSl] at hy2
    · by_cases hk : K' = K
      · subst hk
        left
        unfold srcElems
        split
        · simp [Ki.nest] at hn
        · rfl
      · exact .inr hk
  refine ⟨_, _, _, h, ?_, ?_, trivial⟩
  · intro E X ac hs hR hT hF next Q hn
    subst hs
    have hTk := taken_ok hR (ev_ok hT x) hx happ
    have hA : AddsR P X K l' (ac.eval y) (bif K.nest then ownId (ev X.s y) else []) := by
      cases hnest : K.nest
      · simp only [cond_false]
        exact addsR_src hR hnest (ev_ok hT y) hy
      · simp only [cond_true]
        obtain ⟨h1, h2⟩ := hyo hnest
        rw [(h2 K _).resolve_right (fun e => e rfl)] at hy
        exact addsR_taken (taken_ok hR (ev_ok hT y) hy h1)
    have hd : ∀ b ∈ ownId (ev X.s x), b ∉ (bif K.nest then ownId (ev X.s y) else []) := by
      intro b hb hb'
      cases hnest : K.nest <;> rw [hnest] at hb'
      · simp at hb'
      · simp only [cond_true] at hb'
        rw [← verId_own (hyo hnest).1] at hb'
        exact hnd.2.2 b hb b hb' rfl
    obtain ⟨d2, u2, n2⟩ := notInt_ok hC hb1'.2
    obtain ⟨val, X', r1, r2⟩ := append_good (ty := o.type) hR ((cfg_ty hC hti).slice hb1'.1) hTe hK u2 n2 hTk hA hd (by rw [Nat.ble_eq] at hb3; exact hb3) hF
    unfold Oper.wp
    rw [call_shape hop hb, array_two ha, array_two ht]
    simp only [builtin, Sem.run_bind, List.map_toArray, List.map_cons, List.map_nil, r1, Result.andThen_ok, Sem.run_pure, Oper.upon]
    exact hn val X' r2
  · intro s' hag R' k
    have hx' : elems s' K (ev s x) = some l := by
      rw [elems_loc, hx]
      intro b hb
      rw [verId_own happ] at hb
      exact hag.wr b (hup b (by simp [hb]))
    have hy' : srcElems s' K (ev s y) = some l' := by
      rw [srcElems_loc, hy]
      intro b hb
      cases hnest : K.nest
      · exact hag.rd b (by rw [hnest]; exact hb)
      · rw [verId_own (hyo hnest).1] at hb
        exact hag.wr b (hup b (by rw [hnest]; simp [hb]))
    simp only [memE, hop, hb, ha, ht]
    rw [hag.ev x (by simp [hop, Op.operands, Call.operands, hb, array_two ha]), hag.ev y (by simp [hop, Op.operands, Call.operands, hb, array_two ha])]
    simp only [hti, hb1, hte, hK, hx', hy', cond_true]
    have hcd : (appendable (ev s x) && nodupN (ownId (ev s x) ++ verId (ev s y)) && (!K.nest || wholeSl (ev s y))) = true := by
      simp only [Bool.and_eq_true, nodupN_iff, List.nodup_append]
      exact ⟨⟨happ, hnd⟩, hy2⟩
    rw [hcd]
    simp only [cond_true, hb3, chk_true]

end Go.Ev

/- Operations: slices written out. -/
namespace Go.Ev

variable {R : Type} {E : Env} {X : Cx} {P : Program} {t : Nat} {ti : TyI} {w : World}

theorem litElems_ok (R : Rel E X) {K : Ki} {sz : Nat} (hsz : K.size = sz) : ∀ {n j : Nat} {as : List (Nat × AV)} {vs : List (Nat × Value)} {l : List K.den} {ks : List Nat} {cells : Array Value}, NRels X as vs → litElems X.s K j n as = some (l, ks) → ks.Nodup → cells.size = (j + n) * sz →
    ∃ (cells' : Array Value) (fp : List Nat), Instr.fill (fun i => some (i * sz, sz)) cells vs = some cells' ∧ cells'.size = cells.size ∧ cells'.toList.take (j * sz) = cells.toList.take (j * sz) ∧ OwnRow X.w K l (cells'.toList.drop (j * sz)) fp ∧ l.length = n ∧ FromKs X ks fp ∧
      ∀ b ∈ ks, ∃ x, look b X.s.st = some x
  | 0, j, [], _, l, ks, cells, hv, h, hnd, hc => by
    simp only [litElems, Option.some.injEq, Prod.mk.injEq] at h
    obtain ⟨rfl, rfl⟩ := h
    cases hv
    refine ⟨cells, [], rfl, rfl, rfl, ⟨?_, rfl⟩, rfl, .nil, by simp⟩
    rw [List.drop_of_length_le]
    simp [hc]
  | n + 1, j, (i, x) :: r, _, l, ks, cells, .cons (v := v) (vs := vs) h1 h2, h, hnd, hc => by
    simp only [litElems] at h
    cases hb : (Nat.beq i j && storable x) <;> rw [hb] at h <;> simp only [cond_true, cond_false] at h
    · cases h
    simp only [Bool.and_eq_true] at hb
    obtain ⟨hij, hst⟩ := hb
    have := Nat.eq_of_beq_eq_true hij
    subst this
    split at h
    case h_2 => cases h
    rename_i ps ks1 hg
    split at h
    case h_2 => cases h
    rename_i d hd
    split at h
    case h_2 => cases h
    rename_i l2 ks2 hl
    simp only [Option.some.injEq, Prod.mk.injEq] at h
    obtain ⟨rfl, rfl⟩ := h
    rw [List.nodup_append] at hnd
    obtain ⟨nd1, nd2, nd3⟩ := hnd
    obtain ⟨p1, p2, p3⟩ := partsOf_ok h1 hst
    obtain ⟨f1, g1, g2, g3, g4⟩ := giveParts_ok R p1 p2 hg nd1
    have hrep := ofPartsAll_ok g1 hd
    have hvl := Rep_len hrep
    have hmul : (i + (n + 1)) * sz = i * sz + (sz + n * sz) := by rw [Nat.add_mul, Nat.succ_mul]; omega
    obtain ⟨cells1, q1, q2⟩ := fill_step (place := fun i => some (i * sz, sz)) (cells := cells) (i := i) (v := v) (rest := vs) rfl (by simp at hvl; omega) (by rw [hc, hmul]; omega)
    have hvl' : v.cells.toList.length = sz := by omega
    have hsp : (splice cells.toList (i * sz) v.cells.toList).length = cells.toList.length := splice_length _ _ _ (by rw [hvl']; simp [hc, hmul])
    have hs1 : cells1.size = cells.size := by
      have := congrArg List.length q1
      rw [hsp] at this
      simpa using this
    obtain ⟨cells', f2, e1, e2, e3, e4, e5, e6, e7⟩ := litElems_ok R hsz (cells := cells1) h2 hl nd2 (by rw [hs1, hc]; congr 1; omega)
    have h5 : cells'.toList.take ((i + 1) * sz) = cells.toList.take (i * sz) ++ v.cells.toList := by
      rw [e3, q1, Nat.succ_mul]
      simp only [splice]
      have : (cells.toList.take (i * sz) ++ v.cells.toList).length = i * sz + sz := by
        rw [List.length_append, hvl', List.length_take, Nat.min_eq_left]
        simp [hc, hmul]
      rw [← this, List.take_left']
      rfl
    have hle : (cells.toList.take (i * sz)).length = i * sz := by
      rw [List.length_take, Nat.min_eq_left]
      simp [hc, hmul]
    have h6 : cells'.toList.take (i * sz) = cells.toList.take (i * sz) := by
      have := congrArg (List.take (i * sz)) h5
      rw [List.take_take, Nat.min_eq_left (Nat.mul_le_mul_right _ (by omega)), List.take_left' hle] at this
      exact this
    have h7 : cells'.toList.drop (i * sz) = v.cells.toList ++ cells'.toList.drop ((i + 1) * sz) := by
      have e := List.take_append_drop ((i + 1) * sz) cells'.toList
      rw [h5] at e
      rw [← e, List.append_assoc, List.drop_left' hle]
      congr 1
      have e' : (cells.toList.take (i * sz) ++ (v.cells.toList ++ cells'.toList.drop ((i + 1) * sz))) = (cells.toList.take (i * sz) ++ v.cells.toList) ++ cells'.toList.drop ((i + 1) * sz) := by rw [List.append_assoc]
      rw [e', List.drop_left']
      rw [List.length_append, hle, hvl', Nat.succ_mul]
    refine ⟨cells', f1 ++ f2, by rw [q2]; exact e1, e2.trans hs1, h6, ?_, by simp [e5], g3.append R e6 (fun b hb hb' => nd3 b hb b hb' rfl), ?_⟩
    · rw [h7]
      exact ⟨_, _, _, _, rfl, rfl, hrep, e4⟩
    · intro b hb
      rcases List.mem_append.1 hb with hb | hb
      · exact g4 b hb
      · exact e7 b hb
  | 0, _, _ :: _, _, _, _, _, _, h, _, _ => by simp [litElems] at h
  | _ + 1, _, [], _, _, _, _, _, h, _, _ => by simp [litElems] at h

theorem litElems_loc {s s' : St} {K : Ki} : ∀ {n j : Nat} {as : List (Nat × AV)} {l : List K.den} {ks : List Nat}, litElems s K j n as = some (l, ks) → (∀ b ∈ ks, look b s'.st = look b s.st) → litElems s' K j n as = some (l, ks)
  | 0, j, [], l, ks, h, _ => h
  | n + 1, j, (i, x) :: r, l, ks, h, hs => by
    simp only [litElems] at h ⊢
    cases hb : (Nat.beq i j && storable x) <;> rw [hb] at h <;> simp only [cond_true, cond_false] at h ⊢
    · cases h
    split at h
    case h_2 => cases h
    rename_i ps ks1 hg
    split at h
    case h_2 => cases h
    rename_i d hd
    split at h
    case h_2 => cases h
    rename_i l2 ks2 hl
    simp only [Option.some.injEq, Prod.mk.injEq] at h
    obtain ⟨rfl, rfl⟩ := h
    rw [rowOf_giveParts hg (fun b hb => hs b (by simp [hb])), litElems_loc hl (fun b hb => hs b (by simp [hb]))]
    simp only [hd]
  | 0, _, _ :: _, _, _, h, _ => by simp [litElems] at h
  | _ + 1, _, [], _, _, h, _ => by simp [litElems] at h

theorem buildSlice_ok {c : Cfg} (hC : cfgOk P c = true) {s : St} {o : Oper} {nb : Nat} {cont : Cont R} {r : R} {n : Nat} {ps : Array (Nat × Operand)} (hop : o.op = .buildSlice t n ps) (h : memE c s o nb cont = some r) :
    Res P c s o nb cont r fun s' k => memE c s' o nb k := by
  simp only [memE, hop] at h
  have hmap : ∀ s' u rd, Agree s s' o u rd → (ps.toList.map fun (x : Nat × Operand) => (x.1, ev s' x.2)) = ps.toList.map fun x => (x.1, ev s x.2) := by
    intro s' u rd ha
    refine List.map_congr_left fun y hy => ?_
    rw [ha.ev y.2 (by simp [hop, Op.operands]; exact ⟨y.1, by simpa using Array.mem_toList_iff.1 hy⟩)]
  have hexec : ∀ (ac : Act), (Instr.buildSlice t n (ps.map fun (x : Nat × Operand) => (x.1, ac.eval x.2))) = Instr.buildSlice t n (ps.toList.map fun x => (x.1, ac.eval x.2)).toArray := by
    intro ac
    congr 1
    simp [← List.map_toArray]
  split at h
  case h_2 => cases h
  rename_i ti hti
  split at h
  case h_2 => cases h
  rename_i te hte
  split at h
  case h_2 => cases h
  rename_i K hK
  split at h
  case h_2 => cases h
  rename_i l ks hl
  obtain ⟨hb, h⟩ := chk_some (show chk _ _ = some r from h)
  have hb' := hb
  simp only [Bool.and_eq_true, nodupN_iff] at hb'
  obtain ⟨⟨hsl, hle⟩, hnd⟩ := hb'
  rw [Nat.ble_eq] at hle
  have hT := cfg_ty hC hti
  have hTe := cfg_ty hC hte
  refine ⟨_, _, _, h, ?_, ?_, trivial⟩
  · intro E X ac hs hR hT' hF next Q hn
    subst hs
    obtain ⟨z, z1, z2, z3⟩ := hTe.zero (w := X.w)
    obtain ⟨hKs, hKz⟩ := z3 K hK
    let zz : Array Value := if n * te.sz = 0 then #[] else z.cells
    obtain ⟨cells', fp, e1, e2, _, e4, e5, e6, e7⟩ := litElems_ok (cells := (Array.range (n * te.sz)).map (zz[· % zz.size]!)) hR hKs (nrels_map hT' ps.toList) hl hnd (by simp)
    have hsz : cells'.size = n * te.sz := by rw [e2]; simp
    have hrow : OwnRow X.w K l cells'.toList fp := by simpa using e4
    have hlen : l.length * K.size = n * te.sz := by rw [e5, hKs]
    obtain ⟨X', r1, r2⟩ := good_row (nb := nb) (w' := { X.w with heap := X.w.heap.push (.cells cells' ti.elem) }) (K := K) (l := l) (cs := cells') (fr := (0, 0)) (c := n) (fps := fp) (ks := ks) hR hF e7
      (by rw [hlen, List.take_of_length_le (by simp [hsz])]; exact hrow) (by omega) (by rw [hKs, hsz]; exact Nat.le_refl _) (.inl rfl) e6.nodup
      (fun g hg => by
        obtain ⟨b, x, cb, q1, q2, q3, q4⟩ := e6.mem g hg
        obtain ⟨cb', j1, _, _, j4⟩ := hR.blk b x q2
        rw [q3] at j1
        cases j1
        exact ⟨(j4 g q4).1, b, x, cb, q1, q2, q3, q4⟩) rfl rfl rfl rfl
    unfold Oper.wp
    simp only [execOp, hop, Sem.run_bind]
    rw [hexec]
    have hrun : (Instr.buildSlice t n (ps.toList.map fun x => (x.1, ac.eval x.2)).toArray).run P X.w = .ok (.slice (some ⟨X.w.heap.size, 0, none⟩) n n) { X.w with heap := X.w.heap.push (.cells cells' ti.elem) } := by
      simp only [Instr.buildSlice, Sem.run_bind, run_und (hT.slice hsl), hTe.size, Result.andThen_ok, Sem.run_ite, if_neg (show ¬ (n * te.sz > 2 ^ 24) by omega), Sem.run_pure]
      by_cases h0 : n * te.sz = 0
      · have : zz = #[] := if_pos h0
        rw [this] at e1
        rw [if_pos h0]
        simp only [e1, newRow, Sem.run_bind, run_newObj, Sem.run_pure, Result.andThen_ok]
      · have : zz = z.cells := if_neg h0
        rw [this] at e1
        rw [if_neg h0]
        simp only [z1, e1, newRow, Sem.run_bind, run_newObj, Sem.run_pure, Result.andThen_ok]
    rw [hrun]
    simp only [Result.andThen_ok, Sem.run_pure, Oper.upon]
    have := hn _ X' r2
    rw [r1, e5] at this
    exact this
  · intro s' ha R' k
    simp only [memE, hop, hti, hte, hK]
    rw [show (ps.toList.map fun (x : Nat × Operand) => match x with | (i, x) => (i, ev s' x)) = ps.toList.map fun x => (x.1, ev s' x.2) from rfl, hmap s' _ _ ha]
    rw [show (ps.toList.map fun (x : Nat × Operand) => match x with | (i, x) => (i, ev s x)) = ps.toList.map fun x => (x.1, ev s x.2) from rfl] at hl
    rw [litElems_loc hl fun b hb => ha.wr b (by simp only [upIds, kills, List.map_cons, List.map_map, List.mem_cons]; exact .inr (List.mem_map.2 ⟨b, hb, rfl⟩))]
    simp only [hb, cond_true]

end Go.Ev

/- Operations: all of them that call nobody. -/
namespace Go.Ev

variable {R : Type} {E : Env} {X : Cx} {P : Program} {w : World}

theorem memE_ok {c : Cfg} (hC : cfgOk P c = true) {s : St} {o : Oper} {nb : Nat} {cont : Cont R} {r : R} (h : memE c s o nb cont = some r) : Res P c s o nb cont r fun s' k => memE c s' o nb k := by
  have none_ : ∀ {p : Prop}, (none : Option R) = some r → p := fun e => nomatch e
  cases hop : o.op with
  | move x => exact move_ok (.inl hop) h
  | assign x => exact move_ok (.inr hop) h
  | pick x a b => exact pick_ok hop h
  | alloc t => exact alloc_ok hC hop h
  | box t v => exact box_ok hop h
  | build t ps => exact build_ok hC hop h
  | buildSlice t n ps => exact buildSlice_ok hC hop h
  | load t a => exact load_ok hC hop h
  | store t a v => exact store_ok hC hop h
  | nilCheck x => exact nilCheck_ok hop h
  | binOp op t x y yt => exact binOp_ok hC hop h
  | unOp op t x => exact unOp_ok hop h
  | convert t d x => exact convert_ok hC hop h
  | makeSlice t x y => exact makeSlice_ok hC hop h
  | fieldAddr t x f => exact fieldAddr_ok hC hop h
  | indexAddr t x i => exact indexAddr_ok hC hop h
  | index t x i => exact index_ok hC hop h
  | extract x i => exact extract_ok hop h
  | slice t x lo hi m =>
    cases m with
    | none => exact sliceOp_ok hC hop h
    | some m => simp only [memE, hop, pureE] at h; exact none_ h
  | makeFunc f fs caps =>
    cases f with
    | func f => exact makeFunc_ok hop h
    | _ => simp only [memE, hop, pureE] at h; exact none_ h
  | call cl =>
    cases hb : cl.callee with
    | builtin b =>
      cases b with
      | len => exact len_ok hC hop hb h
      | min => exact min_ok (mx := false) hop hb h
      | max => exact min_ok (mx := true) hop hb h
      | append => exact append_ok hC hop hb h
      | _ => simp only [memE, hop, hb] at h; exact none_ h
    | _ => simp only [memE, hop, hb] at h; exact none_ h
  | _ => simp only [memE, hop, pureE] at h; exact none_ h

end Go.Ev

/- Another numbering of blocks. -/
namespace Go.Ev

/-- One moment, told in two numberings. -/
structure Sim (X Y : Cx) (ok : Nat → Nat → Bool) (sh : Nat) (m : List (Nat × Nat)) : Prop where
  w : Y.w = X.w
  cm : ∀ b b' cb, look b m = some b' → X.cm b = some cb → Y.cm b' = some cb
  reg : ∀ p p', pvR sh m p = some p' → (∀ b v, p ≠ .ver b v) → ∀ g, X.Sof p g → Y.Sof p' g
  okv : ∀ b v, ok b v = true → valid X.s (.ver b v) = true
  row : ∀ b b' v K l ro, ok b v = true → look b m = some b' → look b X.s.st = some (.cell ro v [.rw K l]) → ∃ ro', look b' Y.s.st = some (.cell ro' 0 [.rw K l])

variable {X Y : Cx} {ok : Nat → Nat → Bool} {sh : Nat} {m : List (Nat × Nat)}

theorem mapM_nil {α β : Type} {f : α → Option β} {qs : List β} (h : ([] : List α).mapM f = some qs) : qs = [] := by
  simp at h; exact h

theorem mapM_cons {α β : Type} {f : α → Option β} {a : α} {r : List α} {qs : List β} (h : (a :: r).mapM f = some qs) : ∃ b bs, f a = some b ∧ r.mapM f = some bs ∧ qs = b :: bs := by
  rw [List.mapM_cons] at h
  cases h1 : f a with
  | none => rw [h1] at h; simp at h
  | some b =>
    rw [h1] at h
    simp only [Option.bind_eq_bind, Option.bind_some] at h
    cases h2 : r.mapM f with
    | none => rw [h2] at h; simp at h
    | some bs =>
      rw [h2] at h
      simp at h
      exact ⟨b, bs, rfl, rfl, h.symm⟩

theorem gd {t : Bool} {k : Option AV} {a' : AV} (h : (bif t then k else some .un) = some a') : a' = .un ∨ (t = true ∧ k = some a') := by
  cases t
  · simp at h; exact .inl h.symm
  · exact .inr ⟨rfl, h⟩

theorem ren_plain {n : Nat} {a a' : AV} (h : ren ok sh m n a = some a') (ha : a.plain = true) : a'.plain = true := by
  cases n with
  | zero => simp [ren] at h
  | succ n =>
    cases a <;> simp only [ren] at h <;> (try (simp [AV.plain] at ha; done)) <;>
      first
        | (simp only [Option.some.injEq] at h; subst h; rfl)
        | (rcases gd h with rfl | ⟨_, h⟩
           · rfl
           · (repeat' split at h) <;> first | (cases h; done) | (cases h; rfl))
        | (split at h
           · first
              | (cases h; rfl)
              | (rcases gd h with rfl | ⟨_, h⟩
                 · rfl
                 · (repeat' split at h) <;> first | (cases h; done) | (cases h; rfl))
           · cases h)

theorem PRs_ren {n : Nat} (hw : Y.w = X.w) (ih : ∀ a v a', VRel X a v → ren ok sh m n a = some a' → VRel Y a' v) : ∀ {ps qs : List AV} {cs : List Value} {fp : List Nat}, PRs X ps cs fp → ps.mapM (ren ok sh m n) = some qs → (∀ a ∈ ps, a.norw = true) →
    PRs Y qs cs fp ∧ ∀ a ∈ qs, a.norw = true
  | _, qs, _, _, .nil, h, _ => by rw [mapM_nil h]; exact ⟨.nil, by simp⟩
  | _, qs, _, _, .one h1 h2 h3 h4, h, hn => by
    obtain ⟨b, bs, e1, e2, rfl⟩ := mapM_cons h
    obtain ⟨k1, k2⟩ := PRs_ren hw ih h4 e2 (fun a ha => hn a (by simp [ha]))
    have hp := ren_plain e1 h1
    refine ⟨.one hp h2 (ih _ _ _ h3 e1) k1, ?_⟩
    intro a ha
    rcases List.mem_cons.1 ha with rfl | ha
    · cases a <;> first | rfl | simp [AV.plain] at hp
    · exact k2 a ha
  | _, qs, _, _, .arr h1 h2 h3, h, hn => by
    obtain ⟨b, bs, e1, e2, rfl⟩ := mapM_cons h
    obtain ⟨k1, k2⟩ := PRs_ren hw ih h3 e2 (fun a ha => hn a (by simp [ha]))
    cases n with
    | zero => simp [ren] at e1
    | succ n =>
      simp only [ren, Option.some.injEq] at e1
      subst e1
      refine ⟨.arr h1 (hw ▸ h2) k1, ?_⟩
      intro a ha
      rcases List.mem_cons.1 ha with rfl | ha
      · rfl
      · exact k2 a ha
  | _, qs, _, _, .nl h1 h3, h, hn => by
    obtain ⟨b, bs, e1, e2, rfl⟩ := mapM_cons h
    obtain ⟨k1, k2⟩ := PRs_ren hw ih h3 e2 (fun a ha => hn a (by simp [ha]))
    cases n with
    | zero => simp [ren] at e1
    | succ n =>
      simp only [ren, Option.some.injEq] at e1
      subst e1
      refine ⟨.nl (hw ▸ h1) k1, ?_⟩
      intro a ha
      rcases List.mem_cons.1 ha with rfl | ha
      · rfl
      · exact k2 a ha
  | _, qs, _, _, .rw h2 h3, h, hn => by
    have := hn _ (List.mem_cons_self ..)
    simp [AV.norw] at this

theorem VRels_ren {n : Nat} (ih : ∀ a v a', VRel X a v → ren ok sh m n a = some a' → VRel Y a' v) : ∀ {ps qs : List AV} {vs : List Value}, VRels X ps vs → ps.mapM (ren ok sh m n) = some qs → VRels Y qs vs
  | _, qs, _, .nil, h => by rw [mapM_nil h]; exact .nil
  | _, qs, _, .cons h1 h2, h => by
    obtain ⟨b, bs, e1, e2, rfl⟩ := mapM_cons h
    exact .cons (ih _ _ _ h1 e1) (VRels_ren ih h2 e2)

theorem Sim.at (S : Sim X Y ok sh m) {b b' v i f : Nat} {K : Ki} {l : List K.den} {u : Value} (ho : ok b v = true) (hb : look b m = some b') (h : At X b i f K l u) : At Y b' i f K l u := by
  obtain ⟨g, og, n, c, sz, fp, K0, l0, ver, ro, h1, h2, h3, h4, h5, h6⟩ := h
  obtain ⟨ro2, K2, l2, k1, _⟩ := valid_ver (S.okv b v ho)
  rw [h2] at k1
  cases k1
  obtain ⟨ro', k2⟩ := S.row b b' v _ _ ro ho hb h2
  exact ⟨g, og, n, c, sz, fp, K0, l0, 0, ro', S.cm b b' _ hb h1, k2, h3, h4, h5, by rw [S.w]; exact h6⟩

theorem Sim.kn (S : Sim X Y ok sh m) {b b' v : Nat} (hb : look b m = some b') (h : Kn X (.ver b v)) : Kn Y (.ver b' 0) := by
  obtain ⟨cb, h1, _⟩ := h
  exact ⟨cb, S.cm b b' cb hb h1, fun _ _ _ _ => Nat.zero_le _⟩

/-- A place that is still good, in the other numbering. -/
theorem Sim.pv (S : Sim X Y ok sh m) {p p' : Prov} (hg : (match p with | .ver b v => ok b v | _ => true) = true) (hp : pvR sh m p = some p') (hk : Kn X p) : valid X.s p = true ∧ Kn Y p' ∧ (∀ g, X.Sof p g → Y.Sof p' g) ∧ ((∀ b v, p ≠ .ver b v) → ∀ b v, p' ≠ .ver b v) := by
  cases p with
  | frz =>
    have e : p' = .frz := by
      unfold pvR shiftP at hp
      split at hp <;> first | (simp at hp; exact hp.symm) | (simp at hp)
    subst e
    exact ⟨rfl, trivial, S.reg _ _ hp (by simp), by simp⟩
  | reg n =>
    have e : ∃ k, p' = .reg k := by
      unfold pvR shiftP at hp
      split at hp
      · simp at hp; exact ⟨_, hp.symm⟩
      · simp at hp; exact ⟨_, hp.symm⟩
      · simp only [cond_false] at hp
        cases n with
        | zero => simp at hp
        | succ n => simp at hp; exact ⟨_, hp.symm⟩
    obtain ⟨k, rfl⟩ := e
    exact ⟨rfl, trivial, S.reg _ _ hp (by simp), by simp⟩
  | ver b v =>
    simp only at hg
    have e : ∃ b', look b m = some b' ∧ p' = .ver b' 0 := by
      unfold pvR shiftP at hp
      split at hp
      · simp only at hp
        split at hp
        · rename_i b' hb; cases hp; exact ⟨b', hb, rfl⟩
        · cases hp
      · simp at hp
      · simp at hp
    obtain ⟨b', hb, rfl⟩ := e
    refine ⟨S.okv b v hg, S.kn hb hk, ?_, fun h => (h b v rfl).elim⟩
    rintro g ⟨cb, hc, hgm⟩
    exact ⟨cb, S.cm b b' cb hb hc, hgm⟩

theorem RoRow_w {S S' : Nat → Prop} {K : Ki} {l : List K.den} {cs : List Value} (hw : Y.w = X.w) (hS : ∀ g, S g → S' g) (h : RowR (Rep X.w S K false) l cs []) : RowR (Rep Y.w S' K false) l cs [] :=
  RoRow_move h fun g hg => ⟨hS g hg, by rw [hw]⟩

theorem ren_ok (S : Sim X Y ok sh m) : ∀ {n : Nat} {a a' : AV} {v : Value}, VRel X a v → ren ok sh m n a = some a' → VRel Y a' v
  | 0, _, _, _, _, h => by simp [ren] at h
  | n + 1, a, a', v, hv, h => by
    have ih : ∀ a v a', VRel X a v → ren ok sh m n a = some a' → VRel Y a' v := fun a v a' hv h => ren_ok S hv h
    cases hv with
    | un => simp only [ren, Option.some.injEq] at h; subst h; exact .un _
    | bool => simp only [ren, Option.some.injEq] at h; subst h; exact .bool _
    | int => simp only [ren, Option.some.injEq] at h; subst h; exact .int _ _
    | str => simp only [ren, Option.some.injEq] at h; subst h; exact .str _
    | nils => simp only [ren, Option.some.injEq] at h; subst h; exact .nils
    | nz => simp only [ren, Option.some.injEq] at h; subst h; exact .nz _
    | nilp => simp only [ren, Option.some.injEq] at h; subst h; exact .nilp
    | nilf => simp only [ren, Option.some.injEq] at h; subst h; exact .nilf
    | nili => simp only [ren, Option.some.injEq] at h; subst h; exact .nili
    | nilm => simp only [ren, Option.some.injEq] at h; subst h; exact .nilm
    | arr hl hr => simp only [ren, Option.some.injEq] at h; subst h; exact .arr hl (S.w ▸ hr)
    | sl e =>
      simp only [ren] at h
      split at h
      case h_2 => cases h
      rename_i b' hb
      cases h
      exact .sl (S.cm _ _ _ hb e)
    | ss0 e ho =>
      simp only [ren] at h
      split at h
      case h_2 => cases h
      rename_i b' hb
      cases h
      exact .ss0 (S.cm _ _ _ hb e) ho
    | ss e h1 h2 h3 =>
      simp only [ren] at h
      split at h
      case h_2 => cases h
      rename_i b' hb
      cases h
      exact .ss (S.cm _ _ _ hb e) h1 h2 h3
    | mp e =>
      simp only [ren] at h
      split at h
      case h_2 => cases h
      rename_i b' hb
      cases h
      exact .mp (S.cm _ _ _ hb e)
    | pb e hb hp hn =>
      simp only [ren] at h
      split at h
      case h_2 => cases h
      rename_i b' hb'
      cases h
      exact .pb (S.cm _ _ _ hb' e) hb hp hn
    | ro h1 h2 hk hr =>
      simp only [ren] at h
      rcases gd h with rfl | ⟨hg, h⟩
      · exact .un _
      split at h
      case h_2 => cases h
      rename_i p' hp
      cases h
      obtain ⟨k1, k2, k3, _⟩ := S.pv hg hp hk
      exact .ro h1 h2 k2 fun _ => RoS_imp (hr k1) (fun g hg => ⟨k3 g hg, by rw [S.w]⟩) fun cs hc => RoRow_w S.w k3 hc
    | vw h1 h2 hk hr =>
      rename_i b v i f K l A c
      simp only [ren] at h
      split at h
      case h_2 => cases h
      rcases gd h with rfl | ⟨hg, h⟩
      · exact .un _
      split at h
      case h_2 => cases h
      rename_i b' hb
      cases h
      exact .vw h1 h2 (S.kn hb hk) fun _ => S.at hg hb (hr (S.okv _ _ hg))
    | pn hn hp hk hr =>
      rename_i b v i f K l p g og
      simp only [ren] at h
      split at h
      case h_2 => cases h
      rcases gd h with rfl | ⟨hg, h⟩
      · exact .un _
      split at h
      case h_2 => cases h
      rename_i b' hb
      cases h
      refine .pn hn hp (S.kn hb hk) fun _ => ?_
      obtain ⟨n', c', ha⟩ := hr (S.okv _ _ hg)
      exact ⟨n', c', S.at hg hb ha⟩
    | po hn hp hk hr =>
      simp only [ren] at h
      rcases gd h with rfl | ⟨hg, h⟩
      · exact .un _
      split at h
      case h_2 => cases h
      rename_i p' hp'
      cases h
      obtain ⟨k1, k2, k3, _⟩ := S.pv hg hp' hk
      refine .po hn hp k2 fun _ => ?_
      obtain ⟨cur, t, fr, q1, q2, q3, q4⟩ := hr k1
      exact ⟨cur, t, fr, k3 _ q1, by rw [S.w]; exact q2, q3, RoRow_w S.w k3 q4⟩
    | @pr q ps o p g og cur t fr nn h1 h2 h3 h4 h5 h6 h7 =>
      simp only [ren] at h
      rcases gd h with rfl | ⟨hg, h⟩
      · exact .un _
      split at h
      case h_2 => cases h
      rename_i p' hp'
      split at h
      case h_2 => cases h
      rename_i qs hqs
      cases h
      have hk : Kn X q := by cases q with
        | frz => trivial
        | reg => trivial
        | ver b v => exact (h6 b v rfl).elim
      obtain ⟨k1, k2, k3, k4⟩ := S.pv (by cases q with
        | frz => rfl
        | reg => rfl
        | ver b v => exact (h6 b v rfl).elim) hp' hk
      obtain ⟨q1, q2⟩ := PRs_ren S.w ih h4 hqs h5
      exact .pr (k3 _ h1) (by rw [S.w]; exact h2) h3 q1 q2 (k4 h6) h7
    | agg hp hn =>
      simp only [ren] at h
      split at h
      case h_2 => cases h
      rename_i qs hqs
      cases h
      obtain ⟨q1, q2⟩ := PRs_ren S.w ih hp hqs hn
      exact .agg q1 q2
    | fn hp =>
      simp only [ren] at h
      split at h
      case h_2 => cases h
      rename_i qs hqs
      cases h
      exact .fn (VRels_ren ih hp hqs)
    | tup hp =>
      simp only [ren] at h
      split at h
      case h_2 => cases h
      rename_i qs hqs
      cases h
      exact .tup (VRels_ren ih hp hqs)
    | ifc hv =>
      simp only [ren] at h
      split at h
      case h_2 => cases h
      rename_i x hx
      cases h
      exact .ifc (ren_ok S hv hx)

theorem renB_ok (S : Sim X Y ok sh m) {x y : Blk} {cb : CB} (h : BRel X cb x) (hy : renB ok sh m x = some y) : BRel Y cb y := by
  cases h with
  | box h1 h2 h3 =>
    simp only [renB] at hy
    split at hy
    case h_2 => cases hy
    rename_i qs hqs
    cases hy
    obtain ⟨q1, q2⟩ := PRs_ren S.w (fun a v a' hv h => ren_ok S hv h) h3 hqs h1
    exact .box q2 (S.w ▸ h2) q1
  | row h1 h2 h3 =>
    simp only [renB] at hy
    split at hy
    case h_2 => cases hy
    rename_i qs hqs
    cases hy
    obtain ⟨b, bs, e1, e2, rfl⟩ := mapM_cons hqs
    rw [mapM_nil e2]
    simp only [ren, Option.some.injEq] at e1
    subst e1
    exact .row h1 h2 (S.w ▸ h3)

end Go.Ev

/- What is lent. -/
namespace Go.Ev

/-- The heap's blocks of the blocks that are handed over. -/
def Given (X : Cx) (hs : List Nat) (g : Nat) : Prop := ∃ b x cb, b ∈ hs ∧ look b X.s.st = some x ∧ X.cm b = some cb ∧ g ∈ cb.fp

/-- Another frame of the same moment, that may read all that is not handed over. -/
structure Lends (E : Env) (X Y : Cx) (hs : List Nat) : Prop where
  rel : Rel E X
  w : Y.w = X.w
  S : ∀ g, g < X.w.heap.size → ¬ Given X hs g → Y.S (some 0) g

variable {E : Env} {X Y : Cx} {hs : List Nat}

theorem Lends.own (L : Lends E X Y hs) {b : Nat} {x : Blk} {cb : CB} {g : Nat} (hb : memN b hs = false) (hl : look b X.s.st = some x) (hc : X.cm b = some cb) (hg : g ∈ cb.fp) : Y.S (some 0) g := by
  obtain ⟨cb', h1, _, _, h4⟩ := L.rel.blk b x hl
  rw [hc] at h1
  cases h1
  refine L.S g (h4 g hg).1 ?_
  rintro ⟨b', x', cb', m1, m2, m3, m4⟩
  have := L.rel.dis b b' x x' cb cb' g hl m2 hc m3 hg m4
  subst this
  rw [memN_iff.2 m1] at hb
  cases hb

theorem Lends.reg (L : Lends E X Y hs) {n : Option Nat} {g : Nat} (hS : X.S n g) : Y.S (some 0) g := by
  obtain ⟨h1, h2⟩ := L.rel.out n g hS
  refine L.S g (Nat.lt_of_lt_of_le h1 L.rel.fr.size) ?_
  rintro ⟨b', x', cb', m1, m2, m3, m4⟩
  obtain ⟨cb2, k1, _, _, k4⟩ := L.rel.blk b' x' m2
  rw [m3] at k1
  cases k1
  rcases (k4 g m4).2 with k | k
  · exact h2 k
  · omega

/-- What a place that is still good and not handed over covers. -/
theorem Lends.sof (L : Lends E X Y hs) {p : Prov} (hv : valid X.s p = true) (hm : ∀ b v, p = .ver b v → memN b hs = false) : ∀ g, X.Sof p g → Y.S (some 0) g := by
  intro g hg
  cases p with
  | frz => exact L.reg hg
  | reg n => exact L.reg hg
  | ver b v =>
    obtain ⟨ro, K, l, hl, _⟩ := valid_ver hv
    obtain ⟨cb, hc, hgm⟩ := hg
    exact L.own (hm b v rfl) hl hc hgm

theorem Lends.live (L : Lends E X Y hs) {p : Prov} (h : liveP X.s hs p = true) : valid X.s p = true ∧ ∀ g, X.Sof p g → Y.S (some 0) g := by
  have hv : valid X.s p = true := by
    cases p with
    | frz => rfl
    | reg => rfl
    | ver b v => simp only [liveP, Bool.and_eq_true] at h; exact h.1
  refine ⟨hv, L.sof hv ?_⟩
  rintro b v rfl
  simp only [liveP, Bool.and_eq_true, Bool.not_eq_true'] at h
  exact h.2

theorem Lends.ro (L : Lends E X Y hs) {K : Ki} {l : List K.den} {n : Nat} {A : Option Addr} {c : Nat} {fp : List Nat} (hn : n = l.length) (h : OwnS X.w K.size n (OwnRow X.w K l) (.slice A n c) fp) (hp : ∀ g ∈ fp, Y.S (some 0) g) : VRel Y (.ro (.reg 0) K l) (.slice A n c) := by
  subst hn
  obtain ⟨k1, k2, k3⟩ := h.ro (S := Y.S (some 0)) rfl hp
  exact .ro k1 k2 trivial fun _ => L.w ▸ k3

theorem snapL_cons {f : AV → Option (AV × List Nat)} {p : AV} {r : List AV} {qs : List AV} {l : List Nat} (h : snap.snapL f (p :: r) = some (qs, l)) : ∃ x l1 y l2, f p = some (x, l1) ∧ snap.snapL f r = some (y, l2) ∧ qs = x :: y ∧ l = l1 ++ l2 := by
  simp only [snap.snapL] at h
  split at h
  case h_2 => cases h
  rename_i x l1 h1
  split at h
  case h_2 => cases h
  rename_i y l2 h2
  cases h
  exact ⟨x, l1, y, l2, h1, h2, rfl, rfl⟩

theorem snapP_ok (L : Lends E X Y hs) : ∀ {ps qs : List AV} {l : List Nat} {cs : List Value} {fp : List Nat}, PRs X ps cs fp → (∀ g ∈ fp, Y.S (some 0) g) → snap.snapL snap.snapP ps = some (qs, l) → PRs Y qs cs [] ∧ ∀ a ∈ qs, a.norw = true
  | _, qs, l, _, _, .nil, _, h => by
    simp only [snap.snapL, Option.some.injEq, Prod.mk.injEq] at h
    rw [← h.1]
    exact ⟨.nil, by simp⟩
  | _, qs, l, _, _, @PRs.one _ a v r cs fp h1 h2 h3 h4, hf, h => by
    obtain ⟨x, l1, y, l2, e1, e2, rfl, rfl⟩ := snapL_cons h
    obtain ⟨k1, k2⟩ := snapP_ok L h4 hf e2
    have key : VRel Y x v ∧ x.plain = true := by
      cases h3 <;> simp only [snap.snapP] at e1 <;> first
        | (cases e1; done)
        | (cases e1; exact ⟨.bool _, rfl⟩)
        | (cases e1; exact ⟨.int _ _, rfl⟩)
        | (cases e1; exact ⟨.str _, rfl⟩)
        | (simp [AV.plain] at h1)
    refine ⟨.one key.2 h2 key.1 k1, ?_⟩
    intro z hz
    rcases List.mem_cons.1 hz with rfl | hz
    · have := key.2
      cases z <;> first | rfl | simp [AV.plain] at this
    · exact k2 z hz
  | _, qs, l, _, _, .arr h1 h2 h3, hf, h => by
    obtain ⟨x, l1, y, l2, e1, e2, rfl, rfl⟩ := snapL_cons h
    obtain ⟨k1, k2⟩ := snapP_ok L h3 (fun g hg => hf g (by simp [hg])) e2
    simp only [snap.snapP] at e1
    rename_i K _ _ _ _ _ _
    cases hn : K.nest <;> rw [hn] at e1 <;> simp only [cond_true, cond_false] at e1
    · cases e1
      have := RowR_nest hn h2
      subst this
      refine ⟨.arr h1 (L.w ▸ h2) k1, ?_⟩
      intro z hz
      rcases List.mem_cons.1 hz with rfl | hz
      · rfl
      · exact k2 z hz
    · cases e1
  | _, qs, l, _, _, @PRs.nl _ K ll v r cs f1 fp h1 h3, hf, h => by
    obtain ⟨x, l1, y, l2, e1, e2, rfl, rfl⟩ := snapL_cons h
    obtain ⟨k1, k2⟩ := snapP_ok L h3 (fun g hg => hf g (by simp [hg])) e2
    simp only [snap.snapP, Option.some.injEq, Prod.mk.injEq] at e1
    obtain ⟨rfl, rfl⟩ := e1
    obtain ⟨A, c, rfl, hA⟩ := h1
    refine ⟨.one rfl rfl (L.ro rfl ⟨A, c, rfl, hA⟩ fun g hg => hf g (by simp [hg])) k1, ?_⟩
    intro z hz
    rcases List.mem_cons.1 hz with rfl | hz
    · rfl
    · exact k2 z hz
  | _, qs, l, _, _, .rw h2 h3, hf, h => by
    obtain ⟨x, l1, y, l2, e1, e2, rfl, rfl⟩ := snapL_cons h
    simp [snap.snapP] at e1

theorem snap_plain {s : St} {n : Nat} {a a' : AV} {r : List Nat} (h : snap s hs n a = some (a', r)) (ha : a.plain = true) : a'.plain = true := by
  cases n with
  | zero => simp [snap] at h
  | succ n =>
    unfold snap at h
    cases a <;> simp only at h <;> (try (simp [AV.plain] at ha; done)) <;> (repeat' split at h) <;>
      first
        | contradiction
        | (cases h; done)
        | (cases h; rfl)
        | (obtain ⟨_, h⟩ := chk_some h; (repeat' split at h) <;> first | (cases h; done) | (cases h; rfl))

end Go.Ev

/- What is lent: each value. -/
namespace Go.Ev

variable {E : Env} {X Y : Cx} {hs : List Nat}

theorem snapL_ok (L : Lends E X Y hs) {n : Nat} (ih : ∀ a v a' r, VRel X a v → snap X.s hs n a = some (a', r) → VRel Y a' v) :
    ∀ {ps qs : List AV} {l : List Nat} {cs : List Value} {fp : List Nat}, PRs X ps cs fp → (fp = [] ∨ snap.hasRow ps = false) → snap.snapL (snap X.s hs n) ps = some (qs, l) → PRs Y qs cs [] ∧ ∀ a ∈ qs, a.norw = true
  | _, qs, l, _, _, .nil, _, h => by
    simp only [snap.snapL, Option.some.injEq, Prod.mk.injEq] at h
    rw [← h.1]
    exact ⟨.nil, by simp⟩
  | _, qs, l, _, _, @PRs.one _ a v r cs fp h1 h2 h3 h4, hf, h => by
    obtain ⟨x, l1, y, l2, e1, e2, rfl, rfl⟩ := snapL_cons h
    obtain ⟨k1, k2⟩ := snapL_ok L ih h4 (hf.imp id fun hr => by cases a <;> first | exact hr | simp [AV.plain] at h1) e2
    have hp := snap_plain e1 h1
    refine ⟨.one hp h2 (ih _ _ _ _ h3 e1) k1, ?_⟩
    intro z hz
    rcases List.mem_cons.1 hz with rfl | hz
    · cases z <;> first | rfl | simp [AV.plain] at hp
    · exact k2 z hz
  | _, qs, l, _, _, @PRs.arr _ m K ll r c1 cs f1 fp h1 h2 h3, hf, h => by
    obtain ⟨x, l1, y, l2, e1, e2, rfl, rfl⟩ := snapL_cons h
    have hf1 : f1 = [] := by
      rcases hf with hf | hf
      · exact (List.append_eq_nil_iff.1 hf).1
      · simp only [snap.hasRow, Bool.or_eq_false_iff] at hf
        exact RowR_nest hf.1 h2
    obtain ⟨k1, k2⟩ := snapL_ok L ih h3 (hf.imp (fun hf => (List.append_eq_nil_iff.1 hf).2) fun hr => by simp only [snap.hasRow, Bool.or_eq_false_iff] at hr; exact hr.2) e2
    subst hf1
    cases n with
    | zero => simp [snap] at e1
    | succ n =>
      simp only [snap, Option.some.injEq, Prod.mk.injEq] at e1
      obtain ⟨rfl, rfl⟩ := e1
      refine ⟨.arr h1 (L.w ▸ h2) k1, ?_⟩
      intro z hz
      rcases List.mem_cons.1 hz with rfl | hz
      · rfl
      · exact k2 z hz
  | _, qs, l, _, _, .nl h1 h3, hf, h => by
    obtain ⟨x, l1, y, l2, e1, e2, rfl, rfl⟩ := snapL_cons h
    cases n <;> simp [snap] at e1
  | _, qs, l, _, _, .rw h2 h3, hf, h => by
    obtain ⟨x, l1, y, l2, e1, e2, rfl, rfl⟩ := snapL_cons h
    cases n <;> simp [snap] at e1

theorem snap_ok (L : Lends E X Y hs) (hz : ∀ g, X.S none g → Y.S none g) : ∀ {n : Nat} {a a' : AV} {v : Value} {r : List Nat}, VRel X a v → snap X.s hs n a = some (a', r) → VRel Y a' v
  | 0, _, _, _, _, _, h => by simp [snap] at h
  | n + 1, a, a', v, r, hv, h => by
    have ih : ∀ a v a' r, VRel X a v → snap X.s hs n a = some (a', r) → VRel Y a' v := fun a v a' r hv h => snap_ok L hz hv h
    cases hv with
    | un => simp only [snap, Option.some.injEq, Prod.mk.injEq] at h; rw [← h.1]; exact .un _
    | bool => simp only [snap, Option.some.injEq, Prod.mk.injEq] at h; rw [← h.1]; exact .bool _
    | int => simp only [snap, Option.some.injEq, Prod.mk.injEq] at h; rw [← h.1]; exact .int _ _
    | str => simp only [snap, Option.some.injEq, Prod.mk.injEq] at h; rw [← h.1]; exact .str _
    | nils => simp only [snap, Option.some.injEq, Prod.mk.injEq] at h; rw [← h.1]; exact .nils
    | nilp => simp only [snap, Option.some.injEq, Prod.mk.injEq] at h; rw [← h.1]; exact .nilp
    | nilf => simp only [snap, Option.some.injEq, Prod.mk.injEq] at h; rw [← h.1]; exact .nilf
    | nili => simp only [snap, Option.some.injEq, Prod.mk.injEq] at h; rw [← h.1]; exact .nili
    | nilm => simp only [snap, Option.some.injEq, Prod.mk.injEq] at h; rw [← h.1]; exact .nilm
    | arr hl hr => simp only [snap, Option.some.injEq, Prod.mk.injEq] at h; rw [← h.1]; exact .arr hl (L.w ▸ hr)
    | nz K =>
      simp only [snap, Option.some.injEq, Prod.mk.injEq] at h
      rw [← h.1]
      exact .ro (Nat.le_refl _) (.inl rfl) trivial fun _ => ⟨none, 0, rfl, Nat.le_refl _, .inl rfl⟩
    | sl hc =>
      simp only [snap] at h
      split at h
      case h_2 => cases h
      rename_i K l hrow
      obtain ⟨h1, h2⟩ := chk_some h
      simp only [Option.some.injEq, Prod.mk.injEq] at h2
      rw [← h2.1]
      obtain ⟨ro, ver, K', l', hl, e⟩ := rowOf_some hrow
      cases e
      obtain ⟨A, cc, fp, u1, u2, u3, u4⟩ := rel_row L.rel hl
      rw [u1] at hc
      cases hc
      exact L.ro rfl u2 fun g hg => L.own (by simpa using h1) hl u1 hg
    | ss0 hc ho =>
      simp only [snap] at h
      split at h
      case h_2 => cases h
      rename_i K l hrow
      obtain ⟨h1, h2⟩ := chk_some h
      simp only [Option.some.injEq, Prod.mk.injEq] at h2
      rw [← h2.1]
      have e0 : ∀ l : List K.den, l.take 0 = [] := fun l => rfl
      rw [e0]
      exact .ro (l := []) (Nat.le_refl _) (.inl rfl) trivial fun _ => ⟨_, 0, rfl, Nat.le_refl _, .inl rfl⟩
    | ss hc v1 v2 v3 =>
      rename_i b o m g og n c c' sz fp
      simp only [snap] at h
      split at h
      case h_2 => cases h
      rename_i K l hrow
      obtain ⟨h1, h2⟩ := chk_some h
      simp only [Option.some.injEq, Prod.mk.injEq] at h2
      rw [← h2.1]
      obtain ⟨ro, ver, K', l', hl, e⟩ := rowOf_some hrow
      cases e
      obtain ⟨A, cc, fp', u1, u2, u3, u4⟩ := rel_row L.rel hl
      rw [u1] at hc
      cases hc
      obtain ⟨f', q1, q2⟩ := OwnS_part rfl u2 v1 v2 v3
      have hlen : ((l.drop o).take m).length = m := by simp; omega
      exact L.ro hlen.symm q1 fun g hg => L.own (by simpa using h1) hl u1 (q2.subset hg)
    | @ro q K l A c h1 h2 hk hr =>
      simp only [snap] at h
      obtain ⟨h3, h4⟩ := chk_some h
      simp only [Option.some.injEq, Prod.mk.injEq] at h4
      rw [← h4.1]
      obtain ⟨k1, k2⟩ := L.live h3
      exact .ro h1 h2 trivial fun _ => RoS_imp (hr k1) (fun g hg => ⟨k2 g hg, by rw [L.w]⟩) fun cs hc => RoRow_w L.w k2 hc
    | @vw b v0 i f K l A c h1 h2 hk hr =>
      simp only [snap] at h
      obtain ⟨h3, h4⟩ := chk_some h
      simp only [Option.some.injEq, Prod.mk.injEq] at h4
      rw [← h4.1]
      obtain ⟨k1, k2⟩ := L.live h3
      obtain ⟨cb, f', c1, c2, c3⟩ := At_own L.rel (hr k1)
      exact L.ro rfl c2 fun g hg => k2 g ⟨cb, c1, c3 g hg⟩
    | pn => simp [snap] at h
    | fn => simp [snap] at h
    | mp => simp [snap] at h
    | tup => simp [snap] at h
    | @po q K l p g og h1 h2 hk hr =>
      simp only [snap] at h
      obtain ⟨h3, h4⟩ := chk_some h
      simp only [Option.some.injEq, Prod.mk.injEq] at h4
      rw [← h4.1]
      obtain ⟨k1, k2⟩ := L.live h3
      obtain ⟨cur, t, fr, q1, q2, q3, q4⟩ := hr k1
      exact .po h1 h2 trivial fun _ => ⟨cur, t, fr, k2 _ q1, by rw [L.w]; exact q2, q3, RoRow_w L.w k2 q4⟩
    | @pr q ps o p g og cur t fr nn h1 h2 h3 h4 h5 h6 h7 =>
      simp only [snap] at h
      have hval : valid X.s q = true := by cases q with
        | frz => rfl
        | reg => rfl
        | ver b v => exact (h6 b v rfl).elim
      have hS := L.sof (p := q) hval (fun b v e => (h6 b v e).elim)
      have go : (match snap.snapL (snap X.s hs n) ps with | some (qs, r) => some (AV.pr (.reg 0) qs o p, r) | none => none) = some (a', r) → VRel Y a' (.pointer (some ⟨g, og + (o + poff p), none⟩)) := by
        intro h
        split at h
        case h_2 => cases h
        rename_i qs r' hq
        simp only [Option.some.injEq, Prod.mk.injEq] at h
        rw [← h.1]
        obtain ⟨q1, q2⟩ := snapL_ok L ih h4 (.inl rfl) hq
        exact .pr (hS _ h1) (by rw [L.w]; exact h2) h3 q1 q2 (by simp) h7
      cases q with
      | frz => exact go h
      | reg => exact go h
      | ver b v => exact (h6 b v rfl).elim
    | agg hp hn =>
      simp only [snap] at h
      split at h
      case h_2 => cases h
      rename_i qs r' hq
      simp only [Option.some.injEq, Prod.mk.injEq] at h
      rw [← h.1]
      obtain ⟨q1, q2⟩ := snapL_ok L ih hp (.inl rfl) hq
      exact .agg q1 q2
    | ifc hv =>
      simp only [snap] at h
      split at h
      case h_2 => cases h
      rename_i x r' hx
      simp only [Option.some.injEq, Prod.mk.injEq] at h
      rw [← h.1]
      exact .ifc (ih _ _ _ _ hv hx)
    | @pb b o p cb g og hc hb hp hn =>
      rcases p with _ | ⟨⟨sz, N, i, f⟩, _ | ⟨y, p⟩⟩
      · simp only [snap] at h
        split at h
        case h_2 => cases h
        rename_i ro ver ps hl
        obtain ⟨h3, h4⟩ := chk_some h
        split at h4
        case h_2 => cases h4
        rename_i qs r' hq
        simp only [Option.some.injEq, Prod.mk.injEq] at h4
        rw [← h4.1]
        simp only [Bool.not_eq_true', Bool.or_eq_false_iff] at h3
        obtain ⟨cb', u1, u2, u3, u4⟩ := L.rel.blk b _ hl
        rw [hc] at u1
        cases u1
        cases u2 with
        | @box g' fps _ _ _ cur k1 k2 k3 =>
          simp only [CB.base, Option.some.injEq, Prod.mk.injEq] at hb
          obtain ⟨rfl, rfl⟩ := hb
          obtain ⟨q1, q2⟩ := snapL_ok L ih k3 (.inr h3.2) hq
          obtain ⟨t, fr, hg, _⟩ := k2
          have := VRel.pr (X := Y) (q := .reg 0) (ps := qs) (o := o) (p := []) (g := g') (og := 0) (cur := cur.toArray) (t := t) (fr := fr) (n := cur.length) (L.own h3.1 hl hc (by simp [CB.fp])) (by rw [L.w]; exact hg) (by simp)
            (by simpa [seg] using q1) q2 (by simp) (by simp [PIn])
          simpa using this
        | row k1 k2 k3 => simp [CB.rowN] at hn
      · simp only [snap] at h
        split at h
        case h_2 => cases h
        rename_i K l hrow
        obtain ⟨h3, h4⟩ := chk_some h
        split at h4
        case h_2 => cases h4
        rename_i qs r' hq
        simp only [Option.some.injEq, Prod.mk.injEq] at h4
        rw [← h4.1]
        simp only [Bool.and_eq_true, Bool.not_eq_true'] at h3
        obtain ⟨h3, h5, h6⟩ := h3
        have e1 := Nat.eq_of_beq_eq_true h5
        have e2 := Nat.eq_of_beq_eq_true h6
        subst e1 e2
        obtain ⟨ro, ver, K', l', hl, e⟩ := rowOf_some hrow
        cases e
        obtain ⟨A, cc, fp, u1, u2, u3, u4⟩ := rel_row L.rel hl
        rw [hc] at u1
        cases u1
        simp only [CB.base] at hb
        have hA : A = some ⟨g, og, none⟩ := by
          cases A with
          | none => simp [baseA] at hb
          | some a =>
            obtain ⟨g', o', sp⟩ := a
            cases sp <;> simp [baseA] at hb
            obtain ⟨rfl, rfl⟩ := hb
            rfl
        subst hA
        simp only [CB.rowN, List.reverse_cons, List.reverse_nil, List.nil_append, PIn, Option.getD_some, and_true] at hp
        obtain ⟨A', c', e, u2⟩ := u2
        cases e
        rcases u2 with ⟨z1, _⟩ | ⟨g', o', cur, fps, q1, q2, q3, q4, q5, q6⟩
        · omega
        cases q1
        obtain ⟨c1, c2, c3, f1, f2, f3, e1, e2, e3, e4, _⟩ := RowR_at (fun x c f hx => Rep_len hx) i hp q6
        have hget : K.get l i = l[i] := by simp [Ki.get, List.getD_eq_getElem?_getD, hp]
        rw [hget] at hq
        obtain ⟨w1, w2⟩ := snapP_ok L (toParts_ok e4) (fun x hx => L.own h3 hl hc (by simp [CB.fp, q5, e2, hx])) hq
        obtain ⟨t, fr, hg, _⟩ := q2
        have hlc := congrArg List.length e1
        have hc2 := Rep_len e4
        have hm1 : i * K.size + K.size ≤ l.length * K.size := by rw [← Nat.succ_mul]; exact Nat.mul_le_mul_right _ hp
        have hm2 := Nat.mul_le_mul_right K.size q3
        have hsg : seg cur (og + i * K.size) K.size = c2 := by
          have : seg cur (og + i * K.size) K.size = ((seg cur og (l.length * K.size)).drop (i * K.size)).take K.size := by
            simp only [seg, List.drop_take, List.drop_drop, List.take_take]
            congr 1
            omega
          rw [this, e1, List.append_assoc, List.drop_left' e3, List.take_left' hc2]
        have := VRel.pr (X := Y) (q := .reg 0) (ps := qs) (o := f) (p := []) (g := g) (og := og + i * K.size) (cur := cur.toArray) (t := t) (fr := fr) (n := K.size) (L.own h3 hl hc (by simp [CB.fp, q5])) (by rw [L.w]; exact hg) (by simp; omega)
          (by simpa [hsg] using w1) w2 (by simp) (by simp [PIn])
        simpa [poff, Nat.add_assoc] using this
      · simp [snap] at h

theorem liveP_loc {s s' : St} {p : Prov} (h : ∀ b ∈ atP p, look b s'.st = look b s.st) : liveP s' hs p = liveP s hs p := by
  cases p with
  | frz => rfl
  | reg => rfl
  | ver b v => simp only [liveP]; rw [valid_loc (s := s) (fun b' hb' => h b' (by simpa [provId, atP] using hb'))]

theorem snapL_loc {f g : AV → Option (AV × List Nat)} {Q : List Nat → Prop} (hQ : ∀ l l', Q (l ++ l') → Q l ∧ Q l') (ih : ∀ a x r, f a = some (x, r) → Q r → g a = some (x, r)) : ∀ {ps qs : List AV} {l : List Nat}, snap.snapL f ps = some (qs, l) → Q l → snap.snapL g ps = some (qs, l)
  | [], qs, l, h, _ => h
  | p :: ps, qs, l, h, hl => by
    obtain ⟨x, l1, y, l2, e1, e2, rfl, rfl⟩ := snapL_cons h
    obtain ⟨k1, k2⟩ := hQ _ _ hl
    simp only [snap.snapL, ih _ _ _ e1 k1, snapL_loc hQ ih e2 k2]

theorem snap_loc {s s' : St} : ∀ {n : Nat} {a a' : AV} {r : List Nat}, snap s hs n a = some (a', r) → (∀ b ∈ r, look b s'.st = look b s.st) → snap s' hs n a = some (a', r)
  | 0, _, _, _, h, _ => by simp [snap] at h
  | n + 1, a, a', r, h, hr => by
    have hL : ∀ {ps qs : List AV} {l : List Nat}, snap.snapL (snap s hs n) ps = some (qs, l) → (∀ b ∈ l, look b s'.st = look b s.st) → snap.snapL (snap s' hs n) ps = some (qs, l) :=
      fun h hl => snapL_loc (Q := fun l => ∀ b ∈ l, look b s'.st = look b s.st) (fun l l' h => ⟨fun b hb => h b (by simp [hb]), fun b hb => h b (by simp [hb])⟩) (fun a x r h hr => snap_loc h hr) h hl
    cases a <;> (try (simp only [snap] at h ⊢; exact h))
    · simp only [snap] at h ⊢
      split at h
      case h_2 => cases h
      rename_i hrow
      obtain ⟨h1, h2⟩ := chk_some h
      simp only [Option.some.injEq, Prod.mk.injEq] at h2
      rw [rowOf_loc (hr _ (by rw [← h2.2]; simp)), hrow]
      exact h
    · simp only [snap] at h ⊢
      split at h
      case h_2 => cases h
      rename_i hrow
      obtain ⟨h1, h2⟩ := chk_some h
      simp only [Option.some.injEq, Prod.mk.injEq] at h2
      rw [rowOf_loc (hr _ (by rw [← h2.2]; simp)), hrow]
      exact h
    · simp only [snap] at h ⊢
      have h' := h
      obtain ⟨h1, h2⟩ := chk_some h'
      simp only [Option.some.injEq, Prod.mk.injEq] at h2
      rw [liveP_loc (s := s) (fun b hb => hr b (by rw [← h2.2]; exact hb))]
      exact h
    · simp only [snap] at h ⊢
      have h' := h
      obtain ⟨h1, h2⟩ := chk_some h'
      simp only [Option.some.injEq, Prod.mk.injEq] at h2
      rw [liveP_loc (s := s) (fun b hb => hr b (by rw [← h2.2]; exact hb))]
      exact h
    · rename_i b o p
      rcases p with _ | ⟨⟨sz, N, i, f⟩, _ | ⟨y, p⟩⟩
      · simp only [snap] at h ⊢
        split at h
        case h_2 => cases h
        rename_i ro ver ps hl
        obtain ⟨h1, h2⟩ := chk_some h
        split at h2
        case h_2 => cases h2
        rename_i qs r' hq
        simp only [Option.some.injEq, Prod.mk.injEq] at h2
        obtain ⟨rfl, rfl⟩ := h2
        rw [hr b (by simp), hl]
        simp only [h1, chk_true, hL hq (fun b' hb' => hr b' (by simp [hb']))]
      · simp only [snap] at h ⊢
        split at h
        case h_2 => cases h
        rename_i hrow
        have h' := h
        obtain ⟨h1, h2⟩ := chk_some h'
        split at h2
        case h_2 => cases h2
        simp only [Option.some.injEq, Prod.mk.injEq] at h2
        rw [rowOf_loc (hr _ (by rw [← h2.2]; simp)), hrow]
        exact h
      · simp [snap] at h
    · simp only [snap] at h ⊢
      have h' := h
      obtain ⟨h1, h2⟩ := chk_some h'
      simp only [Option.some.injEq, Prod.mk.injEq] at h2
      rw [liveP_loc (s := s) (fun b hb => hr b (by rw [← h2.2]; exact hb))]
      exact h
    · rename_i q ps o p
      cases q <;> simp only [snap] at h ⊢
      all_goals first
        | (split at h
           case h_2 => cases h
           rename_i qs r' hq
           simp only [Option.some.injEq, Prod.mk.injEq] at h
           obtain ⟨rfl, rfl⟩ := h
           rw [hL hq hr])
        | exact h
    · simp only [snap] at h ⊢
      split at h
      case h_2 => cases h
      rename_i qs r' hq
      simp only [Option.some.injEq, Prod.mk.injEq] at h
      obtain ⟨rfl, rfl⟩ := h
      rw [hL hq hr]
    · simp only [snap] at h ⊢
      split at h
      case h_2 => cases h
      rename_i x r' hx
      simp only [Option.some.injEq, Prod.mk.injEq] at h
      obtain ⟨rfl, rfl⟩ := h
      rw [snap_loc hx hr]

end Go.Ev

/- Calls: numberings. -/
namespace Go.Ev

section
variable {α : Type}

theorem look_append (i : Nat) : ∀ (a b : List (Nat × α)), look i (a ++ b) = match look i a with | some x => some x | none => look i b
  | [], _ => rfl
  | (j, x) :: r, b => by
    simp only [List.cons_append, look]
    cases Nat.beq j i
    · simp only [cond_false]; exact look_append i r b
    · rfl

theorem look_enum : ∀ (l : List α) (n i : Nat), look i (enum n l) = if n ≤ i then l[i - n]? else none
  | [], n, i => by simp [enum, look]
  | x :: r, n, i => by
    simp only [enum, look]
    cases h : Nat.beq n i
    · have hne := beq_false.1 h
      simp only [cond_false]
      rw [look_enum r (n + 1) i]
      by_cases h1 : n + 1 ≤ i
      · rw [if_pos h1, if_pos (by omega)]
        have : i - n = (i - (n + 1)) + 1 := by omega
        rw [this, List.getElem?_cons_succ]
      · rw [if_neg h1, if_neg (by omega)]
    · have := beq_true.1 h
      subst this
      simp

theorem uniq_enum : ∀ (l : List α) (n : Nat), uniq (enum n l)
  | [], _ => trivial
  | x :: r, n => ⟨by rw [look_enum, if_neg (by omega)], uniq_enum r (n + 1)⟩

end

theorem look_number : ∀ {ids : List Nat} {n b i : Nat}, look b (number n ids) = some i → n ≤ i ∧ ids[i - n]? = some b
  | [], n, b, i, h => by simp [number, look] at h
  | c :: r, n, b, i, h => by
    simp only [number, look] at h
    cases hb : Nat.beq c b <;> rw [hb] at h
    · obtain ⟨h1, h2⟩ := look_number (n := n + 1) h
      refine ⟨by omega, ?_⟩
      have : i - n = (i - (n + 1)) + 1 := by omega
      rw [this, List.getElem?_cons_succ]; exact h2
    · simp only [cond_true, Option.some.injEq] at h
      subst h
      simp [beq_true.1 hb]

theorem number_look : ∀ {ids : List Nat} {n b j : Nat}, ids.Nodup → ids[j]? = some b → look b (number n ids) = some (n + j)
  | [], n, b, j, _, h => by simp at h
  | c :: r, n, b, 0, _, h => by
    simp only [List.getElem?_cons_zero, Option.some.injEq] at h
    subst h
    simp [number, look]
  | c :: r, n, b, j + 1, hnd, h => by
    simp only [List.getElem?_cons_succ] at h
    obtain ⟨h1, h2⟩ := List.nodup_cons.1 hnd
    have hne : c ≠ b := fun e => h1 (e ▸ List.mem_of_getElem? h)
    simp only [number, look, beq_false.2 hne, cond_false]
    rw [number_look (n := n + 1) h2 h]
    congr 1
    omega

theorem look_flip : ∀ (ids : List Nat) (n i : Nat), look i (flip (number n ids)) = if n ≤ i then ids[i - n]? else none
  | [], n, i => by simp [number, flip, look]
  | c :: r, n, i => by
    simp only [number, flip, look]
    cases h : Nat.beq n i
    · have hne := beq_false.1 h
      simp only [cond_false]
      rw [look_flip r (n + 1) i]
      by_cases h1 : n + 1 ≤ i
      · rw [if_pos h1, if_pos (by omega)]
        have : i - n = (i - (n + 1)) + 1 := by omega
        rw [this, List.getElem?_cons_succ]
      · rw [if_neg h1, if_neg (by omega)]
    · have := beq_true.1 h
      subst this
      simp

theorem look_newNums (m nb i : Nat) : ∀ n, look i (newNums m nb n) = if m ≤ i ∧ i < m + n then some (nb + (i - m)) else none
  | 0 => by simp [newNums, look]
  | n + 1 => by
    simp only [newNums]
    rw [look_append, look_newNums m nb i n]
    by_cases h : m ≤ i ∧ i < m + n
    · rw [if_pos h, if_pos ⟨h.1, by omega⟩]
    · rw [if_neg h]
      simp only [look]
      cases h2 : Nat.beq (m + n) i
      · have := beq_false.1 h2
        simp only [cond_false]
        rw [if_neg (by omega)]
      · have := beq_true.1 h2
        subst this
        simp only [cond_true]
        rw [if_pos ⟨by omega, by omega⟩]
        congr 1
        omega

/-- Both together. -/
theorem look_back (ids : List Nat) (nb n i : Nat) : look i (flip (number 0 ids) ++ newNums ids.length nb n) = if i < ids.length then ids[i]? else if i < ids.length + n then some (nb + (i - ids.length)) else none := by
  rw [look_append, look_flip, if_pos (Nat.zero_le _), Nat.sub_zero, look_newNums]
  by_cases h : i < ids.length
  · rw [if_pos h]
    simp [h]
  · rw [if_neg h]
    have : ids[i]? = none := by simp; omega
    rw [this]
    simp only
    by_cases h2 : i < ids.length + n
    · rw [if_pos h2, if_pos ⟨by omega, h2⟩]
    · rw [if_neg h2, if_neg (by omega)]

theorem blksOf_some {ok : Nat → Nat → Bool} {sh : Nat} {m : List (Nat × Nat)} {st : List (Nat × Blk)} : ∀ {ids : List Nat} {bs : List Blk}, blksOf ok sh m st ids = some bs →
    bs.length = ids.length ∧ ∀ (j : Nat) (b : Nat), ids[j]? = some b → ∃ x y, look b st = some x ∧ bs[j]? = some y ∧ renB ok sh m x = some y
  | [], bs, h => by
    simp only [blksOf, Option.some.injEq] at h
    subst h
    exact ⟨rfl, by simp⟩
  | c :: r, bs, h => by
    simp only [blksOf] at h
    split at h
    case h_2 => cases h
    rename_i x hx
    split at h
    case h_2 => cases h
    rename_i y hy
    split at h
    case h_2 => cases h
    rename_i z hz
    simp only [Option.some.injEq] at h
    subst h
    obtain ⟨h1, h2⟩ := blksOf_some hz
    refine ⟨by simp [h1], ?_⟩
    intro j b hj
    cases j with
    | zero =>
      simp only [List.getElem?_cons_zero, Option.some.injEq] at hj
      subst hj
      exact ⟨x, y, hx, rfl, hy⟩
    | succ j => simpa using h2 j b (by simpa using hj)

theorem blksOf_loc {ok : Nat → Nat → Bool} {sh : Nat} {m : List (Nat × Nat)} {st st' : List (Nat × Blk)} : ∀ {ids : List Nat}, (∀ b ∈ ids, look b st' = look b st) → blksOf ok sh m st' ids = blksOf ok sh m st ids
  | [], _ => rfl
  | c :: r, h => by simp only [blksOf, h c (by simp), blksOf_loc (ids := r) fun b hb => h b (by simp [hb])]

theorem effU_append (b : Nat) : ∀ (u u' : Upd), effU (u ++ u') b = match effU u' b with | some y => some y | none => effU u b
  | [], u' => by simp only [List.nil_append, effU]; cases effU u' b <;> rfl
  | (c, x) :: r, u' => by
    simp only [List.cons_append, effU]
    rw [effU_append b r u']
    cases effU u' b <;> rfl

/-- What became of a handed-over block. -/
def Back (s : St) (m' : List (Nat × Nat)) (b : Nat) (fo : Option Blk) (z : Option Blk) : Prop :=
  (fo = none ∧ z = none) ∨ ∃ x y, fo = some x ∧ renB noView 2 m' x = some y ∧ z = some (withVer (verOf s b + 1) y)

theorem effU_none {u : Upd} {b : Nat} (h : b ∉ upIds u) : effU u b = none := by
  cases e : effU u b with
  | none => rfl
  | some y => exact (h (effU_ids u b (by rw [e]; simp))).elim

theorem backUpd_eff {s : St} {m' : List (Nat × Nat)} : ∀ {ids : List Nat} {n : Nat} {fin : List (Option Blk)} {u : Upd}, backUpd s m' (number n ids) fin = some u → ids.Nodup →
    upIds u = ids ∧ fin.length = ids.length ∧ ∀ (j : Nat) b, ids[j]? = some b → ∃ fo z, fin[j]? = some fo ∧ effU u b = some z ∧ Back s m' b fo z
  | [], n, [], u, h, _ => by
    simp only [number, backUpd, Option.some.injEq] at h
    subst h
    exact ⟨rfl, rfl, by simp⟩
  | [], n, _ :: _, u, h, _ => by simp [number, backUpd] at h
  | c :: r, n, [], u, h, _ => by simp [number, backUpd] at h
  | c :: r, n, none :: q, u, h, hnd => by
    simp only [number, backUpd] at h
    split at h
    case h_2 => cases h
    rename_i u1 hu
    simp only [Option.some.injEq] at h
    subst h
    obtain ⟨hc, hnd'⟩ := List.nodup_cons.1 hnd
    obtain ⟨h1, h2, h3⟩ := backUpd_eff hu hnd'
    have h1' : List.map (fun x => x.fst) u1 = r := h1
    refine ⟨by simp [upIds, h1'], by simp [h2], ?_⟩
    intro j b hj
    cases j with
    | zero =>
      simp only [List.getElem?_cons_zero, Option.some.injEq] at hj
      subst hj
      refine ⟨none, none, rfl, ?_, .inl ⟨rfl, rfl⟩⟩
      simp only [effU, effU_none (u := u1) (by rw [h1]; exact hc)]
      simp
    | succ j =>
      simp only [List.getElem?_cons_succ] at hj
      obtain ⟨fo, z, k1, k2, k3⟩ := h3 j b hj
      exact ⟨fo, z, by simpa using k1, by simp only [effU, k2], k3⟩
  | c :: r, n, some x :: q, u, h, hnd => by
    simp only [number, backUpd] at h
    split at h
    case h_2 => cases h
    rename_i y u1 hy hu
    simp only [Option.some.injEq] at h
    subst h
    obtain ⟨hc, hnd'⟩ := List.nodup_cons.1 hnd
    obtain ⟨h1, h2, h3⟩ := backUpd_eff hu hnd'
    have h1' : List.map (fun x => x.fst) u1 = r := h1
    refine ⟨by simp [upIds, h1'], by simp [h2], ?_⟩
    intro j b hj
    cases j with
    | zero =>
      simp only [List.getElem?_cons_zero, Option.some.injEq] at hj
      subst hj
      refine ⟨some x, _, rfl, ?_, .inr ⟨x, y, rfl, hy, rfl⟩⟩
      simp only [effU, effU_none (u := u1) (by rw [h1]; exact hc)]
      simp
    | succ j =>
      simp only [List.getElem?_cons_succ] at hj
      obtain ⟨fo, z, k1, k2, k3⟩ := h3 j b hj
      exact ⟨fo, z, by simpa using k1, by simp only [effU, k2], k3⟩

theorem newUpd_eff {m' : List (Nat × Nat)} : ∀ {new : List Blk} {nb : Nat} {u : Upd}, newUpd m' nb new = some u →
    (∀ b, b ∈ upIds u ↔ nb ≤ b ∧ b < nb + new.length) ∧ ∀ j x, new[j]? = some x → ∃ y, renB noView 2 m' x = some y ∧ effU u (nb + j) = some (some y)
  | [], nb, u, h => by
    simp only [newUpd, Option.some.injEq] at h
    subst h
    exact ⟨fun b => by simp [upIds], by simp⟩
  | x :: r, nb, u, h => by
    simp only [newUpd] at h
    split at h
    case h_2 => cases h
    rename_i y u1 hy hu
    simp only [Option.some.injEq] at h
    subst h
    obtain ⟨h1, h2⟩ := newUpd_eff hu
    refine ⟨fun b => ?_, ?_⟩
    · have := h1 b
      simp only [upIds, List.map_cons, List.mem_cons, List.length_cons] at this ⊢
      rw [this]
      omega
    · intro j z hj
      cases j with
      | zero =>
        simp only [List.getElem?_cons_zero, Option.some.injEq] at hj
        subst hj
        refine ⟨y, hy, ?_⟩
        simp only [effU, Nat.add_zero, effU_none (u := u1) (fun hb => by have := (h1 nb).1 hb; omega)]
        simp
      | succ j =>
        simp only [List.getElem?_cons_succ] at hj
        obtain ⟨y', k1, k2⟩ := h2 j z hj
        refine ⟨y', k1, ?_⟩
        rw [show nb + (j + 1) = nb + 1 + j by omega]
        simp only [effU, k2]

end Go.Ev

/- Calls: what a callee is given, what it leaves, what the caller has then. -/
namespace Go.Ev

variable {R : Type} {E : Env} {X : Cx} {P : Program}

/-- A frame as a callee finds it. -/
structure Enters (args : List AV) (bs : List Blk) (E : Env) (X : Cx) (vals : List Value) : Prop where
  rel : Rel E X
  s : X.s = init args bs
  top : ∀ b, bs.length ≤ b → X.cm b = none
  vals : VRels X args vals

/-- .. and as it leaves it. -/
structure Leaves (n : Nat) (v : AV) (fin : List (Option Blk)) (new : List Blk) (E : Env) (X X' : Cx) (val : Value) : Prop where
  rel : Rel E X'
  S : X'.S = X.S
  cmx : ∀ b cb, b < n → X.cm b = some cb → ∃ cb', X'.cm b = some cb' ∧ cb.same cb'
  st : ∀ b, look b X'.s.st = if b < n then (fin[b]?).join else new[b - n]?
  val : VRel X' v val

/-- So it answers. -/
structure FnOk (P : Program) (f : Nat) (args : List AV) (bs : List Blk) (v : AV) (fin : List (Option Blk)) (new : List Blk) : Prop where
  fn : ∃ fn, P.funcs[f]? = some fn ∧ fn.name ≠ "runtime.NumGoroutine" ∧ fn.body.isSome = true
  go : ∀ E X vals, Enters args bs E X vals → Calls P f vals.toArray X.w fun e w' => ∃ val X', e = .returned val ∧ X'.w = w' ∧ Leaves bs.length v fin new E X X' val

def OrcOk (P : Program) (C : Orc R) : Prop := ∀ f as bs k r, C f as bs k = some r → ∃ v fin new, k v fin new = some r ∧ FnOk P f as bs v fin new

/-- The frame as the callee finds it. -/
def inX (X : Cx) (ids : List Nat) (as : List AV) (bs : List Blk) : Cx where
  cm i := (ids[i]?).bind X.cm
  S q g := match q with
    | none => X.S none g
    | some 0 => g < X.w.heap.size ∧ ¬ Given X ids g
    | some (n + 1) => X.S (some n) g
  s := init as bs
  w := X.w

def inE (X : Cx) (ids : List Nat) : Env := { w := X.w, H := Given X ids }

theorem noView_no {b v : Nat} {p : Prop} (h : noView b v = true) : p := by simp [noView] at h

theorem sim_in {ids : List Nat} {as : List AV} {bs : List Blk} : Sim X (inX X ids as bs) noView 1 (number 0 ids) where
  w := rfl
  cm b b' cb hb hc := by
    obtain ⟨_, h⟩ := look_number hb
    simp only [Nat.sub_zero] at h
    simp only [inX, h, Option.bind_some, hc]
  reg p p' hp hn g hg := by
    cases p with
    | frz => simp [pvR, shiftP] at hp; subst hp; exact hg
    | reg n => simp [pvR, shiftP] at hp; subst hp; exact hg
    | ver b v => exact (hn b v rfl).elim
  okv _ _ h := noView_no h
  row _ _ _ _ _ _ h := noView_no h

theorem lends_in (hR : Rel E X) {ids : List Nat} {as : List AV} {bs : List Blk} : Lends E X (inX X ids as bs) ids := ⟨hR, rfl, fun _ h1 h2 => ⟨h1, h2⟩⟩

theorem callArgs_ok (hR : Rel E X) {ids : List Nat} {as0 : List AV} {bs : List Blk} {ws : List Nat} : ∀ {args as : List AV} {j : Nat} {l : List Nat} {vals : List Value}, VRels X args vals → callArgs X.s ws ids (number 0 ids) j args = some (as, l) → VRels (inX X ids as0 bs) as vals
  | [], as, j, l, vals, hv, h => by
    simp only [callArgs, Option.some.injEq, Prod.mk.injEq] at h
    rw [← h.1]
    cases hv
    exact .nil
  | a :: r, as, j, l, _, .cons h1 h2, h => by
    simp only [callArgs] at h
    split at h
    case h_2 => cases h
    rename_i r' l1 hr
    have ih := callArgs_ok (as0 := as0) (bs := bs) hR h2 hr
    cases hh : handed ws j a <;> rw [hh] at h <;> simp only [cond_true, cond_false] at h
    · split at h
      case h_2 => cases h
      rename_i a' l2 ha
      cases h
      exact .cons (snap_ok (lends_in hR) (fun _ h => h) h1 ha) ih
    · split at h
      case h_2 => cases h
      rename_i a' ha
      cases h
      exact .cons (ren_ok sim_in h1 ha) ih

theorem callArgs_loc {s s' : St} {ws ids : List Nat} {m : List (Nat × Nat)} : ∀ {args as : List AV} {j : Nat} {l : List Nat}, callArgs s ws ids m j args = some (as, l) → (∀ b ∈ l, look b s'.st = look b s.st) → callArgs s' ws ids m j args = some (as, l)
  | [], as, j, l, h, _ => h
  | a :: r, as, j, l, h, hl => by
    simp only [callArgs] at h ⊢
    split at h
    case h_2 => cases h
    rename_i r' l1 hr
    cases hh : handed ws j a <;> rw [hh] at h <;> simp only [cond_true, cond_false] at h
    · split at h
      case h_2 => cases h
      rename_i a' l2 ha
      cases h
      rw [callArgs_loc hr fun b hb => hl b (by simp [hb])]
      simp only [cond_false, snap_loc ha fun b hb => hl b (by simp [hb])]
    · split at h
      case h_2 => cases h
      rename_i a' ha
      cases h
      rw [callArgs_loc hr hl]
      simp only [cond_true, ha]

theorem entry_ok (hR : Rel E X) {ids : List Nat} {as : List AV} {bs : List Blk} {args : List AV} {vals : List Value} (hnd : ids.Nodup) (hb : blksOf noView 1 (number 0 ids) X.s.st ids = some bs) (hv : VRels (inX X ids as bs) as vals) :
    Enters as bs (inE X ids) (inX X ids as bs) vals := by
  obtain ⟨b1, b2⟩ := blksOf_some hb
  have hlook : ∀ i y, look i (inX X ids as bs).s.st = some y → ∃ b x, ids[i]? = some b ∧ look b X.s.st = some x ∧ renB noView 1 (number 0 ids) x = some y := by
    intro i y hi
    simp only [inX, init, look_enum, Nat.zero_le, if_true, Nat.sub_zero] at hi
    have hlt : i < ids.length := by
      have := (List.getElem?_eq_some_iff.1 hi).1
      omega
    have hb' : ids[i]? = some ids[i] := by simp [hlt]
    obtain ⟨x, y', k1, k2, k3⟩ := b2 i _ hb'
    rw [hi] at k2
    cases k2
    exact ⟨_, x, hb', k1, k3⟩
  refine ⟨⟨?_, ?_, ?_, ?_, ?_⟩, rfl, ?_, hv⟩
  · intro i y hi
    obtain ⟨b, x, h1, h2, h3⟩ := hlook i y hi
    obtain ⟨cb, k1, k2, k3, k4⟩ := hR.blk b x h2
    refine ⟨cb, by simp only [inX, h1, Option.bind_some, k1], renB_ok sim_in k2 h3, k3, fun g hg => ⟨(k4 g hg).1, .inl ⟨b, x, cb, List.mem_of_getElem? h1, h2, k1, hg⟩⟩⟩
  · intro i i' y y' cb cb' g hi hi' hc hc' hg hg'
    obtain ⟨b, x, h1, h2, h3⟩ := hlook i y hi
    obtain ⟨b', x', h1', h2', h3'⟩ := hlook i' y' hi'
    simp only [inX, h1, h1', Option.bind_some] at hc hc'
    have := hR.dis b b' x x' cb cb' g h2 h2' hc hc' hg hg'
    subst this
    have e1 := number_look (n := 0) hnd h1
    have e2 := number_look (n := 0) hnd h1'
    rw [e1] at e2
    simpa using e2
  · intro q g hg
    have hno : ∀ n, X.S n g → g < X.w.heap.size ∧ ¬ Given X ids g := by
      intro n hS
      obtain ⟨h1, h2⟩ := hR.out n g hS
      refine ⟨Nat.lt_of_lt_of_le h1 hR.fr.size, ?_⟩
      rintro ⟨b', x', cb', m1, m2, m3, m4⟩
      obtain ⟨cb2, k1, _, _, k4⟩ := hR.blk b' x' m2
      rw [m3] at k1
      cases k1
      rcases (k4 g m4).2 with k | k
      · exact h2 k
      · omega
    match q with
    | none => exact hno _ hg
    | some 0 => exact hg
    | some (n + 1) => exact hno _ hg
  · exact ⟨rfl, rfl, rfl, Nat.le_refl _, fun _ _ _ => rfl⟩
  · simp only [inX, init]; exact uniq_enum _ _
  · intro b hb'
    have : ids[b]? = none := by simp; omega
    simp only [inX, this, Option.bind_none]

/-- The frame as the caller has it behind the call. -/
def outX (X X1 : Cx) (ids : List Nat) (nb n : Nat) (u : Upd) : Cx where
  cm b := match look b (number 0 ids) with
    | some i => X1.cm i
    | none => if nb ≤ b ∧ b < nb + n then X1.cm (ids.length + (b - nb)) else X.cm b
  S := X.S
  s := { X.s with st := applyU u X.s.st }
  w := X1.w

theorem withVer_BRel {X : Cx} {cb : CB} {y : Blk} {k : Nat} (h : BRel X cb y) : BRel X cb (withVer k y) := by
  cases h with
  | box h1 h2 h3 => exact .box h1 h2 h3
  | row h1 h2 h3 => exact .row h1 h2 h3

/-- A call: the facts of it. -/
structure CallFacts (P : Program) (s : St) (f : Nat) (args : List AV) (nb : Nat) (ws ids : List Nat) (as : List AV) (lent : List Nat) (bs : List Blk) (v : AV) (fin : List (Option Blk)) (new : List Blk) (v' : AV) (u u' : Upd) : Prop where
  nd : ids.Nodup
  has : callArgs s ws ids (number 0 ids) 0 args = some (as, lent)
  hbs : blksOf noView 1 (number 0 ids) s.st ids = some bs
  ok : FnOk P f as bs v fin new
  le : new.length ≤ 16
  hv : ren noView 2 (flip (number 0 ids) ++ newNums ids.length nb new.length) 8 v = some v'
  hu : backUpd s (flip (number 0 ids) ++ newNums ids.length nb new.length) (number 0 ids) fin = some u
  hu' : newUpd (flip (number 0 ids) ++ newNums ids.length nb new.length) nb new = some u'

variable {f : Nat} {args : List AV} {nb : Nat} {ws ids : List Nat} {as : List AV} {lent : List Nat} {bs : List Blk} {v : AV} {fin : List (Option Blk)} {new : List Blk} {v' : AV} {u u' : Upd}

theorem CallFacts.good (hF : CallFacts P X.s f args nb ws ids as lent bs v fin new v' u u') (hR : Rel E X) (hN : Fresh X nb) {X1 : Cx} {val : Value} (hL : Leaves bs.length v fin new (inE X ids) (inX X ids as bs) X1 val) :
    Good E X nb v' (u ++ u') val (outX X X1 ids nb new.length (u ++ u')) := by
  have hnd := hF.nd
  have hle := hF.le
  obtain ⟨b1, b2⟩ := blksOf_some hF.hbs
  obtain ⟨p1, p2, p3⟩ := backUpd_eff hF.hu hnd
  obtain ⟨q1, q2⟩ := newUpd_eff hF.hu'
  rw [b1] at hL
  have live : ∀ b ∈ ids, ∃ x cb, look b X.s.st = some x ∧ X.cm b = some cb := by
    intro b hb
    obtain ⟨j, hj⟩ := List.getElem?_of_mem hb
    obtain ⟨x, y, k1, _, _⟩ := b2 j b hj
    obtain ⟨cb, h1, _⟩ := hR.blk b x k1
    exact ⟨x, cb, k1, h1⟩
  have apart : ∀ b ∈ ids, ¬ (nb ≤ b ∧ b < nb + new.length) := by
    intro b hb hn
    obtain ⟨x, cb, _, hc⟩ := live b hb
    rw [hN b hn.1 (by omega)] at hc
    cases hc
  have num : ∀ {j b : Nat}, ids[j]? = some b → look b (number 0 ids) = some j := fun {j b} h => by have := number_look (n := 0) hnd h; rwa [Nat.zero_add] at this
  have nonum : ∀ {b : Nat}, b ∉ ids → look b (number 0 ids) = none := by
    intro b hb
    cases e : look b (number 0 ids) with
    | none => rfl
    | some i => exact (hb (List.mem_of_getElem? (look_number e).2)).elim
  have cmOld : ∀ {j b : Nat}, ids[j]? = some b → (outX X X1 ids nb new.length (u ++ u')).cm b = X1.cm j := by
    intro j b h
    simp only [outX, num h]
  have cmNew : ∀ {j : Nat}, j < new.length → (outX X X1 ids nb new.length (u ++ u')).cm (nb + j) = X1.cm (ids.length + j) := by
    intro j hj
    have hn : nb + j ∉ ids := fun hm => apart _ hm ⟨by omega, by omega⟩
    simp only [outX, nonum hn]
    rw [if_pos ⟨by omega, by omega⟩]
    congr 1
    omega
  have cmKeep : ∀ {b : Nat}, b ∉ ids → ¬ (nb ≤ b ∧ b < nb + new.length) → (outX X X1 ids nb new.length (u ++ u')).cm b = X.cm b := by
    intro b h1 h2
    simp only [outX, nonum h1]
    rw [if_neg h2]
  -- the blocks
  have lk : ∀ b, look b (outX X X1 ids nb new.length (u ++ u')).s.st = match effU (u ++ u') b with | some x => x | none => look b X.s.st := fun b => look_applyU _ _ hR.uq
  have effOld : ∀ {j b : Nat}, ids[j]? = some b → effU (u ++ u') b = effU u b := by
    intro j b h
    rw [effU_append, effU_none (u := u') fun hm => apart b (List.mem_of_getElem? h) ((q1 b).1 hm)]
  have lkOld : ∀ {j b : Nat}, ids[j]? = some b → ∃ fo z, fin[j]? = some fo ∧ look b (outX X X1 ids nb new.length (u ++ u')).s.st = z ∧ Back X.s (flip (number 0 ids) ++ newNums ids.length nb new.length) b fo z := by
    intro j b h
    obtain ⟨fo, z, k1, k2, k3⟩ := p3 j b h
    exact ⟨fo, z, k1, by rw [lk, effOld h, k2], k3⟩
  have lkNew : ∀ {j : Nat} {x : Blk}, new[j]? = some x → ∃ y, renB noView 2 (flip (number 0 ids) ++ newNums ids.length nb new.length) x = some y ∧ look (nb + j) (outX X X1 ids nb new.length (u ++ u')).s.st = some y := by
    intro j x h
    obtain ⟨y, k1, k2⟩ := q2 j x h
    exact ⟨y, k1, by rw [lk, effU_append, k2]⟩
  have lkKeep : ∀ {b : Nat}, b ∉ ids → ¬ (nb ≤ b ∧ b < nb + new.length) → look b (outX X X1 ids nb new.length (u ++ u')).s.st = look b X.s.st := by
    intro b h1 h2
    rw [lk, effU_append, effU_none (u := u') fun hm => h2 ((q1 b).1 hm), effU_none (u := u) (by rw [p1]; exact h1)]
  have sim : Sim X1 (outX X X1 ids nb new.length (u ++ u')) noView 2 (flip (number 0 ids) ++ newNums ids.length nb new.length) := by
    refine ⟨rfl, ?_, ?_, fun _ _ h => noView_no h, fun _ _ _ _ _ _ h => noView_no h⟩
    · intro i b' cb hb hc
      rw [look_back] at hb
      by_cases h : i < ids.length
      · rw [if_pos h] at hb
        rw [cmOld hb]; exact hc
      · rw [if_neg h] at hb
        by_cases h2 : i < ids.length + new.length
        · rw [if_pos h2] at hb
          cases hb
          rw [cmNew (by omega)]
          rw [show ids.length + (i - ids.length) = i by omega]
          exact hc
        · rw [if_neg h2] at hb; cases hb
    · intro p p' hp hn g hg
      cases p with
      | frz =>
        simp [pvR, shiftP] at hp
        subst hp
        have : X1.S none g := hg
        rw [hL.S] at this
        exact this
      | reg n =>
        cases n with
        | zero => simp [pvR, shiftP] at hp
        | succ n =>
          simp [pvR, shiftP] at hp
          subst hp
          have : X1.S (some (n + 1)) g := hg
          rw [hL.S] at this
          exact this
      | ver b v => exact (hn b v rfl).elim
  -- what is a block of the moved ones
  have mvd : ∀ b x', (b ∈ ids ∨ (nb ≤ b ∧ b < nb + new.length)) → look b (outX X X1 ids nb new.length (u ++ u')).s.st = some x' →
      ∃ i x, look i X1.s.st = some x ∧ (outX X X1 ids nb new.length (u ++ u')).cm b = X1.cm i ∧ (∀ cb, BRel X1 cb x → BRel (outX X X1 ids nb new.length (u ++ u')) cb x') ∧ look i (flip (number 0 ids) ++ newNums ids.length nb new.length) = some b := by
    intro b x' hM hl
    rcases hM with hM | hM
    · obtain ⟨j, hj⟩ := List.getElem?_of_mem hM
      have hlt := (List.getElem?_eq_some_iff.1 hj).1
      obtain ⟨fo, z, k1, k2, k3⟩ := lkOld hj
      rw [hl] at k2
      subst k2
      rcases k3 with ⟨_, k3⟩ | ⟨x, y, e1, e2, e3⟩
      · cases k3
      · cases e3
        subst e1
        refine ⟨j, x, ?_, cmOld hj, fun cb hb => withVer_BRel (renB_ok sim hb e2), ?_⟩
        · rw [hL.st, if_pos hlt, k1]; rfl
        · rw [look_back, if_pos hlt]; exact hj
    · obtain ⟨j, rfl⟩ : ∃ j, b = nb + j := ⟨b - nb, by omega⟩
      have hlt : j < new.length := by omega
      obtain ⟨y, k1, k2⟩ := lkNew (j := j) (x := new[j]) (by simp [hlt])
      rw [hl] at k2
      cases k2
      refine ⟨ids.length + j, new[j], ?_, cmNew hlt, fun cb hb => renB_ok sim hb k1, ?_⟩
      · rw [hL.st, if_neg (by omega), show ids.length + j - ids.length = j by omega]
        simp [hlt]
      · rw [look_back, if_neg (by omega), if_pos (by omega)]
        congr 1
        omega
  have mv : Mv X (outX X X1 ids nb new.length (u ++ u')) (fun b => b ∈ ids ∨ (nb ≤ b ∧ b < nb + new.length)) (Given X ids) := by
    have hfr := hL.rel.fr
    refine ⟨rfl, hfr.os, hfr.tape, hfr.output, hfr.size, fun g hg hT => hfr.block g hg hT, ?_, ?_, ?_, ?_, ?_⟩
    · rintro g ⟨b, x, cb, m1, m2, m3, m4⟩
      exact ⟨b, x, cb, .inl m1, m2, m3, m4⟩
    · intro b hM
      exact lkKeep (fun h => hM (.inl h)) (fun h => hM (.inr h))
    · intro b hM
      exact cmKeep (fun h => hM (.inl h)) (fun h => hM (.inr h))
    · intro b cb hM hc
      rcases hM with hM | hM
      · obtain ⟨j, hj⟩ := List.getElem?_of_mem hM
        have hlt := (List.getElem?_eq_some_iff.1 hj).1
        obtain ⟨cb', k1, k2⟩ := hL.cmx j cb hlt (by simp only [inX, hj, Option.bind_some, hc])
        exact ⟨cb', by rw [cmOld hj]; exact k1, k2⟩
      · rw [hN b hM.1 (by omega)] at hc
        cases hc
    · intro b cb ro' ver' ps' hM hc hl
      rcases hM with hM | hM
      · obtain ⟨j, hj⟩ := List.getElem?_of_mem hM
        obtain ⟨fo, z, k1, k2, k3⟩ := lkOld hj
        rw [hl] at k2
        subst k2
        rcases k3 with ⟨_, k3⟩ | ⟨x, y, e1, e2, e3⟩
        · cases k3
        · obtain ⟨x0, cb0, l1, l2⟩ := live b hM
          obtain ⟨cb1, m1, m2, _⟩ := hR.blk b x0 l1
          have hv : ver' = verOf X.s b + 1 := by
            cases y with
            | cell ro ver ps => simp only [withVer, Option.some.injEq, Blk.cell.injEq] at e3; exact e3.2.1
            | map => simp [withVer] at e3
          cases m2 with
          | box =>
            refine ⟨_, _, _, l1, ?_, ?_⟩
            · rw [hv]; simp only [verOf, l1]; omega
            · intro e; rw [hv] at e; simp only [verOf, l1] at e; omega
          | row =>
            refine ⟨_, _, _, l1, ?_, ?_⟩
            · rw [hv]; simp only [verOf, l1]; omega
            · intro e; rw [hv] at e; simp only [verOf, l1] at e; omega
      · rw [hN b hM.1 (by omega)] at hc
        cases hc
  refine ⟨mv.rel hR ?_ ?_ ?_, mv.ext hR, rfl, rfl, ?_, ren_ok sim hL.val hF.hv⟩
  · exact uniq_applyU _ hR.uq
  · intro b x' hM hl
    obtain ⟨i, x, k1, k2, k3, _⟩ := mvd b x' hM hl
    obtain ⟨cb, h1, h2, h3, h4⟩ := hL.rel.blk i x k1
    refine ⟨cb, by rw [k2]; exact h1, k3 cb h2, h3, fun g hg => ⟨(h4 g hg).1, ?_⟩⟩
    rcases (h4 g hg).2 with h5 | h5
    · obtain ⟨b', x'', cb', m1, m2, m3, m4⟩ := h5
      exact .inr ⟨b', x'', cb', .inl m1, m2, m3, m4⟩
    · exact .inl h5
  · intro b b' x x' cb cb' g hM hM' hl hl' hc hc' hg hg'
    obtain ⟨i, y, k1, k2, _, k4⟩ := mvd b x hM hl
    obtain ⟨i', y', k1', k2', _, k4'⟩ := mvd b' x' hM' hl'
    have := hL.rel.dis i i' y y' cb cb' g k1 k1' (by rw [← k2]; exact hc) (by rw [← k2']; exact hc') hg hg'
    subst this
    rw [k4] at k4'
    cases k4'
    rfl
  · intro b hb
    by_cases h : b ∈ ids
    · obtain ⟨x, cb, _, hc⟩ := live b h
      exact .inl (by rw [hc]; simp)
    · by_cases h2 : nb ≤ b ∧ b < nb + new.length
      · exact .inr ⟨h2.1, by omega⟩
      · rw [cmKeep h h2] at hb
        exact .inl hb

end Go.Ev

/- Operations: every one. -/
namespace Go.Ev

variable {R : Type} {E : Env} {X : Cx} {P : Program}

/-- It comes out well, and so it would at any moment that agrees. -/
structure Ran (P : Program) (s : St) (o : Oper) (nb : Nat) (cont : Cont R) (r : R) : Prop where
  out : ∃ v u rd, cont v u rd = some r ∧ ∀ s', Agree s s' o u rd → Goes P s' o nb v u

theorem memE_ran {c : Cfg} (hC : cfgOk P c = true) {s : St} {o : Oper} {nb : Nat} {cont : Cont R} {r : R} (h : memE c s o nb cont = some r) : Ran P s o nb cont r := by
  obtain ⟨v, u, rd, h1, _, h3, _⟩ := (memE_ok hC h).out
  refine ⟨v, u, rd, h1, fun s' ha => ?_⟩
  have := h3 s' ha (AV × Upd × List Nat) (fun v u rd => some (v, u, rd))
  obtain ⟨v2, u2, rd2, k1, k2, _, _⟩ := (memE_ok hC this).out
  cases k1
  exact k2

theorem run_call {o : Oper} {cl : Call} {x : Operand} (hop : o.op = .call cl) (hb : cl.callee = .value x) {a : Act} {f : Nat} {cs : Array Value} (hx : a.eval x = .func (.func f) #[] cs) {fn : Func} (hf : P.funcs[f]? = some fn) (hn : fn.name ≠ "runtime.NumGoroutine") (hbd : fn.body.isSome = true) {w : World} :
    (execOp a.eval o).run P w = .ok (.enter f (cl.args.map a.eval ++ cs)) w := by
  have h2 : fn.body ≠ none := by intro h; simp [h] at hbd
  simp [execOp, hop, resolve, hb, hx, Deferred.ofValue, invoke, callFunc, hf, hn, h2]

theorem VRels_append {as bs : List AV} {vs us : List Value} : VRels X as vs → VRels X bs us → VRels X (as ++ bs) (vs ++ us)
  | .nil, h => h
  | .cons h1 h2, h => .cons h1 (VRels_append h2 h)

theorem VRels_args {c : Cfg} {a : Act} (hT : TRel X a) : ∀ {xs : List Operand} {ts : List Nat}, xs.length = ts.length → VRels X ((xs.zip ts).map (fun x => typed c x.2 (ev X.s x.1))) (xs.map a.eval)
  | [], _, _ => .nil
  | x :: xs, [], h => by simp at h
  | x :: xs, t :: ts, h => .cons (typed_ok (ev_ok hT x)) (VRels_args hT (by simpa using h))

theorem callE_ran {c : Cfg} {C : Orc R} (hO : OrcOk P C) {s : St} {o : Oper} {nb : Nat} {cont : Cont R} {r : R} {cl : Call} {x : Operand} (hop : o.op = .call cl) (hb : cl.callee = .value x) (h : operE c C s o nb cont = some r) : Ran P s o nb cont r := by
  simp only [operE, hop, hb] at h
  split at h
  case h_2 => cases h
  rename_i f caps hx
  obtain ⟨hlen, h⟩ := chk_some h
  have hlen := Nat.eq_of_beq_eq_true hlen
  simp only [callE] at h
  split at h
  case h_2 => cases h
  rename_i as lent bs has hbs
  obtain ⟨hnd, h⟩ := chk_some h
  rw [nodupN_iff] at hnd
  obtain ⟨v, fin, new, h, hok⟩ := hO _ _ _ _ _ h
  obtain ⟨hle, h⟩ := chk_some h
  rw [Nat.ble_eq] at hle
  split at h
  case h_2 => cases h
  rename_i v' u u' hv hu hu'
  refine ⟨v', u ++ u', lent, h, ?_⟩
  intro s' ha
  obtain ⟨p1, _, _⟩ := backUpd_eff hu hnd
  generalize hids : clos s.st 64 (handRefs ((look f c.wr).getD []) 0 ((cl.args.toList.zip cl.argTypes.toList).map (fun x => typed c x.2 (ev s x.1)) ++ caps)) [] = ids at *
  have hag : ∀ b ∈ ids, look b s'.st = look b s.st := fun b hb' => ha.wr b (by
    simp only [upIds, List.map_append, List.mem_append]
    left
    have : List.map (fun x => x.fst) u = ids := p1
    rw [this]; exact hb')
  have hargs : (cl.args.toList.zip cl.argTypes.toList).map (fun x => typed c x.2 (ev s' x.1)) = (cl.args.toList.zip cl.argTypes.toList).map (fun x => typed c x.2 (ev s x.1)) := by
    refine List.map_congr_left fun y hy => ?_
    rw [ha.ev y.1 (by
      have := (List.of_mem_zip hy).1
      simp [hop, Op.operands, Call.operands, hb]
      exact .inr (by simpa using this))]
  have hx' : ev s' x = .fn f caps := by rw [ha.ev x (by simp [hop, Op.operands, Call.operands, hb]), hx]
  have hF : CallFacts P s' f ((cl.args.toList.zip cl.argTypes.toList).map (fun x => typed c x.2 (ev s' x.1)) ++ caps) nb ((look f c.wr).getD []) ids as lent bs v fin new v' u u' := by
    refine ⟨hnd, ?_, ?_, hok, hle, hv, ?_, hu'⟩
    · rw [hargs]; exact callArgs_loc has ha.rd
    · rw [blksOf_loc hag]; exact hbs
    · rw [← hu]
      have key : ∀ (ids' : List Nat) (n : Nat) (fin : List (Option Blk)) m', (∀ b ∈ ids', look b s'.st = look b s.st) → backUpd s' m' (number n ids') fin = backUpd s m' (number n ids') fin := by
        intro ids'
        induction ids' with
        | nil => intro n fin m' _; cases fin <;> rfl
        | cons b r ih =>
          intro n fin m' hl
          cases fin with
          | nil => rfl
          | cons fo q =>
            have e := ih (n + 1) q m' fun b' hb' => hl b' (by simp [hb'])
            have e2 : verOf s' b = verOf s b := by simp only [verOf, hl b (by simp)]
            cases fo with
            | none => simp only [number, backUpd, e]
            | some y => simp only [number, backUpd, e, e2]
      exact key _ _ _ _ hag
  intro E X a hs hR hT hN next Q hn
  subst hs
  obtain ⟨fn, f1, f2, f3⟩ := hok.fn
  have hvx := ev_ok hT x
  rw [hx'] at hvx
  generalize hax : a.eval x = vx at hvx
  cases hvx with
  | @fn _ _ vs hcaps =>
    unfold Oper.wp
    rw [run_call hop hb hax f1 f2 f3, Oper.upon_enter]
    have hvals : VRels X ((cl.args.toList.zip cl.argTypes.toList).map (fun x => typed c x.2 (ev X.s x.1)) ++ caps) (cl.args.toList.map a.eval ++ vs) :=
      VRels_append (VRels_args hT (by simpa using hlen)) hcaps
    have hent := entry_ok (args := []) hR hnd hF.hbs (callArgs_ok hR hvals hF.has)
    have hgo := hok.go _ _ _ hent
    have e : (cl.args.toList.map a.eval ++ vs).toArray = cl.args.map a.eval ++ vs.toArray := by simp
    rw [e] at hgo
    refine hgo.mono ?_
    rintro e w' ⟨val, X1, rfl, rfl, hL⟩
    exact hn val (outX X X1 ids nb new.length (u ++ u')) (hF.good hR hN hL)

theorem operE_ran {c : Cfg} (hC : cfgOk P c = true) {C : Orc R} (hO : OrcOk P C) {s : St} {o : Oper} {nb : Nat} {cont : Cont R} {r : R} (h : operE c C s o nb cont = some r) : Ran P s o nb cont r := by
  cases hop : o.op with
  | call cl =>
    cases hb : cl.callee with
    | value x => exact callE_ran hO hop hb h
    | _ => simp only [operE, hop, hb] at h; exact memE_ran hC h
  | _ => simp only [operE, hop] at h; exact memE_ran hC h

end Go.Ev

/- Regions: the state behind a set of operations. -/
namespace Go.Ev

/-- What became of an operation: none: it was passed over. -/
abbrev Outc := Option (AV × Upd × List Nat)

def putD (d : Option Nat) (v : AV) (tm : List (Nat × AV)) : List (Nat × AV) :=
  match d with
  | some d => put d v tm
  | none => tm

def Outc.val : Outc → AV
  | none => .tup []
  | some (v, _, _) => v

def Outc.upd : Outc → Upd
  | none => []
  | some (_, u, _) => u

def effS (o : Oper) (out : Outc) (s : St) : St := { s with tm := putD o.dst out.val s.tm, st := applyU out.upd s.st }

def sig : List Oper → List Outc → (Nat → Bool) → Nat → St → St
  | o :: l, out :: outs, D, i, s => sig l outs D (i + 1) (if D i then effS o out s else s)
  | _, _, _, _, s => s

/-- The same to every look. -/
structure SEq (s s' : St) : Prop where
  tm : ∀ t, getD .un t s'.tm = getD .un t s.tm
  st : ∀ b, look b s'.st = look b s.st
  nx : s'.nx = s.nx
  uq : uniq s'.st

theorem effS_tm (o : Oper) (out : Outc) (s : St) (t : Nat) : getD .un t (effS o out s).tm = if o.dst = some t then out.val else getD .un t s.tm := by
  simp only [effS, putD]
  cases o.dst with
  | none => simp
  | some d =>
    simp only [getD_put, Option.some.injEq]
    by_cases h : t = d
    · subst h; simp
    · simp [h, Ne.symm h]

theorem effS_st (o : Oper) (out : Outc) (s : St) (hs : uniq s.st) (b : Nat) : look b (effS o out s).st = match effU out.upd b with | some x => x | none => look b s.st := look_applyU _ _ hs

theorem effS_uq (o : Oper) (out : Outc) (s : St) (hs : uniq s.st) : uniq (effS o out s).st := uniq_applyU _ hs

theorem sig_uq : ∀ (l : List Oper) (outs : List Outc) (D : Nat → Bool) (i : Nat) (s : St), uniq s.st → uniq (sig l outs D i s).st
  | [], _, _, _, _, h => by simpa [sig] using h
  | _ :: _, [], _, _, _, h => by simpa [sig] using h
  | o :: l, out :: outs, D, i, s, h => by
    simp only [sig]
    apply sig_uq
    split
    · exact effS_uq _ _ _ h
    · exact h

theorem sig_nx : ∀ (l : List Oper) (outs : List Outc) (D : Nat → Bool) (i : Nat) (s : St), (sig l outs D i s).nx = s.nx
  | [], _, _, _, _ => by simp [sig]
  | _ :: _, [], _, _, _ => by simp [sig]
  | o :: l, out :: outs, D, i, s => by
    simp only [sig]
    rw [sig_nx]
    split <;> rfl

/-- Writers of a temporary. -/
def wT (l : List Oper) (t k : Nat) : Prop := ∃ o, l[k]? = some o ∧ o.dst = some t

/-- Writers of a block. -/
def wB (outs : List Outc) (b k : Nat) : Prop := ∃ out, outs[k]? = some out ∧ b ∈ upIds out.upd

theorem sig_tm (t : Nat) : ∀ (l : List Oper) (outs : List Outc) (D D' : Nat → Bool) (i : Nat) (s s' : St), (∀ k, wT l t k → D (i + k) = D' (i + k)) → getD .un t s.tm = getD .un t s'.tm →
    getD .un t (sig l outs D i s).tm = getD .un t (sig l outs D' i s').tm
  | [], _, _, _, _, _, _, _, h => by simpa [sig] using h
  | _ :: _, [], _, _, _, _, _, _, h => by simpa [sig] using h
  | o :: l, out :: outs, D, D', i, s, s', hD, h => by
    simp only [sig]
    refine sig_tm t l outs D D' (i + 1) _ _ (fun k hk => ?_) ?_
    · obtain ⟨o', h1, h2⟩ := hk
      have := hD (k + 1) ⟨o', by simpa using h1, h2⟩
      rwa [show i + (k + 1) = i + 1 + k by omega] at this
    · by_cases hd : o.dst = some t
      · have := hD 0 ⟨o, rfl, hd⟩
        simp only [Nat.add_zero] at this
        rw [this]
        split
        · rw [effS_tm, effS_tm, if_pos hd, if_pos hd]
        · exact h
      · have e : ∀ (c : Bool) (s : St), getD .un t (if c = true then effS o out s else s).tm = getD .un t s.tm := by
          intro c s
          split
          · rw [effS_tm, if_neg hd]
          · rfl
        rw [e, e]; exact h

theorem sig_st (b : Nat) : ∀ (l : List Oper) (outs : List Outc) (D D' : Nat → Bool) (i : Nat) (s s' : St), uniq s.st → uniq s'.st → (∀ k, wB outs b k → D (i + k) = D' (i + k)) → look b s.st = look b s'.st →
    look b (sig l outs D i s).st = look b (sig l outs D' i s').st
  | [], _, _, _, _, _, _, _, _, _, h => by simpa [sig] using h
  | _ :: _, [], _, _, _, _, _, _, _, _, h => by simpa [sig] using h
  | o :: l, out :: outs, D, D', i, s, s', hu, hu', hD, h => by
    simp only [sig]
    refine sig_st b l outs D D' (i + 1) _ _ (by split; exact effS_uq _ _ _ hu; exact hu) (by split; exact effS_uq _ _ _ hu'; exact hu') (fun k hk => ?_) ?_
    · obtain ⟨o', h1, h2⟩ := hk
      have := hD (k + 1) ⟨o', by simpa using h1, h2⟩
      rwa [show i + (k + 1) = i + 1 + k by omega] at this
    · by_cases hd : b ∈ upIds out.upd
      · have := hD 0 ⟨out, rfl, hd⟩
        simp only [Nat.add_zero] at this
        rw [this]
        split
        · rw [effS_st _ _ _ hu, effS_st _ _ _ hu', h]
        · exact h
      · have e : ∀ (c : Bool) (s : St), uniq s.st → look b (if c = true then effS o out s else s).st = look b s.st := by
          intro c s hs
          split
          · rw [effS_st _ _ _ hs, effU_none hd]
          · rfl
        rw [e _ _ hu, e _ _ hu']; exact h

def addD (D : Nat → Bool) (i : Nat) (k : Nat) : Bool := D k || Nat.beq k i

theorem addD_of {D : Nat → Bool} {i k : Nat} (h : D k = true) : addD D i k = true := by simp [addD, h]
theorem addD_self {D : Nat → Bool} {i : Nat} : addD D i i = true := by simp [addD]
theorem addD_ne {D : Nat → Bool} {i k : Nat} (h : k ≠ i) : addD D i k = D k := by simp [addD, beq_false.2 h]

/-- One operation more. -/
theorem sig_add : ∀ (l : List Oper) (outs : List Outc) (D : Nat → Bool) (j i : Nat) (s : St) (o : Oper) (out : Outc), uniq s.st → l[i]? = some o → outs[i]? = some out → D (j + i) = false →
    (∀ k t, i < k → D (j + k) = true → o.dst = some t → ¬ wT l t k) → (∀ k b, i < k → D (j + k) = true → b ∈ upIds out.upd → ¬ wB outs b k) →
    SEq (sig l outs (addD D (j + i)) j s) (effS o out (sig l outs D j s))
  | [], _, _, _, _, _, _, _, _, h, _, _, _, _ => by simp at h
  | _ :: _, [], _, _, _, _, _, _, _, _, h, _, _, _ => by simp at h
  | o0 :: l, out0 :: outs, D, j, 0, s, o, out, hu, h1, h2, h3, h4, h5 => by
    simp only [List.getElem?_cons_zero, Option.some.injEq] at h1 h2
    subst h1 h2
    simp only [Nat.add_zero] at h3 ⊢
    simp only [sig]
    rw [if_pos addD_self, if_neg (by rw [h3]; simp)]
    have hk : ∀ k, addD D j (j + 1 + k) = D (j + 1 + k) := fun k => addD_ne (by omega)
    refine ⟨fun t => ?_, fun b => ?_, ?_, effS_uq _ _ _ (sig_uq _ _ _ _ _ hu)⟩
    · rw [effS_tm]
      by_cases hd : o0.dst = some t
      · rw [if_pos hd]
        have : getD .un t (sig l outs (addD D j) (j + 1) (effS o0 out0 s)).tm = getD .un t (sig l outs (fun _ => false) (j + 1) (effS o0 out0 s)).tm := by
          refine sig_tm t _ _ _ _ _ _ _ (fun k hw => ?_) rfl
          rw [hk]
          cases e : D (j + 1 + k)
          · rfl
          · exact (h4 (k + 1) t (by omega) (by rw [show j + (k + 1) = j + 1 + k by omega]; exact e) hd (by obtain ⟨o', p, q⟩ := hw; exact ⟨o', by simpa using p, q⟩)).elim
        rw [this]
        have hno : ∀ (l : List Oper) (outs : List Outc) (i : Nat) (s : St), sig l outs (fun _ => false) i s = s := by
          intro l
          induction l with
          | nil => intro outs i s; simp [sig]
          | cons a l ih =>
            intro outs i s
            cases outs with
            | nil => simp [sig]
            | cons c outs => simp [sig, ih]
        rw [hno, effS_tm, if_pos hd]
      · rw [if_neg hd]
        exact sig_tm t _ _ _ _ _ _ _ (fun k _ => (hk k).symm) (by rw [effS_tm, if_neg hd])
    · rw [effS_st _ _ _ (sig_uq _ _ _ _ _ hu)]
      by_cases hd : b ∈ upIds out0.upd
      · have hno : ∀ (l : List Oper) (outs : List Outc) (i : Nat) (s : St), sig l outs (fun _ => false) i s = s := by
          intro l
          induction l with
          | nil => intro outs i s; simp [sig]
          | cons a l ih =>
            intro outs i s
            cases outs with
            | nil => simp [sig]
            | cons c outs => simp [sig, ih]
        have hz : ∀ k, wB outs b k → D (j + 1 + k) = false := fun k hw => by
          cases e : D (j + 1 + k)
          · rfl
          · exact (h5 (k + 1) b (by omega) (by rw [show j + (k + 1) = j + 1 + k by omega]; exact e) hd (by obtain ⟨o', p, q⟩ := hw; exact ⟨o', by simpa using p, q⟩)).elim
        have e1 : look b (sig l outs (addD D j) (j + 1) (effS o0 out0 s)).st = look b (effS o0 out0 s).st := by
          rw [sig_st b l outs _ (fun _ => false) (j + 1) _ (effS o0 out0 s) (effS_uq _ _ _ hu) (effS_uq _ _ _ hu) (fun k hw => by rw [hk]; exact hz k hw) rfl, hno]
        have e2 : look b (sig l outs D (j + 1) s).st = look b s.st := by
          rw [sig_st b l outs _ (fun _ => false) (j + 1) _ s hu hu (fun k hw => hz k hw) rfl, hno]
        rw [e1, e2, effS_st _ _ _ hu]
      · rw [effU_none hd]
        exact sig_st b _ _ _ _ _ _ _ hu (effS_uq _ _ _ hu) (fun k _ => (hk k).symm) (by rw [effS_st _ _ _ hu, effU_none hd])
    · rw [sig_nx]; simp only [effS]; rw [sig_nx]
  | o0 :: l, out0 :: outs, D, j, i + 1, s, o, out, hu, h1, h2, h3, h4, h5 => by
    simp only [List.getElem?_cons_succ] at h1 h2
    simp only [sig]
    have e : addD D (j + (i + 1)) j = D j := addD_ne (by omega)
    rw [e]
    have := sig_add l outs D (j + 1) i (if D j = true then effS o0 out0 s else s) o out (by split; exact effS_uq _ _ _ hu; exact hu) h1 h2 (by rw [show j + 1 + i = j + (i + 1) by omega]; exact h3)
      (fun k t hk hD hd hw => h4 (k + 1) t (by omega) (by rw [show j + (k + 1) = j + 1 + k by omega]; exact hD) hd (by obtain ⟨o', p, q⟩ := hw; exact ⟨o', by simpa using p, q⟩))
      (fun k b hk hD hd hw => h5 (k + 1) b (by omega) (by rw [show j + (k + 1) = j + 1 + k by omega]; exact hD) hd (by obtain ⟨o', p, q⟩ := hw; exact ⟨o', by simpa using p, q⟩))
    rw [show j + 1 + i = j + (i + 1) by omega] at this
    exact this

end Go.Ev

/- Regions: one operation in its place. -/
namespace Go.Ev

variable {R : Type} {E : Env} {X : Cx} {P : Program}

theorem SEq.refl {s : St} (h : uniq s.st) : SEq s s := ⟨fun _ => rfl, fun _ => rfl, rfl, h⟩
theorem SEq.trans {s s' s'' : St} (h : SEq s s') (k : SEq s' s'') : SEq s s'' := ⟨fun t => (k.tm t).trans (h.tm t), fun b => (k.st b).trans (h.st b), k.nx.trans h.nx, k.uq⟩
theorem SEq.symm {s s' : St} (h : SEq s s') (hs : uniq s.st) : SEq s' s := ⟨fun t => (h.tm t).symm, fun b => (h.st b).symm, h.nx.symm, hs⟩

theorem SEq.ev {s s' : St} (h : SEq s s') (x : Operand) : ev s' x = ev s x := by
  cases x with
  | tmp t => exact h.tm t
  | _ => rfl

theorem SEq.effS {s s' : St} (h : SEq s s') (hs : uniq s.st) (o : Oper) (out : Outc) : SEq (effS o out s) (effS o out s') :=
  ⟨fun t => by rw [effS_tm, effS_tm, h.tm], fun b => by rw [effS_st _ _ _ hs, effS_st _ _ _ h.uq, h.st], h.nx, effS_uq _ _ _ h.uq⟩

theorem SEq.sig {s s' : St} (h : SEq s s') (hs : uniq s.st) (l : List Oper) (outs : List Outc) (D : Nat → Bool) (i : Nat) : SEq (sig l outs D i s) (sig l outs D i s') :=
  ⟨fun t => sig_tm t _ _ _ _ _ _ _ (fun _ _ => rfl) (h.tm t), fun b => sig_st b _ _ _ _ _ _ _ h.uq hs (fun _ _ => rfl) (h.st b), by rw [sig_nx, sig_nx]; exact h.nx, sig_uq _ _ _ _ _ h.uq⟩

theorem sig_shift : ∀ (l : List Oper) (outs : List Outc) (D : Nat → Bool) (i : Nat) (s : St), sig l outs D (i + 1) s = sig l outs (fun k => D (k + 1)) i s
  | [], _, _, _, _ => by simp [sig]
  | _ :: _, [], _, _, _ => by simp [sig]
  | o :: l, out :: outs, D, i, s => by simp only [sig]; exact sig_shift l outs D (i + 1) _

theorem sig_none : ∀ (l : List Oper) (outs : List Outc) (i : Nat) (s : St), sig l outs (fun _ => false) i s = s
  | [], _, _, _ => by simp [sig]
  | _ :: _, [], _, _ => by simp [sig]
  | o :: l, out :: outs, i, s => by simp only [sig]; exact sig_none l outs (i + 1) s

/-- What is known of an operation at its place in the text. -/
def Fact (P : Program) (all : List Oper) (nb i : Nat) (o : Oper) (s : St) : Outc → Prop
  | none => ∃ j want d, o.guard = some (j, want) ∧ (all[j]?).bind (·.dst) = some d ∧ (getD .un d s.tm = .bool (!want) ∨ getD .un d s.tm = .tup [])
  | some (v, u, rd) => (∀ j want, o.guard = some (j, want) → ∃ d, (all[j]?).bind (·.dst) = some d ∧ getD .un d s.tm = .bool want) ∧ ∀ s', Agree s s' o u rd → Goes P s' o (nb + 16 * i) v u

theorem Fact.seq {all : List Oper} {nb i : Nat} {o : Oper} {s s' : St} {out : Outc} (h : SEq s s') (hf : Fact P all nb i o s out) : Fact P all nb i o s' out := by
  cases out with
  | none =>
    obtain ⟨j, want, d, h1, h2, h3⟩ := hf
    exact ⟨j, want, d, h1, h2, by rw [h.tm]; exact h3⟩
  | some x =>
    obtain ⟨v, u, rd⟩ := x
    obtain ⟨h1, h2⟩ := hf
    refine ⟨fun j want hg => ?_, fun s'' ha => h2 s'' ⟨fun x hx => (ha.ev x hx).trans (h.ev x), fun b hb => (ha.rd b hb).trans (h.st b), fun b hb => (ha.wr b hb).trans (h.st b)⟩⟩
    obtain ⟨d, k1, k2⟩ := h1 j want hg
    exact ⟨d, k1, by rw [h.tm]; exact k2⟩

def recsOf : Nat → List Outc → List Rec
  | _, [] => []
  | i, none :: r => recsOf (i + 1) r
  | i, some (_, u, rd) :: r => (i, rd, upIds u) :: recsOf (i + 1) r

def before (j k : Nat) : Bool := Nat.blt k j

theorem before_zero : before 0 = fun _ => false := by funext k; simp only [before]; rw [← Bool.not_eq_true, Nat.blt_eq]; omega
theorem before_succ (j : Nat) : (fun k => before (j + 1) (k + 1)) = before j := by
  funext k
  simp only [before]
  rw [Bool.eq_iff_iff, Nat.blt_eq, Nat.blt_eq]; omega

/-- A guard's value, told anew. -/
theorem seq_put {s : St} (hs : uniq s.st) {d : Nat} {v : AV} (h : getD .un d s.tm = v) : SEq s { s with tm := put d v s.tm } :=
  ⟨fun t => by simp only [getD_put]; split; (subst_vars; rfl); rfl, fun _ => rfl, rfl, hs⟩

/-- The facts of a region that the evaluator runs through. -/
structure Facts (P : Program) (all : List Oper) (nb i : Nat) (l : List Oper) (outs : List Outc) (s sf : St) : Prop where
  len : outs.length = l.length
  fact : ∀ j o out, l[j]? = some o → outs[j]? = some out → Fact P all nb (i + j) o (sig l outs (before j) 0 s) out
  fin : SEq (sig l outs (fun _ => true) 0 s) sf

theorem Facts.cons {all : List Oper} {nb i : Nat} {o : Oper} {l : List Oper} {out : Outc} {outs : List Outc} {s s1 sf : St} (hs : uniq s.st) (hf : Fact P all nb i o s out) (h1 : SEq s s1) (h : Facts P all nb (i + 1) l outs (effS o out s1) sf) :
    Facts P all nb i (o :: l) (out :: outs) s sf := by
  have he : SEq (effS o out s1) (effS o out s) := (h1.symm hs).effS h1.uq _ _
  refine ⟨by simp [h.len], ?_, ?_⟩
  · intro j o' out' hj hj'
    cases j with
    | zero =>
      simp only [List.getElem?_cons_zero, Option.some.injEq] at hj hj'
      subst hj hj'
      rw [before_zero, sig_none]
      exact hf
    | succ j =>
      simp only [List.getElem?_cons_succ] at hj hj'
      have := h.fact j o' out' hj hj'
      rw [show i + (j + 1) = i + 1 + j by omega]
      simp only [sig]
      rw [show before (j + 1) 0 = true by simp only [before]; rw [Nat.blt_eq]; omega, if_pos rfl, sig_shift, before_succ]
      exact this.seq (he.sig (effS_uq _ _ _ h1.uq) _ _ _ _)
  · simp only [sig]
    rw [sig_shift]
    exact ((he.symm (effS_uq _ _ _ h1.uq)).sig (effS_uq _ _ _ hs) _ _ _ _).trans h.fin

theorem opsE_facts {c : Cfg} (hC : cfgOk P c = true) {C : Orc R} (hO : OrcOk P C) {all : List Oper} {nb : Nat} {k : St → List Rec → Option R} {r : R} : ∀ {l : List Oper} {i : Nat} {s : St} {rec : List Rec}, uniq s.st → opsE c C all nb i l s rec k = some r →
    ∃ outs sf, k sf (rec ++ recsOf i outs) = some r ∧ Facts P all nb i l outs s sf
  | [], i, s, rec, hs, h => ⟨[], s, by simpa [recsOf, opsE] using h, rfl, by simp, by simp only [sig]; exact .refl hs⟩
  | o :: l, i, s, rec, hs, h => by
    have go : ∀ {s1 : St}, SEq s s1 → (∀ j want, o.guard = some (j, want) → ∃ d, (all[j]?).bind (·.dst) = some d ∧ getD .un d s.tm = .bool want) →
        operE c C s1 o (nb + 16 * i) (fun v u rd => opsE c C all nb (i + 1) l { s1 with tm := (match o.dst with | some d => put d v s1.tm | none => s1.tm), st := applyU u s1.st } (rec ++ [(i, rd, upIds u)]) k) = some r →
        ∃ outs sf, k sf (rec ++ recsOf i outs) = some r ∧ Facts P all nb i (o :: l) outs s sf := by
      intro s1 h1 hg h
      obtain ⟨v, u, rd, h2, h3⟩ := (operE_ran hC hO h).out
      obtain ⟨outs, sf, k1, k2⟩ := opsE_facts (l := l) hC hO (uniq_applyU u h1.uq) h2
      refine ⟨some (v, u, rd) :: outs, sf, ?_, Facts.cons hs ?_ h1 k2⟩
      · simpa [recsOf] using k1
      · refine ⟨hg, fun s' ha => h3 s' ⟨fun x hx => (ha.ev x hx).trans (h1.symm hs |>.ev x), fun b hb => (ha.rd b hb).trans (h1.symm hs |>.st b), fun b hb => (ha.wr b hb).trans (h1.symm hs |>.st b)⟩⟩
    have off : ∀ {s1 : St}, SEq s s1 → (∃ j want d, o.guard = some (j, want) ∧ (all[j]?).bind (·.dst) = some d ∧ (getD .un d s.tm = .bool (!want) ∨ getD .un d s.tm = .tup [])) →
        opsE c C all nb (i + 1) l { s1 with tm := (match o.dst with | some d => put d (.tup []) s1.tm | none => s1.tm) } rec k = some r →
        ∃ outs sf, k sf (rec ++ recsOf i outs) = some r ∧ Facts P all nb i (o :: l) outs s sf := by
      intro s1 h1 hg h
      obtain ⟨outs, sf, k1, k2⟩ := opsE_facts (l := l) hC hO (by exact h1.uq) h
      exact ⟨none :: outs, sf, by simpa [recsOf] using k1, Facts.cons hs hg h1 k2⟩
    simp only [opsE] at h
    split at h
    · rename_i hg
      exact go (.refl hs) (by intro j want e; rw [hg] at e; cases e) h
    · rename_i j want hg
      split at h
      · cases h
      · rename_i d hd
        have yes : ∀ {b : Bool}, getD .un d s.tm = .bool b → b = want → ∀ j' want', o.guard = some (j', want') → ∃ d, (all[j']?).bind (·.dst) = some d ∧ getD .un d s.tm = .bool want' := by
          intro b hv e j' want' hg'
          rw [hg] at hg'
          cases hg'
          exact ⟨d, hd, by rw [hv, e]⟩
        have no : ∀ {b : Bool}, getD .un d s.tm = .bool b → b = !want → ∃ j want d, o.guard = some (j, want) ∧ (all[j]?).bind (·.dst) = some d ∧ (getD .un d s.tm = .bool (!want) ∨ getD .un d s.tm = .tup []) :=
          fun hv e => ⟨j, want, d, hg, hd, .inl (by rw [hv, e])⟩
        split at h
        · rename_i b hv
          cases b <;> cases want <;> simp only [cond_true, cond_false] at h
          · exact go (seq_put hs hv) (yes hv rfl) h
          · exact off (seq_put hs hv) (no hv rfl) h
          · exact off (seq_put hs hv) (no hv rfl) h
          · exact go (seq_put hs hv) (yes hv rfl) h
        · rename_i hv
          exact off (.refl hs) ⟨j, want, d, hg, hd, .inr hv⟩ h
        · cases h

theorem Ext.seq {X Y : Cx} (hcm : Y.cm = X.cm) (hS : Y.S = X.S) (hw : Y.w = X.w) (hs : ∀ b, look b Y.s.st = look b X.s.st) : Ext X Y where
  cmx b cb h := ⟨cb, by rw [hcm]; exact h, cb.same_refl⟩
  sts n g h := ⟨by rw [hS]; exact h, by rw [hw]⟩
  ver b cb hc ro' v' ps' hl := by
    rw [hs] at hl
    exact ⟨ro', v', ps', hl, Nat.le_refl _, fun _ _ => ⟨rfl, rfl, by rw [hcm], fun g _ => by rw [hw]⟩⟩

theorem Rel.seq {X Y : Cx} (R : Rel E X) (hcm : Y.cm = X.cm) (hS : Y.S = X.S) (hw : Y.w = X.w) (hs : ∀ b, look b Y.s.st = look b X.s.st) (hu : uniq Y.s.st) : Rel E Y := by
  have hx := Ext.seq hcm hS hw hs
  refine ⟨?_, ?_, ?_, ?_, hu⟩
  · intro b x hl
    rw [hs] at hl
    obtain ⟨cb, h1, h2, h3, h4⟩ := R.blk b x hl
    exact ⟨cb, by rw [hcm]; exact h1, h2.ext hx fun g _ => by rw [hw], h3, fun g hg => by rw [hw]; exact h4 g hg⟩
  · intro b b' x x' cb cb' g hl hl' hc hc'
    rw [hs] at hl hl'
    rw [hcm] at hc hc'
    exact R.dis b b' x x' cb cb' g hl hl' hc hc'
  · intro n g h; rw [hS] at h; exact R.out n g h
  · rw [hw]; exact R.fr

end Go.Ev

/- Regions: a step of the machine; regions in the text's order. -/
namespace Go.Ev

variable {R : Type} {E : Env} {X : Cx} {P : Program}

/-- In the midst of a region: D has been done. X0: the frame at the function's entry. -/
structure Mid (m N : Nat) (X0 : Cx) (E : Env) (s0 sD : St) (D : Nat → Bool) (X : Cx) (a : Act) : Prop where
  s : X.s = sD
  rel : Rel E X
  tr : TRel X a
  top : ∀ b, s0.nx ≤ b → X.cm b ≠ none → ∃ k, D k = true ∧ s0.nx + 16 * k ≤ b ∧ b < s0.nx + 16 * k + 16
  S : X.S = X0.S
  cmx : ∀ b cb, b < m → X0.cm b = some cb → ∃ cb', X.cm b = some cb' ∧ cb.same cb'
  defers : a.defers = []
  size : a.tmps.size = N

def setS (X : Cx) (s : St) : Cx := { X with s := s }

theorem put_getD {a : Act} {d t : Nat} {v : Value} (hd : d < a.tmps.size) : (a.put (some d) v).tmps.getD t undef = if d = t then v else a.tmps.getD t undef := by
  simp only [Act.put]
  by_cases h : d = t
  · subst h; simp [hd]
  · rw [if_neg h]
    simp [Array.getElem?_setIfInBounds_ne h]

theorem put_size {a : Act} {d : Option Nat} {v : Value} : (a.put d v).tmps.size = a.tmps.size := by
  cases d <;> simp [Act.put]

theorem put_defers {a : Act} {d : Option Nat} {v : Value} : (a.put d v).defers = a.defers := by
  cases d <;> rfl

theorem trel_put {X Y : Cx} {a : Act} {o : Oper} {out : Outc} {v : Value} (hT : TRel X a) (hx : Ext X Y) (hv : VRel Y out.val v) (hd : ∀ d, o.dst = some d → d < a.tmps.size) (hs : ∀ t, getD .un t Y.s.tm = getD .un t (effS o out X.s).tm) : TRel Y (a.put o.dst v) := by
  intro t
  rw [hs, effS_tm]
  cases ho : o.dst with
  | none =>
    simp only [reduceCtorEq, if_false]
    exact (hT t).ext hx
  | some d =>
    rw [put_getD (hd d ho)]
    by_cases h : d = t
    · subst h; simpa using hv
    · rw [if_neg h, if_neg (by simpa using h)]
      exact (hT t).ext hx

variable {ops : Array Oper} {Q : Exit → Act → World → Prop}

/-- One operation, at its turn. -/
theorem mid_step {m N : Nat} {X0 : Cx} {s0 : St} {outs : List Outc} {D : Nat → Bool} {a : Act} {i : Nat} {o : Oper} {out : Outc} {K : Act → World → Prop}
    (hM : Mid m N X0 E s0 (sig ops.toList outs D 0 s0) D X a) (hu : uniq s0.st) (ho : ops[i]? = some o) (hout : outs[i]? = some out) (hD : D i = false) (hd : ∀ d, o.dst = some d → d < N)
    (hf : Fact P ops.toList s0.nx i o (sig ops.toList outs D 0 s0) out)
    (h4 : ∀ k t, i < k → D k = true → o.dst = some t → ¬ wT ops.toList t k) (h5 : ∀ k b, i < k → D k = true → b ∈ upIds out.upd → ¬ wB outs b k)
    (hK : ∀ a' X', Mid m N X0 E s0 (sig ops.toList outs (addD D i) 0 s0) (addD D i) X' a' → K a' X'.w) : wpOp P ops Q i K a X.w := by
  have hadd := sig_add ops.toList outs D 0 i s0 o out hu (by simpa using ho) hout (by simpa using hD) (by simpa using h4) (by simpa using h5)
  rw [Nat.zero_add] at hadd
  have hd' : ∀ d, o.dst = some d → d < a.tmps.size := fun d h => by rw [hM.size]; exact hd d h
  unfold wpOp
  rw [ho]
  simp only
  cases out with
  | none =>
    obtain ⟨j, want, d, g1, g2, g3⟩ := hf
    have hw : Region.wanted o (yielded ops a.tmps) = false := by
      have hv := hM.tr d
      rw [hM.s] at hv
      simp only [Region.wanted, g1, yielded]
      have g2' : (ops[j]?).bind (·.dst) = some d := by simpa using g2
      rw [g2']
      simp only [Option.bind_some]
      rcases g3 with g3 | g3
      · rw [g3] at hv
        generalize hval : a.tmps.getD d undef = vv at hv
        cases hv
        by_cases hlt : d < a.tmps.size
        · have : a.tmps[d]? = some (.bool (!want)) := by simp [hlt] at hval ⊢; exact hval
          rw [this]
          cases want <;> rfl
        · simp [hlt] at hval
          cases hval
      · rw [g3] at hv
        generalize hval : a.tmps.getD d undef = vv at hv
        cases hv with
        | tup hvs =>
          cases hvs
          by_cases hlt : d < a.tmps.size
          · have : a.tmps[d]? = some (.tuple #[]) := by simp [hlt] at hval ⊢; exact hval
            rw [this]
            cases want <;> rfl
          · rw [Array.getElem?_eq_none (Nat.le_of_not_lt hlt)]
            cases want <;> rfl
    rw [hw]
    simp only [Bool.false_eq_true, if_false]
    have hst : ∀ b, look b (sig ops.toList outs (addD D i) 0 s0).st = look b X.s.st := fun b => by
      rw [hM.s, ← hadd.st, effS_st _ _ _ (sig_uq _ _ _ _ _ hu)]
      rfl
    have hx : Ext X (setS X (sig ops.toList outs (addD D i) 0 s0)) := Ext.seq rfl rfl rfl hst
    refine hK _ (setS X (sig ops.toList outs (addD D i) 0 s0)) ⟨rfl, hM.rel.seq rfl rfl rfl hst (sig_uq _ _ _ _ _ hu), ?_, ?_, hM.S, hM.cmx, by rw [put_defers]; exact hM.defers, by rw [put_size]; exact hM.size⟩
    · refine trel_put (out := none) hM.tr hx (.tup .nil) hd' fun t => ?_
      rw [hM.s]
      exact (hadd.tm t).symm
    · intro b hb hc
      obtain ⟨k, k1, k2⟩ := hM.top b hb hc
      exact ⟨k, addD_of k1, k2⟩
  | some x =>
    obtain ⟨v, u, rd⟩ := x
    obtain ⟨g1, g2⟩ := hf
    have hw : Region.wanted o (yielded ops a.tmps) = true := by
      cases hg : o.guard with
      | none => simp only [Region.wanted, hg]
      | some y =>
        obtain ⟨j, want⟩ := y
        obtain ⟨d, k1, k2⟩ := g1 j want hg
        have hv := hM.tr d
        rw [hM.s, k2] at hv
        simp only [Region.wanted, hg, yielded]
        have k1' : (ops[j]?).bind (·.dst) = some d := by simpa using k1
        rw [k1']
        simp only [Option.bind_some]
        generalize hval : a.tmps.getD d undef = vv at hv
        cases hv
        by_cases hlt : d < a.tmps.size
        · have : a.tmps[d]? = some (.bool want) := by simp [hlt] at hval ⊢; exact hval
          rw [this]
          cases want <;> rfl
        · simp [hlt] at hval
          cases hval
    rw [hw]
    simp only [if_true]
    left
    refine g2 _ ⟨fun _ _ => rfl, fun _ _ => rfl, fun _ _ => rfl⟩ E X a hM.s hM.rel hM.tr ?_ K Q ?_
    · intro b hb hb'
      cases hc : X.cm b with
      | none => rfl
      | some cb =>
        obtain ⟨k, k1, k2, k3⟩ := hM.top b (by omega) (by rw [hc]; simp)
        have : k = i := by omega
        subst this
        rw [hD] at k1
        cases k1
    · intro val X' hG
      have hst : ∀ b, look b (sig ops.toList outs (addD D i) 0 s0).st = look b X'.s.st := fun b => by
        rw [hG.st, hM.s, ← hadd.st]
        rfl
      have hx' : Ext X' (setS X' (sig ops.toList outs (addD D i) 0 s0)) := Ext.seq rfl rfl rfl hst
      refine hK _ (setS X' (sig ops.toList outs (addD D i) 0 s0)) ⟨rfl, hG.rel.seq rfl rfl rfl hst (sig_uq _ _ _ _ _ hu), ?_, ?_, hG.S.trans hM.S, ?_, by rw [put_defers]; exact hM.defers, by rw [put_size]; exact hM.size⟩
      · refine trel_put (out := some (v, u, rd)) hM.tr (hG.ext.trans hx') (hG.val.ext hx') hd' fun t => ?_
        rw [hM.s]
        exact (hadd.tm t).symm
      · intro b hb hc
        rcases hG.fresh b hc with h | ⟨h1, h2⟩
        · obtain ⟨k, k1, k2⟩ := hM.top b hb h
          exact ⟨k, addD_of k1, k2⟩
        · exact ⟨i, addD_self, h1, h2⟩
      · intro b cb hb hc
        obtain ⟨cb', k1, k2⟩ := hM.cmx b cb hb hc
        obtain ⟨cb2, k3, k4⟩ := hG.ext.cmx b cb' k1
        exact ⟨cb2, k3, CB.same_trans k2 k4⟩

/-- A frame between operations. -/
structure Inv (m N : Nat) (X0 : Cx) (E : Env) (X : Cx) (a : Act) : Prop where
  rel : Rel E X
  tr : TRel X a
  top : ∀ b, X.s.nx ≤ b → X.cm b = none
  S : X.S = X0.S
  cmx : ∀ b cb, b < m → X0.cm b = some cb → ∃ cb', X.cm b = some cb' ∧ cb.same cb'
  defers : a.defers = []
  size : a.tmps.size = N

theorem Inv.mid {m N : Nat} {X0 : Cx} {a : Act} (h : Inv m N X0 E X a) (outs : List Outc) (ops : Array Oper) : Mid m N X0 E X.s (sig ops.toList outs (before 0) 0 X.s) (before 0) X a := by
  rw [before_zero, sig_none]
  exact ⟨rfl, h.rel, h.tr, fun b hb hc => (hc (h.top b hb)).elim, h.S, h.cmx, h.defers, h.size⟩

/-- Behind the last operation. -/
theorem Mid.done {m N : Nat} {X0 : Cx} {s0 sf : St} {outs : List Outc} {D : Nat → Bool} {a : Act} (h : Mid m N X0 E s0 (sig ops.toList outs D 0 s0) D X a) (hu : uniq s0.st) (hf : SEq (sig ops.toList outs (fun _ => true) 0 s0) sf) (hlen : outs.length = ops.size)
    (hall : ∀ k, k < ops.size → D k = true) (hD : ∀ k, D k = true → k < ops.size) : ∃ X', X'.w = X.w ∧ X'.s = { sf with nx := s0.nx + 16 * ops.size } ∧ Inv m N X0 E X' a := by
  have h1 : SEq (sig ops.toList outs D 0 s0) (sig ops.toList outs (fun _ => true) 0 s0) := by
    refine ⟨fun t => ?_, fun b => ?_, by rw [sig_nx, sig_nx], sig_uq _ _ _ _ _ hu⟩
    · refine sig_tm t _ _ _ _ _ _ _ (fun k hk => ?_) rfl
      obtain ⟨o, k1, _⟩ := hk
      have := (List.getElem?_eq_some_iff.1 k1).1
      rw [Nat.zero_add, hall k (by simpa using this)]
    · refine sig_st b _ _ _ _ _ _ _ hu hu (fun k hk => ?_) rfl
      obtain ⟨o, k1, _⟩ := hk
      have := (List.getElem?_eq_some_iff.1 k1).1
      rw [Nat.zero_add, hall k (by omega)]
  have h2 := h1.trans hf
  have hst : ∀ b, look b ({ sf with nx := s0.nx + 16 * ops.size } : St).st = look b X.s.st := fun b => by rw [h.s]; exact h2.st b
  have hx : Ext X (setS X { sf with nx := s0.nx + 16 * ops.size }) := Ext.seq rfl rfl rfl hst
  refine ⟨setS X { sf with nx := s0.nx + 16 * ops.size }, rfl, rfl, h.rel.seq rfl rfl rfl hst h2.uq, ?_, ?_, h.S, h.cmx, h.defers, h.size⟩
  · intro t
    have := (h.tr t).ext hx
    rw [h.s, ← h2.tm] at this
    exact this
  · intro b hb
    cases hc : (setS X { sf with nx := s0.nx + 16 * ops.size }).cm b with
    | none => rfl
    | some cb =>
      have hb' : s0.nx + 16 * ops.size ≤ b := hb
      obtain ⟨k, k1, k2, k3⟩ := h.top b (by omega) (by rw [show X.cm b = some cb from hc]; simp)
      have := hD k k1
      omega

def dstsOk (N : Nat) (ops : List Oper) : Bool := ops.all fun o => match o.dst with
  | some d => Nat.blt d N
  | none => true

theorem dstsOk_of {N : Nat} {ops : List Oper} (h : dstsOk N ops = true) {i : Nat} {o : Oper} (ho : ops[i]? = some o) {d : Nat} (hd : o.dst = some d) : d < N := by
  unfold dstsOk at h
  rw [List.all_eq_true] at h
  have := h o (List.mem_of_getElem? ho)
  rw [hd] at this
  simpa [Nat.blt_eq] using this

theorem addD_before (i : Nat) : addD (before i) i = before (i + 1) := by
  funext k
  simp only [addD, before]
  rw [Bool.eq_iff_iff, Bool.or_eq_true, Nat.blt_eq, Nat.blt_eq, beq_true]
  omega

/-- A region in the text's order. -/
theorem seq_ok {m N : Nat} {X0 : Cx} {s0 sf : St} {outs : List Outc} (hu : uniq s0.st) (hF : Facts P ops.toList s0.nx 0 ops.toList outs s0 sf) (hN : dstsOk N ops.toList = true)
    (hQ : ∀ X' a, X'.s = { sf with nx := s0.nx + 16 * ops.size } → Inv m N X0 E X' a → Q .normal a X'.w) :
    ∀ (n i : Nat) (X : Cx) (a : Act), i + n = ops.size → Mid m N X0 E s0 (sig ops.toList outs (before i) 0 s0) (before i) X a → wpOps P ops Q (List.range' i n) a X.w
  | 0, i, X, a, hn, hM => by
    simp only [List.range', wpOps]
    obtain ⟨X', h1, h2, h3⟩ := hM.done hu hF.fin (by rw [hF.len]; simp) (fun k hk => by simp only [before]; rw [Nat.blt_eq]; omega) (fun k hk => by simp only [before] at hk; rw [Nat.blt_eq] at hk; omega)
    rw [← h1]
    exact hQ X' a h2 h3
  | n + 1, i, X, a, hn, hM => by
    rw [List.range'_succ, wpOps_cons]
    have hlt : i < ops.size := by omega
    have hlt' : i < outs.length := by rw [hF.len]; simpa using hlt
    have ho : ops[i]? = some ops[i] := by simp [hlt]
    have hout : outs[i]? = some outs[i] := by simp [hlt']
    have hfact := hF.fact i ops[i] outs[i] (by simp) hout
    rw [Nat.zero_add] at hfact
    have hbi : before i i = false := by simp only [before]; rw [← Bool.not_eq_true, Nat.blt_eq]; omega
    have hbk : ∀ k, i < k → before i k ≠ true := fun k hk => by simp only [before]; rw [ne_eq, Nat.blt_eq]; omega
    refine mid_step hM hu ho hout hbi (fun d hd => dstsOk_of (i := i) hN (by rw [Array.getElem?_toList]; exact ho) hd) hfact (fun k t hk h => (hbk k hk h).elim) (fun k b hk h => (hbk k hk h).elim) fun a' X' hM' => ?_
    rw [addD_before] at hM'
    exact seq_ok hu hF hN hQ n (i + 1) X' a' (by omega) hM'

end Go.Ev

/- Regions in any order. -/
namespace Go.Ev

variable {R : Type} {E : Env} {X : Cx} {P : Program}

/-- The temporaries that an operation looks at. -/
def readsT (all : List Oper) (o : Oper) : List Nat :=
  (o.op.operands.toList.filterMap fun | .tmp t => some t | _ => none) ++
  (match o.guard with
   | some (j, _) => (match (all[j]?).bind (·.dst) with | some d => [d] | none => [])
   | none => [])

/-- Does the first write what the second looks at or writes? -/
def touch (all : List Oper) (x y : Oper) : Bool :=
  match x.dst with
  | some d => memN d (readsT all y) || (match y.dst with | some e => Nat.beq e d | none => false)
  | none => false

def tmpsOkL (all : List Oper) (pr : List Nat) : List (Nat × Oper) → Bool
  | [] => true
  | x :: r => r.all (fun y => !(touch all x.2 y.2 || touch all y.2 x.2) || Nat.testBit (pr.getD y.1 0) x.1) && tmpsOkL all pr r

def bindsOk : List (Nat × Oper) → Bool
  | [] => true
  | x :: r => (binds x.2).all (fun j => Nat.blt j x.1) && bindsOk r

/-- A region may be run in any order, as far as its text goes. -/
def drawOk (all : List Oper) : Bool := bindsOk (enum 0 all) && tmpsOkL all (priors all []) (enum 0 all)

theorem mem_enum {α : Type} : ∀ {l : List α} {n i : Nat} {x : α}, l[i]? = some x → (n + i, x) ∈ enum n l
  | [], _, _, _, h => by simp at h
  | y :: l, n, 0, x, h => by simp at h; subst h; simp [enum]
  | y :: l, n, i + 1, x, h => by
    simp only [enum, List.mem_cons]
    right
    have := mem_enum (n := n + 1) (l := l) (i := i) (by simpa using h)
    rwa [show n + 1 + i = n + (i + 1) by omega] at this

theorem tmpsOkL_of {all : List Oper} {pr : List Nat} : ∀ {l : List Oper} {n i j : Nat} {x y : Oper}, tmpsOkL all pr (enum n l) = true → i < j → l[i]? = some x → l[j]? = some y → (touch all x y = true ∨ touch all y x = true) → Nat.testBit (pr.getD (n + j) 0) (n + i) = true
  | [], _, _, _, _, _, _, _, h, _, _ => by simp at h
  | z :: l, n, 0, j + 1, x, y, h, hij, hx, hy, ht => by
    simp only [List.getElem?_cons_zero, Option.some.injEq] at hx
    subst hx
    simp only [enum, tmpsOkL, Bool.and_eq_true, List.all_eq_true] at h
    have := h.1 _ (mem_enum (n := n + 1) (l := l) (i := j) (by simpa using hy))
    simp only [Bool.or_eq_true, Bool.not_eq_true'] at this
    rw [show n + 1 + j = n + (j + 1) by omega] at this
    rcases this with h1 | h1
    · rw [Bool.or_eq_false_iff] at h1
      rcases ht with ht | ht
      · rw [h1.1] at ht; cases ht
      · rw [h1.2] at ht; cases ht
    · exact h1
  | z :: l, n, i + 1, j + 1, x, y, h, hij, hx, hy, ht => by
    simp only [enum, tmpsOkL, Bool.and_eq_true] at h
    have := tmpsOkL_of (n := n + 1) h.2 (by omega : i < j) (by simpa using hx) (by simpa using hy) ht
    rwa [show n + 1 + j = n + (j + 1) by omega, show n + 1 + i = n + (i + 1) by omega] at this
  | z :: l, n, 0, 0, x, y, h, hij, hx, hy, ht => by omega
  | z :: l, n, i + 1, 0, x, y, h, hij, hx, hy, ht => by omega

theorem bindsOk_of : ∀ {l : List Oper} {n i : Nat} {x : Oper}, bindsOk (enum n l) = true → l[i]? = some x → ∀ j ∈ binds x, j < n + i
  | [], _, _, _, _, h, _, _ => by simp at h
  | z :: l, n, 0, x, h, hx, j, hj => by
    simp only [List.getElem?_cons_zero, Option.some.injEq] at hx
    subst hx
    simp only [enum, bindsOk, Bool.and_eq_true, List.all_eq_true] at h
    have := h.1 j hj
    rw [Nat.blt_eq] at this
    omega
  | z :: l, n, i + 1, x, h, hx, j, hj => by
    simp only [enum, bindsOk, Bool.and_eq_true] at h
    have := bindsOk_of (n := n + 1) h.2 (by simpa using hx : l[i]? = some x) j hj
    omega

theorem meet_of {b : Nat} : ∀ {l l' : List Nat}, b ∈ l → b ∈ l' → meet l l' = true
  | [], _, h, _ => by simp at h
  | a :: r, l', h, h' => by
    simp only [meet, Bool.or_eq_true]
    rcases List.mem_cons.1 h with rfl | h
    · exact .inl (memN_iff.2 h')
    · exact .inr (meet_of h h')

theorem mem_recs : ∀ {outs : List Outc} {n i : Nat} {v : AV} {u : Upd} {rd : List Nat}, outs[i]? = some (some (v, u, rd)) → (n + i, rd, upIds u) ∈ recsOf n outs
  | [], _, _, _, _, _, h => by simp at h
  | o :: l, n, 0, v, u, rd, h => by
    simp only [List.getElem?_cons_zero, Option.some.injEq] at h
    subst h
    simp [recsOf]
  | o :: l, n, i + 1, v, u, rd, h => by
    have := mem_recs (n := n + 1) (outs := l) (i := i) (by simpa using h)
    rw [show n + 1 + i = n + (i + 1) by omega] at this
    cases o with
    | none => simpa [recsOf] using this
    | some x => obtain ⟨v', u', rd'⟩ := x; simp only [recsOf, List.mem_cons]; exact .inr this

theorem recs_pair {pr : List Nat} : ∀ {outs : List Outc} {n i j : Nat} {v v' : AV} {u u' : Upd} {rd rd' : List Nat}, pairsOk pr (recsOf n outs) = true → i < j → outs[i]? = some (some (v, u, rd)) → outs[j]? = some (some (v', u', rd')) →
    clash (n + i, rd, upIds u) (n + j, rd', upIds u') = true → Nat.testBit (pr.getD (n + j) 0) (n + i) = true
  | [], _, _, _, _, _, _, _, _, _, _, _, h, _, _ => by simp at h
  | o :: l, n, 0, j + 1, v, v', u, u', rd, rd', h, hij, hx, hy, hc => by
    simp only [List.getElem?_cons_zero, Option.some.injEq] at hx
    subst hx
    simp only [recsOf, pairsOk, Bool.and_eq_true, List.all_eq_true] at h
    have hm := mem_recs (n := n + 1) (outs := l) (i := j) (by simpa using hy)
    rw [show n + 1 + j = n + (j + 1) by omega] at hm
    have := h.1 _ hm
    simp only [Bool.or_eq_true, Bool.not_eq_true'] at this
    rcases this with h1 | h1
    · rw [Nat.add_zero] at hc; rw [hc] at h1; cases h1
    · exact h1
  | o :: l, n, i + 1, j + 1, v, v', u, u', rd, rd', h, hij, hx, hy, hc => by
    have h' : pairsOk pr (recsOf (n + 1) l) = true := by
      cases o with
      | none => simpa [recsOf] using h
      | some x => obtain ⟨a, b, c⟩ := x; simp only [recsOf, pairsOk, Bool.and_eq_true] at h; exact h.2
    have := recs_pair (n := n + 1) h' (by omega : i < j) (by simpa using hx) (by simpa using hy) (by rw [show n + 1 + j = n + (j + 1) by omega, show n + 1 + i = n + (i + 1) by omega]; exact hc)
    rwa [show n + 1 + j = n + (j + 1) by omega, show n + 1 + i = n + (i + 1) by omega] at this
  | o :: l, n, 0, 0, _, _, _, _, _, _, h, hij, _, _, _ => by omega
  | o :: l, n, i + 1, 0, _, _, _, _, _, _, h, hij, _, _, _ => by omega

theorem fold_bit (acc : List Nat) (k : Nat) : ∀ (bs : List Nat) (x : Nat), Nat.testBit (bs.foldl (fun x j => x ||| 2 ^ j ||| acc.getD j 0) x) k = true → Nat.testBit x k = true ∨ ∃ j ∈ bs, k = j ∨ Nat.testBit (acc.getD j 0) k = true
  | [], x, h => .inl h
  | b :: bs, x, h => by
    simp only [List.foldl_cons] at h
    rcases fold_bit acc k bs _ h with h1 | ⟨j, hj, h1⟩
    · rw [Nat.testBit_or, Nat.testBit_or, Bool.or_eq_true, Bool.or_eq_true, Nat.testBit_two_pow] at h1
      rcases h1 with (h1 | h1) | h1
      · exact .inl h1
      · exact .inr ⟨b, by simp, .inl (by simpa using h1 : b = k).symm⟩
      · exact .inr ⟨b, by simp, .inr h1⟩
    · exact .inr ⟨j, by simp [hj], h1⟩

theorem priors_len : ∀ (l : List Oper) (acc : List Nat), (∀ j, j < acc.length → (priors l acc).getD j 0 = acc.getD j 0)
  | [], acc => fun _ _ => rfl
  | o :: r, acc => by
    intro j hj
    simp only [priors]
    rw [priors_len r _ j (by simp; omega)]
    simp [List.getD_eq_getElem?_getD, List.getElem?_append_left hj]

theorem priors_at : ∀ {l : List Oper} {acc : List Nat} {i : Nat} {o : Oper}, l[i]? = some o → ∀ k, Nat.testBit ((priors l acc).getD (acc.length + i) 0) k = true → ∃ j ∈ binds o, k = j ∨ (j < acc.length + i ∧ Nat.testBit ((priors l acc).getD j 0) k = true)
  | [], _, _, _, h, _, _ => by simp at h
  | z :: l, acc, 0, o, h, k, hk => by
    simp only [List.getElem?_cons_zero, Option.some.injEq] at h
    subst h
    simp only [priors, Nat.add_zero] at hk ⊢
    rw [priors_len l _ _ (by simp)] at hk
    have e : (acc ++ [(binds z).foldl (fun x j => x ||| 2 ^ j ||| acc.getD j 0) 0]).getD acc.length 0 = (binds z).foldl (fun x j => x ||| 2 ^ j ||| acc.getD j 0) 0 := by
      simp [List.getD_eq_getElem?_getD]
    rw [e] at hk
    rcases fold_bit acc k _ _ hk with h1 | ⟨j, hj, h1⟩
    · simp at h1
    · refine ⟨j, hj, h1.imp id fun h2 => ?_⟩
      have hlt : j < acc.length := by
        rcases Nat.lt_or_ge j acc.length with h | h
        · exact h
        · rw [List.getD_eq_getElem?_getD, List.getElem?_eq_none h] at h2
          simp at h2
      refine ⟨hlt, ?_⟩
      rw [priors_len l _ j (by simp; omega)]
      rw [List.getD_eq_getElem?_getD, List.getElem?_append_left hlt, ← List.getD_eq_getElem?_getD]
      exact h2
  | z :: l, acc, i + 1, o, h, k, hk => by
    simp only [priors] at hk ⊢
    have := priors_at (l := l) (acc := acc ++ [(binds z).foldl (fun x j => x ||| 2 ^ j ||| acc.getD j 0) 0]) (i := i) (o := o) (by simpa using h) k (by simpa [Nat.add_assoc, Nat.add_comm 1 i] using hk)
    simpa [Nat.add_assoc, Nat.add_comm 1 i] using this

/-- With each operation those that it waits for. -/
def Closed (all : List Oper) (D : Nat → Bool) : Prop := ∀ i o, all[i]? = some o → D i = true → ∀ j ∈ binds o, D j = true

theorem closed_prior {all : List Oper} {D : Nat → Bool} (hC : Closed all D) : ∀ {i : Nat} {o : Oper}, all[i]? = some o → (∀ j ∈ binds o, D j = true) → ∀ k, Nat.testBit ((priors all []).getD i 0) k = true → D k = true := by
  intro i
  induction i using Nat.strongRecOn with
  | _ i ih =>
    intro o ho hb k hk
    have := priors_at (acc := []) ho k (by simpa using hk)
    obtain ⟨j, hj, h1⟩ := this
    rcases h1 with rfl | ⟨h1, h2⟩
    · exact hb _ hj
    · simp at h1
      have hlt : j < all.length := by
        have := (List.getElem?_eq_some_iff.1 ho).1
        omega
      have hj' : all[j]? = some all[j] := by simp [hlt]
      exact ih j h1 hj' (hC j _ hj' (hb j hj)) k h2

theorem Fact.move {all : List Oper} {nb i : Nat} {o : Oper} {s s' : St} {out : Outc} (ht : ∀ t ∈ readsT all o, getD .un t s'.tm = getD .un t s.tm) (hb : ∀ v u rd, out = some (v, u, rd) → ∀ b, b ∈ rd ∨ b ∈ upIds u → look b s'.st = look b s.st)
    (hf : Fact P all nb i o s out) : Fact P all nb i o s' out := by
  have hg : ∀ j want d, o.guard = some (j, want) → (all[j]?).bind (·.dst) = some d → d ∈ readsT all o := by
    intro j want d h1 h2
    simp [readsT, h1, h2]
  cases out with
  | none =>
    obtain ⟨j, want, d, h1, h2, h3⟩ := hf
    exact ⟨j, want, d, h1, h2, by rw [ht d (hg j want d h1 h2)]; exact h3⟩
  | some x =>
    obtain ⟨v, u, rd⟩ := x
    obtain ⟨h1, h2⟩ := hf
    refine ⟨fun j want hgd => ?_, fun s'' ha => h2 s'' ⟨fun x hx => (ha.ev x hx).trans ?_, fun b hb' => (ha.rd b hb').trans (hb v u rd rfl b (.inl hb')), fun b hb' => (ha.wr b hb').trans (hb v u rd rfl b (.inr hb'))⟩⟩
    · obtain ⟨d, k1, k2⟩ := h1 j want hgd
      exact ⟨d, k1, by rw [ht d (hg j want d hgd k1)]; exact k2⟩
    · cases x with
      | tmp t => exact ht t (by simp only [readsT, List.mem_append, List.mem_filterMap]; exact .inl ⟨.tmp t, by simpa using hx, rfl⟩)
      | _ => rfl

theorem touch_read {all : List Oper} {x y : Oper} {t : Nat} (h : x.dst = some t) (h' : t ∈ readsT all y) : touch all x y = true := by
  simp only [touch, h, Bool.or_eq_true]; exact .inl (memN_iff.2 h')
theorem touch_dst {all : List Oper} {x y : Oper} {t : Nat} (h : x.dst = some t) (h' : y.dst = some t) : touch all x y = true := by
  simp [touch, h, h']

def cntF : List Bool → Nat
  | [] => 0
  | b :: r => (if b then 0 else 1) + cntF r

theorem cntF_set : ∀ {l : List Bool} {i : Nat}, l[i]? = some false → cntF (l.set i true) + 1 = cntF l
  | [], i, h => by simp at h
  | b :: r, 0, h => by simp at h; subst h; simp [cntF]; omega
  | b :: r, i + 1, h => by
    simp only [List.getElem?_cons_succ] at h
    simp only [List.set_cons_succ, cntF]
    have := cntF_set h
    omega

theorem cntF_zero : ∀ {l : List Bool}, cntF l = 0 → ∀ i : Nat, l[i]? ≠ some false
  | [], _, i => by simp
  | b :: r, h, 0 => by
    simp only [cntF] at h
    cases b
    · simp at h
    · simp
  | b :: r, h, i + 1 => by
    simp only [cntF] at h
    simpa using cntF_zero (l := r) (by omega) i

variable {ops : Array Oper} {Q : Exit → Act → World → Prop}

def dof (listed : Array Bool) (k : Nat) : Bool := listed.getD k false

theorem mem_ready {listed : Array Bool} {i : Nat} : i ∈ Region.ready .any ops listed ↔ i < ops.size ∧ listed.getD i true = false ∧ ∃ o, ops[i]? = some o ∧ ∀ j ∈ binds o, listed.getD j false = true := by
  simp only [Region.ready, List.mem_filter, List.mem_range, Bool.and_eq_true, Bool.not_eq_true']
  constructor
  · rintro ⟨h1, h2, h3⟩
    refine ⟨h1, h2, ops[i], by simp [h1], ?_⟩
    have ho : ops[i]? = some ops[i] := by simp [h1]
    rw [ho] at h3
    simp only [Option.map_some, Option.getD_some, Array.all_eq_true'] at h3
    intro j hj
    simp only [binds, List.mem_map, List.mem_filter] at hj
    obtain ⟨e, ⟨he, hb⟩, rfl⟩ := hj
    have := h3 e (by simpa using he)
    simpa [hb] using this
  · rintro ⟨h1, h2, o, ho, h3⟩
    refine ⟨h1, h2, ?_⟩
    rw [ho]
    simp only [Option.map_some, Option.getD_some, Array.all_eq_true']
    intro e he
    cases hb : Region.binds .any e
    · simp
    · simp only [Bool.not_true, Bool.false_or]
      exact h3 e.on (by simp only [binds, List.mem_map, List.mem_filter]; exact ⟨e, ⟨by simpa using he, hb⟩, rfl⟩)

theorem any_ok {m N : Nat} {X0 : Cx} {s0 sf : St} {outs : List Outc} (hu : uniq s0.st) (hF : Facts P ops.toList s0.nx 0 ops.toList outs s0 sf) (hN : dstsOk N ops.toList = true) (hd : drawOk ops.toList = true) (hp : pairsOk (priors ops.toList []) (recsOf 0 outs) = true)
    (hQ : ∀ X' a, X'.s = { sf with nx := s0.nx + 16 * ops.size } → Inv m N X0 E X' a → Q .normal a X'.w) :
    ∀ (fuel : Nat) (listed : Array Bool) (X : Cx) (a : Act), listed.size = ops.size → cntF listed.toList = fuel → Closed ops.toList (dof listed) → Mid m N X0 E s0 (sig ops.toList outs (dof listed) 0 s0) (dof listed) X a → wpAny P .any ops Q fuel listed a X.w := by
  simp only [drawOk, Bool.and_eq_true] at hd
  obtain ⟨hb, ht⟩ := hd
  have fin : ∀ (listed : Array Bool) (X : Cx) (a : Act), listed.size = ops.size → (∀ i : Nat, listed.toList[i]? ≠ some false) → Mid m N X0 E s0 (sig ops.toList outs (dof listed) 0 s0) (dof listed) X a → Q .normal a X.w := by
    intro listed X a hsz hall hM
    have h1 : ∀ k, k < ops.size → dof listed k = true := by
      intro k hk
      have := hall k
      simp only [dof]
      cases e : listed.getD k false
      · exfalso
        apply this
        simp [hsz, hk] at e ⊢
        exact e
      · rfl
    have h2 : ∀ k, dof listed k = true → k < ops.size := by
      intro k hk
      rcases Nat.lt_or_ge k ops.size with h | h
      · exact h
      · simp [dof, show ¬ k < listed.size by omega] at hk
    obtain ⟨X', k1, k2, k3⟩ := hM.done hu hF.fin (by rw [hF.len]; simp) h1 h2
    rw [← k1]
    exact hQ X' a k2 k3
  intro fuel
  induction fuel with
  | zero =>
    intro listed X a hsz hcnt hC hM
    have hall := cntF_zero hcnt
    refine ⟨?_, fin listed X a hsz hall hM⟩
    rw [List.eq_nil_iff_forall_not_mem]
    intro i hi
    obtain ⟨h1, h2, _⟩ := mem_ready.1 hi
    refine hall i ?_
    simp [hsz, h1] at h2 ⊢
    exact h2
  | succ fuel ih =>
    intro listed X a hsz hcnt hC hM
    refine ⟨?_, ?_⟩
    · intro hr
      refine fin listed X a hsz ?_ hM
      intro i
      induction i using Nat.strongRecOn with
      | _ i ihi =>
        intro hi
        have hlt := (List.getElem?_eq_some_iff.1 hi).1
        have hlt' : i < ops.size := by rw [← hsz]; simpa using hlt
        have : i ∈ Region.ready .any ops listed := by
          refine mem_ready.2 ⟨hlt', ?_, ops[i], by simp [hlt'], ?_⟩
          · simp at hlt; simp [hlt] at hi ⊢; exact hi
          · intro j hj
            have hji := bindsOk_of hb (i := i) (x := ops[i]) (by simp [hlt']) j hj
            rw [Nat.zero_add] at hji
            have := ihi j hji
            have hjs : j < listed.size := by omega
            cases e : listed.getD j false
            · exfalso
              apply this
              simp [hjs] at e ⊢
              exact e
            · rfl
        rw [hr] at this
        simp at this
    · intro i hi
      obtain ⟨h1, h2, o, ho, h3⟩ := mem_ready.1 hi
      have hlt' : i < outs.length := by rw [hF.len]; simpa using h1
      have hout : outs[i]? = some outs[i] := by simp [hlt']
      have ho' : ops.toList[i]? = some o := by rw [Array.getElem?_toList]; exact ho
      have hfact := hF.fact i o outs[i] ho' hout
      rw [Nat.zero_add] at hfact
      have hDi : dof listed i = false := by
        simp [hsz, h1] at h2
        simp [dof, hsz, h1, h2]
      have pri : ∀ k, Nat.testBit ((priors ops.toList []).getD i 0) k = true → dof listed k = true := closed_prior hC ho' h3
      have post : ∀ k o', ops.toList[k]? = some o' → Nat.testBit ((priors ops.toList []).getD k 0) i = true → dof listed k = true → False := by
        intro k o' hk hb hDk
        have := closed_prior hC hk (hC k o' hk hDk) i hb
        rw [hDi] at this
        cases this
      have tp : ∀ {i j : Nat} {x y : Oper}, i < j → ops.toList[i]? = some x → ops.toList[j]? = some y → (touch ops.toList x y = true ∨ touch ops.toList y x = true) → Nat.testBit ((priors ops.toList []).getD j 0) i = true := by
        intro i j x y hij hx hy h
        have := tmpsOkL_of ht hij hx hy h
        simpa using this
      have hbk : ∀ k, before i k = decide (k < i) := fun k => by simp only [before]; rw [Bool.eq_iff_iff, Nat.blt_eq]; simp
      have hno : ∀ {p : Prop} {b : Bool}, b = true → b = false → p := by intro p b h h'; rw [h] at h'; cases h'
      -- what it looks at is as it was
      have hmove : Fact P ops.toList s0.nx i o (sig ops.toList outs (dof listed) 0 s0) outs[i] := by
        refine Fact.move ?_ ?_ hfact
        · intro t htr
          refine sig_tm t _ _ _ _ _ _ _ (fun k hw => ?_) rfl
          obtain ⟨ok, hk, hkd⟩ := hw
          rw [Nat.zero_add, hbk]
          rcases Nat.lt_trichotomy k i with h | h | h
          · rw [pri k (tp h hk ho' (.inl (touch_read hkd htr)))]; simp [h]
          · subst h; rw [hDi]; simp
          · cases e : dof listed k
            · simp; omega
            · exact (post k ok hk (tp h ho' hk (.inr (touch_read hkd htr))) e).elim
        · intro v u rd he b hbm
          refine sig_st b _ _ _ _ _ _ _ hu hu (fun k hw => ?_) rfl
          obtain ⟨outk, hk, hkb⟩ := hw
          rw [Nat.zero_add, hbk]
          have hklt : k < ops.toList.length := by rw [← hF.len]; exact (List.getElem?_eq_some_iff.1 hk).1
          have hko : ops.toList[k]? = some ops.toList[k] := by simp [hklt]
          cases outk with
          | none => simp [Outc.upd, upIds] at hkb
          | some z =>
            obtain ⟨vk, uk, rdk⟩ := z
            simp only [Outc.upd] at hkb
            rcases Nat.lt_trichotomy k i with h | h | h
            · have := recs_pair hp h hk (hout.trans (by rw [he])) (by
                simp only [clash, Bool.or_eq_true]
                rcases hbm with hbm | hbm
                · exact .inl (.inl (meet_of hkb hbm))
                · exact .inl (.inr (meet_of hkb hbm)))
              simp only [Nat.zero_add] at this
              rw [pri k this]; simp [h]
            · subst h; rw [hDi]; simp
            · cases e : dof listed k
              · simp; omega
              · have := recs_pair hp h (hout.trans (by rw [he])) hk (by
                  simp only [clash, Bool.or_eq_true]
                  rcases hbm with hbm | hbm
                  · exact .inr (meet_of hbm hkb)
                  · exact .inl (.inr (meet_of hbm hkb)))
                simp only [Nat.zero_add] at this
                exact (post k _ hko this e).elim
      refine mid_step hM hu ho hout hDi (fun d hd => dstsOk_of (i := i) hN ho' hd) hmove ?_ ?_ fun a' X' hM' => ?_
      · intro k t hk hD hdst hw
        obtain ⟨ok, hk1, hk2⟩ := hw
        exact post k ok hk1 (tp hk ho' hk1 (.inl (touch_dst hdst hk2))) hD
      · intro k b hk hD hbu hw
        obtain ⟨outk, hk1, hk2⟩ := hw
        have hklt : k < ops.toList.length := by rw [← hF.len]; exact (List.getElem?_eq_some_iff.1 hk1).1
        have hko : ops.toList[k]? = some ops.toList[k] := by simp [hklt]
        cases hoi : outs[i] with
        | none => rw [hoi] at hbu; simp [Outc.upd, upIds] at hbu
        | some y =>
          obtain ⟨v, u, rd⟩ := y
          rw [hoi] at hbu
          cases outk with
          | none => simp [Outc.upd, upIds] at hk2
          | some z =>
            obtain ⟨vk, uk, rdk⟩ := z
            simp only [Outc.upd] at hk2 hbu
            have := recs_pair hp hk (hout.trans (by rw [hoi])) hk1 (by
              simp only [clash, Bool.or_eq_true]
              exact .inl (.inr (meet_of hbu hk2)))
            simp only [Nat.zero_add] at this
            exact post k _ hko this hD
      · have hdof : dof (listed.setIfInBounds i true) = addD (dof listed) i := by
          funext k
          simp only [dof, addD]
          by_cases e : k = i
          · subst e; simp [hsz, h1]
          · rw [beq_false.2 e, Bool.or_false]
            simp [Array.getElem?_setIfInBounds_ne (Ne.symm e)]
        rw [← hdof] at hM'
        refine ih (listed.setIfInBounds i true) X' a' (by simp [hsz]) ?_ ?_ hM'
        · have : listed.toList[i]? = some false := by
            simp [hsz, h1] at h2 ⊢; exact h2
          have := cntF_set this
          simp only [Array.toList_setIfInBounds]
          omega
        · rw [hdof]
          intro k ok hk hDk j hj
          by_cases e : k = i
          · subst e
            rw [ho'] at hk
            cases hk
            exact addD_of (h3 j hj)
          · rw [addD_ne e] at hDk
            exact addD_of (hC k ok hk hDk j hj)

end Go.Ev

/- Fixed forms: what changes nothing in the world. -/
namespace Go.Ev

variable {R : Type} {E : Env} {X : Cx} {P : Program}

/-- A move that the world does not see. -/
structure Quiet (E : Env) (X X' : Cx) : Prop where
  rel : Rel E X'
  ext : Ext X X'
  S : X'.S = X.S
  w : X'.w = X.w
  tm : X'.s.tm = X.s.tm
  nx : X.s.nx ≤ X'.s.nx
  top : ∀ b, X'.s.nx ≤ b → X'.cm b = none

/-- Numbers from nx on are free. -/
def Top (X : Cx) : Prop := ∀ b, X.s.nx ≤ b → X.cm b = none

theorem Quiet.refl (hR : Rel E X) (hT : Top X) : Quiet E X X := ⟨hR, .refl X, rfl, rfl, rfl, Nat.le_refl _, hT⟩
theorem Quiet.trans {X Y Z : Cx} (h : Quiet E X Y) (k : Quiet E Y Z) : Quiet E X Z := ⟨k.rel, h.ext.trans k.ext, k.S.trans h.S, k.w.trans h.w, k.tm.trans h.tm, Nat.le_trans h.nx k.nx, k.top⟩

/-- Boxes stay as they are. -/
def Boxes (X X' : Cx) : Prop := ∀ b ro v ps, look b X.s.st = some (.cell ro v ps) → rowK ps = none → look b X'.s.st = some (.cell ro v ps) ∧ X'.cm b = X.cm b

theorem Boxes.refl (X : Cx) : Boxes X X := fun _ _ _ _ h _ => ⟨h, rfl⟩
theorem Boxes.trans {X Y Z : Cx} (h : Boxes X Y) (k : Boxes Y Z) : Boxes X Z := fun b ro v ps hl hr => by
  obtain ⟨h1, h2⟩ := h b ro v ps hl hr
  obtain ⟨k1, k2⟩ := k b ro v ps h1 hr
  exact ⟨k1, k2.trans h2⟩

/-- A new row that takes the place of a part. -/
theorem quiet_row (hR : Rel E X) (hT : Top X) {K : Ki} {l : List K.den} {ks : List Nat} {A : Option Addr} {c : Nat} {fp : List Nat} (hks : ∀ b ∈ ks, ∃ ro v K l, look b X.s.st = some (.cell ro v [.rw K l])) (ho : OwnS X.w K.size l.length (OwnRow X.w K l) (.slice A l.length c) fp) (hf : FromKs X ks fp)
    {st' : List (Nat × Blk)} (hst : ∀ b, look b st' = look b (applyU ((X.s.nx, some (.cell false 0 [.rw K l])) :: kills ks) X.s.st)) (hu : uniq st') :
    ∃ X', X'.s = { X.s with st := st', nx := X.s.nx + 1 } ∧ Quiet E X X' ∧ VRel X' (.sl X.s.nx) (.slice A l.length c) ∧ Boxes X X' := by
  have hks' : ∀ b ∈ ks, ∃ x, look b X.s.st = some x := fun b hb => by
    obtain ⟨ro, v, K, l, h⟩ := hks b hb
    exact ⟨_, h⟩
  have hF : Fresh X X.s.nx := fun b hb _ => hT b hb
  have hN : NewBlk E X X.s.nx (.cell false 0 [.rw K l]) ks (.row A l.length c K.size fp) X.w (fun _ => False) (addBlk X X.s.nx (.cell false 0 [.rw K l]) ks (.row A l.length c K.size fp) X.w) :=
    ⟨rfl, rfl, rfl, rfl, hF, hks', rfl, rfl, rfl, Nat.le_refl _, fun _ _ _ => rfl, fun g hg => hg.elim⟩
  have hG := hN.good (v := .sl X.s.nx) (val := .slice A l.length c) hR (fun hx => .row rfl rfl (OwnS.move ho fun g hg => rfl)) hf.nodup
    (fun g hg => by
      obtain ⟨b, x, cb, q1, q2, q3, q4⟩ := hf.mem g hg
      obtain ⟨cb', j1, _, _, j4⟩ := hR.blk b x q2
      rw [q3] at j1
      cases j1
      exact ⟨(j4 g q4).1, .inr ⟨b, x, cb, .inr q1, q2, q3, q4⟩⟩)
    (fun hx => .sl (sz := K.size) (fp := fp) (by simp [addBlk]))
  let Y := setS (addBlk X X.s.nx (.cell false 0 [.rw K l]) ks (.row A l.length c K.size fp) X.w) { X.s with st := st', nx := X.s.nx + 1 }
  have hx : Ext (addBlk X X.s.nx (.cell false 0 [.rw K l]) ks (.row A l.length c K.size fp) X.w) Y := Ext.seq rfl rfl rfl fun b => hst b
  refine ⟨Y, rfl, ⟨hG.rel.seq rfl rfl rfl (fun b => hst b) hu, hG.ext.trans hx, rfl, rfl, rfl, Nat.le_succ _, ?_⟩, hG.val.ext hx, ?_⟩
  · intro b hb
    have hb' : X.s.nx + 1 ≤ b := hb
    show (if b = X.s.nx then some _ else X.cm b) = none
    rw [if_neg (by omega)]
    exact hT b (by omega)
  · intro b ro v ps hl hrow
    have hne : b ≠ X.s.nx := by
      intro e
      obtain ⟨cb, hcb, _⟩ := hR.blk b _ hl
      rw [hT b (by omega)] at hcb
      cases hcb
    have hnk : b ∉ ks := by
      intro hm
      obtain ⟨ro', v', K', l', h⟩ := hks b hm
      rw [hl] at h
      cases h
      simp [rowK] at hrow
    refine ⟨?_, ?_⟩
    · show look b st' = _
      rw [hst, look_applyU _ _ hR.uq]
      simp only [effU, effU_kills, if_neg hnk, if_neg hne]
      exact hl
    · show (if b = X.s.nx then some _ else X.cm b) = X.cm b
      rw [if_neg hne]

theorem canon1_ok (hR : Rel E X) (hT : Top X) {m : Nat} {all : List Nat} {a a' : AV} {s' : St} {v : Value} (hv : VRel X a v) (h : canon1 m all a X.s = (a', s')) : ∃ X', X'.s = s' ∧ Quiet E X X' ∧ VRel X' a' v ∧ (a.plain = true → a'.plain = true) ∧ (a.norw = true → a'.norw = true) ∧ Boxes X X' := by
  have keep : (a, X.s) = (a', s') → ∃ X', X'.s = s' ∧ Quiet E X X' ∧ VRel X' a' v ∧ (a.plain = true → a'.plain = true) ∧ (a.norw = true → a'.norw = true) ∧ Boxes X X' := by
    intro e
    cases e
    exact ⟨X, rfl, .refl hR hT, hv, id, id, .refl X⟩
  unfold canon1 at h
  split at h
  · rename_i K
    cases h
    cases hv
    obtain ⟨X', h1, h2, h3, h4⟩ := quiet_row (K := K) (l := []) (ks := []) (A := none) (c := 0) (fp := []) (st' := put X.s.nx (.cell false 0 [.rw K []]) X.s.st) hR hT (by simp) ⟨none, 0, rfl, .inl ⟨rfl, rfl, rfl⟩⟩ .nil (fun b => by simp [kills, applyU]) (uniq_put hR.uq)
    exact ⟨X', h1, h2, h3, fun _ => rfl, fun _ => rfl, h4⟩
  · rename_i b o n
    cases hc : Nat.beq (cnt b all) 1 <;> rw [hc] at h <;> simp only [cond_true, cond_false] at h
    · exact keep h
    split at h
    case h_2 => exact keep h
    rename_i ver K l hl
    cases h
    have hst : ∀ k, look k (put X.s.nx (.cell false 0 [.rw K ((l.drop o).take n)]) (del b X.s.st)) = look k (applyU ((X.s.nx, some (.cell false 0 [.rw K ((l.drop o).take n)])) :: kills [b]) X.s.st) := by
      intro k
      have hne : X.s.nx ≠ b := by
        intro e
        obtain ⟨cb, hcb, _⟩ := hR.blk b _ hl
        rw [hT b (by omega)] at hcb
        cases hcb
      rw [look_applyU _ _ hR.uq]
      simp only [effU, effU_kills, List.mem_singleton]
      rw [look_put, look_del _ hR.uq]
      by_cases h1 : k = X.s.nx
      · subst h1; simp [hne]
      · by_cases h2 : k = b
        · subst h2; simp [h1]
        · simp [h1, h2]
    obtain ⟨A, cc, fp, u1, u2, u3, u4⟩ := rel_row hR hl
    have hlive : ∀ b' ∈ [b], ∃ ro v K l, look b' X.s.st = some (.cell ro v [.rw K l]) := by
      intro b' hb'
      rw [List.mem_singleton] at hb'
      subst hb'
      exact ⟨_, _, _, _, hl⟩
    cases hv with
    | ss0 hcm ho =>
      have hz : (l.drop o).take 0 = [] := rfl
      rw [hz] at hst ⊢
      obtain ⟨X', h1, h2, h3, h4⟩ := quiet_row (K := K) (l := []) (ks := [b]) (c := 0) (fp := []) hR hT hlive ⟨_, 0, rfl, .inl ⟨rfl, rfl, rfl⟩⟩ ⟨by simp, by simp⟩ hst (uniq_put (uniq_del hR.uq))
      exact ⟨X', h1, h2, h3, fun _ => rfl, fun _ => rfl, h4⟩
    | ss hcm v1 v2 v3 =>
      rw [u1] at hcm
      cases hcm
      obtain ⟨f', q1, q2⟩ := OwnS_part rfl u2 v1 v2 v3
      have hlen : ((l.drop o).take n).length = n := by simp; omega
      have hfk : FromKs X [b] f' := by
        have := FromKs.nil.cons hR hl u1 q2 (by simp)
        simpa using this
      obtain ⟨X', h1, h2, h3, h4⟩ := quiet_row (K := K) (l := (l.drop o).take n) (ks := [b]) hR hT hlive (by rw [hlen]; exact q1) hfk hst (uniq_put (uniq_del hR.uq))
      rw [hlen] at h3
      exact ⟨X', h1, h2, h3, fun _ => rfl, fun _ => rfl, h4⟩
  · rename_i b
    cases hc : (Nat.blt b m && Nat.beq (cnt b all) 1) <;> rw [hc] at h <;> simp only [cond_true, cond_false] at h
    · exact keep h
    split at h
    case h_2 => exact keep h
    rename_i ver K l hl
    cases h
    have hst : ∀ k, look k (put X.s.nx (.cell false 0 [.rw K l]) (del b X.s.st)) = look k (applyU ((X.s.nx, some (.cell false 0 [.rw K l])) :: kills [b]) X.s.st) := by
      intro k
      have hne : X.s.nx ≠ b := by
        intro e
        obtain ⟨cb, hcb, _⟩ := hR.blk b _ hl
        rw [hT b (by omega)] at hcb
        cases hcb
      rw [look_applyU _ _ hR.uq]
      simp only [effU, effU_kills, List.mem_singleton]
      rw [look_put, look_del _ hR.uq]
      by_cases h1 : k = X.s.nx
      · subst h1; simp [hne]
      · by_cases h2 : k = b
        · subst h2; simp [h1]
        · simp [h1, h2]
    obtain ⟨A, cc, fp, u1, u2, u3, u4⟩ := rel_row hR hl
    have hlive : ∀ b' ∈ [b], ∃ ro v K l, look b' X.s.st = some (.cell ro v [.rw K l]) := by
      intro b' hb'
      rw [List.mem_singleton] at hb'
      subst hb'
      exact ⟨_, _, _, _, hl⟩
    cases hv with
    | sl hcm =>
      rw [u1] at hcm
      cases hcm
      have hfk : FromKs X [b] fp := by
        have := FromKs.nil.cons hR hl u1 (List.Sublist.refl fp) (by simp)
        simpa using this
      obtain ⟨X', h1, h2, h3, h4⟩ := quiet_row (K := K) (l := l) (ks := [b]) hR hT hlive u2 hfk hst (uniq_put (uniq_del hR.uq))
      exact ⟨X', h1, h2, h3, fun _ => rfl, fun _ => rfl, h4⟩
  · exact keep h

theorem Quiet.fp {X X' : Cx} (h : Quiet E X X') (fp : List Nat) : ∀ g ∈ fp, X'.w.heap[g]? = X.w.heap[g]? := fun g _ => by rw [h.w]

theorem canonL_ok {m : Nat} : ∀ {X : Cx} {all : List Nat} {ps qs : List AV} {s' : St} {cs : List Value} {fp : List Nat}, Rel E X → Top X → PRs X ps cs fp → canonL m all ps X.s = (qs, s') → ∃ X', X'.s = s' ∧ Quiet E X X' ∧ PRs X' qs cs fp ∧ ((∀ a ∈ ps, a.norw = true) → ∀ a ∈ qs, a.norw = true) ∧ Boxes X X'
  | X, all, _, qs, s', _, _, hR, hT, .nil, h => by
    simp only [canonL, Prod.mk.injEq] at h
    obtain ⟨rfl, rfl⟩ := h
    exact ⟨X, rfl, .refl hR hT, .nil, fun h => h, .refl X⟩
  | X, all, _, qs, s', _, fp, hR, hT, @PRs.one _ a v r cs _ h1 h2 h3 h4, h => by
    simp only [canonL] at h
    generalize hc : canon1 m all a X.s = z at h
    obtain ⟨a', s1⟩ := z
    simp only at h
    generalize hr : canonL m all r s1 = z at h
    obtain ⟨r', s2⟩ := z
    simp only [Prod.mk.injEq] at h
    obtain ⟨rfl, rfl⟩ := h
    obtain ⟨X1, k1, k2, k3, k4, k5, k6⟩ := canon1_ok hR hT h3 hc
    subst k1
    obtain ⟨X2, j1, j2, j3, j4, j5⟩ := canonL_ok k2.rel k2.top (h4.ext k2.ext (k2.fp fp)) hr
    refine ⟨X2, j1, k2.trans j2, .one (k4 h1) h2 (k3.ext j2.ext) j3, fun hn a ha => ?_, k6.trans j5⟩
    rcases List.mem_cons.1 ha with rfl | ha
    · exact k5 (hn _ (by simp))
    · exact j4 (fun a ha => hn a (by simp [ha])) a ha
  | X, all, _, qs, s', _, _, hR, hT, @PRs.arr _ n K l r c1 cs f1 fp h1 h2 h3, h => by
    simp only [canonL, canon1] at h
    generalize hr : canonL m all r X.s = z at h
    obtain ⟨r', s2⟩ := z
    simp only [Prod.mk.injEq] at h
    obtain ⟨rfl, rfl⟩ := h
    obtain ⟨X2, j1, j2, j3, j4, j5⟩ := canonL_ok hR hT h3 hr
    refine ⟨X2, j1, j2, .arr h1 (h2.move (j2.fp f1)) j3, fun hn a ha => ?_, j5⟩
    rcases List.mem_cons.1 ha with rfl | ha
    · rfl
    · exact j4 (fun a ha => hn a (by simp [ha])) a ha
  | X, all, _, qs, s', _, _, hR, hT, @PRs.nl _ K l v r cs f1 fp h1 h3, h => by
    simp only [canonL, canon1] at h
    generalize hr : canonL m all r X.s = z at h
    obtain ⟨r', s2⟩ := z
    simp only [Prod.mk.injEq] at h
    obtain ⟨rfl, rfl⟩ := h
    obtain ⟨X2, j1, j2, j3, j4, j5⟩ := canonL_ok hR hT h3 hr
    refine ⟨X2, j1, j2, .nl (h1.move (j2.fp f1)) j3, fun hn a ha => ?_, j5⟩
    rcases List.mem_cons.1 ha with rfl | ha
    · rfl
    · exact j4 (fun a ha => hn a (by simp [ha])) a ha
  | X, all, _, qs, s', _, _, hR, hT, @PRs.rw _ K l r c1 cs f1 fp h2 h3, h => by
    simp only [canonL, canon1] at h
    generalize hr : canonL m all r X.s = z at h
    obtain ⟨r', s2⟩ := z
    simp only [Prod.mk.injEq] at h
    obtain ⟨rfl, rfl⟩ := h
    obtain ⟨X2, j1, j2, j3, j4, j5⟩ := canonL_ok hR hT h3 hr
    refine ⟨X2, j1, j2, .rw (h2.move (j2.fp f1)) j3, fun hn a ha => ?_, j5⟩
    exact absurd (hn _ (List.mem_cons_self ..)) (by simp [AV.norw])

theorem canonA_ok {all : List Nat} {a a' : AV} {s' : St} {v : Value} (hR : Rel E X) (hT : Top X) (hv : VRel X a v) (h : canonA all a X.s = (a', s')) : ∃ X', X'.s = s' ∧ Quiet E X X' ∧ VRel X' a' v := by
  unfold canonA at h
  split at h
  · rename_i ps
    generalize hr : canonL 0 all ps X.s = z at h
    obtain ⟨qs, s1⟩ := z
    simp only [Prod.mk.injEq] at h
    obtain ⟨rfl, rfl⟩ := h
    cases hv with
    | agg hp hn =>
      obtain ⟨X', j1, j2, j3, j4, _⟩ := canonL_ok hR hT hp hr
      exact ⟨X', j1, j2, .agg j3 (j4 hn)⟩
  · obtain ⟨X', k1, k2, k3, _⟩ := canon1_ok hR hT hv h
    exact ⟨X', k1, k2, k3⟩

theorem canonT_ok {all : List Nat} : ∀ {X : Cx} {as as' : List AV} {s' : St} {vs : List Value}, Rel E X → Top X → VRels X as vs → canonT all as X.s = (as', s') → ∃ X', X'.s = s' ∧ Quiet E X X' ∧ VRels X' as' vs
  | X, _, as', s', _, hR, hT, .nil, h => by
    simp only [canonT, Prod.mk.injEq] at h
    obtain ⟨rfl, rfl⟩ := h
    exact ⟨X, rfl, .refl hR hT, .nil⟩
  | X, _, as', s', _, hR, hT, @VRels.cons _ a v as vs h1 h2, h => by
    simp only [canonT] at h
    generalize hc : canonA all a X.s = z at h
    obtain ⟨a', s1⟩ := z
    simp only at h
    generalize hr : canonT all as s1 = z at h
    obtain ⟨r', s2⟩ := z
    simp only [Prod.mk.injEq] at h
    obtain ⟨rfl, rfl⟩ := h
    obtain ⟨X1, k1, k2, k3⟩ := canonA_ok hR hT h1 hc
    subst k1
    obtain ⟨X2, j1, j2, j3⟩ := canonT_ok k2.rel k2.top (h2.ext k2.ext) hr
    exact ⟨X2, j1, k2.trans j2, .cons (k3.ext j2.ext) j3⟩

theorem canonV_ok {all : List Nat} {a a' : AV} {s' : St} {v : Value} (hR : Rel E X) (hT : Top X) (hv : VRel X a v) (h : canonV all a X.s = (a', s')) : ∃ X', X'.s = s' ∧ Quiet E X X' ∧ VRel X' a' v := by
  unfold canonV at h
  split at h
  · rename_i vs
    generalize hr : canonT all vs X.s = z at h
    obtain ⟨qs, s1⟩ := z
    simp only [Prod.mk.injEq] at h
    obtain ⟨rfl, rfl⟩ := h
    cases hv with
    | tup hp =>
      obtain ⟨X', j1, j2, j3⟩ := canonT_ok hR hT hp hr
      exact ⟨X', j1, j2, .tup j3⟩
  · exact canonA_ok hR hT hv h

/-- The slots, each with what it holds. -/
def KRel (X : Cx) (a : Act) (l : List (Nat × AV)) : Prop := ∀ x ∈ l, VRel X x.2 (a.tmps.getD x.1 undef)

theorem canonK_ok {all : List Nat} {a : Act} : ∀ {l l' : List (Nat × AV)} {X : Cx} {s' : St}, Rel E X → Top X → KRel X a l → canonK all l X.s = (l', s') → ∃ X', X'.s = s' ∧ Quiet E X X' ∧ KRel X' a l'
  | [], l', X, s', hR, hT, hk, h => by
    simp only [canonK, Prod.mk.injEq] at h
    obtain ⟨rfl, rfl⟩ := h
    exact ⟨X, rfl, .refl hR hT, hk⟩
  | (i, x) :: r, l', X, s', hR, hT, hk, h => by
    simp only [canonK] at h
    generalize hc : canonV all x X.s = z at h
    obtain ⟨x', s1⟩ := z
    simp only at h
    generalize hr : canonK all r s1 = z at h
    obtain ⟨r', s2⟩ := z
    simp only [Prod.mk.injEq] at h
    obtain ⟨rfl, rfl⟩ := h
    obtain ⟨X1, k1, k2, k3⟩ := canonV_ok hR hT (hk _ (List.mem_cons_self ..)) hc
    subst k1
    obtain ⟨X2, j1, j2, j3⟩ := canonK_ok k2.rel k2.top (fun y hy => (hk y (by simp [hy])).ext k2.ext) hr
    refine ⟨X2, j1, k2.trans j2, ?_⟩
    intro y hy
    rcases List.mem_cons.1 hy with rfl | hy
    · exact k3.ext j2.ext
    · exact j3 y hy

theorem rowK_norw {ps : List AV} (h : ∀ a ∈ ps, a.norw = true) : rowK ps = none := by
  unfold rowK
  split
  · rename_i K l
    have := h _ (List.mem_cons_self ..)
    simp [AV.norw] at this
  · rfl

theorem canonB_ok {m : Nat} {all : List Nat} : ∀ {ids : List Nat} {X : Cx}, Rel E X → Top X → ∃ X', X'.s = canonB m all ids X.s ∧ Quiet E X X'
  | [], X, hR, hT => ⟨X, rfl, .refl hR hT⟩
  | b :: r, X, hR, hT => by
    simp only [canonB]
    split
    case h_2 => exact canonB_ok hR hT
    rename_i ro v ps hl
    cases hrow : rowK ps with
    | some K => exact canonB_ok hR hT
    | none =>
      simp only
      generalize hc : canonL m all ps X.s = z
      obtain ⟨qs, s1⟩ := z
      simp only
      obtain ⟨cb, c1, c2, c3, c4⟩ := hR.blk b _ hl
      cases c2 with
      | row h1 h2 h3 => simp [rowK] at hrow
      | @box g fps _ _ _ cur h1 h2 h3 =>
        obtain ⟨X1, k1, k2, k3, k4, k5⟩ := canonL_ok hR hT h3 hc
        subst k1
        obtain ⟨l1, l2⟩ := k5 b ro v ps hl hrow
        rw [c1] at l2
        have hq := k4 h1
        let Y := setS X1 { X1.s with st := put b (.cell ro v qs) X1.s.st }
        have hlk : ∀ k, look k Y.s.st = if k = b then some (.cell ro v qs) else look k X1.s.st := fun k => look_put _ _
        have hx : Ext X1 Y := by
          refine ⟨fun k c h => ⟨c, h, c.same_refl⟩, fun n g h => ⟨h, rfl⟩, ?_⟩
          intro k c hcm ro' v' ps' hl'
          rw [hlk] at hl'
          by_cases e : k = b
          · subst e
            simp only [if_true, Option.some.injEq, Blk.cell.injEq] at hl'
            obtain ⟨rfl, rfl, rfl⟩ := hl'
            refine ⟨ro, v, ps, l1, Nat.le_refl _, fun _ hn => ?_⟩
            obtain ⟨K, l, e1, _⟩ := hn
            have := rowK_norw hq
            rw [e1] at this
            simp [rowK] at this
          · rw [if_neg e] at hl'
            exact ⟨ro', v', ps', hl', Nat.le_refl _, fun _ _ => ⟨rfl, rfl, rfl, fun _ _ => rfl⟩⟩
        have hRY : Rel E Y := by
          refine ⟨?_, ?_, k2.rel.out, k2.rel.fr, uniq_put k2.rel.uq⟩
          · intro k x hk
            rw [hlk] at hk
            by_cases e : k = b
            · subst e
              simp only [if_true, Option.some.injEq] at hk
              subst hk
              obtain ⟨cb1, m1, m2, m3, m4⟩ := k2.rel.blk k _ l1
              rw [l2] at m1
              cases m1
              exact ⟨_, l2, .box hq (by have := h2; exact this.same (by show X1.w.heap[g]? = _; rw [k2.w])) (k3.ext hx (fun _ _ => rfl)), m3, m4⟩
            · rw [if_neg e] at hk
              obtain ⟨cb1, m1, m2, m3, m4⟩ := k2.rel.blk k x hk
              exact ⟨cb1, m1, m2.ext hx (fun _ _ => rfl), m3, m4⟩
          · intro k k' x x' cb cb' g' hk hk' hc hc' hg hg'
            have live : ∀ {k x}, look k Y.s.st = some x → ∃ x, look k X1.s.st = some x := by
              intro k x hk
              rw [hlk] at hk
              by_cases e : k = b
              · subst e; exact ⟨_, l1⟩
              · rw [if_neg e] at hk; exact ⟨_, hk⟩
            obtain ⟨y, hy⟩ := live hk
            obtain ⟨y', hy'⟩ := live hk'
            exact k2.rel.dis k k' y y' cb cb' g' hy hy' hc hc' hg hg'
        have hQ : Quiet E X Y := ⟨hRY, k2.ext.trans hx, k2.S, k2.w, k2.tm, k2.nx, k2.top⟩
        obtain ⟨X2, m1, m2⟩ := canonB_ok (m := m) (all := all) (ids := r) hRY hQ.top
        exact ⟨X2, m1, hQ.trans m2⟩

end Go.Ev

/- Fixed forms: numbered anew. -/
namespace Go.Ev

variable {R : Type} {E : Env} {X : Cx} {P : Program}

section
variable {α : Type}

theorem look_zip_some : ∀ {ks : List Nat} {vs : List α} {b : Nat} {x : α}, look b (ks.zip vs) = some x → ∃ j : Nat, ks[j]? = some b ∧ vs[j]? = some x
  | [], _, _, _, h => by simp [look] at h
  | _ :: _, [], _, _, h => by simp [look] at h
  | k :: ks, v :: vs, b, x, h => by
    simp only [List.zip_cons_cons, look] at h
    cases hb : Nat.beq k b <;> rw [hb] at h
    · obtain ⟨j, h1, h2⟩ := look_zip_some (by simpa using h)
      exact ⟨j + 1, by simpa using h1, by simpa using h2⟩
    · simp only [cond_true, Option.some.injEq] at h
      subst h
      exact ⟨0, by simp [beq_true.1 hb], rfl⟩

theorem zip_look : ∀ {ks : List Nat} {vs : List α} {b j : Nat} {x : α}, ks.Nodup → ks[j]? = some b → vs[j]? = some x → look b (ks.zip vs) = some x
  | [], _, _, _, _, _, h, _ => by simp at h
  | _ :: _, [], _, _, _, _, _, h => by simp at h
  | k :: ks, v :: vs, b, 0, x, _, h, h' => by
    simp only [List.getElem?_cons_zero, Option.some.injEq] at h h'
    subst h h'
    simp [look]
  | k :: ks, v :: vs, b, j + 1, x, hn, h, h' => by
    simp only [List.getElem?_cons_succ] at h h'
    obtain ⟨h1, h2⟩ := List.nodup_cons.1 hn
    have hne : k ≠ b := fun e => h1 (e ▸ List.mem_of_getElem? h)
    simp only [List.zip_cons_cons, look, beq_false.2 hne, cond_false]
    exact zip_look h2 h h'

theorem uniq_zip : ∀ {ks : List Nat} {vs : List α}, ks.Nodup → uniq (ks.zip vs)
  | [], _, _ => by simp [uniq]
  | _ :: _, [], _ => by simp [uniq]
  | k :: ks, v :: vs, hn => by
    obtain ⟨h1, h2⟩ := List.nodup_cons.1 hn
    refine ⟨?_, uniq_zip h2⟩
    cases e : look k (ks.zip vs) with
    | none => exact e
    | some x =>
      obtain ⟨j, h3, _⟩ := look_zip_some e
      exact (h1 (List.mem_of_getElem? h3)).elim

theorem uniq_append : ∀ {a b : List (Nat × α)}, uniq a → uniq b → (∀ k x, look k a = some x → look k b = none) → uniq (a ++ b)
  | [], b, _, h, _ => h
  | (k, x) :: a, b, h1, h2, h3 => by
    refine ⟨?_, uniq_append h1.2 h2 fun j y hj => ?_⟩
    · show look k (a ++ b) = none
      rw [look_append, h1.1]
      exact h3 k x (by simp [look])
    · refine h3 j y ?_
      simp only [look]
      cases hb : Nat.beq k j
      · exact hj
      · have := beq_true.1 hb
        subst this
        rw [h1.1] at hj
        cases hj

theorem look_same : ∀ (l : List Nat) (b : Nat), look b (l.map fun b => (b, b)) = if b ∈ l then some b else none
  | [], b => by simp [look]
  | a :: l, b => by
    simp only [List.map_cons, look, List.mem_cons]
    cases h : Nat.beq a b
    · have := beq_false.1 h
      simp only [cond_false, look_same l b]
      by_cases hb : b ∈ l
      · simp [hb]
      · simp [hb, Ne.symm this]
    · have := beq_true.1 h
      subst this
      simp

end

theorem renB_row {ok : Nat → Nat → Bool} {m : List (Nat × Nat)} {ro : Bool} {v : Nat} {K : Ki} {l : List K.den} {y : Blk} (h : renB ok 0 m (.cell ro v [.rw K l]) = some y) : y = .cell ro 0 [.rw K l] := by
  simp only [renB] at h
  split at h
  case h_2 => cases h
  rename_i qs hq
  cases h
  obtain ⟨b, bs, e1, e2, rfl⟩ := mapM_cons hq
  rw [mapM_nil e2]
  simp only [ren, Option.some.injEq] at e1
  rw [← e1]

theorem renum_ok (hR : Rel E X) {m : Nat} {roots : List Nat} {nm : List (Nat × Nat)} {st : List (Nat × Blk)} {ns : List Blk} (h : renum m X.s roots = some (nm, st, ns)) (tm : List (Nat × AV)) :
    ∃ X', X'.s = { tm, st, nx := m + ns.length } ∧ X'.w = X.w ∧ X'.S = X.S ∧ Rel E X' ∧ Top X' ∧ (∀ b, b < m → X'.cm b = X.cm b) ∧ Sim X X' (fun b v => valid X.s (.ver b v)) 0 nm ∧ ∀ b, m ≤ b → look b st = ns[b - m]? := by
  unfold renum at h
  simp only at h
  generalize hids : clos X.s.st 64 (List.range m ++ roots) [] = ids at h
  generalize hold : ids.filter (fun b => Nat.blt b m) = old at h
  generalize hnew : ids.filter (fun b => !(Nat.blt b m)) = new at h
  split at h
  case h_2 => cases h
  rename_i os ns' hos hns
  obtain ⟨hnd, h⟩ := chk_some h
  rw [nodupN_iff] at hnd
  simp only [Option.some.injEq, Prod.mk.injEq] at h
  obtain ⟨rfl, rfl, rfl⟩ := h
  have oldlt : ∀ b ∈ old, b < m := by
    intro b hb
    rw [← hold, List.mem_filter] at hb
    have := hb.2
    rwa [Nat.blt_eq] at this
  have newge : ∀ b ∈ new, m ≤ b := by
    intro b hb
    rw [← hnew, List.mem_filter] at hb
    have := hb.2
    rw [Bool.not_eq_true', ← Bool.not_eq_true, Nat.blt_eq] at this
    omega
  have oldnd : old.Nodup := by rw [← hold]; exact hnd.filter _
  have newnd : new.Nodup := by rw [← hnew]; exact hnd.filter _
  obtain ⟨o1, o2⟩ := blksOf_some hos
  obtain ⟨n1, n2⟩ := blksOf_some hns
  -- the numbering
  have lnm : ∀ {b b' : Nat}, look b (old.map (fun b => (b, b)) ++ number m new) = some b' → (b ∈ old ∧ b' = b) ∨ (m ≤ b' ∧ new[b' - m]? = some b) := by
    intro b b' hb
    rw [look_append, look_same] at hb
    by_cases hm : b ∈ old
    · rw [if_pos hm] at hb
      simp only [Option.some.injEq] at hb
      exact .inl ⟨hm, hb.symm⟩
    · rw [if_neg hm] at hb
      exact .inr (look_number hb)
  -- the blocks
  have lst : ∀ {b : Nat} {x : Blk}, look b (old.zip os ++ enum m ns') = some x → (b < m ∧ ∃ j : Nat, old[j]? = some b ∧ os[j]? = some x) ∨ (m ≤ b ∧ ns'[b - m]? = some x) := by
    intro b x hb
    rw [look_append] at hb
    cases e : look b (old.zip os) with
    | some y =>
      rw [e] at hb
      cases hb
      obtain ⟨j, h1, h2⟩ := look_zip_some e
      exact .inl ⟨oldlt b (List.mem_of_getElem? h1), j, h1, h2⟩
    | none =>
      rw [e] at hb
      simp only [look_enum] at hb
      by_cases hm : m ≤ b
      · rw [if_pos hm] at hb; exact .inr ⟨hm, hb⟩
      · rw [if_neg hm] at hb; cases hb
  have lge : ∀ {b : Nat}, m ≤ b → look b (old.zip os ++ enum m ns') = ns'[b - m]? := by
    intro b hb
    rw [look_append]
    cases e : look b (old.zip os) with
    | some y =>
      obtain ⟨j, h1, _⟩ := look_zip_some e
      have := oldlt b (List.mem_of_getElem? h1)
      omega
    | none => simp only [look_enum, if_pos hb]
  have llt : ∀ {b j : Nat} {x : Blk}, old[j]? = some b → os[j]? = some x → look b (old.zip os ++ enum m ns') = some x := by
    intro b j x h1 h2
    rw [look_append, zip_look oldnd h1 h2]
  have uq : uniq (old.zip os ++ enum m ns') := by
    refine uniq_append (uniq_zip oldnd) (uniq_enum _ _) fun k x hk => ?_
    obtain ⟨j, h1, _⟩ := look_zip_some hk
    have := oldlt k (List.mem_of_getElem? h1)
    rw [look_enum, if_neg (by omega)]
  let Y : Cx := { cm := fun b => if b < m then X.cm b else (new[b - m]?).bind X.cm, S := X.S, s := { tm, st := old.zip os ++ enum m ns', nx := m + ns'.length }, w := X.w }
  have cmlt : ∀ {b : Nat}, b < m → Y.cm b = X.cm b := fun hb => if_pos hb
  have cmge : ∀ {b c : Nat}, m ≤ b → new[b - m]? = some c → Y.cm b = X.cm c := by
    intro b c hb hc
    show (if b < m then X.cm b else (new[b - m]?).bind X.cm) = _
    rw [if_neg (by omega), hc]
    rfl
  have sim : Sim X Y (fun b v => valid X.s (.ver b v)) 0 (old.map (fun b => (b, b)) ++ number m new) := by
    refine ⟨rfl, ?_, ?_, fun _ _ h => h, ?_⟩
    · intro b b' cb hb hc
      rcases lnm hb with ⟨h1, rfl⟩ | ⟨h1, h2⟩
      · rw [cmlt (oldlt _ h1)]; exact hc
      · rw [cmge h1 h2]; exact hc
    · intro p p' hp hn g hg
      cases p with
      | frz => simp [pvR] at hp; subst hp; exact hg
      | reg n => simp [pvR] at hp; subst hp; exact hg
      | ver b v => exact (hn b v rfl).elim
    · intro b b' v K l ro hv hb hl
      rcases lnm hb with ⟨h1, rfl⟩ | ⟨h1, h2⟩
      · obtain ⟨j, hj⟩ := List.getElem?_of_mem h1
        obtain ⟨x, y, k1, k2, k3⟩ := o2 j _ hj
        rw [hl] at k1
        cases k1
        rw [renB_row k3] at k2
        exact ⟨ro, llt hj k2⟩
      · obtain ⟨x, y, k1, k2, k3⟩ := n2 _ _ h2
        rw [hl] at k1
        cases k1
        rw [renB_row k3] at k2
        exact ⟨ro, by show look b' (old.zip os ++ enum m ns') = _; rw [lge h1]; exact k2⟩
  -- where each block comes from
  have src : ∀ {b : Nat} {x : Blk}, look b Y.s.st = some x → ∃ c y, look c X.s.st = some y ∧ renB (fun b v => valid X.s (.ver b v)) 0 (old.map (fun b => (b, b)) ++ number m new) y = some x ∧ Y.cm b = X.cm c ∧ ((b < m ∧ c = b) ∨ (m ≤ b ∧ new[b - m]? = some c)) := by
    intro b x hb
    rcases lst hb with ⟨h1, j, h2, h3⟩ | ⟨h1, h2⟩
    · obtain ⟨x0, y, k1, k2, k3⟩ := o2 j b h2
      rw [h3] at k2
      cases k2
      exact ⟨b, x0, k1, k3, cmlt h1, .inl ⟨h1, rfl⟩⟩
    · have hlt : b - m < new.length := by
        have := (List.getElem?_eq_some_iff.1 h2).1
        omega
      have hc : new[b - m]? = some new[b - m] := by simp [hlt]
      obtain ⟨x0, y, k1, k2, k3⟩ := n2 _ _ hc
      rw [h2] at k2
      cases k2
      exact ⟨_, x0, k1, k3, cmge h1 hc, .inr ⟨h1, hc⟩⟩
  refine ⟨Y, rfl, rfl, rfl, ⟨?_, ?_, hR.out, hR.fr, uq⟩, ?_, fun b hb => cmlt hb, sim, fun b hb => lge hb⟩
  · intro b x hb
    obtain ⟨c, y, h1, h2, h3, _⟩ := src hb
    obtain ⟨cb, k1, k2, k3, k4⟩ := hR.blk c y h1
    exact ⟨cb, h3.trans k1, renB_ok sim k2 h2, k3, k4⟩
  · intro b b' x x' cb cb' g hb hb' hc hc' hg hg'
    obtain ⟨c, y, h1, h2, h3, h4⟩ := src hb
    obtain ⟨c', y', h1', h2', h3', h4'⟩ := src hb'
    have e := hR.dis c c' y y' cb cb' g h1 h1' (h3 ▸ hc) (h3' ▸ hc') hg hg'
    subst e
    rcases h4 with ⟨p1, rfl⟩ | ⟨p1, p2⟩
    · rcases h4' with ⟨q1, rfl⟩ | ⟨q1, q2⟩
      · rfl
      · have := newge c (List.mem_of_getElem? q2); omega
    · rcases h4' with ⟨q1, rfl⟩ | ⟨q1, q2⟩
      · have := newge c (List.mem_of_getElem? p2); omega
      · have e1 := number_look (n := m) newnd p2
        have e2 := number_look (n := m) newnd q2
        rw [e1] at e2
        simp only [Option.some.injEq] at e2
        omega
  · intro b hb
    have hb' : m + ns'.length ≤ b := hb
    show (if b < m then X.cm b else (new[b - m]?).bind X.cm) = none
    rw [if_neg (by omega)]
    have : new[b - m]? = none := by simp; omega
    rw [this]
    rfl

theorem renum_uniq {m : Nat} {s : St} {roots : List Nat} {nm : List (Nat × Nat)} {st : List (Nat × Blk)} {ns : List Blk} (h : renum m s roots = some (nm, st, ns)) : uniq st := by
  unfold renum at h
  simp only at h
  generalize hids : clos s.st 64 (List.range m ++ roots) [] = ids at h
  generalize hold : ids.filter (fun b => Nat.blt b m) = old at h
  generalize hnew : ids.filter (fun b => !(Nat.blt b m)) = new at h
  split at h
  case h_2 => cases h
  rename_i os ns' hos hns
  obtain ⟨hnd, h⟩ := chk_some h
  rw [nodupN_iff] at hnd
  simp only [Option.some.injEq, Prod.mk.injEq] at h
  obtain ⟨rfl, rfl, rfl⟩ := h
  refine uniq_append (uniq_zip (by rw [← hold]; exact hnd.filter _)) (uniq_enum _ _) fun k x hk => ?_
  obtain ⟨j, h1, _⟩ := look_zip_some hk
  have : k ∈ old := List.mem_of_getElem? h1
  rw [← hold, List.mem_filter] at this
  have h2 := this.2
  rw [Nat.blt_eq] at h2
  rw [look_enum, if_neg (by omega)]

theorem norm_uniq {m : Nat} {slots : List Nat} {s s' : St} (h : norm m slots s = some s') : uniq s'.st := by
  unfold norm at h
  simp only at h
  split at h
  case h_2 => cases h
  rename_i nm st ns hren
  split at h
  case h_2 => cases h
  rename_i tm htm
  cases h
  exact renum_uniq hren

theorem getD_mem {t : Nat} : ∀ {l : List (Nat × AV)}, getD .un t l = .un ∨ (t, getD .un t l) ∈ l
  | [] => .inl rfl
  | (j, x) :: r => by
    simp only [getD]
    cases h : Nat.beq j t
    · simp only [cond_false]
      exact (getD_mem (t := t) (l := r)).imp id fun h => by simp [h]
    · have := beq_true.1 h
      subst this
      simp

theorem KRel.trel {a : Act} (h : KRel X a X.s.tm) : TRel X a := by
  intro t
  rcases getD_mem (t := t) (l := X.s.tm) with h1 | h1
  · rw [h1]; exact .un _
  · exact h _ h1

theorem renK_ok {Y : Cx} {ok : Nat → Nat → Bool} {nm : List (Nat × Nat)} (S : Sim X Y ok 0 nm) {a : Act} : ∀ {l l' : List (Nat × AV)}, KRel X a l → renK ok nm l = some l' → KRel Y a l'
  | [], l', _, h => by
    simp only [renK, Option.some.injEq] at h
    subst h
    intro x hx
    simp at hx
  | (i, x) :: r, l', hk, h => by
    simp only [renK] at h
    split at h
    case h_2 => cases h
    rename_i a' r' h1 h2
    simp only [Option.some.injEq] at h
    subst h
    have ih := renK_ok S (a := a) (fun y hy => hk y (by simp [hy])) h2
    intro y hy
    rcases List.mem_cons.1 hy with rfl | hy
    · exact ren_ok S (hk (i, x) (List.mem_cons_self ..)) h1
    · exact ih y hy

theorem norm_ok {m N : Nat} {X0 : Cx} {a : Act} {slots : List Nat} {s' : St} (hI : Inv m N X0 E X a) (h : norm m slots X.s = some s') : ∃ X', X'.s = s' ∧ X'.w = X.w ∧ Inv m N X0 E X' a := by
  unfold norm at h
  simp only at h
  generalize hk : canonK _ (slots.map fun i => (i, getD .un i X.s.tm)) X.s = z at h
  obtain ⟨keep, s1⟩ := z
  simp only at h
  have hk0 : KRel X a (slots.map fun i => (i, getD .un i X.s.tm)) := by
    intro x hx
    simp only [List.mem_map] at hx
    obtain ⟨i, _, rfl⟩ := hx
    exact hI.tr i
  obtain ⟨X1, e1, q1, k1⟩ := canonK_ok hI.rel hI.top hk0 hk
  subst e1
  generalize hids : clos X.s.st 64 _ [] = ids at h
  generalize hall : (List.flatMap _ _ ++ pointers X.s.st ids) = all at h
  obtain ⟨X2, e2, q2⟩ := canonB_ok (all := all) (ids := ids) q1.rel q1.top
  rw [← e2] at h
  split at h
  case h_2 => cases h
  rename_i nm st ns hren
  split at h
  case h_2 => cases h
  rename_i tm htm
  cases h
  obtain ⟨X3, r1, r2, r3, r4, r5, r6, r7, _⟩ := renum_ok q2.rel hren tm
  have q := q1.trans q2
  have k3 := renK_ok r7 (fun y hy => (k1 y hy).ext q2.ext) htm
  refine ⟨X3, r1, r2.trans q.w, ⟨r4, ?_, r5, (r3.trans q.S).trans hI.S, ?_, hI.defers, hI.size⟩⟩
  · refine KRel.trel ?_
    rw [r1]
    exact k3
  · intro b cb hb hc
    obtain ⟨cb', h1, h2⟩ := hI.cmx b cb hb hc
    obtain ⟨cb2, h3, h4⟩ := q.ext.cmx b cb' h1
    exact ⟨cb2, (r6 b hb).trans h3, CB.same_trans h2 h4⟩

end Go.Ev

/- Code: what the evaluator says of a text comes to pass. -/
namespace Go.Ev

variable {R : Type} {E : Env} {X : Cx} {P : Program}

def exOf : Ex → Exit
  | .normal => .normal
  | .exit id => .exit id
  | .ret => .ret

/-- Behind a text: the exit, the frame. -/
def Post (m N : Nat) (X0 : Cx) (E : Env) (e : Ex) (s' : St) (e' : Exit) (a' : Act) (w' : World) : Prop := e' = exOf e ∧ ∃ X', X'.s = s' ∧ X'.w = w' ∧ Inv m N X0 E X' a'

def CodeOk (P : Program) (m N : Nat) (code : Code) (s : St) (e : Ex) (s' : St) : Prop := ∀ X0 E X a, X.s = s → Inv m N X0 E X a → code.wp P (Post m N X0 E e s') a X.w

/-- Who answers loops answers well. -/
def LOrcOk (P : Program) (m N : Nat) (B : Nat → Code) (L : LOrc R) : Prop := ∀ b s k r, L b s k = some r → ∃ e s', k e s' = some r ∧ uniq s'.st ∧ CodeOk P m N (.loop (B b)) s e s'

def wfC (N : Nat) : Code → Bool
  | .region _ ops draw => dstsOk N ops.toList && (!draw || drawOk ops.toList)
  | .seq x y => wfC N x && wfC N y
  | .cond _ x y => wfC N x && wfC N y
  | .block _ c => wfC N c
  | .loop c => wfC N c
  | .scope c => wfC N c
  | .rangeFunc .. => false
  | _ => true

theorem Inv.drawn {m N : Nat} {X0 : Cx} {a : Act} (h : Inv m N X0 E X a) : ∃ X', X'.s = X.s ∧ X'.w = { X.w with drawn := X.w.drawn + 1 } ∧ Inv m N X0 E X' a := by
  let Y : Cx := { X with w := { X.w with drawn := X.w.drawn + 1 } }
  have mv : Mv X Y (fun _ => False) (fun _ => False) := ⟨rfl, rfl, rfl, rfl, Nat.le_refl _, fun _ _ _ => rfl, fun _ h => h.elim, fun _ _ => rfl, fun _ _ => rfl, fun _ _ h => h.elim, fun _ _ _ _ _ h => h.elim⟩
  have hx := mv.ext h.rel
  exact ⟨Y, rfl, rfl, mv.rel h.rel h.rel.uq (fun _ _ h => h.elim) (fun _ _ _ _ _ _ _ h => h.elim), fun t => (h.tr t).ext hx, h.top, h.S, h.cmx, h.defers, h.size⟩

theorem Mid.drawn {m N : Nat} {X0 : Cx} {a : Act} (h : Inv m N X0 E X a) (outs : List Outc) (ops : Array Oper) : Mid m N X0 E X.s (sig ops.toList outs (dof (Array.replicate ops.size false)) 0 X.s) (dof (Array.replicate ops.size false)) X a := by
  have e : dof (Array.replicate ops.size false) = before 0 := by
    rw [before_zero]
    funext k
    simp only [dof]
    by_cases hk : k < ops.size <;> simp [hk]
  rw [e]
  exact h.mid outs ops

theorem region_ok {c : Cfg} (hC : cfgOk P c = true) (hm : P.follows .mixedOrders = true) {C : Orc R} (hO : OrcOk P C) {m N : Nat} {id : Nat} {ops : Array Oper} {draw : Bool} {s : St} {k : Ex → St → Option R} {r : R} (hu : uniq s.st) (hw : wfC N (.region id ops draw) = true)
    (h : (opsE c C ops.toList s.nx 0 ops.toList s [] fun s' rec =>
      let s'' := { s' with nx := s.nx + 16 * ops.size }
      bif draw then (bif pairsOk (priors ops.toList []) rec then k .normal s'' else none) else k .normal s'') = some r) :
    ∃ s', k .normal s' = some r ∧ uniq s'.st ∧ CodeOk P m N (.region id ops draw) s .normal s' := by
  simp only [wfC, Bool.and_eq_true] at hw
  obtain ⟨outs, sf, h1, hF⟩ := opsE_facts hC hO hu h
  simp only [List.nil_append] at h1
  have post : ∀ {X0 : Cx} {E : Env} (X' : Cx) (a : Act), X'.s = { sf with nx := s.nx + 16 * ops.size } → Inv m N X0 E X' a → Post m N X0 E .normal { sf with nx := s.nx + 16 * ops.size } .normal a X'.w := fun X' a h1 h2 => ⟨rfl, X', h1, rfl, h2⟩
  cases draw
  · simp only [cond_false] at h1
    refine ⟨_, h1, hF.fin.uq, ?_⟩
    intro X0 E X a hs hI
    subst hs
    refine wp_region ?_
    have := seq_ok (Q := Post m N X0 E .normal { sf with nx := X.s.nx + 16 * ops.size }) hu hF hw.1 (fun X' a => post X' a) ops.size 0 X a (by omega) (hI.mid outs ops)
    rwa [← List.range_eq_range'] at this
  · simp only [cond_true] at h1
    obtain ⟨hp, h1⟩ := chk_some (show chk _ _ = some r from h1)
    refine ⟨_, h1, hF.fin.uq, ?_⟩
    intro X0 E X a hs hI
    subst hs
    refine wp_region_any hm ?_
    obtain ⟨X', e1, e2, hI'⟩ := hI.drawn
    rw [← e2]
    have hM := Mid.drawn hI' outs ops
    rw [e1] at hM
    refine any_ok hu hF hw.1 (by simpa using hw.2) hp (fun X' a => post X' a) ops.size _ X' a (by simp) ?_ ?_ hM
    · have key : ∀ n, cntF (List.replicate n false) = n := by
        intro n
        induction n with
        | zero => rfl
        | succ n ih => simp [List.replicate_succ, cntF, ih]; omega
      rw [Array.toList_replicate]
      exact key _
    · intro i o _ hD
      simp only [dof] at hD
      by_cases hi : i < ops.size <;> simp [hi] at hD

/-- Another way out passes by. -/
theorem post_other {m N : Nat} {X0 : Cx} {e : Ex} {s' : St} {K : Act → World → Prop} (hne : e ≠ .normal) : ∀ e' a' w', Post m N X0 E e s' e' a' w' → Exit.then K (Post m N X0 E e s') e' a' w' := by
  rintro e' a' w' ⟨rfl, hX⟩
  cases e with
  | normal => exact (hne rfl).elim
  | exit id => exact ⟨rfl, hX⟩
  | ret => exact ⟨rfl, hX⟩

theorem codeE_ok {c : Cfg} (hC : cfgOk P c = true) (hm : P.follows .mixedOrders = true) {C : Orc R} (hO : OrcOk P C) {m N : Nat} {B : Nat → Code} {L : LOrc R} (hL : LOrcOk P m N B L) {h : Hint} :
    ∀ {code : Code} {b : Nat} {s : St} {k : Ex → St → Option R} {r : R}, uniq s.st → wfC N code = true → (∀ x ∈ loopsAt b code, x.2 = B x.1) → codeE c C L m h b code s k = some r → ∃ e s', k e s' = some r ∧ uniq s'.st ∧ CodeOk P m N code s e s'
  | .skip, b, s, k, r, hu, hw, hB, hr => ⟨.normal, s, hr, hu, fun X0 E X a hs hI => wp_skip ⟨rfl, X, hs, rfl, hI⟩⟩
  | .label l, b, s, k, r, hu, hw, hB, hr => ⟨.normal, s, hr, hu, fun X0 E X a hs hI => wp_label ⟨rfl, X, hs, rfl, hI⟩⟩
  | .exit id, b, s, k, r, hu, hw, hB, hr => ⟨.exit id, s, hr, hu, fun X0 E X a hs hI => wp_exit ⟨rfl, X, hs, rfl, hI⟩⟩
  | .ret, b, s, k, r, hu, hw, hB, hr => ⟨.ret, s, hr, hu, fun X0 E X a hs hI => wp_ret ⟨rfl, X, hs, rfl, hI⟩⟩
  | .region id ops draw, b, s, k, r, hu, hw, hB, hr => by
    obtain ⟨s', h1, h2, h3⟩ := region_ok (m := m) hC hm hO hu hw hr
    exact ⟨_, s', h1, h2, h3⟩
  | .seq x y, b, s, k, r, hu, hw, hB, hr => by
    simp only [wfC, Bool.and_eq_true] at hw
    simp only [codeE] at hr
    obtain ⟨e, s1, h1, hu1, h2⟩ := codeE_ok hC hm hO hL hu hw.1 (fun z hz => hB z (by simp [loopsAt, hz])) hr
    cases e with
    | normal =>
      simp only at h1
      obtain ⟨e2, s2, h3, hu2, h4⟩ := codeE_ok hC hm hO hL hu1 hw.2 (fun z hz => hB z (by simp [loopsAt, hz])) h1
      refine ⟨e2, s2, h3, hu2, fun X0 E X a hs hI => wp_seq (wp_mono (h2 X0 E X a hs hI) ?_)⟩
      rintro e' a' w' ⟨rfl, X', hs', rfl, hI'⟩
      exact h4 X0 E X' a' hs' hI'
    | exit id => exact ⟨.exit id, s1, h1, hu1, fun X0 E X a hs hI => wp_seq (wp_mono (h2 X0 E X a hs hI) (post_other (by simp)))⟩
    | ret => exact ⟨.ret, s1, h1, hu1, fun X0 E X a hs hI => wp_seq (wp_mono (h2 X0 E X a hs hI) (post_other (by simp)))⟩
  | .cond x t f, b, s, k, r, hu, hw, hB, hr => by
    simp only [wfC, Bool.and_eq_true] at hw
    simp only [codeE] at hr
    split at hr
    case h_2 => cases hr
    rename_i v hv
    have hval : ∀ {X0 : Cx} {E : Env} {X : Cx} {a : Act}, X.s = s → Inv m N X0 E X a → a.eval x = .bool v := by
      intro X0 E X a hs hI
      have := ev_ok hI.tr x
      rw [hs, hv] at this
      generalize a.eval x = u at this
      cases this
      rfl
    cases v
    · simp only [cond_false] at hr
      obtain ⟨e, s1, h1, hu1, h2⟩ := codeE_ok hC hm hO hL hu hw.2 (fun z hz => hB z (by simp [loopsAt, hz])) hr
      exact ⟨e, s1, h1, hu1, fun X0 E X a hs hI => wp_cond_false (hval hs hI) (h2 X0 E X a hs hI)⟩
    · simp only [cond_true] at hr
      obtain ⟨e, s1, h1, hu1, h2⟩ := codeE_ok hC hm hO hL hu hw.1 (fun z hz => hB z (by simp [loopsAt, hz])) hr
      exact ⟨e, s1, h1, hu1, fun X0 E X a hs hI => wp_cond_true (hval hs hI) (h2 X0 E X a hs hI)⟩
  | .block id body, b, s, k, r, hu, hw, hB, hr => by
    simp only [wfC] at hw
    simp only [codeE] at hr
    obtain ⟨e, s1, h1, hu1, h2⟩ := codeE_ok hC hm hO hL hu hw (fun z hz => hB z (by simpa [loopsAt] using hz)) hr
    cases e with
    | normal =>
      refine ⟨.normal, s1, h1, hu1, fun X0 E X a hs hI => wp_block (wp_mono (h2 X0 E X a hs hI) ?_)⟩
      rintro e' a' w' ⟨rfl, hX⟩
      exact ⟨rfl, hX⟩
    | ret =>
      refine ⟨.ret, s1, h1, hu1, fun X0 E X a hs hI => wp_block (wp_mono (h2 X0 E X a hs hI) ?_)⟩
      rintro e' a' w' ⟨rfl, hX⟩
      exact ⟨rfl, hX⟩
    | exit j =>
      simp only at h1
      cases hj : Nat.beq j id <;> rw [hj] at h1 <;> simp only [cond_true, cond_false] at h1
      · refine ⟨.exit j, s1, h1, hu1, fun X0 E X a hs hI => wp_block (wp_mono (h2 X0 E X a hs hI) ?_)⟩
        rintro e' a' w' ⟨rfl, hX⟩
        simp only [exOf, Exit.inBlock, beq_false.1 hj, if_false]
        exact ⟨rfl, hX⟩
      · refine ⟨.normal, s1, h1, hu1, fun X0 E X a hs hI => wp_block (wp_mono (h2 X0 E X a hs hI) ?_)⟩
        rintro e' a' w' ⟨rfl, hX⟩
        simp only [exOf, Exit.inBlock, beq_true.1 hj, if_true]
        exact ⟨rfl, hX⟩
  | .loop body, b, s, k, r, hu, hw, hB, hr => by
    simp only [codeE] at hr
    split at hr
    case h_2 => cases hr
    rename_i i o hb
    split at hr
    case h_2 => cases hr
    rename_i s' hn
    obtain ⟨e, s1, h1, hu1, h2⟩ := hL _ _ _ _ hr
    refine ⟨e, s1, h1, hu1, fun X0 E X a hs hI => ?_⟩
    have e1 : body = B b := hB (b, body) (by simp [loopsAt])
    rw [← e1] at h2
    rw [← hs] at hn
    obtain ⟨X', k1, k2, k3⟩ := norm_ok hI hn
    rw [← k2]
    exact h2 X0 E X' a k1 k3
  | .rangeFunc .., _, _, _, _, _, hw, _, _ => by simp [wfC] at hw
  | .scope .., _, _, _, _, _, _, _, hr => by simp [codeE] at hr
  | .goto .., _, _, _, _, _, _, _, hr => by simp [codeE] at hr
  | .refuse .., _, _, _, _, _, _, _, hr => by simp [codeE] at hr

/-- A loop in its midst. -/
def LoopRun (P : Program) (c : Code) (Q : Exit → Act → World → Prop) (a : Act) (w : World) : Prop :=
  ∀ (b : Frame) (k : List Item) (cs : List Frame), ∃ e a' w', Q e a' w' ∧ Arrives P (lone (b.at a (.code c :: .inLoop c :: k)) cs w) b k cs e a' w'

theorem LoopRun.start {c : Code} {Q : Exit → Act → World → Prop} {a : Act} {w : World} (h : LoopRun P c Q a w) : (Code.loop c).wp P Q a w := by
  intro b k cs
  obtain ⟨e, a', w', hq, harr⟩ := h b k cs
  exact ⟨e, a', w', hq, .of_steps (.one step_loop) harr⟩

theorem LoopRun.round {c : Code} {Q : Exit → Act → World → Prop} {a : Act} {w : World} (h : c.wp P (Exit.then (LoopRun P c Q) Q) a w) : LoopRun P c Q a w := by
  intro b k cs
  obtain ⟨e, a₁, w₁, hq, harr⟩ := h b (.inLoop c :: k) cs
  cases e with
  | normal =>
    obtain ⟨e₂, a₂, w₂, hq₂, harr₂⟩ := hq b k cs
    exact ⟨e₂, a₂, w₂, hq₂, .of_steps (Steps.trans harr (.one step_inLoop)) harr₂⟩
  | exit id => exact ⟨_, a₁, w₁, hq, .pass (x := .inLoop c) rfl (fun _ _ => .inl (by simp)) harr⟩
  | goto l => exact ⟨_, a₁, w₁, hq, .pass (x := .inLoop c) rfl (fun _ _ => .inl (by simp)) harr⟩
  | ret => exact ⟨_, a₁, w₁, hq, .pass (x := .inLoop c) rfl (fun _ _ => .inl (by simp)) harr⟩
  | panic ch => exact ⟨_, a₁, w₁, hq, .pass (x := .inLoop c) rfl (fun _ _ => .inl (by simp)) harr⟩
  | outgrown => exact ⟨_, a₁, w₁, hq, .pass (x := .inLoop c) rfl (fun _ _ => .inl (by simp)) harr⟩

/-- A loop, from its head on. -/
def RunOk (P : Program) (m N : Nat) (body : Code) (s : St) (e : Ex) (s' : St) : Prop := ∀ X0 E X a, X.s = s → Inv m N X0 E X a → LoopRun P body (Post m N X0 E e s') a X.w

theorem RunOk.code {m N : Nat} {body : Code} {s s' : St} {e : Ex} (h : RunOk P m N body s e s') : CodeOk P m N (.loop body) s e s' := fun X0 E X a hs hI => (h X0 E X a hs hI).start

/-- A round. -/
theorem stepE_ok {c : Cfg} (hC : cfgOk P c = true) (hm : P.follows .mixedOrders = true) {C : Orc R} (hO : OrcOk P C) {m N : Nat} {B : Nat → Code} {L : LOrc R} (hL : LOrcOk P m N B L) {h : Hint} {b : Nat} {body : Code} {i o : List Nat} {s : St} {next : St → Option R} {out : Ex → St → Option R} {r : R}
    (hu : uniq s.st) (hw : wfC N body = true) (hB : ∀ x ∈ loopsAt b body, x.2 = B x.1) (hr : stepE c C L m h b body i o s next out = some r) :
    (∃ s1, next s1 = some r ∧ uniq s1.st ∧ ∀ e s', RunOk P m N body s1 e s' → RunOk P m N body s e s') ∨ (∃ e s', out e s' = some r ∧ uniq s'.st ∧ RunOk P m N body s e s') := by
  unfold stepE at hr
  obtain ⟨e, s1, h1, hu1, h2⟩ := codeE_ok hC hm hO hL hu hw hB hr
  have leave : e ≠ .normal → (match norm m o s1 with | some s'' => out e s'' | none => none) = some r → ∃ e s', out e s' = some r ∧ uniq s'.st ∧ RunOk P m N body s e s' := by
    intro hne h1
    split at h1
    case h_2 => cases h1
    rename_i s2 hn
    refine ⟨e, s2, h1, norm_uniq hn, fun X0 E X a hs hI => LoopRun.round (wp_mono (h2 X0 E X a hs hI) ?_)⟩
    rintro e' a' w' ⟨he, X', hs', rfl, hI'⟩
    subst he
    rw [← hs'] at hn
    obtain ⟨X2, k1, k2, k3⟩ := norm_ok hI' hn
    have hp : Post m N X0 E e s2 (exOf e) a' X'.w := ⟨rfl, X2, k1, k2, k3⟩
    exact post_other hne _ _ _ hp
  cases e with
  | normal =>
    simp only at h1
    split at h1
    case h_2 => cases h1
    rename_i s2 hn
    refine .inl ⟨s2, h1, norm_uniq hn, fun e s' hrun X0 E X a hs hI => LoopRun.round (wp_mono (h2 X0 E X a hs hI) ?_)⟩
    rintro e' a' w' ⟨rfl, X', hs', rfl, hI'⟩
    rw [← hs'] at hn
    obtain ⟨X2, k1, k2, k3⟩ := norm_ok hI' hn
    have := hrun X0 E X2 a' k1 k3
    rw [k2] at this
    exact this
  | exit id => exact .inr (leave (by simp) h1)
  | ret => exact .inr (leave (by simp) h1)

/-- By way of data. -/
def via {Y S : Type} (e : Enc Y) (k : e.D → Option S) (y : Y) : Option S := match e.of y with
  | some d => k d
  | none => none

theorem via_to {Y S : Type} (e : Enc Y) (k : e.D → Option S) (d : e.D) : via e k (e.to d) = k d := by simp only [via, e.ko]

/-- A loop that goes as its function says. -/
theorem loop_ok {c : Cfg} (hC : cfgOk P c = true) (hm : P.follows .mixedOrders = true) {C : Orc R} (hO : OrcOk P C) {m N : Nat} {B : Nat → Code} {L : LOrc R} (hL : LOrcOk P m N B L) {h : Hint} {b : Nat} {body : Code} {i o : List Nat}
    (hw : wfC N body = true) (hB : ∀ x ∈ loopsAt b body, x.2 = B x.1) (en : Enc St) (hen : ∀ d, uniq (en.to d).st) (f : Nat → en.D → (Ex → St → Option R) → Option R) (h0 : ∀ d k, f 0 d k = none)
    (hs : ∀ n d k, f (n + 1) d k = stepE c C L m h b body i o (en.to d) (via en fun d' => f n d' k) k) :
    ∀ n d k r, f n d k = some r → ∃ e s', k e s' = some r ∧ uniq s'.st ∧ RunOk P m N body (en.to d) e s' := by
  intro n
  induction n with
  | zero => intro d k r hr; rw [h0] at hr; cases hr
  | succ n ih =>
    intro d k r hr
    rw [hs] at hr
    rcases stepE_ok hC hm hO hL (hen d) hw hB hr with ⟨s1, h1, _, h3⟩ | h1
    · unfold via at h1
      split at h1
      case h_2 => cases h1
      rename_i d' hd
      obtain ⟨e, s', k1, k2, k3⟩ := ih d' k r h1
      rw [en.ok _ _ hd] at h3
      exact ⟨e, s', k1, k2, h3 e s' k3⟩
    · exact h1

end Go.Ev

/- Functions: what the evaluator says of one comes to pass; tables. -/
namespace Go.Ev

variable {R : Type} {E : Env} {X : Cx} {P : Program}

theorem resE_ok {c : Cfg} (hC : cfgOk P c = true) {a : Act} (hR : Rel E X) (hT : TRel X a) : ∀ {rs : List ResultVar} {vs : List AV}, resE c X.s rs = some vs →
    ∃ vals : List Value, (rs.mapM (fun | .tmp t => pure (a.tmps.getD t undef) | .cell ad t => do loadVar t (← asAddr (a.tmps.getD ad undef)) : ResultVar → Sem Value) : Sem (List Value)).run P X.w = .ok vals X.w ∧ VRels X vs vals
  | [], vs, h => by
    simp only [resE, Option.some.injEq] at h
    subst h
    exact ⟨[], rfl, .nil⟩
  | .tmp t :: rs, vs, h => by
    simp only [resE] at h
    split at h
    case h_2 => cases h
    rename_i l hl
    cases h
    obtain ⟨vals, h1, h2⟩ := resE_ok hC hR hT hl
    refine ⟨a.tmps.getD t undef :: vals, ?_, .cons (hT t) h2⟩
    simp only [List.mapM_cons, Sem.run_bind, Sem.run_pure, Result.andThen_ok]
    rw [h1]
    rfl
  | .cell ad t :: rs, vs, h => by
    simp only [resE] at h
    split at h
    case h_2 => cases h
    rename_i ti l hti hl
    split at h
    case h_2 => cases h
    rename_i ps rd hld
    split at h
    case h_2 => cases h
    rename_i v hv
    cases h
    obtain ⟨vals, h1, h2⟩ := resE_ok hC hR hT hl
    obtain ⟨g, val, e1, e2, e3⟩ := (loadAt_ok hR (hT ad) hld).var (cfg_ty hC hti) hv
    refine ⟨val :: vals, ?_, .cons e3 h2⟩
    have e4 : (asAddr (a.tmps.getD ad undef)).run P X.w = .ok g X.w := by rw [e1]; rfl
    simp only [List.mapM_cons, Sem.run_bind, e4, Result.andThen_ok, e2]
    rw [h1]
    rfl

theorem VRels_len : ∀ {as : List AV} {vs : List Value}, VRels X as vs → as.length = vs.length
  | _, _, .nil => rfl
  | _, _, .cons _ h => by simp [VRels_len h]

theorem retE_ok {c : Cfg} (hC : cfgOk P c = true) {fn : Func} {m N : Nat} {s : St} {k : AV → List (Option Blk) → List Blk → Option R} {r : R} (h : retE c fn m s k = some r) :
    ∃ v fin new, k v fin new = some r ∧ ∀ X0 E X a, X.s = s → Inv m N X0 E X a → ∃ val X', (results fn a.tmps).run P X.w = .ok val X.w ∧ X'.w = X.w ∧ Leaves m v fin new E X0 X' val := by
  unfold retE at h
  split at h
  case h_1 => cases h
  rename_i vs hvs
  simp only at h
  generalize hv : packV vs = v at h
  generalize hids : clos s.st 64 (List.range m ++ refs 8 v) [] = ids at h
  generalize hall : refs 8 v ++ pointers s.st ids = all at h
  generalize hc : canonV all v s = z at h
  obtain ⟨v1, s1⟩ := z
  simp only at h
  split at h
  case h_2 => cases h
  rename_i nm st ns hren
  split at h
  case h_2 => cases h
  rename_i v' hv'
  refine ⟨v', _, ns, h, ?_⟩
  intro X0 E X a hs hI
  subst hs
  obtain ⟨vals, r1, r2⟩ := resE_ok hC hI.rel hI.tr hvs
  obtain ⟨val, q1, q2⟩ : ∃ val, (results fn a.tmps).run P X.w = .ok val X.w ∧ VRel X v val := by
    have hrun : ((fn.results.mapM fun | .tmp t => pure (a.tmps.getD t undef) | .cell ad t => do loadVar t (← asAddr (a.tmps.getD ad undef)) : Sem (Array Value))).run P X.w = .ok vals.toArray X.w := by
      have e : fn.results = fn.results.toList.toArray := by simp
      rw [e, List.mapM_toArray]
      simp only [Sem.run_map, r1, Result.andThen_ok]
    have hres : (results fn a.tmps).run P X.w = .ok (if h : vals.toArray.size = 1 then vals.toArray[0] else .tuple vals.toArray) X.w := by
      simp only [results, Sem.run_bind]
      refine (congrArg (fun z => Result.andThen z _) hrun).trans ?_
      simp only [Result.andThen_ok, Sem.run_pure]
    refine ⟨_, hres, ?_⟩
    subst hv
    unfold packV
    split
    · cases r2 with
      | cons h1 h2 =>
        cases h2
        simpa using h1
    · rename_i hne
      have hl := VRels_len r2
      have : ¬ vals.toArray.size = 1 := by
        intro e
        simp at e
        rw [e] at hl
        match vs, hl, hne with
        | [x], _, hne => exact hne x rfl
      rw [dif_neg this]
      exact .tup r2
  obtain ⟨X1, e1, k1, k2⟩ := canonV_ok hI.rel hI.top q2 hc
  subst e1
  obtain ⟨X2, e2, k3⟩ := canonB_ok (all := all) (ids := ids) k1.rel k1.top
  rw [← e2] at hren hv'
  obtain ⟨X3, j1, j2, j3, j4, j5, j6, j7, j8⟩ := renum_ok k3.rel hren []
  have q := k1.trans k3
  refine ⟨val, X3, q1, j2.trans q.w, j4, (j3.trans q.S).trans hI.S, ?_, ?_, ren_ok j7 (k2.ext k3.ext) hv'⟩
  · intro b cb hb hcm
    obtain ⟨cb', h1, h2⟩ := hI.cmx b cb hb hcm
    obtain ⟨cb2, h3, h4⟩ := q.ext.cmx b cb' h1
    exact ⟨cb2, (j6 b hb).trans h3, CB.same_trans h2 h4⟩
  · intro b
    rw [j1]
    simp only
    by_cases hb : b < m
    · rw [if_pos hb]
      simp [hb]
    · rw [if_neg hb, j8 b (by omega)]

/-- A function that the evaluator may run through. -/
structure FnWf (P : Program) (f : Nat) (fn : Func) : Prop where
  hf : P.funcs[f]? = some fn
  name : fn.name ≠ "runtime.NumGoroutine"
  body : ∃ code, fn.body = some code ∧ wfC fn.ntmps code = true ∧ nodupN ((loopsAt 0 code).map (·.1)) = true

theorem loops_look : ∀ {l : List (Nat × Code)}, (l.map (·.1)).Nodup → ∀ x ∈ l, look x.1 l = some x.2
  | [], _, x, h => by simp at h
  | (j, y) :: r, hn, x, h => by
    simp only [List.map_cons, List.nodup_cons] at hn
    rcases List.mem_cons.1 h with rfl | h
    · simp [look]
    · have hne : j ≠ x.1 := fun e => hn.1 (e ▸ List.mem_map.2 ⟨x, h, rfl⟩)
      simp only [look, beq_false.2 hne, cond_false]
      exact loops_look hn.2 x h

theorem FnWf.loops {f : Nat} {fn : Func} {code : Code} (h : FnWf P f fn) (hc : fn.body = some code) : ∀ x ∈ loopsAt 0 code, x.2 = bodyOf fn x.1 := by
  intro x hx
  obtain ⟨code', h1, _, h3⟩ := h.body
  rw [hc] at h1
  cases h1
  have := loops_look (nodupN_iff.1 h3) x hx
  simp only [bodyOf, hc, this]

theorem loopsAt_in : ∀ {code : Code} {b0 b : Nat} {c : Code}, (b, c) ∈ loopsAt b0 code → ∀ x ∈ loopsAt b c, x ∈ loopsAt b0 code
  | .seq x y, b0, b, c, h, z, hz => by
    simp only [loopsAt, List.mem_append] at h ⊢
    exact h.imp (fun h => loopsAt_in h z hz) (fun h => loopsAt_in h z hz)
  | .cond _ x y, b0, b, c, h, z, hz => by
    simp only [loopsAt, List.mem_append] at h ⊢
    exact h.imp (fun h => loopsAt_in h z hz) (fun h => loopsAt_in h z hz)
  | .block j body, b0, b, c, h, z, hz => by
    simp only [loopsAt] at h ⊢
    exact loopsAt_in h z hz
  | .scope body, b0, b, c, h, z, hz => by
    simp only [loopsAt] at h ⊢
    exact loopsAt_in h z hz
  | .rangeFunc _ _ _ body, b0, b, c, h, z, hz => by
    simp only [loopsAt] at h ⊢
    exact loopsAt_in h z hz
  | .loop body, b0, b, c, h, z, hz => by
    simp only [loopsAt, List.mem_cons] at h ⊢
    rcases h with h | h
    · cases h; exact .inr hz
    · exact .inr (loopsAt_in h z hz)
  | .skip, _, _, _, h, _, _ => by simp [loopsAt] at h
  | .label _, _, _, _, h, _, _ => by simp [loopsAt] at h
  | .region .., _, _, _, h, _, _ => by simp [loopsAt] at h
  | .exit _, _, _, _, h, _, _ => by simp [loopsAt] at h
  | .goto _, _, _, _, h, _, _ => by simp [loopsAt] at h
  | .ret, _, _, _, h, _, _ => by simp [loopsAt] at h
  | .refuse _, _, _, _, h, _, _ => by simp [loopsAt] at h

theorem loopsAt_wf {N : Nat} : ∀ {code : Code} {b0 b : Nat} {c : Code}, wfC N code = true → (b, c) ∈ loopsAt b0 code → wfC N c = true
  | .seq x y, b0, b, c, hw, h => by
    simp only [wfC, Bool.and_eq_true] at hw
    simp only [loopsAt, List.mem_append] at h
    exact h.elim (loopsAt_wf hw.1) (loopsAt_wf hw.2)
  | .cond _ x y, b0, b, c, hw, h => by
    simp only [wfC, Bool.and_eq_true] at hw
    simp only [loopsAt, List.mem_append] at h
    exact h.elim (loopsAt_wf hw.1) (loopsAt_wf hw.2)
  | .block j body, b0, b, c, hw, h => loopsAt_wf (by simpa [wfC] using hw) (by simpa [loopsAt] using h)
  | .scope body, b0, b, c, hw, h => loopsAt_wf (by simpa [wfC] using hw) (by simpa [loopsAt] using h)
  | .loop body, b0, b, c, hw, h => by
    simp only [wfC] at hw
    simp only [loopsAt, List.mem_cons] at h
    rcases h with h | h
    · cases h; exact hw
    · exact loopsAt_wf hw h
  | .rangeFunc .., _, _, _, hw, _ => by simp [wfC] at hw
  | .skip, _, _, _, _, h => by simp [loopsAt] at h
  | .label _, _, _, _, _, h => by simp [loopsAt] at h
  | .region .., _, _, _, _, h => by simp [loopsAt] at h
  | .exit _, _, _, _, _, h => by simp [loopsAt] at h
  | .goto _, _, _, _, _, h => by simp [loopsAt] at h
  | .ret, _, _, _, _, h => by simp [loopsAt] at h
  | .refuse _, _, _, _, _, h => by simp [loopsAt] at h

theorem look_mem {α : Type} {b : Nat} : ∀ {l : List (Nat × α)} {x : α}, look b l = some x → (b, x) ∈ l
  | [], _, h => by simp [look] at h
  | (j, y) :: r, x, h => by
    simp only [look] at h
    cases hb : Nat.beq j b <;> rw [hb] at h
    · exact List.mem_cons_of_mem _ (look_mem h)
    · simp only [cond_true, Option.some.injEq] at h
      rw [beq_true.1 hb, h]
      exact List.mem_cons_self ..

/-- A loop's body, and what is in it. -/
theorem FnWf.bodyOf {f : Nat} {fn : Func} (h : FnWf P f fn) (b : Nat) : wfC fn.ntmps (bodyOf fn b) = true ∧ ∀ x ∈ loopsAt b (Ev.bodyOf fn b), x.2 = Ev.bodyOf fn x.1 := by
  obtain ⟨code, h1, h2, h3⟩ := h.body
  cases e : look b (loopsAt 0 code) with
  | none =>
    have : Ev.bodyOf fn b = .skip := by simp only [Ev.bodyOf, h1, e]
    rw [this]
    exact ⟨rfl, by simp [loopsAt]⟩
  | some c =>
    have hb : Ev.bodyOf fn b = c := by simp only [Ev.bodyOf, h1, e]
    rw [hb]
    have hm := look_mem e
    exact ⟨loopsAt_wf h2 hm, fun x hx => h.loops h1 x (loopsAt_in hm x hx)⟩

theorem trel_enter {args : List AV} {vals : List Value} (h : VRels X args vals) (n t : Nat) : VRel X (getD .un t (enum 0 args)) ((vals.toArray ++ Array.replicate n undef).getD t undef) := by
  rw [getD_look, look_enum, if_pos (Nat.zero_le _), Nat.sub_zero]
  have key : ∀ {args : List AV} {vals : List Value} {t : Nat}, VRels X args vals → (args[t]? = none ∧ vals.length ≤ t) ∨ ∃ a v, args[t]? = some a ∧ vals[t]? = some v ∧ VRel X a v := by
    intro args
    induction args with
    | nil => intro vals t h; cases h; exact .inl ⟨rfl, Nat.zero_le _⟩
    | cons a as ih =>
      intro vals t h
      cases h with
      | cons h1 h2 =>
        cases t with
        | zero => exact .inr ⟨a, _, rfl, rfl, h1⟩
        | succ t =>
          rcases ih (t := t) h2 with h3 | ⟨x, y, h3, h4, h5⟩
          · exact .inl ⟨by simpa using h3.1, by simpa using h3.2⟩
          · exact .inr ⟨x, y, by simpa using h3, by simpa using h4, h5⟩
  rcases key (t := t) h with ⟨h1, _⟩ | ⟨a, v, h1, h2, h3⟩
  · rw [h1]; exact .un _
  · rw [h1]
    have hlt := (List.getElem?_eq_some_iff.1 h2).1
    have : (vals.toArray ++ Array.replicate n undef)[t]? = some v := by
      rw [Array.getElem?_append_left (by simpa using hlt)]
      simpa using h2
    rw [Array.getD_eq_getD_getElem?, this]
    exact h3

theorem funE_ok {c : Cfg} (hC : cfgOk P c = true) (hm : P.follows .mixedOrders = true) {C : Orc R} (hO : OrcOk P C) {f : Nat} {fn : Func} (hW : FnWf P f fn) {L : LOrc R} {h : Hint} {args : List AV} {blks : List Blk} (hL : LOrcOk P blks.length fn.ntmps (bodyOf fn) L)
    {k : AV → List (Option Blk) → List Blk → Option R} {r : R} (hr : funE c C L h fn args blks k = some r) : ∃ v fin new, k v fin new = some r ∧ FnOk P f args blks v fin new := by
  obtain ⟨code, hb, hw, _⟩ := hW.body
  unfold funE at hr
  rw [hb] at hr
  simp only at hr
  obtain ⟨hlen, hr⟩ := chk_some hr
  rw [Nat.ble_eq] at hlen
  obtain ⟨e, s1, h1, hu1, h2⟩ := codeE_ok hC hm hO hL (by simp only [init]; exact uniq_enum _ _) hw (hW.loops hb) hr
  have done : retE c fn blks.length s1 k = some r → (e = .normal ∨ e = .ret) → ∃ v fin new, k v fin new = some r ∧ FnOk P f args blks v fin new := by
    intro h1 he
    obtain ⟨v, fin, new, k1, k2⟩ := retE_ok (N := fn.ntmps) hC h1
    refine ⟨v, fin, new, k1, ⟨fn, hW.hf, hW.name, by rw [hb]; rfl⟩, ?_⟩
    intro E X vals hE
    have hvl := VRels_len hE.vals
    refine calls_of_wp hW.hf hb ?_
    have hI : Inv blks.length fn.ntmps X E X { tmps := vals.toArray ++ Array.replicate (fn.ntmps - vals.toArray.size) undef, defers := [] } := by
      refine ⟨hE.rel, ?_, ?_, rfl, fun b cb _ h => ⟨cb, h, cb.same_refl⟩, rfl, ?_⟩
      · intro t
        rw [hE.s]
        exact trel_enter hE.vals _ t
      · intro b hb
        rw [hE.s] at hb
        exact hE.top b hb
      · simp; omega
    refine wp_mono (h2 X E X _ hE.s hI) ?_
    rintro e' a' w' ⟨rfl, X', hs', rfl, hI'⟩
    obtain ⟨val, X2, q1, q2, q3⟩ := k2 X E X' a' hs' hI'
    have : a'.defers = [] ∧ ∃ v, (results fn a'.tmps).run P X'.w = .ok v X'.w ∧ (fun e w' => ∃ val X'', e = Ending.returned val ∧ X''.w = w' ∧ Leaves blks.length _ fin new E X X'' val) (.returned v) X'.w := ⟨hI'.defers, val, q1, val, X2, rfl, q2, q3⟩
    rcases he with rfl | rfl
    · exact this
    · exact this
  cases e with
  | normal => exact done h1 (.inl rfl)
  | ret => exact done h1 (.inr rfl)
  | exit id => cases h1

/-! ### tables -/

def EntryOk (P : Program) (e : Entry R) : Prop := ∀ d k r, e.fn d k = some r → ∃ x, k x = some r ∧ FnOk P e.f (e.arg.to d).1 (e.arg.to d).2 (e.res.to x).1 (e.res.to x).2.1 (e.res.to x).2.2

theorem table_ok : ∀ {es : List (Entry R)}, (∀ e ∈ es, EntryOk P e) → OrcOk P (table es)
  | [], _ => by intro f as bs k r h; simp [table] at h
  | e :: es, he => by
    intro f as bs k r h
    have ih := table_ok (es := es) fun x hx => he x (by simp [hx])
    simp only [table] at h
    cases hb : Nat.beq e.f f <;> rw [hb] at h <;> simp only [cond_true, cond_false] at h
    · exact ih f as bs k r h
    · split at h
      · rename_i d hd
        obtain ⟨x, h1, h2⟩ := he e (by simp) d _ r h
        rw [← e.arg.ok _ _ hd, beq_true.1 hb] at h2
        exact ⟨_, _, _, h1, h2⟩
      · exact ih f as bs k r h

theorem entry_fun {c : Cfg} (hC : cfgOk P c = true) (hm : P.follows .mixedOrders = true) {C : Orc R} (hO : OrcOk P C) {fn : Func} {L : LOrc R} {h : Hint} {e : Entry R} (hW : FnWf P e.f fn) (hL : ∀ d, LOrcOk P (e.arg.to d).2.length fn.ntmps (bodyOf fn) L)
    (hfn : ∀ d k, e.fn d k = funE c C L h fn (e.arg.to d).1 (e.arg.to d).2 fun v fin new => via e.res k (v, fin, new)) : EntryOk P e := by
  intro d k r hr
  rw [hfn] at hr
  obtain ⟨v, fin, new, h1, h2⟩ := funE_ok hC hm hO hW (hL d) hr
  unfold via at h1
  split at h1
  · rename_i x hx
    refine ⟨x, h1, ?_⟩
    rw [← e.res.ok _ _ hx]
    exact h2
  · cases h1

def LEntryOk (P : Program) (m N : Nat) (B : Nat → Code) (e : LEntry R) : Prop := ∀ d k r, e.fn d k = some r → ∃ ex s', k ex s' = some r ∧ uniq s'.st ∧ CodeOk P m N (.loop (B e.b)) (e.st.to d) ex s'

theorem ltable_ok {m N : Nat} {B : Nat → Code} : ∀ {es : List (LEntry R)}, (∀ e ∈ es, LEntryOk P m N B e) → LOrcOk P m N B (ltable es)
  | [], _ => by intro b s k r h; simp [ltable] at h
  | e :: es, he => by
    intro b s k r h
    have ih := ltable_ok (es := es) fun x hx => he x (by simp [hx])
    simp only [ltable] at h
    cases hb : Nat.beq e.b b <;> rw [hb] at h <;> simp only [cond_true, cond_false] at h
    · exact ih b s k r h
    · split at h
      · rename_i d hd
        obtain ⟨ex, s', h1, h2, h3⟩ := he e (by simp) d _ r h
        rw [← e.st.ok _ _ hd, beq_true.1 hb] at h3
        exact ⟨ex, s', h1, h2, h3⟩
      · exact ih b s k r h

theorem lentry_fun {c : Cfg} (hC : cfgOk P c = true) (hm : P.follows .mixedOrders = true) {C : Orc R} (hO : OrcOk P C) {f : Nat} {fn : Func} (hW : FnWf P f fn) {m : Nat} {L : LOrc R} (hL : LOrcOk P m fn.ntmps (bodyOf fn) L) {h : Hint} {i o : List Nat} {e : LEntry R}
    (hen : ∀ d, uniq (e.st.to d).st) (g : Nat → e.st.D → (Ex → St → Option R) → Option R) (n : Nat) (hg : ∀ d k, e.fn d k = g n d k) (h0 : ∀ d k, g 0 d k = none)
    (hs : ∀ n d k, g (n + 1) d k = stepE c C L m h e.b (bodyOf fn e.b) i o (e.st.to d) (via e.st fun d' => g n d' k) k) : LEntryOk P m fn.ntmps (bodyOf fn) e := by
  intro d k r hr
  rw [hg] at hr
  obtain ⟨w1, w2⟩ := hW.bodyOf e.b
  obtain ⟨ex, s', h1, h2, h3⟩ := loop_ok hC hm hO hL w1 w2 e.st hen g h0 hs n d k r hr
  exact ⟨ex, s', h1, h2, h3.code⟩

/-! ### for what is printed -/

def uniqB {α : Type} : List (Nat × α) → Bool
  | [] => true
  | (j, _) :: r => (match look j r with | none => true | some _ => false) && uniqB r

theorem uniq_of {α : Type} : ∀ {l : List (Nat × α)}, uniqB l = true → uniq l
  | [], _ => trivial
  | (j, _) :: r, h => by
    simp only [uniqB, Bool.and_eq_true] at h
    refine ⟨?_, uniq_of h.2⟩
    cases e : look j r with
    | none => rfl
    | some x => rw [e] at h; simp at h

def fnWfB (fn : Func) : Bool :=
  match fn.body with
  | some code => wfC fn.ntmps code && nodupN ((loopsAt 0 code).map (·.1))
  | none => false

theorem fnWf_of {f : Nat} {fn : Func} (hf : P.funcs[f]? = some fn) (hn : (fn.name == "runtime.NumGoroutine") = false) (h : fnWfB fn = true) : FnWf P f fn := by
  refine ⟨hf, by simpa using hn, ?_⟩
  unfold fnWfB at h
  split at h
  · rename_i code hb
    simp only [Bool.and_eq_true] at h
    exact ⟨code, hb, h.1, h.2⟩
  · cases h

theorem table_nil : OrcOk P (table ([] : List (Entry R))) := table_ok (by simp)

theorem table_cons {e : Entry R} {es : List (Entry R)} (h : EntryOk P e) (hs : OrcOk P (table es)) : OrcOk P (table (e :: es)) := by
  intro f as bs k r hr
  simp only [table] at hr
  cases hb : Nat.beq e.f f <;> rw [hb] at hr <;> simp only [cond_true, cond_false] at hr
  · exact hs f as bs k r hr
  · split at hr
    · rename_i d hd
      obtain ⟨x, h1, h2⟩ := h d _ r hr
      rw [← e.arg.ok _ _ hd, beq_true.1 hb] at h2
      exact ⟨_, _, _, h1, h2⟩
    · exact hs f as bs k r hr

theorem ltable_nil {m N : Nat} {B : Nat → Code} : LOrcOk P m N B (ltable ([] : List (LEntry R))) := ltable_ok (by simp)

theorem ltable_cons {m N : Nat} {B : Nat → Code} {e : LEntry R} {es : List (LEntry R)} (h : LEntryOk P m N B e) (hs : LOrcOk P m N B (ltable es)) : LOrcOk P m N B (ltable (e :: es)) := by
  intro b s k r hr
  simp only [ltable] at hr
  cases hb : Nat.beq e.b b <;> rw [hb] at hr <;> simp only [cond_true, cond_false] at hr
  · exact hs b s k r hr
  · split at hr
    · rename_i d hd
      obtain ⟨ex, s', h1, h2, h3⟩ := h d _ r hr
      rw [← e.st.ok _ _ hd, beq_true.1 hb] at h3
      exact ⟨ex, s', h1, h2, h3⟩
    · exact hs b s k r hr

end Go.Ev

/- A law's arguments, as they lie in the world, and the answer of a law. -/
namespace Go.Ev
open Go.RowKit Go.ChangeShapes Go.WideShapes
open Go.ChangeMaps (open_string shut_string)

def kiF (rec : TypeId → Ki → Bool) (sz : TypeId → Nat) : List Field → Ki → Nat → Bool
  | [], .unit, _ => true
  | [f], K, o => Nat.beq f.offset o && (rec f.type K && Nat.beq (sz f.type) K.size)
  | f :: g :: fs, .pair a b, o => Nat.beq f.offset o && (rec f.type a && (Nat.beq (sz f.type) a.size && kiF rec sz (g :: fs) b (o + a.size)))
  | _, _, _ => false

/-- Is a type's data of this kind? -/
def kiT (P : Program) : Nat → TypeId → Ki → Bool
  | 0, _, _ => false
  | n + 1, t, K => match P.underlying t, K with
    | some .bool, .bool => true
    | some (.int k), .int k' => kbeq k k'
    | some .string, .str => true
    | some (.slice e), .lst K' => kiT P n e K' && (Nat.beq (P.cellsOf e) K'.size && Nat.ble 1 K'.size)
    | some (.struct fs), K => kiF (kiT P n) P.cellsOf fs.toList K 0 && Nat.beq (P.cellsOf t) K.size
    | _, _ => false

theorem mapM_range {β : Type} {f : Nat → Option β} {n : Nat} {r : List β} (h : (List.range n).mapM f = some r) : r.length = n ∧ ∀ i, i < n → f i = r[i]? := by
  have key : ∀ (n k : Nat) (r : List β), (List.range' k n).mapM f = some r → r.length = n ∧ ∀ i, i < n → f (k + i) = r[i]? := by
    intro n
    induction n with
    | zero =>
      intro k r h
      simp at h
      subst h
      exact ⟨rfl, fun i hi => by omega⟩
    | succ n ih =>
      intro k r h
      rw [List.range'_succ] at h
      obtain ⟨b, bs, h1, h2, rfl⟩ := mapM_cons h
      obtain ⟨h3, h4⟩ := ih (k + 1) bs h2
      refine ⟨by simp [h3], fun i hi => ?_⟩
      cases i with
      | zero => simpa using h1
      | succ i =>
        have := h4 i (by omega)
        rw [show k + (i + 1) = k + 1 + i by omega]
        simpa using this
  rw [List.range_eq_range'] at h
  obtain ⟨h1, h2⟩ := key n 0 r h
  exact ⟨h1, fun i hi => by have := h2 i hi; rwa [Nat.zero_add] at this⟩

section
variable {H : Type} {enc : TypeId × Value → H} {P : Program} {W : World} {base : Nat} {spare : Nat → Bool} {held : Bool}

/-- Cells that are read lie in a block. -/
theorem cells_seg {a : Addr} {n : Nat} {cs : List Value} (hn : 1 ≤ n) (h : W.cells? base a n = some cs) : ∃ g o cur ty fr, a = ⟨g, o, none⟩ ∧ W.heap[g]? = some (.cells cur ty fr) ∧ o + n ≤ cur.size ∧ cs = seg cur.toList o n := by
  unfold World.cells? at h
  split at h
  case isFalse => cases h
  obtain ⟨h1, h2⟩ := mapM_range h
  obtain ⟨g, o, sp⟩ := a
  have h0 := h2 0 (by omega)
  rw [List.getElem?_eq_getElem (by omega)] at h0
  have hz : (⟨g, o, sp⟩ : Addr).add 0 = ⟨g, o, sp⟩ := by simp [Addr.add]
  rw [hz] at h0
  simp only [World.cell?] at h0
  split at h0
  case h_2 => cases h0
  rename_i cur ty fr hg
  split at h0
  · cases h0
  rename_i hsp
  have hs : sp = none := by cases sp <;> simp at hsp ⊢
  subst hs
  have hcell : ∀ i, i < n → cur[o + i]? = cs[i]? := by
    intro i hi
    have := h2 i hi
    rw [addr_add] at this
    simpa [World.cell?, hg] using this
  have hle : o + n ≤ cur.size := by
    have := hcell (n - 1) (by omega)
    rw [List.getElem?_eq_getElem (by omega)] at this
    have := (Array.getElem?_eq_some_iff.1 this).1
    omega
  refine ⟨g, o, cur, ty, fr, rfl, hg, hle, ?_⟩
  apply List.ext_getElem?
  intro i
  by_cases hi : i < n
  · rw [← hcell i hi]
    simp [seg, hi]
  · rw [List.getElem?_eq_none (by omega), List.getElem?_eq_none (by simp [seg]; omega)]

theorem seg_succ (cur : List Value) (a n sz : Nat) : seg cur a ((n + 1) * sz) = seg cur a sz ++ seg cur (a + sz) (n * sz) := by
  simp only [seg]
  rw [Nat.succ_mul, Nat.add_comm (n * sz) sz, List.take_add, List.drop_drop]

theorem row_build {K : Ki} {S : Nat → Prop} {cur : List Value} {o : Nat} : ∀ (n k : Nat), (∀ i, k ≤ i → i < k + n → ∃ d : K.den, Rep W S K false d (seg cur (o + i * K.size) K.size) [] ∧ Fit K d) →
    ∃ l : List K.den, l.length = n ∧ RowR (Rep W S K false) l (seg cur (o + k * K.size) (n * K.size)) [] ∧ ∀ x ∈ l, Fit K x
  | 0, k, _ => ⟨[], rfl, by simp [seg, RowR], by simp⟩
  | n + 1, k, h => by
    obtain ⟨d, h1, h2⟩ := h k (by omega) (by omega)
    obtain ⟨l, h3, h4, h5⟩ := row_build n (k + 1) fun i hi hi' => h i (by omega) (by omega)
    refine ⟨d :: l, by simp [h3], ?_, ?_⟩
    · rw [seg_succ]
      refine ⟨_, _, [], [], rfl, rfl, h1, ?_⟩
      rw [show o + k * K.size + K.size = o + (k + 1) * K.size by rw [Nat.succ_mul]; omega]
      exact h4
    · intro x hx
      rcases List.mem_cons.1 hx with rfl | hx
      · exact h2
      · exact h5 x hx

theorem fields_rep {n : Nat} {rec : TypeId → Ki → Bool} {S : Nat → Prop} {cs : List Value}
    (ih : ∀ t K c x, rec t K = true → DataW.trod enc P W base spare held n t c = some x → ∃ d : K.den, Rep W S K false d c [] ∧ Fit K d) :
    ∀ (fs : List Field) (K : Ki) (o : Nat), kiF rec P.cellsOf fs K o = true →
      (∀ f ∈ fs, ∃ x, DataW.trod enc P W base spare held n f.type ((cs.drop f.offset).take (P.cellsOf f.type)) = some x) →
      ∃ d : K.den, Rep W S K false d ((cs.drop o).take K.size) [] ∧ Fit K d
  | [], K, o, hk, _ => by
    cases K <;> simp only [kiF] at hk <;> first | (cases hk; done) | skip
    exact ⟨(), ⟨by simp [Ki.size], rfl⟩, trivial⟩
  | [f], K, o, hk, h => by
    obtain ⟨b, h1⟩ := h f (by simp)
    simp only [kiF, Bool.and_eq_true] at hk
    obtain ⟨k1, k2, k3⟩ := hk
    obtain ⟨d, h2, h3⟩ := ih _ K _ _ k2 h1
    rw [beq_true.1 k1, beq_true.1 k3] at h2
    exact ⟨d, h2, h3⟩
  | f :: g :: fs, K, o, hk, h => by
    obtain ⟨b, h1⟩ := h f (by simp)
    cases K with
    | pair A B =>
      simp only [kiF, Bool.and_eq_true] at hk
      obtain ⟨k1, k2, k3, k4⟩ := hk
      obtain ⟨d, h3, h4⟩ := ih _ A _ _ k2 h1
      rw [beq_true.1 k1, beq_true.1 k3] at h3
      obtain ⟨d', h5, h6⟩ := fields_rep ih (g :: fs) B (o + A.size) k4 fun f hf => h f (by simp at hf ⊢; exact .inr hf)
      refine ⟨(d, d'), ⟨_, _, [], [], ?_, rfl, h3, h5⟩, h4, h6⟩
      simp only [Ki.size]
      rw [List.take_add, List.drop_drop]
    | _ => simp [kiF] at hk

theorem trod_rep : ∀ (n : Nat) {fuel : Nat} {t : TypeId} {K : Ki} {cs : List Value} {x : DataW H × List MemPlace}, kiT P n t K = true → DataW.trod enc P W base spare held fuel t cs = some x → ∃ d : K.den, Rep W (fun g => g < W.heap.size) K false d cs [] ∧ Fit K d
  | 0, _, _, _, _, _, hk, _ => by simp [kiT] at hk
  | n + 1, fuel, t, K, cs, x, hk, h => by
    simp only [kiT] at hk
    split at hk
    · rename_i hu
      obtain ⟨b, rfl, _⟩ := DataW.trod_bool hu h
      exact ⟨b, ⟨rfl, rfl⟩, trivial⟩
    · rename_i k k' hu
      have := kbeq_eq hk
      subst this
      obtain ⟨m, rfl, _, hw⟩ := DataW.trod_int hu h
      exact ⟨m, ⟨rfl, rfl⟩, hw⟩
    · rename_i hu
      obtain ⟨s, rfl, _, hs⟩ := DataW.trod_string hu h
      obtain ⟨⟨l⟩⟩ := s
      exact ⟨l, ⟨rfl, rfl⟩, hs⟩
    · rename_i e K' hu
      simp only [Bool.and_eq_true] at hk
      obtain ⟨k1, k2, k3⟩ := hk
      have hsz := beq_true.1 k2
      rw [Nat.ble_eq] at k3
      rcases DataW.trod_slice hu h with ⟨rfl, _⟩ | ⟨a, len, cap, elems, rest, m, rfl, rfl, _, _, hlc, hcm, hel, hat, _⟩
      · exact ⟨[], .inr ⟨rfl, rfl, _, rfl, none, 0, rfl, Nat.le_refl _, .inl rfl⟩, Nat.zero_le _, fun x hx => nomatch hx⟩
      · have each : ∀ i, i < len → ∃ g o cur ty fr, a.add (i * K'.size) = ⟨g, o, none⟩ ∧ W.heap[g]? = some (.cells cur ty fr) ∧ o + K'.size ≤ cur.size ∧ ∃ d : K'.den, Rep W (fun g => g < W.heap.size) K' false d (seg cur.toList o K'.size) [] ∧ Fit K' d := by
          intro i hi
          have hb := hat i hi
          rw [List.getElem?_eq_getElem (by omega)] at hb
          cases hc : W.cells? base (a.add (i * P.cellsOf e)) (P.cellsOf e) with
          | none => rw [hc] at hb; simp at hb
          | some cs =>
            rw [hc] at hb
            simp only [Option.bind_some] at hb
            rw [hsz] at hc
            obtain ⟨g, o, cur, ty, fr, e1, e2, e3, e4⟩ := cells_seg k3 hc
            obtain ⟨d, d1, d2⟩ := trod_rep n k1 hb
            exact ⟨g, o, cur, ty, fr, e1, e2, e3, d, by rw [← e4]; exact d1, d2⟩
        by_cases h0 : len = 0
        · subst h0
          exact ⟨[], .inr ⟨rfl, rfl, _, rfl, _, cap, rfl, Nat.zero_le _, .inl rfl⟩, Nat.zero_le _, fun x hx => nomatch hx⟩
        · obtain ⟨g, o, cur, ty, fr, e1, e2, e3, _⟩ := each 0 (by omega)
          have ha : a = ⟨g, o, none⟩ := by
            rw [Nat.zero_mul] at e1
            simpa [Addr.add] using e1
          subst ha
          have each' : ∀ i, i < len → o + i * K'.size + K'.size ≤ cur.size ∧ ∃ d : K'.den, Rep W (fun g => g < W.heap.size) K' false d (seg cur.toList (o + i * K'.size) K'.size) [] ∧ Fit K' d := by
            intro i hi
            obtain ⟨g', o', cur', ty', fr', f1, f2, f3, f4⟩ := each i hi
            rw [addr_add] at f1
            simp only [Addr.mk.injEq] at f1
            obtain ⟨rfl, rfl, _⟩ := f1
            rw [e2] at f2
            cases f2
            exact ⟨f3, f4⟩
          obtain ⟨l, l1, l2, l3⟩ := row_build (K := K') (o := o) (cur := cur.toList) len 0 fun i _ hi => (each' i (by omega)).2
          have hlast := (each' (len - 1) (by omega)).1
          have hmul : (len - 1) * K'.size + K'.size = len * K'.size := by rw [← Nat.succ_mul]; congr 1; omega
          have hg : g < W.heap.size := (Array.getElem?_eq_some_iff.1 e2).1
          rw [Nat.zero_mul, Nat.add_zero] at l2
          refine ⟨l, .inr ⟨rfl, rfl, _, rfl, _, cap, ?_, by rw [l1]; exact hlc, .inr ⟨g, o, cur, ty, fr, rfl, hg, e2, ?_, ?_⟩⟩, ?_, fun x hx => l3 x hx⟩
          · rw [l1]
          · rw [l1]; omega
          · rw [l1]; exact l2
          · rw [l1]; omega
    · rename_i fs hu
      simp only [Bool.and_eq_true] at hk
      obtain ⟨k1, k2⟩ := hk
      obtain ⟨xs, m, rfl, _, hlen, hxl, hat⟩ := DataW.trod_struct hu h
      have := fields_rep (P := P) (W := W) (base := base) (spare := spare) (held := held) (enc := enc) (n := m) (S := fun g => g < W.heap.size) (cs := cs) (fun t K c x hk hx => trod_rep n hk hx) fs.toList _ 0 k1 (by
        intro f hf
        obtain ⟨i, hi, hif⟩ := List.getElem_of_mem hf
        have hfi : fs[i]? = some f := by rw [← hif]; simp at hi ⊢
        have := hat i f hfi
        rw [List.getElem?_eq_getElem (by simp at hi; omega)] at this
        exact ⟨_, this⟩)
      obtain ⟨d, d1, d2⟩ := this
      refine ⟨d, ?_, d2⟩
      rw [List.drop_zero, List.take_of_length_le (by rw [hlen, beq_true.1 k2]; exact Nat.le_refl _)] at d1
      exact d1
    · cases hk

end

/-- No arrays on top. -/
def flatK : Ki → Bool
  | .arr .. => false
  | .pair a b => flatK a && flatK b
  | _ => true

def argParts (K : Ki) (d : K.den) : List AV := roParts (.reg 0) (toParts K d)

theorem roParts_append (q : Prov) : ∀ a b : List AV, roParts q (a ++ b) = roParts q a ++ roParts q b
  | [], _ => rfl
  | x :: a, b => by cases x <;> simp [roParts, roParts_append q a b]

/-- A frame that may read all that there is. -/
structure Sees (Y : Cx) (W : World) : Prop where
  w : Y.w = W
  S : ∀ g, g < W.heap.size → Y.S (some 0) g

theorem argParts_ok {Y : Cx} {W : World} (hY : Sees Y W) : ∀ {K : Ki} {d : K.den} {cs : List Value}, flatK K = true → Rep W (fun g => g < W.heap.size) K false d cs [] → PRs Y (argParts K d) cs [] ∧ ∀ a ∈ argParts K d, a.norw = true
  | .int k, d, cs, _, h => by rw [h.1]; exact ⟨.one rfl rfl (.int _ _) .nil, by simp [argParts, toParts, roParts, AV.norw]⟩
  | .bool, d, cs, _, h => by rw [h.1]; exact ⟨.one rfl rfl (.bool _) .nil, by simp [argParts, toParts, roParts, AV.norw]⟩
  | .str, d, cs, _, h => by rw [h.1]; exact ⟨.one rfl rfl (.str _) .nil, by simp [argParts, toParts, roParts, AV.norw]⟩
  | .lst e, d, cs, _, h => by
    rcases h with ⟨h, _⟩ | ⟨_, _, v, h1, h2⟩
    · cases h
    · rw [h1]
      have h3 : RoS W (Y.S (some 0)) e.size (List.length (α := e.den) d) (fun cs => RowR (Rep W (Y.S (some 0)) e false) d cs []) v := RoS_imp h2 (fun g hg => ⟨hY.S g hg, rfl⟩) fun cs hc => RoRow_move hc fun g hg => ⟨hY.S g hg, rfl⟩
      obtain ⟨A, c, rfl, hc, h4⟩ := h2
      refine ⟨.one rfl rfl (.ro hc (h4.imp id fun ⟨g, o, cur, t, fr, h, _⟩ => ⟨g, o, h⟩) trivial fun _ => ?_) .nil, by simp [argParts, toParts, roParts, AV.norw]⟩
      rw [hY.w]
      exact h3
  | .arr n e, d, cs, hf, _ => by simp [flatK] at hf
  | .pair a b, d, cs, hf, ⟨c1, c2, f1, f2, e1, e2, h1, h2⟩ => by
    simp only [flatK, Bool.and_eq_true] at hf
    obtain ⟨rfl, rfl⟩ := List.append_eq_nil_iff.1 e2.symm
    obtain ⟨k1, k2⟩ := argParts_ok hY hf.1 h1
    obtain ⟨k3, k4⟩ := argParts_ok hY hf.2 h2
    have e : argParts (.pair a b) d = argParts a d.1 ++ argParts b d.2 := by simp only [argParts, toParts, roParts_append]
    rw [e, e1]
    refine ⟨by simpa using PRs_append k1 k3, fun x hx => ?_⟩
    rcases List.mem_append.1 hx with hx | hx
    · exact k2 x hx
    · exact k4 x hx
  | .unit, d, cs, _, h => by rw [h.1]; exact ⟨.nil, by simp [argParts, toParts, roParts]⟩

section
variable {H : Type} {enc : TypeId × Value → H} {P : Program} {W : World} {base : Nat} {spare : Nat → Bool} {held : Bool} {r : Reach} {b0 : Nat} {t : TypeId} {v : Value} {d0 : DataW H} {ps : List MemPlace}

/-- An argument that is a struct. -/
theorem arg_struct {fs : Array Field} (K : Ki) (n : Nat) (hu : P.underlying t = some (.struct fs)) (hk : kiT P n t K = true) (hf : flatK K = true) (hv : Value.okWide P W r b0 t v) (h : DataW.Trod enc P W base spare held t v d0 ps) :
    ∃ d : K.den, Fit K d ∧ ∀ Y, Sees Y W → VRel Y (.agg (argParts K d)) v := by
  obtain ⟨cs, rfl, _⟩ := okWide_struct hu hv
  obtain ⟨fuel, h⟩ := h
  obtain ⟨d, h1, h2⟩ := trod_rep n hk h
  refine ⟨d, h2, fun Y hY => ?_⟩
  obtain ⟨k1, k2⟩ := argParts_ok hY hf h1
  have : (Value.agg cs).cells.toList.toArray = cs := by simp [Value.cells]
  rw [← this]
  exact .agg k1 k2

/-- .. a slice. -/
theorem arg_slice {e : TypeId} (K : Ki) (n : Nat) (hu : P.underlying t = some (.slice e)) (hk : kiT P n t (.lst K) = true) (hv : Value.okWide P W r b0 t v) (h : DataW.Trod enc P W base spare held t v d0 ps) :
    ∃ l : List K.den, Fit (.lst K) l ∧ ∀ Y, Sees Y W → VRel Y (.ro (.reg 0) K l) v := by
  obtain ⟨A, len, cap, rfl⟩ := okWide_slice hu hv
  obtain ⟨fuel, h⟩ := h
  obtain ⟨d, h1, h2⟩ := trod_rep n hk h
  refine ⟨d, h2, fun Y hY => ?_⟩
  obtain ⟨k1, k2⟩ := argParts_ok hY (K := .lst K) rfl h1
  have e : (Value.slice A len cap).cells.toList = [.slice A len cap] := rfl
  rw [e] at k1
  have k1' : PRs Y [.ro (.reg 0) K d] [.slice A len cap] [] := k1
  cases k1' with
  | one _ _ h _ => exact h

/-- .. a string. -/
theorem arg_str (hu : P.underlying t = some .string) (hv : Value.okWide P W r b0 t v) (h : DataW.Trod enc P W base spare held t v d0 ps) :
    ∃ s : List UInt8, Fit .str s ∧ ∀ Y, Sees Y W → VRel Y (.str s) v := by
  obtain ⟨s, rfl, _, _, hs⟩ := open_string hu hv h
  obtain ⟨⟨l⟩⟩ := s
  exact ⟨l, hs, fun Y _ => .str l⟩

theorem arg_int {k : IntKind} (hu : P.underlying t = some (.int k)) (hv : Value.okWide P W r b0 t v) (h : DataW.Trod enc P W base spare held t v d0 ps) :
    ∃ n : Int, Fit (.int k) n ∧ ∀ Y, Sees Y W → VRel Y (.int k n) v := by
  obtain ⟨n, rfl, _, _, hw⟩ := open_int hu hv h
  exact ⟨n, hw, fun Y _ => .int k n⟩

theorem arg_bool (hu : P.underlying t = some .bool) (hv : Value.okWide P W r b0 t v) (h : DataW.Trod enc P W base spare held t v d0 ps) :
    ∃ b : Bool, Fit .bool b ∧ ∀ Y, Sees Y W → VRel Y (.bool b) v := by
  obtain ⟨b, rfl, _, _⟩ := open_bool hu hv h
  exact ⟨b, trivial, fun Y _ => .bool b⟩

end

/-- A law that the evaluator runs to true. -/
theorem law_calls {P : Program} {e : Entry Bool} (he : EntryOk P e) (d : e.arg.D) (tob : e.res.D → Bool) (hres : ∀ x, (e.res.to x).1 = .bool (tob x)) (hb : (e.arg.to d).2 = []) {W : World} {vals : List Value} (hv : ∀ Y, Sees Y W → VRels Y (e.arg.to d).1 vals)
    (h : e.fn d (fun x => some (tob x)) = some true) : Calls P e.f vals.toArray W fun e w' => e = .returned (.bool true) ∧ Below W.heap.size W w' := by
  obtain ⟨x, h1, hok⟩ := he d _ true h
  simp only [Option.some.injEq] at h1
  rw [hres, h1, hb] at hok
  let E : Env := { w := W, H := fun _ => False }
  let X : Cx := { cm := fun _ => none, S := fun _ g => g < W.heap.size, s := init (e.arg.to d).1 [], w := W }
  have hE : Enters (e.arg.to d).1 [] E X vals := by
    refine ⟨⟨?_, ?_, ?_, ⟨rfl, rfl, rfl, Nat.le_refl _, fun _ _ _ => rfl⟩, uniq_enum _ _⟩, rfl, fun _ _ => rfl, hv X ⟨rfl, fun g hg => hg⟩⟩
    · intro b x hl; simp [X, init, enum, look] at hl
    · intro b b' x x' cb cb' g hl; simp [X, init, enum, look] at hl
    · intro n g hg; exact ⟨hg, fun h => h⟩
  refine (hok.go E X vals hE).mono ?_
  rintro e' w' ⟨val, X', rfl, rfl, hL⟩
  have hval := hL.val
  generalize val = u at hval
  cases hval
  have hfr := hL.rel.fr
  exact ⟨rfl, hfr.os, hfr.tape, hfr.output, hfr.size, fun k hk => hfr.block k hk fun h => h⟩

end Go.Ev
