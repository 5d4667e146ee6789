/- An abstract evaluator of Go code over plain data, and the proof that what it says of a function comes to pass. Part 3. -/
import Derived.Test.YtclfonfegenfiaaEb
import Derived.MapKept
import Derived.ChangeKeysEq
import Derived.OrdersIn
import Derived.RangeFuncRecord
import Derived.RangeFuncSeq

set_option linter.unusedVariables false
set_option linter.unusedSimpArgs false

/- What is stored. -/
namespace Go.Ev

variable {R : Type} {E : Env} {X : Cx} {P : Program} {t : Nat} {ti : TyI} {w : World}

/-- What a store comes to. -/
structure Stores (E : Env) (X : Cx) (n : Nat) (av vv : Value) (u : Upd) : Prop where
  out : ∃ g o cur X', av = .pointer (some ⟨g, o, none⟩) ∧ Cells X.w g cur ∧ o + n ≤ cur.length ∧ vv.cells.toList.length = n ∧ (∀ c ∈ vv.cells.toList, c.oneCell' = true) ∧
    X'.w = setBlk X.w g (splice cur o vv.cells.toList) ∧ ∀ nb val, Good E X nb .un u val X'

theorem setBlk_facts {g : Nat} {cur : List Value} : (setBlk w g cur).os = w.os ∧ (setBlk w g cur).tape = w.tape ∧ (setBlk w g cur).output = w.output := ⟨rfl, rfl, rfl⟩

theorem rowK_none {ps : List AV} (h : ∀ a ∈ ps, a.norw = true) : ∀ K l, ps ≠ [.rw K l] := by
  intro K l e
  have := h (.rw K l) (by rw [e]; simp)
  simp [AV.norw] at this

/-- Into a box. -/
theorem store_box (R : Rel E X) {b : Nat} {v v' : Nat} {qs qs' : List AV} {ks : List Nat} {g : Nat} {fps : List Nat} {cur : List Value} (hl : look b X.s.st = some (.cell false v qs)) (hc : X.cm b = some (.box g fps)) (hcur : Cells X.w g cur)
    (hvv : v ≤ v') (hbk : b ∉ ks) (hlive : ∀ b ∈ ks, ∃ x, look b X.s.st = some x) {o n : Nat} {nc : List Value} {nf : List Nat} (hks : FromKs X ks nf) (hW : Wrote X qs' cur fps o n nc nf) (hnc : nc.length = n) :
    ∃ X', X'.w = setBlk X.w g (splice cur o nc) ∧ o + n ≤ cur.length ∧ ∀ nb val, Good E X nb .un ((b, some (.cell false v' qs')) :: kills ks) val X' := by
  obtain ⟨c1, c2, c3, f1, f2, f3, e1, e2, e3, e4, e5, e6⟩ := hW.out
  have hle : o + n ≤ cur.length := by rw [e1]; simp; omega
  have hsp : splice cur o nc = c1 ++ nc ++ c3 := by rw [e1, ← e3, splice_eq _ _ _ _ (by omega)]
  have hS : SetBlk E X b (.cell false v qs) (.cell false v' qs') ks (.box g fps) (.box g (f1 ++ nf ++ f3)) (setBlk X.w g (splice cur o nc)) (fun k => k = g) (setB X b (.cell false v' qs') ks (.box g (f1 ++ nf ++ f3)) (setBlk X.w g (splice cur o nc))) := by
    refine ⟨rfl, rfl, rfl, rfl, hl, hc, rfl, ?_, hbk, rfl, rfl, rfl, by rw [setBlk_size]; exact Nat.le_refl _, fun k hk hT => setBlk_other _ _ _ _ hT, fun k hk => by simp [CB.fp, hk]⟩
    intro ro'' v'' ps'' e
    cases e
    exact ⟨false, v, qs, rfl, hvv, fun _ ⟨K, l, e, _⟩ => rowK_none e6 K l e⟩
  obtain ⟨cb', k1, k2, k3, k4⟩ := R.blk b _ hl
  rw [hc] at k1
  cases k1
  have hnd : (f1 ++ nf ++ f3).Nodup ∧ g ∉ f1 ++ nf ++ f3 := by
    rw [e2] at k3
    simp only [CB.fp, List.nodup_cons, List.mem_append, not_or] at k3
    obtain ⟨⟨⟨g1, g2⟩, g3⟩, k3⟩ := k3
    have hdis : ∀ x ∈ nf, x ∉ g :: fps := by
      intro x hx hx'
      obtain ⟨b2, x2, cb2, q1, q2, q3, q4⟩ := hks.mem x hx
      have := R.dis b b2 _ x2 _ cb2 x hl q2 hc q3 hx' q4
      exact hbk (this ▸ q1)
    have h13 := k3
    rw [List.nodup_append] at h13
    obtain ⟨h12, h3, h13⟩ := h13
    rw [List.nodup_append] at h12
    refine ⟨?_, ?_⟩
    · rw [List.nodup_append]
      refine ⟨?_, h3, ?_⟩
      · rw [List.nodup_append]
        refine ⟨h12.1, hks.nodup, ?_⟩
        intro x hx y hy e
        subst e
        exact hdis x hy (by rw [e2]; simp [hx])
      · intro x hx y hy e
        subst e
        rcases List.mem_append.1 hx with hx | hx
        · exact h13 x (by simp [hx]) x hy rfl
        · exact hdis x hx (by rw [e2]; simp [hy])
    · simp only [List.mem_append, not_or]
      exact ⟨⟨g1, fun hx => hdis g hx (by simp)⟩, g3⟩
  refine ⟨_, rfl, hle, fun nb val => hS.good R ?_ ?_ ?_ (fun _ => .un _)⟩
  · intro hx
    refine .box e6 (cur := c1 ++ nc ++ c3) ?_ ?_
    · have := setBlk_cells hcur (splice cur o nc) (splice_length _ _ _ (by omega))
      rw [hsp] at this
      show Cells (setBlk X.w g (splice cur o nc)) g (c1 ++ nc ++ c3)
      rw [hsp]; exact this
    · refine e5.ext hx fun k hk => setBlk_other _ _ _ _ fun e => hnd.2 (e ▸ hk)
  · simp only [CB.fp, List.nodup_cons]
    exact ⟨hnd.2, hnd.1⟩
  · intro k hk
    rw [setBlk_size]
    have hin : k ∈ g :: fps ∨ k ∈ nf := by
      simp only [CB.fp, List.mem_cons, List.mem_append] at hk
      rw [e2]
      simp only [List.mem_cons, List.mem_append]
      rcases hk with hk | (hk | hk) | hk
      · exact .inl (.inl hk)
      · exact .inl (.inr (.inl (.inl hk)))
      · exact .inr hk
      · exact .inl (.inr (.inr hk))
    rcases hin with hin | hin
    · exact ⟨(k4 k hin).1, .inr ⟨b, _, _, .inl rfl, hl, hc, hin⟩⟩
    · obtain ⟨b2, x2, cb2, q1, q2, q3, q4⟩ := hks.mem k hin
      obtain ⟨cb3, j1, _, _, j4⟩ := R.blk b2 x2 q2
      rw [q3] at j1
      cases j1
      exact ⟨(j4 k q4).1, .inr ⟨b2, x2, cb2, .inr q1, q2, q3, q4⟩⟩

end Go.Ev

/- Operations: conversions, the operation itself. -/
namespace Go.Ev

variable {R : Type} {E : Env} {X : Cx} {P : Program} {t : Nat} {ti : TyI} {w : World}

/-- A row that is marked. -/
theorem mark_row (hR : Rel E X) {b v : Nat} {K : Ki} {l : List K.den} (hl : look b X.s.st = some (.cell false v [.rw K l])) (hne : 1 ≤ l.length) {val : Value} (hv : VRel X (.sl b) val) :
    ∃ (g og n cc : Nat) (w' : World), val = .slice (some ⟨g, og, none⟩) n cc ∧ (markStringish ⟨g, og, none⟩).run P X.w = .ok () w' ∧
      ∃ X', X'.w = w' ∧ ∀ nb, Good E X nb (.sl b) ((b, some (.cell false (v + 1) [.rw K l])) :: kills []) val X' := by
  obtain ⟨A, c, fp, u1, u2, u3, u4⟩ := rel_row hR hl
  cases hv with
  | sl hcm =>
    rw [u1] at hcm
    cases hcm
    obtain ⟨A', c2, e, h⟩ := u2
    cases e
    rcases h with ⟨z1, z2, _⟩ | ⟨g, o, cur, fps, rfl, q2, q3, q4, rfl, q6⟩
    · omega
    obtain ⟨ty, fr, hg, hth⟩ := q2
    let w' := X.w.freeze { block := g, off := cur.length } 1
    have hother : ∀ k, k ≠ g → w'.heap[k]? = X.w.heap[k]? := by
      intro k hk
      simp only [w', World.freeze, Nat.one_ne_zero, if_false, Array.getElem?_modify]
      rw [if_neg (fun e => hk e.symm)]
    have hg' : Cells w' g cur := by
      obtain ⟨lo, hi⟩ := fr
      refine ⟨ty, if (lo == hi) = true then (cur.length, cur.length + 1) else (min lo cur.length, max hi (cur.length + 1)), by simp only [w', World.freeze, Nat.one_ne_zero, if_false, Array.getElem?_modify, if_true, hg, Option.map_some], ?_⟩
      by_cases e : lo = hi
      · subst e
        simp only [beq_self_eq_true, if_true]
        exact .inr (Nat.le_refl _)
      · have e' : (lo == hi) = false := by simpa using e
        simp only [e', Bool.false_eq_true, if_false]
        rcases hth with h | h
        · exact (e h).elim
        · exact .inr (by simp only; omega)
    have hS : SetBlk E X b (.cell false v [.rw K l]) (.cell false (v + 1) [.rw K l]) [] (.row (some ⟨g, o, none⟩) l.length c K.size (g :: fps)) (.row (some ⟨g, o, none⟩) l.length c K.size (g :: fps)) w' (fun k => k = g)
        (setB X b (.cell false (v + 1) [.rw K l]) [] (.row (some ⟨g, o, none⟩) l.length c K.size (g :: fps)) w') := by
      refine ⟨rfl, rfl, rfl, rfl, hl, u1, ⟨rfl, rfl, rfl, rfl⟩, ?_, by simp, ?_, ?_, ?_, ?_, fun k hk hT => hother k hT, fun k hk => by simp [CB.fp, hk]⟩
      · intro ro'' v'' ps'' e
        cases e
        exact ⟨false, v, _, rfl, by omega, fun hv => by omega⟩
      all_goals simp [w', World.freeze]
    refine ⟨g, o, l.length, c, w', rfl, ?_, _, rfl, fun nb => hS.good hR ?_ ?_ ?_ ?_⟩
    · have hsh : X.w.shape? g = some (ty, cur.length) := by simp [World.shape?, hg]
      simp only [markStringish, Sem.run_bind, run_shape, Result.andThen_ok, hsh, run_freeze]
      rfl
    · intro hx
      refine .row rfl rfl ⟨_, _, rfl, .inr ⟨g, o, cur, fps, rfl, hg', q3, q4, rfl, ?_⟩⟩
      simp only [CB.fp, List.nodup_cons] at u3
      exact q6.move (hx.sts none) fun k hk => hother k fun e => u3.1 (e ▸ hk)
    · exact u3
    · intro k hk
      refine ⟨?_, ?_⟩
      · have := (u4 k hk).1
        simpa [w', World.freeze] using this
      · exact .inr ⟨b, _, _, .inl rfl, hl, u1, hk⟩
    · intro hx
      exact .sl (sz := K.size) (fp := g :: fps) (by simp [setB])

theorem convert_ok {c : Cfg} (hC : cfgOk P c = true) {s : St} {o : Oper} {nb : Nat} {cont : Cont R} {r : R} {d : Nat} {x : Operand} (hop : o.op = .convert t d x) (h : memE c s o nb cont = some r) :
    Res P c s o nb cont r fun s' k => memE c s' o nb k := by
  simp only [memE, hop] at h
  split at h
  case h_2 => cases h
  rename_i ts td hts htd
  have hTs := cfg_ty hC hts
  have hTd := cfg_ty hC htd
  obtain ⟨ds, hds, _⟩ := hTs.d
  have hmem : ∀ s' u rd, Agree s s' o u rd → ev s' x = ev s x := fun s' u rd ha => ha.ev x (by simp [hop, Op.operands])
  split at h
  · rename_i k k' n hk hx
    refine ⟨_, [], [], h, goes_pure ?_, ?_, trivial⟩
    · intro E X ac hs hR hT
      subst hs
      have hv := ev_ok hT x
      rw [hx] at hv
      generalize hv' : ac.eval x = v at hv
      cases hv
      refine ⟨_, ?_, .int _ _⟩
      simp only [execOp, hop, hv', convert, Sem.run_bind, run_und hds, run_und (hTd.int hk), Result.andThen_ok, Conv.intToInt, Sem.run_pure, wrapK]
    · intro s' ha R' k0
      simp only [memE, hop, hts, htd, hk]
      rw [hmem s' _ _ ha, hx]
  · rename_i l hk hx
    cases hst : isStr td <;> rw [hst] at h <;> simp only [cond_true, cond_false] at h
    · cases hsl : isSl td <;> rw [hsl] at h <;> simp only [cond_true, cond_false] at h
      · cases h
      split at h
      case h_2 => cases h
      rename_i te hte
      cases hby : isByte te <;> rw [hby] at h <;> simp only [cond_true, cond_false] at h
      · cases h
      obtain ⟨k1, h⟩ := chk_some h
      have hTe := cfg_ty hC hte
      refine ⟨_, _, _, h, ?_, ?_, trivial⟩
      · intro E X ac hs hR hT hF next Q hn
        subst hs
        have hv := ev_ok hT x
        rw [hx] at hv
        generalize hv' : ac.eval x = v at hv
        cases hv
        obtain ⟨cc, cs, w', q1, q2, q3, q4, q5, q6, q7, q8⟩ := run_str_bytes (P := P) (w := X.w) td.elem l
        have hlen : (strInts l).length = l.length := by simp [strInts]
        obtain ⟨X', r1, r2⟩ := good_row (w' := w') (K := .int .u8) (l := strInts l) (cs := cs) (c := cc) (fps := []) (ks := []) hR hF (by simp)
          (by
            have e : List.take (List.length (α := Int) (strInts l) * 1) cs.toList = (strInts l).map (Value.int .u8) := by rw [hlen, Nat.mul_one, q3]
            show OwnRow X.w (X.S none) (.int .u8) (strInts l) (List.take (List.length (α := Int) (strInts l) * 1) cs.toList) []
            rw [e]
            exact ints_row _)
          (by show List.length (α := Int) (strInts l) ≤ cc; omega) (by show cc * 1 ≤ cs.size; omega) (.inr (Nat.le_refl _)) (by simp) (by simp) q5 q6 q7 q8
        unfold Oper.wp
        have hrun : (convert t d (.string ⟨⟨l⟩⟩)).run P X.w = (Conv.stringToBytes td.elem ⟨⟨l⟩⟩).run P X.w := by
          simp only [convert, Sem.run_bind, run_und hds, run_und (hTd.slice hsl), Result.andThen_ok, run_und (hTe.byte hby)]
        simp only [execOp, hop, hv', Sem.run_bind, hrun, q4, Result.andThen_ok, Sem.run_pure, Oper.upon]
        have := hn _ X' (by simpa [kills] using r2)
        rw [r1] at this
        have e2 : List.length (α := Int) (strInts l) = l.length := hlen
        have e3 : (Value.slice (some ⟨X.w.heap.size, 0, none⟩) (List.length (α := (Ki.int IntKind.u8).den) (strInts l)) cc) = .slice (some ⟨X.w.heap.size, 0, none⟩) l.length cc := by
          show Value.slice _ (List.length (α := Int) (strInts l)) cc = _
          rw [e2]
        rw [e3] at this
        exact this
      · intro s' ha R' k0
        simp only [memE, hop, hts, htd, hk]
        rw [hmem s' _ _ ha, hx]
        simp only [hst, hsl, hte, hby, k1, cond_true, cond_false, chk_true]
    · refine ⟨_, [], [], h, goes_pure ?_, ?_, trivial⟩
      · intro E X ac hs hR hT
        subst hs
        have hv := ev_ok hT x
        rw [hx] at hv
        generalize hv' : ac.eval x = v at hv
        cases hv
        refine ⟨_, ?_, .str _⟩
        simp only [execOp, hop, hv', convert, Sem.run_bind, run_und hds, run_und (hTd.string hst), Result.andThen_ok, Sem.run_pure]
      · intro s' ha R' k0
        simp only [memE, hop, hts, htd, hk]
        rw [hmem s' _ _ ha, hx]
        simp only [hst, cond_true]
  · rename_i hk hnstr
    cases hb : (isStr td && isSl ts) <;> rw [hb] at h <;> simp only [cond_true, cond_false] at h
    · have hnb := hb
      unfold convB at h
      split at h
      case h_2 => cases h
      rename_i b hx
      split at h
      case h_2 => cases h
      rename_i v K l hl
      obtain ⟨k1, hc⟩ := chk_some h
      simp only [Bool.and_eq_true] at k1
      obtain ⟨⟨⟨k1, k2⟩, k3⟩, k4⟩ := k1
      split at k3
      case h_2 => cases k3
      rename_i te hte
      have k2 := beq_true.1 k2
      subst k2
      rw [hts] at htd
      cases htd
      have hTe := cfg_ty hC hte
      refine ⟨_, _, _, hc, ?_, ?_, trivial⟩
      · intro E X ac hs hR hT hF next Q hn
        subst hs
        have hv := ev_ok hT x
        rw [hx] at hv
        generalize hv' : ac.eval x = v at hv
        obtain ⟨g, og, n, cc, w', q1, q2, q3⟩ := mark_row (P := P) hR hl (Nat.le_of_ble_eq_true k4) hv
        obtain ⟨X', q3, q4⟩ := q3
        unfold Oper.wp
        have hrun : (convert t t v).run P X.w = .ok v w' := by
          subst q1
          simp only [convert, Sem.run_bind, run_und (hTs.slice k1), Result.andThen_ok, beq_self_eq_true, run_und (hTe.byte k3), q2, Sem.run_pure]
        simp only [execOp, hop, hv', Sem.run_bind, hrun, Result.andThen_ok, Sem.run_pure, Oper.upon]
        have := hn _ X' (by simpa [kills] using q4 _)
        rw [q3] at this
        exact this
      · intro s' ha R' k0
        simp only [memE, hop, hts, hk]
        rw [hmem s' _ _ ha, hx]
        simp only [hnb, cond_false, convB]
        have hl' : look b s'.st = some (.cell false v [.rw K l]) := by rw [← hl]; exact ha.wr b (by simp [upIds])
        have hb' : Nat.beq t t = true := beq_true.2 rfl
        simp only [hl', hte, k1, k3, k4, hb', Bool.and_self, chk_true]
    have hb' := hb
    simp only [Bool.and_eq_true] at hb'
    split at h
    case h_2 => cases h
    rename_i te hte
    cases hby : isByte te <;> rw [hby] at h <;> simp only [cond_true, cond_false] at h
    · cases h
    split at h
    case h_2 => cases h
    rename_i l hel
    have hTe := cfg_ty hC hte
    refine ⟨_, [], _, h, goes_pure ?_, ?_, trivial⟩
    · intro E X ac hs hR hT
      subst hs
      have hv := ev_ok hT x
      have hE := elems_ok hR hv hel
      obtain ⟨A, cc, e1, _⟩ := hE.ints
      have hbs := run_bytes_str (P := P) hE
      rw [e1] at hbs
      refine ⟨_, ?_, .str _⟩
      simp only [execOp, hop, e1, convert, Sem.run_bind, run_und (hTs.slice hb'.2), run_und (hTd.string hb'.1), Result.andThen_ok, run_und (hTe.byte hby), hbs, Sem.run_pure]
    · intro s' ha R' k0
      have he := hmem s' _ _ ha
      simp only [memE, hop, hts, htd, hk]
      rw [he]
      have hel' : elems s' (.int .u8) (ev s x) = some l := by rw [elems_loc ha.rd, hel]
      cases hx : ev s x <;> first
        | exact (hnstr _ hx).elim
        | (rw [hx] at hel'; simp only [hb, cond_true, hte, hby, hel'])
  · cases h

end Go.Ev

/- Operations: maps of plain keys and plain values. -/
namespace Go.Ev

variable {R : Type} {E : Env} {X : Cx} {P : Program} {t : Nat} {ti : TyI} {w : World}

/-- The description of a plain kind. -/
def plainD : Ki → TypeDesc
  | .int k => .int k
  | .str => .string
  | _ => .bool

theorem plainK_ok (h : TyOK P t ti) {K : Ki} (hk : plainK ti = some K) : P.underlying t = some (plainD K) ∧ ∃ z, (∀ w, (zeroValue t).run P w = .ok z w) ∧ Plain K K.zero z := by
  unfold plainK at hk
  split at hk
  · rename_i k n hc hz
    cases hn : (n == 0) <;> rw [hn] at hk <;> simp only [cond_true, cond_false] at hk
    · cases hk
    cases hk
    have hn' : n = 0 := by simpa using hn
    subst hn'
    obtain ⟨z, z1, z2⟩ := h.zero1 hc
    refine ⟨h.int (by simp [isInt, hc, hz]), z, z1, ?_⟩
    rw [hz] at z2
    cases z <;> simp [zOk] at z2
    obtain ⟨e1, e2⟩ := z2
    rw [kbeq_eq e1, ← e2]
    rfl
  · rename_i hc hz
    cases hk
    obtain ⟨z, z1, z2⟩ := h.zero1 hc
    refine ⟨h.string (by simp [isStr, hc, hz]), z, z1, ?_⟩
    rw [hz] at z2
    cases z <;> simp [zOk] at z2
    rename_i b
    obtain ⟨⟨l⟩⟩ := b
    simp at z2
    subst z2
    rfl
  · rename_i hc hz
    cases hk
    obtain ⟨z, z1, z2⟩ := h.zero1 hc
    refine ⟨h.bool hc hz, z, z1, ?_⟩
    rw [hz] at z2
    cases z <;> simp [zOk] at z2
    rename_i b
    cases b
    · rfl
    · cases z2
  · cases hk

/-- A plain thing of one cell. -/
def oneK : Ki → Bool
  | .int _ | .bool | .str => true
  | _ => false

theorem Plain.isKey {K : Ki} (hK : oneK K = true) {d : K.den} {v : Value} (h : Plain K d v) : MapKept.IsKey (plainD K) v := by
  cases K <;> first | (simp [oneK] at hK; done) | (simp only [Plain] at h; subst h; simp [MapKept.IsKey, plainD])

theorem Plain.eqb : ∀ {K : Ki} (hK : oneK K = true) {x y : K.den} {a b : Value}, Plain K x a → Plain K y b → Instr.sameNow (plainD K) a b = some (K.eqb x y)
  | .int _, _, x, y, _, _, h, k => by
    simp only [Plain] at h k
    subst h k
    show (if _ = _ then some ((show Int from x) == (show Int from y)) else none) = some _
    rw [if_pos rfl]
    rfl
  | .bool, _, x, y, _, _, h, k => by
    simp only [Plain] at h k
    subst h k
    rfl
  | .str, _, x, y, _, _, h, k => by
    simp only [Plain] at h k
    subst h k
    show some ((⟨⟨x⟩⟩ : ByteArray) == ⟨⟨y⟩⟩) = some ((show List UInt8 from x) == (show List UInt8 from y))
    congr 1
    rw [Bool.eq_iff_iff, MapKept.bytes_beq, beq_iff_eq]
    constructor
    · intro e
      injection e with e
      injection e with e
    · intro e
      exact congrArg (fun z : List UInt8 => (⟨⟨z⟩⟩ : ByteArray)) e

theorem intRow_rel {w : World} {Z : Nat → Prop} {k : IntKind} : ∀ (l : List Int), OwnRow w Z (.int k) l (l.map (Value.int k)) []
  | [] => ⟨rfl, rfl⟩
  | x :: l => ⟨[.int k x], l.map (Value.int k), [], [], rfl, rfl, ⟨rfl, rfl⟩, intRow_rel l⟩

theorem intRow_eq {w : World} {Z : Nat → Prop} {k : IntKind} : ∀ {l : List Int} {cs : List Value} {fp : List Nat}, OwnRow w Z (.int k) l cs fp → cs = l.map (Value.int k)
  | [], _, _, h => h.1
  | x :: l, _, _, ⟨c1, c2, f1, f2, e1, _, h1, h2⟩ => by
    rw [e1, h1.1, intRow_eq h2]
    rfl

theorem Plain.rel : ∀ {K : Ki} {x : K.den} {a : Value}, Plain K x a → VRel X (ofD K x) a
  | .int _, x, a, h => by simp only [Plain] at h; subst h; exact .int _ _
  | .bool, x, a, h => by simp only [Plain] at h; subst h; exact .bool _
  | .str, x, a, h => by simp only [Plain] at h; subst h; exact .str _
  | .arr n (.int k), x, a, h => by
    obtain ⟨h1, rfl⟩ := h
    exact .arr (l := x) h1 (intRow_rel x)
  | .arr _ .bool, _, _, h | .arr _ .str, _, _, h | .arr _ (.lst _), _, _, h | .arr _ (.arr _ _), _, _, h | .arr _ (.pair _ _), _, _, h | .arr _ .unit, _, _, h | .arr _ .tr, _, _, h => h.elim
  | .lst _, _, _, h | .pair _ _, _, _, h | .unit, _, _, h | .tr, _, _, h => h.elim

theorem keyD_ok {K : Ki} {a : AV} {x : K.den} {v : Value} (h : keyD K a = some x) (hv : VRel X a v) : Plain K x v := by
  unfold keyD at h
  split at h
  · rename_i k k' n
    cases hb : kbeq k' k <;> rw [hb] at h <;> simp only [cond_true, cond_false] at h
    · cases h
    · cases h
      cases hv
      rw [kbeq_eq hb]
      exact rfl
  · cases h; cases hv; exact rfl
  · cases h; cases hv; exact rfl
  · rename_i n k n' k' l
    cases hb : (Nat.beq n n' && kbeq k k') <;> rw [hb] at h <;> simp only [cond_true, cond_false] at h
    · cases h
    · simp only [Bool.and_eq_true] at hb
      obtain ⟨b1, b2⟩ := hb
      have e1 := Nat.eq_of_beq_eq_true b1
      have e2 := kbeq_eq b2
      subst e1 e2
      cases h
      cases hv with
      | arr h1 h2 => exact ⟨h1, by rw [intRow_eq h2]⟩
  · cases h

/-- What is found. -/
theorem findNow_ok {K V : Ki} (hK : oneK K = true) {x : K.den} {k : Value} (hk : Plain K x k) : ∀ {n i : Nat} {l : List (K.den × V.den)} {es : List MapEntry}, MapR K V n l es →
    (mhas K.eqb x l = false ∧ Instr.findNow (plainD K) k es i = some none ∧ midx K.eqb x l = l.length) ∨
    (mhas K.eqb x l = true ∧ ∃ v, Instr.findNow (plainD K) k es i = some (some (i + midx K.eqb x l, v)) ∧ (∀ z, Plain V (mget K.eqb x z l) v) ∧ midx K.eqb x l < es.length ∧ ∃ e, es[midx K.eqb x l]? = some e ∧ e.val = v ∧ e.key = k ∧ e.born = n + midx K.eqb x l)
  | _, _, [], [], _ => .inl ⟨rfl, rfl, rfl⟩
  | n, i, (a, y) :: l, e :: es, h => by
    obtain ⟨h1, h2, h3, h4⟩ := h
    have hs := hk.eqb hK h1
    simp only [mhas, midx, mget, Instr.findNow]
    rw [hs]
    cases hb : K.eqb x a
    · simp only [cond_false]
      rcases findNow_ok (n := n + 1) (i := i + 1) hK hk h4 with ⟨q1, q2, q3⟩ | ⟨q1, v, q2, q3, q4, e', q5, q6, q7, q8⟩
      · exact .inl ⟨q1, q2, by simp [q3]⟩
      · refine .inr ⟨q1, v, ?_, q3, by simpa using q4, e', by simpa using q5, q6, q7, by omega⟩
        rw [q2]
        congr 3
        omega
    · simp only [cond_true]
      obtain ⟨r, r1, r2⟩ := MapKept.sameNow_of_keys (hk.isKey hK) (h1.isKey hK)
      rw [hs, hb] at r1
      cases r1
      refine .inr ⟨by first | rfl | trivial, e.val, rfl, fun _ => h2, by simp, e, rfl, rfl, (r2.1 rfl).symm, by simpa using h3⟩

/-- How keys of a type are looked for. -/
structure KeyOK (P : Program) (kt : Nat) (K : Ki) : Prop where
  ck : ∀ x v, Plain K x v → ∀ e w, (Instr.checkKey e 10000 kt v).run P w = .ok () w
  st : ∀ x v, Plain K x v → ∀ w, (Instr.keyThatStays v v).run P w = .ok v w
  fk : ∀ {V : Ki} {x : K.den} {k : Value}, Plain K x k → ∀ {n : Nat} {l : List (K.den × V.den)} {es : List MapEntry}, MapR K V n l es → ∀ w,
    (mhas K.eqb x l = false ∧ (Instr.findKey kt k es).run P w = .ok none w ∧ midx K.eqb x l = l.length) ∨
    (mhas K.eqb x l = true ∧ ∃ v, (Instr.findKey kt k es).run P w = .ok (some (0 + midx K.eqb x l, v)) w ∧ (∀ z, Plain V (mget K.eqb x z l) v) ∧ midx K.eqb x l < es.length ∧ ∃ e, es[midx K.eqb x l]? = some e ∧ e.val = v ∧ e.key = k ∧ e.born = n + midx K.eqb x l)

theorem keyOK_one {kt : Nat} {K : Ki} (hK : oneK K = true) (hu : P.underlying kt = some (plainD K)) : KeyOK P kt K where
  ck x v h e w := MapKept.run_checkKey hu (h.isKey hK) e 9999
  st x v h w := MapKept.run_keyThatStays (h.isKey hK)
  fk := by
    intro V x k hk n l es hr w
    rcases findNow_ok (i := 0) hK hk hr with ⟨f1, f2, f3⟩ | ⟨f1, v, f2, f3⟩
    · exact .inl ⟨f1, MapKept.run_findKey hu f2, f3⟩
    · exact .inr ⟨f1, v, MapKept.run_findKey hu f2, f3⟩

/-! Keys that are rows of numbers. -/

def aggOf (k : IntKind) (l : List Int) : Value := .agg (l.map (Value.int k)).toArray

theorem run_partI {e : Nat} {k : IntKind} (hu : P.underlying e = some (.int k)) (hs : P.cellsOf e = 1) {l : List Int} {i : Nat} {x : Int} (h : l[i]? = some x) (w : World) : (part e (l.map (Value.int k)).toArray (i * P.cellsOf e)).run P w = .ok (.int k x) w := by
  refine run_part_plain w (by simp [Program.plainKey, hu]) ?_
  rw [hs, Nat.mul_one]
  simp [h]

theorem run_eqI {e : Nat} {k : IntKind} (hu : P.underlying e = some (.int k)) {d : Nat} {a b : Int} (w : World) : (Op.equalIn (d + 1) e (.int k a) (.int k b)).run P w = .ok (a == b) w := by
  simp [Op.equalIn, run_underlying hu, Sem.run_bind, Result.andThen]

theorem run_eqItemsI {e : Nat} {k : IntKind} (hu : P.underlying e = some (.int k)) (hs : P.cellsOf e = 1) {d n : Nat} {l l' : List Int} (h1 : l.length = n) (h2 : l'.length = n) (w : World) :
    ∀ (m j : Nat), j + m = n → (Op.eqItems (d + 1) e (P.cellsOf e) (l.map (Value.int k)).toArray (l'.map (Value.int k)).toArray (List.range' j m)).run P w = .ok (l.drop j == l'.drop j) w
  | 0, j, hj => by
    have e1 : l.drop j = [] := List.drop_eq_nil_of_le (by omega)
    have e2 : l'.drop j = [] := List.drop_eq_nil_of_le (by omega)
    rw [e1, e2]
    rfl
  | m + 1, j, hj => by
    have i1 : l[j]? = some (l[j]'(by omega)) := List.getElem?_eq_getElem _
    have i2 : l'[j]? = some (l'[j]'(by omega)) := List.getElem?_eq_getElem _
    have ih := run_eqItemsI (d := d) hu hs h1 h2 w m (j + 1) (by omega)
    rw [List.drop_eq_getElem_cons (show j < l.length by omega), List.drop_eq_getElem_cons (show j < l'.length by omega)]
    simp only [List.range'_succ, Op.eqItems, Sem.run_bind, run_partI hu hs i1 w, run_partI hu hs i2 w, Result.andThen_ok, run_eqI hu w]
    cases hb : (l[j]'(by omega) == l'[j]'(by omega))
    · simp only [Bool.not_false, if_true, Sem.run_pure]
      simp only [List.cons_beq_cons, hb, Bool.false_and]
    · simp only [Bool.not_true, Bool.false_eq_true, if_false]
      rw [ih]
      simp only [List.cons_beq_cons, hb, Bool.true_and]

theorem run_equalA {t e n : Nat} {k : IntKind} {i : TypeInfo} (ht : P.underlying t = some (.array n e)) (hi : P.info? e = some i) (hu : P.underlying e = some (.int k)) (hs : P.cellsOf e = 1) {l l' : List Int} (h1 : l.length = n) (h2 : l'.length = n) (w : World) :
    (Op.equal t (aggOf k l) (aggOf k l')).run P w = .ok (l == l') w := by
  unfold Op.equal aggOf
  rw [show Op.maxDepth = 9999 + 1 from rfl, run_equalIn_array w 9999 _ _ ht hi, show (9999 : Nat) = 9998 + 1 from rfl, List.range_eq_range', run_eqItemsI hu hs h1 h2 w n 0 (by omega)]
  simp

theorem run_checkA {t e n : Nat} {k : IntKind} {i : TypeInfo} (ht : P.underlying t = some (.array n e)) (hi : P.info? e = some i) (hu : P.underlying e = some (.int k)) (hs : P.cellsOf e = 1) {l : List Int} (h1 : l.length = n) (em : Bool) (w : World) :
    (Instr.checkKey em 10000 t (aggOf k l)).run P w = .ok () w := by
  rw [show (10000 : Nat) = 9999 + 1 from rfl]
  unfold aggOf Instr.checkKey
  simp only [Sem.run_bind, run_underlying ht, Result.andThen_ok]
  simp only [Std.Legacy.Range.forIn_eq_forIn_range', Std.Legacy.Range.size, Nat.sub_zero, Nat.add_one_sub_one, Nat.div_one, run_sizeOf w hi, Sem.run_bind, Result.andThen_ok]
  have key : ∀ (m j : Nat), j + m = n → (forIn (m := Sem) (List.range' j m) PUnit.unit fun i r => do
      let n ← sizeOf e
      let a ← part e (List.map (Value.int k) l).toArray (i * n)
      Instr.checkKey em 9999 e a
      pure PUnit.unit
      pure (ForInStep.yield PUnit.unit)).run P w = .ok PUnit.unit w := by
    intro m
    induction m with
    | zero => intro j _; rfl
    | succ m ih =>
      intro j hj
      have i1 : l[j]? = some (l[j]'(by omega)) := List.getElem?_eq_getElem _
      have hck : (Instr.checkKey em 9999 e (Value.int k (l[j]'(by omega)))).run P w = .ok () w := MapKept.run_checkKey (k := .int k (l[j]'(by omega))) hu (by simp [MapKept.IsKey]) em 9998
      simp only [List.range'_succ, List.forIn_cons, Sem.run_bind, run_sizeOf w hi, Result.andThen_ok, run_partI hu hs i1 w, hck, Sem.run_pure]
      exact ih (j + 1) (by omega)
  have := key n 0 (by omega)
  simp at this
  simp [this, Result.andThen]

theorem sameBits_ints {k : IntKind} : ∀ (l : List Int) (m : Nat), Instr.sameBits (m + 1) (aggOf k l) (aggOf k l) = true := by
  intro l m
  simp only [aggOf, Instr.sameBits, beq_self_eq_true, Bool.true_and, List.all_eq_true]
  intro x hx
  obtain ⟨a, b⟩ := x
  have : a = b ∧ a ∈ l.map (Value.int k) := by
    generalize l.map (Value.int k) = l' at hx
    clear m
    induction l' with
    | nil => simp at hx
    | cons y r ih =>
      simp only [List.zip_cons_cons, List.mem_cons, Prod.mk.injEq] at hx
      rcases hx with ⟨rfl, rfl⟩ | hx
      · exact ⟨rfl, by simp⟩
      · obtain ⟨h1, h2⟩ := ih hx
        exact ⟨h1, by simp [h2]⟩
  obtain ⟨rfl, h⟩ := this
  simp only [List.mem_map] at h
  obtain ⟨z, _, rfl⟩ := h
  simp [Instr.sameBits]

theorem findAsk_ok {t e n : Nat} {k : IntKind} {ti : TypeInfo} (ht : P.underlying t = some (.array n e)) (hi : P.info? e = some ti) (hu : P.underlying e = some (.int k)) (hs : P.cellsOf e = 1) {V : Ki} {x : List Int} {kv : Value} (hk : Plain (.arr n (.int k)) x kv) (w : World) :
    ∀ {m i : Nat} {l : List (Ki.den (.arr n (.int k)) × V.den)} {es : List MapEntry}, MapR (.arr n (.int k)) V m l es →
    (mhas eqL x l = false ∧ (Instr.findAsking t kv es i).run P w = .ok none w ∧ midx eqL x l = l.length) ∨
    (mhas eqL x l = true ∧ ∃ v, (Instr.findAsking t kv es i).run P w = .ok (some (i + midx eqL x l, v)) w ∧ (∀ z, Plain V (mget eqL x z l) v) ∧ midx eqL x l < es.length ∧ ∃ e, es[midx eqL x l]? = some e ∧ e.val = v ∧ e.key = kv ∧ e.born = m + midx eqL x l)
  | _, _, [], [], _ => .inl ⟨rfl, rfl, rfl⟩
  | m, i, (a, y) :: l, e' :: es, h => by
    obtain ⟨h1, h2, h3, h4⟩ := h
    obtain ⟨k1, rfl⟩ := hk
    have h1' : List.length (α := Int) a = n ∧ e'.key = aggOf k a := h1
    have hs' : (Op.equal t (aggOf k x) e'.key).run P w = .ok (x == a) w := by rw [h1'.2]; exact run_equalA ht hi hu hs k1 h1'.1 w
    have e0 : eqL x a = (x == a) := rfl
    simp only [mhas, midx, mget, Instr.findAsking, Sem.run_bind]
    rw [show (Op.equal t (Value.agg (List.map (Value.int k) x).toArray) e'.key).run P w = .ok (x == a) w from hs', e0]
    simp only [Result.andThen_ok]
    cases hb : (x == a)
    · simp only [cond_false, Bool.false_eq_true, if_false]
      rcases findAsk_ok (m := m + 1) (i := i + 1) ht hi hu hs ⟨k1, rfl⟩ w h4 with ⟨q1, q2, q3⟩ | ⟨q1, v, q2, q3, q4, e2, q5, q6, q7, q8⟩
      · exact .inl ⟨q1, q2, by simp [q3]⟩
      · refine .inr ⟨q1, v, ?_, q3, by simpa using q4, e2, by simpa using q5, q6, q7, by omega⟩
        rw [q2, show i + 1 + midx eqL x l = i + (midx eqL x l + 1) by omega]
    · simp only [cond_true, if_true, Sem.run_pure]
      have : x = a := eq_of_beq (α := List Int) hb
      subst this
      exact .inr ⟨trivial, e'.val, rfl, fun _ => h2, by simp, e', rfl, rfl, h1'.2, by simpa using h3⟩

theorem keyOK_arr {t e n : Nat} {k : IntKind} {ti : TypeInfo} (ht : P.underlying t = some (.array n e)) (hi : P.info? e = some ti) (hu : P.underlying e = some (.int k)) (hs : P.cellsOf e = 1) : KeyOK P t (.arr n (.int k)) where
  ck x v h em w := by
    obtain ⟨h1, rfl⟩ := h
    exact run_checkA ht hi hu hs h1 em w
  st x v h w := by
    obtain ⟨h1, rfl⟩ := h
    have := sameBits_ints (k := k) x 9999
    simp only [aggOf] at this
    simp [Instr.keyThatStays, this]
  fk := by
    intro V x kv hk m l es hr w
    have hfa := findAsk_ok (V := V) ht hi hu hs hk w (i := 0) hr
    have hf : (Instr.findKey t kv es).run P w = (Instr.findAsking t kv es).run P w := by
      unfold Instr.findKey
      simp only [Sem.run_bind, run_underlying ht, Result.andThen_ok]
      cases es with
      | nil => rfl
      | cons e' es =>
        obtain ⟨_, rfl⟩ := hk
        have : Instr.findNow (.array n e) (Value.agg (List.map (Value.int k) x).toArray) (e' :: es) 0 = none := rfl
        rw [this]
    rw [hf]
    exact hfa

theorem MapR.push {K V : Ki} {x : K.den} {y : V.den} {k v : Value} (hk : Plain K x k) (hv : Plain V y v) : ∀ {n : Nat} {l : List (K.den × V.den)} {es : List MapEntry}, MapR K V n l es → mhas K.eqb x l = false →
    MapR K V n (mset K.eqb x y l) (es ++ [{ key := k, val := v, born := n + es.length }])
  | n, [], [], _, _ => ⟨hk, hv, rfl, trivial⟩
  | n, (a, z) :: l, e :: es, h, hn => by
    obtain ⟨h1, h2, h3, h4⟩ := h
    simp only [mhas] at hn
    cases hb : K.eqb x a <;> rw [hb] at hn <;> simp only [cond_true, cond_false] at hn
    · have := MapR.push hk hv h4 hn
      simp only [mset, hb, cond_false, List.cons_append]
      refine ⟨h1, h2, h3, ?_⟩
      rw [show n + (e :: es).length = n + 1 + es.length by simp; omega]
      exact this
    · cases hn

theorem MapR.modify {K V : Ki} {x : K.den} {y : V.den} {k v : Value} (hk : Plain K x k) (hv : Plain V y v) : ∀ {n : Nat} {l : List (K.den × V.den)} {es : List MapEntry}, MapR K V n l es → mhas K.eqb x l = true →
    MapR K V n (mset K.eqb x y l) (es.modify (midx K.eqb x l) fun e => { e with key := k, val := v })
  | _, [], [], _, hn => by simp [mhas] at hn
  | n, (a, z) :: l, e :: es, h, hn => by
    obtain ⟨h1, h2, h3, h4⟩ := h
    simp only [mhas] at hn
    cases hb : K.eqb x a <;> rw [hb] at hn <;> simp only [cond_true, cond_false] at hn
    · have := MapR.modify hk hv h4 hn
      simp only [mset, midx, hb, cond_false, List.modify_succ_cons]
      exact ⟨h1, h2, h3, this⟩
    · simp only [mset, midx, hb, cond_true, List.modify_zero_cons]
      exact ⟨hk, hv, h3, h4⟩

theorem MapR.upd {K V : Ki} {y : V.den} {v : Value} (hv : Plain V y v) : ∀ {n i : Nat} {l : List (K.den × V.den)} {es : List MapEntry}, MapR K V n l es →
    MapR K V n (mupd y i l) (es.modify i fun e => { e with val := v })
  | _, i, [], [], _ => by simp [mupd, MapR]
  | n, 0, (a, z) :: l, e :: es, ⟨h1, h2, h3, h4⟩ => by
    simp only [mupd, List.modify_zero_cons]
    exact ⟨h1, hv, h3, h4⟩
  | n, i + 1, (a, z) :: l, e :: es, ⟨h1, h2, h3, h4⟩ => by
    simp only [mupd, List.modify_succ_cons]
    exact ⟨h1, h2, h3, MapR.upd hv h4⟩

/-- An entry's stamp is its place. -/
theorem MapR.born {K V : Ki} : ∀ {n i : Nat} {l : List (K.den × V.den)} {es : List MapEntry}, MapR K V n l es → i < es.length → es.findIdx? (fun e => (e.born : Int) == ((n + i : Nat) : Int)) = some i
  | _, _, [], [], _, h => by simp at h
  | n, 0, _ :: _, e :: es, ⟨_, _, h3, _⟩, _ => by simp [List.findIdx?_cons, h3]
  | n, i + 1, _ :: l, e :: es, ⟨_, _, h3, h4⟩, h => by
    have := MapR.born (i := i) h4 (by simpa using h)
    rw [List.findIdx?_cons]
    have hne : ((e.born : Int) == ((n + (i + 1) : Nat) : Int)) = false := by rw [h3]; simp; omega
    rw [hne]
    rw [show n + (i + 1) = n + 1 + i by omega, this]
    rfl

/-- A map's block that is written. -/
theorem set_map (hR : Rel E X) {b g : Nat} {K V : Ki} {l l' : List (K.den × V.den)} {es es' : List MapEntry} (hl : look b X.s.st = some (.map K V l)) (hc : X.cm b = some (.map g)) (hg : X.w.heap[g]? = some (.map es.toArray es.length)) (hr : MapR K V 0 l' es') {nb : Nat} {v : AV} {val : Value}
    (hv : ∀ X' : Cx, VRel X' v val) :
    ∃ X', X'.w = { X.w with heap := X.w.heap.setIfInBounds g (.map es'.toArray es'.length) } ∧ Good E X nb v [(b, some (.map K V l'))] val X' := by
  obtain ⟨s1, s2⟩ := MapKept.heap_set (o' := .map es'.toArray es'.length) hg
  let w' : World := { X.w with heap := X.w.heap.setIfInBounds g (.map es'.toArray es'.length) }
  have hS : SetBlk E X b (.map K V l) (.map K V l') [] (.map g) (.map g) w' (fun k => k = g) (setB X b (.map K V l') [] (.map g) w') := by
    refine ⟨rfl, rfl, rfl, rfl, hl, hc, rfl, (fun _ _ _ e => by cases e), (by simp), rfl, rfl, rfl, (by simp [w']), (fun k hk hT => s2 k hT), (fun k hk => by simp [CB.fp, hk])⟩
  obtain ⟨cb, k1, k2, k3, k4⟩ := hR.blk b _ hl
  rw [hc] at k1
  cases k1
  refine ⟨setB X b (.map K V l') [] (.map g) w', rfl, ?_⟩
  have := hS.good hR (nb := nb) (v := v) (val := val) (fun _ => .map s1 hr) k3 (fun k hk => ⟨by
    have := (k4 k hk).1
    simpa [w'] using this, .inr ⟨b, _, _, .inl rfl, hl, hc, hk⟩⟩) (fun _ => hv _)
  simpa [kills] using this

/-- What is known of a map's type. -/
structure MapOK (P : Program) (t : Nat) (K V : Ki) : Prop where
  out : ∃ kt et z, P.underlying t = some (.map kt et) ∧ KeyOK P kt K ∧ (∀ w, (zeroValue et).run P w = .ok z w) ∧ Plain V V.zero z

theorem plainK_one {ti : TyI} {K : Ki} (h : plainK ti = some K) : oneK K = true := by
  unfold plainK at h
  split at h
  · rename_i k n _ _
    cases hn : (n == 0) <;> rw [hn] at h <;> simp only [cond_true, cond_false] at h
    · cases h
    · cases h; rfl
  · cases h; rfl
  · cases h; rfl
  · cases h

theorem keyK_ok {c : Cfg} (hC : cfgOk P c = true) (h : TyOK P t ti) {K : Ki} (hk : keyK c ti = some K) : KeyOK P t K := by
  unfold keyK at hk
  split at hk
  · rename_i K' e
    cases hk
    exact keyOK_one (plainK_one e) (plainK_ok h e).1
  · split at hk
    case h_2 => cases hk
    rename_i n k l te hc hz hte
    split at hk
    case h_2 => cases hk
    rename_i k' hk'
    cases hb : (kbeq k k' && (Nat.beq ti.alen n && Nat.beq te.sz 1)) <;> rw [hb] at hk <;> simp only [cond_true, cond_false] at hk
    · cases hk
    cases hk
    simp only [Bool.and_eq_true] at hb
    obtain ⟨b1, b2, b3⟩ := hb
    have e1 := kbeq_eq b1
    subst e1
    have hT := cfg_ty hC hte
    obtain ⟨i, z, i1, i2, _⟩ := hT.i
    have ha := h.array hc
    rw [Nat.eq_of_beq_eq_true b2] at ha
    exact keyOK_arr ha i1 (hT.int hk') (by simp [Program.cellsOf, i1, i2, Nat.eq_of_beq_eq_true b3])

theorem mapTy_ok {c : Cfg} (hC : cfgOk P c = true) {K V : Ki} (h : mapTy c t = some (K, V)) : MapOK P t K V := by
  unfold mapTy at h
  split at h
  case h_2 => cases h
  rename_i ti ht
  split at h
  case h_2 => cases h
  rename_i tk tv hk hv
  split at h
  case h_2 => cases h
  rename_i K' V' e1 e2
  cases hm : isMap ti <;> rw [hm] at h <;> simp only [cond_true, cond_false] at h
  · cases h
  cases h
  obtain ⟨_, z, k2, k3⟩ := plainK_ok (cfg_ty hC hv) e2
  exact ⟨_, _, z, (cfg_ty hC ht).map hm, keyK_ok hC (cfg_ty hC hk) e1, k2, k3⟩

theorem makeMap_ok {c : Cfg} (hC : cfgOk P c = true) {s : St} {o : Oper} {nb : Nat} {cont : Cont R} {r : R} {rv : Option Operand} (hop : o.op = .makeMap t rv) (h : memE c s o nb cont = some r) :
    Res P c s o nb cont r fun s' k => memE c s' o nb k := by
  simp only [memE, hop] at h
  split at h
  case h_2 => cases h
  rename_i K V hT0
  cases hh : hintOk rv <;> rw [hh] at h <;> simp only [cond_true, cond_false] at h
  · cases h
  refine ⟨_, _, _, h, ?_, fun s' ha R' k => by simp only [memE, hop, hT0, hh, cond_true], trivial⟩
  intro E X ac hs hR hT hF next Q hn
  subst hs
  obtain ⟨kt, et, z, u1, u2, u3, u4⟩ := (mapTy_ok hC hT0).out
  have hN : NewBlk E X nb (.map K V []) [] (.map X.w.heap.size) { X.w with heap := X.w.heap.push (.map #[] 0) } (fun _ => False) (addBlk X nb (.map K V []) [] (.map X.w.heap.size) { X.w with heap := X.w.heap.push (.map #[] 0) }) :=
    ⟨rfl, rfl, rfl, rfl, hF, by simp, rfl, rfl, rfl, by simp, fun g hg _ => by simp [Array.getElem?_push, Nat.ne_of_lt hg], fun g hg => hg.elim⟩
  have hG := hN.good (v := .mp nb) (val := .map (some X.w.heap.size)) hR (fun _ => .map (es := []) (by show (X.w.heap.push (Obj.map #[] 0))[X.w.heap.size]? = _; simp) trivial) (by simp [CB.fp])
    (fun g hg => by
      simp only [CB.fp, List.mem_singleton] at hg
      subst hg
      exact ⟨by simp, .inl (Nat.le_refl _)⟩)
    (fun _ => .mp (by simp [addBlk]))
  unfold Oper.wp
  have hrun : (Instr.makeMap t (rv.map ac.eval)).run P X.w = .ok (.map (some X.w.heap.size)) { X.w with heap := X.w.heap.push (.map #[] 0) } := by
    cases rv with
    | none => simp [Instr.makeMap, run_newObj]
    | some x =>
      cases x with
      | const v =>
        cases v <;> first | (simp [hintOk] at hh; done) | skip
        simp only [Option.map_some, Act.eval, Instr.makeMap, Sem.run_bind, run_und u1, Result.andThen_ok, asInt, run_newObj, Sem.run_pure]
        rfl
      | _ => simp [hintOk] at hh
  simp only [execOp, hop, Sem.run_bind, hrun, Result.andThen_ok, Sem.run_pure, Oper.upon]
  have := hn _ _ (by simpa [kills] using hG)
  exact this

/-- What a block of a map stands for. -/
theorem rel_map (hR : Rel E X) {b : Nat} {K V : Ki} {l : List (K.den × V.den)} (hl : look b X.s.st = some (.map K V l)) {mv : Value} (hv : VRel X (.mp b) mv) :
    ∃ g es, mv = .map (some g) ∧ X.cm b = some (.map g) ∧ X.w.heap[g]? = some (.map es.toArray es.length) ∧ MapR K V 0 l es := by
  cases hv with
  | mp hc =>
    obtain ⟨cb, k1, k2, _⟩ := hR.blk b _ hl
    rw [hc] at k1
    cases k1
    cases k2 with
    | map m1 m2 => exact ⟨_, _, rfl, hc, m1, m2⟩

theorem lookup_ok {c : Cfg} (hC : cfgOk P c = true) {s : St} {o : Oper} {nb : Nat} {cont : Cont R} {r : R} {m k : Operand} {ok : Bool} (hop : o.op = .lookup t m k ok) (h : memE c s o nb cont = some r) :
    Res P c s o nb cont r fun s' k => memE c s' o nb k := by
  simp only [memE, hop] at h
  split at h
  case h_2 => cases h
  rename_i K V b hT0 hm
  split at h
  case h_2 => cases h
  rename_i K' V' l hl
  split at h
  case h_2 => cases h
  rename_i x hx
  cases hb : (K.beq K' && V.beq V') <;> rw [hb] at h <;> simp only [cond_true, cond_false] at h
  · cases h
  have hb0 := hb
  simp only [Bool.and_eq_true] at hb
  obtain ⟨b1, b2⟩ := hb
  have e1 := Ki.beq_eq b1
  have e2 := Ki.beq_eq b2
  subst e1 e2
  refine ⟨_, [], _, h, goes_pure ?_, ?_, trivial⟩
  · intro E X ac hs hR hT
    subst hs
    obtain ⟨kt, et, z, u1, u2, u3, u4⟩ := (mapTy_ok hC hT0).out
    have hmv := ev_ok hT m
    rw [hm] at hmv
    obtain ⟨g, es, q1, q2, q3, q4⟩ := rel_map hR hl hmv
    have hk := keyD_ok hx (ev_ok hT k)
    have hck : ∀ e w, (Instr.checkKey e 10000 kt (ac.eval k)).run P w = .ok () w := fun e w => u2.ck _ _ hk e w
    rcases u2.fk hk q4 X.w with ⟨f1, f2, f3⟩ | ⟨f1, v, f2, f3, f4, e, f5, f6, f7, f8⟩
    · have hz : ∀ z' : V.den, mget K.eqb x z' l = z' := by
        intro z'
        have : ∀ (l : List (K.den × V.den)), mhas K.eqb x l = false → mget K.eqb x z' l = z' := by
          intro l
          induction l with
          | nil => intro _; rfl
          | cons p l ih =>
            obtain ⟨a, y⟩ := p
            simp only [mhas, mget]
            cases K.eqb x a <;> simp
            exact ih
        exact this l f1
      refine ⟨(if ok then .tuple #[z, .bool false] else z), ?_, ?_⟩
      · simp only [execOp, hop, q1, Instr.lookup, Sem.run_bind, run_und u1, Result.andThen_ok, MapKept.run_getObj_map q3, Sem.run_pure, hck, f2, u3]
      · rw [hz, f1]
        cases ok
        · exact u4.rel
        · exact .tup (.cons u4.rel (.cons (.bool _) .nil))
    · refine ⟨(if ok then .tuple #[v, .bool true] else v), ?_, ?_⟩
      · simp only [execOp, hop, q1, Instr.lookup, Sem.run_bind, run_und u1, Result.andThen_ok, MapKept.run_getObj_map q3, Sem.run_pure, hck, f2]
      · rw [f1]
        cases ok
        · exact (f3 _).rel
        · exact .tup (.cons (f3 _).rel (.cons (.bool _) .nil))
  · intro s' ha R' k0
    simp only [memE, hop, hT0]
    rw [ha.ev m (by simp [hop, Op.operands]), ha.ev k (by simp [hop, Op.operands]), hm]
    simp only [ha.rd b (by simp), hl, hx, hb0, cond_true]

theorem mapUpdate_ok {c : Cfg} (hC : cfgOk P c = true) {s : St} {o : Oper} {nb : Nat} {cont : Cont R} {r : R} {m k v : Operand} (hop : o.op = .mapUpdate t m k v) (h : memE c s o nb cont = some r) :
    Res P c s o nb cont r fun s' k => memE c s' o nb k := by
  simp only [memE, hop] at h
  split at h
  case h_2 => cases h
  rename_i K V b hT0 hm
  split at h
  case h_2 => cases h
  rename_i K' V' l hl
  split at h
  case h_2 => cases h
  rename_i x y hx hy
  cases hb : (K.beq K' && V.beq V') <;> rw [hb] at h <;> simp only [cond_true, cond_false] at h
  · cases h
  have hb0 := hb
  simp only [Bool.and_eq_true] at hb
  obtain ⟨b1, b2⟩ := hb
  have e1 := Ki.beq_eq b1
  have e2 := Ki.beq_eq b2
  subst e1 e2
  refine ⟨_, _, _, h, ?_, ?_, trivial⟩
  · intro E X ac hs hR hT hF next Q hn
    subst hs
    obtain ⟨kt, et, z, u1, u2, u3, u4⟩ := (mapTy_ok hC hT0).out
    have hmv := ev_ok hT m
    rw [hm] at hmv
    obtain ⟨g, es, q1, q2, q3, q4⟩ := rel_map hR hl hmv
    have hk := keyD_ok hx (ev_ok hT k)
    have hv := keyD_ok hy (ev_ok hT v)
    have hck : ∀ e w, (Instr.checkKey e 10000 kt (ac.eval k)).run P w = .ok () w := fun e w => u2.ck _ _ hk e w
    unfold Oper.wp
    rcases u2.fk hk q4 X.w with ⟨f1, f2, f3⟩ | ⟨f1, v0, f2, f3, f4, e, f5, f6, f7, f8⟩
    · obtain ⟨X', j1, j2⟩ := set_map (nb := nb) (v := .un) (val := undef) hR hl q2 q3 (MapR.push hk hv q4 f1) (fun _ => .un _)
      have hrun : (Instr.mapUpdate t (ac.eval m) (ac.eval k) (ac.eval v)).run P X.w = .ok () X'.w := by
        simp only [q1, Instr.mapUpdate, Sem.run_bind, run_und u1, Result.andThen_ok, MapKept.run_getObj_map q3, hck, f2, MapKept.run_setObj_map _ q3, j1]
        simp
      simp only [execOp, hop, Sem.run_bind, hrun, Result.andThen_ok, Sem.run_pure, Oper.upon]
      exact hn _ _ j2
    · obtain ⟨X', j1, j2⟩ := set_map (nb := nb) (v := .un) (val := undef) hR hl q2 q3 (MapR.modify hk hv q4 f1) (fun _ => .un _)
      have hrun : (Instr.mapUpdate t (ac.eval m) (ac.eval k) (ac.eval v)).run P X.w = .ok () X'.w := by
        have hke : (((es.toArray[0 + midx K.eqb x l]?).map (·.key)).getD (ac.eval k)) = ac.eval k := by simp [f5, f7]
        simp only [q1, Instr.mapUpdate, Sem.run_bind, run_und u1, Result.andThen_ok, MapKept.run_getObj_map q3, hck, f2, hke, u2.st _ _ hk, MapKept.run_setObj_map _ q3, j1]
        simp
      simp only [execOp, hop, Sem.run_bind, hrun, Result.andThen_ok, Sem.run_pure, Oper.upon]
      exact hn _ _ j2
  · intro s' ha R' k0
    simp only [memE, hop, hT0]
    rw [ha.ev m (by simp [hop, Op.operands]), ha.ev k (by simp [hop, Op.operands]), ha.ev v (by simp [hop, Op.operands]), hm]
    simp only [ha.wr b (by simp [upIds]), hl, hx, hy, hb0, cond_true]

theorem mapEntry_ok {c : Cfg} (hC : cfgOk P c = true) {s : St} {o : Oper} {nb : Nat} {cont : Cont R} {r : R} {m k : Operand} (hop : o.op = .mapEntry t m k) (h : memE c s o nb cont = some r) :
    Res P c s o nb cont r fun s' k => memE c s' o nb k := by
  simp only [memE, hop] at h
  split at h
  case h_2 => cases h
  rename_i K V b hT0 hm
  split at h
  case h_2 => cases h
  rename_i K' V' l hl
  split at h
  case h_2 => cases h
  rename_i x hx
  cases hb : (K.beq K' && V.beq V') <;> rw [hb] at h <;> simp only [cond_true, cond_false] at h
  · cases h
  have hb0 := hb
  simp only [Bool.and_eq_true] at hb
  obtain ⟨b1, b2⟩ := hb
  have e1 := Ki.beq_eq b1
  have e2 := Ki.beq_eq b2
  subst e1 e2
  refine ⟨_, _, _, h, ?_, ?_, trivial⟩
  · intro E X ac hs hR hT hF next Q hn
    subst hs
    obtain ⟨kt, et, z, u1, u2, u3, u4⟩ := (mapTy_ok hC hT0).out
    have hmv := ev_ok hT m
    rw [hm] at hmv
    obtain ⟨g, es, q1, q2, q3, q4⟩ := rel_map hR hl hmv
    have hk := keyD_ok hx (ev_ok hT k)
    have hck : ∀ e w, (Instr.checkKey e 10000 kt (ac.eval k)).run P w = .ok () w := fun e w => u2.ck _ _ hk e w
    unfold Oper.wp
    rcases u2.fk hk q4 X.w with ⟨f1, f2, f3⟩ | ⟨f1, v0, f2, f3, f4, e, f5, f6, f7, f8⟩
    · have hz : mget K.eqb x V.zero l = V.zero := by
        have : ∀ (l : List (K.den × V.den)), mhas K.eqb x l = false → mget K.eqb x V.zero l = V.zero := by
          intro l
          induction l with
          | nil => intro _; rfl
          | cons p l ih =>
            obtain ⟨a, y⟩ := p
            simp only [mhas, mget]
            cases K.eqb x a <;> simp
            exact ih
        exact this l f1
      have hlen := q4.length
      rw [hz] at hn
      obtain ⟨X', j1, j2⟩ := set_map (nb := nb) (v := .tup [ofD V V.zero, .int .i64 (midx K.eqb x l : Int)]) (val := .tuple #[z, .int .i64 (midx K.eqb x l : Int)]) hR hl q2 q3 (MapR.push hk u4 q4 f1) (fun _ => .tup (.cons u4.rel (.cons (.int _ _) .nil)))
      have hrun : (Instr.mapEntry t (ac.eval m) (ac.eval k)).run P X.w = .ok (.tuple #[z, .int .i64 (midx K.eqb x l : Int)]) X'.w := by
        simp only [q1, Instr.mapEntry, Sem.run_bind, run_und u1, Result.andThen_ok, MapKept.run_getObj_map q3, hck, f2, u3, MapKept.run_setObj_map _ q3, j1, Sem.run_pure, f3, ← hlen]
        simp [goInt]
      simp only [execOp, hop, Sem.run_bind, hrun, Result.andThen_ok, Sem.run_pure, Oper.upon]
      exact hn _ _ j2
    · obtain ⟨X', j1, j2⟩ := set_map (nb := nb) (v := .tup [ofD V (mget K.eqb x V.zero l), .int .i64 (midx K.eqb x l : Int)]) (val := .tuple #[v0, .int .i64 (midx K.eqb x l : Int)]) hR hl q2 q3 (MapR.modify hk (f3 V.zero) q4 f1) (fun _ => .tup (.cons (f3 _).rel (.cons (.int _ _) .nil)))
      have hrun : (Instr.mapEntry t (ac.eval m) (ac.eval k)).run P X.w = .ok (.tuple #[v0, .int .i64 (midx K.eqb x l : Int)]) X'.w := by
        have hke : (((es.toArray[0 + midx K.eqb x l]?).map (·.key)).getD (ac.eval k)) = ac.eval k := by simp [f5, f7]
        have hbo : (((es.toArray[0 + midx K.eqb x l]?).map (·.born)).getD 0) = midx K.eqb x l := by simp [f5, f8]
        have hmod : (es.modify (midx K.eqb x l) fun e => { e with key := ac.eval k, val := v0 }) = es.modify (midx K.eqb x l) fun e => { e with key := ac.eval k } := by
          apply List.ext_getElem?
          intro i
          simp only [List.getElem?_modify]
          by_cases hi : midx K.eqb x l = i
          · subst hi
            simp [f5, f6]
          · simp [hi]
        simp only [q1, Instr.mapEntry, Sem.run_bind, run_und u1, Result.andThen_ok, MapKept.run_getObj_map q3, hck, f2, hke, hbo, u2.st _ _ hk, MapKept.run_setObj_map _ q3, j1, Sem.run_pure, hmod]
        simp [goInt, f5, f8]
      simp only [execOp, hop, Sem.run_bind, hrun, Result.andThen_ok, Sem.run_pure, Oper.upon]
      exact hn _ _ j2
  · intro s' ha R' k0
    simp only [memE, hop, hT0]
    rw [ha.ev m (by simp [hop, Op.operands]), ha.ev k (by simp [hop, Op.operands]), hm]
    simp only [ha.wr b (by simp [upIds]), hl, hx, hb0, cond_true]

theorem entryStore_ok {c : Cfg} (hC : cfgOk P c = true) {s : St} {o : Oper} {nb : Nat} {cont : Cont R} {r : R} {m i v : Operand} (hop : o.op = .entryStore t m i v) (h : memE c s o nb cont = some r) :
    Res P c s o nb cont r fun s' k => memE c s' o nb k := by
  simp only [memE, hop] at h
  split at h
  case h_2 => cases h
  rename_i K V b kk n hT0 hm hi
  split at h
  case h_2 => cases h
  rename_i K' V' l hl
  split at h
  case h_2 => cases h
  rename_i y hy
  cases hb : (K.beq K' && V.beq V') <;> rw [hb] at h <;> simp only [cond_true, cond_false] at h
  · cases h
  obtain ⟨g1, hc⟩ := chk_some h
  have hb0 := hb
  simp only [Bool.and_eq_true] at hb
  obtain ⟨b1, b2⟩ := hb
  have e1 := Ki.beq_eq b1
  have e2 := Ki.beq_eq b2
  subst e1 e2
  refine ⟨_, _, _, hc, ?_, ?_, trivial⟩
  · intro E X ac hs hR hT hF next Q hn
    subst hs
    have hmv := ev_ok hT m
    rw [hm] at hmv
    obtain ⟨g, es, q1, q2, q3, q4⟩ := rel_map hR hl hmv
    have hv := keyD_ok hy (ev_ok hT v)
    have hiv := ev_ok hT i
    rw [hi] at hiv
    generalize hi' : ac.eval i = iv at hiv
    cases hiv
    have hlen := q4.length
    simp only [inB, Bool.and_eq_true, decide_eq_true_eq] at g1
    have hbo := MapR.born (i := n.toNat) q4 (by omega)
    rw [show ((0 + n.toNat : Nat) : Int) = n by omega] at hbo
    obtain ⟨X', j1, j2⟩ := set_map (nb := nb) (v := .un) (val := undef) hR hl q2 q3 (MapR.upd (i := n.toNat) hv q4) (fun _ => .un _)
    unfold Oper.wp
    have hrun : (Instr.entryStore t (ac.eval m) (.int kk n) (ac.eval v)).run P X.w = .ok () X'.w := by
      simp only [q1, Instr.entryStore, Sem.run_bind, MapKept.run_getObj_map q3, Result.andThen_ok, asInt, asIntOf, Sem.run_pure, List.findIdx?_toArray, hbo, MapKept.run_setObj_map _ q3, j1]
      simp
    simp only [execOp, hop, hi', Sem.run_bind, hrun, Result.andThen_ok, Sem.run_pure, Oper.upon]
    exact hn _ _ j2
  · intro s' ha R' k0
    simp only [memE, hop, hT0]
    rw [ha.ev m (by simp [hop, Op.operands]), ha.ev i (by simp [hop, Op.operands]), ha.ev v (by simp [hop, Op.operands]), hm, hi]
    simp only [ha.wr b (by simp [upIds]), hl, hy, hb0, cond_true, g1, chk_true]

/-- An entry by its stamp. -/
theorem MapR.find {K V : Ki} {z : K.den × V.den} : ∀ {n i : Nat} {l : List (K.den × V.den)} {es : List MapEntry}, MapR K V n l es → i < l.length →
    ∃ e, es.find? (fun x => x.born == n + i) = some e ∧ Plain K (l.getD i z).1 e.key ∧ Plain V (l.getD i z).2 e.val
  | _, _, [], _, _, h => by simp at h
  | _, _, _ :: _, [], h, _ => h.elim
  | n, 0, p :: l, e :: es, ⟨h1, h2, h3, _⟩, _ => ⟨e, by simp [List.find?_cons, h3], h1, h2⟩
  | n, i + 1, p :: l, e :: es, ⟨_, _, h3, h4⟩, h => by
    obtain ⟨e', q1, q2⟩ := MapR.find (z := z) (i := i) h4 (by simpa using h)
    refine ⟨e', ?_, by simpa using q2⟩
    rw [List.find?_cons]
    have hne : (e.born == n + (i + 1)) = false := by rw [h3]; simp
    rw [hne, show n + (i + 1) = n + 1 + i by omega]
    exact q1

theorem range_ok {c : Cfg} (hC : cfgOk P c = true) {s : St} {o : Oper} {nb : Nat} {cont : Cont R} {r : R} {x : Operand} (hop : o.op = .range t x) (h : memE c s o nb cont = some r) :
    Res P c s o nb cont r fun s' k => memE c s' o nb k := by
  simp only [memE, hop] at h
  split at h
  case h_2 => cases h
  rename_i KV b hT0 hm
  split at h
  case h_2 => cases h
  rename_i K V l hl
  refine ⟨_, _, _, h, ?_, ?_, trivial⟩
  · intro E X ac hs hR hT hF next Q hn
    subst hs
    obtain ⟨K0, V0⟩ := KV
    obtain ⟨kt, et, z, u1, u2, u3, u4⟩ := (mapTy_ok hC hT0).out
    have hmv := ev_ok hT x
    rw [hm] at hmv
    obtain ⟨g, es, q1, q2, q3, q4⟩ := rel_map hR hl hmv
    have hlen := q4.length
    have hbn : b ≠ nb := by
      intro e
      subst e
      rw [hF b (Nat.le_refl _) (by omega)] at q2
      cases q2
    let w' : World := { X.w with heap := X.w.heap.push (.mapIter (some g) es.length #[] es.length) }
    have hN : NewBlk E X nb (.iter b l.length (List.range l.length) 0) [] (.iter X.w.heap.size) w' (fun _ => False) (addBlk X nb (.iter b l.length (List.range l.length) 0) [] (.iter X.w.heap.size) w') :=
      ⟨rfl, rfl, rfl, rfl, hF, by simp, rfl, rfl, rfl, by simp [w'], fun g hg _ => by simp [w', Array.getElem?_push, Nat.ne_of_lt hg], fun g hg => hg.elim⟩
    have hG := hN.good (v := .pb nb 0 []) (val := .pointer (some ⟨X.w.heap.size, 0, none⟩)) hR
      (fun _ => .iter (gm := g) (seen := []) (by simp [addBlk, hbn, q2]) (by show (X.w.heap.push (Obj.mapIter (some g) es.length #[] es.length))[X.w.heap.size]? = _; simp [hlen]) List.nodup_range (by simp) (.inl ⟨rfl, rfl⟩))
      (by simp [CB.fp])
      (fun g hg => by
        simp only [CB.fp, List.mem_singleton] at hg
        subst hg
        exact ⟨by simp [w'], .inl (Nat.le_refl _)⟩)
      (fun _ => by
        have := VRel.pb (X := addBlk X nb (.iter b l.length (List.range l.length) 0) [] (.iter X.w.heap.size) w') (b := nb) (o := 0) (p := []) (cb := .iter X.w.heap.size) (g := X.w.heap.size) (og := 0) (by simp [addBlk]) rfl (by simp [PIn]) (.inl rfl)
        simpa [poff] using this)
    unfold Oper.wp
    have hrun : (Instr.range t (ac.eval x)).run P X.w = .ok (.pointer (some ⟨X.w.heap.size, 0, none⟩)) w' := by
      rw [q1]
      simp only [Instr.range, Sem.run_bind, run_und u1, Result.andThen_ok, MapKept.run_getObj_map q3, Sem.run_pure, run_newObj]
      rfl
    simp only [execOp, hop, Sem.run_bind, hrun, Result.andThen_ok, Sem.run_pure, Oper.upon]
    exact hn _ _ (by simpa [kills] using hG)
  · intro s' ha R' k0
    simp only [memE, hop, hT0]
    rw [ha.ev x (by simp [hop, Op.operands]), hm]
    simp only [ha.rd b (by simp), hl]

theorem mapStep_ok {c : Cfg} {s : St} {o : Oper} {nb : Nat} {cont : Cont R} {r : R} {x : Operand} (hop : o.op = .entry x) (h : memE c s o nb cont = some r) :
    Res P c s o nb cont r fun s' k => memE c s' o nb k := by
  simp only [memE, hop] at h
  split at h
  case h_2 => cases h
  rename_i b hx
  split at h
  case h_2 => cases h
  rename_i m n ord last hl
  split at h
  case h_2 => cases h
  rename_i K V l hlm
  obtain ⟨g1, hc⟩ := chk_some h
  have g0 := g1
  simp only [Bool.and_eq_true] at g1
  obtain ⟨⟨g1, g2⟩, g3⟩ := g1
  have g1 := beq_true.1 g1
  have g2 := Nat.le_of_ble_eq_true g2
  have g3 := Nat.le_of_ble_eq_true g3
  refine ⟨_, [], _, hc, goes_pure ?_, ?_, trivial⟩
  · intro E X ac hs hR hT
    subst hs
    have hv := ev_ok hT x
    rw [hx] at hv
    generalize hv' : ac.eval x = v at hv
    obtain ⟨cb, k1, k2, _⟩ := hR.blk b _ hl
    obtain ⟨cb', j1, j2, _⟩ := hR.blk m _ hlm
    cases k2 with
    | @iter g gm _ _ _ _ seen i1 i2 i3 i4 i5 =>
      cases j2 with
      | @map gm' _ _ _ es m1 m2 =>
        rw [i1] at j1
        cases j1
        rcases i5 with ⟨e, _⟩ | ⟨s0, j, e1, e2⟩
        · omega
        have hlen := m2.length
        obtain ⟨e, f1, f2, f3⟩ := MapR.find (z := (K.zero, V.zero)) (i := j) m2 (by omega)
        rw [Nat.zero_add] at f1
        cases hv with
        | pb hcm hbase hpin hnr =>
          rw [k1] at hcm
          cases hcm
          simp only [CB.base, Option.some.injEq, Prod.mk.injEq] at hbase
          obtain ⟨rfl, rfl⟩ := hbase
          refine ⟨.tuple #[e.key, e.val], ?_, ?_⟩
          · have hgi : (getObj g).run P X.w = .ok (.mapIter (some gm) n seen.toArray n) X.w := by simp [getObj, Sem.run, i2]
            have hback : seen.toArray.back? = some j := by rw [e1]; simp
            have hfind : (es.toArray.find? fun x => x.born == j) = some e := by simpa using f1
            simp only [execOp, hop, hv', poff, Nat.add_zero, Instr.entry, Sem.run_bind, hgi, Result.andThen_ok, hback, MapKept.run_getObj_map m1]
            rw [if_neg (by simp; omega)]
            simp [hfind]
          · rw [e2, Nat.add_sub_cancel]
            exact .tup (.cons f2.rel (.cons f3.rel .nil))
  · intro s' ha R' k0
    simp only [memE, hop]
    rw [ha.ev x (by simp [hop, Op.operands]), hx]
    simp only [ha.rd b (by simp), hl, ha.rd m (by simp), hlm, g0, chk_true]

end Go.Ev

/- What is stored: into a row. -/
namespace Go.Ev

variable {R : Type} {E : Env} {X : Cx} {P : Program} {t : Nat} {ti : TyI} {w : World}

theorem seg_splice (cur : List Value) (o m k : Nat) (nc : List Value) (h : k + nc.length ≤ m) (h2 : o + m ≤ cur.length) : seg (splice cur (o + k) nc) o m = splice (seg cur o m) k nc := by
  apply List.ext_getElem?
  intro i
  simp only [seg, splice, List.getElem?_take, List.getElem?_drop, List.getElem?_append, List.length_append, List.length_take, List.length_drop]
  have e1 : min (o + k) cur.length = o + k := Nat.min_eq_left (by omega)
  have e2 : min k (min m (cur.length - o)) = k := Nat.min_eq_left (by omega)
  rw [e1, e2]
  by_cases h1 : i < m
  · rw [if_pos h1]
    by_cases h3 : i < k
    · rw [if_pos (show o + i < o + k + nc.length by omega), if_pos (show o + i < o + k by omega), if_pos (show o + i < o + k by omega), if_pos (show i < k + nc.length by omega), if_pos h3, if_pos h3, if_pos h1]
    · by_cases h4 : i < k + nc.length
      · rw [if_pos (show o + i < o + k + nc.length by omega), if_neg (show ¬ o + i < o + k by omega), if_pos h4, if_neg h3]
        congr 1
        omega
      · rw [if_neg (show ¬ o + i < o + k + nc.length by omega), if_neg h4, if_pos (by omega)]
        congr 1
        omega
  · rw [if_neg h1]
    rw [if_neg (show ¬ i < k + nc.length by omega), if_neg (by omega)]

theorem nodup_swap {f1 f2 f3 nf : List Nat} (h : (f1 ++ f2 ++ f3).Nodup) (hn : nf.Nodup) (hd : ∀ x ∈ nf, x ∉ f1 ++ f2 ++ f3) : (f1 ++ nf ++ f3).Nodup := by
  rw [List.nodup_append] at h
  obtain ⟨h12, h3, h13⟩ := h
  rw [List.nodup_append] at h12
  rw [List.nodup_append]
  refine ⟨?_, h3, ?_⟩
  · rw [List.nodup_append]
    refine ⟨h12.1, hn, ?_⟩
    intro x hx y hy e
    subst e
    exact hd x hy (by simp [hx])
  · intro x hx y hy e
    subst e
    rcases List.mem_append.1 hx with hx | hx
    · exact h13 x (by simp [hx]) x hy rfl
    · exact hd x hx (by simp [hy])

theorem store_row (R : Rel E X) {b : Nat} {v v' : Nat} {K : Ki} {l l' : List K.den} {ks : List Nat} {g og c : Nat} {fps : List Nat} {cur : List Value} (hl : look b X.s.st = some (.cell false v [.rw K l])) (hc : X.cm b = some (.row (some ⟨g, og, none⟩) l.length c K.size (g :: fps))) (hcur : Cells X.w g cur)
    (hlc : l.length ≤ c) (hcs : og + c * K.size ≤ cur.length) (hll : l'.length = l.length)
    (hvv : v ≤ v') (hve : v = v' → K.nest = false) (hbk : b ∉ ks) {o n : Nat} {nc : List Value} {nf f1 f2 f3 : List Nat} {c1 c2 c3 : List Value} (hks : FromKs X ks nf)
    (e1 : seg cur og (l.length * K.size) = c1 ++ c2 ++ c3) (e2 : fps = f1 ++ f2 ++ f3) (e3 : c1.length = o) (e4 : c2.length = n) (e5 : OwnRow X.w (X.S none) K l' (c1 ++ nc ++ c3) (f1 ++ nf ++ f3)) (hnc : nc.length = n) :
    ∃ X', X'.w = setBlk X.w g (splice cur (og + o) nc) ∧ og + o + n ≤ cur.length ∧ ∀ nb val, Good E X nb .un ((b, some (.cell false v' [.rw K l'])) :: kills ks) val X' := by
  have hm := Nat.mul_le_mul_right K.size hlc
  have hlen := congrArg List.length e1
  rw [seg_length (by omega)] at hlen
  simp only [List.length_append, e3, e4] at hlen
  have hle : og + o + n ≤ cur.length := by omega
  have hsp : seg (splice cur (og + o) nc) og (l.length * K.size) = c1 ++ nc ++ c3 := by
    rw [seg_splice _ _ _ _ _ (by omega) (by omega), e1, ← e3, splice_eq _ _ _ _ (by omega)]
  have hS : SetBlk E X b (.cell false v [.rw K l]) (.cell false v' [.rw K l']) ks (.row (some ⟨g, og, none⟩) l.length c K.size (g :: fps)) (.row (some ⟨g, og, none⟩) l.length c K.size (g :: (f1 ++ nf ++ f3))) (setBlk X.w g (splice cur (og + o) nc)) (fun k => k = g)
      (setB X b (.cell false v' [.rw K l']) ks (.row (some ⟨g, og, none⟩) l.length c K.size (g :: (f1 ++ nf ++ f3))) (setBlk X.w g (splice cur (og + o) nc))) := by
    refine ⟨rfl, rfl, rfl, rfl, hl, hc, ⟨rfl, rfl, rfl, rfl⟩, ?_, hbk, rfl, rfl, rfl, by rw [setBlk_size]; exact Nat.le_refl _, fun k hk hT => setBlk_other _ _ _ _ hT, fun k hk => by simp [CB.fp, hk]⟩
    intro ro'' v'' ps'' e
    cases e
    refine ⟨false, v, _, rfl, hvv, fun hv => ?_⟩
    rintro ⟨K2, l2, e, hn⟩
    cases e
    rw [hve hv] at hn
    cases hn
  obtain ⟨cb', k1, k2, k3, k4⟩ := R.blk b _ hl
  rw [hc] at k1
  cases k1
  have hdis : ∀ x ∈ nf, x ∉ g :: fps := by
    intro x hx hx'
    obtain ⟨b2, x2, cb2, q1, q2, q3, q4⟩ := hks.mem x hx
    have := R.dis b b2 _ x2 _ cb2 x hl q2 hc q3 hx' q4
    exact hbk (this ▸ q1)
  simp only [CB.fp, List.nodup_cons] at k3
  have hnd : (f1 ++ nf ++ f3).Nodup := nodup_swap (e2 ▸ k3.2) hks.nodup fun x hx hx' => hdis x hx (by rw [e2]; exact List.mem_cons_of_mem _ hx')
  have hg : g ∉ f1 ++ nf ++ f3 := by
    have h1 := k3.1
    rw [e2] at h1
    simp only [List.mem_append, not_or] at h1 ⊢
    exact ⟨⟨h1.1.1, fun hx => hdis g hx (by simp)⟩, h1.2⟩
  refine ⟨_, rfl, hle, fun nb val => hS.good R ?_ ?_ ?_ (fun _ => .un _)⟩
  · intro hx
    refine .row hll.symm rfl ?_
    rw [hll]
    refine ⟨_, _, rfl, .inr ⟨g, og, splice cur (og + o) nc, f1 ++ nf ++ f3, rfl, ?_, hlc, ?_, rfl, ?_⟩⟩
    · exact setBlk_cells hcur (splice cur (og + o) nc) (splice_length _ _ _ (by omega))
    · rw [splice_length _ _ _ (by omega)]; exact hcs
    · rw [hsp]
      exact e5.move (hx.sts none) fun k hk => setBlk_other _ _ _ _ fun e => hg (e ▸ hk)
  · simp only [CB.fp, List.nodup_cons]
    exact ⟨hg, hnd⟩
  · intro k hk
    rw [setBlk_size]
    have hin : k ∈ g :: fps ∨ k ∈ nf := by
      simp only [CB.fp, List.mem_cons, List.mem_append] at hk
      rw [e2]
      simp only [List.mem_cons, List.mem_append]
      rcases hk with hk | (hk | hk) | hk
      · exact .inl (.inl hk)
      · exact .inl (.inr (.inl (.inl hk)))
      · exact .inr hk
      · exact .inl (.inr (.inr hk))
    rcases hin with hin | hin
    · exact ⟨(k4 k hin).1, .inr ⟨b, _, _, .inl rfl, hl, hc, hin⟩⟩
    · obtain ⟨b2, x2, cb2, q1, q2, q3, q4⟩ := hks.mem k hin
      obtain ⟨cb3, j1, _, _, j4⟩ := R.blk b2 x2 q2
      rw [q3] at j1
      cases j1
      exact ⟨(j4 k q4).1, .inr ⟨b2, x2, cb2, .inr q1, q2, q3, q4⟩⟩

end Go.Ev

/- What is stored: through a view, into a row within a row. -/
namespace Go.Ev

variable {R : Type} {E : Env} {X : Cx} {P : Program} {t : Nat} {ti : TyI} {w : World}

theorem own_row (R : Rel E X) {b : Nat} {ro : Bool} {v : Nat} {K : Ki} {l : List K.den} {A : Option Addr} {n c sz : Nat} {fp : List Nat} (hl : look b X.s.st = some (.cell ro v [.rw K l])) (hc : X.cm b = some (.row A n c sz fp)) (hpos : 0 < l.length) :
    n = l.length ∧ sz = K.size ∧ ∃ g og cur fps, A = some ⟨g, og, none⟩ ∧ Cells X.w g cur ∧ l.length ≤ c ∧ og + c * K.size ≤ cur.length ∧ fp = g :: fps ∧ OwnRow X.w (X.S none) K l (seg cur og (l.length * K.size)) fps := by
  obtain ⟨A', cc, fp', u1, u2, u3, u4⟩ := rel_row R hl
  rw [u1] at hc
  cases hc
  obtain ⟨A2, c2, e, h⟩ := u2
  cases e
  rcases h with ⟨z, _⟩ | ⟨g, o, cur, fps, h1, h2, h3, h4, h5, h6⟩
  · omega
  · exact ⟨rfl, rfl, g, o, cur, fps, h1, h2, h3, h4, h5, h6⟩

/-- An element of a row turned where another block was written. -/
theorem row_turned {w : World} {Z : Nat → Prop} {K : Ki} {l : List K.den} {cs : List Value} {fp : List Nat} {i : Nat} (hi : i < l.length) (hr : OwnRow w Z K l cs fp) (hnd : fp.Nodup) :
    ∃ c1 c2 c3 f1 f2 f3, cs = c1 ++ c2 ++ c3 ∧ fp = f1 ++ f2 ++ f3 ∧ c1.length = i * K.size ∧ Rep w Z K true l[i] c2 f2 ∧
      (∀ (w' : World) (g : Nat), (∀ g, Z g → Z g ∧ w'.heap[g]? = w.heap[g]?) → (∀ k, k ≠ g → w'.heap[k]? = w.heap[k]?) → g ∈ f2 → ∀ d, Rep w' Z K true d c2 f2 → OwnRow w' Z K (l.set i d) cs fp) := by
  obtain ⟨f1, f4, e1, r1, r2⟩ := RowR_split (fun x c f hx => Rep_len hx) i hr
  rw [List.drop_eq_getElem_cons hi] at r2
  obtain ⟨c2, c3, f2, f3, e2, e3, r3, r4⟩ := r2
  have hcl : cs.length = l.length * K.size := RowR_len (fun x c f hx => Rep_len hx) hr
  have hm : i * K.size ≤ l.length * K.size := Nat.mul_le_mul_right _ (by omega)
  refine ⟨cs.take (i * K.size), c2, c3, f1, f2, f3, ?_, by rw [e1, e3, List.append_assoc], by rw [List.length_take]; omega, r3, ?_⟩
  · rw [List.append_assoc, ← e2, List.take_append_drop]
  · intro w' g hZ hw hg d hd
    rw [e1, e3] at hnd ⊢
    rw [List.nodup_append] at hnd
    obtain ⟨_, n2, n3⟩ := hnd
    rw [List.nodup_append] at n2
    have g1 : g ∉ f1 := fun h => n3 g h g (by simp [hg]) rfl
    have g3 : g ∉ f3 := fun h => n2.2.2 g hg g h rfl
    have m1 : OwnRow w' Z K (l.take i) (cs.take (i * K.size)) f1 := OwnRow.move r1 hZ fun k hk => hw k fun e => g1 (e ▸ hk)
    have m3 : OwnRow w' Z K (l.drop (i + 1)) c3 f3 := OwnRow.move r4 hZ fun k hk => hw k fun e => g3 (e ▸ hk)
    have e : l.set i d = l.take i ++ d :: l.drop (i + 1) := List.set_eq_take_append_cons_drop.trans (if_pos hi)
    rw [e]
    have hcs : cs = cs.take (i * K.size) ++ (c2 ++ c3) := by rw [← e2, List.take_append_drop]
    have := RowR_append m1 (show RowR (Rep w' Z K true) (d :: l.drop (i + 1)) (c2 ++ c3) (f2 ++ f3) from ⟨c2, c3, f2, f3, rfl, rfl, hd, m3⟩)
    rwa [← hcs] at this

theorem storeAt_pn (R : Rel E X) {n b v0 i f : Nat} {K : Ki} {l : List K.den} {p : Path} {v : AV} {av vv : Value} {u : Upd} (hv : VRel X (.pn b v0 i f K l p) av) (hvv : VRel X v vv) (h : storeAt X.s n (.pn b v0 i f K l p) v = some u) : Stores E X n av vv u := by
  unfold storeAt at h
  simp only at h
  cases hb : (Nat.beq (sizes (partsOf v)) n && storable v) <;> rw [hb] at h <;> simp only [cond_true, cond_false] at h
  · cases h
  simp only [Bool.and_eq_true] at hb
  obtain ⟨p1, p2, p3⟩ := partsOf_ok hvv hb.2
  have hlen : vv.cells.toList.length = n := by rw [PRs_sizes p1 p2]; exact Nat.eq_of_beq_eq_true hb.1
  cases hval : (valid X.s (.ver b v0) && !K.nest) <;> rw [hval] at h <;> simp only [cond_true, cond_false] at h
  · cases h
  simp only [Bool.and_eq_true, Bool.not_eq_true'] at hval
  obtain ⟨hval, hnest⟩ := hval
  split at h
  case h_2 => cases h
  rename_i ver K0 l0 ps' hl hg
  split at h
  case h_2 => cases h
  rename_i K1 l' hns
  split at h
  case h_2 => cases h
  rename_i l2 hcast
  obtain ⟨eK, el⟩ := castK_same hcast
  subst K1
  subst el
  simp only at h
  split at h
  case h_2 => cases h
  rename_i qs hset
  split at h
  case h_2 => cases h
  rename_i d hof
  cases h
  obtain ⟨nf, g1, g2, g3, _⟩ := giveParts_ok R p1 p2 hg (by simp)
  have hnf : nf = [] := by
    cases nf with
    | nil => rfl
    | cons k _ =>
      obtain ⟨b', _, _, h, _⟩ := g3.mem k (by simp)
      simp at h
  subst hnf
  cases hv with
  | @pn _ _ _ _ _ _ _ g og hp hpin hk hat =>
    obtain ⟨n0, c0, hat⟩ := hat hval
    obtain ⟨gA, oA, nA, cA, szA, fpA, KA, lA, verA, roA, a1, a2, a3, a4, a5, a6⟩ := hat
    rw [hl] at a2
    cases a2
    obtain ⟨e1, e2, gA', oA', curA, fpsA, e3, e4, e5, e6, e7, e8⟩ := own_row R hl a1 (by omega)
    cases e3
    subst e1 e2 e7
    obtain ⟨cb', k1, k2, k3, k4⟩ := R.blk b _ hl
    rw [a1] at k1
    cases k1
    simp only [CB.fp, List.nodup_cons] at k3
    -- the element
    have hcell : ∀ {c1 c2 c3 : List Value} {ca cr : List Value} {y : Value}, seg curA oA (l0.length * K0.size) = c1 ++ c2 ++ c3 → c1.length = i * K0.size → c2 = ca ++ y :: cr → ca.length = f → y = .slice (some ⟨g, og, none⟩) n0 c0 := by
      intro c1 c2 c3 ca cr y h1 h2 h3 h4
      obtain ⟨ty, fr, hh, _⟩ := e4
      have hcl := congrArg List.length h1
      have hm := Nat.mul_le_mul_right K0.size e5
      rw [seg_length (by omega)] at hcl
      rw [h3] at hcl h1
      simp only [List.length_append, List.length_cons, h2, h4] at hcl
      have : curA[oA + (i * K0.size + f)]? = some y := by
        have e : (seg curA oA (l0.length * K0.size))[i * K0.size + f]? = some y := by
          rw [h1, List.append_assoc, List.getElem?_append_right (by omega), h2, show i * K0.size + f - i * K0.size = f by omega, List.append_assoc, List.getElem?_append_right (by omega), h4, Nat.sub_self]
          rfl
        rw [← e]
        simp only [seg, List.getElem?_take, List.getElem?_drop]
        rw [if_pos (by omega)]
      have h6 := a6
      simp only [World.cell?, hh] at h6
      simp at h6
      rw [this] at h6
      exact Option.some.inj h6
    -- where the parts lie
    simp only [nav, dropCells, show Nat.beq 0 0 = true from rfl, cond_true, show Nat.beq K0.size K0.size = true from Nat.beq_refl _] at a4
    obtain ⟨q1, r0, r, s1, s2, s3, s4⟩ := setCells_drop f 1 _ hset
    rw [s1] at a4
    simp only at a4
    obtain ⟨r', hr0⟩ : ∃ r', r0 = .nl K l :: r' := by
      cases r0 with
      | nil =>
        simp only [takeCells, show Nat.beq 1 0 = false from rfl, cond_false] at a4
        cases a4
      | cons y r' =>
        simp only [takeCells, show Nat.beq 1 0 = false from rfl, cond_false] at a4
        cases hsz : Nat.ble y.size 1 <;> rw [hsz] at a4 <;> simp only [cond_true, cond_false] at a4
        · cases a4
        cases ht : takeCells (1 - y.size) r' with
        | none => rw [ht] at a4; cases a4
        | some z =>
          rw [ht] at a4
          simp only [Option.some.injEq, List.cons.injEq] at a4
          exact ⟨r', by rw [a4.1]⟩
    subst hr0
    have hr' : r = r' := by
      have := dropCells_one (a := AV.nl K l) (r := r') (Nat.le_refl 1)
      rw [show (AV.nl K l).size = 1 from rfl, s4] at this
      exact Option.some.inj this
    subst hr'
    obtain ⟨sz', N, j, f', p', ep, h1, h2⟩ := PIn_rev hpin (by simpa using hp)
    simp only [Option.getD_some] at h1
    rw [ep] at hns
    obtain ⟨c1, c2, c3, f1, f2, f3, m1, m2, m3, m4, m5⟩ := row_turned a3 e8 k3.2
    have hP := toParts_ok m4
    rw [Ki.get_eq a3] at s1 s2 hset
    obtain ⟨q1', ca, cr, fa, fr, t1, t2, t3, t4, t5, t6⟩ := PRs_PG.drop f hP (toParts_norw _ _) s1
    have hq : q1' = q1 := List.append_cancel_right (t1.symm.trans s2)
    subst hq
    cases t6 with
    | one z1 => simp [AV.plain] at z1
    | @nl _ _ y _ cr' fi _ z1 z3 =>
      have hy := hcell m1 m3 t2 t4
      subst hy
      obtain ⟨A', c', u1, u2⟩ := z1
      cases u1
      rcases u2 with ⟨z, _⟩ | ⟨g', o', cur, fps, v1, v2, v3, v4, v5, v6⟩
      · omega
      cases v1
      have hfps : fps = [] := RowR_nofp (R := Rep X.w (X.S none) K true) (fun x c f hx => Rep_nofp (.inr hnest) hx) v6
      subst hfps
      subst v5
      obtain ⟨hsz, l3, d1, d2, d3, b1, b2, b3, w1, w2, w3, w4, w5, w6, w7⟩ := navSet_row (X := X) v6 h1 g1 g2 h2 hns
      cases w1
      have hb : b1 = [] ∧ b2 = [] ∧ b3 = [] := by simpa using w4.symm
      obtain ⟨rfl, rfl, rfl⟩ := hb
      simp only [List.append_nil] at w7
      have hmm := Nat.mul_le_mul_right K.size v3
      have hdl := congrArg List.length w3
      rw [seg_length (by omega)] at hdl
      simp only [List.length_append] at hdl
      let nc := vv.cells.toList
      have hncl : nc.length = d2.length := by rw [w6]; exact hlen
      let w' := setBlk X.w g (splice cur (og + d1.length) nc)
      have hoth : ∀ k, k ≠ g → w'.heap[k]? = X.w.heap[k]? := fun k hk => setBlk_other _ _ _ _ hk
      have hgf2 : g ∈ f2 := by rw [t3]; simp
      have hgA : gA ≠ g := by
        intro e
        subst e
        exact k3.1 (by rw [m2]; simp [hgf2])
      let X' := setB X b (.cell false (ver + 1) [.rw K0 (l0.set i d)]) [] (.row (some ⟨gA, oA, none⟩) l0.length cA K0.size (gA :: fpsA)) w'
      have hS : SetBlk E X b (.cell false ver [.rw K0 l0]) (.cell false (ver + 1) [.rw K0 (l0.set i d)]) [] (.row (some ⟨gA, oA, none⟩) l0.length cA K0.size (gA :: fpsA)) (.row (some ⟨gA, oA, none⟩) l0.length cA K0.size (gA :: fpsA)) w' (fun k => k = g) X' := by
        refine ⟨rfl, rfl, rfl, rfl, hl, a1, ⟨rfl, rfl, rfl, rfl⟩, ?_, (by simp), rfl, rfl, rfl, (by rw [setBlk_size]; exact Nat.le_refl _), (fun k hk hT => hoth k hT), (fun k hk => ?_)⟩
        · intro ro' v' ps' e
          cases e
          exact ⟨false, ver, _, rfl, by omega, fun hv => by omega⟩
        · subst hk
          simp only [CB.fp, List.mem_cons]
          right
          rw [m2]
          simp [hgf2]
      have hx := (hS.mv R).ext R
      have nd2 : f2.Nodup := by
        have := k3.2
        rw [m2, List.nodup_append] at this
        have := this.1
        rw [List.nodup_append] at this
        exact this.2.1
      rw [t3] at nd2
      rw [List.nodup_append] at nd2
      obtain ⟨_, nd3, nd4⟩ := nd2
      simp only [List.singleton_append, List.nodup_cons] at nd3
      have hsp : seg (splice cur (og + d1.length) nc) og (l.length * K.size) = d1 ++ nc ++ d3 := by
        rw [seg_splice _ _ _ _ _ (by omega) (by omega), w3, splice_eq _ _ _ _ hncl.symm]
      have hnl : OwnS w' K.size l'.length (OwnRow w' (X.S none) K l') (.slice (some ⟨g, og, none⟩) l.length c0) [g] := by
        refine ⟨_, _, by rw [w2], .inr ⟨g, og, splice cur (og + d1.length) nc, [], rfl, ?_, by omega, ?_, rfl, ?_⟩⟩
        · exact setBlk_cells v2 _ (splice_length _ _ _ (by omega))
        · rw [splice_length _ _ _ (by omega)]; exact v4
        · rw [w2, hsp]
          exact OwnRow.move w7 (hx.sts none) fun k hk => by simp at hk
      have hQ : PRs X' qs c2 f2 := by
        rw [s3, t2, t3, List.append_assoc]
        refine PRs_append (t5.ext hx fun k hk => hoth k fun e => nd4 k hk g (by simp) e) ?_
        exact .nl hnl (z3.ext hx fun k hk => hoth k fun e => nd3.1 (e ▸ hk))
      have hRep := ofPartsAll_ok hQ hof
      have hrow := m5 w' g (hx.sts none) hoth hgf2 d hRep
      have hoff : poff p = d1.length := by rw [w5, ← poff_reverse, ep]; simp only [poff, hsz]
      refine ⟨g, og + poff p, cur, X', rfl, v2, by rw [hoff]; omega, hlen, p3, by rw [hoff]; rfl, fun nb val => ?_⟩
      have hfin := hS.good R (nb := nb) (v := .un) (val := val) (fun _ => .row (by simp) rfl (by
        rw [List.length_set]
        exact ⟨_, _, rfl, .inr ⟨gA, oA, curA, fpsA, rfl, e4.same (hoth gA hgA), e5, e6, rfl, hrow⟩⟩)) (by simp only [CB.fp, List.nodup_cons]; exact k3) (fun k hk => ⟨by
          have := (k4 k hk).1
          show k < w'.heap.size
          rw [setBlk_size]
          exact this, .inr ⟨b, _, _, .inl rfl, hl, a1, hk⟩⟩) (fun _ => .un _)
      simpa [kills] using hfin

end Go.Ev

/- What is stored: the operation. -/
namespace Go.Ev

variable {R : Type} {E : Env} {X : Cx} {P : Program} {t : Nat} {ti : TyI} {w : World}

theorem cells_same {g : Nat} {a b : List Value} (h1 : Cells w g a) {cur : Array Value} {ty : TypeId} {fr : Nat × Nat} (h2 : w.heap[g]? = some (.cells cur ty fr)) : cur.toList = a := by
  obtain ⟨t, fr', h, _⟩ := h1
  rw [h] at h2
  cases h2
  rfl

theorem storeAt_pb (R : Rel E X) {n b o : Nat} {p : Path} {v : AV} {av vv : Value} {u : Upd} (hv : VRel X (.pb b o p) av) (hvv : VRel X v vv) (h : storeAt X.s n (.pb b o p) v = some u) : Stores E X n av vv u := by
  unfold storeAt at h
  simp only at h
  cases hb : (Nat.beq (sizes (partsOf v)) n && storable v) <;> rw [hb] at h <;> simp only [cond_true, cond_false] at h
  · cases h
  simp only [Bool.and_eq_true] at hb
  obtain ⟨p1, p2, p3⟩ := partsOf_ok hvv hb.2
  have hlen : vv.cells.toList.length = n := by rw [PRs_sizes p1 p2]; exact Nat.eq_of_beq_eq_true hb.1
  cases hv with
  | @pb _ _ _ cb g og hc hbase hpin hnr =>
    cases p with
    | nil =>
      simp only at h
      split at h
      case h_2 => cases h
      rename_i ver qs hl
      split at h
      case h_2 => cases h
      rename_i qs' hrk hns
      cases h
      obtain ⟨cb', k1, k2, k3, k4⟩ := R.blk b _ hl
      rw [hc] at k1
      cases k1
      cases k2 with
      | row => simp [CB.rowN] at hnr
      | box j1 j2 j3 =>
        simp only [CB.base, Option.some.injEq, Prod.mk.injEq] at hbase
        obtain ⟨rfl, rfl⟩ := hbase
        have hW := navSet_ok (X := X) [] o j3 j1 p1 p2 (by simp [PIn]) hns
        obtain ⟨X', q1, q2, q3⟩ := store_box R hl hc j2 (Nat.le_refl ver) (ks := []) (by simp) (by simp) .nil hW hlen
        simp only [poff, Nat.add_zero] at q1 q2
        refine ⟨_, 0 + (o + poff []), _, X', rfl, j2, by simp [poff]; omega, hlen, p3, by rw [q1]; simp [poff], fun nb val => by simpa [kills] using q3 nb val⟩
    | cons y p =>
      simp only at h
      split at h
      case h_2 => cases h
      rename_i ver qs hl
      split at h
      case h_2 => cases h
      rename_i ps' ks hg
      cases hnd : nodupN (b :: ks) <;> rw [hnd] at h <;> simp only [cond_true, cond_false] at h
      · cases h
      have hnd' := List.nodup_cons.1 (nodupN_iff.1 hnd)
      split at h
      case h_2 => cases h
      rename_i qs' hns
      simp only [Option.some.injEq] at h
      subst h
      obtain ⟨nf, g1, g2, g3, g4⟩ := giveParts_ok R p1 p2 hg hnd'.2
      obtain ⟨cb', k1, k2, k3, k4⟩ := R.blk b _ hl
      rw [hc] at k1
      cases k1
      cases k2 with
      | box j1 j2 j3 =>
        simp only [CB.base, Option.some.injEq, Prod.mk.injEq] at hbase
        obtain ⟨rfl, rfl⟩ := hbase
        have hrk : rowK qs = none := by
          unfold rowK
          split
          · exact (rowK_none j1 _ _ rfl).elim
          · rfl
        have hW := navSet_ok (X := X) _ o j3 j1 g1 g2 hpin hns
        rw [poff_reverse] at hW
        obtain ⟨X', q1, q2, q3⟩ := store_box R hl hc j2 (Nat.le_refl ver) hnd'.1 g4 g3 hW hlen
        refine ⟨_, 0 + (o + poff (y :: p)), _, X', rfl, j2, by omega, hlen, p3, by rw [q1, Nat.zero_add], fun nb val => ?_⟩
        rw [hrk]
        exact q3 nb val
      | @row A m c sz fp _ _ K l j1 j2 j3 =>
        obtain ⟨sz', N, i, f, p', e, h1, h2⟩ := PIn_rev hpin (by simp)
        simp only [CB.rowN, Option.getD_some] at h1
        obtain ⟨e1, e2, g', og', cur, fps, e3, e4, e5, e6, e7, e8⟩ := own_row R hl hc (by omega)
        subst e3 e1 e2
        simp only [CB.base, baseA, Option.some.injEq, Prod.mk.injEq] at hbase
        obtain ⟨rfl, rfl⟩ := hbase
        subst e7
        rw [e] at hns
        have ho : o = 0 := by
          by_cases ho : o = 0
          · exact ho
          · exfalso
            simp only [navSet, dropCells, beq_false.2 ho, cond_false] at hns
            cases hb1 : Nat.ble (AV.rw K l).size o <;> rw [hb1] at hns <;> simp only [cond_true, cond_false] at hns
            · cases hns
            · cases hb2 : Nat.beq (o - (AV.rw K l).size) 0 <;> rw [hb2] at hns <;> simp only [cond_true, cond_false] at hns <;> cases hns
        subst ho
        obtain ⟨hsz, l', c1, c2, c3, f1, f2, f3, z1, z2, z3, z4, z5, z6, z7⟩ := navSet_row (X := X) e8 h1 g1 g2 h2 hns
        subst z1
        have hoff : poff (y :: p) = i * K.size + f + poff p' := by rw [← poff_reverse, e]; simp only [poff, hsz]
        obtain ⟨X', q1, q2, q3⟩ := store_row R (v' := bif K.nest then ver + 1 else ver) hl hc e4 e5 e6 z2 (by cases K.nest <;> simp) (by cases K.nest <;> simp) hnd'.1 g3 z3 z4 z5 z6 z7 hlen
        refine ⟨_, og' + (0 + poff (y :: p)), _, X', rfl, e4, by omega, hlen, p3, by rw [q1, hoff, Nat.zero_add], fun nb val => ?_⟩
        exact q3 nb val

theorem storeAt_ok (R : Rel E X) {n : Nat} {a v : AV} {av vv : Value} {u : Upd} (hv : VRel X a av) (hvv : VRel X v vv) (h : storeAt X.s n a v = some u) : Stores E X n av vv u := by
  cases a with
  | pb b o p => exact storeAt_pb R hv hvv h
  | pn b v0 i f K l p => exact storeAt_pn R hv hvv h
  | _ =>
    exfalso
    unfold storeAt at h
    simp only at h
    cases hb : (Nat.beq (sizes (partsOf v)) n && storable v) <;> rw [hb] at h <;> simp only [cond_true, cond_false] at h <;> cases h

theorem rowOf_giveParts {s s' : St} : ∀ {ps qs : List AV} {ks : List Nat}, giveParts s ps = some (qs, ks) → (∀ b ∈ ks, look b s'.st = look b s.st) → giveParts s' ps = some (qs, ks)
  | [], _, _, h, _ => h
  | p :: ps, qs, ks, h, hs => by
    simp only [giveParts] at h ⊢
    cases hg : giveParts s ps with
    | none => rw [hg] at h; cases h
    | some z =>
      obtain ⟨qs', ks'⟩ := z
      rw [hg] at h
      simp only at h
      cases p with
      | sl b =>
        simp only at h
        split at h
        case h_2 => cases h
        rename_i K l hrow
        simp only [Option.some.injEq, Prod.mk.injEq] at h
        obtain ⟨rfl, rfl⟩ := h
        rw [rowOf_giveParts hg fun b hb => hs b (by simp [hb])]
        simp only
        rw [rowOf_loc (hs b (by simp)), hrow]
      | ss b o m =>
        simp only at h
        split at h
        case h_2 => cases h
        rename_i K l hrow
        simp only [Option.some.injEq, Prod.mk.injEq] at h
        obtain ⟨rfl, rfl⟩ := h
        rw [rowOf_giveParts hg fun b hb => hs b (by simp [hb])]
        simp only
        rw [rowOf_loc (hs b (by simp)), hrow]
      | ro q K l =>
        cases q <;> simp only at h <;> first
          | (cases h; done)
          | (cases h; rw [rowOf_giveParts hg hs])
      | _ => first
          | (simp only at h; cases h; done)
          | (simp only at h; cases h; rw [rowOf_giveParts hg hs])

end Go.Ev

/- The operation store. -/
namespace Go.Ev

variable {R : Type} {E : Env} {X : Cx} {P : Program} {t : Nat} {ti : TyI} {w : World}

theorem run_storeVar (hT : TyOK P t ti) {v : Value} {g o : Nat} {cur : List Value} (hc : Cells w g cur) (hle : o + ti.sz ≤ cur.length) (hn : v.cells.toList.length = ti.sz) (h1 : ∀ c ∈ v.cells.toList, c.oneCell' = true) :
    (storeVar t ⟨g, o, none⟩ v).run P w = .ok () (setBlk w g (splice cur o v.cells.toList)) := by
  have hs : ¬ (v.cells.size ≠ ti.sz) := by simp at hn; simp [hn]
  unfold storeVar
  simp only [Sem.run_bind, hT.size, Result.andThen_ok, Sem.run_ite, if_neg hs, Sem.run_pure]
  exact run_storeCells o _ cur w hc (by omega) h1

theorem storeAt_ids {s : St} {n : Nat} {a v : AV} {u : Upd} (h : storeAt s n a v = some u) : (∃ b o p, a = .pb b o p ∧ ∃ x ks, u = (b, x) :: kills ks ∧ (p = [] → ks = []) ∧ (p ≠ [] → ∃ ps, giveParts s (partsOf v) = some (ps, ks))) ∨ (∃ b v0 i f K l p, a = .pn b v0 i f K l p ∧ ∃ x, u = [(b, x)] ∧ ∃ ps, giveParts s (partsOf v) = some (ps, [])) := by
  unfold storeAt at h
  simp only at h
  cases hb : (Nat.beq (sizes (partsOf v)) n && storable v) <;> rw [hb] at h <;> simp only [cond_true, cond_false] at h
  · cases h
  split at h
  · rename_i b o
    split at h
    case h_2 => cases h
    split at h
    case h_2 => cases h
    cases h
    exact .inl ⟨b, o, [], rfl, _, [], rfl, fun _ => rfl, fun h => (h rfl).elim⟩
  · rename_i b o p hne
    split at h
    case h_2 => cases h
    split at h
    case h_2 => cases h
    rename_i ps' ks hg
    cases hnd : nodupN (b :: ks) <;> rw [hnd] at h <;> simp only [cond_true, cond_false] at h
    · cases h
    split at h
    case h_2 => cases h
    cases h
    exact .inl ⟨b, o, p, rfl, _, ks, rfl, fun e => (hne e).elim, fun _ => ⟨ps', hg⟩⟩
  · rename_i b v0 i f K l p
    cases hv : (valid s (.ver b v0) && !K.nest) <;> rw [hv] at h <;> simp only [cond_true, cond_false] at h
    · cases h
    split at h
    case h_2 => cases h
    rename_i hl hg
    split at h
    case h_2 => cases h
    split at h
    case h_2 => cases h
    split at h
    case h_2 => cases h
    split at h
    case h_2 => cases h
    cases h
    exact .inr ⟨b, v0, i, f, K, l, p, rfl, _, rfl, _, hg⟩
  · cases h

theorem storeAt_loc {s s' : St} {n : Nat} {a v : AV} {u : Upd} (h : storeAt s n a v = some u) (hs : ∀ b ∈ upIds u, look b s'.st = look b s.st) : storeAt s' n a v = some u := by
  rcases storeAt_ids h with ⟨b, o, p, rfl, x, ks, hu, hk0, hk⟩ | ⟨b, v0, i, f, K, l, p, rfl, x, hu, ps, hg⟩
  · have hb : look b s'.st = look b s.st := hs b (by rw [hu]; simp [upIds])
    cases p with
    | nil => rw [← h]; unfold storeAt; simp only [hb]
    | cons y p =>
      obtain ⟨ps, hg⟩ := hk (by simp)
      have hg' := rowOf_giveParts hg fun k hk => hs k (by rw [hu]; simp [upIds, kills]; exact .inr hk)
      rw [← h]
      unfold storeAt
      simp only [hb, hg, hg']
  · have hb : look b s'.st = look b s.st := hs b (by rw [hu]; simp [upIds])
    have hg' := rowOf_giveParts (s' := s') hg (by simp)
    have hv : valid s' (.ver b v0) = valid s (.ver b v0) := by simp only [valid, hb]
    rw [← h]
    unfold storeAt
    simp only [hb, hg, hg', hv]

theorem store_ok {c : Cfg} (hC : cfgOk P c = true) {s : St} {o : Oper} {nb : Nat} {cont : Cont R} {r : R} {a v : Operand} (hop : o.op = .store t a v) (h : memE c s o nb cont = some r) :
    Res P c s o nb cont r fun s' k => memE c s' o nb k := by
  simp only [memE, hop] at h
  cases h1 : tyI c t with
  | none => rw [h1] at h; cases h
  | some ti =>
    rw [h1] at h
    simp only at h
    have hT := cfg_ty hC h1
    split at h
    case h_2 => cases h
    rename_i u hu
    refine ⟨_, u, [], h, ?_, ?_, trivial⟩
    · intro E X ac hs hR hT' hF next Q hn
      subst hs
      obtain ⟨g, x, cur, X', e1, e2, e3, e4, e5, e6, e7⟩ := (storeAt_ok hR (ev_ok hT' a) (typed_ok (ev_ok hT' v)) hu).out
      unfold Oper.wp
      simp only [execOp, hop, Instr.storeAt, e1, Instr.sureAddr, Sem.run_bind, Sem.run_pure, Result.andThen_ok, run_storeVar hT e2 e3 e4 e5, Oper.upon]
      have := hn undef X' (e7 nb undef)
      rw [e6] at this
      exact this
    · intro s' ha R' k
      simp only [memE, hop, h1]
      rw [ha.ev a (by simp [hop, Op.operands]), ha.ev v (by simp [hop, Op.operands]), storeAt_loc hu ha.wr]

end Go.Ev

/- Append: what is taken and what is added. -/
namespace Go.Ev

variable {R : Type} {E : Env} {X : Cx} {P : Program} {t : Nat} {ti : TyI} {w : World}

/-- A slice that is given up, and its row. -/
structure Taken (E : Env) (X : Cx) (K : Ki) (l : List K.den) (av : Value) (ks : List Nat) : Prop where
  out : ∃ A c fp, av = .slice A l.length c ∧ OwnS X.w K.size l.length (OwnRow X.w (X.S none) K l) (.slice A l.length c) fp ∧ FromKs X ks fp ∧ ∀ b ∈ ks, ∃ x, look b X.s.st = some x

theorem taken_ok (R : Rel E X) {K : Ki} {a : AV} {av : Value} {l : List K.den} (hv : VRel X a av) (h : elems X.s K a = some l) (ha : appendable a = true) : Taken E X K l av (ownId a) := by
  cases hv <;> simp only [elems] at h <;> (try cases h) <;> (try (simp [appendable] at ha; done))
  · exact ⟨none, 0, [], rfl, ⟨none, 0, rfl, .inl ⟨rfl, rfl, rfl⟩⟩, .nil, by simp [ownId]⟩
  · exact ⟨none, 0, [], rfl, ⟨none, 0, rfl, .inl ⟨rfl, rfl, rfl⟩⟩, .nil, by simp [ownId]⟩
  · rename_i b A n c sz fp hc
    split at h
    case h_2 => cases h
    rename_i K' l' hrow
    obtain ⟨ro, ver, K2, l2, hl, e⟩ := rowOf_some hrow
    cases e
    obtain ⟨rfl, rfl⟩ := castK_eq h
    obtain ⟨A', cc, fp', u1, u2, u3, u4⟩ := rel_row R hl
    rw [u1] at hc
    cases hc
    refine ⟨A, c, fp, rfl, u2, ?_, ?_⟩
    · have := FromKs.nil.cons R hl u1 (f := fp) (List.Sublist.refl _) (by simp)
      simpa [ownId] using this
    · intro b' hb'
      simp only [ownId, List.mem_singleton] at hb'
      subst hb'
      exact ⟨_, hl⟩
  · rename_i b o A A' n c sz fp hc ho
    split at h
    case h_2 => cases h
    rename_i K' l' hrow
    split at h
    case h_2 => cases h
    rename_i l2 hcast
    simp only [Option.some.injEq] at h
    subst h
    obtain ⟨ro, ver, K2, l3, hl, e⟩ := rowOf_some hrow
    cases e
    refine ⟨A', 0, [], by simp, ⟨A', 0, by simp, .inl ⟨by simp, rfl, rfl⟩⟩, ⟨by simp, by simp⟩, ?_⟩
    intro b' hb'
    simp only [ownId, List.mem_singleton] at hb'
    subst hb'
    exact ⟨_, hl⟩
  · rename_i b o m g og n c c' sz fp hc h1 h2 h3
    split at h
    case h_2 => cases h
    rename_i K' l' hrow
    split at h
    case h_2 => cases h
    rename_i l2 hcast
    simp only [Option.some.injEq] at h
    subst h
    obtain ⟨ro, ver, K2, l3, hl, e⟩ := rowOf_some hrow
    cases e
    obtain ⟨rfl, rfl⟩ := castK_eq hcast
    obtain ⟨A', cc, fp', u1, u2, u3, u4⟩ := rel_row R hl
    rw [u1] at hc
    cases hc
    simp only
    have hlen : ((l'.drop o).take m).length = m := by simp; omega
    obtain ⟨f', q1, q2⟩ := OwnS_part rfl u2 h1 h2 h3
    refine ⟨_, c', f', by rw [hlen], by rw [hlen]; exact q1, ?_, ?_⟩
    · have := FromKs.nil.cons R hl u1 q2 (by simp)
      simpa [ownId] using this
    · intro b' hb'
      simp only [ownId, List.mem_singleton] at hb'
      subst hb'
      exact ⟨_, hl⟩

end Go.Ev

/- Append: the run. -/
namespace Go.Ev

variable {R : Type} {E : Env} {X : Cx} {P : Program} {t : Nat} {ti : TyI} {w : World}

/-- What is added: its length and its cells. -/
structure Adds (P : Program) (w : World) (sz n : Nat) (yv : Value) (ycs : List Value) : Prop where
  len : (Builtin.lenOf yv).run P w = .ok n w
  cells : (Builtin.firstCells sz n yv).run P w = .ok ycs.toArray w
  size : ycs.length = n * sz
  one : ∀ c ∈ ycs, c.oneCell' = true

theorem run_appArgs {e t2 ty : Nat} {te : TyI} {d2 : TypeDesc} {A : Option Addr} {n c n' : Nat} {yv : Value} {ycs : List Value} (hu : P.underlying t = some (.slice e)) (hTe : TyOK P e te) (h2 : P.underlying t2 = some d2) (hd2 : ∀ k, d2 ≠ .int k)
    (hy : Adds P w te.sz n' yv ycs) (hfit : n + n' ≤ c) :
    (Builtin.append_ #[t, t2] ty #[.slice A n c, yv]).run P w = (match A with
      | some a => (storeCells (a.add (n * te.sz)) ycs).run P w
      | none => .ok () w).andThen fun _ w' => .ok (.slice A (n + n') c) w' := by
  have hz : (match d2 with | .int _ => true | _ => false) = false := by cases d2 <;> first | rfl | exact ((hd2 _) rfl).elim
  unfold Builtin.append_
  simp only [List.getElem?_toArray, List.getElem?_cons_zero, List.getElem?_cons_succ, Sem.run_bind, run_und hu, hTe.size, Result.andThen_ok, run_und h2, Sem.run_pure]
  simp only [Bool.false_eq_true, if_false, Sem.run_bind, hy.len, Result.andThen_ok, hfit, if_true, Bool.not_false, hy.cells]
  cases A with
  | none => simp
  | some a => simp

theorem growBy_le (need : Nat) : ∀ (r c : Nat), c < need → 256 ≤ c → Builtin.growBy need r c ≤ 2 * need
  | 0, c, h, _ => by simp only [Builtin.growBy]; omega
  | r + 1, c, h, h2 => by
    simp only [Builtin.growBy]
    rw [if_neg (by omega)]
    by_cases h3 : c + (c + 768) / 4 < need
    · exact growBy_le need r _ h3 (by omega)
    · cases r with
      | zero => simp only [Builtin.growBy]; omega
      | succ r => simp only [Builtin.growBy]; rw [if_pos (by omega)]; omega

theorem nextslicecap_le {need c : Nat} (h : c < need) : Builtin.nextslicecap need c ≤ 2 * need := by
  unfold Builtin.nextslicecap
  split
  · omega
  · split
    · omega
    · exact growBy_le need 4 c h (by omega)

end Go.Ev

/- Append: where the row grows. -/
namespace Go.Ev

variable {R : Type} {E : Env} {X : Cx} {P : Program} {t : Nat} {ti : TyI} {w : World}

theorem run_appGrows {e t2 ty : Nat} {te : TyI} {K : Ki} {d2 : TypeDesc} {A : Option Addr} {n c n' : Nat} {yv : Value} {ocs ycs : List Value} (hu : P.underlying t = some (.slice e)) (hTe : TyOK P e te) (hK : te.ki = some K) (h2 : P.underlying t2 = some d2) (hd2 : ∀ k, d2 ≠ .int k)
    (hy : Adds P w te.sz n' yv ycs) (hfit : c < n + n') (hb : n + n' ≤ bigOf te.bytes) (ho : ∀ w1 : World, w1.heap = w.heap → (Builtin.firstCells te.sz n (.slice A n c)).run P w1 = .ok ocs.toArray w1)
    (hy1 : ∀ w1 : World, w1.heap = w.heap → (Builtin.firstCells te.sz n' yv).run P w1 = .ok ycs.toArray w1) (hol : ocs.length = n * te.sz) :
    ∃ (c' : Nat) (cs : Array Value) (w' : World), n + n' ≤ c' ∧ c' * te.sz = cs.size ∧ cs.toList.take ((n + n') * te.sz) = ocs ++ ycs ∧
      (Builtin.append_ #[t, t2] ty #[.slice A n c, yv]).run P w = .ok (.slice (some ⟨w.heap.size, 0, none⟩) (n + n') c') w' ∧ w'.heap = w.heap.push (.cells cs e) ∧ w'.os = w.os ∧ w'.tape = w.tape ∧ w'.output = w.output := by
  obtain ⟨i, z, i1, i2, i3, i4, i5, _, i6⟩ := hTe.i
  obtain ⟨k1, k2⟩ := i6 K hK
  have hzs : z.cells.size = te.sz := by
    have := zcells_len K
    rw [k2, k1] at this
    simpa using this
  let need := n + n'
  let c' := (Question.appendCap need c e).cut (w.tape w.drawn (.appendCap need c e))
  have hc' : need ≤ c' := by simp only [c', Question.cut]; omega
  let w1 : World := { w with drawn := w.drawn + 1 }
  let cs : Array Value := ocs.toArray ++ ycs.toArray ++ Builtin.zeroCells z.cells (c' - need)
  have hlim := bigOf_le hb
  have hns := nextslicecap_le (need := need) hfit
  have hti : ∀ w1, (typeInfo e).run P w1 = .ok i w1 := fun w1 => by simp [typeInfo, i1]
  have hzv : ∀ w1, (zeroValue e).run P w1 = .ok z w1 := fun w1 => by simp [zeroValue, typeInfo, i1, i4]
  have hbig : ¬ (Builtin.nextslicecap need c * i.bytes > 2 ^ 48) := by
    rw [i3]
    have h3 : Builtin.nextslicecap need c * te.bytes ≤ 2 * need * te.bytes := Nat.mul_le_mul_right _ hns
    have h4 : 2 * need * te.bytes = 2 * (need * te.bytes) := Nat.mul_assoc ..
    have h5 : need * te.bytes ≤ need * (te.bytes + 1) := Nat.mul_le_mul_left _ (by omega)
    have h6 : need * (te.bytes + 1) ≤ 70368744177664 := hlim
    omega
  have hbig' : ¬ (Builtin.nextslicecap (n + n') c * i.bytes > 2 ^ 48) := hbig
  have hmax : ¬ (((n + n' : Nat) : Int) > IntKind.i64.max) := by
    have : IntKind.i64.max = 9223372036854775807 := by decide
    rw [this]
    have h5 : need * 1 ≤ need * (te.bytes + 1) := Nat.mul_le_mul_left _ (by omega)
    have h6 : need * (te.bytes + 1) ≤ 70368744177664 := hlim
    have : need = n + n' := rfl
    omega
  refine ⟨c', cs, { w1 with heap := w.heap.push (.cells cs e) }, hc', ?_, ?_, ?_, rfl, rfl, rfl, rfl⟩
  · simp [cs, Builtin.zeroCells, hzs, hol, hy.size]
    rw [← Nat.add_mul, ← Nat.add_mul]
    congr 1
    omega
  · have h1 : (ocs ++ ycs).length = (n + n') * te.sz := by rw [List.length_append, hol, hy.size, Nat.add_mul]
    simp only [cs, Array.toList_append, List.toList_toArray]
    rw [← h1, List.take_left']
    rfl
  · have hz : (match d2 with | .int _ => true | _ => false) = false := by cases d2 <;> first | rfl | exact ((hd2 _) rfl).elim
    have hch : (choose (.appendCap (n + n') c e)).run P w = .ok c' w1 := by
      simp only [choose, Sem.run, Question.forced, Bool.false_eq_true, if_false]
      rfl
    unfold Builtin.append_
    simp only [List.getElem?_toArray, List.getElem?_cons_zero, List.getElem?_cons_succ, Sem.run_bind, run_und hu, hTe.size, Result.andThen_ok, run_und h2, Sem.run_pure]
    simp only [Bool.false_eq_true, if_false, Sem.run_bind, hy.len, Result.andThen_ok, show ¬ (n + n' ≤ c) by omega, if_true, Bool.not_false, hmax, false_and, hti, hbig', hch, run_askRoom, ho w1 rfl, hy1 w1 rfl, hzv, newRow, run_newObj, Sem.run_pure]
    rfl

end Go.Ev

/- Append: the operation. -/
namespace Go.Ev

variable {R : Type} {E : Env} {X : Cx} {P : Program} {t : Nat} {ti : TyI} {w : World}

theorem FromKs.append (R : Rel E X) {ks ks' : List Nat} {f f' : List Nat} (h : FromKs X ks f) (h' : FromKs X ks' f') (hd : ∀ b ∈ ks, b ∉ ks') : FromKs X (ks ++ ks') (f ++ f') := by
  refine ⟨?_, ?_⟩
  · rw [List.nodup_append]
    refine ⟨h.nodup, h'.nodup, fun g hg g' hg' e => ?_⟩
    subst e
    obtain ⟨b, x, cb, q1, q2, q3, q4⟩ := h.mem g hg
    obtain ⟨b', x', cb', r1, r2, r3, r4⟩ := h'.mem g hg'
    have := R.dis b b' x x' cb cb' g q2 r2 q3 r3 q4 r4
    exact hd b q1 (this ▸ r1)
  · intro g hg
    rcases List.mem_append.1 hg with hg | hg
    · obtain ⟨b, x, cb, q1, q2⟩ := h.mem g hg
      exact ⟨b, x, cb, by simp [q1], q2⟩
    · obtain ⟨b, x, cb, q1, q2⟩ := h'.mem g hg
      exact ⟨b, x, cb, by simp [q1], q2⟩

/-- What is added, as rows. -/
structure AddsR (P : Program) (X : Cx) (K : Ki) (l : List K.den) (yv : Value) (ks : List Nat) : Prop where
  out : ∃ ycs fy, (∀ w1 : World, w1.heap = X.w.heap → Adds P w1 K.size l.length yv ycs) ∧ OwnRow X.w (X.S none) K l ycs fy ∧ FromKs X ks fy ∧ ∀ b ∈ ks, ∃ x, look b X.s.st = some x

theorem first_slice {w w1 : World} {sz n c g o : Nat} {cur : Array Value} {ty : TypeId} {fr : Nat × Nat} (hg : w.heap[g]? = some (.cells cur ty fr)) (hh : w1.heap = w.heap) (hle : o + n * sz ≤ cur.size) :
    (Builtin.firstCells sz n (.slice (some ⟨g, o, none⟩) n c)).run P w1 = .ok (seg cur.toList o (n * sz)).toArray w1 := by
  simp only [Builtin.firstCells]
  exact run_loadCells (by rw [hh]; exact hg) o _ hle

theorem first_none {w1 : World} {sz : Nat} {A : Option Addr} {c : Nat} : (Builtin.firstCells sz 0 (.slice A 0 c)).run P w1 = .ok (#[] : Array Value) w1 := by
  cases A <;> simp [Builtin.firstCells, loadCells, loadCellsFrom]

theorem addsR_elems {K : Ki} {l : List K.den} {yv : Value} (hn : K.nest = false) (h : Elems X K l yv) : AddsR P X K l yv [] := by
  obtain ⟨A, c, rfl, hc, h⟩ := h.out
  rcases h with h | ⟨g, o, cur, ty, fr, S, rfl, hg, hle, hr⟩
  · have h0 : l = [] := List.eq_nil_of_length_eq_zero h
    subst h0
    refine ⟨[], [], fun w1 _ => ⟨rfl, first_none, by simp, by simp⟩, ⟨rfl, rfl⟩, .nil, by simp⟩
  · have hrow : OwnRow X.w (X.S none) K l (seg cur.toList o (l.length * K.size)) [] := RowR_imp (P := fun _ => True) hr (fun x c f _ hx => Rep_any hn hx) (by simp)
    refine ⟨_, [], fun w1 hh => ⟨rfl, first_slice hg hh hle, ?_, ?_⟩, hrow, .nil, by simp⟩
    · exact seg_length (by simpa using hle)
    · exact fun v hv => RowR_all (fun x c f hx => Rep_one hx) hrow v hv

theorem addsR_taken {K : Ki} {l : List K.den} {yv : Value} {ks : List Nat} (h : Taken E X K l yv ks) : AddsR P X K l yv ks := by
  obtain ⟨A, c, fp, rfl, how, hf, hl⟩ := h.out
  obtain ⟨A', c', e, h⟩ := how
  cases e
  rcases h with ⟨h0, h1, rfl⟩ | ⟨g, o, cur, fps, h1, h2, h3, h4, h5, h6⟩
  · have e0 : l = [] := List.eq_nil_of_length_eq_zero h0
    subst e0
    refine ⟨[], [], fun w1 _ => ⟨rfl, first_none, by simp, by simp⟩, ⟨rfl, rfl⟩, ⟨by simp, by simp⟩, hl⟩
  · subst h1
    have hm := Nat.mul_le_mul_right K.size h3
    obtain ⟨ty, fr, hg, _⟩ := h2
    refine ⟨_, fps, fun w1 hh => ⟨rfl, first_slice hg hh (by simp; omega), ?_, ?_⟩, h6, ⟨?_, ?_⟩, hl⟩
    · exact seg_length (by simp; omega)
    · exact fun v hv => RowR_all (fun x c f hx => Rep_one hx) h6 v hv
    · have := hf.nodup
      rw [h5] at this
      exact (List.nodup_cons.1 this).2
    · intro k hk
      exact hf.mem k (by rw [h5]; simp [hk])

theorem addsR_str {l : List UInt8} : AddsR P X (.int .u8) (strInts l) (.string ⟨⟨l⟩⟩) [] := by
  have hlen : List.length (α := Int) (strInts l) = l.length := by simp [strInts]
  refine ⟨(strInts l).map (Value.int .u8), [], fun w1 _ => ⟨?_, ?_, ?_, ?_⟩, ints_row _, .nil, by simp⟩
  · show Result.ok l.length w1 = Result.ok (List.length (α := Int) (strInts l)) w1
    rw [hlen]
  · show Result.ok (((⟨⟨l⟩⟩ : ByteArray).extract 0 (List.length (α := Int) (strInts l))).data.map fun b => Value.int .u8 b.toNat) w1 = _
    rw [hlen, slice_mid]
    congr 1
    apply Array.ext'
    simp [strInts]
  · show ((strInts l).map (Value.int .u8)).length = List.length (α := Int) (strInts l) * 1
    simp
  · intro c hc
    obtain ⟨n, _, rfl⟩ := List.mem_map.1 hc
    rfl

theorem seg_append (cur : List Value) (o m : Nat) (nc : List Value) (h : o + m + nc.length ≤ cur.length) : seg (splice cur (o + m) nc) o (m + nc.length) = seg cur o m ++ nc := by
  rw [seg_splice _ _ _ _ _ (Nat.le_refl _) (by omega)]
  have : seg cur o (m + nc.length) = seg cur o m ++ seg cur (o + m) nc.length := by
    simp only [seg, List.take_add, List.drop_drop]
  rw [this]
  have hl : (seg cur o m).length = m := seg_length (by omega)
  have hl2 : (seg cur (o + m) nc.length).length = nc.length := seg_length (by omega)
  have := splice_eq (seg cur o m) (seg cur (o + m) nc.length) [] nc hl2
  simp only [List.append_nil, hl] at this
  exact this

/-- What append comes to. -/
theorem append_good (R : Rel E X) {e t2 ty nb : Nat} {te : TyI} {K : Ki} {d2 : TypeDesc} {l l' : List K.den} {xv yv : Value} {ks ks' : List Nat} (hu : P.underlying t = some (.slice e)) (hTe : TyOK P e te) (hK : te.ki = some K) (h2 : P.underlying t2 = some d2) (hd2 : ∀ k, d2 ≠ .int k)
    (hx : Taken E X K l xv ks) (hy : AddsR P X K l' yv ks') (hd : ∀ b ∈ ks, b ∉ ks') (hb : l.length + l'.length ≤ bigOf te.bytes) (hF : Fresh X nb) :
    ∃ val X', (Builtin.append_ #[t, t2] ty #[xv, yv]).run P X.w = .ok val X'.w ∧ Good E X nb (.sl nb) ((nb, some (.cell false 0 [.rw K (l ++ l')])) :: kills (ks ++ ks')) val X' := by
  obtain ⟨i, z, i1, i2, i3, i4, i5, _, i6⟩ := hTe.i
  obtain ⟨hKs, _⟩ := i6 K hK
  obtain ⟨A, c, fp, rfl, how, hf, hlv⟩ := hx.out
  obtain ⟨ycs, fy, hadds, hyrow, hfy, hlv'⟩ := hy.out
  have hA := hadds X.w rfl
  have hlive : ∀ b ∈ ks ++ ks', ∃ x, look b X.s.st = some x := fun b hb' => (List.mem_append.1 hb').elim (hlv b) (hlv' b)
  have hfk := hf.append R hfy hd
  rw [hKs] at hA
  have bound : ∀ k ∈ fp ++ fy, k < X.w.heap.size := by
    intro k hk
    obtain ⟨b, x, cb, q1, q2, q3, q4⟩ := hfk.mem k hk
    obtain ⟨cb', j1, _, _, j4⟩ := R.blk b x q2
    rw [q3] at j1
    cases j1
    exact (j4 k q4).1
  have how' := how
  obtain ⟨A', c', e', h⟩ := how'
  cases e'
  by_cases hfit : l.length + l'.length ≤ c
  · have hrun := run_appArgs (w := X.w) (ty := ty) (A := A) (n := l.length) hu hTe h2 hd2 hA hfit
    rcases h with ⟨h0, h1, rfl⟩ | ⟨g, o, cur, fps, h1, hcur, h3, h4, h5, h6⟩
    · have e0 : l = [] := List.eq_nil_of_length_eq_zero h0
      have e1 : l' = [] := List.eq_nil_of_length_eq_zero (by omega)
      subst e0 e1 h1
      have hyc : ycs = [] := hyrow.1
      have hfy0 : fy = [] := hyrow.2
      subst hyc hfy0
      have hrun' : (Builtin.append_ #[t, t2] ty #[.slice A 0 0, yv]).run P X.w = .ok (.slice A 0 0) X.w := by
        have := hrun
        simp only [List.length_nil, Nat.add_zero] at this ⊢
        rw [this]
        cases A <;> simp [storeCells]
      have hN : NewBlk E X nb (.cell false 0 [.rw K ([] ++ [])]) (ks ++ ks') (.row A 0 0 K.size []) X.w (fun _ => False) (addBlk X nb (.cell false 0 [.rw K ([] ++ [])]) (ks ++ ks') (.row A 0 0 K.size []) X.w) :=
        ⟨rfl, rfl, rfl, rfl, hF, hlive, rfl, rfl, rfl, Nat.le_refl _, fun _ _ _ => rfl, fun g hg => hg.elim⟩
      refine ⟨.slice A 0 0, addBlk X nb (.cell false 0 [.rw K ([] ++ [])]) (ks ++ ks') (.row A 0 0 K.size []) X.w, hrun', hN.good R (fun _ => .row rfl rfl ⟨A, 0, rfl, .inl ⟨rfl, rfl, rfl⟩⟩) (by simp [CB.fp]) (by simp [CB.fp]) fun _ => ?_⟩
      exact .sl (sz := K.size) (fp := []) (by simp [addBlk])
    · subst h1
      have hm : (l.length + l'.length) * K.size ≤ c * K.size := Nat.mul_le_mul_right _ hfit
      have hyl : ycs.length = l'.length * K.size := by rw [hA.size, hKs]
      have hst : (storeCells ((⟨g, o, none⟩ : Addr).add (l.length * te.sz)) ycs).run P X.w = .ok () (setBlk X.w g (splice cur (o + l.length * K.size) ycs)) := by
        rw [addr_add, ← hKs]
        exact run_storeCells _ _ cur X.w hcur (by rw [Nat.add_mul] at hm; omega) hA.one
      simp only at hrun
      rw [hst] at hrun
      simp only [Result.andThen_ok] at hrun
      subst h5
      have hnd := hfk.nodup
      simp only [List.cons_append, List.nodup_cons] at hnd
      have hN : NewBlk E X nb (.cell false 0 [.rw K (l ++ l')]) (ks ++ ks') (.row (some ⟨g, o, none⟩) (l.length + l'.length) c K.size (g :: (fps ++ fy))) (setBlk X.w g (splice cur (o + l.length * K.size) ycs)) (fun k => k = g)
          (addBlk X nb (.cell false 0 [.rw K (l ++ l')]) (ks ++ ks') (.row (some ⟨g, o, none⟩) (l.length + l'.length) c K.size (g :: (fps ++ fy))) (setBlk X.w g (splice cur (o + l.length * K.size) ycs))) := by
        refine ⟨rfl, rfl, rfl, rfl, hF, hlive, rfl, rfl, rfl, by rw [setBlk_size]; exact Nat.le_refl _, fun k _ hk => setBlk_other _ _ _ _ hk, fun k hk => ?_⟩
        subst hk
        exact hfk.mem k (by simp)
      refine ⟨.slice (some ⟨g, o, none⟩) (l.length + l'.length) c, addBlk X nb (.cell false 0 [.rw K (l ++ l')]) (ks ++ ks') (.row (some ⟨g, o, none⟩) (l.length + l'.length) c K.size (g :: (fps ++ fy))) (setBlk X.w g (splice cur (o + l.length * K.size) ycs)), hrun, hN.good R ?_ ?_ ?_ fun _ => ?_⟩
      · intro hx
        have hll : (l ++ l').length = l.length + l'.length := List.length_append
        refine .row hll.symm rfl ?_
        rw [hll]
        refine ⟨_, _, rfl, .inr ⟨g, o, splice cur (o + l.length * K.size) ycs, fps ++ fy, rfl, ?_, hfit, ?_, rfl, ?_⟩⟩
        · exact setBlk_cells hcur _ (splice_length _ _ _ (by rw [Nat.add_mul] at hm; omega))
        · rw [splice_length _ _ _ (by rw [Nat.add_mul] at hm; omega)]; exact h4
        · rw [Nat.add_mul, ← hyl, seg_append _ _ _ _ (by rw [Nat.add_mul] at hm; omega)]
          exact OwnRow.move (RowR_append h6 hyrow) (hx.sts none) fun k hk => setBlk_other _ _ _ _ fun e => hnd.1 (e ▸ hk)
      · simp only [CB.fp, List.nodup_cons]; exact hnd
      · intro k hk
        rw [setBlk_size]
        obtain ⟨b, x, cb, q1, q2, q3, q4⟩ := hfk.mem k hk
        exact ⟨bound k hk, .inr ⟨b, x, cb, .inr q1, q2, q3, q4⟩⟩
      · exact .sl (sz := K.size) (fp := g :: (fps ++ fy)) (by simp [addBlk])
  · have hold : ∃ ocs fo, (∀ w1 : World, w1.heap = X.w.heap → (Builtin.firstCells te.sz l.length (.slice A l.length c)).run P w1 = .ok ocs.toArray w1) ∧ ocs.length = l.length * te.sz ∧ OwnRow X.w (X.S none) K l ocs fo ∧ fo.Sublist fp := by
      rcases h with ⟨h0, h1, rfl⟩ | ⟨g, o, cur, fps, h1, hcur, h3, h4, h5, h6⟩
      · have e0 : l = [] := List.eq_nil_of_length_eq_zero h0
        subst e0
        exact ⟨[], [], fun w1 _ => first_none, by simp, ⟨rfl, rfl⟩, List.Sublist.refl _⟩
      · subst h1
        have hm := Nat.mul_le_mul_right K.size h3
        obtain ⟨ty', fr, hg, _⟩ := hcur
        refine ⟨_, fps, fun w1 hh => first_slice hg hh (by rw [← hKs]; simp; omega), ?_, by rw [← hKs]; exact h6, by rw [h5]; exact List.sublist_cons_self _ _⟩
        rw [← hKs]
        exact seg_length (by simp; omega)
    obtain ⟨ocs, fo, o1, o2, o3, o4⟩ := hold
    obtain ⟨c', cs, w', g1, g2, g3, g4, g5, g6, g7, g8⟩ := run_appGrows (w := X.w) (ty := ty) (A := A) (n := l.length) (c := c) hu hTe hK h2 hd2 hA (by omega) hb o1 (fun w1 hh => by have := (hadds w1 hh).cells; rwa [hKs] at this) o2
    have hll : (l ++ l').length = l.length + l'.length := List.length_append
    obtain ⟨X', r1, r2⟩ := good_row (w' := w') (K := K) (l := l ++ l') (cs := cs) (fr := (0, 0)) (c := c') (fps := fo ++ fy) (ks := ks ++ ks') R hF hlive (by rw [hll, hKs, g3]; exact RowR_append o3 hyrow) (by omega) (by rw [hKs]; omega)
      (.inl rfl) ((o4.append_right fy).nodup hfk.nodup) (fun k hk => ⟨bound k ((o4.append_right fy).subset hk), hfk.mem k ((o4.append_right fy).subset hk)⟩) g5 g6 g7 g8
    rw [hll] at r2
    exact ⟨_, X', by rw [g4, r1], r2⟩

end Go.Ev

/- Append: the operation's lemma. -/
namespace Go.Ev

variable {R : Type} {E : Env} {X : Cx} {P : Program} {t : Nat} {ti : TyI} {w : World}

theorem notInt_ok {c : Cfg} (hC : cfgOk P c = true) (h : notInt c t = true) : ∃ d, P.underlying t = some d ∧ ∀ k, d ≠ .int k := by
  unfold notInt at h
  split at h
  · rename_i ti ht
    split at h
    · cases h
    · rename_i hi; exact (cfg_ty hC ht).notInt hi
  · cases h

theorem verId_own {a : AV} (h : appendable a = true) : verId a = ownId a := by
  cases a <;> first | rfl | simp [appendable] at h

theorem srcElems_loc {s s' : St} {K : Ki} {a : AV} (hs : ∀ b ∈ verId a, look b s'.st = look b s.st) : srcElems s' K a = srcElems s K a := by
  unfold srcElems
  split
  · rfl
  · exact elems_loc hs

theorem addsR_src {K : Ki} {l : List K.den} {a : AV} {yv : Value} (R : Rel E X) (hn : K.nest = false) (hv : VRel X a yv) (h : srcElems X.s K a = some l) : AddsR P X K l yv [] := by
  unfold srcElems at h
  split at h
  · cases h
    cases hv
    exact addsR_str
  · exact addsR_elems hn (elems_ok R hv h)

theorem append_ok {c : Cfg} (hC : cfgOk P c = true) {s : St} {o : Oper} {nb : Nat} {cont : Cont R} {r : R} {cl : Call} (hop : o.op = .call cl) (hb : cl.callee = .builtin .append) (h : memE c s o nb cont = some r) :
    Res P c s o nb cont r fun s' k => memE c s' o nb k := by
  simp only [memE, hop, hb] at h
  split at h
  case h_2 => cases h
  rename_i x y t t2 ha ht
  split at h
  case h_2 => cases h
  rename_i ti hti
  cases hb1 : (isSl ti && notInt c t2) <;> rw [hb1] at h <;> simp only [cond_true, cond_false] at h
  · cases h
  have hb1' := hb1
  simp only [Bool.and_eq_true] at hb1'
  split at h
  case h_2 => cases h
  rename_i te hte
  split at h
  case h_2 => cases h
  rename_i K hK
  split at h
  case h_2 => cases h
  rename_i l l' hx hy
  obtain ⟨hb2, h⟩ := chk_some (show chk _ _ = some r from h)
  obtain ⟨hb3, h⟩ := chk_some h
  simp only [Bool.and_eq_true, nodupN_iff, List.nodup_append] at hb2
  obtain ⟨⟨happ, hnd⟩, hy2⟩ := hb2
  have hTe := cfg_ty hC hte
  have hup : ∀ b, b ∈ ownId (ev s x) ++ (bif K.nest then ownId (ev s y) else []) → b ∈ upIds ((nb, some (Blk.cell false 0 [AV.rw K (l ++ l')])) :: kills (ownId (ev s x) ++ bif K.nest then ownId (ev s y) else [])) := by
    intro b hb
    simp only [upIds, kills, List.map_cons, List.map_map, List.mem_cons]
    exact .inr (List.mem_map.2 ⟨b, hb, rfl⟩)
  have hyo : K.nest = true → appendable (ev s y) = true ∧ ∀ K' a, srcElems s K' a = elems s K' a ∨ K' ≠ K := by
    intro hn
    refine ⟨?_, fun K' a => ?_⟩
    · rw [hn] at hy2
      cases hev : ev s y <;> rw [hev] at hy2 <;> first | rfl | simp [wholeSl] at hy2
    · by_cases hk : K' = K
      · subst hk
        left
        unfold srcElems
        split
        · simp [Ki.nest] at hn
        · rfl
      · exact .inr hk
  refine ⟨_, _, _, h, ?_, ?_, trivial⟩
  · intro E X ac hs hR hT hF next Q hn
    subst hs
    have hTk := taken_ok hR (ev_ok hT x) hx happ
    have hA : AddsR P X K l' (ac.eval y) (bif K.nest then ownId (ev X.s y) else []) := by
      cases hnest : K.nest
      · simp only [cond_false]
        exact addsR_src hR hnest (ev_ok hT y) hy
      · simp only [cond_true]
        obtain ⟨h1, h2⟩ := hyo hnest
        rw [(h2 K _).resolve_right (fun e => e rfl)] at hy
        exact addsR_taken (taken_ok hR (ev_ok hT y) hy h1)
    have hd : ∀ b ∈ ownId (ev X.s x), b ∉ (bif K.nest then ownId (ev X.s y) else []) := by
      intro b hb hb'
      cases hnest : K.nest <;> rw [hnest] at hb'
      · simp at hb'
      · simp only [cond_true] at hb'
        rw [← verId_own (hyo hnest).1] at hb'
        exact hnd.2.2 b hb b hb' rfl
    obtain ⟨d2, u2, n2⟩ := notInt_ok hC hb1'.2
    obtain ⟨val, X', r1, r2⟩ := append_good (ty := o.type) hR ((cfg_ty hC hti).slice hb1'.1) hTe hK u2 n2 hTk hA hd (by rw [Nat.ble_eq] at hb3; exact hb3) hF
    unfold Oper.wp
    rw [call_shape hop hb, array_two ha, array_two ht]
    simp only [builtin, Sem.run_bind, List.map_toArray, List.map_cons, List.map_nil, r1, Result.andThen_ok, Sem.run_pure, Oper.upon]
    exact hn val X' r2
  · intro s' hag R' k
    have hx' : elems s' K (ev s x) = some l := by
      rw [elems_loc, hx]
      intro b hb
      rw [verId_own happ] at hb
      exact hag.wr b (hup b (by simp [hb]))
    have hy' : srcElems s' K (ev s y) = some l' := by
      rw [srcElems_loc, hy]
      intro b hb
      cases hnest : K.nest
      · exact hag.rd b (by rw [hnest]; exact hb)
      · rw [verId_own (hyo hnest).1] at hb
        exact hag.wr b (hup b (by rw [hnest]; simp [hb]))
    simp only [memE, hop, hb, ha, ht]
    rw [hag.ev x (by simp [hop, Op.operands, Call.operands, hb, array_two ha]), hag.ev y (by simp [hop, Op.operands, Call.operands, hb, array_two ha])]
    simp only [hti, hb1, hte, hK, hx', hy', cond_true]
    have hcd : (appendable (ev s x) && nodupN (ownId (ev s x) ++ verId (ev s y)) && (!K.nest || wholeSl (ev s y))) = true := by
      simp only [Bool.and_eq_true, nodupN_iff, List.nodup_append]
      exact ⟨⟨happ, hnd⟩, hy2⟩
    rw [hcd]
    simp only [cond_true, hb3, chk_true]

end Go.Ev

/- Operations: slices written out. -/
namespace Go.Ev

variable {R : Type} {E : Env} {X : Cx} {P : Program} {t : Nat} {ti : TyI} {w : World}

theorem litElems_ok (R : Rel E X) {K : Ki} {sz : Nat} (hsz : K.size = sz) : ∀ {n j : Nat} {as : List (Nat × AV)} {vs : List (Nat × Value)} {l : List K.den} {ks : List Nat} {cells : Array Value}, NRels X as vs → litElems X.s K j n as = some (l, ks) → ks.Nodup → cells.size = (j + n) * sz →
    ∃ (cells' : Array Value) (fp : List Nat), Instr.fill (fun i => some (i * sz, sz)) cells vs = some cells' ∧ cells'.size = cells.size ∧ cells'.toList.take (j * sz) = cells.toList.take (j * sz) ∧ OwnRow X.w (X.S none) K l (cells'.toList.drop (j * sz)) fp ∧ l.length = n ∧ FromKs X ks fp ∧
      ∀ b ∈ ks, ∃ x, look b X.s.st = some x
  | 0, j, [], _, l, ks, cells, hv, h, hnd, hc => by
    simp only [litElems, Option.some.injEq, Prod.mk.injEq] at h
    obtain ⟨rfl, rfl⟩ := h
    cases hv
    refine ⟨cells, [], rfl, rfl, rfl, ⟨?_, rfl⟩, rfl, .nil, by simp⟩
    rw [List.drop_of_length_le]
    simp [hc]
  | n + 1, j, (i, x) :: r, _, l, ks, cells, .cons (v := v) (vs := vs) h1 h2, h, hnd, hc => by
    simp only [litElems] at h
    cases hb : (Nat.beq i j && storable x) <;> rw [hb] at h <;> simp only [cond_true, cond_false] at h
    · cases h
    simp only [Bool.and_eq_true] at hb
    obtain ⟨hij, hst⟩ := hb
    have := Nat.eq_of_beq_eq_true hij
    subst this
    split at h
    case h_2 => cases h
    rename_i ps ks1 hg
    split at h
    case h_2 => cases h
    rename_i d hd
    split at h
    case h_2 => cases h
    rename_i l2 ks2 hl
    simp only [Option.some.injEq, Prod.mk.injEq] at h
    obtain ⟨rfl, rfl⟩ := h
    rw [List.nodup_append] at hnd
    obtain ⟨nd1, nd2, nd3⟩ := hnd
    obtain ⟨p1, p2, p3⟩ := partsOf_ok h1 hst
    obtain ⟨f1, g1, g2, g3, g4⟩ := giveParts_ok R p1 p2 hg nd1
    have hrep := ofPartsAll_ok g1 hd
    have hvl := Rep_len hrep
    have hmul : (i + (n + 1)) * sz = i * sz + (sz + n * sz) := by rw [Nat.add_mul, Nat.succ_mul]; omega
    obtain ⟨cells1, q1, q2⟩ := fill_step (place := fun i => some (i * sz, sz)) (cells := cells) (i := i) (v := v) (rest := vs) rfl (by simp at hvl; omega) (by rw [hc, hmul]; omega)
    have hvl' : v.cells.toList.length = sz := by omega
    have hsp : (splice cells.toList (i * sz) v.cells.toList).length = cells.toList.length := splice_length _ _ _ (by rw [hvl']; simp [hc, hmul])
    have hs1 : cells1.size = cells.size := by
      have := congrArg List.length q1
      rw [hsp] at this
      simpa using this
    obtain ⟨cells', f2, e1, e2, e3, e4, e5, e6, e7⟩ := litElems_ok R hsz (cells := cells1) h2 hl nd2 (by rw [hs1, hc]; congr 1; omega)
    have h5 : cells'.toList.take ((i + 1) * sz) = cells.toList.take (i * sz) ++ v.cells.toList := by
      rw [e3, q1, Nat.succ_mul]
      simp only [splice]
      have : (cells.toList.take (i * sz) ++ v.cells.toList).length = i * sz + sz := by
        rw [List.length_append, hvl', List.length_take, Nat.min_eq_left]
        simp [hc, hmul]
      rw [← this, List.take_left']
      rfl
    have hle : (cells.toList.take (i * sz)).length = i * sz := by
      rw [List.length_take, Nat.min_eq_left]
      simp [hc, hmul]
    have h6 : cells'.toList.take (i * sz) = cells.toList.take (i * sz) := by
      have := congrArg (List.take (i * sz)) h5
      rw [List.take_take, Nat.min_eq_left (Nat.mul_le_mul_right _ (by omega)), List.take_left' hle] at this
      exact this
    have h7 : cells'.toList.drop (i * sz) = v.cells.toList ++ cells'.toList.drop ((i + 1) * sz) := by
      have e := List.take_append_drop ((i + 1) * sz) cells'.toList
      rw [h5] at e
      rw [← e, List.append_assoc, List.drop_left' hle]
      congr 1
      have e' : (cells.toList.take (i * sz) ++ (v.cells.toList ++ cells'.toList.drop ((i + 1) * sz))) = (cells.toList.take (i * sz) ++ v.cells.toList) ++ cells'.toList.drop ((i + 1) * sz) := by rw [List.append_assoc]
      rw [e', List.drop_left']
      rw [List.length_append, hle, hvl', Nat.succ_mul]
    refine ⟨cells', f1 ++ f2, by rw [q2]; exact e1, e2.trans hs1, h6, ?_, by simp [e5], g3.append R e6 (fun b hb hb' => nd3 b hb b hb' rfl), ?_⟩
    · rw [h7]
      exact ⟨_, _, _, _, rfl, rfl, hrep, e4⟩
    · intro b hb
      rcases List.mem_append.1 hb with hb | hb
      · exact g4 b hb
      · exact e7 b hb
  | 0, _, _ :: _, _, _, _, _, _, h, _, _ => by simp [litElems] at h
  | _ + 1, _, [], _, _, _, _, _, h, _, _ => by simp [litElems] at h

theorem litElems_loc {s s' : St} {K : Ki} : ∀ {n j : Nat} {as : List (Nat × AV)} {l : List K.den} {ks : List Nat}, litElems s K j n as = some (l, ks) → (∀ b ∈ ks, look b s'.st = look b s.st) → litElems s' K j n as = some (l, ks)
  | 0, j, [], l, ks, h, _ => h
  | n + 1, j, (i, x) :: r, l, ks, h, hs => by
    simp only [litElems] at h ⊢
    cases hb : (Nat.beq i j && storable x) <;> rw [hb] at h <;> simp only [cond_true, cond_false] at h ⊢
    · cases h
    split at h
    case h_2 => cases h
    rename_i ps ks1 hg
    split at h
    case h_2 => cases h
    rename_i d hd
    split at h
    case h_2 => cases h
    rename_i l2 ks2 hl
    simp only [Option.some.injEq, Prod.mk.injEq] at h
    obtain ⟨rfl, rfl⟩ := h
    rw [rowOf_giveParts hg (fun b hb => hs b (by simp [hb])), litElems_loc hl (fun b hb => hs b (by simp [hb]))]
    simp only [hd]
  | 0, _, _ :: _, _, _, h, _ => by simp [litElems] at h
  | _ + 1, _, [], _, _, h, _ => by simp [litElems] at h

theorem buildSlice_ok {c : Cfg} (hC : cfgOk P c = true) {s : St} {o : Oper} {nb : Nat} {cont : Cont R} {r : R} {n : Nat} {ps : Array (Nat × Operand)} (hop : o.op = .buildSlice t n ps) (h : memE c s o nb cont = some r) :
    Res P c s o nb cont r fun s' k => memE c s' o nb k := by
  simp only [memE, hop] at h
  have hmap : ∀ s' u rd, Agree s s' o u rd → (ps.toList.map fun (x : Nat × Operand) => (x.1, ev s' x.2)) = ps.toList.map fun x => (x.1, ev s x.2) := by
    intro s' u rd ha
    refine List.map_congr_left fun y hy => ?_
    rw [ha.ev y.2 (by simp [hop, Op.operands]; exact ⟨y.1, by simpa using Array.mem_toList_iff.1 hy⟩)]
  have hexec : ∀ (ac : Act), (Instr.buildSlice t n (ps.map fun (x : Nat × Operand) => (x.1, ac.eval x.2))) = Instr.buildSlice t n (ps.toList.map fun x => (x.1, ac.eval x.2)).toArray := by
    intro ac
    congr 1
    simp [← List.map_toArray]
  split at h
  case h_2 => cases h
  rename_i ti hti
  split at h
  case h_2 => cases h
  rename_i te hte
  split at h
  case h_2 => cases h
  rename_i K hK
  split at h
  case h_2 => cases h
  rename_i l ks hl
  obtain ⟨hb, h⟩ := chk_some (show chk _ _ = some r from h)
  have hb' := hb
  simp only [Bool.and_eq_true, nodupN_iff] at hb'
  obtain ⟨⟨hsl, hle⟩, hnd⟩ := hb'
  rw [Nat.ble_eq] at hle
  have hT := cfg_ty hC hti
  have hTe := cfg_ty hC hte
  refine ⟨_, _, _, h, ?_, ?_, trivial⟩
  · intro E X ac hs hR hT' hF next Q hn
    subst hs
    obtain ⟨z, z1, z2, z3⟩ := hTe.zero (w := X.w)
    obtain ⟨hKs, hKz⟩ := z3 K hK
    let zz : Array Value := if n * te.sz = 0 then #[] else z.cells
    obtain ⟨cells', fp, e1, e2, _, e4, e5, e6, e7⟩ := litElems_ok (cells := (Array.range (n * te.sz)).map (zz[· % zz.size]!)) hR hKs (nrels_map hT' ps.toList) hl hnd (by simp)
    have hsz : cells'.size = n * te.sz := by rw [e2]; simp
    have hrow : OwnRow X.w (X.S none) K l cells'.toList fp := by simpa using e4
    have hlen : l.length * K.size = n * te.sz := by rw [e5, hKs]
    obtain ⟨X', r1, r2⟩ := good_row (nb := nb) (w' := { X.w with heap := X.w.heap.push (.cells cells' ti.elem) }) (K := K) (l := l) (cs := cells') (fr := (0, 0)) (c := n) (fps := fp) (ks := ks) hR hF e7
      (by rw [hlen, List.take_of_length_le (by simp [hsz])]; exact hrow) (by omega) (by rw [hKs, hsz]; exact Nat.le_refl _) (.inl rfl) e6.nodup
      (fun g hg => by
        obtain ⟨b, x, cb, q1, q2, q3, q4⟩ := e6.mem g hg
        obtain ⟨cb', j1, _, _, j4⟩ := hR.blk b x q2
        rw [q3] at j1
        cases j1
        exact ⟨(j4 g q4).1, b, x, cb, q1, q2, q3, q4⟩) rfl rfl rfl rfl
    unfold Oper.wp
    simp only [execOp, hop, Sem.run_bind]
    rw [hexec]
    have hrun : (Instr.buildSlice t n (ps.toList.map fun x => (x.1, ac.eval x.2)).toArray).run P X.w = .ok (.slice (some ⟨X.w.heap.size, 0, none⟩) n n) { X.w with heap := X.w.heap.push (.cells cells' ti.elem) } := by
      simp only [Instr.buildSlice, Sem.run_bind, run_und (hT.slice hsl), hTe.size, Result.andThen_ok, Sem.run_ite, if_neg (show ¬ (n * te.sz > 2 ^ 24) by omega), Sem.run_pure]
      by_cases h0 : n * te.sz = 0
      · have : zz = #[] := if_pos h0
        rw [this] at e1
        rw [if_pos h0]
        simp only [e1, newRow, Sem.run_bind, run_newObj, Sem.run_pure, Result.andThen_ok]
      · have : zz = z.cells := if_neg h0
        rw [this] at e1
        rw [if_neg h0]
        simp only [z1, e1, newRow, Sem.run_bind, run_newObj, Sem.run_pure, Result.andThen_ok]
    rw [hrun]
    simp only [Result.andThen_ok, Sem.run_pure, Oper.upon]
    have := hn _ X' r2
    rw [r1, e5] at this
    exact this
  · intro s' ha R' k
    simp only [memE, hop, hti, hte, hK]
    rw [show (ps.toList.map fun (x : Nat × Operand) => match x with | (i, x) => (i, ev s' x)) = ps.toList.map fun x => (x.1, ev s' x.2) from rfl, hmap s' _ _ ha]
    rw [show (ps.toList.map fun (x : Nat × Operand) => match x with | (i, x) => (i, ev s x)) = ps.toList.map fun x => (x.1, ev s x.2) from rfl] at hl
    rw [litElems_loc hl fun b hb => ha.wr b (by simp only [upIds, kills, List.map_cons, List.map_map, List.mem_cons]; exact .inr (List.mem_map.2 ⟨b, hb, rfl⟩))]
    simp only [hb, cond_true]

end Go.Ev

/- A variable becomes a node of a tree: it is written no more. -/
namespace Go.Ev

variable {R : Type} {E : Env} {X : Cx} {P : Program}

/-- A block goes over to what lies for ever. -/
theorem freezeB (hR : Rel E X) {b : Nat} {x : Blk} {cb : CB} (hl : look b X.s.st = some x) (hc : X.cm b = some cb) :
    ∃ Y : Cx, Y.s = { X.s with st := del b X.s.st } ∧ Y.w = X.w ∧ Y.cm = X.cm ∧ Rel E Y ∧ Ext X Y ∧ GS Y.S X.S ∧ ∀ g ∈ cb.fp, Y.S none g := by
  let Y : Cx := { X with S := fun q => match q with | none => fun g => X.S none g ∨ g ∈ cb.fp | some n => X.S (some n), s := { X.s with st := del b X.s.st } }
  have hlk : ∀ k, look k Y.s.st = if k = b then none else look k X.s.st := fun k => look_del _ hR.uq
  have gs : GS Y.S X.S := ⟨fun _ => rfl, fun _ h => .inl h⟩
  have hx : Ext X Y := by
    refine ⟨fun k cb h => ⟨cb, h, cb.same_refl⟩, fun n g h => ⟨gs.mono n g h, rfl⟩, ?_⟩
    intro k cb _ ro' v' ps' h
    rw [hlk] at h
    by_cases e : k = b
    · rw [if_pos e] at h; cases h
    · rw [if_neg e] at h
      exact ⟨ro', v', ps', h, Nat.le_refl _, fun _ _ => ⟨rfl, rfl, rfl, fun _ _ => rfl⟩⟩
  obtain ⟨cb0, w1, w2, w3, w4⟩ := hR.blk b _ hl
  rw [hc] at w1
  cases w1
  refine ⟨Y, rfl, rfl, rfl, ⟨?_, ?_, hR.out, ?_, hR.fr, uniq_del hR.uq⟩, hx, gs, fun g hg => .inr hg⟩
  · intro k x h
    rw [hlk] at h
    by_cases e : k = b
    · rw [if_pos e] at h; cases h
    · rw [if_neg e] at h
      obtain ⟨cb, k1, k2, k3, k4⟩ := hR.blk k x h
      exact ⟨cb, k1, k2.ext hx fun _ _ => rfl, k3, k4⟩
  · intro k k' x x' cb cb' g h h' hc hc' hg hg'
    rw [hlk] at h h'
    by_cases e : k = b
    · rw [if_pos e] at h; cases h
    · by_cases e' : k' = b
      · rw [if_pos e'] at h'; cases h'
      · rw [if_neg e] at h
        rw [if_neg e'] at h'
        exact hR.dis k k' x x' cb cb' g h h' hc hc' hg hg'
  · intro g hg
    rcases hg with hg | hg
    · obtain ⟨f1, f2, f3⟩ := hR.frz g hg
      refine ⟨f1, f2, fun k x cb h hc => ?_⟩
      rw [hlk] at h
      by_cases e : k = b
      · rw [if_pos e] at h; cases h
      · rw [if_neg e] at h
        exact f3 k x cb h hc
    · refine ⟨(w4 g hg).1, .inr (w4 g hg).2, fun k x cb' h hc' hgc => ?_⟩
      rw [hlk] at h
      by_cases e : k = b
      · rw [if_pos e] at h; cases h
      · rw [if_neg e] at h
        exact e (hR.dis k b x _ cb' _ g h hl hc' hc hgc hg)

theorem bools_cs {w : World} {Z : Nat → Prop} : ∀ {l : List Bool} {cs : List Value} {fp : List Nat}, OwnRow w Z .bool l cs fp → cs = l.map Value.bool
  | [], _, _, h => h.1
  | x :: l, _, _, ⟨c1, c2, f1, f2, e1, e2, hx, hl⟩ => by
    rw [e1, hx.1, bools_cs hl]; rfl

theorem PRs_one_cons {a : AV} {r : List AV} {cs : List Value} {fp : List Nat} (ha : a.plain = true) (h : PRs X (a :: r) cs fp) : ∃ v cs', cs = v :: cs' ∧ v.oneCell' = true ∧ VRel X a v ∧ PRs X r cs' fp := by
  cases h with
  | one _ h1 h2 h3 => exact ⟨_, _, rfl, h1, h2, h3⟩
  | arr => simp [AV.plain] at ha
  | nl => simp [AV.plain] at ha
  | rw => simp [AV.plain] at ha

theorem treeOf_ok {L T : Nat} {ps : List AV} {t : Tr} {cur : List Value} {fps : List Nat} {g : Nat} {Ty : TypeId} {fr : Nat × Nat} (h : treeOf L T ps = some t) (hp : PRs X ps cur fps)
    (hg : X.w.heap[g]? = some (.cells cur.toArray Ty fr)) {S : Nat → Prop} (hS : ∀ k, X.S none k → S k) (hSg : S g) : TreeV X.w S t (.iface T (.pointer (some ⟨g, 0, none⟩))) := by
  have mvT : ∀ {a : Tr} {v : Value}, VRel X (.tr .frz a) v → TreeV X.w S a v := fun h => by
    cases h with
    | tr _ ht => exact ht.move fun g hg => ⟨hS g hg, rfl⟩
  have mvI : ∀ {k : IntKind} {n : Int} {v : Value}, VRel X (.int k n) v → v = .int k n := fun h => by cases h; rfl
  have nilP : ∀ {cs : List Value} {fp : List Nat}, PRs X [] cs fp → cs = [] := fun h => by cases h; rfl
  unfold treeOf at h
  split at h
  · rename_i n l
    cases hb : Nat.beq n 256 <;> rw [hb] at h <;> simp only [cond_true, cond_false] at h
    · cases h
    cases h
    obtain ⟨k1, k2⟩ := PRs_arr hp
    refine ⟨g, _, Ty, fr, rfl, hSg, hg, ?_⟩
    exact ⟨by simpa using bools_cs k2, k1.trans (Nat.eq_of_beq_eq_true hb)⟩
  · cases h
    obtain ⟨v1, c1, rfl, _, p1, hp⟩ := PRs_one_cons rfl hp
    obtain ⟨v2, c2, rfl, _, p2, hp⟩ := PRs_one_cons rfl hp
    rw [nilP hp] at hg
    exact ⟨g, _, Ty, fr, rfl, hSg, hg, v1, v2, by simp, mvT p1, mvT p2⟩
  · cases h
    obtain ⟨v1, c1, rfl, _, p1, hp⟩ := PRs_one_cons rfl hp
    obtain ⟨v2, c2, rfl, _, p2, hp⟩ := PRs_one_cons rfl hp
    rw [nilP hp, mvI p2] at hg
    exact ⟨g, _, Ty, fr, rfl, hSg, hg, v1, by simp, mvT p1⟩
  · rename_i a i j u
    cases hb : u.plain <;> rw [hb] at h <;> simp only [cond_true, cond_false] at h
    · cases h
    cases h
    obtain ⟨v1, c1, rfl, _, p1, hp⟩ := PRs_one_cons rfl hp
    obtain ⟨v2, c2, rfl, _, p2, hp⟩ := PRs_one_cons rfl hp
    obtain ⟨v3, c3, rfl, _, p3, hp⟩ := PRs_one_cons rfl hp
    obtain ⟨v4, c4, rfl, p4, _, hp⟩ := PRs_one_cons hb hp
    rw [nilP hp, mvI p2, mvI p3] at hg
    exact ⟨g, _, Ty, fr, rfl, hSg, hg, v1, v4, by simp, p4, mvT p1⟩
  · cases h

theorem makeInterface_ok {c : Cfg} (hC : cfgOk P c = true) {s : St} {o : Oper} {nb : Nat} {cont : Cont R} {r : R} {x : Operand} {T : Nat} (hop : o.op = .makeInterface T x) (h : memE c s o nb cont = some r) :
    Res P c s o nb cont r fun s' k => memE c s' o nb k := by
  simp only [memE, hop] at h
  split at h
  case h_3 => cases h
  · rename_i kk n ti hx hti
    obtain ⟨hk, h⟩ := chk_some h
    unfold isK at hk
    split at hk
    case h_2 => cases hk
    rename_i k' hi
    have hu := (cfg_ty hC hti).int hi
    rw [← kbeq_eq hk] at hu hi
    refine ⟨_, _, _, h, ?_, fun s' ha R' k => ?_, trivial⟩
    · refine goes_pure fun E X ac hs hR hT => ?_
      subst hs
      have hv := ev_ok hT x
      rw [hx] at hv
      generalize hxv : ac.eval x = xv at hv
      cases hv
      refine ⟨.iface T (.int kk n), ?_, .ifc (.int _ _)⟩
      simp [execOp, hop, hxv, Instr.makeInterface, run_und hu]
    · simp only [memE, hop]
      rw [ha.ev x (by simp [hop, Op.operands]), hx, hti]
      have e : kbeq kk kk = true := by cases kk <;> rfl
      simp only [isK, hi, e, chk_true]
  rename_i b L ti hx hL hti
  split at h
  case h_2 => cases h
  rename_i ro ver ps hl
  split at h
  case h_2 => cases h
  rename_i t ht
  obtain ⟨hi, h⟩ := chk_some h
  obtain ⟨e, hu⟩ := (cfg_ty hC hti).ptr hi
  refine ⟨_, _, _, h, ?_, ?_, trivial⟩
  · intro E X ac hs hR hT hF next Q hn
    subst hs
    have hv := ev_ok hT x
    rw [hx] at hv
    generalize hxv : ac.eval x = xv at hv
    cases hv with
    | @pb _ _ _ cb g og hcm hbase hin hne =>
      have hrn : cb.rowN = none := hne.resolve_right (by simp)
      obtain ⟨cb0, w1, w2, w3, w4⟩ := hR.blk b _ hl
      rw [hcm] at w1
      cases w1
      cases w2 with
      | @box g' fps ro v ps cur h1 h2 h3 =>
        simp only [CB.base, Option.some.injEq, Prod.mk.injEq] at hbase
        obtain ⟨rfl, rfl⟩ := hbase
        obtain ⟨Y, y1, y2, y3, y4, y5, y6, y7⟩ := freezeB hR hl hcm
        obtain ⟨Ty, fr, hg, _⟩ := h2
        have htree := treeOf_ok ht h3 hg (S := Y.S none) (fun k hk => y6.2 k hk) (y7 _ (by simp [CB.fp]))
        unfold Oper.wp
        simp only [poff, Nat.add_zero] at hxv
        simp only [execOp, hop, hxv, Instr.makeInterface, Sem.run_bind, run_und hu, Result.andThen_ok, Sem.run_pure, Oper.upon]
        have := hn (.iface T (.pointer (some ⟨g', 0, none⟩))) Y ⟨y4, y5, y6, by rw [y1]; rfl, fun b hb => .inl (by rw [← y3]; exact hb), .tr (fun b v e => by cases e) (by rw [y2]; exact htree)⟩
        rw [y2] at this
        exact this
      | row => simp [CB.rowN] at hrn
  · intro s' ha R' k
    simp only [memE, hop]
    rw [ha.ev x (by simp [hop, Op.operands]), hx, hL, hti]
    have hw := ha.wr b (by simp [upIds])
    simp only [hw, hl, ht, hi, chk_true]

end Go.Ev

/- Operations: all of them that call nobody. -/
namespace Go.Ev

variable {R : Type} {E : Env} {X : Cx} {P : Program} {w : World}

theorem memE_ok {c : Cfg} (hC : cfgOk P c = true) {s : St} {o : Oper} {nb : Nat} {cont : Cont R} {r : R} (h : memE c s o nb cont = some r) : Res P c s o nb cont r fun s' k => memE c s' o nb k := by
  have none_ : ∀ {p : Prop}, (none : Option R) = some r → p := fun e => nomatch e
  cases hop : o.op with
  | move x => exact move_ok (.inl hop) h
  | assign x => exact move_ok (.inr hop) h
  | pick x a b => exact pick_ok hop h
  | alloc t => exact alloc_ok hC hop h
  | box t v => exact box_ok hop h
  | build t ps => exact build_ok hC hop h
  | buildSlice t n ps => exact buildSlice_ok hC hop h
  | load t a => exact load_ok hC hop h
  | store t a v => exact store_ok hC hop h
  | nilCheck x => exact nilCheck_ok hop h
  | binOp op t x y yt =>
    by_cases hy : y = .const .nilIface
    · subst hy; exact nilCmp_ok hC hop h
    · exact binOp_ok hC hop hy h
  | typeAssert x xt T ok =>
    cases ok with
    | false => exact typeInt_ok hC hop h
    | true => exact typeAssert_ok hC hop h
  | unOp op t x => exact unOp_ok hop h
  | convert t d x => exact convert_ok hC hop h
  | makeSlice t x y => exact makeSlice_ok hC hop h
  | fieldAddr t x f => exact fieldAddr_ok hC hop h
  | indexAddr t x i => exact indexAddr_ok hC hop h
  | index t x i => exact index_ok hC hop h
  | extract x i => exact extract_ok hop h
  | makeInterface T x => exact makeInterface_ok hC hop h
  | makeMap t rv => exact makeMap_ok hC hop h
  | range t x => exact range_ok hC hop h
  | entry x => exact mapStep_ok hop h
  | lookup t m k ok => exact lookup_ok hC hop h
  | mapUpdate t m k v => exact mapUpdate_ok hC hop h
  | mapEntry t m k => exact mapEntry_ok hC hop h
  | entryStore t m i v => exact entryStore_ok hC hop h
  | slice t x lo hi m =>
    cases m with
    | none => exact sliceOp_ok hC hop h
    | some m => simp only [memE, hop, pureE] at h; exact none_ h
  | makeFunc f fs caps =>
    cases f with
    | func f => exact makeFunc_ok hop h
    | _ => simp only [memE, hop, pureE] at h; exact none_ h
  | call cl =>
    cases hb : cl.callee with
    | builtin b =>
      cases b with
      | len => exact len_ok hC hop hb h
      | min => exact min_ok (mx := false) hop hb h
      | max => exact min_ok (mx := true) hop hb h
      | append => exact append_ok hC hop hb h
      | _ => simp only [memE, hop, hb] at h; exact none_ h
    | _ => simp only [memE, hop, hb] at h; exact none_ h
  | _ => simp only [memE, hop, pureE] at h; exact none_ h

end Go.Ev

/- Texts in a frame of whatever kind: an activation's own, or a round's of a range over a function. -/
namespace Go.Ev

variable {P : Program} {Q : Exit → Act → World → Prop} {a : Act} {w : World}

/-- No fence; frames of round ρ. -/
def wr (ρ : Option Nat) : Fence := { fn := fun _ => True, depth := none, alive := false, round := ρ }

theorem wr_none : wr none = Fence.wide := rfl
theorem room_wr (ρ : Option Nat) (n : Nat) : (wr ρ).room n := fun _ h => by simp [wr] at h

theorem callsIn_wr {ρ : Option Nat} {n : Nat} {f : FuncId} {args : Array Value} {w : World} {R : Ending → World → Prop} : CallsIn (wr ρ) n P f args w R ↔ Calls P f args w R :=
  Iff.trans (by unfold CallsIn; exact Iff.rfl) (callsIn_wide (n := n))

/-- No call that is put off. -/
def noDefer (o : Oper) : Bool := match o.op with
  | .defer _ => false
  | _ => true

theorem op_in {ρ : Option Nat} {o : Oper} {next : Act → World → Prop} (hd : noDefer o = true) (h : o.wp P a w next Q) : o.wpIn (wr ρ) 0 P a w next Q := by
  refine ⟨fun _ _ => trivial, ?_⟩
  have e : o.semAt (wr ρ).round a.eval = execOp a.eval o := Oper.semAt_eq _ _ _ fun c hc => by simp [noDefer, hc] at hd
  rw [e]
  unfold Oper.wp at h
  generalize (execOp a.eval o).run P w = r at *
  cases r with
  | ok x w' =>
    cases x <;> simp only [Oper.upon, Oper.uponIn] at h ⊢ <;> first
      | exact h
      | exact ⟨fun h => by simp [wr] at h, callsIn_wr.2 h⟩
      | exact ⟨fun h => by simp [wr] at h, fun c cs _ => by
          obtain ⟨v, w2, h1, h2⟩ := h c cs
          exact ⟨v, w2, h1, stepsIn_wide.2 h2⟩⟩
      | exact h.elim
  | halt x w' => cases x <;> simp only [Oper.upon, Oper.uponIn] at h ⊢ <;> exact h

theorem wpOp_in {ρ : Option Nat} {ops : Array Oper} (hd : ∀ o ∈ ops.toList, noDefer o = true) (hQ : ¬ LetsOut Q) {i : Nat} {K K' : Act → World → Prop} (hK : ∀ a w, K a w → K' a w) (h : wpOp P ops Q i K a w) : wpOpIn (wr ρ) 0 P ops Q i K' a w := by
  unfold wpOp at h
  unfold wpOpIn
  split
  · rename_i ho
    simp only [ho] at h
    exact hK _ _ h
  · rename_i o ho
    simp only [ho] at h
    have hm : noDefer o = true := hd o (by have := Array.mem_of_getElem? ho; simpa using this)
    split
    · rename_i hw
      simp only [hw, if_true] at h
      rcases h with h | h
      · exact Oper.wpIn_mono hK (op_in hm h)
      · exact (hQ h.2).elim
    · rename_i hw
      simp only [hw] at h
      exact ⟨fun _ _ => trivial, hK _ _ h⟩

theorem wpOps_in {ρ : Option Nat} {ops : Array Oper} (hd : ∀ o ∈ ops.toList, noDefer o = true) (hQ : ¬ LetsOut Q) : ∀ (l : List Nat) (a : Act) (w : World), wpOps P ops Q l a w → wpOpsIn (wr ρ) 0 P ops Q l a w
  | [], _, _, h => h
  | i :: l, a, w, h => by
    rw [wpOps_cons] at h
    rw [wpOpsIn_cons]
    exact wpOp_in hd hQ (fun a w h => wpOps_in hd hQ l a w h) h

theorem wpAny_in {ρ : Option Nat} {ops : Array Oper} {md : Region.Mode} (hd : ∀ o ∈ ops.toList, noDefer o = true) (hQ : ¬ LetsOut Q) : ∀ (n : Nat) (ls : Array Bool) (a : Act) (w : World), wpAny P md ops Q n ls a w → wpAnyIn (wr ρ) 0 P md ops Q n ls a w
  | 0, _, _, _, h => h
  | n + 1, ls, a, w, h => ⟨h.1, fun i hi => wpOp_in hd hQ (fun a w h => wpAny_in hd hQ n _ a w h) (h.2 i hi)⟩

/-- A text's walk, in a frame of round ρ. -/
abbrev _root_.Go.Code.wr (ρ : Option Nat) (P : Program) (c : Code) (Q : Exit → Act → World → Prop) (a : Act) (w : World) : Prop := c.wpIn (Ev.wr ρ) 0 P Q a w

variable {ρ : Option Nat}

theorem wr_mono {c : Code} {Q' : Exit → Act → World → Prop} (h : c.wr ρ P Q a w) (hq : ∀ e a w, Q e a w → Q' e a w) : c.wr ρ P Q' a w := wpIn_mono h hq
theorem wr_skip (h : Q .normal a w) : Code.skip.wr ρ P Q a w := wpIn_skip h
theorem wr_label {l : Nat} (h : Q .normal a w) : (Code.label l).wr ρ P Q a w := wpIn_label h
theorem wr_exit {id : Nat} (h : Q (.exit id) a w) : (Code.exit id).wr ρ P Q a w := wpIn_exit h
theorem wr_ret (h : Q .ret a w) : Code.ret.wr ρ P Q a w := wpIn_ret h
theorem wr_seq {x y : Code} (h : x.wr ρ P (Exit.then (y.wr ρ P Q) Q) a w) : (Code.seq x y).wr ρ P Q a w := wpIn_seq h
theorem wr_cond_true {c : Operand} {x y : Code} (hc : a.eval c = .bool true) (h : x.wr ρ P Q a w) : (Code.cond c x y).wr ρ P Q a w := wpIn_cond_true hc h
theorem wr_cond_false {c : Operand} {x y : Code} (hc : a.eval c = .bool false) (h : y.wr ρ P Q a w) : (Code.cond c x y).wr ρ P Q a w := wpIn_cond_false hc h
theorem wr_block {id : Nat} {c : Code} (h : c.wr ρ P (Exit.inBlock id Q) a w) : (Code.block id c).wr ρ P Q a w := wpIn_block h
theorem wr_region {id : Nat} {ops : Array Oper} (hd : ∀ o ∈ ops.toList, noDefer o = true) (hQ : ¬ LetsOut Q) (h : wpOps P ops Q (List.range ops.size) a w) : (Code.region id ops false).wr ρ P Q a w := wpIn_region (wpOps_in hd hQ _ _ _ h)
theorem wr_region_any {id : Nat} {ops : Array Oper} (hm : P.follows .mixedOrders = true) (hd : ∀ o ∈ ops.toList, noDefer o = true) (hQ : ¬ LetsOut Q)
    (h : wpAny P .any ops Q ops.size (Array.replicate ops.size false) a { w with drawn := w.drawn + 1 }) : (Code.region id ops true).wr ρ P Q a w := wpIn_region_any hm (wpAny_in hd hQ _ _ _ _ h)

/-- A loop in its midst. -/
def LoopRun (ρ : Option Nat) (P : Program) (c : Code) (Q : Exit → Act → World → Prop) (a : Act) (w : World) : Prop :=
  ∀ (b : Frame) (k : List Item) (cs : List Frame), b.roundOf = ρ → ∃ e a' w', Q e a' w' ∧ ArrivesIn (Machine.fenced P Fence.wide) P (lone (b.atR a (.code c :: .inLoop c :: k)) cs w) b k cs e a' w'

theorem calm (fr : Frame) (cs : List Frame) (w : World) : (lone fr cs w).fenced P Fence.wide := fenced_wide P _

theorem LoopRun.start {c : Code} (h : LoopRun ρ P c Q a w) : (Code.loop c).wr ρ P Q a w := by
  intro b k cs hro _ _
  obtain ⟨e, a', w', hq, harr⟩ := h b k cs hro
  exact ⟨e, a', w', hq, .of_steps (.one (calm _ _ _) stepR_loop) harr⟩

theorem LoopRun.round {c : Code} (h : c.wr ρ P (Exit.then (LoopRun ρ P c Q) Q) a w) : LoopRun ρ P c Q a w := by
  intro b k cs hro
  obtain ⟨e, a₁, w₁, hq, harr⟩ := h b (.inLoop c :: k) cs hro trivial (room_wr _ _)
  have harr : ArrivesIn (Machine.fenced P Fence.wide) P (lone (b.atR a (.code c :: .inLoop c :: k)) cs w) b (.inLoop c :: k) cs e a₁ w₁ := harr
  cases e with
  | normal =>
    obtain ⟨e₂, a₂, w₂, hq₂, harr₂⟩ := hq b k cs hro
    exact ⟨e₂, a₂, w₂, hq₂, .of_steps (StepsIn.trans harr (.one (calm _ _ _) stepR_inLoop)) harr₂⟩
  | exit id => exact ⟨_, a₁, w₁, hq, .pass (x := .inLoop c) rfl (fun _ _ => .inl (by simp)) harr⟩
  | goto l => exact ⟨_, a₁, w₁, hq, .pass (x := .inLoop c) rfl (fun _ _ => .inl (by simp)) harr⟩
  | ret => exact ⟨_, a₁, w₁, hq, .pass (x := .inLoop c) rfl (fun _ _ => .inl (by simp)) harr⟩
  | panic ch => exact ⟨_, a₁, w₁, hq, .pass (x := .inLoop c) rfl (fun _ _ => .inl (by simp)) harr⟩
  | outgrown => exact ⟨_, a₁, w₁, hq, .pass (x := .inLoop c) rfl (fun _ _ => .inl (by simp)) harr⟩

end Go.Ev

/- A counted iterator: 'for c := 0; c < K && yield(c); c++ {}': its text, and how it goes. -/
namespace Go.Ev

variable {P : Program}

theorem arr12 (t : Array Value) (h : t.size = 12) : ∃ x0 x1 x2 x3 x4 x5 x6 x7 x8 x9 x10 x11, t = #[x0, x1, x2, x3, x4, x5, x6, x7, x8, x9, x10, x11] := by
  obtain ⟨l⟩ := t
  match l, h with
  | [x0, x1, x2, x3, x4, x5, x6, x7, x8, x9, x10, x11], _ => exact ⟨_, _, _, _, _, _, _, _, _, _, _, _, rfl⟩

theorem run_add1 {tI : Nat} {k : Nat} (hk : k < 1000000) (w : World) : (binOp .add tI (.int .i64 (k : Int)) (.int .i64 1)).run P w = .ok (.int .i64 ((k + 1 : Nat) : Int)) w := by
  have e : IntKind.i64.wrap ((k : Int) + 1) = ((k + 1 : Nat) : Int) := by
    simp only [IntKind.wrap, IntKind.signed, IntKind.bits, Bool.true_and]
    split <;> rename_i h <;> simp only [ge_iff_le, decide_eq_true_eq] at h <;> omega
  simp only [binOp, Op.intArith, ne_eq, not_true, if_false]
  rw [e]
  rfl

theorem run_lss {tI : Nat} {k K : Int} (w : World) : (binOp .lss tI (.int .i64 k) (.int .i64 K)).run P w = .ok (.bool (decide (k < K))) w := by
  simp [binOp, Op.intCmp]

/-- An operation of the pattern. -/
structure OpIs (o : Oper) (d : Nat) (op : Op) (g : Option (Nat × Bool)) : Prop where
  dst : o.dst = some d
  op : o.op = op
  guard : o.guard = g

variable {Q : Exit → Act → World → Prop} {w : World}

/-- The step of the counter. -/
theorem cnt_inc {q0 q1 q2 : Oper} {tI tJ : Nat} (h0 : OpIs q0 10 (.move (.tmp 2)) none) (h1 : OpIs q1 11 (.binOp .add tI (.tmp 10) (.const (.int .i64 1)) tJ) none) (h2 : OpIs q2 2 (.assign (.tmp 11)) none)
    {x0 x1 x3 x4 x5 x6 x7 x8 x9 x10 x11 : Value} {k : Nat} (hk : k < 1000000)
    (h : ∀ y10 y11, Q .normal { tmps := #[x0, x1, .int .i64 ((k + 1 : Nat) : Int), x3, x4, x5, x6, x7, x8, x9, y10, y11], defers := [] } w) :
    wpOpsIn Fence.wide 0 P #[q0, q1, q2] Q [0, 1, 2] { tmps := #[x0, x1, .int .i64 (k : Int), x3, x4, x5, x6, x7, x8, x9, x10, x11], defers := [] } w := by
  have e := run_add1 (P := P) (tI := tI) hk w
  have tr : ∀ f, Fence.wide.fn f = True := fun _ => rfl
  have s0 : Fence.wide.round = none := rfl
  simp [wpOpsIn, Region.wanted, h0.guard, h1.guard, h2.guard, Oper.wpIn, s0, Oper.semAt_none, execOp, h0.op, h1.op, h2.op, h0.dst, h1.dst, h2.dst, Oper.uponIn, Act.eval, Act.put, eqGuard, e, tr]
  exact h _ _

/-- The condition: below K, and yield says 'go on'. -/
theorem cnt_test {p0 p1 p2 p3 p4 p5 p6 : Oper} {tI tJ : Nat} {K : Nat} {ts : Array TypeId} {l : Nat} (h0 : OpIs p0 3 (.move (.tmp 2)) none) (h1 : OpIs p1 4 (.binOp .lss tI (.tmp 3) (.const (.int .i64 (K : Int))) tJ) none) (h2 : OpIs p2 5 (.move (.tmp 4)) none)
    (h3 : OpIs p3 6 (.move (.tmp 0)) (some (2, true))) (h4 : OpIs p4 7 (.move (.tmp 2)) (some (2, true))) (h5 : OpIs p5 8 (.call { callee := .value (.tmp 6), args := #[.tmp 7], argTypes := ts }) (some (2, true))) (h6 : OpIs p6 9 (.pick (.tmp 5) (.tmp 8) (.const (.bool false))) none)
    {x1 x3 x4 x5 x6 x7 x8 x9 x10 x11 : Value} {k : Nat} {I : World → Prop}
    (hy : k < K → YieldAt Fence.wide 0 P l #[.int .i64 (k : Int)] w fun e w' => e = .returned (.bool true) ∧ I w')
    (hgo : k < K → ∀ w' y3 y4 y5 y6 y7 y8, I w' → Q .normal { tmps := #[.func (.yield l) #[] #[], x1, .int .i64 (k : Int), y3, y4, y5, y6, y7, y8, .bool true, x10, x11], defers := [] } w')
    (hend : ¬ k < K → ∀ y3 y4 y5 y6 y7 y8, Q .normal { tmps := #[.func (.yield l) #[] #[], x1, .int .i64 (k : Int), y3, y4, y5, y6, y7, y8, .bool false, x10, x11], defers := [] } w) :
    wpOpsIn Fence.wide 0 P #[p0, p1, p2, p3, p4, p5, p6] Q [0, 1, 2, 3, 4, 5, 6] { tmps := #[.func (.yield l) #[] #[], x1, .int .i64 (k : Int), x3, x4, x5, x6, x7, x8, x9, x10, x11], defers := [] } w := by
  have e := run_lss (P := P) (tI := tI) (k := (k : Int)) (K := (K : Int)) w
  have tr : ∀ f, Fence.wide.fn f = True := fun _ => rfl
  have s0 : Fence.wide.round = none := rfl
  by_cases hk : k < K
  · rw [decide_eq_true (show (k : Int) < (K : Int) by omega)] at e
    obtain ⟨fn, tmps, assign, body, y1, y2⟩ := hy hk
    simp [wpOpsIn, Region.wanted, yielded, h0.guard, h1.guard, h2.guard, h3.guard, h4.guard, h5.guard, h6.guard, Oper.wpIn, s0, Oper.semAt_none, execOp, h0.op, h1.op, h2.op, h3.op, h4.op, h5.op, h6.op, h0.dst, h1.dst, h2.dst, h3.dst, h4.dst, h5.dst, h6.dst, Oper.uponIn, Act.eval, Act.put, eqGuard, e, tr, resolve, invoke, Deferred.ofValue, asBool, y1]
    exact ⟨rfl, y2.mono (by rintro e w' ⟨rfl, hi⟩; exact hgo hk w' _ _ _ _ _ _ hi)⟩
  · rw [decide_eq_false (show ¬ (k : Int) < (K : Int) by omega)] at e
    simp [wpOpsIn, Region.wanted, yielded, h0.guard, h1.guard, h2.guard, h3.guard, h4.guard, h5.guard, h6.guard, Oper.wpIn, s0, Oper.semAt_none, execOp, h0.op, h1.op, h2.op, h3.op, h4.op, h5.op, h6.op, h0.dst, h1.dst, h2.dst, h3.dst, h4.dst, h5.dst, h6.dst, Oper.uponIn, Act.eval, Act.put, eqGuard, e, tr, resolve, invoke, asBool]
    exact hend hk _ _ _ _ _ _

/-- The pattern. -/
def IsCnt (K : Nat) (c : Code) : Prop := ∃ (i0 i1 i2 b0 b1 tI tJ tI' tJ' : Nat) (ts : Array TypeId) (o0 p0 p1 p2 p3 p4 p5 p6 q0 q1 q2 : Oper),
  c = .seq (.region i0 #[o0] false) (.block b0 (.loop (.seq (.seq (.region i1 #[p0, p1, p2, p3, p4, p5, p6] false) (.cond (.tmp 9) .skip (.exit b0))) (.seq (.block b1 .skip) (.region i2 #[q0, q1, q2] false))))) ∧
  OpIs o0 2 (.assign (.const (.int .i64 0))) none ∧ OpIs p0 3 (.move (.tmp 2)) none ∧ OpIs p1 4 (.binOp .lss tI (.tmp 3) (.const (.int .i64 (K : Int))) tJ) none ∧ OpIs p2 5 (.move (.tmp 4)) none ∧
  OpIs p3 6 (.move (.tmp 0)) (some (2, true)) ∧ OpIs p4 7 (.move (.tmp 2)) (some (2, true)) ∧ OpIs p5 8 (.call { callee := .value (.tmp 6), args := #[.tmp 7], argTypes := ts }) (some (2, true)) ∧ OpIs p6 9 (.pick (.tmp 5) (.tmp 8) (.const (.bool false))) none ∧
  OpIs q0 10 (.move (.tmp 2)) none ∧ OpIs q1 11 (.binOp .add tI' (.tmp 10) (.const (.int .i64 1)) tJ') none ∧ OpIs q2 2 (.assign (.tmp 11)) none

def cntAt (a : Act) : Nat := match a.tmps.getD 2 undef with
  | .int _ n => n.toNat
  | _ => 0

/-- How it goes. -/
theorem cnt_wp {K : Nat} (hK : K ≤ 100000) {c : Code} (hc : IsCnt K c) {l : Nat} {I : Nat → World → Prop} (hy : ∀ k w, k < K → I k w → YieldAt Fence.wide 0 P l #[.int .i64 (k : Int)] w fun e w' => e = .returned (.bool true) ∧ I (k + 1) w')
    (hI : I 0 w) {x1 x2 x3 x4 x5 x6 x7 x8 x9 x10 x11 : Value} (hend : ∀ tmps w, I K w → Q .normal { tmps := tmps, defers := [] } w) :
    c.wpIn Fence.wide 0 P Q { tmps := #[.func (.yield l) #[] #[], x1, x2, x3, x4, x5, x6, x7, x8, x9, x10, x11], defers := [] } w := by
  obtain ⟨i0, i1, i2, b0, b1, tI, tJ, tI', tJ', ts, o0, p0, p1, p2, p3, p4, p5, p6, q0, q1, q2, rfl, g0, h0, h1, h2, h3, h4, h5, h6, r0, r1, r2⟩ := hc
  have tr : ∀ f, Fence.wide.fn f = True := fun _ => rfl
  have s0 : Fence.wide.round = none := rfl
  refine wpIn_seq (wpIn_region ?_)
  show wpOpsIn Fence.wide 0 P #[o0] _ [0] _ w
  simp only [wpOpsIn, List.getElem?_toArray, List.getElem?_cons_zero, Region.wanted, g0.guard, if_true, Oper.wpIn, s0, Oper.semAt_none, execOp, g0.op, g0.dst, Act.eval, Sem.run_pure, Oper.uponIn, Act.put, tr, implies_true, true_and]
  refine wpIn_block ?_
  refine wpIn_loop (fun a w => ∃ k x1 x3 x4 x5 x6 x7 x8 x9 x10 x11, k ≤ K ∧ a = { tmps := #[.func (.yield l) #[] #[], x1, .int .i64 ((k : Nat) : Int), x3, x4, x5, x6, x7, x8, x9, x10, x11], defers := [] } ∧ I k w) (fun a _ => K - cntAt a) ⟨0, _, _, _, _, _, _, _, _, _, _, Nat.zero_le _, rfl, hI⟩ ?_
  rintro a w ⟨k, y1, y3, y4, y5, y6, y7, y8, y9, y10, y11, hk, rfl, hi⟩
  refine wpIn_seq (wpIn_seq (wpIn_region ?_))
  refine cnt_test h0 h1 h2 h3 h4 h5 h6 (I := I (k + 1)) (fun h => hy k w h hi) ?_ ?_
  · intro h w' z3 z4 z5 z6 z7 z8 hi'
    refine wpIn_cond_true rfl (wpIn_skip ?_)
    refine wpIn_seq (wpIn_block (wpIn_skip ?_))
    refine wpIn_region ?_
    refine cnt_inc r0 r1 r2 (by omega) fun z10 z11 => ?_
    refine ⟨⟨k + 1, _, _, _, _, _, _, _, _, _, _, h, rfl, hi'⟩, ?_⟩
    simp [cntAt]
    omega
  · intro h z3 z4 z5 z6 z7 z8
    refine wpIn_cond_false rfl (wpIn_exit ?_)
    have e : k = K := by omega
    subst e
    show Exit.inBlock b0 Q (.exit b0) _ _
    simp only [Exit.inBlock, if_true]
    exact hend _ _ hi

/-- The record of a loop. -/
def recOf (a : Act) (w : World) (p : Nat) (assign body : Code) (f : FuncId) (st : LoopState) : Loop := { state := st, pending := none, fn := f, tmps := a.tmps, params := #[p], assign, body, defers := w.heap.size }

/-- A range over a counted iterator. I: between two rounds. -/
theorem range_cnt {K : Nat} (hK : K ≤ 100000) {c : Code} (hc : IsCnt K c) {gf : Nat} {fn : Func} (hf : P.funcs[gf]? = some fn) (hb : fn.body = some c) (hn : fn.ntmps = 12) (hres : ∀ tmps w, ∃ v, (results fn tmps).run P w = .ok v w)
    (eg : ∀ args w, (callFunc gf args).run P w = .ok (.enter gf args) w) {g : Operand} {p : Nat} {assign body : Code} {a : Act} (hg : a.eval g = .func (.func gf) #[] #[])
    (H : ∀ f : FuncId, ∃ I : Nat → World → Prop, I 0 ((w.alloc (.deferred (some []))).alloc (.loop (recOf a w p assign body f .ready))) ∧
      (∀ k W, I k W → W.heap[w.heap.size + 1]? = some (.loop (recOf a w p assign body f .ready))) ∧
      (∀ k W, k < K → I k W → RoundIn Fence.wide 0 P (w.heap.size + 1) f (a.tmps.setIfInBounds p (.int .i64 (k : Int))) assign body W fun e W' => e = .returned (.bool true) ∧ I (k + 1) W') ∧
      (∀ W, I K W → Q .normal { a with defers := { target := .collected w.heap.size, args := #[] } :: a.defers } (W.putObj (w.heap.size + 1) (.loop (recOf a w p assign body f .exhausted))))) :
    (Code.rangeFunc g #[p] assign body).wpIn Fence.wide 0 P Q a w := by
  refine wpIn_rangeFunc ?_
  intro f hfn
  obtain ⟨I, h0, h1, h2, h3⟩ := H f
  let W1 : World := (w.alloc (.deferred (some []))).alloc (.loop (recOf a w p assign body f .ready))
  refine ⟨w.heap.size + 1, [{ target := .collected w.heap.size, args := #[] }], W1, { target := .fn (.func gf) #[], args := #[.func (.yield (w.heap.size + 1)) #[] #[]] }, W1, gf,
    #[.func (.yield (w.heap.size + 1)) #[] #[]] ++ #[], W1, run_enterLoop_outer _ _ _ _ _, ?_, fun _ _ => trivial, ?_, fun h => by simp [Fence.wide] at h, ?_⟩
  · simp only [resolve, hg]
    simp [go_sem]
  · simp [invoke, go_sem, eg]
  · refine callsIn_of_wp hf hb trivial ?_
    rw [hn]
    refine cnt_wp hK hc (l := w.heap.size + 1) (I := I) ?_ h0 ?_
    · intro k W hk hi
      have hy := run_yield (P := P) (args := #[.int .i64 (k : Int)]) (h1 k W hi) rfl
      have e : (((recOf a w p assign body f .ready).params.zip #[Value.int .i64 (k : Int)]).foldl (fun tmps (t, a) => tmps.setIfInBounds t a) (recOf a w p assign body f .ready).tmps) = a.tmps.setIfInBounds p (.int .i64 (k : Int)) := by
        simp [recOf]
      refine ⟨_, _, _, _, hy, ?_⟩
      rw [e]
      exact h2 k W hk hi
    · intro tmps W hi
      obtain ⟨v, hv⟩ := hres tmps W
      refine ⟨rfl, v, hv, ?_⟩
      have he := run_endLoop (P := P) (h1 K W hi) (by simp [recOf])
      exact ⟨none, _, he, h3 W hi⟩

end Go.Ev

/- Another numbering of blocks. -/
namespace Go.Ev

/-- One moment, told in two numberings. -/
structure Sim (X Y : Cx) (ok : Nat → Nat → Bool) (sh : Nat) (m : List (Nat × Nat)) : Prop where
  w : Y.w = X.w
  cm : ∀ b b' cb, look b m = some b' → X.cm b = some cb → Y.cm b' = some cb
  reg : ∀ p p', pvR sh m p = some p' → (∀ b v, p ≠ .ver b v) → ∀ g, X.Sof p g → Y.Sof p' g
  okv : ∀ b v, ok b v = true → valid X.s (.ver b v) = true
  row : ∀ b b' v K l ro, ok b v = true → look b m = some b' → look b X.s.st = some (.cell ro v [.rw K l]) → ∃ ro', look b' Y.s.st = some (.cell ro' 0 [.rw K l])

variable {X Y : Cx} {ok : Nat → Nat → Bool} {sh : Nat} {m : List (Nat × Nat)}

theorem Sim.keep (S : Sim X Y ok sh m) : ∀ g, X.S none g → Y.S none g ∧ Y.w.heap[g]? = X.w.heap[g]? := fun g hg => by
  refine ⟨S.reg .frz .frz ?_ (fun b v e => by cases e) g hg, by rw [S.w]⟩
  match sh with
  | 0 => rfl
  | 1 => rfl
  | n + 2 => rfl

theorem mapM_nil {α β : Type} {f : α → Option β} {qs : List β} (h : ([] : List α).mapM f = some qs) : qs = [] := by
  simp at h; exact h

theorem mapM_cons {α β : Type} {f : α → Option β} {a : α} {r : List α} {qs : List β} (h : (a :: r).mapM f = some qs) : ∃ b bs, f a = some b ∧ r.mapM f = some bs ∧ qs = b :: bs := by
  rw [List.mapM_cons] at h
  cases h1 : f a with
  | none => rw [h1] at h; simp at h
  | some b =>
    rw [h1] at h
    simp only [Option.bind_eq_bind, Option.bind_some] at h
    cases h2 : r.mapM f with
    | none => rw [h2] at h; simp at h
    | some bs =>
      rw [h2] at h
      simp at h
      exact ⟨b, bs, rfl, rfl, h.symm⟩

theorem gd {t : Bool} {k : Option AV} {a' : AV} (h : (bif t then k else some .un) = some a') : a' = .un ∨ (t = true ∧ k = some a') := by
  cases t
  · simp at h; exact .inl h.symm
  · exact .inr ⟨rfl, h⟩

theorem ren_plain {n : Nat} {a a' : AV} (h : ren ok sh m n a = some a') (ha : a.plain = true) : a'.plain = true := by
  cases n with
  | zero => simp [ren] at h
  | succ n =>
    by_cases ht : ∃ q t, a = .tr q t
    · obtain ⟨q, t, rfl⟩ := ht
      simp only [ren] at h
      cases hq : notVer q <;> rw [hq] at h <;> simp only [cond_true, cond_false] at h
      · cases h
      · split at h
        · cases h; rfl
        · cases h
    cases a <;> (try exact (ht ⟨_, _, rfl⟩).elim) <;> simp only [ren] at h <;> (try (simp [AV.plain] at ha; done)) <;>
      first
        | (simp only [Option.some.injEq] at h; subst h; rfl)
        | (rcases gd h with rfl | ⟨_, h⟩
           · rfl
           · (repeat' split at h) <;> first | (cases h; done) | (cases h; rfl))
        | (split at h
           · first
              | (cases h; rfl)
              | (rcases gd h with rfl | ⟨_, h⟩
                 · rfl
                 · (repeat' split at h) <;> first | (cases h; done) | (cases h; rfl))
           · cases h)

theorem PRs_ren {n : Nat} (hw : ∀ g, X.S none g → Y.S none g ∧ Y.w.heap[g]? = X.w.heap[g]?) (ih' : Y.w = X.w) (ih : ∀ a v a', VRel X a v → ren ok sh m n a = some a' → VRel Y a' v) : ∀ {ps qs : List AV} {cs : List Value} {fp : List Nat}, PRs X ps cs fp → ps.mapM (ren ok sh m n) = some qs → (∀ a ∈ ps, a.norw = true) →
    PRs Y qs cs fp ∧ ∀ a ∈ qs, a.norw = true
  | _, qs, _, _, .nil, h, _ => by rw [mapM_nil h]; exact ⟨.nil, by simp⟩
  | _, qs, _, _, .one h1 h2 h3 h4, h, hn => by
    obtain ⟨b, bs, e1, e2, rfl⟩ := mapM_cons h
    obtain ⟨k1, k2⟩ := PRs_ren hw ih' ih h4 e2 (fun a ha => hn a (by simp [ha]))
    have hp := ren_plain e1 h1
    refine ⟨.one hp h2 (ih _ _ _ h3 e1) k1, ?_⟩
    intro a ha
    rcases List.mem_cons.1 ha with rfl | ha
    · cases a <;> first | rfl | simp [AV.plain] at hp
    · exact k2 a ha
  | _, qs, _, _, .arr h1 h2 h3, h, hn => by
    obtain ⟨b, bs, e1, e2, rfl⟩ := mapM_cons h
    obtain ⟨k1, k2⟩ := PRs_ren hw ih' ih h3 e2 (fun a ha => hn a (by simp [ha]))
    cases n with
    | zero => simp [ren] at e1
    | succ n =>
      simp only [ren, Option.some.injEq] at e1
      subst e1
      refine ⟨.arr h1 (h2.move hw fun g _ => by rw [ih']) k1, ?_⟩
      intro a ha
      rcases List.mem_cons.1 ha with rfl | ha
      · rfl
      · exact k2 a ha
  | _, qs, _, _, .nl h1 h3, h, hn => by
    obtain ⟨b, bs, e1, e2, rfl⟩ := mapM_cons h
    obtain ⟨k1, k2⟩ := PRs_ren hw ih' ih h3 e2 (fun a ha => hn a (by simp [ha]))
    cases n with
    | zero => simp [ren] at e1
    | succ n =>
      simp only [ren, Option.some.injEq] at e1
      subst e1
      refine ⟨.nl (h1.move hw fun g _ => by rw [ih']) k1, ?_⟩
      intro a ha
      rcases List.mem_cons.1 ha with rfl | ha
      · rfl
      · exact k2 a ha
  | _, qs, _, _, .rw h2 h3, h, hn => by
    have := hn _ (List.mem_cons_self ..)
    simp [AV.norw] at this

theorem VRels_ren {n : Nat} (ih : ∀ a v a', VRel X a v → ren ok sh m n a = some a' → VRel Y a' v) : ∀ {ps qs : List AV} {vs : List Value}, VRels X ps vs → ps.mapM (ren ok sh m n) = some qs → VRels Y qs vs
  | _, qs, _, .nil, h => by rw [mapM_nil h]; exact .nil
  | _, qs, _, .cons h1 h2, h => by
    obtain ⟨b, bs, e1, e2, rfl⟩ := mapM_cons h
    exact .cons (ih _ _ _ h1 e1) (VRels_ren ih h2 e2)

theorem Sim.at (S : Sim X Y ok sh m) {b b' v i f : Nat} {K : Ki} {l : List K.den} {u : Value} (ho : ok b v = true) (hb : look b m = some b') (h : At X b i f K l u) : At Y b' i f K l u := by
  obtain ⟨g, og, n, c, sz, fp, K0, l0, ver, ro, h1, h2, h3, h4, h5, h6⟩ := h
  obtain ⟨ro2, K2, l2, k1, _⟩ := valid_ver (S.okv b v ho)
  rw [h2] at k1
  cases k1
  obtain ⟨ro', k2⟩ := S.row b b' v _ _ ro ho hb h2
  exact ⟨g, og, n, c, sz, fp, K0, l0, 0, ro', S.cm b b' _ hb h1, k2, h3, h4, h5, by rw [S.w]; exact h6⟩

theorem Sim.kn (S : Sim X Y ok sh m) {b b' v : Nat} (hb : look b m = some b') (h : Kn X (.ver b v)) : Kn Y (.ver b' 0) := by
  obtain ⟨cb, h1, _⟩ := h
  exact ⟨cb, S.cm b b' cb hb h1, fun _ _ _ _ => Nat.zero_le _⟩

/-- A place that is still good, in the other numbering. -/
theorem Sim.pv (S : Sim X Y ok sh m) {p p' : Prov} (hg : (match p with | .ver b v => ok b v | _ => true) = true) (hp : pvR sh m p = some p') (hk : Kn X p) : valid X.s p = true ∧ Kn Y p' ∧ (∀ g, X.Sof p g → Y.Sof p' g) ∧ ((∀ b v, p ≠ .ver b v) → ∀ b v, p' ≠ .ver b v) := by
  cases p with
  | frz =>
    have e : p' = .frz := by
      unfold pvR shiftP at hp
      split at hp <;> first | (simp at hp; exact hp.symm) | (simp at hp)
    subst e
    exact ⟨rfl, trivial, S.reg _ _ hp (by simp), by simp⟩
  | reg n =>
    have e : ∃ k, p' = .reg k := by
      unfold pvR shiftP at hp
      split at hp
      · simp at hp; exact ⟨_, hp.symm⟩
      · simp at hp; exact ⟨_, hp.symm⟩
      · simp only [cond_false] at hp
        cases n with
        | zero => simp at hp
        | succ n => simp at hp; exact ⟨_, hp.symm⟩
    obtain ⟨k, rfl⟩ := e
    exact ⟨rfl, trivial, S.reg _ _ hp (by simp), by simp⟩
  | ver b v =>
    simp only at hg
    have e : ∃ b', look b m = some b' ∧ p' = .ver b' 0 := by
      unfold pvR shiftP at hp
      split at hp
      · simp only at hp
        split at hp
        · rename_i b' hb; cases hp; exact ⟨b', hb, rfl⟩
        · cases hp
      · simp at hp
      · simp at hp
    obtain ⟨b', hb, rfl⟩ := e
    refine ⟨S.okv b v hg, S.kn hb hk, ?_, fun h => (h b v rfl).elim⟩
    rintro g ⟨cb, hc, hgm⟩
    exact ⟨cb, S.cm b b' cb hb hc, hgm⟩

theorem RoRow_w {S S' : Nat → Prop} {K : Ki} {l : List K.den} {cs : List Value} (hw : Y.w = X.w) (hS : ∀ g, S g → S' g) (h : RowR (Rep X.w S K false) l cs []) : RowR (Rep Y.w S' K false) l cs [] :=
  RoRow_move h fun g hg => ⟨hS g hg, by rw [hw]⟩

theorem ren_ok (S : Sim X Y ok sh m) : ∀ {n : Nat} {a a' : AV} {v : Value}, VRel X a v → ren ok sh m n a = some a' → VRel Y a' v
  | 0, _, _, _, _, h => by simp [ren] at h
  | n + 1, a, a', v, hv, h => by
    have ih : ∀ a v a', VRel X a v → ren ok sh m n a = some a' → VRel Y a' v := fun a v a' hv h => ren_ok S hv h
    cases hv with
    | un => simp only [ren, Option.some.injEq] at h; subst h; exact .un _
    | bool => simp only [ren, Option.some.injEq] at h; subst h; exact .bool _
    | int => simp only [ren, Option.some.injEq] at h; subst h; exact .int _ _
    | str => simp only [ren, Option.some.injEq] at h; subst h; exact .str _
    | nils => simp only [ren, Option.some.injEq] at h; subst h; exact .nils
    | nz => simp only [ren, Option.some.injEq] at h; subst h; exact .nz _
    | nilp => simp only [ren, Option.some.injEq] at h; subst h; exact .nilp
    | nilf => simp only [ren, Option.some.injEq] at h; subst h; exact .nilf
    | nili => simp only [ren, Option.some.injEq] at h; subst h; exact .nili
    | nilm => simp only [ren, Option.some.injEq] at h; subst h; exact .nilm
    | @tr q t _ hq ht =>
      simp only [ren] at h
      cases hv : notVer q <;> rw [hv] at h <;> simp only [cond_true, cond_false] at h
      · cases h
      split at h
      case h_2 => cases h
      rename_i p' hp'
      cases h
      refine .tr ?_ (ht.move fun g hg => ⟨S.reg _ _ hp' hq g hg, by rw [S.w]⟩)
      rintro b v0 rfl
      cases q with
      | ver b v => exact (hq b v rfl).elim
      | _ => simp only [pvR] at hp'; (split at hp' <;> simp [shiftP] at hp' <;> (try split at hp') <;> simp at hp')
    | arr hl hr => simp only [ren, Option.some.injEq] at h; subst h; exact .arr hl (hr.move S.keep fun g _ => by rw [S.w])
    | sl e =>
      simp only [ren] at h
      split at h
      case h_2 => cases h
      rename_i b' hb
      cases h
      exact .sl (S.cm _ _ _ hb e)
    | ss0 e ho =>
      simp only [ren] at h
      split at h
      case h_2 => cases h
      rename_i b' hb
      cases h
      exact .ss0 (S.cm _ _ _ hb e) ho
    | ss e h1 h2 h3 =>
      simp only [ren] at h
      split at h
      case h_2 => cases h
      rename_i b' hb
      cases h
      exact .ss (S.cm _ _ _ hb e) h1 h2 h3
    | mp e =>
      simp only [ren] at h
      split at h
      case h_2 => cases h
      rename_i b' hb
      cases h
      exact .mp (S.cm _ _ _ hb e)
    | pb e hb hp hn =>
      simp only [ren] at h
      split at h
      case h_2 => cases h
      rename_i b' hb'
      cases h
      exact .pb (S.cm _ _ _ hb' e) hb hp hn
    | ro h1 h2 hk hr =>
      simp only [ren] at h
      rcases gd h with rfl | ⟨hg, h⟩
      · exact .un _
      split at h
      case h_2 => cases h
      rename_i p' hp
      cases h
      obtain ⟨k1, k2, k3, _⟩ := S.pv hg hp hk
      exact .ro h1 h2 k2 fun _ => RoS_imp (hr k1) (fun g hg => ⟨k3 g hg, by rw [S.w]⟩) fun cs hc => RoRow_w S.w k3 hc
    | vw h1 h2 hk hr =>
      rename_i b v i f K l A c
      simp only [ren] at h
      split at h
      case h_2 => cases h
      rcases gd h with rfl | ⟨hg, h⟩
      · exact .un _
      split at h
      case h_2 => cases h
      rename_i b' hb
      cases h
      exact .vw h1 h2 (S.kn hb hk) fun _ => S.at hg hb (hr (S.okv _ _ hg))
    | pn hn hp hk hr =>
      rename_i b v i f K l p g og
      simp only [ren] at h
      split at h
      case h_2 => cases h
      rcases gd h with rfl | ⟨hg, h⟩
      · exact .un _
      split at h
      case h_2 => cases h
      rename_i b' hb
      cases h
      refine .pn hn hp (S.kn hb hk) fun _ => ?_
      obtain ⟨n', c', ha⟩ := hr (S.okv _ _ hg)
      exact ⟨n', c', S.at hg hb ha⟩
    | po hn hp hk hr =>
      simp only [ren] at h
      rcases gd h with rfl | ⟨hg, h⟩
      · exact .un _
      split at h
      case h_2 => cases h
      rename_i p' hp'
      cases h
      obtain ⟨k1, k2, k3, _⟩ := S.pv hg hp' hk
      refine .po hn hp k2 fun _ => ?_
      obtain ⟨cur, t, fr, q1, q2, q3, q4⟩ := hr k1
      exact ⟨cur, t, fr, k3 _ q1, by rw [S.w]; exact q2, q3, RoRow_w S.w k3 q4⟩
    | @pr q ps o p g og cur t fr nn h1 h2 h3 h4 h5 h6 h7 =>
      simp only [ren] at h
      rcases gd h with rfl | ⟨hg, h⟩
      · exact .un _
      split at h
      case h_2 => cases h
      rename_i p' hp'
      split at h
      case h_2 => cases h
      rename_i qs hqs
      cases h
      have hk : Kn X q := by cases q with
        | frz => trivial
        | reg => trivial
        | ver b v => exact (h6 b v rfl).elim
      obtain ⟨k1, k2, k3, k4⟩ := S.pv (by cases q with
        | frz => rfl
        | reg => rfl
        | ver b v => exact (h6 b v rfl).elim) hp' hk
      obtain ⟨q1, q2⟩ := PRs_ren S.keep S.w ih h4 hqs h5
      exact .pr (k3 _ h1) (by rw [S.w]; exact h2) h3 q1 q2 (k4 h6) h7
    | agg hp hn =>
      simp only [ren] at h
      split at h
      case h_2 => cases h
      rename_i qs hqs
      cases h
      obtain ⟨q1, q2⟩ := PRs_ren S.keep S.w ih hp hqs hn
      exact .agg q1 q2
    | fn hp =>
      simp only [ren] at h
      split at h
      case h_2 => cases h
      rename_i qs hqs
      cases h
      exact .fn (VRels_ren ih hp hqs)
    | tup hp =>
      simp only [ren] at h
      split at h
      case h_2 => cases h
      rename_i qs hqs
      cases h
      exact .tup (VRels_ren ih hp hqs)
    | ifc hv =>
      simp only [ren] at h
      split at h
      case h_2 => cases h
      rename_i x hx
      cases h
      exact .ifc (ren_ok S hv hx)

theorem renB_ok (S : Sim X Y ok sh m) {x y : Blk} {cb : CB} (h : BRel X cb x) (hy : renB ok sh m x = some y) : BRel Y cb y := by
  cases h with
  | box h1 h2 h3 =>
    simp only [renB] at hy
    split at hy
    case h_2 => cases hy
    rename_i qs hqs
    cases hy
    obtain ⟨q1, q2⟩ := PRs_ren S.keep S.w (fun a v a' hv h => ren_ok S hv h) h3 hqs h1
    exact .box q2 (S.w ▸ h2) q1
  | row h1 h2 h3 =>
    simp only [renB] at hy
    split at hy
    case h_2 => cases hy
    rename_i qs hqs
    cases hy
    obtain ⟨b, bs, e1, e2, rfl⟩ := mapM_cons hqs
    rw [mapM_nil e2]
    simp only [ren, Option.some.injEq] at e1
    subst e1
    exact .row h1 h2 (h3.move S.keep fun g _ => by rw [S.w])
  | map h1 h2 =>
    simp only [renB] at hy
    cases hy
    exact .map (S.w ▸ h1) h2
  | bld h1 =>
    simp only [renB] at hy
    cases hy
    exact .bld (S.w ▸ h1)
  | iter h1 h2 h3 h4 h5 =>
    simp only [renB] at hy
    split at hy
    case h_2 => cases hy
    rename_i b' hb'
    cases hy
    exact .iter (S.cm _ _ _ hb' h1) (S.w ▸ h2) h3 h4 h5

end Go.Ev

/- What is lent. -/
namespace Go.Ev

/-- The heap's blocks of the blocks that are handed over. -/
def Given (X : Cx) (hs : List Nat) (g : Nat) : Prop := ∃ b x cb, b ∈ hs ∧ look b X.s.st = some x ∧ X.cm b = some cb ∧ g ∈ cb.fp

/-- Another frame of the same moment, that may read all that is not handed over. -/
structure Lends (E : Env) (X Y : Cx) (hs : List Nat) : Prop where
  rel : Rel E X
  w : Y.w = X.w
  S : ∀ g, g < X.w.heap.size → ¬ Given X hs g → Y.Sof (.reg 0) g
  Z : ∀ g, X.S none g → Y.S none g
  R : ∀ n g, X.S (some n) g → Y.Sof (.reg 1) g

variable {E : Env} {X Y : Cx} {hs : List Nat}

theorem Lends.keep (L : Lends E X Y hs) : ∀ g, X.S none g → Y.S none g ∧ Y.w.heap[g]? = X.w.heap[g]? := fun g hg => ⟨L.Z g hg, by rw [L.w]⟩

theorem Lends.own (L : Lends E X Y hs) {b : Nat} {x : Blk} {cb : CB} {g : Nat} (hb : memN b hs = false) (hl : look b X.s.st = some x) (hc : X.cm b = some cb) (hg : g ∈ cb.fp) : Y.Sof (.reg 0) g := by
  obtain ⟨cb', h1, _, _, h4⟩ := L.rel.blk b x hl
  rw [hc] at h1
  cases h1
  refine L.S g (h4 g hg).1 ?_
  rintro ⟨b', x', cb', m1, m2, m3, m4⟩
  have := L.rel.dis b b' x x' cb cb' g hl m2 hc m3 hg m4
  subst this
  rw [memN_iff.2 m1] at hb
  cases hb

/-- What a place that is still good and not handed over covers. -/
theorem Lends.sof (L : Lends E X Y hs) {p : Prov} (hv : valid X.s p = true) (hm : ∀ b v, p = .ver b v → memN b hs = false) : ∀ g, X.Sof p g → Y.Sof (lentP p) g := by
  intro g hg
  cases p with
  | frz => exact L.Z g hg
  | reg n =>
    rcases hg with ⟨m, _, hg⟩ | hg
    · exact L.R m g hg
    · exact .inr (L.Z g hg)
  | ver b v =>
    obtain ⟨ro, K, l, hl, _⟩ := valid_ver hv
    obtain ⟨cb, hc, hgm⟩ := hg
    exact L.own (hm b v rfl) hl hc hgm

theorem Lends.live (L : Lends E X Y hs) {p : Prov} (h : liveP X.s hs p = true) : valid X.s p = true ∧ ∀ g, X.Sof p g → Y.Sof (lentP p) g := by
  have hv : valid X.s p = true := by
    cases p with
    | frz => rfl
    | reg => rfl
    | ver b v => simp only [liveP, Bool.and_eq_true] at h; exact h.1
  refine ⟨hv, L.sof hv ?_⟩
  rintro b v rfl
  simp only [liveP, Bool.and_eq_true, Bool.not_eq_true'] at h
  exact h.2

theorem Kn_lent (Y : Cx) (p : Prov) : Kn Y (lentP p) := by cases p <;> trivial
theorem lent_notVer (p : Prov) : ∀ b v0, lentP p ≠ .ver b v0 := by cases p <;> simp [lentP]
theorem lent_valid (s : St) (p : Prov) : valid s (lentP p) = true := by cases p <;> rfl

theorem Lends.ro (L : Lends E X Y hs) {K : Ki} {l : List K.den} {n : Nat} {A : Option Addr} {c : Nat} {fp : List Nat} (hn : n = l.length) (h : OwnS X.w K.size n (OwnRow X.w (X.S none) K l) (.slice A n c) fp) (hp : ∀ g ∈ fp, Y.Sof (.reg 0) g) : VRel Y (.ro (.reg 0) K l) (.slice A n c) := by
  subst hn
  obtain ⟨k1, k2, k3⟩ := h.ro (S := Y.Sof (.reg 0)) rfl hp
  exact .ro k1 k2 trivial fun _ => L.w ▸ k3

theorem snapL_cons {f : AV → Option (AV × List Nat)} {p : AV} {r : List AV} {qs : List AV} {l : List Nat} (h : snap.snapL f (p :: r) = some (qs, l)) : ∃ x l1 y l2, f p = some (x, l1) ∧ snap.snapL f r = some (y, l2) ∧ qs = x :: y ∧ l = l1 ++ l2 := by
  simp only [snap.snapL] at h
  split at h
  case h_2 => cases h
  rename_i x l1 h1
  split at h
  case h_2 => cases h
  rename_i y l2 h2
  cases h
  exact ⟨x, l1, y, l2, h1, h2, rfl, rfl⟩

theorem snapP_ok (L : Lends E X Y hs) : ∀ {ps qs : List AV} {l : List Nat} {cs : List Value} {fp : List Nat}, PRs X ps cs fp → (∀ g ∈ fp, Y.Sof (.reg 0) g) → snap.snapL snap.snapP ps = some (qs, l) → PRs Y qs cs [] ∧ ∀ a ∈ qs, a.norw = true
  | _, qs, l, _, _, .nil, _, h => by
    simp only [snap.snapL, Option.some.injEq, Prod.mk.injEq] at h
    rw [← h.1]
    exact ⟨.nil, by simp⟩
  | _, qs, l, _, _, @PRs.one _ a v r cs fp h1 h2 h3 h4, hf, h => by
    obtain ⟨x, l1, y, l2, e1, e2, rfl, rfl⟩ := snapL_cons h
    obtain ⟨k1, k2⟩ := snapP_ok L h4 hf e2
    have key : VRel Y x v ∧ x.plain = true := by
      cases h3 <;> simp only [snap.snapP] at e1 <;> first
        | (cases e1; done)
        | (cases e1; exact ⟨.bool _, rfl⟩)
        | (cases e1; exact ⟨.int _ _, rfl⟩)
        | (cases e1; exact ⟨.str _, rfl⟩)
        | (simp [AV.plain] at h1)
    refine ⟨.one key.2 h2 key.1 k1, ?_⟩
    intro z hz
    rcases List.mem_cons.1 hz with rfl | hz
    · have := key.2
      cases z <;> first | rfl | simp [AV.plain] at this
    · exact k2 z hz
  | _, qs, l, _, _, .arr h1 h2 h3, hf, h => by
    obtain ⟨x, l1, y, l2, e1, e2, rfl, rfl⟩ := snapL_cons h
    obtain ⟨k1, k2⟩ := snapP_ok L h3 (fun g hg => hf g (by simp [hg])) e2
    simp only [snap.snapP] at e1
    rename_i K _ _ _ _ _ _
    cases hn : K.nest <;> rw [hn] at e1 <;> simp only [cond_true, cond_false] at e1
    · cases e1
      have := RowR_nest hn h2
      subst this
      refine ⟨.arr h1 (h2.move L.keep fun g _ => by rw [L.w]) k1, ?_⟩
      intro z hz
      rcases List.mem_cons.1 hz with rfl | hz
      · rfl
      · exact k2 z hz
    · cases e1
  | _, qs, l, _, _, @PRs.nl _ K ll v r cs f1 fp h1 h3, hf, h => by
    obtain ⟨x, l1, y, l2, e1, e2, rfl, rfl⟩ := snapL_cons h
    obtain ⟨k1, k2⟩ := snapP_ok L h3 (fun g hg => hf g (by simp [hg])) e2
    simp only [snap.snapP, Option.some.injEq, Prod.mk.injEq] at e1
    obtain ⟨rfl, rfl⟩ := e1
    obtain ⟨A, c, rfl, hA⟩ := h1
    refine ⟨.one rfl rfl (L.ro rfl ⟨A, c, rfl, hA⟩ fun g hg => hf g (by simp [hg])) k1, ?_⟩
    intro z hz
    rcases List.mem_cons.1 hz with rfl | hz
    · rfl
    · exact k2 z hz
  | _, qs, l, _, _, .rw h2 h3, hf, h => by
    obtain ⟨x, l1, y, l2, e1, e2, rfl, rfl⟩ := snapL_cons h
    simp [snap.snapP] at e1

theorem snap_plain {s : St} {n : Nat} {a a' : AV} {r : List Nat} (h : snap s hs n a = some (a', r)) (ha : a.plain = true) : a'.plain = true := by
  cases n with
  | zero => simp [snap] at h
  | succ n =>
    unfold snap at h
    cases a <;> simp only at h <;> (try (simp [AV.plain] at ha; done)) <;> (repeat' split at h) <;>
      first
        | contradiction
        | (cases h; done)
        | (cases h; rfl)
        | (obtain ⟨_, h⟩ := chk_some h; (repeat' split at h) <;> first | (cases h; done) | (cases h; rfl))

end Go.Ev

/- What is lent: each value. -/
namespace Go.Ev

variable {E : Env} {X Y : Cx} {hs : List Nat}

theorem snapL_ok (L : Lends E X Y hs) {n : Nat} (ih : ∀ a v a' r, VRel X a v → snap X.s hs n a = some (a', r) → VRel Y a' v) :
    ∀ {ps qs : List AV} {l : List Nat} {cs : List Value} {fp : List Nat}, PRs X ps cs fp → (fp = [] ∨ snap.hasRow ps = false) → snap.snapL (snap X.s hs n) ps = some (qs, l) → PRs Y qs cs [] ∧ ∀ a ∈ qs, a.norw = true
  | _, qs, l, _, _, .nil, _, h => by
    simp only [snap.snapL, Option.some.injEq, Prod.mk.injEq] at h
    rw [← h.1]
    exact ⟨.nil, by simp⟩
  | _, qs, l, _, _, @PRs.one _ a v r cs fp h1 h2 h3 h4, hf, h => by
    obtain ⟨x, l1, y, l2, e1, e2, rfl, rfl⟩ := snapL_cons h
    obtain ⟨k1, k2⟩ := snapL_ok L ih h4 (hf.imp id fun hr => by cases a <;> first | exact hr | simp [AV.plain] at h1) e2
    have hp := snap_plain e1 h1
    refine ⟨.one hp h2 (ih _ _ _ _ h3 e1) k1, ?_⟩
    intro z hz
    rcases List.mem_cons.1 hz with rfl | hz
    · cases z <;> first | rfl | simp [AV.plain] at hp
    · exact k2 z hz
  | _, qs, l, _, _, @PRs.arr _ m K ll r c1 cs f1 fp h1 h2 h3, hf, h => by
    obtain ⟨x, l1, y, l2, e1, e2, rfl, rfl⟩ := snapL_cons h
    have hf1 : f1 = [] := by
      rcases hf with hf | hf
      · exact (List.append_eq_nil_iff.1 hf).1
      · simp only [snap.hasRow, Bool.or_eq_false_iff] at hf
        exact RowR_nest hf.1 h2
    obtain ⟨k1, k2⟩ := snapL_ok L ih h3 (hf.imp (fun hf => (List.append_eq_nil_iff.1 hf).2) fun hr => by simp only [snap.hasRow, Bool.or_eq_false_iff] at hr; exact hr.2) e2
    subst hf1
    cases n with
    | zero => simp [snap] at e1
    | succ n =>
      simp only [snap, Option.some.injEq, Prod.mk.injEq] at e1
      obtain ⟨rfl, rfl⟩ := e1
      refine ⟨.arr h1 (h2.move L.keep fun g _ => by rw [L.w]) k1, ?_⟩
      intro z hz
      rcases List.mem_cons.1 hz with rfl | hz
      · rfl
      · exact k2 z hz
  | _, qs, l, _, _, .nl h1 h3, hf, h => by
    obtain ⟨x, l1, y, l2, e1, e2, rfl, rfl⟩ := snapL_cons h
    cases n <;> simp [snap] at e1
  | _, qs, l, _, _, .rw h2 h3, hf, h => by
    obtain ⟨x, l1, y, l2, e1, e2, rfl, rfl⟩ := snapL_cons h
    cases n <;> simp [snap] at e1

theorem snap_ok (L : Lends E X Y hs) : ∀ {n : Nat} {a a' : AV} {v : Value} {r : List Nat}, VRel X a v → snap X.s hs n a = some (a', r) → VRel Y a' v
  | 0, _, _, _, _, _, h => by simp [snap] at h
  | n + 1, a, a', v, r, hv, h => by
    have ih : ∀ a v a' r, VRel X a v → snap X.s hs n a = some (a', r) → VRel Y a' v := fun a v a' r hv h => snap_ok L hv h
    cases hv with
    | un => simp only [snap, Option.some.injEq, Prod.mk.injEq] at h; rw [← h.1]; exact .un _
    | bool => simp only [snap, Option.some.injEq, Prod.mk.injEq] at h; rw [← h.1]; exact .bool _
    | int => simp only [snap, Option.some.injEq, Prod.mk.injEq] at h; rw [← h.1]; exact .int _ _
    | str => simp only [snap, Option.some.injEq, Prod.mk.injEq] at h; rw [← h.1]; exact .str _
    | nils => simp only [snap, Option.some.injEq, Prod.mk.injEq] at h; rw [← h.1]; exact .nils
    | nilp => simp only [snap, Option.some.injEq, Prod.mk.injEq] at h; rw [← h.1]; exact .nilp
    | nilf => simp only [snap, Option.some.injEq, Prod.mk.injEq] at h; rw [← h.1]; exact .nilf
    | nili => simp only [snap, Option.some.injEq, Prod.mk.injEq] at h; rw [← h.1]; exact .nili
    | nilm => simp only [snap, Option.some.injEq, Prod.mk.injEq] at h; rw [← h.1]; exact .nilm
    | arr hl hr => simp only [snap, Option.some.injEq, Prod.mk.injEq] at h; rw [← h.1]; exact .arr hl (hr.move L.keep fun g _ => by rw [L.w])
    | nz K =>
      simp only [snap, Option.some.injEq, Prod.mk.injEq] at h
      rw [← h.1]
      exact .ro (Nat.le_refl _) (.inl rfl) trivial fun _ => ⟨none, 0, rfl, Nat.le_refl _, .inl rfl⟩
    | sl hc =>
      simp only [snap] at h
      split at h
      case h_2 => cases h
      rename_i K l hrow
      obtain ⟨h1, h2⟩ := chk_some h
      simp only [Option.some.injEq, Prod.mk.injEq] at h2
      rw [← h2.1]
      obtain ⟨ro, ver, K', l', hl, e⟩ := rowOf_some hrow
      cases e
      obtain ⟨A, cc, fp, u1, u2, u3, u4⟩ := rel_row L.rel hl
      rw [u1] at hc
      cases hc
      exact L.ro rfl u2 fun g hg => L.own (by simpa using h1) hl u1 hg
    | ss0 hc ho =>
      simp only [snap] at h
      split at h
      case h_2 => cases h
      rename_i K l hrow
      obtain ⟨h1, h2⟩ := chk_some h
      simp only [Option.some.injEq, Prod.mk.injEq] at h2
      rw [← h2.1]
      have e0 : ∀ l : List K.den, l.take 0 = [] := fun l => rfl
      rw [e0]
      exact .ro (l := []) (Nat.le_refl _) (.inl rfl) trivial fun _ => ⟨_, 0, rfl, Nat.le_refl _, .inl rfl⟩
    | ss hc v1 v2 v3 =>
      rename_i b o m g og n c c' sz fp
      simp only [snap] at h
      split at h
      case h_2 => cases h
      rename_i K l hrow
      obtain ⟨h1, h2⟩ := chk_some h
      simp only [Option.some.injEq, Prod.mk.injEq] at h2
      rw [← h2.1]
      obtain ⟨ro, ver, K', l', hl, e⟩ := rowOf_some hrow
      cases e
      obtain ⟨A, cc, fp', u1, u2, u3, u4⟩ := rel_row L.rel hl
      rw [u1] at hc
      cases hc
      obtain ⟨f', q1, q2⟩ := OwnS_part rfl u2 v1 v2 v3
      have hlen : ((l.drop o).take m).length = m := by simp; omega
      exact L.ro hlen.symm q1 fun g hg => L.own (by simpa using h1) hl u1 (q2.subset hg)
    | @tr q t _ hq ht =>
      simp only [snap] at h
      obtain ⟨_, h4⟩ := chk_some h
      simp only [Option.some.injEq, Prod.mk.injEq] at h4
      rw [← h4.1]
      exact .tr (lent_notVer q) (ht.move fun g hg => ⟨L.sof (by cases q with | ver b v => exact (hq b v rfl).elim | _ => rfl) (fun b v e => (hq b v e).elim) g hg, by rw [L.w]⟩)
    | @ro q K l A c h1 h2 hk hr =>
      simp only [snap] at h
      obtain ⟨h3, h4⟩ := chk_some h
      simp only [Option.some.injEq, Prod.mk.injEq] at h4
      rw [← h4.1]
      obtain ⟨k1, k2⟩ := L.live h3
      exact .ro h1 h2 (Kn_lent _ _) fun _ => RoS_imp (hr k1) (fun g hg => ⟨k2 g hg, by rw [L.w]⟩) fun cs hc => RoRow_w L.w k2 hc
    | @vw b v0 i f K l A c h1 h2 hk hr =>
      simp only [snap] at h
      obtain ⟨h3, h4⟩ := chk_some h
      simp only [Option.some.injEq, Prod.mk.injEq] at h4
      rw [← h4.1]
      obtain ⟨k1, k2⟩ := L.live h3
      obtain ⟨cb, f', c1, c2, c3⟩ := At_own L.rel (hr k1)
      exact L.ro rfl c2 fun g hg => k2 g ⟨cb, c1, c3 g hg⟩
    | pn => simp [snap] at h
    | fn => simp [snap] at h
    | mp => simp [snap] at h
    | tup => simp [snap] at h
    | @po q K l p g og h1 h2 hk hr =>
      simp only [snap] at h
      obtain ⟨h3, h4⟩ := chk_some h
      simp only [Option.some.injEq, Prod.mk.injEq] at h4
      rw [← h4.1]
      obtain ⟨k1, k2⟩ := L.live h3
      obtain ⟨cur, t, fr, q1, q2, q3, q4⟩ := hr k1
      exact .po h1 h2 (Kn_lent _ _) fun _ => ⟨cur, t, fr, k2 _ q1, by rw [L.w]; exact q2, q3, RoRow_w L.w k2 q4⟩
    | @pr q ps o p g og cur t fr nn h1 h2 h3 h4 h5 h6 h7 =>
      simp only [snap] at h
      have hval : valid X.s q = true := by cases q with
        | frz => rfl
        | reg => rfl
        | ver b v => exact (h6 b v rfl).elim
      have hS := L.sof (p := q) hval (fun b v e => (h6 b v e).elim)
      have go : (match snap.snapL (snap X.s hs n) ps with | some (qs, r) => some (AV.pr (lentP q) qs o p, r) | none => none) = some (a', r) → VRel Y a' (.pointer (some ⟨g, og + (o + poff p), none⟩)) := by
        intro h
        split at h
        case h_2 => cases h
        rename_i qs r' hq
        simp only [Option.some.injEq, Prod.mk.injEq] at h
        rw [← h.1]
        obtain ⟨q1, q2⟩ := snapL_ok L ih h4 (.inl rfl) hq
        exact .pr (hS _ h1) (by rw [L.w]; exact h2) h3 q1 q2 (lent_notVer q) h7
      cases q with
      | frz => exact go h
      | reg => exact go h
      | ver b v => exact (h6 b v rfl).elim
    | agg hp hn =>
      simp only [snap] at h
      split at h
      case h_2 => cases h
      rename_i qs r' hq
      simp only [Option.some.injEq, Prod.mk.injEq] at h
      rw [← h.1]
      obtain ⟨q1, q2⟩ := snapL_ok L ih hp (.inl rfl) hq
      exact .agg q1 q2
    | ifc hv =>
      simp only [snap] at h
      split at h
      case h_2 => cases h
      rename_i x r' hx
      simp only [Option.some.injEq, Prod.mk.injEq] at h
      rw [← h.1]
      exact .ifc (ih _ _ _ _ hv hx)
    | @pb b o p cb g og hc hb hp hn =>
      rcases p with _ | ⟨⟨sz, N, i, f⟩, _ | ⟨y, p⟩⟩
      · simp only [snap] at h
        split at h
        case h_2 => cases h
        rename_i ro ver ps hl
        obtain ⟨h3, h4⟩ := chk_some h
        split at h4
        case h_2 => cases h4
        rename_i qs r' hq
        simp only [Option.some.injEq, Prod.mk.injEq] at h4
        rw [← h4.1]
        simp only [Bool.not_eq_true', Bool.or_eq_false_iff] at h3
        obtain ⟨cb', u1, u2, u3, u4⟩ := L.rel.blk b _ hl
        rw [hc] at u1
        cases u1
        cases u2 with
        | @box g' fps _ _ _ cur k1 k2 k3 =>
          simp only [CB.base, Option.some.injEq, Prod.mk.injEq] at hb
          obtain ⟨rfl, rfl⟩ := hb
          obtain ⟨q1, q2⟩ := snapL_ok L ih k3 (.inr h3.2) hq
          obtain ⟨t, fr, hg, _⟩ := k2
          have := VRel.pr (X := Y) (q := .reg 0) (ps := qs) (o := o) (p := []) (g := g') (og := 0) (cur := cur.toArray) (t := t) (fr := fr) (n := cur.length) (L.own h3.1 hl hc (by simp [CB.fp])) (by rw [L.w]; exact hg) (by simp)
            (by simpa [seg] using q1) q2 (by simp) (by simp [PIn])
          simpa using this
        | row k1 k2 k3 => simp [CB.rowN] at hn
      · simp only [snap] at h
        split at h
        case h_2 => cases h
        rename_i K l hrow
        obtain ⟨h3, h4⟩ := chk_some h
        split at h4
        case h_2 => cases h4
        rename_i qs r' hq
        simp only [Option.some.injEq, Prod.mk.injEq] at h4
        rw [← h4.1]
        simp only [Bool.and_eq_true, Bool.not_eq_true'] at h3
        obtain ⟨h3, h5, h6⟩ := h3
        have e1 := Nat.eq_of_beq_eq_true h5
        have e2 := Nat.eq_of_beq_eq_true h6
        subst e1 e2
        obtain ⟨ro, ver, K', l', hl, e⟩ := rowOf_some hrow
        cases e
        obtain ⟨A, cc, fp, u1, u2, u3, u4⟩ := rel_row L.rel hl
        rw [hc] at u1
        cases u1
        simp only [CB.base] at hb
        have hA : A = some ⟨g, og, none⟩ := by
          cases A with
          | none => simp [baseA] at hb
          | some a =>
            obtain ⟨g', o', sp⟩ := a
            cases sp <;> simp [baseA] at hb
            obtain ⟨rfl, rfl⟩ := hb
            rfl
        subst hA
        simp only [CB.rowN, List.reverse_cons, List.reverse_nil, List.nil_append, PIn, Option.getD_some, and_true] at hp
        obtain ⟨A', c', e, u2⟩ := u2
        cases e
        rcases u2 with ⟨z1, _⟩ | ⟨g', o', cur, fps, q1, q2, q3, q4, q5, q6⟩
        · omega
        cases q1
        obtain ⟨c1, c2, c3, f1, f2, f3, e1, e2, e3, e4, _⟩ := RowR_at (fun x c f hx => Rep_len hx) i hp q6
        have hget : K.get l i = l[i] := by simp [Ki.get, List.getD_eq_getElem?_getD, hp]
        rw [hget] at hq
        obtain ⟨w1, w2⟩ := snapP_ok L (toParts_ok e4) (fun x hx => L.own h3 hl hc (by simp [CB.fp, q5, e2, hx])) hq
        obtain ⟨t, fr, hg, _⟩ := q2
        have hlc := congrArg List.length e1
        have hc2 := Rep_len e4
        have hm1 : i * K.size + K.size ≤ l.length * K.size := by rw [← Nat.succ_mul]; exact Nat.mul_le_mul_right _ hp
        have hm2 := Nat.mul_le_mul_right K.size q3
        have hsg : seg cur (og + i * K.size) K.size = c2 := by
          have : seg cur (og + i * K.size) K.size = ((seg cur og (l.length * K.size)).drop (i * K.size)).take K.size := by
            simp only [seg, List.drop_take, List.drop_drop, List.take_take]
            congr 1
            omega
          rw [this, e1, List.append_assoc, List.drop_left' e3, List.take_left' hc2]
        have := VRel.pr (X := Y) (q := .reg 0) (ps := qs) (o := f) (p := []) (g := g) (og := og + i * K.size) (cur := cur.toArray) (t := t) (fr := fr) (n := K.size) (L.own h3 hl hc (by simp [CB.fp, q5])) (by rw [L.w]; exact hg) (by simp; omega)
          (by simpa [hsg] using w1) w2 (by simp) (by simp [PIn])
        simpa [poff, Nat.add_assoc] using this
      · simp [snap] at h

theorem liveP_loc {s s' : St} {p : Prov} (h : ∀ b ∈ atP p, look b s'.st = look b s.st) : liveP s' hs p = liveP s hs p := by
  cases p with
  | frz => rfl
  | reg => rfl
  | ver b v => simp only [liveP]; rw [valid_loc (s := s) (fun b' hb' => h b' (by simpa [provId, atP] using hb'))]

theorem snapL_loc {f g : AV → Option (AV × List Nat)} {Q : List Nat → Prop} (hQ : ∀ l l', Q (l ++ l') → Q l ∧ Q l') (ih : ∀ a x r, f a = some (x, r) → Q r → g a = some (x, r)) : ∀ {ps qs : List AV} {l : List Nat}, snap.snapL f ps = some (qs, l) → Q l → snap.snapL g ps = some (qs, l)
  | [], qs, l, h, _ => h
  | p :: ps, qs, l, h, hl => by
    obtain ⟨x, l1, y, l2, e1, e2, rfl, rfl⟩ := snapL_cons h
    obtain ⟨k1, k2⟩ := hQ _ _ hl
    simp only [snap.snapL, ih _ _ _ e1 k1, snapL_loc hQ ih e2 k2]

theorem snap_loc {s s' : St} : ∀ {n : Nat} {a a' : AV} {r : List Nat}, snap s hs n a = some (a', r) → (∀ b ∈ r, look b s'.st = look b s.st) → snap s' hs n a = some (a', r)
  | 0, _, _, _, h, _ => by simp [snap] at h
  | n + 1, a, a', r, h, hr => by
    have hL : ∀ {ps qs : List AV} {l : List Nat}, snap.snapL (snap s hs n) ps = some (qs, l) → (∀ b ∈ l, look b s'.st = look b s.st) → snap.snapL (snap s' hs n) ps = some (qs, l) :=
      fun h hl => snapL_loc (Q := fun l => ∀ b ∈ l, look b s'.st = look b s.st) (fun l l' h => ⟨fun b hb => h b (by simp [hb]), fun b hb => h b (by simp [hb])⟩) (fun a x r h hr => snap_loc h hr) h hl
    cases a <;> (try (simp only [snap] at h ⊢; exact h))
    · simp only [snap] at h ⊢
      split at h
      case h_2 => cases h
      rename_i hrow
      obtain ⟨h1, h2⟩ := chk_some h
      simp only [Option.some.injEq, Prod.mk.injEq] at h2
      rw [rowOf_loc (hr _ (by rw [← h2.2]; simp)), hrow]
      exact h
    · simp only [snap] at h ⊢
      split at h
      case h_2 => cases h
      rename_i hrow
      obtain ⟨h1, h2⟩ := chk_some h
      simp only [Option.some.injEq, Prod.mk.injEq] at h2
      rw [rowOf_loc (hr _ (by rw [← h2.2]; simp)), hrow]
      exact h
    · simp only [snap] at h ⊢
      have h' := h
      obtain ⟨h1, h2⟩ := chk_some h'
      simp only [Option.some.injEq, Prod.mk.injEq] at h2
      rw [liveP_loc (s := s) (fun b hb => hr b (by rw [← h2.2]; exact hb))]
      exact h
    · simp only [snap] at h ⊢
      have h' := h
      obtain ⟨h1, h2⟩ := chk_some h'
      simp only [Option.some.injEq, Prod.mk.injEq] at h2
      rw [liveP_loc (s := s) (fun b hb => hr b (by rw [← h2.2]; exact hb))]
      exact h
    · rename_i b o p
      rcases p with _ | ⟨⟨sz, N, i, f⟩, _ | ⟨y, p⟩⟩
      · simp only [snap] at h ⊢
        split at h
        case h_2 => cases h
        rename_i ro ver ps hl
        obtain ⟨h1, h2⟩ := chk_some h
        split at h2
        case h_2 => cases h2
        rename_i qs r' hq
        simp only [Option.some.injEq, Prod.mk.injEq] at h2
        obtain ⟨rfl, rfl⟩ := h2
        rw [hr b (by simp), hl]
        simp only [h1, chk_true, hL hq (fun b' hb' => hr b' (by simp [hb']))]
      · simp only [snap] at h ⊢
        split at h
        case h_2 => cases h
        rename_i hrow
        have h' := h
        obtain ⟨h1, h2⟩ := chk_some h'
        split at h2
        case h_2 => cases h2
        simp only [Option.some.injEq, Prod.mk.injEq] at h2
        rw [rowOf_loc (hr _ (by rw [← h2.2]; simp)), hrow]
        exact h
      · simp [snap] at h
    · simp only [snap] at h ⊢
      have h' := h
      obtain ⟨h1, h2⟩ := chk_some h'
      simp only [Option.some.injEq, Prod.mk.injEq] at h2
      rw [liveP_loc (s := s) (fun b hb => hr b (by rw [← h2.2]; exact hb))]
      exact h
    · rename_i q ps o p
      cases q <;> simp only [snap] at h ⊢
      all_goals first
        | (split at h
           case h_2 => cases h
           rename_i qs r' hq
           simp only [Option.some.injEq, Prod.mk.injEq] at h
           obtain ⟨rfl, rfl⟩ := h
           rw [hL hq hr])
        | exact h
    · simp only [snap] at h ⊢
      split at h
      case h_2 => cases h
      rename_i qs r' hq
      simp only [Option.some.injEq, Prod.mk.injEq] at h
      obtain ⟨rfl, rfl⟩ := h
      rw [hL hq hr]
    · simp only [snap] at h ⊢
      split at h
      case h_2 => cases h
      rename_i x r' hx
      simp only [Option.some.injEq, Prod.mk.injEq] at h
      obtain ⟨rfl, rfl⟩ := h
      rw [snap_loc hx hr]

end Go.Ev

/- Calls: numberings. -/
namespace Go.Ev

section
variable {α : Type}

theorem look_append (i : Nat) : ∀ (a b : List (Nat × α)), look i (a ++ b) = match look i a with | some x => some x | none => look i b
  | [], _ => rfl
  | (j, x) :: r, b => by
    simp only [List.cons_append, look]
    cases Nat.beq j i
    · simp only [cond_false]; exact look_append i r b
    · rfl

theorem look_enum : ∀ (l : List α) (n i : Nat), look i (enum n l) = if n ≤ i then l[i - n]? else none
  | [], n, i => by simp [enum, look]
  | x :: r, n, i => by
    simp only [enum, look]
    cases h : Nat.beq n i
    · have hne := beq_false.1 h
      simp only [cond_false]
      rw [look_enum r (n + 1) i]
      by_cases h1 : n + 1 ≤ i
      · rw [if_pos h1, if_pos (by omega)]
        have : i - n = (i - (n + 1)) + 1 := by omega
        rw [this, List.getElem?_cons_succ]
      · rw [if_neg h1, if_neg (by omega)]
    · have := beq_true.1 h
      subst this
      simp

theorem uniq_enum : ∀ (l : List α) (n : Nat), uniq (enum n l)
  | [], _ => trivial
  | x :: r, n => ⟨by rw [look_enum, if_neg (by omega)], uniq_enum r (n + 1)⟩

end

theorem look_number : ∀ {ids : List Nat} {n b i : Nat}, look b (number n ids) = some i → n ≤ i ∧ ids[i - n]? = some b
  | [], n, b, i, h => by simp [number, look] at h
  | c :: r, n, b, i, h => by
    simp only [number, look] at h
    cases hb : Nat.beq c b <;> rw [hb] at h
    · obtain ⟨h1, h2⟩ := look_number (n := n + 1) h
      refine ⟨by omega, ?_⟩
      have : i - n = (i - (n + 1)) + 1 := by omega
      rw [this, List.getElem?_cons_succ]; exact h2
    · simp only [cond_true, Option.some.injEq] at h
      subst h
      simp [beq_true.1 hb]

theorem number_look : ∀ {ids : List Nat} {n b j : Nat}, ids.Nodup → ids[j]? = some b → look b (number n ids) = some (n + j)
  | [], n, b, j, _, h => by simp at h
  | c :: r, n, b, 0, _, h => by
    simp only [List.getElem?_cons_zero, Option.some.injEq] at h
    subst h
    simp [number, look]
  | c :: r, n, b, j + 1, hnd, h => by
    simp only [List.getElem?_cons_succ] at h
    obtain ⟨h1, h2⟩ := List.nodup_cons.1 hnd
    have hne : c ≠ b := fun e => h1 (e ▸ List.mem_of_getElem? h)
    simp only [number, look, beq_false.2 hne, cond_false]
    rw [number_look (n := n + 1) h2 h]
    congr 1
    omega

theorem look_flip : ∀ (ids : List Nat) (n i : Nat), look i (flip (number n ids)) = if n ≤ i then ids[i - n]? else none
  | [], n, i => by simp [number, flip, look]
  | c :: r, n, i => by
    simp only [number, flip, look]
    cases h : Nat.beq n i
    · have hne := beq_false.1 h
      simp only [cond_false]
      rw [look_flip r (n + 1) i]
      by_cases h1 : n + 1 ≤ i
      · rw [if_pos h1, if_pos (by omega)]
        have : i - n = (i - (n + 1)) + 1 := by omega
        rw [this, List.getElem?_cons_succ]
      · rw [if_neg h1, if_neg (by omega)]
    · have := beq_true.1 h
      subst this
      simp

theorem look_newNums (m nb i : Nat) : ∀ n, look i (newNums m nb n) = if m ≤ i ∧ i < m + n then some (nb + (i - m)) else none
  | 0 => by simp [newNums, look]
  | n + 1 => by
    simp only [newNums]
    rw [look_append, look_newNums m nb i n]
    by_cases h : m ≤ i ∧ i < m + n
    · rw [if_pos h, if_pos ⟨h.1, by omega⟩]
    · rw [if_neg h]
      simp only [look]
      cases h2 : Nat.beq (m + n) i
      · have := beq_false.1 h2
        simp only [cond_false]
        rw [if_neg (by omega)]
      · have := beq_true.1 h2
        subst this
        simp only [cond_true]
        rw [if_pos ⟨by omega, by omega⟩]
        congr 1
        omega

/-- Both together. -/
theorem look_back (ids : List Nat) (nb n i : Nat) : look i (flip (number 0 ids) ++ newNums ids.length nb n) = if i < ids.length then ids[i]? else if i < ids.length + n then some (nb + (i - ids.length)) else none := by
  rw [look_append, look_flip, if_pos (Nat.zero_le _), Nat.sub_zero, look_newNums]
  by_cases h : i < ids.length
  · rw [if_pos h]
    simp [h]
  · rw [if_neg h]
    have : ids[i]? = none := by simp; omega
    rw [this]
    simp only
    by_cases h2 : i < ids.length + n
    · rw [if_pos h2, if_pos ⟨by omega, h2⟩]
    · rw [if_neg h2, if_neg (by omega)]

theorem blksOf_some {ok : Nat → Nat → Bool} {sh : Nat} {m : List (Nat × Nat)} {st : List (Nat × Blk)} : ∀ {ids : List Nat} {bs : List Blk}, blksOf ok sh m st ids = some bs →
    bs.length = ids.length ∧ ∀ (j : Nat) (b : Nat), ids[j]? = some b → ∃ x y, look b st = some x ∧ bs[j]? = some y ∧ renB ok sh m x = some y
  | [], bs, h => by
    simp only [blksOf, Option.some.injEq] at h
    subst h
    exact ⟨rfl, by simp⟩
  | c :: r, bs, h => by
    simp only [blksOf] at h
    split at h
    case h_2 => cases h
    rename_i x hx
    split at h
    case h_2 => cases h
    rename_i y hy
    split at h
    case h_2 => cases h
    rename_i z hz
    simp only [Option.some.injEq] at h
    subst h
    obtain ⟨h1, h2⟩ := blksOf_some hz
    refine ⟨by simp [h1], ?_⟩
    intro j b hj
    cases j with
    | zero =>
      simp only [List.getElem?_cons_zero, Option.some.injEq] at hj
      subst hj
      exact ⟨x, y, hx, rfl, hy⟩
    | succ j => simpa using h2 j b (by simpa using hj)

theorem blksOf_loc {ok : Nat → Nat → Bool} {sh : Nat} {m : List (Nat × Nat)} {st st' : List (Nat × Blk)} : ∀ {ids : List Nat}, (∀ b ∈ ids, look b st' = look b st) → blksOf ok sh m st' ids = blksOf ok sh m st ids
  | [], _ => rfl
  | c :: r, h => by simp only [blksOf, h c (by simp), blksOf_loc (ids := r) fun b hb => h b (by simp [hb])]

theorem effU_append (b : Nat) : ∀ (u u' : Upd), effU (u ++ u') b = match effU u' b with | some y => some y | none => effU u b
  | [], u' => by simp only [List.nil_append, effU]; cases effU u' b <;> rfl
  | (c, x) :: r, u' => by
    simp only [List.cons_append, effU]
    rw [effU_append b r u']
    cases effU u' b <;> rfl

/-- What became of a handed-over block. -/
def Back (s : St) (m' : List (Nat × Nat)) (b : Nat) (fo : Option Blk) (z : Option Blk) : Prop :=
  (fo = none ∧ z = none) ∨ ∃ x y, fo = some x ∧ renB noView 2 m' x = some y ∧ z = some (withVer (verOf s b + 1) y)

theorem effU_none {u : Upd} {b : Nat} (h : b ∉ upIds u) : effU u b = none := by
  cases e : effU u b with
  | none => rfl
  | some y => exact (h (effU_ids u b (by rw [e]; simp))).elim

theorem backUpd_eff {s : St} {m' : List (Nat × Nat)} : ∀ {ids : List Nat} {n : Nat} {fin : List (Option Blk)} {u : Upd}, backUpd s m' (number n ids) fin = some u → ids.Nodup →
    upIds u = ids ∧ fin.length = ids.length ∧ ∀ (j : Nat) b, ids[j]? = some b → ∃ fo z, fin[j]? = some fo ∧ effU u b = some z ∧ Back s m' b fo z
  | [], n, [], u, h, _ => by
    simp only [number, backUpd, Option.some.injEq] at h
    subst h
    exact ⟨rfl, rfl, by simp⟩
  | [], n, _ :: _, u, h, _ => by simp [number, backUpd] at h
  | c :: r, n, [], u, h, _ => by simp [number, backUpd] at h
  | c :: r, n, none :: q, u, h, hnd => by
    simp only [number, backUpd] at h
    split at h
    case h_2 => cases h
    rename_i u1 hu
    simp only [Option.some.injEq] at h
    subst h
    obtain ⟨hc, hnd'⟩ := List.nodup_cons.1 hnd
    obtain ⟨h1, h2, h3⟩ := backUpd_eff hu hnd'
    have h1' : List.map (fun x => x.fst) u1 = r := h1
    refine ⟨by simp [upIds, h1'], by simp [h2], ?_⟩
    intro j b hj
    cases j with
    | zero =>
      simp only [List.getElem?_cons_zero, Option.some.injEq] at hj
      subst hj
      refine ⟨none, none, rfl, ?_, .inl ⟨rfl, rfl⟩⟩
      simp only [effU, effU_none (u := u1) (by rw [h1]; exact hc)]
      simp
    | succ j =>
      simp only [List.getElem?_cons_succ] at hj
      obtain ⟨fo, z, k1, k2, k3⟩ := h3 j b hj
      exact ⟨fo, z, by simpa using k1, by simp only [effU, k2], k3⟩
  | c :: r, n, some x :: q, u, h, hnd => by
    simp only [number, backUpd] at h
    split at h
    case h_2 => cases h
    rename_i y u1 hy hu
    simp only [Option.some.injEq] at h
    subst h
    obtain ⟨hc, hnd'⟩ := List.nodup_cons.1 hnd
    obtain ⟨h1, h2, h3⟩ := backUpd_eff hu hnd'
    have h1' : List.map (fun x => x.fst) u1 = r := h1
    refine ⟨by simp [upIds, h1'], by simp [h2], ?_⟩
    intro j b hj
    cases j with
    | zero =>
      simp only [List.getElem?_cons_zero, Option.some.injEq] at hj
      subst hj
      refine ⟨some x, _, rfl, ?_, .inr ⟨x, y, rfl, hy, rfl⟩⟩
      simp only [effU, effU_none (u := u1) (by rw [h1]; exact hc)]
      simp
    | succ j =>
      simp only [List.getElem?_cons_succ] at hj
      obtain ⟨fo, z, k1, k2, k3⟩ := h3 j b hj
      exact ⟨fo, z, by simpa using k1, by simp only [effU, k2], k3⟩

theorem newUpd_eff {m' : List (Nat × Nat)} : ∀ {new : List Blk} {nb : Nat} {u : Upd}, newUpd m' nb new = some u →
    (∀ b, b ∈ upIds u ↔ nb ≤ b ∧ b < nb + new.length) ∧ ∀ j x, new[j]? = some x → ∃ y, renB noView 2 m' x = some y ∧ effU u (nb + j) = some (some y)
  | [], nb, u, h => by
    simp only [newUpd, Option.some.injEq] at h
    subst h
    exact ⟨fun b => by simp [upIds], by simp⟩
  | x :: r, nb, u, h => by
    simp only [newUpd] at h
    split at h
    case h_2 => cases h
    rename_i y u1 hy hu
    simp only [Option.some.injEq] at h
    subst h
    obtain ⟨h1, h2⟩ := newUpd_eff hu
    refine ⟨fun b => ?_, ?_⟩
    · have := h1 b
      simp only [upIds, List.map_cons, List.mem_cons, List.length_cons] at this ⊢
      rw [this]
      omega
    · intro j z hj
      cases j with
      | zero =>
        simp only [List.getElem?_cons_zero, Option.some.injEq] at hj
        subst hj
        refine ⟨y, hy, ?_⟩
        simp only [effU, Nat.add_zero, effU_none (u := u1) (fun hb => by have := (h1 nb).1 hb; omega)]
        simp
      | succ j =>
        simp only [List.getElem?_cons_succ] at hj
        obtain ⟨y', k1, k2⟩ := h2 j z hj
        refine ⟨y', k1, ?_⟩
        rw [show nb + (j + 1) = nb + 1 + j by omega]
        simp only [effU, k2]

end Go.Ev

/- Calls: what a callee is given, what it leaves, what the caller has then. -/
namespace Go.Ev

variable {R : Type} {E : Env} {X : Cx} {P : Program}

/-- A frame as a callee finds it. -/
structure Enters (args : List AV) (bs : List Blk) (E : Env) (X : Cx) (vals : List Value) : Prop where
  rel : Rel E X
  s : X.s = init args bs
  top : ∀ b, bs.length ≤ b → X.cm b = none
  vals : VRels X args vals

/-- .. and as it leaves it. -/
structure Leaves (n : Nat) (v : AV) (fin : List (Option Blk)) (new : List Blk) (E : Env) (X X' : Cx) (val : Value) : Prop where
  rel : Rel E X'
  S : GS X'.S X.S
  cmx : ∀ b cb, b < n → X.cm b = some cb → ∃ cb', X'.cm b = some cb' ∧ cb.same cb'
  st : ∀ b, look b X'.s.st = if b < n then (fin[b]?).join else new[b - n]?
  val : VRel X' v val

/-- How a call ends that is said to give v. -/
def endOf (v : AV) (val : Value) : Ending := match v with
  | .pan t k n => .panicked (pchain t k n)
  | _ => .returned val
def valOf (v : AV) : AV := match v with
  | .pan .. => .un
  | v => v

theorem endOf_ne {v : AV} {val : Value} (h : ∀ t k n, v ≠ .pan t k n) : endOf v val = .returned val := by
  cases v <;> first | rfl | exact (h _ _ _ rfl).elim
theorem valOf_ne {v : AV} (h : ∀ t k n, v ≠ .pan t k n) : valOf v = v := by
  cases v <;> first | rfl | exact (h _ _ _ rfl).elim

/-- So it answers. -/
structure FnOk (P : Program) (f : Nat) (args : List AV) (bs : List Blk) (v : AV) (fin : List (Option Blk)) (new : List Blk) : Prop where
  fn : ∃ fn, P.funcs[f]? = some fn ∧ fn.name ≠ "runtime.NumGoroutine" ∧ fn.body.isSome = true
  go : ∀ E X vals, Enters args bs E X vals → Calls P f vals.toArray X.w fun e w' => ∃ val X', e = endOf v val ∧ X'.w = w' ∧ Leaves bs.length (valOf v) fin new E X X' val

def OrcOk (P : Program) (C : Orc R) : Prop := ∀ f as bs k r, C f as bs k = some r → ∃ v fin new, k v fin new = some r ∧ FnOk P f as bs v fin new

/-- The frame as the callee finds it. -/
def inX (X : Cx) (ids : List Nat) (as : List AV) (bs : List Blk) : Cx where
  cm i := (ids[i]?).bind X.cm
  S q g := match q with
    | none => X.S none g
    | some 0 => g < X.w.heap.size ∧ ¬ Given X ids g
    | some (n + 1) => X.S (some n) g
  s := init as bs
  w := X.w

def inE (X : Cx) (ids : List Nat) : Env := { w := X.w, H := Given X ids, Z := X.S none }

theorem noView_no {b v : Nat} {p : Prop} (h : noView b v = true) : p := by simp [noView] at h

theorem sim_in {ids : List Nat} {as : List AV} {bs : List Blk} : Sim X (inX X ids as bs) noView 1 (number 0 ids) where
  w := rfl
  cm b b' cb hb hc := by
    obtain ⟨_, h⟩ := look_number hb
    simp only [Nat.sub_zero] at h
    simp only [inX, h, Option.bind_some, hc]
  reg p p' hp hn g hg := by
    cases p with
    | frz => simp [pvR, shiftP] at hp; subst hp; exact hg
    | reg n =>
      simp [pvR, shiftP] at hp
      subst hp
      rcases hg with ⟨m, hm, hg⟩ | hg
      · exact .inl ⟨m + 1, by omega, hg⟩
      · exact .inr hg
    | ver b v => exact (hn b v rfl).elim
  okv _ _ h := noView_no h
  row _ _ _ _ _ _ h := noView_no h

theorem lends_in (hR : Rel E X) {ids : List Nat} {as : List AV} {bs : List Blk} : Lends E X (inX X ids as bs) ids := ⟨hR, rfl, fun _ h1 h2 => .inl ⟨0, Nat.le_refl _, h1, h2⟩, fun _ h => h, fun n _ h => .inl ⟨n + 1, by omega, h⟩⟩

theorem callArgs_ok (hR : Rel E X) {ids : List Nat} {as0 : List AV} {bs : List Blk} {ws : List Nat} : ∀ {args as : List AV} {j : Nat} {l : List Nat} {vals : List Value}, VRels X args vals → callArgs X.s ws ids (number 0 ids) j args = some (as, l) → VRels (inX X ids as0 bs) as vals
  | [], as, j, l, vals, hv, h => by
    simp only [callArgs, Option.some.injEq, Prod.mk.injEq] at h
    rw [← h.1]
    cases hv
    exact .nil
  | a :: r, as, j, l, _, .cons h1 h2, h => by
    simp only [callArgs] at h
    split at h
    case h_2 => cases h
    rename_i r' l1 hr
    have ih := callArgs_ok (as0 := as0) (bs := bs) hR h2 hr
    cases hh : handed ws j a <;> rw [hh] at h <;> simp only [cond_true, cond_false] at h
    · split at h
      case h_2 => cases h
      rename_i a' l2 ha
      cases h
      exact .cons (snap_ok (lends_in hR) h1 ha) ih
    · split at h
      case h_2 => cases h
      rename_i a' ha
      cases h
      exact .cons (ren_ok sim_in h1 ha) ih

theorem callArgs_loc {s s' : St} {ws ids : List Nat} {m : List (Nat × Nat)} : ∀ {args as : List AV} {j : Nat} {l : List Nat}, callArgs s ws ids m j args = some (as, l) → (∀ b ∈ l, look b s'.st = look b s.st) → callArgs s' ws ids m j args = some (as, l)
  | [], as, j, l, h, _ => h
  | a :: r, as, j, l, h, hl => by
    simp only [callArgs] at h ⊢
    split at h
    case h_2 => cases h
    rename_i r' l1 hr
    cases hh : handed ws j a <;> rw [hh] at h <;> simp only [cond_true, cond_false] at h
    · split at h
      case h_2 => cases h
      rename_i a' l2 ha
      cases h
      rw [callArgs_loc hr fun b hb => hl b (by simp [hb])]
      simp only [cond_false, snap_loc ha fun b hb => hl b (by simp [hb])]
    · split at h
      case h_2 => cases h
      rename_i a' ha
      cases h
      rw [callArgs_loc hr hl]
      simp only [cond_true, ha]

theorem entry_ok (hR : Rel E X) {ids : List Nat} {as : List AV} {bs : List Blk} {args : List AV} {vals : List Value} (hnd : ids.Nodup) (hb : blksOf noView 1 (number 0 ids) X.s.st ids = some bs) (hv : VRels (inX X ids as bs) as vals) :
    Enters as bs (inE X ids) (inX X ids as bs) vals := by
  obtain ⟨b1, b2⟩ := blksOf_some hb
  have hlook : ∀ i y, look i (inX X ids as bs).s.st = some y → ∃ b x, ids[i]? = some b ∧ look b X.s.st = some x ∧ renB noView 1 (number 0 ids) x = some y := by
    intro i y hi
    simp only [inX, init, look_enum, Nat.zero_le, if_true, Nat.sub_zero] at hi
    have hlt : i < ids.length := by
      have := (List.getElem?_eq_some_iff.1 hi).1
      omega
    have hb' : ids[i]? = some ids[i] := by simp [hlt]
    obtain ⟨x, y', k1, k2, k3⟩ := b2 i _ hb'
    rw [hi] at k2
    cases k2
    exact ⟨_, x, hb', k1, k3⟩
  refine ⟨⟨?_, ?_, ?_, ?_, ?_, ?_⟩, rfl, ?_, hv⟩
  · intro i y hi
    obtain ⟨b, x, h1, h2, h3⟩ := hlook i y hi
    obtain ⟨cb, k1, k2, k3, k4⟩ := hR.blk b x h2
    refine ⟨cb, by simp only [inX, h1, Option.bind_some, k1], renB_ok sim_in k2 h3, k3, fun g hg => ⟨(k4 g hg).1, .inl ⟨b, x, cb, List.mem_of_getElem? h1, h2, k1, hg⟩⟩⟩
  · intro i i' y y' cb cb' g hi hi' hc hc' hg hg'
    obtain ⟨b, x, h1, h2, h3⟩ := hlook i y hi
    obtain ⟨b', x', h1', h2', h3'⟩ := hlook i' y' hi'
    simp only [inX, h1, h1', Option.bind_some] at hc hc'
    have := hR.dis b b' x x' cb cb' g h2 h2' hc hc' hg hg'
    subst this
    have e1 := number_look (n := 0) hnd h1
    have e2 := number_look (n := 0) hnd h1'
    rw [e1] at e2
    simpa using e2
  · intro q g hg
    have hno : ∀ n, X.S (some n) g → g < X.w.heap.size ∧ ¬ Given X ids g := by
      intro n hS
      obtain ⟨h1, h2⟩ := hR.out n g hS
      refine ⟨Nat.lt_of_lt_of_le h1 hR.fr.size, ?_⟩
      rintro ⟨b', x', cb', m1, m2, m3, m4⟩
      obtain ⟨cb2, k1, _, _, k4⟩ := hR.blk b' x' m2
      rw [m3] at k1
      cases k1
      rcases (k4 g m4).2 with k | k
      · exact h2 k
      · omega
    match q with
    | 0 => exact hg
    | n + 1 => exact hno _ hg
  · intro g hg
    obtain ⟨h1, _, h3⟩ := hR.frz g hg
    refine ⟨h1, .inl hg, fun i y cb hi hc hgc => ?_⟩
    obtain ⟨b, x, k1, k2, _⟩ := hlook i y hi
    simp only [inX, k1, Option.bind_some] at hc
    exact h3 b x cb k2 hc hgc
  · exact ⟨rfl, rfl, rfl, Nat.le_refl _, fun _ _ _ => rfl⟩
  · simp only [inX, init]; exact uniq_enum _ _
  · intro b hb'
    have : ids[b]? = none := by simp; omega
    simp only [inX, this, Option.bind_none]

/-- The frame as the caller has it behind the call. -/
def outX (X X1 : Cx) (ids : List Nat) (nb n : Nat) (u : Upd) : Cx where
  cm b := match look b (number 0 ids) with
    | some i => X1.cm i
    | none => if nb ≤ b ∧ b < nb + n then X1.cm (ids.length + (b - nb)) else X.cm b
  S q := match q with
    | none => X1.S none
    | some n => X.S (some n)
  s := { X.s with st := applyU u X.s.st }
  w := X1.w

theorem withVer_BRel {X : Cx} {cb : CB} {y : Blk} {k : Nat} (h : BRel X cb y) : BRel X cb (withVer k y) := by
  cases h with
  | box h1 h2 h3 => exact .box h1 h2 h3
  | row h1 h2 h3 => exact .row h1 h2 h3
  | map h1 h2 => exact .map h1 h2
  | iter h1 h2 h3 h4 h5 => exact .iter h1 h2 h3 h4 h5
  | bld h1 => exact .bld h1

/-- A call: the facts of it. -/
structure CallFacts (P : Program) (s : St) (f : Nat) (args : List AV) (nb : Nat) (ws ids : List Nat) (as : List AV) (lent : List Nat) (bs : List Blk) (v : AV) (fin : List (Option Blk)) (new : List Blk) (v' : AV) (u u' : Upd) : Prop where
  nd : ids.Nodup
  has : callArgs s ws ids (number 0 ids) 0 args = some (as, lent)
  hbs : blksOf noView 1 (number 0 ids) s.st ids = some bs
  le : new.length ≤ 16
  hv : ren noView 2 (flip (number 0 ids) ++ newNums ids.length nb new.length) 8 v = some v'
  hu : backUpd s (flip (number 0 ids) ++ newNums ids.length nb new.length) (number 0 ids) fin = some u
  hu' : newUpd (flip (number 0 ids) ++ newNums ids.length nb new.length) nb new = some u'

variable {f : Nat} {args : List AV} {nb : Nat} {ws ids : List Nat} {as : List AV} {lent : List Nat} {bs : List Blk} {v : AV} {fin : List (Option Blk)} {new : List Blk} {v' : AV} {u u' : Upd}

theorem CallFacts.good (hF : CallFacts P X.s f args nb ws ids as lent bs v fin new v' u u') (hR : Rel E X) (hN : Fresh X nb) {X1 : Cx} {val : Value} (hL : Leaves bs.length v fin new (inE X ids) (inX X ids as bs) X1 val) :
    Good E X nb v' (u ++ u') val (outX X X1 ids nb new.length (u ++ u')) := by
  have hnd := hF.nd
  have hle := hF.le
  obtain ⟨b1, b2⟩ := blksOf_some hF.hbs
  obtain ⟨p1, p2, p3⟩ := backUpd_eff hF.hu hnd
  obtain ⟨q1, q2⟩ := newUpd_eff hF.hu'
  rw [b1] at hL
  have live : ∀ b ∈ ids, ∃ x cb, look b X.s.st = some x ∧ X.cm b = some cb := by
    intro b hb
    obtain ⟨j, hj⟩ := List.getElem?_of_mem hb
    obtain ⟨x, y, k1, _, _⟩ := b2 j b hj
    obtain ⟨cb, h1, _⟩ := hR.blk b x k1
    exact ⟨x, cb, k1, h1⟩
  have apart : ∀ b ∈ ids, ¬ (nb ≤ b ∧ b < nb + new.length) := by
    intro b hb hn
    obtain ⟨x, cb, _, hc⟩ := live b hb
    rw [hN b hn.1 (by omega)] at hc
    cases hc
  have num : ∀ {j b : Nat}, ids[j]? = some b → look b (number 0 ids) = some j := fun {j b} h => by have := number_look (n := 0) hnd h; rwa [Nat.zero_add] at this
  have nonum : ∀ {b : Nat}, b ∉ ids → look b (number 0 ids) = none := by
    intro b hb
    cases e : look b (number 0 ids) with
    | none => rfl
    | some i => exact (hb (List.mem_of_getElem? (look_number e).2)).elim
  have cmOld : ∀ {j b : Nat}, ids[j]? = some b → (outX X X1 ids nb new.length (u ++ u')).cm b = X1.cm j := by
    intro j b h
    simp only [outX, num h]
  have cmNew : ∀ {j : Nat}, j < new.length → (outX X X1 ids nb new.length (u ++ u')).cm (nb + j) = X1.cm (ids.length + j) := by
    intro j hj
    have hn : nb + j ∉ ids := fun hm => apart _ hm ⟨by omega, by omega⟩
    simp only [outX, nonum hn]
    rw [if_pos ⟨by omega, by omega⟩]
    congr 1
    omega
  have cmKeep : ∀ {b : Nat}, b ∉ ids → ¬ (nb ≤ b ∧ b < nb + new.length) → (outX X X1 ids nb new.length (u ++ u')).cm b = X.cm b := by
    intro b h1 h2
    simp only [outX, nonum h1]
    rw [if_neg h2]
  -- the blocks
  have lk : ∀ b, look b (outX X X1 ids nb new.length (u ++ u')).s.st = match effU (u ++ u') b with | some x => x | none => look b X.s.st := fun b => look_applyU _ _ hR.uq
  have effOld : ∀ {j b : Nat}, ids[j]? = some b → effU (u ++ u') b = effU u b := by
    intro j b h
    rw [effU_append, effU_none (u := u') fun hm => apart b (List.mem_of_getElem? h) ((q1 b).1 hm)]
  have lkOld : ∀ {j b : Nat}, ids[j]? = some b → ∃ fo z, fin[j]? = some fo ∧ look b (outX X X1 ids nb new.length (u ++ u')).s.st = z ∧ Back X.s (flip (number 0 ids) ++ newNums ids.length nb new.length) b fo z := by
    intro j b h
    obtain ⟨fo, z, k1, k2, k3⟩ := p3 j b h
    exact ⟨fo, z, k1, by rw [lk, effOld h, k2], k3⟩
  have lkNew : ∀ {j : Nat} {x : Blk}, new[j]? = some x → ∃ y, renB noView 2 (flip (number 0 ids) ++ newNums ids.length nb new.length) x = some y ∧ look (nb + j) (outX X X1 ids nb new.length (u ++ u')).s.st = some y := by
    intro j x h
    obtain ⟨y, k1, k2⟩ := q2 j x h
    exact ⟨y, k1, by rw [lk, effU_append, k2]⟩
  have lkKeep : ∀ {b : Nat}, b ∉ ids → ¬ (nb ≤ b ∧ b < nb + new.length) → look b (outX X X1 ids nb new.length (u ++ u')).s.st = look b X.s.st := by
    intro b h1 h2
    rw [lk, effU_append, effU_none (u := u') fun hm => h2 ((q1 b).1 hm), effU_none (u := u) (by rw [p1]; exact h1)]
  have sim : Sim X1 (outX X X1 ids nb new.length (u ++ u')) noView 2 (flip (number 0 ids) ++ newNums ids.length nb new.length) := by
    refine ⟨rfl, ?_, ?_, fun _ _ h => noView_no h, fun _ _ _ _ _ _ h => noView_no h⟩
    · intro i b' cb hb hc
      rw [look_back] at hb
      by_cases h : i < ids.length
      · rw [if_pos h] at hb
        rw [cmOld hb]; exact hc
      · rw [if_neg h] at hb
        by_cases h2 : i < ids.length + new.length
        · rw [if_pos h2] at hb
          cases hb
          rw [cmNew (by omega)]
          rw [show ids.length + (i - ids.length) = i by omega]
          exact hc
        · rw [if_neg h2] at hb; cases hb
    · intro p p' hp hn g hg
      cases p with
      | frz =>
        simp [pvR, shiftP] at hp
        subst hp
        exact hg
      | reg n =>
        cases n with
        | zero => simp [pvR, shiftP] at hp
        | succ n =>
          simp [pvR, shiftP] at hp
          subst hp
          rcases hg with ⟨m, hm, hg⟩ | hg
          · obtain ⟨m, rfl⟩ : ∃ k, m = k + 1 := ⟨m - 1, by omega⟩
            rw [hL.S.1] at hg
            exact .inl ⟨m, by omega, hg⟩
          · exact .inr hg
      | ver b v => exact (hn b v rfl).elim
  -- what is a block of the moved ones
  have mvd : ∀ b x', (b ∈ ids ∨ (nb ≤ b ∧ b < nb + new.length)) → look b (outX X X1 ids nb new.length (u ++ u')).s.st = some x' →
      ∃ i x, look i X1.s.st = some x ∧ (outX X X1 ids nb new.length (u ++ u')).cm b = X1.cm i ∧ (∀ cb, BRel X1 cb x → BRel (outX X X1 ids nb new.length (u ++ u')) cb x') ∧ look i (flip (number 0 ids) ++ newNums ids.length nb new.length) = some b := by
    intro b x' hM hl
    rcases hM with hM | hM
    · obtain ⟨j, hj⟩ := List.getElem?_of_mem hM
      have hlt := (List.getElem?_eq_some_iff.1 hj).1
      obtain ⟨fo, z, k1, k2, k3⟩ := lkOld hj
      rw [hl] at k2
      subst k2
      rcases k3 with ⟨_, k3⟩ | ⟨x, y, e1, e2, e3⟩
      · cases k3
      · cases e3
        subst e1
        refine ⟨j, x, ?_, cmOld hj, fun cb hb => withVer_BRel (renB_ok sim hb e2), ?_⟩
        · rw [hL.st, if_pos hlt, k1]; rfl
        · rw [look_back, if_pos hlt]; exact hj
    · obtain ⟨j, rfl⟩ : ∃ j, b = nb + j := ⟨b - nb, by omega⟩
      have hlt : j < new.length := by omega
      obtain ⟨y, k1, k2⟩ := lkNew (j := j) (x := new[j]) (by simp [hlt])
      rw [hl] at k2
      cases k2
      refine ⟨ids.length + j, new[j], ?_, cmNew hlt, fun cb hb => renB_ok sim hb k1, ?_⟩
      · rw [hL.st, if_neg (by omega), show ids.length + j - ids.length = j by omega]
        simp [hlt]
      · rw [look_back, if_neg (by omega), if_pos (by omega)]
        congr 1
        omega
  have mv : Mv X (outX X X1 ids nb new.length (u ++ u')) (fun b => b ∈ ids ∨ (nb ≤ b ∧ b < nb + new.length)) (Given X ids) := by
    have hfr := hL.rel.fr
    have hsm : SMv X (outX X X1 ids nb new.length (u ++ u')) (fun b => b ∈ ids ∨ (nb ≤ b ∧ b < nb + new.length)) := by
      refine ⟨⟨fun _ => rfl, fun g hg => hL.S.2 g hg⟩, fun g hg => ?_⟩
      obtain ⟨h1, h2, h3⟩ := hL.rel.frz g hg
      rcases h2 with h2 | h2 | h2
      · exact .inl h2
      · refine .inr ⟨h1, ?_, ?_⟩
        · obtain ⟨b, x, cb, m1, m2, m3, m4⟩ := h2
          exact .inr ⟨b, x, cb, .inl m1, m2, m3, m4⟩
        · intro b x cb hM hl hc hgc
          obtain ⟨i, y, k1, k2, _, _⟩ := mvd b x hM hl
          exact h3 i y cb k1 (by rw [← k2]; exact hc) hgc
      · refine .inr ⟨h1, .inl h2, ?_⟩
        intro b x cb hM hl hc hgc
        obtain ⟨i, y, k1, k2, _, _⟩ := mvd b x hM hl
        exact h3 i y cb k1 (by rw [← k2]; exact hc) hgc
    refine ⟨hsm, hfr.os, hfr.tape, hfr.output, hfr.size, fun g hg hT => hfr.block g hg hT, ?_, ?_, ?_, ?_, ?_⟩
    · rintro g ⟨b, x, cb, m1, m2, m3, m4⟩
      exact ⟨b, x, cb, .inl m1, m2, m3, m4⟩
    · intro b hM
      exact lkKeep (fun h => hM (.inl h)) (fun h => hM (.inr h))
    · intro b hM
      exact cmKeep (fun h => hM (.inl h)) (fun h => hM (.inr h))
    · intro b cb hM hc
      rcases hM with hM | hM
      · obtain ⟨j, hj⟩ := List.getElem?_of_mem hM
        have hlt := (List.getElem?_eq_some_iff.1 hj).1
        obtain ⟨cb', k1, k2⟩ := hL.cmx j cb hlt (by simp only [inX, hj, Option.bind_some, hc])
        exact ⟨cb', by rw [cmOld hj]; exact k1, k2⟩
      · rw [hN b hM.1 (by omega)] at hc
        cases hc
    · intro b cb ro' ver' ps' hM hc hl
      rcases hM with hM | hM
      · obtain ⟨j, hj⟩ := List.getElem?_of_mem hM
        obtain ⟨fo, z, k1, k2, k3⟩ := lkOld hj
        rw [hl] at k2
        subst k2
        rcases k3 with ⟨_, k3⟩ | ⟨x, y, e1, e2, e3⟩
        · cases k3
        · obtain ⟨x0, cb0, l1, l2⟩ := live b hM
          obtain ⟨cb1, m1, m2, _⟩ := hR.blk b x0 l1
          have hv : ver' = verOf X.s b + 1 := by
            cases y with
            | cell ro ver ps => simp only [withVer, Option.some.injEq, Blk.cell.injEq] at e3; exact e3.2.1
            | map => simp [withVer] at e3
            | iter => simp [withVer] at e3
            | bld => simp [withVer] at e3
          have hnm : ∀ g, cb1 ≠ .map g := by
            intro g e
            subst e
            obtain ⟨i, x1, r1, r2, r3, _⟩ := mvd b _ (.inl hM) hl
            obtain ⟨cb2, t1, t2, _⟩ := hL.rel.blk i x1 r1
            have hlt := (List.getElem?_eq_some_iff.1 hj).1
            obtain ⟨cb', k1, k2⟩ := hL.cmx j (.map g) hlt (by simp only [inX, hj, Option.bind_some, m1])
            rw [cmOld hj, k1, t1] at r2
            cases r2
            have := r3 _ t2
            cases cb2 with
            | map g' => cases this
            | _ => simp [CB.same] at k2
          have hni : ∀ g, cb1 ≠ .iter g := by
            intro g e
            subst e
            obtain ⟨i, x1, r1, r2, r3, _⟩ := mvd b _ (.inl hM) hl
            obtain ⟨cb2, t1, t2, _⟩ := hL.rel.blk i x1 r1
            have hlt := (List.getElem?_eq_some_iff.1 hj).1
            obtain ⟨cb', k1, k2⟩ := hL.cmx j (.iter g) hlt (by simp only [inX, hj, Option.bind_some, m1])
            rw [cmOld hj, k1, t1] at r2
            cases r2
            have := r3 _ t2
            cases cb2 with
            | iter g' => cases this
            | _ => simp [CB.same] at k2
          have hnb : ∀ g fp, cb1 ≠ .bld g fp := by
            intro g fp e
            subst e
            obtain ⟨i, x1, r1, r2, r3, _⟩ := mvd b _ (.inl hM) hl
            obtain ⟨cb2, t1, t2, _⟩ := hL.rel.blk i x1 r1
            have hlt := (List.getElem?_eq_some_iff.1 hj).1
            obtain ⟨cb', k1, k2⟩ := hL.cmx j (.bld g fp) hlt (by simp only [inX, hj, Option.bind_some, m1])
            rw [cmOld hj, k1, t1] at r2
            cases r2
            have := r3 _ t2
            cases cb2 with
            | bld g' => cases this
            | _ => simp [CB.same] at k2
          cases m2 with
          | bld => exact (hnb _ _ rfl).elim
          | map => exact (hnm _ rfl).elim
          | iter => exact (hni _ rfl).elim
          | box =>
            refine ⟨_, _, _, l1, ?_, ?_⟩
            · rw [hv]; simp only [verOf, l1]; omega
            · intro e; rw [hv] at e; simp only [verOf, l1] at e; omega
          | row =>
            refine ⟨_, _, _, l1, ?_, ?_⟩
            · rw [hv]; simp only [verOf, l1]; omega
            · intro e; rw [hv] at e; simp only [verOf, l1] at e; omega
      · rw [hN b hM.1 (by omega)] at hc
        cases hc
  refine ⟨mv.rel hR ?_ ?_ ?_, mv.ext hR, ⟨fun _ => rfl, fun g hg => hL.S.2 g hg⟩, rfl, ?_, ren_ok sim hL.val hF.hv⟩
  · exact uniq_applyU _ hR.uq
  · intro b x' hM hl
    obtain ⟨i, x, k1, k2, k3, _⟩ := mvd b x' hM hl
    obtain ⟨cb, h1, h2, h3, h4⟩ := hL.rel.blk i x k1
    refine ⟨cb, by rw [k2]; exact h1, k3 cb h2, h3, fun g hg => ⟨(h4 g hg).1, ?_⟩⟩
    rcases (h4 g hg).2 with h5 | h5
    · obtain ⟨b', x'', cb', m1, m2, m3, m4⟩ := h5
      exact .inr ⟨b', x'', cb', .inl m1, m2, m3, m4⟩
    · exact .inl h5
  · intro b b' x x' cb cb' g hM hM' hl hl' hc hc' hg hg'
    obtain ⟨i, y, k1, k2, _, k4⟩ := mvd b x hM hl
    obtain ⟨i', y', k1', k2', _, k4'⟩ := mvd b' x' hM' hl'
    have := hL.rel.dis i i' y y' cb cb' g k1 k1' (by rw [← k2]; exact hc) (by rw [← k2']; exact hc') hg hg'
    subst this
    rw [k4] at k4'
    cases k4'
    rfl
  · intro b hb
    by_cases h : b ∈ ids
    · obtain ⟨x, cb, _, hc⟩ := live b h
      exact .inl (by rw [hc]; simp)
    · by_cases h2 : nb ≤ b ∧ b < nb + new.length
      · exact .inr ⟨h2.1, by omega⟩
      · rw [cmKeep h h2] at hb
        exact .inl hb

end Go.Ev

/- Operations: every one. -/
namespace Go.Ev

variable {R : Type} {E : Env} {X : Cx} {P : Program}

/-- It comes out well, and so it would at any moment that agrees. -/
structure Ran (P : Program) (s : St) (o : Oper) (nb : Nat) (cont : Cont R) (r : R) : Prop where
  out : ∃ v u rd, cont v u rd = some r ∧ ∀ s', Agree s s' o u rd → GoesX P s' o nb v u

theorem memE_ran {c : Cfg} (hC : cfgOk P c = true) {s : St} {o : Oper} {nb : Nat} {cont : Cont R} {r : R} (h : memE c s o nb cont = some r) : Ran P s o nb cont r := by
  obtain ⟨v, u, rd, h1, _, h3, _⟩ := (memE_ok hC h).out
  refine ⟨v, u, rd, h1, fun s' ha => ?_⟩
  have := h3 s' ha (AV × Upd × List Nat) (fun v u rd => some (v, u, rd))
  obtain ⟨v2, u2, rd2, k1, k2, _, _⟩ := (memE_ok hC this).out
  cases k1
  exact k2.x

theorem run_call {o : Oper} {cl : Call} {x : Operand} (hop : o.op = .call cl) (hb : cl.callee = .value x) {a : Act} {f : Nat} {cs : Array Value} (hx : a.eval x = .func (.func f) #[] cs) {fn : Func} (hf : P.funcs[f]? = some fn) (hn : fn.name ≠ "runtime.NumGoroutine") (hbd : fn.body.isSome = true) {w : World} :
    (execOp a.eval o).run P w = .ok (.enter f (cl.args.map a.eval ++ cs)) w := by
  have h2 : fn.body ≠ none := by intro h; simp [h] at hbd
  simp [execOp, hop, resolve, hb, hx, Deferred.ofValue, invoke, callFunc, hf, hn, h2]

theorem VRels_append {as bs : List AV} {vs us : List Value} : VRels X as vs → VRels X bs us → VRels X (as ++ bs) (vs ++ us)
  | .nil, h => h
  | .cons h1 h2, h => .cons h1 (VRels_append h2 h)

theorem VRels_args {c : Cfg} {a : Act} (hT : TRel X a) : ∀ {xs : List Operand} {ts : List Nat}, xs.length = ts.length → VRels X ((xs.zip ts).map (fun x => typed c x.2 (ev X.s x.1))) (xs.map a.eval)
  | [], _, _ => .nil
  | x :: xs, [], h => by simp at h
  | x :: xs, t :: ts, h => .cons (typed_ok (ev_ok hT x)) (VRels_args hT (by simpa using h))

theorem ren_pan {ok : Nat → Nat → Bool} {sh : Nat} {m : List (Nat × Nat)} {n : Nat} {v v' : AV} (h : ren ok sh m n v = some v') (hv : ∀ t k n, v ≠ .pan t k n) : ∀ t k n, v' ≠ .pan t k n := by
  intro t k n' e
  subst e
  cases hp : v.plain with
  | true =>
    have := ren_plain h hp
    cases this
  | false =>
    cases n with
    | zero => simp [ren] at h
    | succ n =>
      cases v <;> simp only [AV.plain, reduceCtorEq] at hp <;> simp only [ren] at h <;> first
        | (cases h; done)
        | exact hv _ _ _ rfl
        | (split at h <;> cases h)

theorem ren_val {ok : Nat → Nat → Bool} {sh : Nat} {m : List (Nat × Nat)} {n : Nat} {v v' : AV} (h : ren ok sh m (n + 1) v = some v') : ren ok sh m (n + 1) (valOf v) = some (valOf v') ∧ ∀ val, endOf v' val = endOf v val := by
  by_cases hp : ∃ t k n, v = .pan t k n
  · obtain ⟨t, k, q, rfl⟩ := hp
    simp only [ren, Option.some.injEq] at h
    subst h
    exact ⟨rfl, fun _ => rfl⟩
  · have h1 : ∀ t k n, v ≠ .pan t k n := fun t k n e => hp ⟨t, k, n, e⟩
    have h2 := ren_pan h h1
    rw [valOf_ne h1, valOf_ne h2]
    exact ⟨h, fun val => by rw [endOf_ne h1, endOf_ne h2]⟩

theorem callE_ran {c : Cfg} {C : Orc R} (hO : OrcOk P C) {s : St} {o : Oper} {nb : Nat} {cont : Cont R} {r : R} {cl : Call} {x : Operand} (hop : o.op = .call cl) (hb : cl.callee = .value x) (h : operE c C s o nb cont = some r) : Ran P s o nb cont r := by
  simp only [operE, hop, hb] at h
  split at h
  case h_2 => cases h
  rename_i f caps hx
  obtain ⟨hlen, h⟩ := chk_some h
  have hlen := Nat.eq_of_beq_eq_true hlen
  simp only [callE] at h
  split at h
  case h_2 => cases h
  rename_i as lent bs has hbs
  obtain ⟨hnd, h⟩ := chk_some h
  rw [nodupN_iff] at hnd
  obtain ⟨v, fin, new, h, hok⟩ := hO _ _ _ _ _ h
  obtain ⟨hle, h⟩ := chk_some h
  rw [Nat.ble_eq] at hle
  split at h
  case h_2 => cases h
  rename_i v' u u' hv hu hu'
  refine ⟨v', u ++ u', lent, h, ?_⟩
  intro s' ha
  obtain ⟨p1, _, _⟩ := backUpd_eff hu hnd
  generalize hids : clos s.st 64 (handRefs ((look f c.wr).getD []) 0 ((cl.args.toList.zip cl.argTypes.toList).map (fun x => typed c x.2 (ev s x.1)) ++ caps)) [] = ids at *
  have hag : ∀ b ∈ ids, look b s'.st = look b s.st := fun b hb' => ha.wr b (by
    simp only [upIds, List.map_append, List.mem_append]
    left
    have : List.map (fun x => x.fst) u = ids := p1
    rw [this]; exact hb')
  have hargs : (cl.args.toList.zip cl.argTypes.toList).map (fun x => typed c x.2 (ev s' x.1)) = (cl.args.toList.zip cl.argTypes.toList).map (fun x => typed c x.2 (ev s x.1)) := by
    refine List.map_congr_left fun y hy => ?_
    rw [ha.ev y.1 (by
      have := (List.of_mem_zip hy).1
      simp [hop, Op.operands, Call.operands, hb]
      exact .inr (by simpa using this))]
  have hx' : ev s' x = .fn f caps := by rw [ha.ev x (by simp [hop, Op.operands, Call.operands, hb]), hx]
  have hF : CallFacts P s' f ((cl.args.toList.zip cl.argTypes.toList).map (fun x => typed c x.2 (ev s' x.1)) ++ caps) nb ((look f c.wr).getD []) ids as lent bs (valOf v) fin new (valOf v') u u' := by
    refine ⟨hnd, ?_, ?_, hle, (ren_val hv).1, ?_, hu'⟩
    · rw [hargs]; exact callArgs_loc has ha.rd
    · rw [blksOf_loc hag]; exact hbs
    · rw [← hu]
      have key : ∀ (ids' : List Nat) (n : Nat) (fin : List (Option Blk)) m', (∀ b ∈ ids', look b s'.st = look b s.st) → backUpd s' m' (number n ids') fin = backUpd s m' (number n ids') fin := by
        intro ids'
        induction ids' with
        | nil => intro n fin m' _; cases fin <;> rfl
        | cons b r ih =>
          intro n fin m' hl
          cases fin with
          | nil => rfl
          | cons fo q =>
            have e := ih (n + 1) q m' fun b' hb' => hl b' (by simp [hb'])
            have e2 : verOf s' b = verOf s b := by simp only [verOf, hl b (by simp)]
            cases fo with
            | none => simp only [number, backUpd, e]
            | some y => simp only [number, backUpd, e, e2]
      exact key _ _ _ _ hag
  have key : ∀ E X a, X.s = s' → Rel E X → TRel X a → Fresh X nb → ∀ (next : Act → World → Prop) (Q : Exit → Act → World → Prop), (∀ val X', Good E X nb (valOf v') (u ++ u') val X' → match endOf v' val with | .returned z => next (a.put o.dst z) X'.w | .panicked ch => Q (.panic ch) a X'.w | .outgrown => LetsOut Q) → o.wp P a X.w next Q := by
    intro E X a hs hR hT hN next Q hn
    subst hs
    obtain ⟨fn, f1, f2, f3⟩ := hok.fn
    have hvx := ev_ok hT x
    rw [hx'] at hvx
    generalize hax : a.eval x = vx at hvx
    cases hvx with
    | @fn _ _ vs hcaps =>
      unfold Oper.wp
      rw [run_call hop hb hax f1 f2 f3, Oper.upon_enter]
      have hvals : VRels X ((cl.args.toList.zip cl.argTypes.toList).map (fun x => typed c x.2 (ev X.s x.1)) ++ caps) (cl.args.toList.map a.eval ++ vs) :=
        VRels_append (VRels_args hT (by simpa using hlen)) hcaps
      have hent := entry_ok (args := []) hR hnd hF.hbs (callArgs_ok hR hvals hF.has)
      have hgo := hok.go _ _ _ hent
      have e : (cl.args.toList.map a.eval ++ vs).toArray = cl.args.map a.eval ++ vs.toArray := by simp
      rw [e] at hgo
      refine hgo.mono ?_
      rintro e w' ⟨val, X1, rfl, rfl, hL⟩
      have := hn val (outX X X1 ids nb new.length (u ++ u')) (hF.good hR hN hL)
      rw [(ren_val hv).2 val] at this
      cases he : endOf v val with
      | returned z => rw [he] at this; exact this
      | panicked ch => rw [he] at this; exact this
      | outgrown => rw [he] at this; exact this
  by_cases hp : ∃ t k n, v' = .pan t k n
  · obtain ⟨t, k, n, rfl⟩ := hp
    intro E X a hs hR hT hN next Q hn
    exact key E X a hs hR hT hN next Q hn
  · have h1 : ∀ t k n, v' ≠ .pan t k n := fun t k n e => hp ⟨t, k, n, e⟩
    refine Goes.x fun E X a hs hR hT hN next Q hn => key E X a hs hR hT hN next Q fun val X' hG => ?_
    rw [valOf_ne h1] at hG
    rw [endOf_ne h1]
    exact hn val X' hG

theorem panicE_ran {c : Cfg} {C : Orc R} {s : St} {o : Oper} {nb : Nat} {cont : Cont R} {r : R} {x : Operand} (hop : o.op = .panic x) (h : operE c C s o nb cont = some r) : Ran P s o nb cont r := by
  simp only [operE, hop] at h
  split at h
  case h_2 => cases h
  rename_i t k n hx
  refine ⟨_, _, _, h, fun s' ha => ?_⟩
  intro E X a hs hR hT hF next Q hn
  subst hs
  have hv := ev_ok hT x
  rw [ha.ev x (by simp [hop, Op.operands]), hx] at hv
  generalize hxv : a.eval x = xv at hv
  cases hv with
  | ifc hv =>
    cases hv
    have := hn undef X ⟨hR, .refl X, .refl _, rfl, fun _ h => .inl h, .un _⟩
    unfold Oper.wp
    simp only [execOp, hop, hxv]
    exact this

theorem operE_ran {c : Cfg} (hC : cfgOk P c = true) {C : Orc R} (hO : OrcOk P C) {s : St} {o : Oper} {nb : Nat} {cont : Cont R} {r : R} (h : operE c C s o nb cont = some r) : Ran P s o nb cont r := by
  cases hop : o.op with
  | call cl =>
    cases hb : cl.callee with
    | value x => exact callE_ran hO hop hb h
    | _ => simp only [operE, hop, hb] at h; exact memE_ran hC h
  | panic x => exact panicE_ran hop h
  | _ => simp only [operE, hop] at h; exact memE_ran hC h

end Go.Ev

/- Regions: the state behind a set of operations. -/
namespace Go.Ev

/-- What became of an operation: none: it was passed over. -/
abbrev Outc := Option (AV × Upd × List Nat)

def putD (d : Option Nat) (v : AV) (tm : List (Nat × AV)) : List (Nat × AV) :=
  match d with
  | some d => put d v tm
  | none => tm

def Outc.val : Outc → AV
  | none => .tup []
  | some (v, _, _) => v

def Outc.upd : Outc → Upd
  | none => []
  | some (_, u, _) => u

def effS (o : Oper) (out : Outc) (s : St) : St := { s with tm := putD o.dst out.val s.tm, st := applyU out.upd s.st }

def sig : List Oper → List Outc → (Nat → Bool) → Nat → St → St
  | o :: l, out :: outs, D, i, s => sig l outs D (i + 1) (if D i then effS o out s else s)
  | _, _, _, _, s => s

/-- The same to every look. -/
structure SEq (s s' : St) : Prop where
  tm : ∀ t, getD .un t s'.tm = getD .un t s.tm
  st : ∀ b, look b s'.st = look b s.st
  nx : s'.nx = s.nx
  uq : uniq s'.st

theorem effS_tm (o : Oper) (out : Outc) (s : St) (t : Nat) : getD .un t (effS o out s).tm = if o.dst = some t then out.val else getD .un t s.tm := by
  simp only [effS, putD]
  cases o.dst with
  | none => simp
  | some d =>
    simp only [getD_put, Option.some.injEq]
    by_cases h : t = d
    · subst h; simp
    · simp [h, Ne.symm h]

theorem effS_st (o : Oper) (out : Outc) (s : St) (hs : uniq s.st) (b : Nat) : look b (effS o out s).st = match effU out.upd b with | some x => x | none => look b s.st := look_applyU _ _ hs

theorem effS_uq (o : Oper) (out : Outc) (s : St) (hs : uniq s.st) : uniq (effS o out s).st := uniq_applyU _ hs

theorem sig_uq : ∀ (l : List Oper) (outs : List Outc) (D : Nat → Bool) (i : Nat) (s : St), uniq s.st → uniq (sig l outs D i s).st
  | [], _, _, _, _, h => by simpa [sig] using h
  | _ :: _, [], _, _, _, h => by simpa [sig] using h
  | o :: l, out :: outs, D, i, s, h => by
    simp only [sig]
    apply sig_uq
    split
    · exact effS_uq _ _ _ h
    · exact h

theorem sig_nx : ∀ (l : List Oper) (outs : List Outc) (D : Nat → Bool) (i : Nat) (s : St), (sig l outs D i s).nx = s.nx
  | [], _, _, _, _ => by simp [sig]
  | _ :: _, [], _, _, _ => by simp [sig]
  | o :: l, out :: outs, D, i, s => by
    simp only [sig]
    rw [sig_nx]
    split <;> rfl

/-- Writers of a temporary. -/
def wT (l : List Oper) (t k : Nat) : Prop := ∃ o, l[k]? = some o ∧ o.dst = some t

/-- Writers of a block. -/
def wB (outs : List Outc) (b k : Nat) : Prop := ∃ out, outs[k]? = some out ∧ b ∈ upIds out.upd

theorem sig_tm (t : Nat) : ∀ (l : List Oper) (outs : List Outc) (D D' : Nat → Bool) (i : Nat) (s s' : St), (∀ k, wT l t k → D (i + k) = D' (i + k)) → getD .un t s.tm = getD .un t s'.tm →
    getD .un t (sig l outs D i s).tm = getD .un t (sig l outs D' i s').tm
  | [], _, _, _, _, _, _, _, h => by simpa [sig] using h
  | _ :: _, [], _, _, _, _, _, _, h => by simpa [sig] using h
  | o :: l, out :: outs, D, D', i, s, s', hD, h => by
    simp only [sig]
    refine sig_tm t l outs D D' (i + 1) _ _ (fun k hk => ?_) ?_
    · obtain ⟨o', h1, h2⟩ := hk
      have := hD (k + 1) ⟨o', by simpa using h1, h2⟩
      rwa [show i + (k + 1) = i + 1 + k by omega] at this
    · by_cases hd : o.dst = some t
      · have := hD 0 ⟨o, rfl, hd⟩
        simp only [Nat.add_zero] at this
        rw [this]
        split
        · rw [effS_tm, effS_tm, if_pos hd, if_pos hd]
        · exact h
      · have e : ∀ (c : Bool) (s : St), getD .un t (if c = true then effS o out s else s).tm = getD .un t s.tm := by
          intro c s
          split
          · rw [effS_tm, if_neg hd]
          · rfl
        rw [e, e]; exact h

theorem sig_st (b : Nat) : ∀ (l : List Oper) (outs : List Outc) (D D' : Nat → Bool) (i : Nat) (s s' : St), uniq s.st → uniq s'.st → (∀ k, wB outs b k → D (i + k) = D' (i + k)) → look b s.st = look b s'.st →
    look b (sig l outs D i s).st = look b (sig l outs D' i s').st
  | [], _, _, _, _, _, _, _, _, _, h => by simpa [sig] using h
  | _ :: _, [], _, _, _, _, _, _, _, _, h => by simpa [sig] using h
  | o :: l, out :: outs, D, D', i, s, s', hu, hu', hD, h => by
    simp only [sig]
    refine sig_st b l outs D D' (i + 1) _ _ (by split; exact effS_uq _ _ _ hu; exact hu) (by split; exact effS_uq _ _ _ hu'; exact hu') (fun k hk => ?_) ?_
    · obtain ⟨o', h1, h2⟩ := hk
      have := hD (k + 1) ⟨o', by simpa using h1, h2⟩
      rwa [show i + (k + 1) = i + 1 + k by omega] at this
    · by_cases hd : b ∈ upIds out.upd
      · have := hD 0 ⟨out, rfl, hd⟩
        simp only [Nat.add_zero] at this
        rw [this]
        split
        · rw [effS_st _ _ _ hu, effS_st _ _ _ hu', h]
        · exact h
      · have e : ∀ (c : Bool) (s : St), uniq s.st → look b (if c = true then effS o out s else s).st = look b s.st := by
          intro c s hs
          split
          · rw [effS_st _ _ _ hs, effU_none hd]
          · rfl
        rw [e _ _ hu, e _ _ hu']; exact h

def addD (D : Nat → Bool) (i : Nat) (k : Nat) : Bool := D k || Nat.beq k i

theorem addD_of {D : Nat → Bool} {i k : Nat} (h : D k = true) : addD D i k = true := by simp [addD, h]
theorem addD_self {D : Nat → Bool} {i : Nat} : addD D i i = true := by simp [addD]
theorem addD_ne {D : Nat → Bool} {i k : Nat} (h : k ≠ i) : addD D i k = D k := by simp [addD, beq_false.2 h]

/-- One operation more. -/
theorem sig_add : ∀ (l : List Oper) (outs : List Outc) (D : Nat → Bool) (j i : Nat) (s : St) (o : Oper) (out : Outc), uniq s.st → l[i]? = some o → outs[i]? = some out → D (j + i) = false →
    (∀ k t, i < k → D (j + k) = true → o.dst = some t → ¬ wT l t k) → (∀ k b, i < k → D (j + k) = true → b ∈ upIds out.upd → ¬ wB outs b k) →
    SEq (sig l outs (addD D (j + i)) j s) (effS o out (sig l outs D j s))
  | [], _, _, _, _, _, _, _, _, h, _, _, _, _ => by simp at h
  | _ :: _, [], _, _, _, _, _, _, _, _, h, _, _, _ => by simp at h
  | o0 :: l, out0 :: outs, D, j, 0, s, o, out, hu, h1, h2, h3, h4, h5 => by
    simp only [List.getElem?_cons_zero, Option.some.injEq] at h1 h2
    subst h1 h2
    simp only [Nat.add_zero] at h3 ⊢
    simp only [sig]
    rw [if_pos addD_self, if_neg (by rw [h3]; simp)]
    have hk : ∀ k, addD D j (j + 1 + k) = D (j + 1 + k) := fun k => addD_ne (by omega)
    refine ⟨fun t => ?_, fun b => ?_, ?_, effS_uq _ _ _ (sig_uq _ _ _ _ _ hu)⟩
    · rw [effS_tm]
      by_cases hd : o0.dst = some t
      · rw [if_pos hd]
        have : getD .un t (sig l outs (addD D j) (j + 1) (effS o0 out0 s)).tm = getD .un t (sig l outs (fun _ => false) (j + 1) (effS o0 out0 s)).tm := by
          refine sig_tm t _ _ _ _ _ _ _ (fun k hw => ?_) rfl
          rw [hk]
          cases e : D (j + 1 + k)
          · rfl
          · exact (h4 (k + 1) t (by omega) (by rw [show j + (k + 1) = j + 1 + k by omega]; exact e) hd (by obtain ⟨o', p, q⟩ := hw; exact ⟨o', by simpa using p, q⟩)).elim
        rw [this]
        have hno : ∀ (l : List Oper) (outs : List Outc) (i : Nat) (s : St), sig l outs (fun _ => false) i s = s := by
          intro l
          induction l with
          | nil => intro outs i s; simp [sig]
          | cons a l ih =>
            intro outs i s
            cases outs with
            | nil => simp [sig]
            | cons c outs => simp [sig, ih]
        rw [hno, effS_tm, if_pos hd]
      · rw [if_neg hd]
        exact sig_tm t _ _ _ _ _ _ _ (fun k _ => (hk k).symm) (by rw [effS_tm, if_neg hd])
    · rw [effS_st _ _ _ (sig_uq _ _ _ _ _ hu)]
      by_cases hd : b ∈ upIds out0.upd
      · have hno : ∀ (l : List Oper) (outs : List Outc) (i : Nat) (s : St), sig l outs (fun _ => false) i s = s := by
          intro l
          induction l with
          | nil => intro outs i s; simp [sig]
          | cons a l ih =>
            intro outs i s
            cases outs with
            | nil => simp [sig]
            | cons c outs => simp [sig, ih]
        have hz : ∀ k, wB outs b k → D (j + 1 + k) = false := fun k hw => by
          cases e : D (j + 1 + k)
          · rfl
          · exact (h5 (k + 1) b (by omega) (by rw [show j + (k + 1) = j + 1 + k by omega]; exact e) hd (by obtain ⟨o', p, q⟩ := hw; exact ⟨o', by simpa using p, q⟩)).elim
        have e1 : look b (sig l outs (addD D j) (j + 1) (effS o0 out0 s)).st = look b (effS o0 out0 s).st := by
          rw [sig_st b l outs _ (fun _ => false) (j + 1) _ (effS o0 out0 s) (effS_uq _ _ _ hu) (effS_uq _ _ _ hu) (fun k hw => by rw [hk]; exact hz k hw) rfl, hno]
        have e2 : look b (sig l outs D (j + 1) s).st = look b s.st := by
          rw [sig_st b l outs _ (fun _ => false) (j + 1) _ s hu hu (fun k hw => hz k hw) rfl, hno]
        rw [e1, e2, effS_st _ _ _ hu]
      · rw [effU_none hd]
        exact sig_st b _ _ _ _ _ _ _ hu (effS_uq _ _ _ hu) (fun k _ => (hk k).symm) (by rw [effS_st _ _ _ hu, effU_none hd])
    · rw [sig_nx]; simp only [effS]; rw [sig_nx]
  | o0 :: l, out0 :: outs, D, j, i + 1, s, o, out, hu, h1, h2, h3, h4, h5 => by
    simp only [List.getElem?_cons_succ] at h1 h2
    simp only [sig]
    have e : addD D (j + (i + 1)) j = D j := addD_ne (by omega)
    rw [e]
    have := sig_add l outs D (j + 1) i (if D j = true then effS o0 out0 s else s) o out (by split; exact effS_uq _ _ _ hu; exact hu) h1 h2 (by rw [show j + 1 + i = j + (i + 1) by omega]; exact h3)
      (fun k t hk hD hd hw => h4 (k + 1) t (by omega) (by rw [show j + (k + 1) = j + 1 + k by omega]; exact hD) hd (by obtain ⟨o', p, q⟩ := hw; exact ⟨o', by simpa using p, q⟩))
      (fun k b hk hD hd hw => h5 (k + 1) b (by omega) (by rw [show j + (k + 1) = j + 1 + k by omega]; exact hD) hd (by obtain ⟨o', p, q⟩ := hw; exact ⟨o', by simpa using p, q⟩))
    rw [show j + 1 + i = j + (i + 1) by omega] at this
    exact this

end Go.Ev
