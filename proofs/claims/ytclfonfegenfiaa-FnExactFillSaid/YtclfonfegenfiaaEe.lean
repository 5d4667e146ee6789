/- An abstract evaluator of Go code over plain data, and the proof that what it says of a function comes to pass. Part 5. -/
import Derived.Test.YtclfonfegenfiaaEd
import Derived.Shelf.Strings.Builder1
import Derived.WalkKit

set_option linter.unusedVariables false
set_option linter.unusedSimpArgs false

/- strings.Builder: what its methods do to a block that is one. -/
namespace Go.Ev
open Go.Shelf Go.Proofs

variable {P : Program} {ρ : Ren}

/-- A builder turns, and nothing else. -/
structure BldMv (w w' : World) (g : Nat) (fp fp' : List Nat) : Prop where
  os : w'.os = w.os
  tape : w'.tape = w.tape
  output : w'.output = w.output
  size : w.heap.size ≤ w'.heap.size
  heap : ∀ k, k < w.heap.size → k ≠ g → k ∉ fp → w'.heap[k]? = w.heap[k]?
  fp : ∀ k ∈ fp', k < w'.heap.size ∧ (k ∈ fp ∨ w.heap.size ≤ k)

theorem BldAt.fresh {w : World} {g t u : Nat} {l : List UInt8} {fp : List Nat} (h : BldAt w g t u l fp) : fp.Nodup ∧ g ∉ fp := by
  obtain ⟨p, v, h1, h2, h3, rfl, h5⟩ := h
  have := Lib.ownBlock_ne h3 h2 h5
  cases e : v.ownBlock with
  | none => simp
  | some k =>
    rw [e] at this
    simp
    exact fun e => this (by rw [e])

/-- The frame at a builder's method. -/
theorem enters_bld {t u : Nat} {l : List UInt8} {aa : List AV} {E : Env} {X : Cx} {vals : List Value} (hE : Enters (.pb 0 0 [] :: aa) [.bld t u l] E X vals) :
    ∃ g fp vs, vals = .pointer (some ⟨g, 0, none⟩) :: vs ∧ VRels X aa vs ∧ X.cm 0 = some (.bld g fp) ∧ BldAt X.w g t u l fp ∧ ∀ k ∈ g :: fp, k < X.w.heap.size := by
  have hl : look 0 X.s.st = some (.bld t u l) := by rw [hE.s]; rfl
  obtain ⟨cb, h1, h2, h3, h4⟩ := hE.rel.blk 0 _ hl
  cases h2 with
  | @bld g _ _ _ fp hb =>
    have hv := hE.vals
    generalize hvs : vals = vv at hv
    cases hv with
    | cons ha hr =>
      cases ha with
      | @pb _ _ _ cb' g' og hc hbase _ _ =>
        rw [h1] at hc
        cases hc
        simp only [CB.base, Option.some.injEq, Prod.mk.injEq] at hbase
        obtain ⟨rfl, rfl⟩ := hbase
        exact ⟨g, fp, _, by simp [poff], hr, h1, hb, fun k hk => (h4 k hk).1⟩

/-- A method that writes. -/
theorem fnOk_bldW {f : Nat} (hf : ∃ fn, P.funcs[f]? = some fn ∧ fn.name ≠ "runtime.NumGoroutine" ∧ fn.body.isSome = true) {t u : Nat} {l l' : List UInt8} {aa : List AV} {rv : AV}
    (h : ∀ X g fp vs, VRels X aa vs → BldAt X.w g t u l fp → Calls P f (.pointer (some ⟨g, 0, none⟩) :: vs).toArray X.w fun e w' => ∃ val fp', e = .returned val ∧ (∀ Y, VRel Y rv val) ∧ BldAt w' g t u l' fp' ∧ BldMv X.w w' g fp fp') :
    FnOk P f (.pb 0 0 [] :: aa) [.bld t u l] rv [some (.bld t u l')] [] := by
  refine ⟨hf, fun E X vals hE => ?_⟩
  obtain ⟨g, fp, vs, rfl, hr, hc, hb, hlt⟩ := enters_bld hE
  refine (h X g fp vs hr hb).mono ?_
  rintro e w' ⟨val, fp', rfl, hv, hb', hm⟩
  have hl : look 0 X.s.st = some (.bld t u l) := by rw [hE.s]; rfl
  have hS : SetBlk E X 0 (.bld t u l) (.bld t u l') [] (.bld g fp) (.bld g fp') w' (fun k => k ∈ g :: fp) (setB X 0 (.bld t u l') [] (.bld g fp') w') :=
    ⟨rfl, rfl, rfl, rfl, hl, hc, rfl, (fun _ _ _ e => nomatch e), by simp, hm.os, hm.tape, hm.output, hm.size, fun k hk hT => hm.heap k hk (fun e => hT (by simp [e])) (fun e => hT (by simp [e])), fun k hk => hk⟩
  obtain ⟨n1, n2⟩ := hb'.fresh
  have hG := hS.good (nb := 1) (v := rv) (val := val) hE.rel (fun _ => .bld hb') (by simp only [CB.fp, List.nodup_cons]; exact ⟨n2, n1⟩)
    (fun k hk => by
      simp only [CB.fp, List.mem_cons] at hk
      rcases hk with rfl | hk
      · exact ⟨Nat.lt_of_lt_of_le (hlt _ (by simp)) hm.size, .inr ⟨0, _, _, .inl rfl, hl, hc, by simp [CB.fp]⟩⟩
      · obtain ⟨k1, k2⟩ := hm.fp k hk
        refine ⟨k1, ?_⟩
        rcases k2 with k2 | k2
        · exact .inr ⟨0, _, _, .inl rfl, hl, hc, by simp [CB.fp, k2]⟩
        · exact .inl k2)
    (fun _ => hv _)
  refine ⟨val, _, rfl, rfl, hG.rel, .of rfl, fun b cb hb1 hcb => ?_, fun b => ?_, hv _⟩
  · have : b = 0 := by simp at hb1; omega
    subst this
    rw [hc] at hcb
    cases hcb
    exact ⟨.bld g fp', by simp [setB], rfl⟩
  · have e : (setB X 0 (.bld t u l') [] (.bld g fp') w').s.st = [(0, .bld t u l')] := by
      simp [setB, hE.s, init, enum, applyU, kills, put]
    rw [e]
    by_cases h0 : b = 0
    · subst h0; simp [look]
    · have : ¬ b < [Blk.bld t u l].length := by simp; omega
      rw [if_neg this]
      simp [look, beq_false.2 (Ne.symm h0)]

/-- A method that takes all; the builder is not known behind it. -/
theorem fnOk_bldT {f : Nat} (hf : ∃ fn, P.funcs[f]? = some fn ∧ fn.name ≠ "runtime.NumGoroutine" ∧ fn.body.isSome = true) {t u : Nat} {l : List UInt8} {rv : AV}
    (h : ∀ (X : Cx) g fp, BldAt X.w g t u l fp → Calls P f #[.pointer (some ⟨g, 0, none⟩)] X.w fun e w' => ∃ val, e = .returned val ∧ (∀ Y, VRel Y rv val) ∧ BldMv X.w w' g fp []) :
    FnOk P f [.pb 0 0 []] [.bld t u l] rv [none] [] := by
  refine ⟨hf, fun E X vals hE => ?_⟩
  obtain ⟨g, fp, vs, rfl, hr, hc, hb, hlt⟩ := enters_bld hE
  cases hr
  refine (h X g fp hb).mono ?_
  rintro e w' ⟨val, rfl, hv, hm⟩
  have hl : look 0 X.s.st = some (.bld t u l) := by rw [hE.s]; rfl
  let X' : Cx := { cm := X.cm, S := X.S, s := { X.s with st := [] }, w := w' }
  have hlk : ∀ b, look b X.s.st = if b = 0 then some (.bld t u l) else none := by
    intro b
    rw [hE.s]
    by_cases h0 : b = 0
    · subst h0; rfl
    · simp [init, enum, look, h0, beq_false.2 (Ne.symm h0)]
  have hmv : Mv X X' (fun k => k = 0) (fun k => k ∈ g :: fp) := by
    refine ⟨.same rfl, hm.os, hm.tape, hm.output, hm.size, fun k hk hT => hm.heap k hk (fun e => hT (by simp [e])) (fun e => hT (by simp [e])), fun k hk => ⟨0, _, _, rfl, hl, hc, hk⟩, fun b hb => ?_, fun b _ => rfl, fun b c _ hc => ⟨c, hc, c.same_refl⟩, fun b c ro' v' ps' _ _ hl => by cases hl⟩
    rw [hlk, if_neg hb]; rfl
  refine ⟨val, X', rfl, rfl, hmv.rel hE.rel trivial ?_ ?_, .of rfl, fun b cb _ hcb => ⟨cb, hcb, cb.same_refl⟩, fun b => ?_, hv _⟩
  · intro b x' _ hl'; cases hl'
  · intro b b' x x' c c' k _ _ hl'; cases hl'
  · show look b [] = _
    by_cases h0 : b < 1
    · have : b = 0 := by omega
      subst this
      simp [look]
    · simp only [List.length_cons, List.length_nil]
      rw [if_neg h0]
      simp [look]

end Go.Ev

/- strings.Builder: the walks. -/
namespace Go.Ev
open Go.Shelf Go.Proofs Go.RowKit

variable {P : Program} {ρ : Ren}

section
variable (w : World) (base : Nat) (t ty e : TypeId) (i : TypeInfo) (ht : P.underlying t = some (.slice e)) (hi : P.info? e = some i) (hz : i.zero = some (.int .u8 0)) (hsize : i.size = 1) (hby : i.bytes = 1)
variable {v : Value} {n : Nat} {xs : List Value} (hown : w.ownsRow 0 e 1 v n xs)
include ht hi hz hsize hby hown

/-- The row is the old one, or new. -/
theorem app_row {a : Addr} {m c : Nat} {news : List Value} (hl : news.length = m * 1) (hnews : ∀ j u, news[j]? = some u → w.cell? (a.add j) = some u) (h1 : ∀ u ∈ news, u.oneCell' = true) (h63 : n + m ≤ 140737488355328) {v' : Value} {w' : World}
    (hr : (Builtin.append_ #[t, t] ty #[v, .slice (some a) m c]).run P w = .ok v' w') : ∀ k, v'.ownBlock = some k → v.ownBlock = some k ∨ w.heap.size ≤ k := by
  intro k hk
  have hm : (n + m) ≤ maxLen := by unfold maxLen; omega
  rcases hown.2 with ⟨rfl, rfl⟩ | ⟨g, cap, cur, rfl, hbg, hg, hnc, hcm, hcs, htake⟩
  · obtain ⟨v2, w2, r1, r2, _⟩ := run_append_own (P := P) w w.heap.size t ty e i (.int .u8 0) 1 1 ht hi hz hsize hby rfl (by decide) _ 0 xs ⟨hown.1, .inl ⟨rfl, rfl⟩⟩ a m c news hl hnews h1 hm (by omega) (Nat.le_refl _)
    rw [hr] at r1
    cases r1
    exact .inr (r2.lt k hk).1
  · by_cases hroom : n + m ≤ cap
    · have := run_append_room (P := P) w t ty e i ht hi g n cap cur hg a m c news (by rw [hsize]; exact hl) hnews h1 hroom (by rw [hsize, hl, hcs]; omega)
      rw [hr] at this
      cases this
      exact .inl hk
    · have := run_append_grow (P := P) w t ty e i (.int .u8 0) ht hi hz ⟨g, 0, none⟩ n cap xs (by rw [hsize]; exact hown.1) (hown.cells (g := g) rfl) a m c news (by rw [hsize]; exact hl) hnews (by omega) (by omega) (growslice_fits (by omega) (by rw [hby]; omega))
      rw [hr] at this
      cases this
      simp only [Value.ownBlock, Option.some.injEq] at hk
      exact .inr (by omega)

theorem app_rowS {u : TypeId} (hu : P.underlying u = some .string) {s : ByteArray} (h63 : n + s.size ≤ 140737488355328) {v' : Value} {w' : World}
    (hr : (Builtin.append_ #[t, u] ty #[v, .string s]).run P w = .ok v' w') : ∀ k, v'.ownBlock = some k → v.ownBlock = some k ∨ w.heap.size ≤ k := by
  intro k hk
  have hm : n + s.size ≤ maxLen := by unfold maxLen; omega
  rcases hown.2 with ⟨rfl, rfl⟩ | ⟨g, cap, cur, rfl, hbg, hg, hnc, hcm, hcs, htake⟩
  · obtain ⟨v2, w2, r1, r2, _⟩ := Lib.run_append_own_string (P := P) w w.heap.size t u ty e i ht hu hi hz hsize hby _ 0 xs ⟨hown.1, .inl ⟨rfl, rfl⟩⟩ s hm (by omega) (Nat.le_refl _)
    rw [hr] at r1
    cases r1
    exact .inr (r2.lt k hk).1
  · by_cases hroom : n + s.size ≤ cap
    · have := Lib.run_append_room_string (P := P) w t u ty e i ht hu hi hsize g n cap cur hg s hroom (by rw [hcs]; omega)
      rw [hr] at this
      cases this
      exact .inl hk
    · have := Lib.run_append_grow_string (P := P) w t u ty e i (.int .u8 0) ht hu hi hz ⟨g, 0, none⟩ n cap xs (by rw [hsize]; exact hown.1) (hown.cells (g := g) rfl) s (by omega) (by omega) (by rw [hby]; exact growslice_fits (by omega) (by omega))
      rw [hr] at this
      cases this
      simp only [Value.ownBlock, Option.some.injEq] at hk
      exact .inr (by omega)
end

theorem wpList_app {ops : Array Oper} {rest : List Oper} {o : Oper} {a : Act} {Q : Exit → Act → World → Prop} (w : World) (hgd : o.guard = none) (s x : Operand) (t : TypeId)
    (ho : o.op = .call { callee := .builtin .append, args := #[s, x], argTypes := #[t, t] })
    (e : TypeId) (i : TypeInfo) (ht : P.underlying t = some (.slice e)) (hi : P.info? e = some i) (hz : i.zero = some (.int .u8 0)) (hsize : i.size = 1) (hby : i.bytes = 1)
    (v : Value) (n : Nat) (xs : List Value) (hs : a.eval s = v) (hown : w.ownsRow 0 e 1 v n xs)
    (ad : Addr) (m c : Nat) (news : List Value) (hx : a.eval x = .slice (some ad) m c) (hl : news.length = m * 1) (hnews : ∀ j u, news[j]? = some u → w.cell? (ad.add j) = some u) (h1 : ∀ u ∈ news, u.oneCell' = true)
    (hbytes : n + m ≤ 140737488355328)
    (h : ∀ v' w', w'.ownsRow 0 e 1 v' (n + m) (xs ++ news) → w.grownBy w' v.ownBlock → (∀ k, v'.ownBlock = some k → v.ownBlock = some k ∨ w.heap.size ≤ k) → wpList P ops Q rest (a.put o.dst v') w') : wpList P ops Q (o :: rest) a w := by
  refine wpList_plain hgd fun K hK => ?_
  obtain ⟨v', w', hr, h2, h3, h4⟩ := run_append_own (P := P) w 0 t o.type e i (.int .u8 0) 1 1 ht hi hz hsize hby rfl (by decide) v n xs hown ad m c news hl hnews h1 (by unfold maxLen; omega) (by omega) (Nat.zero_le _)
  unfold Oper.wp execOp
  have hf := app_row w t o.type e i ht hi hz hsize hby hown hl hnews h1 hbytes hr
  simp only [ho, resolve, invoke, builtin, Sem.run_bind, Sem.run_pure, Result.andThen_ok, List.map_toArray, List.map_cons, List.map_nil, hs, hx, hr]
  exact hK _ _ (h v' w' h2 h3 hf)

theorem wpList_appS {ops : Array Oper} {rest : List Oper} {o : Oper} {a : Act} {Q : Exit → Act → World → Prop} (w : World) (hgd : o.guard = none) (sl x : Operand) (t u : TypeId)
    (ho : o.op = .call { callee := .builtin .append, args := #[sl, x], argTypes := #[t, u] })
    (e : TypeId) (i : TypeInfo) (ht : P.underlying t = some (.slice e)) (hu : P.underlying u = some .string) (hi : P.info? e = some i) (hz : i.zero = some (.int .u8 0)) (hsize : i.size = 1) (hby : i.bytes = 1)
    (v : Value) (n : Nat) (xs : List Value) (hs : a.eval sl = v) (hown : w.ownsRow 0 e 1 v n xs) (s : ByteArray) (hx : a.eval x = .string s)
    (hbytes : n + s.size ≤ 140737488355328)
    (h : ∀ v' w', w'.ownsRow 0 e 1 v' (n + s.size) (xs ++ Lib.strCells s) → w.grownBy w' v.ownBlock → (∀ k, v'.ownBlock = some k → v.ownBlock = some k ∨ w.heap.size ≤ k) → wpList P ops Q rest (a.put o.dst v') w') : wpList P ops Q (o :: rest) a w := by
  refine wpList_plain hgd fun K hK => ?_
  obtain ⟨v', w', hr, h2, h3, h4⟩ := Lib.run_append_own_string (P := P) w 0 t u o.type e i ht hu hi hz hsize hby v n xs hown s (by unfold maxLen; omega) hbytes (Nat.zero_le _)
  unfold Oper.wp execOp
  have hf := app_rowS w t o.type e i ht hi hz hsize hby hown hu hbytes hr
  simp only [ho, resolve, invoke, builtin, Sem.run_bind, Sem.run_pure, Result.andThen_ok, List.map_toArray, List.map_cons, List.map_nil, hs, hx, hr]
  exact hK _ _ (h v' w' h2 h3 hf)

/-- Behind copyCheck. -/
structure Used (w w' : World) (g t u : Nat) (l : List UInt8) (v : Value) : Prop where
  os : w'.os = w.os
  tape : w'.tape = w.tape
  output : w'.output = w.output
  size : w'.heap.size = w.heap.size
  heap : ∀ k, k ≠ g → w'.heap[k]? = w.heap[k]?
  blk : w'.heap[g]? = some (.cells #[.pointer (some ⟨g, 0, none⟩), v] t (0, 0))
  own : w'.ownsRow 0 u 1 v l.length (Lib.byteCells l)
  ne : v.ownBlock ≠ some g

theorem bld_copyCheck (L : Lays.n240 P ρ) (X : Builder.X72 P ρ) {w : World} {g u : Nat} {l : List UInt8} {fp : List Nat} (h : BldAt w g (ρ.t 72) u l fp) :
    Calls P (ρ.f 240) #[.pointer (some ⟨g, 0, none⟩)] w fun e w' => e = .returned (.tuple #[]) ∧ ∃ v, fp = v.ownBlock.toList ∧ Used w w' g (ρ.t 72) u l v := by
  obtain ⟨p, v, hp, h2, h3, h4, h5⟩ := h
  have hne := Lib.ownBlock_ne h3 h2 h5
  have c0 : w.cell? ⟨g, 0, none⟩ = some p := by rw [Lib.cell_of_heap h2]; rfl
  rcases hp with rfl | rfl
  · refine (Any.Builder_copyCheck_fresh L X g w c0 (by simp [World.shape?, h2]) (by simp [World.frozen?, h2])).mono ?_
    rintro e w' ⟨rfl, rfl⟩
    have hh : ∀ k, k ≠ g → (w.setCell ⟨g, 0, none⟩ (.pointer (some ⟨g, 0, none⟩))).heap[k]? = w.heap[k]? := fun k hk => Below.heap_setCell _ _ _ _ hk
    refine ⟨rfl, v, h4, ⟨rfl, rfl, rfl, by simp [World.setCell], hh, by simp [World.setCell, Array.getElem?_modify, h2], ?_, hne⟩⟩
    exact h3.kept (row := some g) ⟨rfl, rfl, rfl, by simp [World.setCell], fun k _ hk => hh k fun e => hk (by simp [e])⟩ (.inr hne)
  · refine (Any.Builder_copyCheck_used L X g w c0).mono ?_
    rintro e w' ⟨rfl, rfl⟩
    exact ⟨rfl, v, h4, ⟨rfl, rfl, rfl, rfl, fun _ _ => rfl, h2, h3, hne⟩⟩

/-- The last store of a writing method. -/
theorem bld_put {w w1 w2 : World} {g t u : Nat} {l l' : List UInt8} {v v' : Value} (h1 : Used w w1 g t u l v) (hw : w1.heap.size ≤ w2.heap.size) (ho : w2.os = w1.os) (hta : w2.tape = w1.tape) (hou : w2.output = w1.output)
    (hb : ∀ k, k < w1.heap.size → some k ≠ v.ownBlock → w2.heap[k]? = w1.heap[k]?) (hown : w2.ownsRow 0 u 1 v' l'.length (Lib.byteCells l')) (hf : ∀ k, v'.ownBlock = some k → v.ownBlock = some k ∨ w1.heap.size ≤ k) (hne : t ≠ u) :
    BldAt (w2.setCell ⟨g, 1, none⟩ v') g t u l' v'.ownBlock.toList ∧ BldMv w (w2.setCell ⟨g, 1, none⟩ v') g v.ownBlock.toList v'.ownBlock.toList := by
  have hlt : g < w1.heap.size := (Array.getElem?_eq_some_iff.1 h1.blk).1
  have hb2 : w2.heap[g]? = some (.cells #[.pointer (some ⟨g, 0, none⟩), v] t (0, 0)) := (hb g hlt fun e => h1.ne e.symm).trans h1.blk
  have hne' := Lib.ownBlock_ne hown hb2 hne
  have hh : ∀ k, k ≠ g → (w2.setCell ⟨g, 1, none⟩ v').heap[k]? = w2.heap[k]? := fun k hk => Below.heap_setCell _ _ _ _ hk
  refine ⟨⟨_, v', .inr rfl, by simp [World.setCell, Array.getElem?_modify, hb2], ?_, rfl, hne⟩, ⟨ho.trans h1.os, hta.trans h1.tape, hou.trans h1.output, by simp [World.setCell]; rw [← h1.size]; exact hw, ?_, ?_⟩⟩
  · exact hown.kept (row := some g) ⟨rfl, rfl, rfl, by simp [World.setCell], fun k _ hk => hh k fun e => hk (by simp [e])⟩ (.inr hne')
  · intro k hk hkg hkf
    rw [hh k hkg, hb k (by rw [h1.size]; exact hk) (fun e => hkf (by simp [← e])), h1.heap k hkg]
  · intro k hk
    have hk : v'.ownBlock = some k := by simpa using hk
    refine ⟨by simp [World.setCell]; exact (hown.lt k hk).2, ?_⟩
    rcases hf k hk with e | e
    · exact .inl (by simp [e])
    · exact .inr (by rw [← h1.size]; exact e)


theorem byteCells_snoc (l : List UInt8) {c : Int} (h0 : 0 ≤ c) (h1 : c < 256) : Lib.byteCells (l ++ [UInt8.ofNat c.toNat]) = Lib.byteCells l ++ [.int .u8 c] := by
  rw [Lib.byteCells_append]
  have : (UInt8.ofNat c.toNat).toNat = c.toNat := by simp; omega
  simp only [Lib.byteCells, List.map_cons, List.map_nil, this]
  rw [Int.toNat_of_nonneg h0]

set_option maxHeartbeats 2000000 in
set_option maxRecDepth 100000 in
theorem bld_writeByte (L : Lays.n167 P ρ) (X : Builder.Extra P ρ) {w : World} {g : Nat} {l : List UInt8} {fp : List Nat} {c : Int} (h : BldAt w g (ρ.t 72) (ρ.t 5) l fp) (h0 : 0 ≤ c) (h1 : c < 256) (hlen : l.length + 1 ≤ 140737488355328) :
    Calls P (ρ.f 167) #[.pointer (some ⟨g, 0, none⟩), .int .u8 c] w fun e w' => ∃ fp', e = .returned .nilIface ∧ BldAt w' g (ρ.t 72) (ρ.t 5) (l ++ [UInt8.ofNat c.toNat]) fp' ∧ BldMv w w' g fp fp' := by
  obtain ⟨i0, hi, hz0, hz1, hz2⟩ := info_parts X.infoByte
  have mixed := L.mixed
  have t72 := L.t72; have a72 := L.a72; have z72 := L.z72; have v72 := L.v72; have u72 := run_underlying L.t72
  have t70 := L.t70; have a70 := L.a70; have z70 := L.z70; have v70 := L.v70; have u70 := run_underlying L.t70
  have t5 := L.t5; have a5 := L.a5; have z5 := L.z5; have v5 := L.v5; have u5 := run_underlying L.t5
  have t37 := L.t37; have a37 := L.a37; have z37 := L.z37; have v37 := L.v37; have u37 := run_underlying L.t37
  have t9 := L.t9; have a9 := L.a9; have z9 := L.z9; have v9 := L.v9; have u9 := run_underlying L.t9
  have t4 := L.t4; have a4 := L.a4; have z4 := L.z4; have v4 := L.v4; have u4 := run_underlying L.t4
  have t164 := L.t164; have a164 := L.a164; have z164 := L.z164; have v164 := L.v164; have u164 := run_underlying L.t164
  have e240 : ∀ args w, (callFunc (ρ.f 240) args).run P w = .ok (.enter (ρ.f 240) args) w := enters_of L.f240 (by kernel_rfl) rfl
  go_enter L.f167, Body.n167_ntmps ρ
  go_wp2_with (go_at_fn (ρ.f 240); refine (bld_copyCheck { L with } X.toX72 h).mono ?_)
  rintro e w1 ⟨rfl, v, rfl, hu⟩
  have hbk := hu.blk
  have c0 : w1.cell? ⟨g, 0, none⟩ = some (.pointer (some ⟨g, 0, none⟩)) := by rw [Lib.cell_of_heap hbk]; rfl
  have c1 : w1.cell? ⟨g, 1, none⟩ = some v := by rw [Lib.cell_of_heap hbk]; rfl
  have hlt : g < w1.heap.size := (Array.getElem?_eq_some_iff.1 hbk).1
  go_wp2_with (at_builtin; refine wpList_app _ rfl _ _ (ρ.t 37) rfl (ρ.t 5) i0 L.t37 hi hz0 hz1 hz2 _ _ _ rfl (hu.own.alloc _) ⟨w1.heap.size, 0, none⟩ 1 1 [.int .u8 c] rfl rfl ?c1 ?c2 ?c3 ?_)
  case c1 =>
    intro j u hj
    match j, hj with
    | 0, hj => simp at hj; subst hj; simp [Addr.add]
  case c2 => intro u hu; simp at hu; subst hu; rfl
  case c3 => exact hlen
  intro v' w2 hown' hgrow hfr
  have hb : ∀ k, k < w1.heap.size → some k ≠ v.ownBlock → w2.heap[k]? = w1.heap[k]? := fun k hk hn => (hgrow.block k (by simp; omega) hn).trans (Lib.alloc_old w1 _ k hk)
  have hb2 : w2.heap[g]? = some (.cells #[.pointer (some ⟨g, 0, none⟩), v] (ρ.t 72) (0, 0)) := (hb g hlt fun e => hu.ne e.symm).trans hbk
  have d0 : w2.cell? ⟨g, 0, none⟩ = some (.pointer (some ⟨g, 0, none⟩)) := by rw [Lib.cell_of_heap hb2]; rfl
  have d1 : w2.cell? ⟨g, 1, none⟩ = some v := by rw [Lib.cell_of_heap hb2]; rfl
  have f1 : w2.frozen? ⟨g, 1, none⟩ = false := Lib.frozen_of_heap hb2 1
  have hs : w1.heap.size < w2.heap.size := by have := hgrow.size; simp at this; omega
  obtain ⟨q1, q2⟩ := bld_put (l' := l ++ [UInt8.ofNat c.toNat]) hu (by omega) (hgrow.os) (hgrow.tape) (hgrow.output) hb (by rw [byteCells_snoc l h0 h1]; simpa using hown') (fun k hk => (hfr k hk).imp id fun h => Nat.le_trans (by simp) h) X.neB5
  obtain ⟨k, cap, rfl⟩ : ∃ k cap, v' = .slice (some ⟨k, 0, none⟩) (l.length + 1) cap := by
    rcases hown'.2 with ⟨_, h0⟩ | ⟨k, cap, cur, hv, _⟩
    · omega
    · exact ⟨k, cap, hv⟩
  go_wp2
  go_ret
  exact ⟨_, rfl, q1, q2⟩

set_option maxHeartbeats 2000000 in
set_option maxRecDepth 100000 in
theorem bld_writeString (L : Lays.n166 P ρ) (X : Builder.Extra P ρ) {w : World} {g : Nat} {l : List UInt8} {fp : List Nat} {s : List UInt8} (h : BldAt w g (ρ.t 72) (ρ.t 5) l fp) (hlen : l.length + s.length ≤ 140737488355328) :
    Calls P (ρ.f 166) #[.pointer (some ⟨g, 0, none⟩), .string ⟨⟨s⟩⟩] w fun e w' => ∃ fp', e = .returned (.tuple #[.int .i64 s.length, .nilIface]) ∧ BldAt w' g (ρ.t 72) (ρ.t 5) (l ++ s) fp' ∧ BldMv w w' g fp fp' := by
  obtain ⟨i0, hi, hz0, hz1, hz2⟩ := info_parts X.infoByte
  have mixed := L.mixed
  have t72 := L.t72; have a72 := L.a72; have z72 := L.z72; have v72 := L.v72; have u72 := run_underlying L.t72
  have t70 := L.t70; have a70 := L.a70; have z70 := L.z70; have v70 := L.v70; have u70 := run_underlying L.t70
  have t37 := L.t37; have a37 := L.a37; have z37 := L.z37; have v37 := L.v37; have u37 := run_underlying L.t37
  have t3 := L.t3; have a3 := L.a3; have z3 := L.z3; have v3 := L.v3; have u3 := run_underlying L.t3
  have t9 := L.t9; have a9 := L.a9; have z9 := L.z9; have v9 := L.v9; have u9 := run_underlying L.t9
  have t4 := L.t4; have a4 := L.a4; have z4 := L.z4; have v4 := L.v4; have u4 := run_underlying L.t4
  have t164 := L.t164; have a164 := L.a164; have z164 := L.z164; have v164 := L.v164; have u164 := run_underlying L.t164
  have t5 := X.t5; have a5 := X.a5; have z5 := X.z5; have v5 := X.v5; have u5 := run_underlying X.t5
  have e240 : ∀ args w, (callFunc (ρ.f 240) args).run P w = .ok (.enter (ρ.f 240) args) w := enters_of L.f240 (by kernel_rfl) rfl
  go_enter L.f166, Body.n166_ntmps ρ
  go_wp2_with (go_at_fn (ρ.f 240); refine (bld_copyCheck { L with } X.toX72 h).mono ?_)
  rintro e w1 ⟨rfl, v, rfl, hu⟩
  have hbk := hu.blk
  have c0 : w1.cell? ⟨g, 0, none⟩ = some (.pointer (some ⟨g, 0, none⟩)) := by rw [Lib.cell_of_heap hbk]; rfl
  have c1 : w1.cell? ⟨g, 1, none⟩ = some v := by rw [Lib.cell_of_heap hbk]; rfl
  have hlt : g < w1.heap.size := (Array.getElem?_eq_some_iff.1 hbk).1
  go_wp2_with (at_builtin; refine wpList_appS _ rfl _ _ (ρ.t 37) (ρ.t 9) rfl (ρ.t 5) i0 L.t37 L.t9 hi hz0 hz1 hz2 _ _ _ rfl hu.own ⟨⟨s⟩⟩ rfl ?c3 ?_)
  case c3 => exact hlen
  intro v' w2 hown' hgrow hfr
  have hb2 : w2.heap[g]? = some (.cells #[.pointer (some ⟨g, 0, none⟩), v] (ρ.t 72) (0, 0)) := (hgrow.block g hlt fun e => hu.ne e.symm).trans hbk
  have d0 : w2.cell? ⟨g, 0, none⟩ = some (.pointer (some ⟨g, 0, none⟩)) := by rw [Lib.cell_of_heap hb2]; rfl
  have d1 : w2.cell? ⟨g, 1, none⟩ = some v := by rw [Lib.cell_of_heap hb2]; rfl
  have f1 : w2.frozen? ⟨g, 1, none⟩ = false := Lib.frozen_of_heap hb2 1
  have e1 : (l ++ s).length = l.length + (⟨⟨s⟩⟩ : ByteArray).size := List.length_append
  obtain ⟨q1, q2⟩ := bld_put (l' := l ++ s) hu hgrow.size (hgrow.os) (hgrow.tape) (hgrow.output) hgrow.block (by rw [e1, Lib.byteCells_append]; exact hown') hfr X.neB5
  obtain ⟨ao, n', cap, rfl⟩ : ∃ ao n' cap, v' = .slice ao n' cap := by
    rcases hown'.2 with ⟨hv, _⟩ | ⟨g, cap, cur, hv, _⟩
    · exact ⟨_, _, _, hv⟩
    · exact ⟨_, _, _, hv⟩
  go_wp2
  go_ret2
  exact ⟨_, rfl, q1, q2⟩


theorem BldMv.drew (w : World) (g : Nat) (fp : List Nat) : BldMv w w.drew g fp [] := ⟨rfl, rfl, rfl, Nat.le_refl _, fun _ _ _ _ => rfl, by simp⟩

set_option maxHeartbeats 2000000 in
set_option maxRecDepth 100000 in
theorem bld_string (L : Lays.n169 P ρ) (X : Builder.Extra P ρ) {w : World} {g : Nat} {l : List UInt8} {fp : List Nat} (h : BldAt w g (ρ.t 72) (ρ.t 5) l fp) :
    Calls P (ρ.f 169) #[.pointer (some ⟨g, 0, none⟩)] w fun e w' => e = .returned (.string ⟨⟨l⟩⟩) ∧ BldMv w w' g fp [] := by
  obtain ⟨p, v, hp, h2, h3, rfl, h5⟩ := h
  have hl1 : g < w.heap.size := (Array.getElem?_eq_some_iff.1 h2).1
  have hUS := Any.unsafeString_none L X
  have mixed := L.mixed
  have t72 := L.t72; have a72 := L.a72; have z72 := L.z72; have v72 := L.v72; have u72 := run_underlying L.t72
  have t70 := L.t70; have a70 := L.a70; have z70 := L.z70; have v70 := L.v70; have u70 := run_underlying L.t70
  have t37 := L.t37; have a37 := L.a37; have z37 := L.z37; have v37 := L.v37; have u37 := run_underlying L.t37
  have t127 := L.t127; have a127 := L.a127; have z127 := L.z127; have v127 := L.v127; have u127 := run_underlying L.t127
  have t3 := L.t3; have a3 := L.a3; have z3 := L.z3; have v3 := L.v3; have u3 := run_underlying L.t3
  have t9 := L.t9; have a9 := L.a9; have z9 := L.z9; have v9 := L.v9; have u9 := run_underlying L.t9
  have t5 := X.t5; have a5 := X.a5; have z5 := X.z5; have v5 := X.v5; have u5 := run_underlying X.t5
  rcases h3.2 with ⟨rfl, hn⟩ | ⟨k, cap, cur, rfl, _, hg, hnc, hcm, hcs, htake⟩
  · have hl : l = [] := List.eq_nil_of_length_eq_zero hn
    subst hl
    have c1 : w.drew.cell? ⟨g, 1, none⟩ = some (.slice none 0 0) := by
      have : w.drew.heap[g]? = some (.cells #[p, .slice none 0 0] (ρ.t 72) (0, 0)) := h2
      rw [Lib.cell_of_heap this]; rfl
    have hSD : (Builtin.unsafeSliceData_ #[(ρ.t 37)] (ρ.t 127) #[.slice none 0 0]).run P w.drew = .ok (.pointer none) w.drew := rfl
    go_enter L.f169, Body.n169_ntmps ρ
    go_wp2
    go_region_o
    all_goals (go_wp2; go_ret; exact ⟨rfl, .drew _ _ _⟩)
  · by_cases h0 : l = []
    · subst h0
      by_cases hc0 : cap = 0
      · subst hc0
        have hSD : (Builtin.unsafeSliceData_ #[(ρ.t 37)] (ρ.t 127) #[.slice (some ⟨k, 0, none⟩) 0 0]).run P w.drew = .ok (.pointer (some ⟨w.drew.heap.size, 0, none⟩)) (w.drew.alloc (.view ⟨k, 0, none⟩ (ρ.t 5))) :=
          Lib.run_unsafeSliceData_zero w.drew _ _ (ρ.t 5) L.t127 ⟨k, 0, none⟩ 0 ((ρ.t 5), cur.size) (by have hg' : w.drew.heap[k]? = some (.cells cur (ρ.t 5) (0, 0)) := hg; simp [World.shape?, hg'])
        have c1 : w.drew.cell? ⟨g, 1, none⟩ = some (.slice (some ⟨k, 0, none⟩) 0 0) := by
          have : w.drew.heap[g]? = some (.cells #[p, .slice (some ⟨k, 0, none⟩) 0 0] (ρ.t 72) (0, 0)) := h2
          rw [Lib.cell_of_heap this]; rfl
        have c2 : (w.drew.alloc (.view ⟨k, 0, none⟩ (ρ.t 5))).cell? ⟨g, 1, none⟩ = some (.slice (some ⟨k, 0, none⟩) 0 0) := by
          have : (w.drew.alloc (.view ⟨k, 0, none⟩ (ρ.t 5))).heap[g]? = _ := (Lib.alloc_old w.drew _ g hl1).trans h2
          rw [Lib.cell_of_heap this]; rfl
        have c3 : (w.alloc (.view ⟨k, 0, none⟩ (ρ.t 5))).drew.cell? ⟨g, 1, none⟩ = some (.slice (some ⟨k, 0, none⟩) 0 0) := c2
        have c0 : w.cell? ⟨g, 1, none⟩ = some (.slice (some ⟨k, 0, none⟩) 0 0) := c1
        go_enter L.f169, Body.n169_ntmps ρ
        go_wp2
        go_region_o
        all_goals (go_wp2; go_ret; exact ⟨rfl, ⟨rfl, rfl, rfl, by simp, fun j hj _ _ => Lib.alloc_old _ _ j hj, by simp⟩⟩)
      · have c1 : w.drew.cell? ⟨g, 1, none⟩ = some (.slice (some ⟨k, 0, none⟩) 0 cap) := by
          have : w.drew.heap[g]? = some (.cells #[p, .slice (some ⟨k, 0, none⟩) 0 cap] (ρ.t 72) (0, 0)) := h2
          rw [Lib.cell_of_heap this]; rfl
        have hSD : (Builtin.unsafeSliceData_ #[(ρ.t 37)] (ρ.t 127) #[.slice (some ⟨k, 0, none⟩) 0 cap]).run P w.drew = .ok (.pointer (some ⟨k, 0, none⟩)) w.drew :=
          Lib.run_unsafeSliceData_row _ _ _ _ _ _ hc0
        clear hc0
        go_enter L.f169, Body.n169_ntmps ρ
        go_wp2
        go_region_o
        all_goals (go_wp2; go_ret; exact ⟨rfl, .drew _ _ _⟩)
    · have hl0 : l.length ≠ 0 := by simpa using h0
      have c1 : w.drew.cell? ⟨g, 1, none⟩ = some (.slice (some ⟨k, 0, none⟩) l.length cap) := by
        have : w.drew.heap[g]? = some (.cells #[p, .slice (some ⟨k, 0, none⟩) l.length cap] (ρ.t 72) (0, 0)) := h2
        rw [Lib.cell_of_heap this]; rfl
      have hSD : (Builtin.unsafeSliceData_ #[(ρ.t 37)] (ρ.t 127) #[.slice (some ⟨k, 0, none⟩) l.length cap]).run P w.drew = .ok (.pointer (some ⟨k, 0, none⟩)) w.drew :=
        Lib.run_unsafeSliceData_row _ _ _ _ _ _ (by omega)
      have hUS2 : (Builtin.unsafeString_ #[(ρ.t 127), (ρ.t 3)] (ρ.t 9) #[.pointer (some ⟨k, 0, none⟩), .int .i64 l.length]).run P w.drew = .ok (.string ⟨l.toArray⟩) (w.drew.freeze ⟨k, 0, none⟩ l.length) := by
        refine Lib.run_unsafeString_row w.drew (ρ.t 127) (ρ.t 3) (ρ.t 9) (ρ.t 5) L.t127 X.cellsByte k cur.size (by have hg' : w.drew.heap[k]? = some (.cells cur (ρ.t 5) (0, 0)) := hg; simp [World.shape?, hg']) l h0 (by omega) (by unfold maxLen at hcm; omega) ?_
        intro j x hx
        have := h3.cells (g := k) rfl j (.int .u8 x.toNat) (by simp [Lib.byteCells, hx])
        exact this
      have hmv : BldMv w (w.drew.freeze ⟨k, 0, none⟩ l.length) g (Value.ownBlock (.slice (some ⟨k, 0, none⟩) l.length cap)).toList [] := by
        unfold World.freeze
        split
        · exact .drew _ _ _
        · refine ⟨rfl, rfl, rfl, by simp, fun j hj _ hjk => ?_, by simp⟩
          simp only [Array.getElem?_modify]
          rw [if_neg (fun e => hjk (by simp [Value.ownBlock, e]))]
          rfl
      clear hUS
      go_enter L.f169, Body.n169_ntmps ρ
      go_wp2
      go_region_o
      all_goals (go_wp2; go_ret; exact ⟨rfl, hmv⟩)


/-! ### the three methods, as the evaluator wants them -/

def bldByteOk (c : Int) (l : List UInt8) : Bool := decide (0 ≤ c) && decide (c < 256) && Nat.ble (l.length + 1) big
def bldStrOk (s l : List UInt8) : Bool := Nat.ble (l.length + s.length) big

theorem bldByte_ok (L : Lays.n167 P ρ) (X : Builder.Extra P ρ) {c : Int} {l : List UInt8} (h : bldByteOk c l = true) :
    FnOk P (ρ.f 167) [.pb 0 0 [], .int .u8 c] [.bld (ρ.t 72) (ρ.t 5) l] .nili [some (.bld (ρ.t 72) (ρ.t 5) (l ++ [UInt8.ofNat c.toNat]))] [] := by
  simp only [bldByteOk, Bool.and_eq_true, decide_eq_true_eq, Nat.ble_eq] at h
  refine fnOk_bldW (aa := [.int .u8 c]) ⟨_, L.f167, by simp [Body.n167], rfl⟩ fun Y g fp vs hv hb => ?_
  cases hv with
  | cons h1 h2 =>
    cases h1
    cases h2
    refine (bld_writeByte L X hb h.1.1 h.1.2 (Nat.le_trans h.2 (by decide))).mono ?_
    rintro e w' ⟨fp', rfl, k1, k2⟩
    exact ⟨_, fp', rfl, fun _ => .nili, k1, k2⟩

theorem bldStr_ok (L : Lays.n166 P ρ) (X : Builder.Extra P ρ) {s l : List UInt8} (h : bldStrOk s l = true) :
    FnOk P (ρ.f 166) [.pb 0 0 [], .str s] [.bld (ρ.t 72) (ρ.t 5) l] (.tup [.int .i64 (s.length : Int), .nili]) [some (.bld (ρ.t 72) (ρ.t 5) (l ++ s))] [] := by
  simp only [bldStrOk, Nat.ble_eq] at h
  refine fnOk_bldW (aa := [.str s]) ⟨_, L.f166, by simp [Body.n166], rfl⟩ fun Y g fp vs hv hb => ?_
  cases hv with
  | cons h1 h2 =>
    cases h1
    cases h2
    refine (bld_writeString L X hb (Nat.le_trans h (by decide))).mono ?_
    rintro e w' ⟨fp', rfl, k1, k2⟩
    exact ⟨_, fp', rfl, fun _ => .tup (.cons (.int _ _) (.cons .nili .nil)), k1, k2⟩

theorem bldEnd_ok (L : Lays.n169 P ρ) (X : Builder.Extra P ρ) {l : List UInt8} :
    FnOk P (ρ.f 169) [.pb 0 0 []] [.bld (ρ.t 72) (ρ.t 5) l] (.str l) [none] [] := by
  refine fnOk_bldT ⟨_, L.f169, by simp [Body.n169], rfl⟩ fun Y g fp hb => ?_
  refine (bld_string L X hb).mono ?_
  rintro e w' ⟨rfl, k⟩
  exact ⟨_, rfl, fun _ => .str _, k⟩

end Go.Ev
