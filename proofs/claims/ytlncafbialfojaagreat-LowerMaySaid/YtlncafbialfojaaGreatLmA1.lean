/- The abstract machine, what it tells of the model (part 1). No conditions. -/
import Derived.IntWalk
import Derived.Test.YtlncafbialfojaaGreatLmA0
set_option linter.unusedVariables false
set_option linter.unusedSimpArgs false
/- Aggregates, slice literals, maps, make. -/
namespace Go.Ab
section
variable {B : Nat} {P : Program} {g : Gh} {blk : Nat → Option Nat} {w : World} {S S' : AS} {ρ : Opd → AV} {ρ' : Operand → Value} {d : Option Nat} {o : Oper} {v : AV}

theorem fold_set (off : Nat) : ∀ (xs : List Value) (k : Nat) (cells : Array Value), off + k + xs.length ≤ cells.size →
    (((xs.zipIdx k).foldl (fun cs (p : Value × Nat) => cs.setIfInBounds (off + p.2) p.1) cells)).toList = cells.toList.take (off + k) ++ xs ++ cells.toList.drop (off + k + xs.length)
  | [], k, cells, _ => by simp
  | x :: xs, k, cells, h => by
    simp at h
    have ih := fold_set off xs (k + 1) (cells.setIfInBounds (off + k) x) (by simp; omega)
    simp only [List.zipIdx_cons, List.foldl_cons]
    rw [ih, Array.toList_setIfInBounds]
    have hlt : off + k < cells.toList.length := by simp; omega
    have hA : cells.toList = cells.toList.take (off + k) ++ (cells.toList[off + k] :: cells.toList.drop (off + k + 1)) := by
      rw [← List.drop_eq_getElem_cons hlt, List.take_append_drop]
    have hl : (cells.toList.take (off + k)).length = off + k := by simp; omega
    have hset : cells.toList.set (off + k) x = cells.toList.take (off + k) ++ (x :: cells.toList.drop (off + k + 1)) := by
      conv => lhs; rw [hA]
      rw [List.set_append_right _ _ (by omega), hl, Nat.sub_self, List.set_cons_zero]
    rw [hset]
    have e1 : off + (k + 1) = (cells.toList.take (off + k)).length + 1 := by omega
    have e2 : off + (k + 1) + xs.length = (cells.toList.take (off + k)).length + (xs.length + 1) := by omega
    rw [e2, List.drop_length_add_append, e1, List.take_length_add_append, List.drop_succ_cons, List.drop_drop]
    have e3 : off + k + 1 + xs.length = off + k + (x :: xs).length := by simp; omega
    rw [e3]
    simp

theorem fold_arr (off : Nat) (v : Array Value) (cells : Array Value) (h : off + v.size ≤ cells.size) :
    (v.zipIdx.foldl (fun cs (p : Value × Nat) => cs.setIfInBounds (off + p.2) p.1) cells).toList = cells.toList.take off ++ v.toList ++ cells.toList.drop (off + v.size) := by
  have := fold_set off v.toList 0 cells (by simpa using h)
  rw [← Array.foldl_toList]
  simpa using this

theorem fill_sound {place : Nat → Option (Nat × Nat)} : ∀ {qs : List (Nat × Nat × AV)} {vs : List (Nat × Value)} {cs cs' : List AV} {cells : Array Value}, fillA cs qs = some cs' → rels g cs cells.toList → cs.all AV.scalar = true →
    vs.length = qs.length → (∀ (j : Nat) off n a, qs[j]? = some (off, n, a) → ∃ i x, vs[j]? = some (i, x) ∧ place i = some (off, n) ∧ relT g blk a x) →
    ∃ cells', Instr.fill place cells vs = some cells' ∧ rels g cs' cells'.toList ∧ cs'.all AV.scalar = true
  | [], [], cs, cs', cells, h, hr, hs, _, _ => by
    simp only [fillA] at h
    cases h
    exact ⟨cells, rfl, hr, hs⟩
  | (off, n, a) :: qs, (i, x) :: vs, cs, cs', cells, h, hr, hs, hl, hp => by
    obtain ⟨i', x', h1, h2, h3⟩ := hp 0 off n a (by simp)
    simp at h1
    obtain ⟨rfl, rfl⟩ := h1
    simp only [fillA] at h
    split at h
    case isFalse => cases h
    rename_i hok
    obtain ⟨hok, hlen, hle⟩ := hok
    have hx := relT_okv h3 hok
    obtain ⟨k1, k2, _⟩ := okv_cells hx hok
    have hsz : x.cells.size = n := by rw [rel_cells_len hx, hlen]
    have hcl := rels_length hr
    have hsz2 : off + x.cells.size ≤ cells.size := by simp at hcl; omega
    have hf := fold_arr off x.cells cells hsz2
    obtain ⟨cells', r1, r2, r3⟩ := fill_sound (place := place) (qs := qs) (vs := vs) (cells := x.cells.zipIdx.foldl (fun cs (p : Value × Nat) => cs.setIfInBounds (off + p.2) p.1) cells) h
      (by rw [hf]; have := rels_splice off hr k2; simpa using this) (splice_scalar hs k1) (by simpa using hl)
      (fun j off' n' a' hj => by
        obtain ⟨i2, x2, g1, g2⟩ := hp (j + 1) off' n' a' (by simpa using hj)
        exact ⟨i2, x2, by simpa using g1, g2⟩)
    refine ⟨cells', ?_, r2, r3⟩
    have hc : (decide (x.cells.size ≠ n) || decide (off + x.cells.size > cells.size)) = false := by simp [hsz]; omega
    simp only [Instr.fill, h2, hc, Bool.false_eq_true, if_false]
    exact r1
  | [], _ :: _, _, _, _, _, _, _, hl, _ => by simp at hl
  | _ :: _, [], _, _, _, _, _, _, hl, _ => by simp at hl

theorem run_placesL : ∀ (fs : List Field), fs.all (fun f => (sizeB P f.type).isSome) = true →
    (fs.mapM fun f => (do pure (f.offset, ← sizeOf f.type) : Sem (Nat × Nat))).run P w = .ok (fs.map fun f => (f.offset, (sizeB P f.type).getD 0)) w
  | [], _ => by simp
  | f :: fs, h => by
    simp only [List.all_cons, Bool.and_eq_true] at h
    obtain ⟨n, hn⟩ := Option.isSome_iff_exists.1 h.1
    have ih := run_placesL fs h.2
    simp only [List.mapM_cons, Sem.run_bind, run_size hn, Result.andThen_ok, Sem.run_pure, ih, List.map_cons, hn, Option.getD_some]

theorem parts_get {fs : Array Field} : ∀ {ps : List (Nat × Nat × Opd)} {qs : List (Nat × Operand)}, parts P fs ps qs = true → qs.length = ps.length ∧
    ∀ (j : Nat) off n x, ps[j]? = some (off, n, x) → ∃ i y f, qs[j]? = some (i, y) ∧ fs[i]? = some f ∧ f.offset = off ∧ sizeB P f.type = some n ∧ x.ok y = true
  | [], [], _ => by simp
  | (off, n, x) :: r, (i, y) :: s, h => by
    simp only [parts, Bool.and_eq_true] at h
    obtain ⟨⟨h1, h2⟩, h3⟩ := h
    obtain ⟨k1, k2⟩ := parts_get h3
    refine ⟨by simp [k1], fun j off' n' x' hj => ?_⟩
    cases j with
    | zero =>
      simp at hj
      obtain ⟨rfl, rfl, rfl⟩ := hj
      cases e : fs[i]? with
      | none => simp [e] at h1
      | some f =>
        simp [e] at h1
        exact ⟨i, y, f, by simp, e, h1.1, h1.2, h2⟩
    | succ j =>
      obtain ⟨a, b, c, e1, e2⟩ := k2 j off' n' x' (by simpa using hj)
      exact ⟨a, b, c, by simpa using e1, e2⟩
  | [], _ :: _, h => by simp [parts] at h
  | _ :: _, [], h => by simp [parts] at h

theorem s_build {z : List AV} {ps : List (Nat × Nat × Opd)} {t : TypeId} {qs : Array (Nat × Operand)} {fs : Array Field} {zv : Value} (hS : SRel B g blk w.heap S)
    (hρ : ∀ (x : Opd) (y : Operand), x ∈ ps.map (fun p => p.2.2) → x.ok y = true → relT g blk (ρ x) (ρ' y)) (ho : o.op = .build t qs) (hu : P.underlying t = some (.struct fs))
    (hf : fs.all (fun f => (sizeB P f.type).isSome) = true) (hp : parts P fs ps qs.toList = true) (hz : (P.info? t).bind (·.zero) = some zv) (hc : consts z zv.cells.toList = true)
    (h : astep ρ d S (.build z ps) = some (v, S')) : Res B g blk w d S' v ((execOp ρ' o).run P w) := by
  simp only [astep] at h
  split at h
  case h_2 => cases h
  rename_i cs hcs
  cases h
  obtain ⟨k1, k2⟩ := parts_get hp
  have hpl : (fs.mapM fun f => (do pure (f.offset, ← sizeOf f.type) : Sem (Nat × Nat))).run P w = .ok (fs.map fun f => (f.offset, (sizeB P f.type).getD 0)) w := by
    have hf' : fs.toList.all (fun f => (sizeB P f.type).isSome) = true := by simpa using hf
    rw [Array.mapM_eq_mapM_toList]
    simp only [Sem.run_map, run_placesL (P := P) (w := w) fs.toList hf', Result.andThen_ok]
    rw [← Array.toList_map, Array.toArray_toList]
  obtain ⟨cells', r1, r2, r3⟩ := fill_sound (blk := blk) (place := fun i => (fs.map fun f => (f.offset, (sizeB P f.type).getD 0))[i]?) (vs := (qs.map fun (i, x) => (i, ρ' x)).toList) (cells := zv.cells) hcs
    (consts_rels hc) (consts_scalar hc) (by simp at k1; simp [k1]) (fun j off n a hj => by
      simp only [List.getElem?_map, Option.map_eq_some_iff] at hj
      obtain ⟨⟨off', n', x⟩, hj, e⟩ := hj
      cases e
      obtain ⟨i, y, f, e1, e2, e3, e4, e5⟩ := k2 j _ _ _ hj
      refine ⟨i, ρ' y, ?_, ?_, hρ x y (List.mem_map.2 ⟨_, List.mem_of_getElem? hj, rfl⟩) e5⟩
      · simp only [Array.toList_map, List.getElem?_map, e1, Option.map_some]
      · simp [e2, e3, e4])
  have : (execOp ρ' o).run P w = .ok (.value (.agg cells')) w := by
    simp only [execOp, ho, Instr.build, Sem.run_bind, run_zero hz, Result.andThen_ok, run_und hu, hpl, r1, Sem.run_pure]
  rw [this]
  exact Res.value hS (relT_of (by simp only [rel]; exact ⟨cells'.toList, by simp, r2, r3⟩))

theorem elems_get : ∀ {ps : List Opd} {qs : List (Nat × Operand)} {k : Nat}, elems k ps qs = true → qs.length = ps.length ∧ ∀ (j : Nat) x, ps[j]? = some x → ∃ y, qs[j]? = some (k + j, y) ∧ x.ok y = true
  | [], [], _, _ => by simp
  | x :: r, (i, y) :: s, k, h => by
    simp only [elems, Bool.and_eq_true, beq_iff_eq] at h
    obtain ⟨⟨rfl, h2⟩, h3⟩ := h
    obtain ⟨k1, k2⟩ := elems_get h3
    refine ⟨by simp [k1], fun j x' hj => ?_⟩
    cases j with
    | zero => simp at hj; subst hj; exact ⟨y, by simp, h2⟩
    | succ j =>
      obtain ⟨y', e1, e2⟩ := k2 j x' (by simpa using hj)
      exact ⟨y', by simp [e1]; omega, e2⟩
  | [], _ :: _, _, h => by simp [elems] at h
  | _ :: _, [], _, h => by simp [elems] at h

theorem fill_elems {e : Nat} : ∀ {ys : List Value} {vs : List (Nat × Value)} {k : Nat} {cells : Array Value}, vs.length = ys.length → (∀ (j : Nat) y, ys[j]? = some y → vs[j]? = some (k + j, y)) →
    (∀ y ∈ ys, y.cells.size = e) → (k + ys.length) * e ≤ cells.size →
    ∃ cells', Instr.fill (fun i => some (i * e, e)) cells vs = some cells' ∧ cells'.toList = cells.toList.take (k * e) ++ cellsL ys ++ cells.toList.drop ((k + ys.length) * e)
  | [], [], k, cells, _, _, _, _ => ⟨cells, rfl, by simp [cellsL]⟩
  | y :: ys, (i, x) :: vs, k, cells, hl, hg, he, hsz => by
    have h0 := hg 0 y (by simp)
    simp at h0
    obtain ⟨rfl, rfl⟩ := h0
    have hx := he x (by simp)
    have e1 : (i + (ys.length + 1)) * e = i * e + (ys.length + 1) * e := Nat.add_mul _ _ _
    have e2 : (ys.length + 1) * e = ys.length * e + e := Nat.succ_mul _ _
    simp at hsz
    have hsz2 : i * e + x.cells.size ≤ cells.size := by omega
    have hf := fold_arr (i * e) x.cells cells hsz2
    have hsize : (x.cells.zipIdx.foldl (fun cs (p : Value × Nat) => cs.setIfInBounds (i * e + p.2) p.1) cells).size = cells.size := by
      rw [← Array.length_toList, hf]
      simp
      omega
    obtain ⟨cells', r1, r2⟩ := fill_elems (e := e) (ys := ys) (vs := vs) (k := i + 1) (cells := x.cells.zipIdx.foldl (fun cs (p : Value × Nat) => cs.setIfInBounds (i * e + p.2) p.1) cells)
      (by simpa using hl) (fun j y' hj => by have := hg (j + 1) y' (by simpa using hj); simp at this; rw [this]; congr 2; omega)
      (fun y' hy => he y' (List.mem_cons_of_mem _ hy)) (by
        rw [hsize, Nat.add_mul, Nat.succ_mul]; omega)
    refine ⟨cells', ?_, ?_⟩
    · have hc : (decide (x.cells.size ≠ e) || decide (i * e + x.cells.size > cells.size)) = false := by simp [hx]; omega
      simp only [Instr.fill, hc, Bool.false_eq_true, if_false]
      exact r1
    · have hle : i * e ≤ cells.toList.length := by simp; omega
      have hl1 : (cells.toList.take (i * e)).length = i * e := by simp; omega
      have a1 : (cells.toList.take (i * e) ++ x.cells.toList).length = (i + 1) * e := by rw [List.length_append, hl1, Array.length_toList, hx, Nat.succ_mul]
      have a2 : (i + 1 + ys.length) * e = (cells.toList.take (i * e) ++ x.cells.toList).length + ys.length * e := by rw [a1, ← Nat.add_mul]
      have a3 : i * e + x.cells.size + ys.length * e = (i + (x :: ys).length) * e := by rw [hx, List.length_cons, ← Nat.succ_mul, ← Nat.add_mul]; congr 1; omega
      rw [r2, hf, List.take_left' a1, a2, List.drop_length_add_append, List.drop_drop, a3]
      simp only [cellsL, List.flatMap_cons, List.append_assoc]
  | [], _ :: _, _, _, hl, _, _, _ => by simp at hl
  | _ :: _, [], _, _, hl, _, _, _ => by simp at hl

/-- A new immutable slice in a new block. -/
theorem newVs {H : List AObj} {h : Heap} (W : WRel g H h) {xs : List AV} {ys : List Value} {c : Array Value} {T : TypeId} {e cap : Nat} (hr : rels g xs ys) (he : ∀ y ∈ ys, y.cells.size = e)
    (hp : cellsL ys <+: c.toList) (hcap : xs.length ≤ cap) (hsz : cap * e ≤ c.size) (hne : 0 < xs.length) :
    ∃ g', WRel g' (H ++ [.tip]) (h.push (.cells c T)) ∧ Step h.size g h g' (h.push (.cells c T)) ∧ rel g' (.vs (some H.length) xs) (.slice (some ⟨h.size, 0, none⟩) xs.length cap) := by
  have W1 := W.push (.cells c T (0, 0))
  have fr := W.fresh (.cells c T (0, 0))
  have hn0 : ∀ L0, g.imm h.size = some L0 → L0 <+: cellsL ys := by intro L0 h0; rw [fr.imm] at h0; cases h0
  have W2 := W1.immset (b := h.size) (L := cellsL ys) (c := c) (T := T) (fr := (0, 0)) (by simp) hp hn0 (fun j o' l' _ _ h3 => fr.obj l' (List.mem_of_getElem? h3))
  have le1 := immSet_le hn0
  have le2 := le_addObj (immSet g h.size (cellsL ys)) ⟨h.size, (cellsL ys).length, c.size⟩
  have W3 := W2.adopt (o := .tip) (l := ⟨h.size, (cellsL ys).length, c.size⟩) (by simp) ⟨cellsL ys, c, T, by simp [immSet], rfl, by simp, Nat.le_refl _⟩
    (fun j o' l' _ _ h3 => fr.obj l' (List.mem_of_getElem? h3))
  refine ⟨_, W3, ?_, ?_⟩
  · refine Step.of (le1.trans le2) (by simp) (fun l hl' => ?_) (fun b hb => ?_) (fun b hb _ => push_old hb)
    · rcases List.mem_append.1 hl' with h1 | h1
      · exact .inl h1
      · simp at h1; subst h1; exact .inr (.inl (Nat.le_refl _))
    · by_cases hbe : b = h.size
      · subst hbe; exact .inr (.inl (Nat.le_refl _))
      · simp [immSet, hbe] at hb; exact .inl (by simpa using hb)
  · simp only [rel]
    refine ⟨h.size, 0, cap, cellsL ys, ys, e, by simp, by simpa using hcap, by simp [immSet], rels_le (le1.trans le2) _ _ hr, by simp, he, fun i hi => ?_⟩
    cases hi
    refine ⟨⟨h.size, (cellsL ys).length, c.size⟩, ?_, rfl, by simp, by simpa using hne, by simpa using hsz⟩
    have : H.length = (immSet g h.size (cellsL ys)).obj.length := W.len.symm
    rw [this]; simp

/-- A new array that may be written. -/
theorem newHs {H : List AObj} {h : Heap} (W : WRel g H h) {cs : List AV} {ys : List Value} {c : Array Value} {T : TypeId} {e cap n : Nat} (h0 : cs.all AV.scalar = true) (hr : rels g cs ys)
    (hp : ys <+: c.toList) (hcap : n ≤ cap) (hsz : cap * e ≤ c.size) :
    ∃ g', WRel g' (H ++ [.cells cs]) (h.push (.cells c T)) ∧ Step h.size g h g' (h.push (.cells c T)) ∧ rel g' (.hs H.length e 0 n) (.slice (some ⟨h.size, 0, none⟩) n cap) := by
  obtain ⟨h1, h2, h3⟩ := newCells (T := T) W h0 hr hp (Nat.le_refl c.size)
  refine ⟨_, h1, h2, ?_⟩
  simp only [rel]
  exact ⟨_, cap, h3, by simp, hcap, by simpa using hsz⟩

theorem rels_cellsL {xs : List AV} {ys : List Value} (h : rels g xs ys) (hx : xs.all AV.okv = true) : rels g (xs.flatMap AV.cells) (cellsL ys) ∧ (xs.flatMap AV.cells).all AV.scalar = true := by
  induction xs generalizing ys with
  | nil => simp at h; subst h; simp [cellsL]
  | cons a r ih =>
    obtain ⟨y, t, rfl, h2, h3⟩ := rels_cons_iff.1 h
    simp only [List.all_cons, Bool.and_eq_true] at hx
    obtain ⟨k1, k2⟩ := ih h3 hx.2
    obtain ⟨m1, m2, _⟩ := okv_cells h2 hx.1
    simp only [List.flatMap_cons, cellsL]
    exact ⟨rels_append m2 k1, by rw [List.all_append, m1, k2]; rfl⟩

theorem map_drop1_scalar {cs : List AV} (h : cs.all AV.scalar = true) : (cs.map AV.drop1).all AV.scalar = true := by
  rw [List.all_map]
  rw [← h]
  congr 1
  funext v
  exact drop1_scalar v

theorem wid_okv {e : Nat} {xs : List AV} (h : wid e xs = true) : xs.all AV.okv = true := by
  unfold wid at h
  rw [List.all_eq_true] at h ⊢
  intro x hx
  have := h x hx
  simp only [Bool.and_eq_true] at this
  exact this.1
theorem wid_sizes {e : Nat} {xs : List AV} {ys : List Value} (h : wid e xs = true) (hr : rels g xs ys) : ∀ y ∈ ys, y.cells.size = e := by
  intro y hy
  obtain ⟨a, ha, hr⟩ := rels_mem hr hy
  unfold wid at h
  rw [List.all_eq_true] at h
  have := h a ha
  simp only [Bool.and_eq_true, beq_iff_eq] at this
  rw [rel_cells_len hr, this.2]

theorem Res.of {g' : Gh} {w' : World} {H' : List AObj} {y : Value} (hS : SRel B g blk w.heap S) (W : WRel g' H' w'.heap) (st : Step w.heap.size g w.heap g' w'.heap) (hr : rel g' v y) (h1 : w'.os = w.os := by rfl) (h2 : w'.output = w.output := by rfl) :
    Res B g blk w d { S with hp := H' } v (.ok (.value y) w') :=
  ⟨_, y, w', g', blk, rfl, .inl rfl, hS.step W st, st.all.w h1 h2, relT_of hr, .inl rfl⟩

theorem opds_get {ps : List Opd} {ys : List Operand} (hρ : ∀ (x : Opd) (y : Operand), x ∈ ps → x.ok y = true → relT g blk (ρ x) (ρ' y)) (hl : ys.length = ps.length) (hg : ∀ (j : Nat) x, ps[j]? = some x → ∃ y, ys[j]? = some y ∧ x.ok y = true)
    (hok : (ps.map ρ).all AV.proper = true) : rels g (ps.map ρ) (ys.map ρ') := by
  induction ps generalizing ys with
  | nil => simp at hl; subst hl; simp
  | cons p ps ih =>
    cases ys with
    | nil => simp at hl
    | cons y ys =>
      simp only [List.map_cons, List.all_cons, Bool.and_eq_true] at hok ⊢
      obtain ⟨y', h1, h2⟩ := hg 0 p (by simp)
      simp at h1; subst h1
      exact rels_cons_cons.2 ⟨relT_proper (hρ _ _ (by simp) h2) hok.1, ih (fun x y hx => hρ x y (List.mem_cons_of_mem _ hx)) (by simpa using hl) (fun j x hj => by
        obtain ⟨y', e1, e2⟩ := hg (j + 1) x (by simpa using hj)
        exact ⟨y', by simpa using e1, e2⟩) hok.2⟩

theorem okv_proper {xs : List AV} (h : xs.all AV.okv = true) : xs.all AV.proper = true := by
  rw [List.all_eq_true] at h ⊢
  intro x hx
  have := h x hx
  cases x <;> first | rfl | (simp [AV.okv] at this)

theorem s_bsl {e : Nat} {hk : Bool} {ps : List Opd} {t el : TypeId} {len : Nat} {qs : Array (Nat × Operand)} {i : TypeInfo} {zv : Value} (hS : SRel B g blk w.heap S)
    (hρ : ∀ (x : Opd) (y : Operand), x ∈ ps → x.ok y = true → relT g blk (ρ x) (ρ' y)) (ho : o.op = .buildSlice t len qs) (hu : P.underlying t = some (.slice el)) (hn : sizeB P el = some e)
    (hi : P.info? el = some i) (hz : i.zero = some zv) (hle : len * e ≤ 2 ^ 24) (hel : elems 0 ps qs.toList = true) (hlen : len = ps.length)
    (h : astep ρ d S (.bsl e hk ps) = some (v, S')) : Res B g blk w d S' v ((execOp ρ' o).run P w) := by
  simp only [astep] at h
  split at h
  case isFalse => cases h
  rename_i hwid
  obtain ⟨k1, k2⟩ := elems_get hel
  have hok := wid_okv hwid
  have hr := opds_get (g := g) (blk := blk) (ρ := ρ) (ρ' := ρ') (ps := ps) (ys := qs.toList.map (·.2)) hρ (by simpa using k1) (fun j x hj => by
    obtain ⟨y, e1, e2⟩ := k2 j x hj
    exact ⟨y, by simp [e1], e2⟩) (okv_proper hok)
  generalize hys : (qs.toList.map (·.2)).map ρ' = ys at hr
  have hsizes := wid_sizes hwid hr
  have hyl := rels_length hr
  simp at hyl
  have hcells : ∃ c : Array Value, (execOp ρ' o).run P w = .ok (.value (.slice (some ⟨w.heap.size, 0, none⟩) len len)) { w with heap := w.heap.push (.cells c el) } ∧ c.toList = cellsL ys := by
    let zr : Array Value := if len * e = 0 then #[] else zv.cells
    let init : Array Value := (Array.range (len * e)).map (zr[· % zr.size]!)
    have hinit : init.size = len * e := by simp [init]
    obtain ⟨cells', r1, r2⟩ := fill_elems (e := e) (ys := ys) (vs := (qs.map fun (i, x) => (i, ρ' x)).toList) (k := 0) (cells := init) (by rw [← hys]; simp)
      (fun j y hj => by
        rw [← hys] at hj
        simp only [List.getElem?_map, Option.map_eq_some_iff] at hj
        obtain ⟨y1, ⟨⟨a, y2⟩, hq, rfl⟩, rfl⟩ := hj
        have hjl : j < ps.length := by
          have := (List.getElem?_eq_some_iff.1 hq).1
          omega
        obtain ⟨y3, e1, _⟩ := k2 j ps[j] (by simp [hjl])
        rw [hq] at e1
        cases e1
        simp only [Array.toList_map, List.getElem?_map, hq, Option.map_some])
      hsizes (by rw [hinit, hyl, hlen]; simp)
    refine ⟨cells', ?_, ?_⟩
    · have hno : ¬ (len * e > 2 ^ 24) := by omega
      have hrz := run_zero (P := P) (t := el) (z := zv) (by simp [hi, hz])
      simp only [execOp, ho, Instr.buildSlice, Sem.run_bind, run_und hu, Result.andThen_ok, run_size hn, if_neg hno, Sem.run_ite, Sem.run_pure]
      by_cases hz0 : len * e = 0
      · have r1' : Instr.fill (fun i => some (i * e, e)) ((Array.range (len * e)).map ((#[] : Array Value)[· % (#[] : Array Value).size]!)) (qs.map fun (i, x) => (i, ρ' x)).toList = some cells' := by
          have := r1
          simp only [init, zr, if_pos hz0] at this
          exact this
        simp only [if_pos hz0, r1', newRow, run_newObj, Result.andThen_ok, Sem.run_bind, Sem.run_pure]
      · have r1' : Instr.fill (fun i => some (i * e, e)) ((Array.range (len * e)).map (zv.cells[· % zv.cells.size]!)) (qs.map fun (i, x) => (i, ρ' x)).toList = some cells' := by
          have := r1
          simp only [init, zr, if_neg hz0] at this
          exact this
        simp only [if_neg hz0, hrz, r1', newRow, run_newObj, Result.andThen_ok, Sem.run_bind, Sem.run_pure]
    · rw [r2, hyl]
      simp only [Nat.zero_mul, List.take_zero, List.nil_append, Nat.zero_add]
      rw [List.drop_eq_nil_of_le (by simp [hinit, hlen])]
      simp
  obtain ⟨c, hrun, hc⟩ := hcells
  rw [hrun]
  have hcsz : len * e ≤ c.size := by
    have := congrArg List.length hc
    rw [cellsL_length hsizes, hyl] at this
    simp at this
    rw [this, hlen]; exact Nat.le_refl _
  split at h
  · cases h
    obtain ⟨m1, m2⟩ := rels_cellsL hr hok
    obtain ⟨g', W', st, hrel⟩ := newHs (T := el) (e := e) (n := len) (cap := len) hS.W (map_drop1_scalar m2) (rels_map_drop1 m1) (by rw [hc]; exact List.prefix_refl _) (Nat.le_refl _) hcsz
    have : (ps.map ρ).length = len := by simp [hlen]
    rw [this]
    exact Res.of (w' := { w with heap := w.heap.push (.cells c el) }) hS W' st hrel
  · split at h
    · rename_i hnil
      cases h
      have hl0 : len = 0 := by rw [hlen]; simpa using hnil
      have W1 := hS.W.push (.cells c el (0, 0))
      have fr := hS.W.fresh (.cells c el (0, 0))
      have hn0 : ∀ L0, g.imm w.heap.size = some L0 → L0 <+: [] := by intro L0 h0; rw [fr.imm] at h0; cases h0
      have W2 := W1.immset (b := w.heap.size) (L := []) (c := c) (T := el) (fr := (0, 0)) (by simp) (List.nil_prefix) hn0 (fun j o' l' _ _ h3 => fr.obj l' (List.mem_of_getElem? h3))
      have st : Step w.heap.size g w.heap (immSet g w.heap.size []) (w.heap.push (.cells c el)) := by
        refine Step.of (immSet_le hn0) (by simp) (fun l hl' => .inl hl') (fun b hb => ?_) (fun b hb _ => push_old hb)
        by_cases hbe : b = w.heap.size
        · subst hbe; exact .inr (.inl (Nat.le_refl _))
        · simp [immSet, hbe] at hb; exact .inl (by simpa using hb)
      refine Res.of (w' := { w with heap := w.heap.push (.cells c el) }) hS W2 st ?_
      simp only [rel]
      exact ⟨w.heap.size, 0, len, [], [], 0, by simp [hl0], by simp, by simp [immSet], by simp, by simp [cellsL], by simp, fun i hi => by cases hi⟩
    · rename_i hnil
      cases h
      have hpos : 0 < (ps.map ρ).length := List.length_pos_iff.2 hnil
      obtain ⟨g', W', st, hrel⟩ := newVs (T := el) (e := e) (cap := len) hS.W (rels_map_erase hr) hsizes (by rw [hc]; exact List.prefix_refl _) (by simp [hlen]) hcsz (by simpa using hpos)
      have : ((ps.map ρ).map AV.erase).length = len := by simp [hlen]
      rw [this] at hrel
      exact Res.of (w' := { w with heap := w.heap.push (.cells c el) }) hS W' st hrel

end
end Go.Ab

/- Maps that are made and written, make, append. -/
namespace Go.Ab
section
variable {B : Nat} {P : Program} {g : Gh} {blk : Nat → Option Nat} {w : World} {S S' : AS} {ρ : Opd → AV} {ρ' : Operand → Value} {d : Option Nat} {o : Oper} {v : AV}

theorem s_mkmap {t : TypeId} (hS : SRel B g blk w.heap S) (ho : o.op = .makeMap t none) (h : astep ρ d S .mkmap = some (v, S')) : Res B g blk w d S' v ((execOp ρ' o).run P w) := by
  simp only [astep] at h
  cases h
  have : (execOp ρ' o).run P w = .ok (.value (.map (some w.heap.size))) { w with heap := w.heap.push (.map #[] 0) } := by
    simp only [execOp, ho, Instr.makeMap, Option.map_none, Sem.run_bind, Sem.run_pure, Result.andThen_ok, run_newObj]
  rw [this]
  have W1 := hS.W.push (.map #[] 0)
  have fr := hS.W.fresh (.map #[] 0)
  have le := le_addObj g ⟨w.heap.size, 0, 0⟩
  have W2 := W1.adopt (o := .map []) (l := ⟨w.heap.size, 0, 0⟩) (by simp) ⟨fr.imm, #[], 0, by simp, by simp [mrel]⟩ (fun j o' l' _ _ h3 => fr.obj l' (List.mem_of_getElem? h3))
  have st : Step w.heap.size g w.heap { g with obj := g.obj ++ [⟨w.heap.size, 0, 0⟩] } (w.heap.push (.map #[] 0)) := by
    refine Step.of le (by simp) (fun l hl' => ?_) (fun b hb => .inl hb) (fun b hb _ => push_old hb)
    rcases List.mem_append.1 hl' with h1 | h1
    · exact .inl h1
    · simp at h1; subst h1; exact .inr (.inl (Nat.le_refl _))
  refine Res.of (w' := { w with heap := w.heap.push (.map #[] 0) }) hS W2 st ?_
  simp only [rel]
  refine ⟨⟨w.heap.size, 0, 0⟩, ?_, rfl⟩
  rw [← hS.W.len]; simp

theorem sameBits_key {bk : BK} {x y : AV} {a b : Value} (hx : rel g x a) (hy : rel g y b) (h : sq bk x y = some true) (n : Nat) : Instr.sameBits n b a = true := by
  unfold sq at h
  split at h
  · split at h
    · rename_i hk
      subst hk
      simp only [rel] at hx hy
      subst hx; subst hy
      simp at h
      simp [Instr.sameBits, h]
    · cases h
  · simp only [rel] at hx hy
    subst hx; subst hy
    simp at h
    simp [Instr.sameBits, h]
  · simp only [rel] at hx hy
    subst hx; subst hy
    simp at h
    subst h
    simp only [Instr.sameBits, beq_toListBytes, beq_self_eq_true]
  · cases h

theorem setA_sound {bk : BK} {k u : AV} {k' u' : Value} {t : TypeId} {ds : TypeDesc} (hk : rel g k k') (hu' : rel g u u') (hb : bkB P t bk = true) (hu : P.underlying t = some ds) :
    ∀ {es es' : List (AV × AV)} {l : List MapEntry} (i : Nat), mrel g es l → setA bk k u es = some es' →
      (Instr.findNow ds k' l i = some none ∧ ∀ clock, mrel g es' (l ++ [{ key := k', val := u', born := clock }])) ∨
      ∃ j x e, Instr.findNow ds k' l i = some (some (i + j, x)) ∧ l[j]? = some e ∧ Instr.sameBits 10000 e.key k' = true ∧ mrel g es' (l.modify j fun e => { e with key := k', val := u' })
  | [], es', l, i, hm, h => by
    simp only [mrel] at hm
    subst hm
    simp only [setA] at h
    cases h
    exact .inl ⟨rfl, fun clock => ⟨_, [], rfl, hk, hu', rfl⟩⟩
  | (a, b) :: es, es', l, i, hm, h => by
    obtain ⟨e, r, rfl, h1, h2, h3⟩ := hm
    simp only [setA] at h
    split at h
    · rename_i hq
      cases h
      refine .inr ⟨0, e.val, e, ?_, by simp, sameBits_key hk h1 hq _, ?_⟩
      · simp [Instr.findNow, sq_same hk h1 hq hb hu]
      · exact ⟨_, r, rfl, hk, hu', h3⟩
    · rename_i hq
      split at h
      · rename_i r' hr
        cases h
        have hs := sq_same hk h1 hq hb hu
        rcases setA_sound hk hu' hb hu (i + 1) h3 hr with ⟨e1, e2⟩ | ⟨j, x, e', e1, e2, e3, e4⟩
        · refine .inl ⟨by simpa [Instr.findNow, hs] using e1, fun clock => ⟨e, _, rfl, h1, h2, e2 clock⟩⟩
        · refine .inr ⟨j + 1, x, e', ?_, by simpa using e2, e3, ?_⟩
          · simp only [Instr.findNow, hs]
            rw [e1]
            congr 3
            omega
          · exact ⟨e, _, by simp [List.modify_succ_cons], h1, h2, e4⟩
      · cases h
    · cases h

theorem s_mup {bk : BK} {m k u : Opd} {m' k' u' : Operand} {t kt et : TypeId} (hS : SRel B g blk w.heap S) (hm : relT g blk (ρ m) (ρ' m')) (hk : relT g blk (ρ k) (ρ' k')) (hv : relT g blk (ρ u) (ρ' u'))
    (ho : o.op = .mapUpdate t m' k' u') (ht : P.underlying t = some (.map kt et)) (hb : bkB P kt bk = true)
    (h : astep ρ d S (.mup bk m k u) = some (v, S')) : Res B g blk w d S' v ((execOp ρ' o).run P w) := by
  simp only [astep] at h
  split at h
  case isFalse => cases h
  rename_i hc
  obtain ⟨hkey, hp⟩ := hc
  have hk' := relT_proper hk (key_proper hkey)
  have hv' := relT_proper hv hp
  have hkt : ∃ ds, P.underlying kt = some ds := by
    unfold bkB at hb
    cases bk <;> simp only at hb <;> split at hb <;> first | (exact ⟨_, by assumption⟩) | cases hb
  obtain ⟨ds, hds⟩ := hkt
  split at h
  case h_2 => cases h
  rename_i i e
  rw [e] at hm
  obtain ⟨l, hl, hm'⟩ := hm
  split at h
  case h_2 => cases h
  rename_i es hi
  split at h
  case h_2 => cases h
  rename_i es' hes
  cases h
  obtain ⟨himm, c, ck, hc, hmr⟩ := hS.W.obj i _ l hi hl
  have hilt : i < S.hp.length := (List.getElem?_eq_some_iff.1 hi).1
  have hblt : l.b < w.heap.size := hS.W.bnd l (List.mem_of_getElem? hl)
  have hck := run_checkKey (P := P) (w := w) (b := false) (n := 9999) hk' hkey hb
  have fin : ∀ {c' : Array MapEntry} {ck' : Nat}, mrel g es' c'.toList →
      (execOp ρ' o).run P w = .ok .skip { w with heap := w.heap.setIfInBounds l.b (.map c' ck') } → Res B g blk w d { S with hp := S.hp.set i (.map es') } .skip ((execOp ρ' o).run P w) := by
    intro c' ck' hm2 hrun
    rw [hrun]
    have hh : ∀ b, b ≠ l.b → (w.heap.setIfInBounds l.b (.map c' ck'))[b]? = w.heap[b]? := fun b hb => by
      rw [Array.getElem?_setIfInBounds_ne (Ne.symm hb)]
    have st : Step w.heap.size g w.heap g (w.heap.setIfInBounds l.b (.map c' ck')) := by
      refine Step.of (Le.refl g) (by simp) (fun l hl => .inl hl) (fun b hb => .inl hb) (fun b _ pb => hh b ?_)
      exact fun e => pb.obj l (List.mem_of_getElem? hl) e.symm
    have Wk := (hS.W.kill i).heap (h' := w.heap.setIfInBounds l.b (.map c' ck')) (by simp) (fun b m => hh b (by
      rcases matters_kill m with m | ⟨j, o', l', hj, hj1, hj2, hj3, rfl⟩
      · rintro rfl
        exact m himm
      · intro e
        exact hj (hS.W.sep j i o' _ l' l hj1 hi hj2 trivial hj3 hl e)))
    have W' : WRel g (S.hp.set i (.map es')) (w.heap.setIfInBounds l.b (.map c' ck')) := by
      refine Wk.revive hilt hl ⟨himm, c', ck', ?_, hm2⟩ (fun j o' l' hj hj1 hj2 hj3 e => hj (hS.W.sep j i o' _ l' l hj1 hi hj2 trivial hj3 hl e))
      rw [Array.getElem?_setIfInBounds_self_of_lt hblt]
    exact ⟨.skip, Go.undef, { w with heap := w.heap.setIfInBounds l.b (.map c' ck') }, g, blk, rfl, .inr ⟨rfl, rfl⟩, hS.step W' st, st.all.w rfl rfl, rfl, .inl rfl⟩
  have hset : ∀ (x : Obj), (setObj l.b x).run P w = .ok () { w with heap := w.heap.setIfInBounds l.b x } := by
    intro x
    simp only [setObj, Sem.run, hc]
  rcases setA_sound hk' hv' hb hds 0 hmr hes with ⟨e1, e2⟩ | ⟨j, x, e', e1, e2, e3, e4⟩
  · refine fin (c' := c.push { key := ρ' k', val := ρ' u', born := ck }) (ck' := ck + 1) (by simpa using e2 ck) ?_
    simp only [execOp, ho, Instr.mapUpdate, Sem.run_bind, run_und ht, Result.andThen_ok, hm', getObj, Sem.run, hc, hck, Instr.findKey, run_und hds, e1, Sem.run_pure, hset]
  · have hget : ((c[j]?).map (·.key)).getD (ρ' k') = e'.key := by
      have : c[j]? = some e' := by simpa using e2
      simp [this]
    refine fin (c' := c.modify j fun e => { e with key := ρ' k', val := ρ' u' }) (ck' := ck) (by simpa using e4) ?_
    rw [Nat.zero_add] at e1
    simp only [execOp, ho, Instr.mapUpdate, Sem.run_bind, run_und ht, Result.andThen_ok, hm', getObj, Sem.run, hc, hck, Instr.findKey, run_und hds, e1, Sem.run_pure, Instr.keyThatStays, hget, e3, if_true, hset]

theorem range_zeros {z : Array Value} {k : Nat} (hz : z.size = k) (hk : 0 < k) : ∀ m : Nat, ((Array.range (m * k)).map (fun i => z[i % z.size]!)).toList = (List.replicate m z.toList).flatten
  | 0 => by simp
  | m + 1 => by
    have ih := range_zeros hz hk m
    simp only [Array.toList_map, Array.toList_range] at ih ⊢
    rw [Nat.succ_mul, List.range_add, List.map_append, ih, List.replicate_succ', List.flatten_append]
    congr 1
    simp only [List.map_map, List.flatten_cons, List.flatten_nil, List.append_nil]
    apply List.ext_getElem
    · simp [hz]
    · intro i h1 h2
      simp at h1
      have : (m * k + i) % z.size = i := by rw [hz, Nat.mul_comm, Nat.mul_add_mod, Nat.mod_eq_of_lt h1]
      simp only [List.getElem_map, List.getElem_range, Function.comp, this]
      have hi : i < z.size := by omega
      simp [hi]

theorem cellsL_replicate (m : Nat) (x : Value) : cellsL (List.replicate m x) = (List.replicate m x.cells.toList).flatten := by
  induction m with
  | zero => simp [cellsL]
  | succ m ih => simp only [cellsL, List.replicate_succ, List.flatMap_cons, List.flatten_cons] at ih ⊢; rw [ih]

theorem rels_replicate {x : AV} {y : Value} (h : rel g x y) : ∀ m : Nat, rels g (List.replicate m x) (List.replicate m y)
  | 0 => by simp
  | m + 1 => by simp only [List.replicate_succ]; exact rels_cons_cons.2 ⟨h, rels_replicate h m⟩

theorem const1_drop {a : AV} {x : Value} (h : const1 a x = true) : a.drop1 = a := by
  unfold const1 at h
  split at h <;> first | rfl | cases h
theorem consts_drop : ∀ {as : List AV} {xs : List Value}, consts as xs = true → as.map AV.drop1 = as
  | [], [], _ => rfl
  | a :: as, x :: xs, h => by
    simp only [consts, Bool.and_eq_true] at h
    simp only [List.map_cons, const1_drop h.1, consts_drop h.2]
  | [], _ :: _, h => by simp [consts] at h
  | _ :: _, [], h => by simp [consts] at h
theorem constOk_erase {a : AV} {x : Value} (h : constOk a x = true) : a.erase = a ∧ a.okv = true := by
  unfold constOk at h
  split at h
  · simp only [AV.erase, consts_drop h, AV.okv, and_self]
  · exact ⟨rfl, rfl⟩
  · unfold const1 at h
    split at h <;> first | exact ⟨rfl, rfl⟩ | cases h

theorem s_mks {e b : Nat} {hk : Bool} {z : AV} {n : Opd} {y y' : Operand} {t el : TypeId} {i : TypeInfo} {zv : Value} (hS : SRel B g blk w.heap S) (hx : relT g blk (ρ n) (ρ' y)) (hx' : relT g blk (ρ n) (ρ' y'))
    (ho : o.op = .makeSlice t y y') (hu : P.underlying t = some (.slice el)) (hn : sizeB P el = some e) (hi : P.info? el = some i) (hb : i.bytes = b) (hz : i.zero = some zv) (hzr : constOk z zv = true)
    (hzl : z.cells.length = e) (he0 : 0 < e) (h : astep ρ d S (.mks e b hk z n) = some (v, S')) : Res B g blk w d S' v ((execOp ρ' o).run P w) := by
  simp only [astep] at h
  split at h
  case h_2 => cases h
  rename_i k m em
  split at h
  case isFalse => cases h
  rename_i hc
  obtain ⟨hm0, hmb, rfl, hm62⟩ := hc
  rw [em] at hx hx'
  have e1 : ρ' y = .int .i64 m := by simpa [relT, rel] using hx
  have e2 : ρ' y' = .int .i64 m := by simpa [relT, rel] using hx'
  obtain ⟨p, rfl⟩ := Int.eq_ofNat_of_zero_le hm0
  have zrel : rel g z zv := constOk_rel hzr
  have hzs : zv.cells.size = e := by rw [rel_cells_len zrel, hzl]
  have hm62' : (p : Int) < 4611686018427387904 := hm62
  have hwrap : IntKind.i64.wrap (p : Int) = p := IntWalk.i64_in _ (by omega)
  have hroom : roomA = 35184372088832 := rfl
  have hcond : ¬ ((decide ((p : Int) < 0) || decide ((i.bytes : Int) * (p : Int) > 2 ^ 48) || decide ((p : Int) < 0) || decide ((p : Int) > (p : Int))) = true) := by
    rw [hb, Int.mul_comm]
    rw [hroom] at hmb
    simp
    omega
  have hrz := run_zero (P := P) (t := el) (z := zv) (by simp [hi, hz])
  let zr : Array Value := if p * e = 0 then #[] else zv.cells
  let c : Array Value := (Array.range (p * e)).map (zr[· % zr.size]!)
  have hcl : c.toList = cellsL (List.replicate p zv) := by
    rw [cellsL_replicate]
    by_cases hp0 : p * e = 0
    · have hp : p = 0 := by
        rcases Nat.mul_eq_zero.1 hp0 with h | h
        · exact h
        · omega
      subst hp
      simp [c]
    · simp only [c, zr, if_neg hp0]
      exact range_zeros hzs he0 p
  have hcs : c.size = p * e := by simp [c]
  have hrun : (execOp ρ' o).run P w = .ok (.value (.slice (some ⟨w.heap.size, 0, none⟩) p p)) { w with heap := w.heap.push (.cells c el) } := by
    simp only [execOp, ho, Instr.makeSlice, Sem.run_bind, run_und hu, Result.andThen_ok, run_info hi, asInt, asIntOf, e1, e2, Sem.run_pure, hwrap, Sem.run_ite, if_neg hcond, run_askRoom, run_size hn, Int.toNat_natCast]
    by_cases hp0 : p * e = 0
    · simp only [if_pos hp0, newRow, run_newObj, Sem.run_bind, Result.andThen_ok, Sem.run_pure, c, zr]
    · simp only [if_neg hp0, hrz, newRow, run_newObj, Sem.run_bind, Result.andThen_ok, Sem.run_pure, c, zr]
  rw [hrun]
  have hrr := rels_replicate (g := g) zrel p
  obtain ⟨_, hokz⟩ := constOk_erase hzr
  have hys : ∀ y ∈ List.replicate p zv, y.cells.size = e := fun y hy => by rw [(List.mem_replicate.1 hy).2]; exact hzs
  have htn : ((p : Int)).toNat = p := Int.toNat_natCast p
  rw [htn] at h
  split at h
  · cases h
    obtain ⟨m1, m2⟩ := rels_cellsL hrr (by simp [hokz])
    obtain ⟨g', W', st, hrel⟩ := newHs (T := el) (e := e) (n := p) (cap := p) hS.W m2 m1 (by rw [hcl]; exact List.prefix_refl _) (Nat.le_refl _) (by rw [hcs]; exact Nat.le_refl _)
    exact Res.of (w' := { w with heap := w.heap.push (.cells c el) }) hS W' st hrel
  · split at h
    · rename_i hp0
      cases h
      have hp0' : p = 0 := by omega
      subst hp0'
      have W1 := hS.W.push (.cells c el (0, 0))
      have fr := hS.W.fresh (.cells c el (0, 0))
      have hn0 : ∀ L0, g.imm w.heap.size = some L0 → L0 <+: [] := by intro L0 h0; rw [fr.imm] at h0; cases h0
      have W2 := W1.immset (b := w.heap.size) (L := []) (c := c) (T := el) (fr := (0, 0)) (by simp) (List.nil_prefix) hn0 (fun j o' l' _ _ h3 => fr.obj l' (List.mem_of_getElem? h3))
      have st : Step w.heap.size g w.heap (immSet g w.heap.size []) (w.heap.push (.cells c el)) := by
        refine Step.of (immSet_le hn0) (by simp) (fun l hl' => .inl hl') (fun b hb => ?_) (fun b hb _ => push_old hb)
        by_cases hbe : b = w.heap.size
        · subst hbe; exact .inr (.inl (Nat.le_refl _))
        · simp [immSet, hbe] at hb; exact .inl (by simpa using hb)
      refine Res.of (w' := { w with heap := w.heap.push (.cells c el) }) hS W2 st ?_
      simp only [rel]
      exact ⟨w.heap.size, 0, 0, [], [], 0, by simp, by simp, by simp [immSet], by simp, by simp [cellsL], by simp, fun i hi => by cases hi⟩
    · rename_i hp0
      cases h
      obtain ⟨g', W', st, hrel⟩ := newVs (T := el) (e := e) (cap := p) hS.W hrr hys (by rw [hcl]; exact List.prefix_refl _) (by simp) (by rw [hcs]; exact Nat.le_refl _) (by simp; omega)
      rw [List.length_replicate] at hrel
      exact Res.of (w' := { w with heap := w.heap.push (.cells c el) }) hS W' st hrel

end
end Go.Ab

/- append: in place or in a new array, the abstract machine knows no difference. -/
namespace Go.Ab
section
variable {B : Nat} {P : Program} {g : Gh} {blk : Nat → Option Nat} {w : World} {S S' : AS} {ρ : Opd → AV} {ρ' : Operand → Value} {d : Option Nat} {o : Oper} {v : AV}

theorem growBy_le (need : Nat) (h : 256 < need) : ∀ (r c : Nat), c ≤ 3 * need → Builtin.growBy need r c ≤ 3 * need
  | 0, c, hc => hc
  | r + 1, c, hc => by
    simp only [Builtin.growBy]
    split
    · exact hc
    · exact growBy_le need h r _ (by omega)
theorem nextcap_le {need cap : Nat} (h : cap < need) : Builtin.nextslicecap need cap ≤ 3 * need := by
  unfold Builtin.nextslicecap
  split
  · omega
  · split
    · omega
    · exact growBy_le need (by omega) 4 cap (by omega)

/-- Cells at hand in a heap. -/
def At (h : Heap) (b o : Nat) (zs : List Value) : Prop := ∃ c T fr, h[b]? = some (.cells c T fr) ∧ zs <+: c.toList.drop o

theorem At.load {b q : Nat} {zs : List Value} (h : At w.heap b q zs) : (loadCells ⟨b, q, none⟩ zs.length).run P w = .ok zs.toArray w := by
  obtain ⟨c, T, fr, h1, h2⟩ := h
  have := run_loadFrom (P := P) (w := w) (b := b) (o := q) zs.length 0 #[] zs rfl (fun j x hx => by
    rw [cell_of rfl h1, Nat.zero_add, ← Array.getElem?_toList]
    have := get_prefix h2 hx
    rwa [List.getElem?_drop] at this)
  simpa [loadCells] using this

/-- What is appended: a slice's elements, as cells. -/
structure Src (P : Program) (h : Heap) (e n : Nat) (y : Value) (zs : List Value) : Prop where
  len : zs.length = n * e
  lenOf : ∀ w : World, (Builtin.lenOf y).run P w = .ok n w
  first : ∀ w : World, w.heap = h → (Builtin.firstCells e n y).run P w = .ok zs.toArray w

theorem Src.nil {e : Nat} {h : Heap} : Src P h e 0 (.slice none 0 0) [] := ⟨by simp, fun _ => rfl, fun _ _ => rfl⟩
theorem Src.slice {e n b q cap : Nat} {h : Heap} {zs : List Value} (hl : zs.length = n * e) (ha : At h b q zs) : Src P h e n (.slice (some ⟨b, q, none⟩) n cap) zs :=
  ⟨hl, fun _ => rfl, fun w hw => by
    subst hw
    simp only [Builtin.firstCells, ← hl]
    exact ha.load⟩

theorem at_imm {b q : Nat} {L zs : List Value} {H : List AObj} {h : Heap} (W : WRel g H h) (hi : g.imm b = some L) (hp : zs <+: L.drop q) : At h b q zs := by
  obtain ⟨c, T, fr, h1, h2⟩ := W.imm b L hi
  exact ⟨c, T, fr, h1, hp.trans (prefix_drop q h2)⟩

theorem scalar_okv {x : AV} {y : Value} (h : rel g x y) (hs : x.scalar = true) : x.okv = true ∧ x.cells = [x] := by
  cases x <;> simp only [rel] at h <;> (try exact h.elim) <;> first | exact ⟨rfl, rfl⟩ | (simp [AV.scalar] at hs)

theorem elemsA_sound {e : Nat} {y : AV} {y' : Value} {xs : List AV} (hS : SRel B g blk w.heap S) (hy : relT g blk y y') (h : elemsA S e y = some xs) :
    ∃ ys, rels g xs ys ∧ (∀ z ∈ ys, z.cells.size = e) ∧ Src P w.heap e xs.length y' (cellsL ys) ∧ xs.all AV.okv = true := by
  unfold elemsA at h
  split at h
  · cases h
    have : y' = .slice none 0 0 := by simpa [relT, rel] using hy
    subst this
    exact ⟨[], by simp, by simp, Src.nil, rfl⟩
  · split at h
    · rename_i hw
      cases h
      obtain ⟨b, q, cap, L, ys, e0, rfl, h0, h2, h3, h4, h5, _⟩ := hy
      have hs := wid_sizes hw h3
      exact ⟨ys, h3, hs, Src.slice (by rw [cellsL_length hs, rels_length h3]) (at_imm hS.W h2 h4), wid_okv hw⟩
    · cases h
  · rename_i i e' q n
    split at h
    · rename_i he
      subst he
      split at h
      · rename_i cs hi
        split at h
        · rename_i hc
          cases h
          obtain ⟨hle, rfl⟩ := hc
          obtain ⟨l, cap, hl, rfl, hcap, _⟩ := hy
          obtain ⟨h1, h0, c, T, ys, h2, h3, h4, h5⟩ := hS.W.obj i _ l hi hl
          have hsub := rels_take n (rels_drop q h3)
          have hlen : ((cs.drop q).take n).length = n := by simp; omega
          have hsc : ∀ x ∈ (cs.drop q).take n, x.scalar = true := by
            rw [List.all_eq_true] at h0
            exact fun x hx => h0 x (List.mem_of_mem_drop (List.mem_of_mem_take hx))
          have hone : ∀ z ∈ (ys.drop q).take n, z.cells = #[z] := by
            intro z hz
            obtain ⟨a, ha, hr⟩ := rels_mem hsub hz
            exact (rel_oneCell hr (hsc a ha)).2
          have hcl : cellsL ((ys.drop q).take n) = (ys.drop q).take n := by
            have : ∀ l : List Value, (∀ z ∈ l, z.cells = #[z]) → cellsL l = l := by
              intro l hl
              induction l with
              | nil => rfl
              | cons a r ih =>
                simp only [cellsL, List.flatMap_cons] at ih ⊢
                rw [hl a (by simp), ih fun z hz => hl z (List.mem_cons_of_mem _ hz)]
                rfl
            exact this _ hone
          refine ⟨(ys.drop q).take n, hsub, fun z hz => by rw [hone z hz]; rfl, ?_, ?_⟩
          case refine_2 =>
            rw [List.all_eq_true]
            intro a ha
            obtain ⟨k, hk, hke⟩ := List.getElem_of_mem ha
            obtain ⟨z2, _, hz2⟩ := rels_get hsub (i := k) (v := a) (by rw [List.getElem?_eq_getElem hk, hke])
            exact (scalar_okv hz2 (hsc a ha)).1
          rw [hcl, hlen]
          have hyl := rels_length h3
          refine Src.slice (by simp; omega) ⟨c, T, (0, 0), h2, ?_⟩
          have g1 := (List.take_prefix n (ys.drop q)).trans (prefix_drop q h4)
          rwa [List.drop_drop] at g1
        · cases h
      · cases h
    · cases h
  · cases h

theorem cellsA_sound {e n : Nat} {y : AV} {y' : Value} {cs : List AV} (hS : SRel B g blk w.heap S) (hy : relT g blk y y') (h : cellsA S e y = some (n, cs)) :
    ∃ zs, rels g cs zs ∧ cs.all AV.scalar = true ∧ Src P w.heap e n y' zs := by
  unfold cellsA at h
  split at h
  · cases h
    have : y' = .slice none 0 0 := by simpa [relT, rel] using hy
    subst this
    exact ⟨[], by simp, by simp, Src.nil⟩
  · split at h
    · rename_i hw
      cases h
      obtain ⟨b, q, cap, L, ys, e0, rfl, h0, h2, h3, h4, h5, _⟩ := hy
      have hs := wid_sizes hw h3
      obtain ⟨m1, m2⟩ := rels_cellsL h3 (wid_okv hw)
      exact ⟨cellsL ys, m1, m2, Src.slice (by rw [cellsL_length hs, rels_length h3]) (at_imm hS.W h2 h4)⟩
    · cases h
  · rename_i i e' q m
    split at h
    · rename_i he
      subst he
      split at h
      · rename_i all hi
        split at h
        · rename_i hle
          cases h
          obtain ⟨l, cap, hl, rfl, hcap, _⟩ := hy
          obtain ⟨h1, h0, c, T, ys, h2, h3, h4, h5⟩ := hS.W.obj i _ l hi hl
          have hyl := rels_length h3
          refine ⟨(ys.drop q).take (n * e'), rels_take _ (rels_drop q h3), ?_, Src.slice (by simp; omega) ⟨c, T, (0, 0), h2, ?_⟩⟩
          · rw [List.all_eq_true] at h0 ⊢
            exact fun x hx => h0 x (List.mem_of_mem_drop (List.mem_of_mem_take hx))
          · have g1 := (List.take_prefix (n * e') (ys.drop q)).trans (prefix_drop q h4)
            rwa [List.drop_drop] at g1
        · cases h
      · cases h
    · cases h
  · cases h

section
variable {t u el el2 : TypeId} {e b : Nat} {i : TypeInfo} {zv : Value} {x' y' : Operand}

/-- The operation's type facts. -/
structure App (P : Program) (o : Oper) (x' y' : Operand) (el : TypeId) (e b : Nat) : Prop where
  run : ∀ ρ' : Operand → Value, ∃ (ts : Array TypeId) (t u el2 : TypeId), execOp ρ' o = (do pure (.value (← Builtin.append_ ts o.type #[ρ' x', ρ' y']))) ∧ ts[0]? = some t ∧ ts[1]? = some u ∧ P.underlying t = some (.slice el) ∧ P.underlying u = some (.slice el2)
  size : sizeB P el = some e
  bytes : ∃ i zv, P.info? el = some i ∧ i.bytes = b ∧ i.zero = some zv ∧ zv.cells.size = e
  e0 : 0 < e
  b0 : 0 < b

theorem app_in (A : App P o x' y' el e b) {base : Option Addr} {n cap m : Nat} {zs : List Value} (hx : ρ' x' = .slice base n cap) (hs : Src P w.heap e m (ρ' y') zs) (hc : n + m ≤ cap) {w' : World}
    (hst : (match base with | some a => storeCells (a.add (n * e)) zs | none => pure ()).run P w = .ok () w') : (execOp ρ' o).run P w = .ok (.value (.slice base (n + m) cap)) w' := by
  obtain ⟨ts, t, u, el2, h1, h2, h3, h4, h5⟩ := A.run ρ'
  rw [h1]
  have hl := hs.lenOf w
  have hf := hs.first w rfl
  simp only [Builtin.append_, h2, h3, List.getElem?_toArray, List.getElem?_cons_zero, List.getElem?_cons_succ, Sem.run_bind, run_und h4, run_und h5, Result.andThen_ok, hx, run_size A.size, Sem.run_pure]
  simp only [Bool.false_eq_true, if_false, hl, Result.andThen_ok, if_pos hc, Bool.not_false, if_true, hf, Sem.run_bind]
  cases base with
  | none =>
    simp only [Sem.run_pure] at hst
    cases hst
    rfl
  | some a =>
    simp only at hst
    simp only [Sem.run_bind, hst, Result.andThen_ok, Sem.run_pure]

theorem app_new (A : App P o x' y' el e b) {base : Option Addr} {n cap m : Nat} {zs ys : List Value} (hx : ρ' x' = .slice base n cap) (hs : Src P w.heap e m (ρ' y') zs) (hc : ¬ n + m ≤ cap)
    (hold : Src P w.heap e n (.slice base n cap) ys) (hroom : (n + m) * b ≤ roomA) :
    ∃ (c : Array Value) (cap' : Nat), (execOp ρ' o).run P w = .ok (.value (.slice (some ⟨w.heap.size, 0, none⟩) (n + m) cap')) { w with heap := w.heap.push (.cells c el), drawn := w.drawn + 1 } ∧
      ys ++ zs <+: c.toList ∧ n + m ≤ cap' ∧ c.size = cap' * e := by
  obtain ⟨ts, t, u, el2, h1, h2, h3, h4, h5⟩ := A.run ρ'
  obtain ⟨i, zv, hi, hb, hz, hzs⟩ := A.bytes
  have hrz := run_zero (P := P) (t := el) (z := zv) (by simp [hi, hz])
  have hl := hs.lenOf w
  have hf := hs.first { w with drawn := w.drawn + 1 } rfl
  have ho := hold.first { w with drawn := w.drawn + 1 } rfl
  let cap' := Question.cut (.appendCap (n + m) cap el) (w.tape w.drawn (.appendCap (n + m) cap el))
  have hcap' : n + m ≤ cap' := Nat.le_add_right _ _
  let c : Array Value := ys.toArray ++ zs.toArray ++ Builtin.zeroCells zv.cells (cap' - (n + m))
  have hsz : c.size = cap' * e := by
    have e1 := hs.len
    have e2 := hold.len
    simp [c, Builtin.zeroCells, hzs, e1, e2]
    rw [← Nat.add_mul, ← Nat.add_mul]
    congr 1
    omega
  have hno1 : ¬ (((n + m : Nat) : Int) > IntKind.i64.max ∧ (False ∨ i.bytes = 0)) := by
    intro h
    have := A.b0
    rcases h.2 with h | h
    · exact h
    · omega
  have hno2 : ¬ (Builtin.nextslicecap (n + m) cap * i.bytes > 2 ^ 48) := by
    have h1 := nextcap_le (need := n + m) (cap := cap) (by omega)
    have h2 : Builtin.nextslicecap (n + m) cap * b ≤ 3 * (n + m) * b := Nat.mul_le_mul_right _ h1
    rw [Nat.mul_assoc] at h2
    have h3 : roomA = 35184372088832 := rfl
    rw [hb]
    omega
  refine ⟨c, cap', ?_, ?_, hcap', hsz⟩
  · rw [h1]
    simp only [Builtin.append_, h2, h3, List.getElem?_toArray, List.getElem?_cons_zero, List.getElem?_cons_succ, Sem.run_bind, run_und h4, run_und h5, Result.andThen_ok, hx, run_size A.size, Sem.run_pure]
    simp only [Bool.false_eq_true, if_false, hl, Result.andThen_ok, if_neg hc, Bool.not_false, if_true, run_info hi, Sem.run_ite, Sem.run_bind]
    rw [if_neg (by simpa using hno1), if_neg hno2]
    simp only [run_choose, Question.forced, Bool.false_eq_true, if_false, Result.andThen_ok, Sem.run_bind, run_askRoom, ho, hf, hrz, newRow, run_newObj, Sem.run_pure]
    rfl
  · simp [c]

end
end
end Go.Ab

/- append, joined. -/
namespace Go.Ab
section
variable {B : Nat} {P : Program} {g : Gh} {blk : Nat → Option Nat} {w : World} {S S' : AS} {ρ : Opd → AV} {ρ' : Operand → Value} {d : Option Nat} {o : Oper} {v : AV}

/-- A block's cells that never change grow, as the block is written behind them. -/
theorem WRel.immgrow {H : List AObj} {h h' : Heap} {b : Nat} {L : List Value} {c : Array Value} {T : TypeId} {fr : Nat × Nat} (W : WRel g H h) (hsz : h.size ≤ h'.size) (hh : ∀ x, x ≠ b → h'[x]? = h[x]?)
    (hb : h'[b]? = some (.cells c T fr)) (hL : L <+: c.toList) (h0 : ∀ L0, g.imm b = some L0 → L0 <+: L)
    (hs : ∀ (j : Nat) (o' : AObj) (l' : Loc), H[j]? = some o' → o'.live → g.obj[j]? = some l' → l'.b ≠ b) : WRel (immSet g b L) H h' := by
  have le := immSet_le h0
  refine ⟨W.len, fun l hl => Nat.lt_of_lt_of_le (W.bnd l hl) hsz, ?_, W.sep, ?_⟩
  · intro j o l ho hl
    have r := W.obj j o l ho hl
    cases o with
    | dead => trivial
    | cells cs =>
      have hne := hs j _ l ho trivial hl
      obtain ⟨h1, h0, c, T, ys, h2, h3, h4⟩ := r
      exact ⟨by simp [immSet, hne, h1], h0, c, T, ys, by rw [hh _ hne]; exact h2, rels_le le _ _ h3, h4⟩
    | map es =>
      have hne := hs j _ l ho trivial hl
      obtain ⟨h1, c, k, h2, h3⟩ := r
      exact ⟨by simp [immSet, hne, h1], c, k, by rw [hh _ hne]; exact h2, mrel_le le h3⟩
    | tip =>
      have hne := hs j _ l ho trivial hl
      obtain ⟨L, c, T, h1, h2, h3, h4⟩ := r
      exact ⟨L, c, T, by simp [immSet, hne, h1], h2, by rw [hh _ hne]; exact h3, h4⟩
  · intro x L1 hx
    by_cases e : x = b
    · subst e
      simp [immSet] at hx
      subst hx
      exact ⟨c, T, fr, hb, hL⟩
    · simp [immSet, e] at hx
      rw [hh x e]
      exact W.imm x L1 hx

theorem kill_other {H : List AObj} {h : Heap} {i : Nat} {l : Loc} {o0 : AObj} (W : WRel g H h) (hi : H[i]? = some o0) (h0 : o0.live) (hl : g.obj[i]? = some l) :
    ∀ (j : Nat) (o' : AObj) (l' : Loc), (H.set i .dead)[j]? = some o' → o'.live → g.obj[j]? = some l' → l'.b ≠ l.b := by
  intro j o' l' h1 h2 h3 e
  by_cases hj : j = i
  · subst hj
    rw [List.getElem?_set] at h1
    simp at h1
    obtain ⟨_, rfl⟩ := h1
    exact h2.elim
  · exact hj (W.sep j i o' o0 l' l (get_set_ne h1 hj) hi h2 h0 h3 hl e)

theorem s_app {e b : Nat} {hk : Bool} {x y : Opd} {x' y' : Operand} {el : TypeId} (hS : SRel B g blk w.heap S) (hx : relT g blk (ρ x) (ρ' x')) (hy : relT g blk (ρ y) (ρ' y')) (A : App P o x' y' el e b)
    (h : astep ρ d S (.app e b hk x y) = some (v, S')) : Res B g blk w d S' v ((execOp ρ' o).run P w) := by
  simp only [astep, appA] at h
  split at h
  · split at h
    case h_1 => cases h
    rename_i m cs hcs
    obtain ⟨zs, hr, hsc, src⟩ := cellsA_sound (P := P) hS hy hcs
    have hr' := rels_map_drop1 hr
    have hsc' := map_drop1_scalar hsc
    split at h
    · rename_i ex
      rw [ex] at hx
      have hx' : ρ' x' = .slice none 0 0 := by simpa [relT, rel] using hx
      split at h
      · rename_i hm
        cases h
        subst hm
        rw [app_in A hx' src (by simp) (w' := w) (by rfl)]
        exact Res.value hS (by simp [relT, rel])
      · rename_i hm
        split at h
        · rename_i hroom
          cases h
          obtain ⟨c, cap', hrun, hp, hcap, hsz⟩ := app_new A hx' src (by omega) Src.nil (by simpa using hroom)
          rw [hrun]
          rw [List.nil_append] at hp
          rw [Nat.zero_add] at hcap ⊢
          obtain ⟨g', W', st, hrel⟩ := newHs (T := el) (e := e) (n := m) (cap := cap') hS.W hsc' hr' hp hcap (Nat.le_of_eq hsz.symm)
          exact Res.of (w' := { w with heap := w.heap.push (.cells c el), drawn := w.drawn + 1 }) hS W' st hrel
        · cases h
    · rename_i i e' q n ex
      rw [ex] at hx
      obtain ⟨l, cap, hl, hx', hcap, hlim⟩ := hx
      split at h
      case isFalse => cases h
      rename_i hc
      obtain ⟨rfl, hroom⟩ := hc
      split at h
      case h_2 => cases h
      rename_i old hi
      split at h
      case isFalse => cases h
      rename_i hle
      obtain ⟨hle, rfl⟩ := hle
      cases h
      obtain ⟨himm, h0, c, T, ys, h2, h3, h4, h5, h6⟩ := hS.W.obj i _ l hi hl
      have hyl := rels_length h3
      rw [Nat.add_zero] at hx' hlim
      rw [Nat.zero_add] at hle
      have oldS : Src P w.heap e' n (.slice (some ⟨l.b, l.o, none⟩) n cap) (ys.take (n * e')) :=
        Src.slice (by simp; omega) ⟨c, T, (0, 0), h2, (List.take_prefix _ _).trans h4⟩
      have hall : (old.take (n * e') ++ cs.map AV.drop1).all AV.scalar = true := by
        rw [List.all_append, hsc', Bool.and_true]
        rw [List.all_eq_true] at h0 ⊢
        exact fun x hx => h0 x (List.mem_of_mem_take hx)
      have hrr : rels g (old.take (n * e') ++ cs.map AV.drop1) (ys.take (n * e') ++ zs) := rels_append (rels_take _ h3) hr'
      have Wk := hS.W.kill i
      have hko := kill_other hS.W hi trivial hl
      by_cases hcp : n + m ≤ cap
      · have hlen : zs.length = m * e' := src.len
        have e1 : (n + m) * e' = n * e' + m * e' := Nat.add_mul _ _ _
        have e2 : (n + m) * e' ≤ cap * e' := Nat.mul_le_mul_right _ hcp
        obtain ⟨w', c', r1, r2, r3, r4, r5, ro⟩ := run_storeCells (P := P) (b := l.b) (o := l.o + n * e') zs 0 w c h2 (fun z hz => by
          obtain ⟨a, ha, hra⟩ := rels_mem hr hz
          rw [List.all_eq_true] at hsc
          exact (rel_oneCell hra (hsc a ha)).1) (by omega)
        rw [app_in A hx' src hcp (w' := w') (by simpa using r1)]
        have W1 := Wk.heap (h' := w'.heap) (by omega) (fun x m => r3 x (by
          rcases matters_kill m with m | ⟨j, o', l', hj, hj1, hj2, hj3, rfl⟩
          · rintro rfl
            exact m himm
          · intro e
            exact hj (hS.W.sep j i o' _ l' l hj1 hi hj2 trivial hj3 hl e)))
        have le := le_addObj g ⟨l.b, l.o, l.lim⟩
        have hlt := hS.W.bnd l (List.mem_of_getElem? hl)
        have hsize : c'.size = c.size := by
          have := congrArg List.length r5
          simp at this
          omega
        have hpre : ys.take (n * e') ++ zs <+: c'.toList.drop l.o := by
          have hA : c.toList = c.toList.take (l.o + n * e') ++ c.toList.drop (l.o + n * e') := (List.take_append_drop _ _).symm
          have hB : (c.toList.take (l.o + n * e')).drop l.o = ys.take (n * e') := by
            obtain ⟨r, hr⟩ := h4
            rw [List.drop_take, show l.o + n * e' - l.o = n * e' from by omega, ← hr, List.take_append_of_le_length (by omega)]
          rw [r5, Nat.add_zero, List.append_assoc, List.drop_append_of_le_length (by simp; omega), hB, ← List.append_assoc]
          exact ⟨_, rfl⟩
        have W2 := W1.adopt (o := .cells (old.take (n * e') ++ cs.map AV.drop1)) (l := ⟨l.b, l.o, l.lim⟩) (by show l.b < w'.heap.size; omega)
          ⟨himm, hall, c', T, _, r4, rels_le le _ _ hrr, hpre, by show l.lim ≤ c'.size; omega, by show l.o ≤ c'.size; omega⟩ hko
        have st : Step w.heap.size g w.heap { g with obj := g.obj ++ [⟨l.b, l.o, l.lim⟩] } w'.heap := by
          refine Step.of le (by omega) (fun l1 hl' => ?_) (fun b hb => .inl hb) (fun b1 _ pb => r3 b1 ?_)
          · rcases List.mem_append.1 hl' with g1 | g1
            · exact .inl g1
            · simp at g1; subst g1; exact .inr (.inr (.inl ⟨l, List.mem_of_getElem? hl, rfl⟩))
          · exact fun e => pb.obj l (List.mem_of_getElem? hl) e.symm
        refine Res.of (w' := w') hS W2 st ?_ ro.1 ro.2
        simp only [rel]
        refine ⟨⟨l.b, l.o, l.lim⟩, cap, ?_, by simp, hcp, by simpa using hlim⟩
        rw [← hS.W.len]; simp
      · obtain ⟨c2, cap', hrun, hp, hcap2, hsz⟩ := app_new A hx' src hcp oldS hroom
        rw [hrun]
        obtain ⟨g', W', st, hrel⟩ := newHs (T := el) (e := e') (n := n + m) (cap := cap') Wk hall hrr hp hcap2 (Nat.le_of_eq hsz.symm)
        rw [List.length_set] at hrel
        exact Res.of (w' := { w with heap := w.heap.push (.cells c2 el), drawn := w.drawn + 1 }) hS W' st hrel
    · cases h
  · split at h
    case h_1 => cases h
    rename_i ys hys
    obtain ⟨zs, hr, hsizes, src, hok⟩ := elemsA_sound (P := P) hS hy hys
    have hr' := rels_map_erase hr
    split at h
    · rename_i ex
      rw [ex] at hx
      have hx' : ρ' x' = .slice none 0 0 := by simpa [relT, rel] using hx
      split at h
      · rename_i hm
        cases h
        subst hm
        rw [app_in A hx' src (by simp) (w' := w) (by
          have : cellsL zs = [] := by
            have := src.len
            simpa using this
          rfl)]
        exact Res.value hS (by simp [relT, rel])
      · rename_i hm
        split at h
        · rename_i hroom
          cases h
          have hpos : 0 < ys.length := List.length_pos_iff.2 hm
          obtain ⟨c, cap', hrun, hp, hcap, hsz⟩ := app_new A hx' src (by omega) Src.nil (by simpa using hroom)
          rw [hrun]
          rw [List.nil_append] at hp
          rw [Nat.zero_add] at hcap ⊢
          obtain ⟨g', W', st, hrel⟩ := newVs (T := el) (e := e) (cap := cap') hS.W hr' hsizes hp (by simpa using hcap) (Nat.le_of_eq hsz.symm) (by simpa using hpos)
          rw [List.length_map] at hrel
          exact Res.of (w' := { w with heap := w.heap.push (.cells c el), drawn := w.drawn + 1 }) hS W' st hrel
        · cases h
    · rename_i i xs ex
      rw [ex] at hx
      obtain ⟨b0, q, cap, L, os, e0, hx', hcap, hL, hos, hpre, hosz, htok⟩ := hx
      split at h
      case isFalse => cases h
      rename_i hc
      obtain ⟨hroom, hwid⟩ := hc
      split at h
      case h_2 => cases h
      rename_i hi
      cases h
      obtain ⟨l, hl, rfl, hlo, hpos, hlim⟩ := htok i rfl
      have hol := rels_length hos
      have he0 : e0 = e := wid_eq hos hosz hwid (by omega)
      subst he0
      obtain ⟨L0, c, T, himm, hL0, hb, hls⟩ := hS.W.obj i _ l hi hl
      have hocl := cellsL_length hosz
      have oldS : Src P w.heap e0 xs.length (.slice (some ⟨l.b, q, none⟩) xs.length cap) (cellsL os) :=
        Src.slice (by rw [hocl, hol]) (at_imm hS.W hL hpre)
      have hrr : rels g (xs ++ ys.map AV.erase) (os ++ zs) := rels_append hos hr'
      have hsz2 : ∀ z ∈ os ++ zs, z.cells.size = e0 := by
        intro z hz
        rcases List.mem_append.1 hz with hz | hz
        · exact hosz z hz
        · exact hsizes z hz
      have Wk := hS.W.kill i
      have hko := kill_other hS.W hi trivial hl
      have hlen3 : (xs ++ ys.map AV.erase).length = xs.length + ys.length := by simp
      by_cases hcp : xs.length + ys.length ≤ cap
      · have hlen : (cellsL zs).length = ys.length * e0 := src.len
        have e1 : (xs.length + ys.length) * e0 = xs.length * e0 + ys.length * e0 := Nat.add_mul _ _ _
        have e2 : (xs.length + ys.length) * e0 ≤ cap * e0 := Nat.mul_le_mul_right _ hcp
        have hqo : q + xs.length * e0 = l.o := by rw [hlo, hocl, hol]
        obtain ⟨w', c', r1, r2, r3, r4, r5, ro⟩ := run_storeCells (P := P) (b := l.b) (o := q + xs.length * e0) (cellsL zs) 0 w c hb (fun z hz => by
          obtain ⟨m1, m2⟩ := rels_cellsL hr hok
          obtain ⟨a, ha, hra⟩ := rels_mem m1 hz
          rw [List.all_eq_true] at m2
          exact (rel_oneCell hra (m2 a ha)).1) (by omega)
        rw [app_in A hx' src hcp (w' := w') (by simpa using r1)]
        have hsize : c'.size = c.size := by
          have := congrArg List.length r5
          simp at this
          omega
        have hL0c : L0 = c.toList.take l.o := by
          obtain ⟨cc, TT, fr, k1, k2⟩ := hS.W.imm l.b L0 himm
          rw [hb] at k1; cases k1
          rw [List.prefix_iff_eq_take] at k2
          rw [k2, hL0]
        have hLL : L0 ++ cellsL zs <+: c'.toList := by
          rw [r5, Nat.add_zero, hqo, ← hL0c]
          exact ⟨_, rfl⟩
        have hgrow : ∀ L1, g.imm l.b = some L1 → L1 <+: L0 ++ cellsL zs := by
          intro L1 h1
          rw [himm] at h1; cases h1
          exact ⟨_, rfl⟩
        have W1 := Wk.immgrow (h' := w'.heap) (by omega) r3 r4 hLL hgrow hko
        have le1 := immSet_le hgrow
        have le2 := le_addObj (immSet g l.b (L0 ++ cellsL zs)) ⟨l.b, l.o + (cellsL zs).length, l.lim⟩
        have hlt := hS.W.bnd l (List.mem_of_getElem? hl)
        have W2 := W1.adopt (o := .tip) (l := ⟨l.b, l.o + (cellsL zs).length, l.lim⟩) (by show l.b < w'.heap.size; omega)
          ⟨L0 ++ cellsL zs, c', T, by simp [immSet], by simp [hL0], r4, by show l.lim ≤ c'.size; omega⟩ hko
        have hLeq : L = L0 := by rw [himm] at hL; cases hL; rfl
        have st : Step w.heap.size g w.heap { (immSet g l.b (L0 ++ cellsL zs)) with obj := (immSet g l.b (L0 ++ cellsL zs)).obj ++ [⟨l.b, l.o + (cellsL zs).length, l.lim⟩] } w'.heap := by
          refine Step.of (le1.trans le2) (by omega) (fun l1 hl' => ?_) (fun b1 hb1 => ?_) (fun b1 _ pb => r3 b1 ?_)
          · rcases List.mem_append.1 hl' with g1 | g1
            · exact .inl g1
            · simp at g1; subst g1; exact .inr (.inr (.inl ⟨l, List.mem_of_getElem? hl, rfl⟩))
          · by_cases hbe : b1 = l.b
            · subst hbe; exact .inl (by simp [himm])
            · simp [immSet, hbe] at hb1; exact .inl (by simpa using hb1)
          · exact fun e => pb.obj l (List.mem_of_getElem? hl) e.symm
        refine Res.of (w' := w') hS W2 st ?_ ro.1 ro.2
        simp only [rel]
        refine ⟨l.b, q, cap, L0 ++ cellsL zs, os ++ zs, e0, by rw [hlen3], by rw [hlen3]; exact hcp, by simp [immSet], rels_le (le1.trans le2) _ _ hrr, ?_, hsz2, fun j hj => ?_⟩
        · rw [cellsL_append]
          subst hLeq
          obtain ⟨r, hr0⟩ := hpre
          have hr1 : r = [] := by
            have := congrArg List.length hr0
            simp at this
            have : r.length = 0 := by omega
            simpa using this
          rw [hr1, List.append_nil] at hr0
          rw [List.drop_append_of_le_length (by omega), ← hr0]
          exact List.prefix_refl _
        · cases hj
          refine ⟨⟨l.b, l.o + (cellsL zs).length, l.lim⟩, ?_, rfl, ?_, by rw [hlen3]; omega, hlim⟩
          · have : S.hp.length = (immSet g l.b (L0 ++ cellsL zs)).obj.length := hS.W.len.symm
            rw [this]; simp
          · rw [cellsL_append]
            simp
            omega
      · obtain ⟨c2, cap', hrun, hp, hcap2, hsz⟩ := app_new A hx' src hcp oldS hroom
        rw [hrun]
        rw [← cellsL_append] at hp
        obtain ⟨g', W', st, hrel⟩ := newVs (T := el) (e := e0) (cap := cap') Wk hrr hsz2 hp (by rw [hlen3]; exact hcap2) (Nat.le_of_eq hsz.symm) (by rw [hlen3]; omega)
        rw [List.length_set, hlen3] at hrel
        exact Res.of (w' := { w with heap := w.heap.push (.cells c2 el), drawn := w.drawn + 1 }) hS W' st hrel
    · cases h

end
end Go.Ab

/- Any operation but a call: what the check lets, the model does. -/
namespace Go.Ab

def AOp.opds : AOp → List Opd
  | .mv x | .boxL x | .boxH x | .ld _ _ x | .nck x | .un _ x | .cvi _ x | .fld _ _ _ x | .fa _ x | .len _ x | .mki _ x | .tas _ _ _ x | .ext x _ | .mks _ _ _ _ x => [x]
  | .pick a b c | .mup _ a b c => [a, b, c]
  | .allocL _ | .allocH _ | .mkmap => []
  | .build _ ps => ps.map fun p => p.2.2
  | .bsl _ _ ps => ps
  | .st _ x y | .bin _ _ x y | .ixa _ x y | .ixs x y | .app _ _ _ x y | .mx _ x y | .lkp _ _ _ x y => [x, y]
  | .sl _ x lo hi | .sls x lo hi => x :: (lo.toList ++ hi.toList)
  | .mkf _ a b => a ++ b

section
variable {B : Nat} {P : Program} {g : Gh} {blk : Nat → Option Nat} {w : World} {S S' : AS} {ρ : Opd → AV} {ρ' : Operand → Value} {d : Option Nat} {o : Oper} {v : AV}

theorem okO_rel {a : Option Opd} {x : Option Operand} (h : Opd.okO a x = true) (hρ : ∀ (p : Opd) (y : Operand), p ∈ a.toList → p.ok y = true → relT g blk (ρ p) (ρ' y)) : relO g blk (a.map ρ) (x.map ρ') := by
  cases a <;> cases x <;> simp only [Opd.okO] at h
  · trivial
  · cases h
  · cases h
  · exact hρ _ _ (by simp) h
theorem oks_rel : ∀ {as : List Opd} {xs : List Operand}, Opd.oks as xs = true → (∀ (p : Opd) (y : Operand), p ∈ as → p.ok y = true → relT g blk (ρ p) (ρ' y)) → relLs g blk (as.map ρ) (xs.map ρ')
  | [], [], _, _ => trivial
  | a :: as, x :: xs, h, hρ => by
    simp only [Opd.oks, Bool.and_eq_true] at h
    exact ⟨hρ _ _ (by simp) h.1, oks_rel h.2 fun p y hp => hρ p y (List.mem_cons_of_mem _ hp)⟩
  | [], _ :: _, h, _ => by simp [Opd.oks] at h
  | _ :: _, [], h, _ => by simp [Opd.oks] at h

theorem zeroB_get {t : TypeId} {z : List AV} (h : zeroB P t z = true) : ∃ zv, (P.info? t).bind (·.zero) = some zv ∧ consts z zv.cells.toList = true := by
  unfold zeroB at h
  split at h
  · exact ⟨_, by assumption, h⟩
  · cases h
theorem zero1_get {t : TypeId} {z : AV} (h : zero1 P t z = true) : ∃ zv, (P.info? t).bind (·.zero) = some zv ∧ constOk z zv = true := by
  unfold zero1 at h
  split at h
  · exact ⟨_, by assumption, h⟩
  · cases h
theorem sliceB_get {t el : TypeId} (h : sliceB P t = some el) : P.underlying t = some (.slice el) := by
  unfold sliceB at h
  split at h
  · rename_i e hu; cases h; exact hu
  · cases h

theorem any_zero {el e : Nat} (h : (P.info? el).any (fun i => i.zero.any (fun v => v.cells.size == e)) = true) : ∃ i zv, P.info? el = some i ∧ i.zero = some zv ∧ zv.cells.size = e := by
  cases hi : P.info? el with
  | none => rw [hi] at h; simp at h
  | some i =>
    rw [hi] at h
    simp only [Option.any_some] at h
    cases hz : i.zero with
    | none => rw [hz] at h; simp at h
    | some zv =>
      rw [hz] at h
      simp only [Option.any_some, beq_iff_eq] at h
      exact ⟨i, zv, rfl, hz, h⟩

set_option maxHeartbeats 1000000 in
theorem op_sound {ao : AOp} (hc : chkOp P ao o = true) (hS : SRel B g blk w.heap S) (hρ : ∀ (x : Opd) (y : Operand), x ∈ ao.opds → x.ok y = true → relT g blk (ρ x) (ρ' y))
    (h : astep ρ d S ao = some (v, S')) : Res B g blk w d S' v ((execOp ρ' o).run P w) := by
  cases ao <;> simp only [chkOp] at hc <;> simp only [AOp.opds] at hρ
  case mv x =>
    simp only [astep] at h
    cases h
    split at hc
    · exact s_mv hS (hρ _ _ (by simp) hc) (.inl (by assumption))
    · exact s_mv hS (hρ _ _ (by simp) hc) (.inr (by assumption))
    · cases hc
  case pick =>
    split at hc
    · simp only [Bool.and_eq_true] at hc
      exact s_pick hS (hρ _ _ (by simp) hc.1.1) (hρ _ _ (by simp) hc.1.2) (hρ _ _ (by simp) hc.2) (by assumption) h
    · cases hc
  case allocL =>
    split at hc
    · obtain ⟨zv, h1, h2⟩ := zeroB_get hc
      exact s_allocL hS (by assumption) h1 h2 h
    · cases hc
  case allocH =>
    split at hc
    · obtain ⟨zv, h1, h2⟩ := zeroB_get hc
      exact s_allocH hS (by assumption) h1 h2 h
    · cases hc
  case boxL =>
    split at hc
    · exact s_boxL hS (hρ _ _ (by simp) hc) (by assumption) h
    · cases hc
  case boxH =>
    split at hc
    · exact s_boxH hS (hρ _ _ (by simp) hc) (by assumption) h
    · cases hc
  case build z ps =>
    split at hc
    · simp only [Bool.and_eq_true] at hc
      obtain ⟨h1, h2⟩ := hc
      obtain ⟨zv, h3, h4⟩ := zeroB_get h2
      split at h1
      · simp only [Bool.and_eq_true] at h1
        exact s_build hS hρ (by assumption) (by assumption) h1.1 h1.2 h3 h4 h
      · cases h1
    · cases hc
  case bsl e hk ps =>
    split at hc
    · simp only [Bool.and_eq_true, beq_iff_eq, decide_eq_true_eq] at hc
      obtain ⟨⟨⟨h1, h2⟩, h3⟩, h4⟩ := hc
      split at h1
      · rename_i el hel
        simp only [Bool.and_eq_true, beq_iff_eq, decide_eq_true_eq] at h1
        obtain ⟨⟨h5, h6⟩, h7⟩ := h1
        obtain ⟨i, zv, g1, g2, g3⟩ := any_zero h6
        exact s_bsl hS hρ (by assumption) (sliceB_get hel) h5 g1 g2 h7 h2 h3 h
      · cases h1
    · cases hc
  case ld =>
    split at hc
    · simp only [Bool.and_eq_true, beq_iff_eq] at hc
      exact s_ld hS (hρ _ _ (by simp) hc.2) (by assumption) hc.1.1 hc.1.2 h
    · cases hc
  case st =>
    split at hc
    · simp only [Bool.and_eq_true, beq_iff_eq] at hc
      exact s_st hS (hρ _ _ (by simp) hc.1.2) (hρ _ _ (by simp) hc.2) (by assumption) hc.1.1 h
    · cases hc
  case nck =>
    split at hc
    · exact s_nck hS (hρ _ _ (by simp) hc) (by assumption) h
    · cases hc
  case bin =>
    split at hc
    · simp only [Bool.and_eq_true, beq_iff_eq] at hc
      obtain ⟨⟨⟨rfl, h2⟩, h3⟩, h4⟩ := hc
      exact s_bin hS (hρ _ _ (by simp) h3) (hρ _ _ (by simp) h4) (by assumption) h2 h
    · cases hc
  case un =>
    split at hc
    · simp only [Bool.and_eq_true, beq_iff_eq] at hc
      obtain ⟨rfl, h2⟩ := hc
      exact s_un hS (hρ _ _ (by simp) h2) (by assumption) h
    · cases hc
  case cvi =>
    split at hc
    · simp only [Bool.and_eq_true] at hc
      obtain ⟨⟨h1, h2⟩, h3⟩ := hc
      obtain ⟨ds, h4⟩ := Option.isSome_iff_exists.1 h1
      split at h2
      · rename_i hu
        have := beq_iff_eq.1 h2
        subst this
        exact s_cvi hS (hρ _ _ (by simp) h3) (by assumption) h4 hu h
      · cases h2
    · cases hc
  case fld =>
    split at hc
    · simp only [Bool.and_eq_true] at hc
      obtain ⟨h1, h2⟩ := hc
      split at h1
      · simp only [Bool.and_eq_true, beq_iff_eq] at h1
        exact s_fld hS (hρ _ _ (by simp) h2) (by assumption) (by assumption) h1.1.1 h1.1.2 h1.2 h
      · cases h1
    · cases hc
  case fa =>
    split at hc
    · simp only [Bool.and_eq_true] at hc
      obtain ⟨h1, h2⟩ := hc
      split at h1
      · simp only [Bool.and_eq_true, beq_iff_eq] at h1
        obtain ⟨h3, h4⟩ := h1
        split at h4
        · exact s_fa hS (hρ _ _ (by simp) h2) (by assumption) (by assumption) h3 (by assumption) (bne_iff_ne.1 h4) h
        · cases h4
      · cases h1
    · cases hc
  case ixa =>
    split at hc
    · simp only [Bool.and_eq_true] at hc
      obtain ⟨⟨h1, h2⟩, h3⟩ := hc
      split at h1
      · rename_i el hel
        exact s_ixa hS (hρ _ _ (by simp) h2) (hρ _ _ (by simp) h3) (by assumption) (sliceB_get hel) (beq_iff_eq.1 h1) h
      · cases h1
    · cases hc
  case ixs =>
    split at hc
    · simp only [Bool.and_eq_true] at hc
      obtain ⟨⟨h1, h2⟩, h3⟩ := hc
      split at h1
      · exact s_ixs hS (hρ _ _ (by simp) h2) (hρ _ _ (by simp) h3) (by assumption) (by assumption) h
      · cases h1
    · cases hc
  case sl =>
    split at hc
    · simp only [Bool.and_eq_true] at hc
      obtain ⟨⟨⟨⟨h1, h2⟩, h3⟩, h4⟩, h5⟩ := hc
      split at h1
      · rename_i mx _ el hel
        simp only [Option.isNone_iff_eq_none] at h5
        subst h5
        exact s_sl hS (hρ _ _ (by simp) h2) (okO_rel h3 fun p y hp => hρ p y (by simp only [List.mem_cons, List.mem_append]; exact .inr (.inl hp))) (okO_rel h4 fun p y hp => hρ p y (by simp only [List.mem_cons, List.mem_append]; exact .inr (.inr hp))) (by assumption) (sliceB_get hel) (beq_iff_eq.1 h1) h
      · cases h1
    · cases hc
  case sls =>
    split at hc
    · simp only [Bool.and_eq_true] at hc
      obtain ⟨⟨⟨⟨h1, h2⟩, h3⟩, h4⟩, h5⟩ := hc
      split at h1
      · simp only [Option.isNone_iff_eq_none] at h5
        subst h5
        exact s_sls hS (hρ _ _ (by simp) h2) (okO_rel h3 fun p y hp => hρ p y (by simp only [List.mem_cons, List.mem_append]; exact .inr (.inl hp))) (okO_rel h4 fun p y hp => hρ p y (by simp only [List.mem_cons, List.mem_append]; exact .inr (.inr hp))) (by assumption) (by assumption) h
      · cases h1
    · cases hc
  case app e b hk x y =>
    split at hc
    · rename_i as ts hb
      simp only [Bool.and_eq_true] at hc
      obtain ⟨h1, h2⟩ := hc
      split at h1
      · rename_i x' y' hx' hy'
        simp only [Bool.and_eq_true] at h1
        split at h2
        · rename_i t u ht hu
          simp only [Bool.and_eq_true] at h2
          obtain ⟨h3, h4⟩ := h2
          obtain ⟨el2, h4⟩ := Option.isSome_iff_exists.1 h4
          split at h3
          · rename_i el hel
            simp only [Bool.and_eq_true, beq_iff_eq, decide_eq_true_eq] at h3
            obtain ⟨⟨⟨⟨k1, k2⟩, k3⟩, k4⟩, k5⟩ := h3
            obtain ⟨i, zv, g1, g2, g3⟩ := any_zero k3
            obtain ⟨ho, hs1, hs2⟩ := builtin_call hb
            refine s_app hS (hρ _ _ (by simp) h1.1) (hρ _ _ (by simp) h1.2) ⟨fun ρ' => ⟨ts, t, u, el2, ?_, ht, hu, sliceB_get hel, sliceB_get h4⟩, k1, ⟨i, zv, g1, ?_, g2, g3⟩, k4, k5⟩ h
            · rw [run_builtin ho]
              have has : as.map ρ' = #[ρ' x', ρ' y'] := by
                apply Array.ext
                · simp [hs1]
                · intro i hi hi'
                  simp at hi'
                  rcases (by omega : i = 0 ∨ i = 1) with rfl | rfl
                  · have := (Array.getElem?_eq_some_iff.1 hx').2; simp [this]
                  · have := (Array.getElem?_eq_some_iff.1 hy').2; simp [this]
              rw [has]
              rfl
            · unfold bytesB at k2
              rw [g1] at k2
              simpa using k2
          · cases h3
        · cases h2
      · cases h1
    · cases hc
  case len k x =>
    split at hc
    · rename_i as ts hb
      split at hc
      · simp only [Bool.and_eq_true] at hc
        exact s_len hS (hρ _ _ (by simp) hc.1) hb (by assumption) (by assumption) hc.2 h
      · cases hc
    · cases hc
  case mx least x y =>
    split at hc
    · rename_i as ts hb
      simp only [Bool.and_eq_true] at hc
      obtain ⟨h1, _⟩ := hc
      split at h1
      · simp only [Bool.and_eq_true] at h1
        exact s_mx hS (hρ _ _ (by simp) h1.1) (hρ _ _ (by simp) h1.2) hb (by assumption) (by assumption) h
      · cases h1
    · cases hc
  case mkmap =>
    split at hc
    · exact s_mkmap hS (by assumption) h
    · cases hc
  case lkp =>
    split at hc
    · simp only [Bool.and_eq_true, beq_iff_eq] at hc
      obtain ⟨⟨⟨h1, rfl⟩, h3⟩, h4⟩ := hc
      split at h1
      · simp only [Bool.and_eq_true] at h1
        obtain ⟨zv, h5, h6⟩ := zero1_get h1.2
        exact s_lkp hS (hρ _ _ (by simp) h3) (hρ _ _ (by simp) h4) (by assumption) (by assumption) h1.1 h5 h6 h
      · cases h1
    · cases hc
  case mup =>
    split at hc
    · simp only [Bool.and_eq_true] at hc
      obtain ⟨⟨⟨h1, h2⟩, h3⟩, h4⟩ := hc
      split at h1
      · exact s_mup hS (hρ _ _ (by simp) h2) (hρ _ _ (by simp) h3) (hρ _ _ (by simp) h4) (by assumption) (by assumption) h1 h
      · cases h1
    · cases hc
  case mkf =>
    split at hc
    · simp only [Bool.and_eq_true, decide_eq_true_eq] at hc
      obtain ⟨⟨rfl, h2⟩, h3⟩ := hc
      exact s_mkf hS (oks_rel h2 fun p y hp => hρ p y (List.mem_append.2 (.inl hp))) (oks_rel h3 fun p y hp => hρ p y (List.mem_append.2 (.inr hp))) (by assumption) h
    · cases hc
  case mki =>
    split at hc
    · simp only [Bool.and_eq_true, beq_iff_eq] at hc
      obtain ⟨⟨rfl, h2⟩, h3⟩ := hc
      split at h2
      · cases h2
      · rename_i ds hne hu
        exact s_mki hS (hρ _ _ (by simp) h3) (by assumption) hu (fun ms e => hne ms (by rw [e])) h
      · cases h2
    · cases hc
  case tas =>
    split at hc
    · simp only [Bool.and_eq_true, beq_iff_eq] at hc
      obtain ⟨⟨⟨⟨rfl, rfl⟩, h2⟩, h3⟩, h4⟩ := hc
      obtain ⟨zv, h5, h6⟩ := zero1_get h3
      split at h2
      · cases h2
      · rename_i ds hne hu
        exact s_tas hS (hρ _ _ (by simp) h4) (by assumption) hu (fun ms e => hne ms (by rw [e])) h5 h6 h
      · cases h2
    · cases hc
  case ext =>
    split at hc
    · simp only [Bool.and_eq_true, beq_iff_eq] at hc
      obtain ⟨h1, rfl⟩ := hc
      exact s_ext hS (hρ _ _ (by simp) h1) (by assumption) h
    · cases hc
  case mks e b hk z n =>
    split at hc
    · simp only [Bool.and_eq_true] at hc
      obtain ⟨⟨h1, h2⟩, h3⟩ := hc
      split at h1
      · rename_i el hel
        simp only [Bool.and_eq_true, beq_iff_eq, decide_eq_true_eq] at h1
        obtain ⟨⟨⟨⟨k1, k2⟩, k3⟩, k4⟩, k5⟩ := h1
        obtain ⟨zv, h5, h6⟩ := zero1_get k3
        cases hi : P.info? el with
        | none => rw [hi] at h5; cases h5
        | some i =>
          rw [hi] at h5
          have hb : i.bytes = b := by unfold bytesB at k2; rw [hi] at k2; simpa using k2
          exact s_mks hS (hρ _ _ (by simp) h2) (hρ _ _ (by simp) h3) (by assumption) (sliceB_get hel) k1 hi hb (by simpa using h5) h6 k4 k5 h
      · cases h1
    · cases hc

end
end Go.Ab

/- Calls, and a region's operations one behind the other. -/
namespace Go.Ab

instance {B : Nat} {g g' : Gh} {w w' : World} : CoeOut (WStep B g w g' w') (Step B g w.heap g' w'.heap) := ⟨WStep.toStep⟩

/-- The number under which a call of a loop's round is asked for, and a loop's mark among the deferred calls. -/
def yid (l : Nat) : Nat := 100000 + l
inductive AIns where
  | op (a : AOp)
  | call (f : Nat) (args : List Opd)
  | callv (x : Opd) (args : List Opd)
  | pan (x : Opd)
  | dfr (x : Opd) (args : List Opd)

/-- An operation of a region: its number there, its slot, its guard; 're': which ones (by their places in this row) are read once more behind it, as they may be carried out behind it. -/
structure AOper where
  i : Nat
  d : Option Nat
  g : Option (Nat × Bool)
  a : AIns
  re : List Nat

inductive AEnd where
  | ret (v : AV)
  | pan (v : AV)

abbrev Env := List (Nat × AV)
abbrev Spec := Nat → List AV → List AObj → (AEnd → List AObj → Prop) → Prop

def Opd.ev (τ : Env) : Opd → AV
  | .t n => (look τ n).getD .undef
  | .c v => v

def wantA (g : Option (Nat × Bool)) (τ : Env) : Option Bool :=
  match g with
  | none => some true
  | some (t, b) => match look τ t with
    | some (.bool c) => some (c == b)
    | some .skip => some false
    | _ => none

def putD (τ : Env) (d : Option Nat) (v : AV) : Env :=
  match d with
  | some d => put τ d v
  | none => τ

def isLref (s : Nat) : AV → Bool
  | .lref s' _ => s' == s
  | _ => false
/-- Does the operation's value not hang on memory? -/
def AOp.quiet : AOp → Bool
  | .mv _ | .pick .. | .build .. | .nck _ | .bin .. | .un .. | .cvi .. | .fld .. | .fa .. | .ixa .. | .ixs .. | .sl .. | .sls .. | .mx .. | .mkf .. | .mki .. | .tas .. | .ext .. => true
  | _ => false
def AOp.reads : AOp → Bool
  | .ld .. | .len .. | .lkp .. => true
  | a => a.quiet
def AIns.reads : AIns → Bool
  | .op a => a.reads
  | _ => false
def AIns.quiet : AIns → Bool
  | .op a => a.quiet
  | _ => false

/-- Does it make a local, whatever else is done? -/
def isF (o : AOper) : Bool :=
  match o.a, o.g, o.d with
  | .op (.allocL _), none, some _ => true
  | _, _, _ => false
/-- May the value be put there? No other slot may still point to the local that was there; only what makes a local points to its own slot; and nothing points to a local that is still to be made. -/
def okD (o : AOper) (os : List AOper) (v : AV) (τ : Env) : Bool :=
  match v with
  | .lref s _ => (match o.d with
    | some d => s != d || (!o.a.reads && !(τ.any fun p => p.1 != d && isLref d p.2))
    | none => true) && os.all fun x => !(isF x) || x.d != some s
  | _ => true

def rechk1 (τ : Env) (S : AS) (o : AOper) : Prop :=
  match wantA o.g τ with
  | some true => match o.a, o.d with
    | .op a, some d => ∃ v, look τ d = some v ∧ astep (Opd.ev τ) (some d) S a = some (v, S)
    | _, _ => False
  | some false => True
  | none => False
def recheck (R : List AOper) (τ : Env) (S : AS) : List Nat → Prop
  | [] => True
  | k :: ks => (match R[k]? with
    | some o => rechk1 τ S o
    | none => False) ∧ recheck R τ S ks

def ains (C : Spec) (d : Option Nat) (τ : Env) (S : AS) (K : AV → AS → Prop) (KP : AV → AS → Prop) : AIns → Prop
  | .op a => match astep (Opd.ev τ) d S a with
    | some (v, S') => K v S'
    | none => False
  | .call f args => (args.map (Opd.ev τ)).all AV.proper = true ∧ C f ((args.map (Opd.ev τ)).map AV.erase) S.hp fun r H' => match r with
    | .ret v => K v { S with hp := H' }
    | .pan v => KP v { S with hp := H' }
  | .callv x args => match Opd.ev τ x with
    | .func (.func f) first caps => (args.map (Opd.ev τ)).all AV.proper = true ∧ C f (first ++ (args.map (Opd.ev τ)).map AV.erase ++ caps) S.hp fun r H' => match r with
      | .ret v => K v { S with hp := H' }
      | .pan v => KP v { S with hp := H' }
    | .func (.yield l) first caps => (args.map (Opd.ev τ)).all AV.proper = true ∧ C (yid l) (.skip :: (first ++ (args.map (Opd.ev τ)).map AV.erase)) S.hp fun r H' => match r with
      | .ret v => K v { S with hp := H' }
      | .pan v => KP v { S with hp := H' }
    | _ => False
  | .pan x => match Opd.ev τ x with
    | .iface t v => KP (.iface t v) S
    | _ => False
  | .dfr x args => match Opd.ev τ x with
    | .func (.func f) first caps => (args.map (Opd.ev τ)).all AV.proper = true ∧ K .skip { S with df := (f, first ++ (args.map (Opd.ev τ)).map AV.erase ++ caps) :: S.df }
    | _ => False

def aops (C : Spec) (R : List AOper) : List AOper → Env → AS → (Env → AS → Prop) → (AV → AS → Prop) → Prop
  | [], τ, S, K, _ => K τ S
  | o :: os, τ, S, K, KP => match wantA o.g τ with
    | some true => ains C o.d τ S (fun v S' => okD o os v τ = true ∧ recheck R (putD τ o.d v) S' o.re ∧ aops C R os (putD τ o.d v) S' K KP) KP o.a
    | some false => aops C R os (putD τ o.d .skip) S K KP
    | none => False

def AIns.opds : AIns → List Opd
  | .op a => a.opds
  | .call _ args => args
  | .callv x args | .dfr x args => x :: args
  | .pan x => [x]

def chkIns (P : Program) (a : AIns) (o : Oper) : Bool :=
  match a with
  | .op a => chkOp P a o
  | .call f args => match o.op with
    | .call { callee := .value (.func f'), args := as, .. } => f == f' && Opd.oks args as.toList
    | _ => false
  | .callv x args => match o.op with
    | .call { callee := .value y, args := as, .. } => x.ok y && Opd.oks args as.toList
    | _ => false
  | .pan x => match o.op with
    | .panic y => x.ok y
    | _ => false
  | .dfr x args => match o.op with
    | .defer { callee := .value y, args := as, .. } => x.ok y && Opd.oks args as.toList
    | _ => false

def grdOk (ops : Array Oper) : Option (Nat × Bool) → Option (Nat × Bool) → Bool
  | none, none => true
  | some (t, b), some (j, b') => b == b' && (ops[j]?).bind (·.dst) == some t
  | _, _ => false

def chkOper (P : Program) (N : Nat) (ops : Array Oper) (o : AOper) : Bool :=
  match ops[o.i]? with
  | some c => chkIns P o.a c && c.dst == o.d && grdOk ops o.g c.guard && (match o.d with | some d => decide (d < N) | none => true)
  | none => false

def entB (P : Program) (f : Nat) : Bool :=
  match P.funcs[f]? with
  | some fn => decide (f < 100000) && fn.body.isSome && fn.name != "runtime.NumGoroutine"
  | none => false

def erel (g : Gh) : AEnd → Ending → Prop
  | .ret v, .returned x => rel g v x
  | .pan v, .panicked [e] => e.recovered = false ∧ e.goexit = false ∧ rel g v e.v
  | _, _ => False

/-- What the abstract machine says of a call holds of the model's: in every world that the abstract heap stands for. -/
def SCalls (P : Program) : Spec := fun f args H Q => entB P f = true ∧ ∀ (g : Gh) (w : World) (xs : List Value), WRel g H w.heap → rels g args xs →
  Calls P f xs.toArray w fun e w' => ∃ r H' g', Q r H' ∧ WRel g' H' w'.heap ∧ WStep w.heap.size g w g' w' ∧ erel g' r e

theorem SCalls.mono {P : Program} {f : Nat} {args : List AV} {H : List AObj} {Q Q' : AEnd → List AObj → Prop} (h : SCalls P f args H Q) (hq : ∀ r H', Q r H' → Q' r H') : SCalls P f args H Q' :=
  ⟨h.1, fun g w xs hW hr => (h.2 g w xs hW hr).mono fun _ _ ⟨r, H', g', q, rest⟩ => ⟨r, H', g', hq _ _ q, rest⟩⟩

def drel1 (g : Gh) (f : Nat) (args : List AV) (d : Deferred) : Prop := (∃ caps, d.target = .fn (.func f) caps ∧ rels g args (d.args ++ caps).toList) ∨ ∃ k, f = yid k ∧ d = { target := .collected k, args := #[] }
def drel (g : Gh) : List (Nat × List AV) → List Deferred → Prop
  | [], l => l = []
  | (f, args) :: r, l => ∃ d t, l = d :: t ∧ drel1 g f args d ∧ drel g r t

theorem drel_le {g g' : Gh} (h : Le g g') : ∀ {as : List (Nat × List AV)} {l : List Deferred}, drel g as l → drel g' as l
  | [], _, r => r
  | (f, args) :: as, l, r => by
    obtain ⟨d, t, h1, h2, h4⟩ := r
    exact ⟨d, t, h1, h2.imp (fun ⟨caps, h2, h3⟩ => ⟨caps, h2, rels_le h _ _ h3⟩) id, drel_le h h4⟩

def BlkRel (d : Option Nat) (v : AV) (blk blk' : Nat → Option Nat) : Prop := blk' = blk ∨ ∃ s, d = some s ∧ v = .lref s 0 ∧ ∀ x, x ≠ s → blk' x = blk x

section
variable {B N : Nat} {P : Program} {g : Gh} {blk : Nat → Option Nat} {w : World} {S S' : AS} {τ : Env} {a : Act} {o : Oper} {v : AV}

theorem relLs_proper {as : List AV} {xs : List Value} (h : relLs g blk as xs) (hp : as.all AV.proper = true) : rels g (as.map AV.erase) xs := rels_map_erase (relLs_rels h hp)

theorem run_call {f : Nat} {args : Array Value} (he : entB P f = true) : (callFunc f args).run P w = .ok (.enter f args) w := by
  unfold entB at he
  split at he
  · rename_i fn hf
    simp only [Bool.and_eq_true, bne_iff_ne] at he
    obtain ⟨⟨-, h1⟩, h2⟩ := he
    have h3 : (fn.name == "runtime.NumGoroutine") = false := by simpa using h2
    have h4 : fn.body.isNone = false := by cases hb : fn.body <;> simp_all
    simp only [callFunc, Sem.run_bind, run_program, Result.andThen_ok, hf, h3, Bool.false_eq_true, if_false, h4, Sem.run_pure]
  · cases he

theorem entB_lt {f : Nat} (he : entB P f = true) : f < 100000 := by
  unfold entB at he
  split at he
  · simp only [Bool.and_eq_true, decide_eq_true_eq] at he
    exact he.1.1
  · cases he
theorem storeA_df {n : Nat} {x u : AV} (h : storeA S n x u = some S') : S'.df = S.df := by
  unfold storeA at h
  repeat' split at h
  all_goals first | (cases h; rfl) | cases h
theorem appA_df {e b : Nat} {hk : Bool} {x y : AV} (h : appA S e b hk x y = some (v, S')) : S'.df = S.df := by
  unfold appA at h
  repeat' split at h
  all_goals first | (cases h; rfl) | cases h
theorem astep_df {ρ : Opd → AV} {d : Option Nat} {ao : AOp} (h : astep ρ d S ao = some (v, S')) : S'.df = S.df := by
  cases ao <;> simp only [astep] at h
  case st =>
    split at h
    · rename_i S1 h1
      cases h
      exact storeA_df h1
    · cases h
  case app => exact appA_df h
  all_goals
    repeat' split at h
    all_goals first | (cases h; rfl) | cases h

/-- More locals than are spoken of. -/
structure LExt (S Sp : AS) : Prop where
  hp : Sp.hp = S.hp
  df : Sp.df = S.df
  lo : ∀ s cs, look S.lo s = some cs → look Sp.lo s = some cs

theorem LExt.refl (S : AS) : LExt S S := ⟨rfl, rfl, fun _ _ h => h⟩

theorem SRel.less {g : Gh} {blk : Nat → Option Nat} {h : Heap} {S Sp : AS} (hS : SRel B g blk h Sp) (e : LExt S Sp) : SRel B g blk h S :=
  ⟨hS.base, by rw [← e.hp]; exact hS.W, fun s cs hs => hS.loc s cs (e.lo s cs hs), fun s s' b h1 h2 => by
    obtain ⟨x, hx⟩ := Option.isSome_iff_exists.1 h1
    obtain ⟨y, hy⟩ := Option.isSome_iff_exists.1 h2
    exact hS.inj s s' b (by simp [e.lo s x hx]) (by simp [e.lo s' y hy])⟩

theorem loadA_ext {S Sp : AS} {n : Nat} {p : AV} {cs : List AV} (e : LExt S Sp) (h : loadA S n p = some cs) : loadA Sp n p = some cs := by
  unfold loadA at h ⊢
  rw [e.hp]
  split at h
  · exact h
  · exact h
  · rename_i s o
    split at h
    · rename_i all hs
      simp only [e.lo s all hs]
      exact h
    · cases h
  · cases h

/-- What a step does to the locals. -/
structure LoStep (d : Option Nat) (S S' Sp Sp' : AS) : Prop where
  ext : LExt S' Sp'
  none : ∀ s, look S.lo s = .none → d ≠ some s → look S'.lo s = .none ∧ look Sp'.lo s = look Sp.lo s

theorem LoStep.same {d : Option Nat} {S Sp : AS} (e : LExt S Sp) : LoStep d S S Sp Sp := ⟨e, fun _ h _ => ⟨h, rfl⟩⟩
theorem LoStep.heap {d : Option Nat} {S Sp : AS} {H : List AObj} (e : LExt S Sp) : LoStep d S { S with hp := H } Sp { Sp with hp := H } := ⟨⟨rfl, e.df, e.lo⟩, fun _ h _ => ⟨h, rfl⟩⟩
theorem LoStep.put {d : Option Nat} {S Sp : AS} {s0 : Nat} {z : List AV} (e : LExt S Sp) (hd : d = some s0 ∨ look S.lo s0 ≠ .none) : LoStep d S { S with lo := put S.lo s0 z } Sp { Sp with lo := put Sp.lo s0 z } := by
  refine ⟨⟨e.hp, e.df, fun s cs h => ?_⟩, fun s h hne => ?_⟩
  · simp only [look_put] at h ⊢
    split
    · rename_i hs; rw [if_pos hs] at h; exact h
    · rename_i hs; rw [if_neg hs] at h; exact e.lo s cs h
  · have : s0 ≠ s := by
      rintro rfl
      rcases hd with hd | hd
      · exact hne hd
      · exact hd h
    simp only [look_put, if_neg this]
    exact ⟨h, trivial⟩

theorem astep_ext {ρ : Opd → AV} {d : Option Nat} {a : AOp} {S S' Sp : AS} {v : AV} (e : LExt S Sp) (h : astep ρ d S a = some (v, S')) : ∃ Sp', astep ρ d Sp a = some (v, Sp') ∧ LoStep d S S' Sp Sp' := by
  have hl := fun n p cs => loadA_ext (n := n) (p := p) (cs := cs) e
  cases a <;> simp only [astep] at h ⊢
  case ld ag n x =>
    split at h
    · rename_i cs hcs
      simp only [hl n _ cs hcs]
      split at h
      · rename_i u hu
        cases h
        exact ⟨Sp, rfl, .same e⟩
      · cases h
    · cases h
  case st n x u =>
    split at h
    · rename_i S1 h1
      cases h
      unfold storeA at h1 ⊢
      split at h1
      · rename_i hok
        rw [if_pos hok]
        split at h1
        · rename_i i q ex
          split at h1
          · rename_i cs hi
            split at h1
            · rename_i hle
              cases h1
              simp only [e.hp, hi, if_pos hle]
              exact ⟨_, rfl, by have := LoStep.heap (d := d) (H := S.hp.set i (.cells (splice cs q (ρ u).cells))) e; exact this⟩
            · cases h1
          · cases h1
        · rename_i s q ex
          split at h1
          · rename_i cs hs
            split at h1
            · rename_i hle
              cases h1
              simp only [e.lo s cs hs, if_pos hle]
              exact ⟨_, rfl, .put e (.inr (by simp [hs]))⟩
            · cases h1
          · cases h1
        · cases h1
      · cases h1
    · cases h
  case allocL z =>
    cases d with
    | none => cases h
    | some s =>
      simp only at h ⊢
      cases h
      exact ⟨_, rfl, .put e (.inl rfl)⟩
  case boxL x =>
    cases d with
    | none => cases h
    | some s =>
      simp only at h ⊢
      split at h
      · rename_i hok
        cases h
        rw [if_pos hok]
        exact ⟨_, rfl, .put e (.inl rfl)⟩
      · cases h
  case len k x =>
    split at h
    · rename_i n hn
      cases h
      have : lenA Sp k (ρ x) = some n := by
        unfold lenA at hn ⊢
        rw [e.hp]
        exact hn
      simp only [this]
      exact ⟨Sp, rfl, .same e⟩
    · cases h
  case app eb b hk x y =>
    have h1 : appA Sp eb b hk (ρ x) (ρ y) = (appA S eb b hk (ρ x) (ρ y)).map fun q => (q.1, { Sp with hp := q.2.hp }) := by
      have he : ∀ y, elemsA Sp eb y = elemsA S eb y := by intro y; unfold elemsA; rw [e.hp]
      have hc : ∀ y, cellsA Sp eb y = cellsA S eb y := by intro y; unfold cellsA; rw [e.hp]
      have hsp : Sp = { Sp with hp := S.hp } := by rw [← e.hp]
      unfold appA
      rw [he, hc, e.hp]
      repeat' split
      all_goals first | rfl | (simp; done) | (simp; exact hsp)
    rw [h1, h]
    refine ⟨_, rfl, ?_⟩
    have hS' : S' = { S with hp := S'.hp } := by
      unfold appA at h
      repeat' split at h
      all_goals first | (cases h; rfl) | cases h
    rw [hS']
    exact .heap e
  all_goals
    (first | rw [e.hp] | skip)
    (repeat' split at h)
    all_goals first
      | (cases h; done)
      | (cases h; simp_all; done)
      | (cases h; exact ⟨_, rfl, .same e⟩)
      | (cases h; refine ⟨_, rfl, ?_⟩; exact .heap e)
      | (cases h; simp_all; first | exact .same e | exact .heap e)

theorem ins_sound {ai : AIns} {d : Option Nat} {next : Act → World → Prop} {Q : Exit → Act → World → Prop} {K : AV → AS → Prop} {KP : AV → AS → Prop} (hc : chkIns P ai o = true) (hd : o.dst = d)
    {Sp : AS} (hS : SRel B g blk w.heap Sp) (he : LExt S Sp) (hD : drel g S.df a.defers) (hρ : ∀ (x : Opd) (y : Operand), x ∈ ai.opds → x.ok y = true → relT g blk (x.ev τ) (a.eval y))
    (h : ains (SCalls P) d τ S K KP ai)
    (hK : ∀ (v : AV) (S' Sp' : AS) (y : Value) (g' : Gh) (blk' : Nat → Option Nat) (w' : World) (a' : Act), K v S' → a'.tmps = a.tmps → drel g' S'.df a'.defers → SRel B g' blk' w'.heap Sp' → LoStep d S S' Sp Sp' → WStep B g w g' w' → relT g' blk' v y → BlkRel d v blk blk' → next (a'.put d y) w')
    (hP : ∀ (v : AV) (S' : AS) (e : PanicEntry) (g' : Gh) (w' : World), KP v S' → SRel B g' blk w'.heap S' → drel g' S'.df a.defers → WStep B g w g' w' → erel g' (.pan v) (.panicked [e]) → Q (.panic [e]) a w') :
    o.wp P a w next Q := by
  have callee : ∀ {f : Nat} {args : List AV} {xs : Array Value} (_ : rels g args xs.toList) (hcall : SCalls P f args S.hp fun r H' => match r with
      | .ret v => K v { S with hp := H' }
      | .pan v => KP v { S with hp := H' }), Oper.upon P o a next Q (.ok (.enter f xs) w) := by
    intro f args xs hr hcall
    rw [Oper.upon_enter]
    have hW := hS.W
    rw [he.hp] at hW
    have := hcall.2 g w xs.toList hW hr
    rw [Array.toArray_toList] at this
    refine this.mono ?_
    intro e w' hq
    obtain ⟨r, H', g', q, W', st, er⟩ := hq
    have S' := hS.step W' st
    have hlo : LoStep d S { S with hp := H' } Sp { Sp with hp := H' } := .heap he
    cases r with
    | ret v =>
      cases e <;> simp only [erel] at er
      rw [hd]
      exact hK v _ _ _ g' blk w' a q rfl (drel_le st.le hD) S' hlo st.all (relT_of er) (.inl rfl)
    | pan v =>
      cases e with
      | returned x => exact er.elim
      | outgrown => exact er.elim
      | panicked ch =>
        match ch, er with
        | [e], er => exact hP v _ e g' w' q (S'.less hlo.ext) (drel_le st.le hD) st.all er
  cases ai with
  | op ao =>
    simp only [ains] at h
    split at h
    · rename_i v S1 hst0
      obtain ⟨S1p, hst, hlo⟩ := astep_ext he hst0
      obtain ⟨n, y, w', g', blk', hrun, hn, hS', st, hr, hb⟩ := op_sound (ρ' := a.eval) hc hS hρ hst
      have hdf : S1.df = S.df := astep_df hst0
      unfold Oper.wp
      rw [hrun]
      rcases hn with rfl | ⟨rfl, rfl⟩
      · rw [Oper.upon_value, hd]
        exact hK v S1 S1p y g' blk' w' a h rfl (by rw [hdf]; exact drel_le st.le hD) hS' hlo st hr hb
      · rw [Oper.upon_skip, hd]
        exact hK v S1 S1p _ g' blk' w' a h rfl (by rw [hdf]; exact drel_le st.le hD) hS' hlo st hr hb
    · exact h.elim
  | call f args =>
    obtain ⟨hp, hcall⟩ := h
    simp only [chkIns] at hc
    split at hc
    · rename_i f' as ts ho
      simp only [Bool.and_eq_true, beq_iff_eq] at hc
      obtain ⟨rfl, hoks⟩ := hc
      have hr := relLs_proper (oks_rel (ρ := Opd.ev τ) (ρ' := a.eval) hoks hρ) hp
      unfold Oper.wp
      have : (execOp a.eval o).run P w = .ok (.enter f (as.map a.eval)) w := by
        simp only [execOp, ho, resolve, Act.eval, Deferred.ofValue, Sem.run_bind, Sem.run_pure, Result.andThen_ok, invoke]
        rw [run_call hcall.1]
        simp
      rw [this]
      exact callee (by simpa using hr) hcall
    · cases hc
  | callv x args =>
    simp only [ains] at h
    simp only [chkIns] at hc
    split at hc
    · rename_i y as ts ho
      simp only [Bool.and_eq_true] at hc
      split at h
      · rename_i f first caps ex
        obtain ⟨hp, hcall⟩ := h
        have hx := hρ x y (by simp [AIns.opds]) hc.1
        rw [ex] at hx
        obtain ⟨ys, zs, hv, h1, h2⟩ := hx
        have hr := relLs_proper (oks_rel (ρ := Opd.ev τ) (ρ' := a.eval) hc.2 fun p y hp => hρ p y (List.mem_cons_of_mem _ hp)) hp
        unfold Oper.wp
        have : (execOp a.eval o).run P w = .ok (.enter f (ys.toArray ++ as.map a.eval ++ zs.toArray)) w := by
          simp only [execOp, ho, resolve, hv, Deferred.ofValue, Sem.run_bind, Sem.run_pure, Result.andThen_ok, invoke]
          rw [run_call hcall.1]
        rw [this]
        refine callee ?_ hcall
        simp only [Array.toList_append, Array.toList_map]
        exact rels_append (rels_append h1 hr) h2
      · exact absurd (entB_lt h.2.1) (by simp [yid])
      · exact h.elim
    · cases hc
  | pan x =>
    simp only [ains] at h
    simp only [chkIns] at hc
    split at hc
    · rename_i y ho
      split at h
      · rename_i t u ex
        have hx := hρ x y (by simp [AIns.opds]) hc
        rw [ex] at hx
        have hx2 := hx
        obtain ⟨z, hv, h1⟩ := hx
        unfold Oper.wp
        have : (execOp a.eval o).run P w = .halt (.panic (.iface t z)) w := by
          simp only [execOp, ho, hv, Instr.panic, Sem.run_bind, run_goPanic, Result.andThen_halt]
        rw [this, Oper.upon_panic]
        refine hP _ S _ g w h (hS.less he) hD (WStep.refl _ _ _) ⟨rfl, rfl, ?_⟩
        rw [hv] at hx2
        exact relT_proper hx2 rfl
      · exact h.elim
    · cases hc
  | dfr x args =>
    simp only [ains] at h
    simp only [chkIns] at hc
    split at hc
    · rename_i y as ts ho
      simp only [Bool.and_eq_true] at hc
      split at h
      · rename_i f first caps ex
        obtain ⟨hp, hk⟩ := h
        have hx := hρ x y (by simp [AIns.opds]) hc.1
        rw [ex] at hx
        obtain ⟨ys, zs, hv, h1, h2⟩ := hx
        have hr := relLs_proper (oks_rel (ρ := Opd.ev τ) (ρ' := a.eval) hc.2 fun p y hp => hρ p y (List.mem_cons_of_mem _ hp)) hp
        unfold Oper.wp
        have : (execOp a.eval o).run P w = .ok (.defer { target := .fn (.func f) zs.toArray, args := ys.toArray ++ as.map a.eval }) w := by
          simp only [execOp, ho, resolve, hv, Deferred.ofValue, Sem.run_bind, Sem.run_pure, Result.andThen_ok]
        rw [this, Oper.upon_defer, hd]
        refine hK _ _ { Sp with df := (f, first ++ List.map AV.erase (List.map (Opd.ev τ) args) ++ caps) :: S.df } _ g blk w _ hk rfl ?_ ⟨hS.base, hS.W, hS.loc, hS.inj⟩ ⟨⟨he.hp, rfl, he.lo⟩, fun _ h _ => ⟨h, rfl⟩⟩ (WStep.refl _ _ _) (by rfl) (.inl rfl)
        refine ⟨_, _, rfl, .inl ⟨_, rfl, ?_⟩, hD⟩
        simp only [Array.toList_append, Array.toList_map]
        exact rels_append (rels_append h1 hr) h2
      · exact h.elim
    · cases hc

end
end Go.Ab

/- Regions: whatever the order, one outcome. -/
namespace Go.Ab

def dropD (ds : List Nat) (τ : Env) : Env := τ.filter fun p => !ds.contains p.1
def dsts (L : List AOper) : List Nat := L.filterMap (·.d)

theorem look_filter {β : Type} (p : Nat → Bool) (t : Nat) : ∀ e : List (Nat × β), look (e.filter fun q => p q.1) t = if p t then look e t else none
  | [] => by simp [look]
  | (k, v) :: r => by
    have ih := look_filter p t r
    by_cases hk : p k = true
    · simp only [List.filter_cons, hk, if_true, look]
      by_cases hkt : k = t
      · subst hkt; simp [hk]
      · simp only [hkt, if_false, ih]
    · simp only [List.filter_cons, hk, if_false, look, Bool.false_eq_true, ih]
      by_cases hkt : k = t
      · subst hkt; simp [hk]
      · simp only [hkt, if_false]

theorem look_dropD {ds : List Nat} {τ : Env} {t : Nat} {v : AV} (h : look (dropD ds τ) t = some v) : look τ t = some v ∧ t ∉ ds := by
  unfold dropD at h
  rw [look_filter (fun t => !ds.contains t)] at h
  split at h
  · rename_i hc
    exact ⟨h, by simpa using hc⟩
  · cases h

structure FRel (B N : Nat) (g : Gh) (blk : Nat → Option Nat) (τ : Env) (S : AS) (a : Act) (w : World) : Prop where
  sr : SRel B g blk w.heap S
  size : a.tmps.size = N
  T : ∀ (t : Nat) (v : AV), look τ t = some v → relT g blk v (a.tmps.getD t Go.undef)
  D : drel g S.df a.defers

/-- Temporaries, but for those of which nothing is said. -/
def TRel (U : Nat → Prop) (g : Gh) (blk : Nat → Option Nat) (τ : Env) (tm : Array Value) : Prop := ∀ (t : Nat) (v : AV), look τ t = some v → ¬ U t → relT g blk v (tm.getD t Go.undef)

def AOper.looks (o : AOper) : List Nat := (o.a.opds.filterMap fun x => match x with | .t n => some n | .c _ => none) ++ (match o.g with | some (t, _) => [t] | none => [])

section
variable {B N : Nat} {P : Program} {g g' : Gh} {blk blk' : Nat → Option Nat} {w : World} {S S' : AS} {τ : Env} {a : Act} {v : AV} {U : Nat → Prop}

theorem relT_step {v0 : AV} {x : Value} {d : Option Nat} (h : relT g blk v0 x) (le : Le g g') (hb : BlkRel d v blk blk') (hs : ∀ s, d = some s → v = .lref s 0 → isLref s v0 = false) : relT g' blk' v0 x := by
  cases v0 <;> try exact rel_le le _ _ h
  case undef => trivial
  case skip => exact h
  case lref s q =>
    obtain ⟨b, h1, h2⟩ := h
    refine ⟨b, ?_, h2⟩
    rcases hb with rfl | ⟨s', h3, h4, h5⟩
    · exact h1
    · have : s ≠ s' := by
        rintro rfl
        have := hs s h3 h4
        simp [isLref] at this
      rw [h5 s this]; exact h1

theorem getD_put {tm : Array Value} {d t : Nat} {y : Value} (hd : d < tm.size) : (tm.setIfInBounds d y).getD t Go.undef = if t = d then y else tm.getD t Go.undef := by
  simp only [Array.getD_eq_getD_getElem?, Array.getElem?_setIfInBounds]
  split
  · rename_i h; subst h; simp
  · rename_i h; rw [if_neg (fun e => h e.symm)]

/-- No other slot points to the local that is made. -/
def NoStale (d : Option Nat) (v : AV) (τ : Env) : Prop := ∀ s, d = some s → v = .lref s 0 → τ.any (fun p => p.1 != s && isLref s p.2) = false

theorem okD_stale {o : AOper} {os : List AOper} (h : okD o os v τ = true) : NoStale o.d v τ := by
  intro s hs hv
  subst hv
  simp only [okD, hs, Bool.and_eq_true] at h
  have h1 := h.1
  simp at h1
  have := h1.2
  simpa using this
theorem okD_F {o x : AOper} {os : List AOper} {s q : Nat} (h : okD o os (.lref s q) τ = true) (hx : x ∈ os) (hF : isF x = true) : x.d ≠ some s := by
  simp only [okD, Bool.and_eq_true, List.all_eq_true] at h
  have := h.2 x hx
  simpa [hF] using this

theorem stale_false {d : Option Nat} (h : NoStale d v τ) {t : Nat} {v0 : AV} (hl : look τ t = some v0) (ht : d ≠ some t) : ∀ s, d = some s → v = .lref s 0 → isLref s v0 = false := by
  intro s hs hv
  have hany : τ.any (fun p => p.1 != s && isLref s p.2) = false := h s hs hv
  subst hs
  subst hv
  rw [List.any_eq_false] at hany
  have hmem : (t, v0) ∈ τ := by
    clear hany h
    induction τ with
    | nil => simp [look] at hl
    | cons p r ih =>
      obtain ⟨k, x⟩ := p
      simp only [look] at hl
      split at hl
      · rename_i e; cases hl; subst e; simp
      · exact List.mem_cons_of_mem _ (ih hl)
  have := hany _ hmem
  simp only [Bool.and_eq_true, bne_iff_ne, not_and] at this
  have hne : t ≠ s := fun e => ht (by rw [e])
  have := this hne
  simpa using this

def putT (tm : Array Value) (d : Option Nat) (y : Value) : Array Value :=
  match d with
  | some k => tm.setIfInBounds k y
  | none => tm

/-- An operation's value is put. -/
theorem TRel.put {tm tm' : Array Value} {d : Option Nat} {y : Value} (h : TRel U g blk τ tm) (le : Le g g') (hb : BlkRel d v blk blk') (hs : NoStale d v τ) (hr : relT g' blk' v y)
    (hd : ∀ k, d = some k → k < tm.size) (htm : tm' = putT tm d y) : TRel (fun t => U t ∧ d ≠ some t) g' blk' (putD τ d v) tm' := by
  subst htm
  intro t v0 hl hu
  cases d with
  | none =>
    simp only [putD] at hl
    have hu' : ¬ U t := fun u => hu ⟨u, by simp⟩
    exact relT_step (h t v0 hl hu') le hb (fun s e => by cases e)
  | some k =>
    simp only [putD, look_put] at hl
    simp only [putT]
    rw [getD_put (hd k rfl)]
    by_cases e : k = t
    · subst e
      simp only [if_true] at hl
      cases hl
      rw [if_pos rfl]
      exact hr
    · rw [if_neg e] at hl
      rw [if_neg (Ne.symm e)]
      have hu' : ¬ U t := fun u => hu ⟨u, by simpa using e⟩
      exact relT_step (h t v0 hl hu') le hb (stale_false hs hl (by simpa using e))

theorem opds_ev {o : AOper} {x : Opd} {y : Operand} (hx : x ∈ o.a.opds) (hok : x.ok y = true) (T : TRel U g blk τ a.tmps) (hU : ∀ t ∈ o.looks, ¬ U t) : relT g blk (x.ev τ) (a.eval y) := by
  cases x with
  | t n =>
    cases y <;> simp only [Opd.ok, beq_iff_eq] at hok <;> (try cases hok)
    simp only [Opd.ev, Act.eval]
    have hn : n ∈ o.looks := by
      unfold AOper.looks
      refine List.mem_append.2 (.inl (List.mem_filterMap.2 ⟨.t n, hx, rfl⟩))
    cases hl : look τ n with
    | none => trivial
    | some v => exact T n v hl (hU n hn)
  | c v =>
    cases y with
    | tmp _ => simp [Opd.ok] at hok
    | const z =>
      have : constOk v z = true := by simpa [Opd.ok] using hok
      exact relT_of (constOk_rel this)
    | global _ => simp [Opd.ok] at hok
    | func f =>
      have : v = .func (.func f) [] [] := by
        unfold Opd.ok at hok
        split at hok <;> simp_all
      subst this
      simp only [Opd.ev, Act.eval]
      exact relT_of (by simp only [rel]; exact ⟨[], [], by simp, by simp, by simp⟩)

theorem want_sound {ops : Array Oper} {o : AOper} {c : Oper} {b : Bool} (hg : grdOk ops o.g c.guard = true) (T : TRel U g blk τ a.tmps) (hU : ∀ t ∈ o.looks, ¬ U t) (h : wantA o.g τ = some b) :
    Region.wanted c (yielded ops a.tmps) = b := by
  unfold wantA at h
  unfold grdOk at hg
  split at hg
  · rename_i e1 e2
    rw [e1] at h
    simp at h
    subst h
    simp only [Region.wanted, e2]
  · rename_i t q j q' e1 e2
    simp only [Bool.and_eq_true, beq_iff_eq] at hg
    obtain ⟨rfl, hj⟩ := hg
    rw [e1] at h
    simp only at h
    have ht : t ∈ o.looks := by
      unfold AOper.looks
      rw [e1]
      exact List.mem_append.2 (.inr (by simp))
    simp only [Region.wanted, e2, yielded, hj, Option.bind_some]
    split at h
    · rename_i r hl
      have hr := T t _ hl (hU t ht)
      have : a.tmps.getD t Go.undef = .bool r := by simpa [relT, rel] using hr
      cases hr : a.tmps[t]? with
      | none => simp [hr, Go.undef] at this
      | some z =>
        simp [hr] at this
        subst this
        simp at h
        simp only
        rw [← h]
        cases r <;> cases q <;> rfl
    · rename_i hl
      have hr := T t _ hl (hU t ht)
      have : a.tmps.getD t Go.undef = Go.undef := by simpa [relT] using hr
      cases h
      cases hr : a.tmps[t]? with
      | none => simp
      | some z =>
        simp [hr] at this
        subst this
        simp [Go.undef]
    · cases h
  · cases hg

theorem put_tmps (a : Act) (d : Option Nat) (y : Value) : (a.put d y).tmps = putT a.tmps d y := by cases d <;> rfl
theorem size_put (a : Act) (d : Option Nat) (y : Value) : (a.put d y).tmps.size = a.tmps.size := by cases d <;> simp [Act.put]
theorem put_defers (a : Act) (d : Option Nat) (y : Value) : (a.put d y).defers = a.defers := by cases d <;> rfl

theorem chkOper_get {ops : Array Oper} {o : AOper} (h : chkOper P N ops o = true) : ∃ c, ops[o.i]? = some c ∧ chkIns P o.a c = true ∧ c.dst = o.d ∧ grdOk ops o.g c.guard = true ∧ ∀ k, o.d = some k → k < N := by
  unfold chkOper at h
  split at h
  · rename_i c hc
    simp only [Bool.and_eq_true, beq_iff_eq] at h
    obtain ⟨⟨⟨h1, h2⟩, h3⟩, h4⟩ := h
    exact ⟨c, hc, h1, h2, h3, fun k hk => by rw [hk] at h4; simpa using h4⟩
  · cases h

/-- One operation, at the head of what the abstract machine has still to do. -/
theorem one_sound {ops : Array Oper} {R os : List AOper} {o : AOper} {Kn : Env → AS → Prop} {KP : AV → AS → Prop} {Kc : Act → World → Prop} {Q : Exit → Act → World → Prop}
    (hchk : chkOper P N ops o = true) {Sp : AS} (hS : SRel B g blk w.heap Sp) (he : LExt S Sp) (hsz : a.tmps.size = N) (T : TRel U g blk τ a.tmps) (hD : drel g S.df a.defers) (hU : ∀ t ∈ o.looks, ¬ U t)
    (h : aops (SCalls P) R (o :: os) τ S Kn KP)
    (hK : ∀ (v : AV) (y : Value) (S' Sp' : AS) (g' : Gh) (blk' : Nat → Option Nat) (a' : Act) (w' : World), (S' = S ∨ recheck R (putD τ o.d v) S' o.re) → aops (SCalls P) R os (putD τ o.d v) S' Kn KP → SRel B g' blk' w'.heap Sp' → LoStep o.d S S' Sp Sp' →
      a'.tmps = putT a.tmps o.d y → okD o os v τ = true → BlkRel o.d v blk blk' → TRel (fun t => U t ∧ o.d ≠ some t) g' blk' (putD τ o.d v) a'.tmps → drel g' S'.df a'.defers → WStep B g w g' w' → Kc a' w')
    (hP : ∀ (v : AV) (S' : AS) (e : PanicEntry) (g' : Gh) (w' : World), KP v S' → SRel B g' blk w'.heap S' → TRel U g' blk τ a.tmps → drel g' S'.df a.defers → WStep B g w g' w' → erel g' (.pan v) (.panicked [e]) →
      Q (.panic [e]) a w') : wpOp P ops Q o.i Kc a w := by
  obtain ⟨c, hc, h1, h2, h3, h4⟩ := chkOper_get hchk
  have hd : ∀ k, o.d = some k → k < a.tmps.size := fun k hk => by rw [hsz]; exact h4 k hk
  unfold wpOp
  rw [hc]
  simp only [aops] at h
  split at h
  · rename_i hw
    have hwant := want_sound h3 T hU hw
    simp only [hwant, if_true]
    refine .inl (ins_sound (next := Kc) h1 h2 hS he hD (fun x y hx hok => opds_ev hx hok T hU) h ?_ ?_)
    · intro v S' Sp' y g' blk' w' a' hk htm hdr hS' hlo st hr hb
      obtain ⟨k1, k2, k3⟩ := hk
      refine hK v y S' Sp' g' blk' _ w' (.inr k2) k3 hS' hlo ?_ k1 hb ?_ (by rw [put_defers]; exact hdr) st
      · rw [put_tmps, htm]
      · exact TRel.put T st.le hb (okD_stale k1) hr hd (by rw [put_tmps, htm])
    · intro v S' e g' w' hk hS' hdr st er
      refine hP v S' e g' w' hk hS' (fun t v0 hl hu => ?_) hdr st er
      exact relT_step (d := none) (v := .undef) (T t v0 hl hu) st.le (.inl rfl) (fun s e => by cases e)
  · rename_i hw
    have hwant := want_sound h3 T hU hw
    simp only [hwant, Bool.false_eq_true, if_false]
    rw [h2]
    refine hK .skip Go.undef S Sp g blk _ w (.inl rfl) h hS (.same he) ?_ rfl (.inl rfl) ?_ (by rw [put_defers]; exact hD) (WStep.refl _ _ _)
    · rw [put_tmps]
    · exact TRel.put T (Le.refl _) (.inl rfl) (fun s _ e => by cases e) rfl hd (by rw [put_tmps])
  · exact h.elim

end
end Go.Ab

/- A region in the order of its text, and a region whose order is drawn. -/
namespace Go.Ab

theorem reads_same {ρ : Opd → AV} {d : Option Nat} {S S' : AS} {a : AOp} {v : AV} (hq : a.reads = true) (h : astep ρ d S a = some (v, S')) : S' = S := by
  cases a <;> simp only [AOp.reads, AOp.quiet] at hq <;> (try (cases hq; done)) <;> simp only [astep] at h <;> (repeat' split at h) <;> first | (cases h; rfl) | cases h
theorem quiet_any {ρ : Opd → AV} {d : Option Nat} {S S' T : AS} {a : AOp} {v : AV} (hq : a.quiet = true) (h : astep ρ d S a = some (v, S')) : astep ρ d T a = some (v, T) := by
  cases a <;> simp only [AOp.quiet] at hq <;> (try (cases hq; done)) <;> simp only [astep] at h ⊢ <;> (repeat' split at h) <;> first | (cases h; simp_all; done) | cases h
theorem astep_congr {ρ ρ2 : Opd → AV} {d : Option Nat} {S : AS} {a : AOp} (h : ∀ x ∈ a.opds, ρ x = ρ2 x) : astep ρ d S a = astep ρ2 d S a := by
  cases a <;> simp only [AOp.opds] at h <;> simp only [astep]
  case build z ps =>
    have : (ps.map fun (o, n, x) => (o, n, ρ x)) = ps.map fun (o, n, x) => (o, n, ρ2 x) := List.map_congr_left fun p hp => by
      obtain ⟨o, n, x⟩ := p
      simp only [h x (List.mem_map.2 ⟨_, hp, rfl⟩)]
    rw [this]
  case bsl e hk ps => rw [List.map_congr_left h]
  case mkf fn a b =>
    rw [List.map_congr_left fun x hx => h x (List.mem_append.2 (.inl hx)), List.map_congr_left fun x hx => h x (List.mem_append.2 (.inr hx))]
  case sl e x lo hi =>
    have h1 : lo.map ρ = lo.map ρ2 := by cases lo with | none => rfl | some y => simp only [Option.map_some, h y (by simp)]
    have h2 : hi.map ρ = hi.map ρ2 := by cases hi with | none => rfl | some y => simp only [Option.map_some, h y (by simp)]
    rw [h x (by simp), h1, h2]
  case sls x lo hi =>
    have h1 : lo.map ρ = lo.map ρ2 := by cases lo with | none => rfl | some y => simp only [Option.map_some, h y (by simp)]
    have h2 : hi.map ρ = hi.map ρ2 := by cases hi with | none => rfl | some y => simp only [Option.map_some, h y (by simp)]
    rw [h x (by simp), h1, h2]
  all_goals first
    | rfl
    | (rw [h _ (by simp)]; done)
    | (rw [h _ (by simp), h _ (by simp)]; done)
    | (simp only [h _ (List.mem_cons_self ..), h _ (List.mem_cons_of_mem _ (List.mem_cons_self ..))]; done)
    | (rename_i x y z; rw [h x (by simp), h y (by simp), h z (by simp)]; done)
    | (rename_i _ x y z; rw [h x (by simp), h y (by simp), h z (by simp)]; done)
end Go.Ab

/- The order that the model draws makes no difference. -/
namespace Go.Ab

def allB (n : Nat) (p : Nat → Bool) : Bool := (List.range n).all p

theorem allB_get {n : Nat} {p : Nat → Bool} (h : allB n p = true) {i : Nat} (hi : i < n) : p i = true := by
  unfold allB at h
  rw [List.all_eq_true] at h
  exact h i (List.mem_range.2 hi)

/-- Must the operation at i be listed ahead of the one at j? -/
def pre (b : Array Nat) (i j : Nat) : Bool := (b.getD j 0).testBit i

def getO (L : List AOper) (k : Nat) : AOper := L.getD k ⟨0, none, none, .pan (.c .undef), []⟩

def meets (x y : AOper) : Bool :=
  match y.d with
  | some d => x.looks.contains d || x.d == some d
  | none => false

/-- Is it done where it stands, and nowhere else? -/
def wr (L : List AOper) (k : Nat) : Bool := !(getO L k).a.reads || (getO L k).d.isNone || (List.range k).any fun i => meets (getO L i) (getO L k)

def feeds (x y : AOper) : Bool :=
  match x.d with
  | some d => y.looks.contains d
  | none => false

def pairOk (b : Array Nat) (L : List AOper) (i j : Nat) : Bool :=
  let x := getO L i
  let y := getO L j
  let p := pre b x.i y.i
  (p || !((wr L i && !(isF y)) || meets x y || feeds x y)) && (p || wr L i || x.a.quiet || !(wr L j) || isF y || y.re.contains i) &&
    (!(isF x || isF y) || x.d != y.d)

def edgesOk (ops : Array Oper) (L : List AOper) (k : Nat) : Bool :=
  match ops[(getO L k).i]? with
  | some c => c.after.all fun e => !Region.binds .any e || (List.range k).any fun i => (getO L i).i == e.on
  | none => false

def selfOk (L : List AOper) (k : Nat) : Bool :=
  wr L k || match (getO L k).d with
  | some d => !(getO L k).looks.contains d
  | none => false

def chkDraw (ops : Array Oper) (L : List AOper) : Bool :=
  let b := Region.before ops
  let n := ops.size
  L.length == n && allB n (fun k => decide ((getO L k).i < n)) && allB n (fun j => allB j fun i => (getO L i).i != (getO L j).i) &&
  allB n (fun i => (List.range n).any fun k => (getO L k).i == i) && allB n (edgesOk ops L) && allB n (selfOk L) && allB n (fun j => allB j fun i => pairOk b L i j)

def bStep (A : Array Nat) (o : Oper) : Nat := o.after.foldl (fun s e => if Region.binds .any e then s ||| 2 ^ e.on ||| A.getD e.on 0 else s) 0
def bF (l : List Oper) : Array Nat := l.foldl (fun acc o => acc.push (bStep acc o)) #[]

theorem bF_size (l : List Oper) : (bF l).size = l.length := by
  have hs : ∀ (l : List Oper) (acc : Array Nat), (l.foldl (fun (acc : Array Nat) o => acc.push (bStep acc o)) acc).size = acc.size + l.length := by
    intro l
    induction l with
    | nil => intro acc; simp
    | cons a r ih => intro acc; rw [List.foldl_cons, ih]; simp; omega
  have := hs l #[]
  unfold bF
  rw [this]; simp

/-- What 'before' says. -/
theorem before_step (l : List Oper) (o : Oper) (j : Nat) : (bF (l ++ [o])).getD j 0 = if j = l.length then bStep (bF l) o else (bF l).getD j 0 := by
  have : bF (l ++ [o]) = (bF l).push (bStep (bF l) o) := by
    unfold bF
    rw [List.foldl_append, List.foldl_cons, List.foldl_nil]
  rw [this, Array.getD_eq_getD_getElem?, Array.getElem?_push, bF_size]
  split
  · rfl
  · rw [Array.getD_eq_getD_getElem?]

theorem before_eq (ops : Array Oper) : Region.before ops = bF ops.toList := by
  unfold Region.before bF
  rw [← Array.foldl_toList]
  rfl

theorem fold_bit (as : List Edge) (A : Array Nat) (i : Nat) : ∀ s : Nat, (as.foldl (fun s e => if Region.binds .any e then s ||| 2 ^ e.on ||| A.getD e.on 0 else s) s).testBit i = true →
    s.testBit i = true ∨ ∃ e ∈ as, Region.binds .any e = true ∧ (i = e.on ∨ (A.getD e.on 0).testBit i = true) := by
  induction as with
  | nil => intro s h; exact .inl h
  | cons e r ih =>
    intro s h
    rw [List.foldl_cons] at h
    rcases ih _ h with h1 | ⟨e', h1, h2⟩
    · split at h1
      · rename_i hb
        simp only [Nat.testBit_or, Bool.or_eq_true] at h1
        rcases h1 with (h1 | h1) | h1
        · exact .inl h1
        · rw [Nat.testBit_two_pow] at h1
          exact .inr ⟨e, by simp, hb, .inl (by simpa using (by simpa using h1 : e.on = i).symm)⟩
        · exact .inr ⟨e, by simp, hb, .inr h1⟩
      · exact .inl h1
    · exact .inr ⟨e', List.mem_cons_of_mem _ h1, h2⟩

theorem before_bit (l : List Oper) : ∀ (i j : Nat), pre (bF l) i j = true →
    ∃ c e, l[j]? = some c ∧ e ∈ c.after ∧ Region.binds .any e = true ∧ (i = e.on ∨ (e.on < j ∧ pre (bF l) i e.on = true)) := by
  have key : ∀ (r : List Oper) (i j : Nat), pre (bF r.reverse) i j = true →
      ∃ c e, r.reverse[j]? = some c ∧ e ∈ c.after ∧ Region.binds .any e = true ∧ (i = e.on ∨ (e.on < j ∧ pre (bF r.reverse) i e.on = true)) := by
    intro r
    induction r with
    | nil => intro i j h; simp [pre, bF] at h
    | cons o r ih =>
      intro i j h
      rw [List.reverse_cons] at h ⊢
      have hget := before_step r.reverse o
      unfold pre at h
      rw [hget j] at h
      by_cases hj : j = r.reverse.length
      · rw [if_pos hj] at h
        unfold bStep at h
        rw [← Array.foldl_toList] at h
        rcases fold_bit _ _ i 0 h with h1 | ⟨e, h1, h2, h3⟩
        · simp at h1
        · refine ⟨o, e, by rw [hj]; simp, by simpa using h1, h2, ?_⟩
          rcases h3 with h3 | h3
          · exact .inl h3
          · have hlt : e.on < r.reverse.length := by
              rcases Nat.lt_or_ge e.on r.reverse.length with h | h
              · exact h
              · rw [Array.getD_eq_getD_getElem?, Array.getElem?_eq_none (by rw [bF_size]; exact h)] at h3; simp at h3
            refine .inr ⟨by omega, ?_⟩
            unfold pre
            rw [hget, if_neg (by omega)]
            exact h3
      · rw [if_neg hj] at h
        obtain ⟨c, e, h1, h2, h3, h4⟩ := ih i j h
        have hjl : j < r.reverse.length := (List.getElem?_eq_some_iff.1 h1).1
        refine ⟨c, e, by rw [List.getElem?_append_left hjl]; exact h1, h2, h3, ?_⟩
        rcases h4 with h4 | ⟨h4, h5⟩
        · exact .inl h4
        · refine .inr ⟨h4, ?_⟩
          unfold pre
          rw [hget, if_neg (by omega)]
          exact h5
  intro i j h
  have := key l.reverse i j (by simpa using h)
  simpa using this

/-- Whatever must be listed ahead of what is listed, or may be, is listed. -/
theorem pre_listed {ops : Array Oper} {listed : Array Bool} (down : ∀ j c, ops[j]? = some c → listed.getD j false = true → ∀ e ∈ c.after, Region.binds .any e = true → listed.getD e.on false = true) :
    ∀ (j i : Nat), (∀ c, ops[j]? = some c → ∀ e ∈ c.after, Region.binds .any e = true → listed.getD e.on false = true) → pre (Region.before ops) i j = true → listed.getD i false = true := by
  intro j
  induction j using Nat.strongRecOn with
  | _ j ih =>
    intro i hj hp
    rw [before_eq] at hp
    obtain ⟨c, e, h1, h2, h3, h4⟩ := before_bit ops.toList i j hp
    have h1' : ops[j]? = some c := by simpa using h1
    have he := hj c h1' e h2 h3
    rcases h4 with rfl | ⟨h4, h5⟩
    · exact he
    · rw [← before_eq] at h5
      exact ih e.on h4 i (fun c' hc' e' he' hb' => down e.on c' hc' he e' he' hb') h5

end Go.Ab

/- The region whose order is drawn: the simulation. -/
namespace Go.Ab

/-- Of an operation that is not carried out yet, though the abstract machine is past it: what it will come to. -/
def Fact (τ : Env) (S : AS) (o : AOper) : Prop :=
  ∃ a d v, o.a = .op a ∧ o.d = some d ∧ look τ d = some v ∧ ((wantA o.g τ = some false ∧ v = .skip) ∨ (wantA o.g τ = some true ∧ astep (Opd.ev τ) (some d) S a = some (v, S) ∧ isLref d v = false))

structure Pos (L : List AOper) (ops : Array Oper) (p : Nat) (listed : Array Bool) : Prop where
  hp : p ≤ ops.size
  len : listed.size = ops.size
  W : ∀ k, k < p → wr L k = true → listed.getD (getO L k).i false = true
  U : ∀ k, p ≤ k → k < ops.size → isF (getO L k) = false → listed.getD (getO L k).i false = false
  down : ∀ j c, ops[j]? = some c → listed.getD j false = true → ∀ e ∈ c.after, Region.binds .any e = true → listed.getD e.on false = true

/-- Slots of operations that are past, and not carried out. -/
def Open (L : List AOper) (p : Nat) (listed : Array Bool) (t : Nat) : Prop := ∃ k, k < p ∧ listed.getD (getO L k).i false = false ∧ (getO L k).d = some t
/-- Slots of locals that are made already, though the abstract machine is not there. -/
def Ahead (L : List AOper) (n p : Nat) (listed : Array Bool) (t : Nat) : Prop := ∃ k, p ≤ k ∧ k < n ∧ isF (getO L k) = true ∧ listed.getD (getO L k).i false = true ∧ (getO L k).d = some t

structure Inv (P : Program) (B N : Nat) (L : List AOper) (ops : Array Oper) (τ0 : Env) (Kn : Env → AS → Prop) (KP : AV → AS → Prop) (p : Nat) (τ : Env) (S Sp : AS) (listed : Array Bool) (g : Gh) (blk : Nat → Option Nat)
    (a : Act) (w : World) : Prop where
  pos : Pos L ops p listed
  cont : aops (SCalls P) L (L.drop p) τ S Kn KP
  sr : SRel B g blk w.heap Sp
  ext : LExt S Sp
  size : a.tmps.size = N
  D : drel g S.df a.defers
  T : TRel (fun t => Open L p listed t ∨ Ahead L ops.size p listed t) g blk τ a.tmps
  facts : ∀ k, k < p → listed.getD (getO L k).i false = false → Fact τ S (getO L k)
  old : ∀ t, t ∉ dsts L → look τ t = look τ0 t
  fr : ∀ k, p ≤ k → k < ops.size → isF (getO L k) = true → ∀ d, (getO L k).d = some d → look S.lo d = none ∧ (∀ t v, look τ t = some v → isLref d v = false) ∧
    (listed.getD (getO L k).i false = true → ∃ z, (getO L k).a = .op (.allocL z) ∧ look Sp.lo d = some z ∧ relT g blk (.lref d 0) (a.tmps.getD d Go.undef))

theorem isF_get {o : AOper} (h : isF o = true) : ∃ z d, o.a = .op (.allocL z) ∧ o.g = none ∧ o.d = some d := by
  unfold isF at h
  split at h
  · rename_i z d h1 h2 h3
    exact ⟨z, d, h1, h2, h3⟩
  · cases h
theorem isF_wr {L : List AOper} {k : Nat} (h : isF (getO L k) = true) : wr L k = true := by
  obtain ⟨z, d, h1, _, _⟩ := isF_get h
  unfold wr
  rw [h1]
  rfl
theorem isF_looks {o : AOper} (h : isF o = true) : o.looks = [] := by
  obtain ⟨z, d, h1, h2, _⟩ := isF_get h
  unfold AOper.looks
  rw [h1, h2]
  rfl

section
variable {P : Program} {B N : Nat} {L : List AOper} {ops : Array Oper} {τ0 τ : Env} {Kn : Env → AS → Prop} {KP : AV → AS → Prop} {p : Nat} {S Sp : AS} {listed : Array Bool} {g : Gh} {blk : Nat → Option Nat} {a : Act} {w : World}

structure Chk (P : Program) (N : Nat) (L : List AOper) (ops : Array Oper) : Prop where
  len : L.length = ops.size
  op : ∀ k, k < ops.size → chkOper P N ops (getO L k) = true
  lt : ∀ k, k < ops.size → (getO L k).i < ops.size
  inj : ∀ i j, i < j → j < ops.size → (getO L i).i ≠ (getO L j).i
  surj : ∀ i, i < ops.size → ∃ k, k < ops.size ∧ (getO L k).i = i
  edge : ∀ k, k < ops.size → edgesOk ops L k = true
  self : ∀ k, k < ops.size → selfOk L k = true
  pair : ∀ i j, i < j → j < ops.size → pairOk (Region.before ops) L i j = true

theorem chk_of (h : chkDraw ops L = true) (h2 : L.all (chkOper P N ops) = true) : Chk P N L ops := by
  unfold chkDraw at h
  simp only [Bool.and_eq_true, beq_iff_eq] at h
  obtain ⟨⟨⟨⟨⟨⟨h3, h4⟩, h5⟩, h9⟩, h6⟩, h7⟩, h8⟩ := h
  refine ⟨h3, fun k hk => ?_, fun k hk => by simpa using allB_get h4 hk, fun i j hi hj => by simpa using allB_get (allB_get h5 hj) hi, fun i hi => by simpa using allB_get h9 hi, fun k hk => allB_get h6 hk, fun k hk => allB_get h7 hk, fun i j hi hj => allB_get (allB_get h8 hj) hi⟩
  rw [List.all_eq_true] at h2
  refine h2 _ ?_
  unfold getO
  rw [List.getD_eq_getElem?_getD, List.getElem?_eq_getElem (by omega)]
  exact List.getElem_mem _

theorem getO_drop (hl : L.length = ops.size) (hp : p < ops.size) : L.drop p = getO L p :: L.drop (p + 1) := by
  have hlt : p < L.length := by omega
  rw [List.drop_eq_getElem_cons hlt]
  congr 1
  unfold getO
  rw [List.getD_eq_getElem?_getD, List.getElem?_eq_getElem hlt]
  rfl

theorem mem_dsts {k t : Nat} (hl : L.length = ops.size) (hk : k < ops.size) (hd : (getO L k).d = some t) : t ∈ dsts L := by
  unfold dsts
  refine List.mem_filterMap.2 ⟨getO L k, ?_, hd⟩
  unfold getO
  rw [List.getD_eq_getElem?_getD, List.getElem?_eq_getElem (by omega)]
  exact List.getElem_mem _

/-- All edges of an operation are listed. -/
def Edges (ops : Array Oper) (listed : Array Bool) (j : Nat) : Prop := ∀ c, ops[j]? = some c → ∀ e ∈ c.after, Region.binds .any e = true → listed.getD e.on false = true

/-- Slots that an operation looks at, and whose own operation stands ahead, are known by the time its edges are listed. -/
theorem looks_known (C : Chk P N L ops) (Q : Pos L ops p listed) {k : Nat} (hk : k ≤ p) (hkn : k < ops.size) (hun : listed.getD (getO L k).i false = false) (hE : Edges ops listed (getO L k).i) (hself : k < p → wr L k = false) :
    ∀ t ∈ (getO L k).looks, ¬ (Open L p listed t ∨ Ahead L ops.size p listed t) := by
  rintro t ht (⟨k', hk', hu, hd⟩ | ⟨k', hk', hk'n, hF, hli, hd⟩)
  case inr =>
    rcases Nat.lt_or_ge k k' with h | h
    · have hpair := C.pair k k' h hk'n
      unfold pairOk at hpair
      simp only [Bool.and_eq_true, Bool.or_eq_true, Bool.not_eq_true'] at hpair
      have hm : meets (getO L k) (getO L k') = true := by unfold meets; rw [hd]; simp [ht]
      rcases hpair.1.1 with h1 | h1
      · have hc := (chkOper_get (C.op k' hk'n))
        obtain ⟨c, hc, _⟩ := hc
        have := pre_listed Q.down (getO L k').i (getO L k).i (fun c' hc' => Q.down _ c' hc' hli) h1
        rw [this] at hun; cases hun
      · rw [hm] at h1; simp at h1
    · have : k' = k := by omega
      subst this
      rw [isF_looks hF] at ht
      cases ht
  rcases Nat.lt_trichotomy k' k with h | h | h
  · have hpair := C.pair k' k h hkn
    unfold pairOk at hpair
    simp only [Bool.and_eq_true, Bool.or_eq_true, Bool.not_eq_true'] at hpair
    have hf : feeds (getO L k') (getO L k) = true := by unfold feeds; rw [hd]; simpa using ht
    rcases hpair.1.1 with h1 | h1
    · have := pre_listed Q.down (getO L k).i (getO L k').i hE h1
      rw [this] at hu; cases hu
    · rw [hf] at h1
      simp at h1
  · subst h
    have hw := hself (by omega)
    have hs := C.self k' hkn
    unfold selfOk at hs
    rw [hw, hd] at hs
    simp at hs
    exact hs ht
  · have hk'n : k' < ops.size := by have := Q.hp; omega
    have hw : wr L k' = true := by
      unfold wr
      have : ((List.range k').any fun i => meets (getO L i) (getO L k')) = true := by
        rw [List.any_eq_true]
        refine ⟨k, List.mem_range.2 h, ?_⟩
        unfold meets
        rw [hd]
        simp [ht]
      simp [this]
    rw [Q.W k' hk' hw] at hu
    cases hu

theorem wantA_congr {τ τ' : Env} {o : AOper} (h : ∀ t ∈ o.looks, look τ' t = look τ t) : wantA o.g τ' = wantA o.g τ := by
  unfold wantA
  cases hg : o.g with
  | none => rfl
  | some q =>
    obtain ⟨t, b⟩ := q
    have : t ∈ o.looks := by unfold AOper.looks; rw [hg]; exact List.mem_append.2 (.inr (by simp))
    simp only [h t this]
theorem ev_congr {τ τ' : Env} {o : AOper} {a : AOp} (ha : o.a = .op a) (h : ∀ t ∈ o.looks, look τ' t = look τ t) : ∀ x ∈ a.opds, Opd.ev τ' x = Opd.ev τ x := by
  intro x hx
  cases x with
  | c v => rfl
  | t n =>
    have : n ∈ o.looks := by
      unfold AOper.looks
      rw [ha]
      exact List.mem_append.2 (.inl (List.mem_filterMap.2 ⟨.t n, hx, rfl⟩))
    simp only [Opd.ev, h n this]

/-- A fact stays, as other slots are put, and the heap changes if it does not mind. -/
theorem Fact.keep {τ τ' : Env} {S S' : AS} {o : AOper} (h : Fact τ S o) (hl : ∀ t ∈ o.looks, look τ' t = look τ t) (hd : ∀ d, o.d = some d → look τ' d = look τ d)
    (hS : S' = S ∨ o.a.quiet = true ∨ rechk1 τ' S' o ∨ (o.a.reads = true ∧ LExt S S')) : Fact τ' S' o := by
  obtain ⟨a, d, v, h1, h2, h3, h4⟩ := h
  refine ⟨a, d, v, h1, h2, by rw [hd d h2]; exact h3, ?_⟩
  rw [wantA_congr hl]
  rcases h4 with h4 | ⟨h4, h5, h6⟩
  · exact .inl h4
  · refine .inr ⟨h4, ?_, h6⟩
    have h7 : astep (Opd.ev τ') (some d) S a = some (v, S) := by
      rw [astep_congr (ρ2 := Opd.ev τ) (ev_congr h1 hl)]
      exact h5
    rcases hS with rfl | hq | hr | ⟨hrd, hx⟩
    rotate_left 3
    · rw [h1] at hrd
      obtain ⟨S2, h8, h9⟩ := astep_ext hx h7
      have := reads_same hrd h8
      rw [h8, this]
    · exact h7
    · rw [h1] at hq
      exact quiet_any hq h7
    · unfold rechk1 at hr
      rw [wantA_congr hl, h4, h1, h2] at hr
      obtain ⟨v', h8, h9⟩ := hr
      rw [hd d h2, h3] at h8
      cases h8
      exact h9

theorem Open.mono {p' : Nat} {t : Nat} (h : Open L p listed t) (hp : p ≤ p') : Open L p' listed t := by
  obtain ⟨k, h1, h2, h3⟩ := h
  exact ⟨k, by omega, h2, h3⟩

theorem mem_drop {k : Nat} (hl : L.length = ops.size) (hk : p ≤ k) (hkn : k < ops.size) : getO L k ∈ L.drop p := by
  have hlt : k < L.length := by omega
  refine List.mem_iff_getElem?.2 ⟨k - p, ?_⟩
  rw [List.getElem?_drop, show p + (k - p) = k from by omega, List.getElem?_eq_getElem hlt]
  unfold getO
  rw [List.getD_eq_getElem?_getD, List.getElem?_eq_getElem hlt]
  rfl

theorem pairF (C : Chk P N L ops) {i j d : Nat} (hij : i < j) (hj : j < ops.size) (hF : isF (getO L i) = true ∨ isF (getO L j) = true) (hd : (getO L i).d = some d) : (getO L j).d ≠ some d := by
  have hp := C.pair i j hij hj
  unfold pairOk at hp
  simp only [Bool.and_eq_true] at hp
  have h2 := hp.2
  intro e
  rw [hd, e] at h2
  rcases hF with hF | hF <;> simp [hF] at h2

/-- The abstract machine goes on to the next operation that is done where it stands. -/
theorem advance (C : Chk P N L ops) : ∀ (n p : Nat) (τ : Env) (S : AS), ops.size - p = n → Inv P B N L ops τ0 Kn KP p τ S Sp listed g blk a w →
    ∃ p' τ' S', Inv P B N L ops τ0 Kn KP p' τ' S' Sp listed g blk a w ∧ (p' < ops.size → wr L p' = true ∧ (isF (getO L p') = true → listed.getD (getO L p').i false = false)) := by
  intro n
  induction n with
  | zero => intro p τ S hn I; exact ⟨p, τ, S, I, fun h => by omega⟩
  | succ n ih =>
    intro p τ S hn I
    have hlt : p < ops.size := by omega
    have hcont := I.cont
    rw [getO_drop C.len hlt] at hcont
    by_cases hF : isF (getO L p) = true
    · cases hli : listed.getD (getO L p).i false with
      | false => exact ⟨p, τ, S, I, fun _ => ⟨isF_wr hF, fun _ => hli⟩⟩
      | true =>
        -- a local that is made already
        obtain ⟨z, d, ha, hg, hd⟩ := isF_get hF
        obtain ⟨f1, f2, f3⟩ := I.fr p (Nat.le_refl _) hlt hF d hd
        obtain ⟨z', hz', f4, f5⟩ := f3 hli
        rw [ha] at hz'
        cases hz'
        simp only [aops, hg, wantA, ha, ains, hd, astep] at hcont
        obtain ⟨k1, _, k3⟩ := hcont
        have hother : ∀ t, t ≠ d → look (put τ d (.lref d 0)) t = look τ t := fun t ht => by rw [look_put, if_neg (Ne.symm ht)]
        have hext : LExt { S with lo := put S.lo d z } Sp := ⟨I.ext.hp, I.ext.df, fun s cs hs => by
          simp only [look_put] at hs
          split at hs
          · rename_i e; subst e; cases hs; exact f4
          · exact I.ext.lo s cs hs⟩
        have hSS : LExt S { S with lo := put S.lo d z } := ⟨rfl, rfl, fun s cs hs => by
          simp only [look_put]
          split
          · rename_i e; subst e; rw [f1] at hs; cases hs
          · exact hs⟩
        refine ih (p + 1) (put τ d (.lref d 0)) { S with lo := put S.lo d z } (by omega) ⟨⟨by omega, I.pos.len, fun k hk hwk => ?_, fun k hk hkn => I.pos.U k (by omega) hkn, I.pos.down⟩, k3, I.sr, hext, I.size, I.D, ?_, ?_, ?_, ?_⟩
        · rcases Nat.lt_succ_iff_lt_or_eq.1 hk with h | h
          · exact I.pos.W k h hwk
          · subst h; exact hli
        · intro t v' hl hu
          by_cases ht : t = d
          · subst ht
            rw [look_put, if_pos rfl] at hl
            cases hl
            exact f5
          · rw [hother t ht] at hl
            refine I.T t v' hl ?_
            rintro (⟨k, h1, h2, h3⟩ | ⟨k, h1, h2, h3, h4, h5⟩)
            · exact hu (.inl ⟨k, by omega, h2, h3⟩)
            · rcases Nat.lt_or_ge p k with h | h
              · exact hu (.inr ⟨k, by omega, h2, h3, h4, h5⟩)
              · have : k = p := by omega
                subst this
                rw [hd] at h5; cases h5
                exact ht rfl
        · intro k hk hu
          rcases Nat.lt_succ_iff_lt_or_eq.1 hk with h | h
          · have hpair := C.pair k p h hlt
            unfold pairOk at hpair
            simp only [Bool.and_eq_true, Bool.or_eq_true, Bool.not_eq_true'] at hpair
            have hnp : meets (getO L k) (getO L p) = false := by
              rcases hpair.1.1 with h1 | h1
              · have := pre_listed I.pos.down (getO L p).i (getO L k).i (fun c' hc' => I.pos.down _ c' hc' hli) h1
                rw [this] at hu; cases hu
              · simp only [Bool.or_eq_false_iff] at h1
                exact h1.1.2
            unfold meets at hnp
            rw [hd] at hnp
            simp only [Bool.or_eq_false_iff] at hnp
            have hrd : (getO L k).a.reads = true := by
              cases hr : (getO L k).a.reads with
              | true => rfl
              | false =>
                have : wr L k = true := by unfold wr; rw [hr]; rfl
                rw [I.pos.W k h this] at hu; cases hu
            refine (I.facts k h hu).keep (fun t ht => hother t ?_) (fun d' hd' => hother d' ?_) (.inr (.inr (.inr ⟨hrd, hSS⟩)))
            · rintro rfl
              have := hnp.1
              simp [ht] at this
            · rintro rfl
              rw [hd'] at hnp
              simp at hnp
          · subst h
            rw [hli] at hu; cases hu
        · intro t ht
          rw [hother t (by rintro rfl; exact ht (mem_dsts C.len hlt hd))]
          exact I.old t ht
        · intro k hk hkn hFk d' hd'
          obtain ⟨g1, g2, g3⟩ := I.fr k (by omega) hkn hFk d' hd'
          have hne : d ≠ d' := by
            rintro rfl
            exact pairF C (by omega) hkn (.inl hF) hd hd'
          refine ⟨by simp only [look_put, if_neg hne]; exact g1, fun t v hl => ?_, g3⟩
          by_cases ht : t = d
          · subst ht
            rw [look_put, if_pos rfl] at hl
            cases hl
            simp [isLref, hne]
          · rw [hother t ht] at hl
            exact g2 t v hl
    · by_cases hw : wr L p = true
      · exact ⟨p, τ, S, I, fun _ => ⟨hw, fun h => absurd h hF⟩⟩
      · have hwf : wr L p = false := by simpa using hw
        have hFf : isF (getO L p) = false := by simpa using hF
        have hunl := I.pos.U p (Nat.le_refl _) hlt hFf
        simp only [aops] at hcont
        have hwf' := hwf
        unfold wr at hwf
        simp only [Bool.or_eq_false_iff, Bool.not_eq_false'] at hwf
        obtain ⟨⟨hr, hdn⟩, hno⟩ := hwf
        cases hd : (getO L p).d with
        | none => rw [hd] at hdn; simp at hdn
        | some d =>
          have hself : d ∉ (getO L p).looks := by
            have hs := C.self p hlt
            unfold selfOk at hs
            rw [hd, hwf'] at hs
            simpa using hs
          have hfar : ∀ k, k < p → d ∉ (getO L k).looks ∧ (getO L k).d ≠ some d := by
            intro k hk
            rw [List.any_eq_false] at hno
            have := hno k (List.mem_range.2 hk)
            unfold meets at this
            rw [hd] at this
            simp only [Bool.or_eq_true, not_or, List.contains_iff_mem, beq_iff_eq] at this
            exact ⟨this.1, this.2⟩
          have fin : ∀ v, aops (SCalls P) L (L.drop (p + 1)) (put τ d v) S Kn KP → Fact (put τ d v) S (getO L p) → (∀ k, p + 1 ≤ k → k < ops.size → isF (getO L k) = true → ∀ d', (getO L k).d = some d' → isLref d' v = false) →
              Inv P B N L ops τ0 Kn KP (p + 1) (put τ d v) S Sp listed g blk a w := by
            intro v hc hf hnl
            have hother : ∀ t, t ≠ d → look (put τ d v) t = look τ t := fun t ht => by rw [look_put, if_neg (Ne.symm ht)]
            refine ⟨⟨by omega, I.pos.len, fun k hk hwk => ?_, fun k hk hkn => I.pos.U k (by omega) hkn, I.pos.down⟩, hc, I.sr, I.ext, I.size, I.D, ?_, ?_, ?_, ?_⟩
            · rcases Nat.lt_succ_iff_lt_or_eq.1 hk with h | h
              · exact I.pos.W k h hwk
              · subst h; rw [hwk] at hw; exact absurd rfl hw
            · intro t v' hl hu
              have hne : t ≠ d := by
                rintro rfl
                exact hu (.inl ⟨p, by omega, hunl, hd⟩)
              rw [hother t hne] at hl
              refine I.T t v' hl ?_
              rintro (ho | ⟨k, h1, h2, h3, h4, h5⟩)
              · exact hu (.inl (ho.mono (by omega)))
              · rcases Nat.lt_or_ge p k with h | h
                · exact hu (.inr ⟨k, by omega, h2, h3, h4, h5⟩)
                · have : k = p := by omega
                  subst this
                  rw [hFf] at h3; cases h3
            · intro k hk hu
              rcases Nat.lt_succ_iff_lt_or_eq.1 hk with h | h
              · obtain ⟨h1, h2⟩ := hfar k h
                refine (I.facts k h hu).keep (fun t ht => hother t (by rintro rfl; exact h1 ht)) (fun d' hd' => hother d' (by rintro rfl; exact h2 hd')) (.inl rfl)
              · subst h; exact hf
            · intro t ht
              rw [hother t (by rintro rfl; exact ht (mem_dsts C.len hlt hd))]
              exact I.old t ht
            · intro k hk hkn hFk d' hd'
              obtain ⟨g1, g2, g3⟩ := I.fr k (by omega) hkn hFk d' hd'
              refine ⟨g1, fun t v' hl => ?_, g3⟩
              by_cases ht : t = d
              · subst ht
                rw [look_put, if_pos rfl] at hl
                cases hl
                exact hnl k hk hkn hFk d' hd'
              · rw [hother t ht] at hl
                exact g2 t v' hl
          have hkeep : ∀ v t, t ∈ (getO L p).looks → look (put τ d v) t = look τ t := fun v t ht => by
            rw [look_put, if_neg (by rintro rfl; exact hself ht)]
          split at hcont
          · rename_i hwant
            cases ha : (getO L p).a with
            | op ao =>
              rw [ha] at hcont hr
              simp only [ains, hd] at hcont
              split at hcont
              · rename_i v S1 hst
                have hS1 := reads_same hr hst
                subst hS1
                obtain ⟨k1, _, k3⟩ := hcont
                refine ih (p + 1) (put τ d v) S1 (by omega) (fin v k3 ⟨ao, d, v, ha, hd, by simp [look_put], .inr ⟨by rw [wantA_congr (hkeep v)]; exact hwant, ?_, ?_⟩⟩ ?_)
                · rw [astep_congr (ρ2 := Opd.ev τ) (ev_congr ha (hkeep v))]
                  exact hst
                · have k1' := k1
                  unfold okD at k1'
                  rw [hd, ha] at k1'
                  cases v <;> first | rfl | skip
                  rename_i s q
                  have hr' : ao.reads = true := hr
                  simp [AIns.reads, hr'] at k1'
                  simpa [isLref] using k1'.1
                · intro k hk hkn hFk d' hd'
                  cases v <;> first | rfl | skip
                  have := okD_F k1 (mem_drop C.len hk hkn) hFk
                  rw [hd'] at this
                  simp only [isLref, beq_eq_false_iff_ne]
                  intro e
                  exact this (by rw [e])
              · exact hcont.elim
            | call => rw [ha] at hr; simp [AIns.reads] at hr
            | callv => rw [ha] at hr; simp [AIns.reads] at hr
            | pan => rw [ha] at hr; simp [AIns.reads] at hr
            | dfr => rw [ha] at hr; simp [AIns.reads] at hr
          · rename_i hwant
            rw [hd] at hcont
            cases ha : (getO L p).a with
            | op ao =>
              exact ih (p + 1) (put τ d .skip) S (by omega) (fin .skip hcont ⟨ao, d, .skip, ha, hd, by simp [look_put], .inl ⟨by rw [wantA_congr (hkeep _)]; exact hwant, rfl⟩⟩ (fun _ _ _ _ _ _ => rfl))
            | call => rw [ha] at hr; simp [AIns.reads] at hr
            | callv => rw [ha] at hr; simp [AIns.reads] at hr
            | pan => rw [ha] at hr; simp [AIns.reads] at hr
            | dfr => rw [ha] at hr; simp [AIns.reads] at hr
          · exact hcont.elim

theorem getD_set {listed : Array Bool} {i j : Nat} (hi : i < listed.size) : (listed.setIfInBounds i true).getD j false = if j = i then true else listed.getD j false := by
  simp only [Array.getD_eq_getD_getElem?, Array.getElem?_setIfInBounds]
  split
  · rename_i h; subst h; simp
  · rename_i h; rw [if_neg (fun e => h e.symm)]

def left (listed : Array Bool) : Nat := (listed.toList.filter fun b => !b).length

theorem left_set {listed : Array Bool} {i : Nat} (hi : i < listed.size) (h : listed.getD i false = false) : left (listed.setIfInBounds i true) + 1 = left listed := by
  unfold left
  rw [Array.toList_setIfInBounds]
  have hil : i < listed.toList.length := by simpa using hi
  have hA : listed.toList = listed.toList.take i ++ (listed.toList[i] :: listed.toList.drop (i + 1)) := by rw [← List.drop_eq_getElem_cons hil, List.take_append_drop]
  have hl : (listed.toList.take i).length = i := by simp; omega
  have hset : listed.toList.set i true = listed.toList.take i ++ (true :: listed.toList.drop (i + 1)) := by
    conv => lhs; rw [hA]
    rw [List.set_append_right _ _ (by omega), hl, Nat.sub_self, List.set_cons_zero]
  have hv : listed.toList[i] = false := by
    rw [Array.getD_eq_getD_getElem?] at h
    simpa [hi] using h
  rw [hset]
  conv => rhs; rw [hA]
  rw [List.filter_append, List.filter_append, hv]
  simp
  omega

theorem left_zero {listed : Array Bool} (h : left listed = 0) {i : Nat} (hi : i < listed.size) : listed.getD i false = true := by
  unfold left at h
  rw [List.length_eq_zero_iff, List.filter_eq_nil_iff] at h
  have := h listed[i] (by rw [Array.mem_toList_iff]; exact Array.getElem_mem hi)
  rw [Array.getD_eq_getD_getElem?]
  simpa [hi] using this

theorem ready_iff {i : Nat} : i ∈ Region.ready .any ops listed ↔ i < ops.size ∧ listed.getD i true = false ∧ ∃ c, ops[i]? = some c ∧ ∀ e ∈ c.after, Region.binds .any e = true → listed.getD e.on false = true := by
  unfold Region.ready
  rw [List.mem_filter, List.mem_range]
  constructor
  · rintro ⟨h1, h2⟩
    simp only [Bool.and_eq_true, Bool.not_eq_true'] at h2
    cases hc : ops[i]? with
    | none => rw [hc] at h2; simp at h2
    | some c =>
      rw [hc] at h2
      refine ⟨h1, h2.1, c, rfl, fun e he hb => ?_⟩
      have h3 := h2.2
      simp only [Option.map_some, Option.getD_some] at h3
      rw [Array.all_eq_true_iff_forall_mem] at h3
      have := h3 e he
      simpa [hb] using this
  · rintro ⟨h1, h2, c, hc, h3⟩
    refine ⟨h1, ?_⟩
    simp only [Bool.and_eq_true, Bool.not_eq_true']
    refine ⟨h2, ?_⟩
    rw [hc]
    simp only [Option.map_some, Option.getD_some]
    rw [Array.all_eq_true_iff_forall_mem]
    intro e he
    by_cases hb : Region.binds .any e = true
    · simp [h3 e he hb]
    · simp [hb]

/-- Something is ready, while something is left. -/
theorem ready_some (C : Chk P N L ops) (hl : listed.size = ops.size) (h : Region.ready .any ops listed = []) : ∀ k, k < ops.size → listed.getD (getO L k).i false = true := by
  intro k
  induction k using Nat.strongRecOn with
  | _ k ih =>
    intro hk
    cases hb : listed.getD (getO L k).i false with
    | true => rfl
    | false =>
      exfalso
      have hlt := C.lt k hk
      have : (getO L k).i ∈ Region.ready .any ops listed := by
        rw [ready_iff]
        refine ⟨hlt, ?_, ?_⟩
        · rw [Array.getD_eq_getD_getElem?] at hb ⊢
          have : (getO L k).i < listed.size := by omega
          simp [this] at hb ⊢
          exact hb
        · have he := C.edge k hk
          unfold edgesOk at he
          split at he
          · rename_i c hc
            refine ⟨c, hc, fun e hem hbind => ?_⟩
            rw [Array.all_eq_true_iff_forall_mem] at he
            have := he e hem
            simp only [hbind, Bool.not_true, Bool.false_or, List.any_eq_true, List.mem_range, beq_iff_eq] at this
            obtain ⟨i, hi, hie⟩ := this
            rw [← hie]
            exact ih i hi (by omega)
          · cases he
      rw [h] at this
      cases this

end
end Go.Ab
