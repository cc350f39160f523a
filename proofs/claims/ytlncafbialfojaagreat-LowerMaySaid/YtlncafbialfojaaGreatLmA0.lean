/- The abstract machine, what it tells of the model (part 0). No conditions. -/
import Derived.Orders
import Derived.LoopN
import Derived.Recover
import Derived.Laws.World
import Derived.Laws.Sem
import Derived.Laws.StructEq
set_option linter.unusedVariables false
set_option linter.unusedSimpArgs false
/- The abstract machine's data: values without capacities, and how they stand for the model's values in a world. -/
namespace Go.Ab

/-- An abstract value. 'vs': an immutable slice, its elements at hand ('some t': the token t lets append to it once). 'hs': a slice over the heap object i. 'ptr': into a heap object. 'cp': a pointer to cells that never change. 'lref': to a local of the frame. -/
inductive AV where
  | undef | skip
  | bool (b : Bool)
  | int (k : IntKind) (n : Int)
  | str (s : List UInt8)
  | nilp
  | ptr (i o : Nat)
  | cp (cs : List AV)
  | lref (s o : Nat)
  | nils
  | vs (t : Option Nat) (xs : List AV)
  | hs (i e o n : Nat)
  | nilm
  | map (i : Nat)
  | nilf
  | func (fn : Fn) (first caps : List AV)
  | nili
  | iface (t : Nat) (v : AV)
  | agg (cs : List AV)
  | tuple (xs : List AV)
  deriving Inhabited

def AV.cells : AV → List AV
  | .agg cs => cs
  | v => [v]

def AV.scalar : AV → Bool
  | .agg _ | .tuple _ => false
  | _ => true

/-- Can the value stand in memory, and be handed on? -/
def AV.proper : AV → Bool
  | .undef | .skip | .lref .. => false
  | _ => true

/-- Without its token. -/
def AV.drop1 : AV → AV
  | .vs _ xs => .vs none xs
  | v => v

/-- Without tokens, at the top and in the cells of an aggregate or a tuple. -/
def AV.erase : AV → AV
  | .vs _ xs => .vs none xs
  | .agg cs => .agg (cs.map AV.drop1)
  | .tuple xs => .tuple (xs.map fun x => match x with | .agg cs => .agg (cs.map AV.drop1) | x => x.drop1)
  | v => v

structure Loc where
  b : Nat
  o : Nat
  lim : Nat

/-- Where the heap objects stand, and which cells at the beginning of a block never change. -/
structure Gh where
  obj : List Loc
  imm : Nat → Option (List Value)

def cellsL (ys : List Value) : List Value := ys.flatMap fun y => y.cells.toList

mutual
def rel (g : Gh) : AV → Value → Prop
  | .undef, _ => False
  | .skip, _ => False
  | .lref _ _, _ => False
  | .bool b, x => x = .bool b
  | .int k n, x => x = .int k n
  | .str s, x => x = .string ⟨⟨s⟩⟩
  | .nilp, x => x = .pointer none
  | .ptr i o, x => ∃ l, g.obj[i]? = some l ∧ x = .pointer (some ⟨l.b, l.o + o, none⟩)
  | .cp cs, x => ∃ b o L ys, x = .pointer (some ⟨b, o, none⟩) ∧ g.imm b = some L ∧ rels g cs ys ∧ cs.all AV.scalar = true ∧ ys <+: L.drop o
  | .nils, x => x = .slice none 0 0
  | .vs t xs, x => ∃ b o cap L ys e, x = .slice (some ⟨b, o, none⟩) xs.length cap ∧ xs.length ≤ cap ∧ g.imm b = some L ∧ rels g xs ys ∧ cellsL ys <+: L.drop o ∧ (∀ y ∈ ys, y.cells.size = e) ∧
      (∀ i, t = some i → ∃ l, g.obj[i]? = some l ∧ l.b = b ∧ l.o = o + (cellsL ys).length ∧ 0 < xs.length ∧ o + cap * e ≤ l.lim)
  | .hs i e o n, x => ∃ l cap, g.obj[i]? = some l ∧ x = .slice (some ⟨l.b, l.o + o, none⟩) n cap ∧ n ≤ cap ∧ l.o + o + cap * e ≤ l.lim
  | .nilm, x => x = .map none
  | .map i, x => ∃ l, g.obj[i]? = some l ∧ x = .map (some l.b)
  | .nilf, x => x = .nilFunc
  | .func fn first caps, x => ∃ ys zs, x = .func fn ys.toArray zs.toArray ∧ rels g first ys ∧ rels g caps zs
  | .nili, x => x = .nilIface
  | .iface t v, x => ∃ y, x = .iface t y ∧ rel g v y
  | .agg cs, x => ∃ ys, x = .agg ys.toArray ∧ rels g cs ys ∧ cs.all AV.scalar = true
  | .tuple xs, x => ∃ ys, x = .tuple ys.toArray ∧ rels g xs ys
def rels (g : Gh) : List AV → List Value → Prop
  | [], ys => ys = []
  | x :: xs, ys => ∃ y r, ys = y :: r ∧ rel g x y ∧ rels g xs r
end

/-- A ghost grows: no object moves, no cell that never changes is lost. -/
structure Le (g g' : Gh) : Prop where
  obj : g.obj <+: g'.obj
  imm : ∀ b L, g.imm b = some L → ∃ L', g'.imm b = some L' ∧ L <+: L'

theorem Le.refl (g : Gh) : Le g g := ⟨List.prefix_refl _, fun _ L h => ⟨L, h, List.prefix_refl _⟩⟩
theorem Le.trans {a b c : Gh} (h : Le a b) (h' : Le b c) : Le a c :=
  ⟨h.obj.trans h'.obj, fun x L hL => let ⟨L', h1, h2⟩ := h.imm x L hL; let ⟨L'', h3, h4⟩ := h'.imm x L' h1; ⟨L'', h3, h2.trans h4⟩⟩

theorem get_prefix {α : Type} {l l' : List α} {i : Nat} {x : α} (h : l <+: l') (hx : l[i]? = some x) : l'[i]? = some x := by
  obtain ⟨r, rfl⟩ := h
  rw [List.getElem?_append_left]
  · exact hx
  · exact (List.getElem?_eq_some_iff.1 hx).1

theorem prefix_drop {α : Type} {l l' : List α} (o : Nat) (h : l <+: l') : l.drop o <+: l'.drop o := by
  obtain ⟨r, rfl⟩ := h
  rw [List.drop_append]
  exact ⟨_, rfl⟩

mutual
theorem rel_le {g g' : Gh} (h : Le g g') : ∀ (v : AV) (x : Value), rel g v x → rel g' v x
  | .undef, _, r => by simp [rel] at r
  | .skip, _, r => by simp [rel] at r
  | .lref _ _, _, r => by simp [rel] at r
  | .bool b, x, r => by simpa [rel] using r
  | .int k n, x, r => by simpa [rel] using r
  | .str s, x, r => by simpa [rel] using r
  | .nilp, x, r => by simpa [rel] using r
  | .ptr i o, x, r => by
    simp only [rel] at r ⊢
    obtain ⟨l, h1, h2⟩ := r
    exact ⟨l, get_prefix h.obj h1, h2⟩
  | .cp cs, x, r => by
    simp only [rel] at r ⊢
    obtain ⟨b, o, L, ys, h1, h2, h3, h4, h5⟩ := r
    obtain ⟨L', h6, h7⟩ := h.imm b L h2
    exact ⟨b, o, L', ys, h1, h6, rels_le h cs ys h3, h4, h5.trans (prefix_drop o h7)⟩
  | .nils, x, r => by simpa [rel] using r
  | .vs t xs, x, r => by
    simp only [rel] at r ⊢
    obtain ⟨b, o, cap, L, ys, e, h1, h0, h2, h3, h4, h10, h5⟩ := r
    obtain ⟨L', h6, h7⟩ := h.imm b L h2
    refine ⟨b, o, cap, L', ys, e, h1, h0, h6, rels_le h xs ys h3, h4.trans (prefix_drop o h7), h10, fun i hi => ?_⟩
    obtain ⟨l, h8, h9⟩ := h5 i hi
    exact ⟨l, get_prefix h.obj h8, h9⟩
  | .hs i e o n, x, r => by
    simp only [rel] at r ⊢
    obtain ⟨l, cap, h1, h2⟩ := r
    exact ⟨l, cap, get_prefix h.obj h1, h2⟩
  | .nilm, x, r => by simpa [rel] using r
  | .map i, x, r => by
    simp only [rel] at r ⊢
    obtain ⟨l, h1, h2⟩ := r
    exact ⟨l, get_prefix h.obj h1, h2⟩
  | .nilf, x, r => by simpa [rel] using r
  | .func fn a b, x, r => by
    simp only [rel] at r ⊢
    obtain ⟨ys, zs, h1, h2, h3⟩ := r
    exact ⟨ys, zs, h1, rels_le h a ys h2, rels_le h b zs h3⟩
  | .nili, x, r => by simpa [rel] using r
  | .iface t v, x, r => by
    simp only [rel] at r ⊢
    obtain ⟨y, h1, h2⟩ := r
    exact ⟨y, h1, rel_le h v y h2⟩
  | .agg cs, x, r => by
    simp only [rel] at r ⊢
    obtain ⟨ys, h1, h2, h3⟩ := r
    exact ⟨ys, h1, rels_le h cs ys h2, h3⟩
  | .tuple xs, x, r => by
    simp only [rel] at r ⊢
    obtain ⟨ys, h1, h2⟩ := r
    exact ⟨ys, h1, rels_le h xs ys h2⟩
theorem rels_le {g g' : Gh} (h : Le g g') : ∀ (vs : List AV) (xs : List Value), rels g vs xs → rels g' vs xs
  | [], xs, r => by simpa [rels] using r
  | v :: vs, xs, r => by
    simp only [rels] at r ⊢
    obtain ⟨y, t, h1, h2, h3⟩ := r
    exact ⟨y, t, h1, rel_le h v y h2, rels_le h vs t h3⟩
end

@[simp] theorem rels_nil {g : Gh} {ys : List Value} : rels g [] ys ↔ ys = [] := by simp [rels]
@[simp] theorem rels_cons_cons {g : Gh} {x : AV} {xs : List AV} {y : Value} {ys : List Value} : rels g (x :: xs) (y :: ys) ↔ rel g x y ∧ rels g xs ys := by
  constructor
  · rintro ⟨y', r, h, h1, h2⟩
    cases h
    exact ⟨h1, h2⟩
  · intro ⟨h1, h2⟩
    exact ⟨y, ys, rfl, h1, h2⟩
theorem rels_cons_iff {g : Gh} {x : AV} {xs : List AV} {ys : List Value} : rels g (x :: xs) ys ↔ ∃ y r, ys = y :: r ∧ rel g x y ∧ rels g xs r := by
  simp only [rels]
theorem rels_length {g : Gh} : ∀ {vs : List AV} {xs : List Value}, rels g vs xs → xs.length = vs.length
  | [], xs, r => by simp only [rels] at r; simp [r]
  | v :: vs, xs, r => by
    obtain ⟨y, t, rfl, _, h3⟩ := rels_cons_iff.1 r
    simp [rels_length h3]
theorem rels_get {g : Gh} : ∀ {vs : List AV} {xs : List Value} {i : Nat} {v : AV}, rels g vs xs → vs[i]? = some v → ∃ x, xs[i]? = some x ∧ rel g v x
  | [], xs, i, v, _, h => by simp at h
  | a :: vs, xs, i, v, r, h => by
    obtain ⟨y, t, rfl, h2, h3⟩ := rels_cons_iff.1 r
    cases i with
    | zero => simp at h; subst h; exact ⟨y, by simp, h2⟩
    | succ i =>
      obtain ⟨x, hx, hr⟩ := rels_get (i := i) h3 (by simpa using h)
      exact ⟨x, by simpa using hx, hr⟩
theorem rels_append {g : Gh} : ∀ {vs ws : List AV} {xs ys : List Value}, rels g vs xs → rels g ws ys → rels g (vs ++ ws) (xs ++ ys)
  | [], ws, xs, ys, r, r' => by simp at r; subst r; simpa using r'
  | a :: vs, ws, xs, ys, r, r' => by
    obtain ⟨y, t, rfl, h2, h3⟩ := rels_cons_iff.1 r
    exact rels_cons_cons.2 ⟨h2, rels_append h3 r'⟩
theorem rels_take {g : Gh} : ∀ {vs : List AV} {xs : List Value} (n : Nat), rels g vs xs → rels g (vs.take n) (xs.take n)
  | [], xs, n, r => by simp at r; subst r; simp
  | a :: vs, xs, n, r => by
    obtain ⟨y, t, rfl, h2, h3⟩ := rels_cons_iff.1 r
    cases n with
    | zero => simp
    | succ n => simpa using ⟨h2, rels_take n h3⟩
theorem rels_drop {g : Gh} : ∀ {vs : List AV} {xs : List Value} (n : Nat), rels g vs xs → rels g (vs.drop n) (xs.drop n)
  | [], xs, n, r => by simp at r; subst r; simp
  | a :: vs, xs, n, r => by
    obtain ⟨y, t, rfl, h2, h3⟩ := rels_cons_iff.1 r
    cases n with
    | zero => simpa using ⟨h2, h3⟩
    | succ n => simpa using rels_drop n h3
/-- The value's cells stand for the model's cells. -/
theorem rel_cells {g : Gh} {v : AV} {x : Value} (h : rel g v x) : rels g v.cells x.cells.toList := by
  cases v <;> simp only [rel] at h <;> (try exact h.elim)
  case agg cs => obtain ⟨ys, rfl, h2, _⟩ := h; simpa [AV.cells, Value.cells] using h2
  case bool => subst h; simp [AV.cells, Value.cells, rel]
  case int => subst h; simp [AV.cells, Value.cells, rel]
  case str => subst h; simp [AV.cells, Value.cells, rel]
  case nilp => subst h; simp [AV.cells, Value.cells, rel]
  case nils => subst h; simp [AV.cells, Value.cells, rel]
  case nilm => subst h; simp [AV.cells, Value.cells, rel]
  case nilf => subst h; simp [AV.cells, Value.cells, rel]
  case nili => subst h; simp [AV.cells, Value.cells, rel]
  case ptr i o => obtain ⟨l, h1, rfl⟩ := h; simp [AV.cells, Value.cells, rel, h1]
  case map i => obtain ⟨l, h1, rfl⟩ := h; simp [AV.cells, Value.cells, rel, h1]
  case cp cs => obtain ⟨b, o, L, ys, rfl, h2⟩ := h; simp only [AV.cells, Value.cells, rels_cons_cons, rels_nil, and_true, rel]; exact ⟨b, o, L, ys, rfl, h2⟩
  case vs t xs => obtain ⟨b, o, cap, L, ys, e, rfl, h2⟩ := h; simp only [AV.cells, Value.cells, rels_cons_cons, rels_nil, and_true, rel]; exact ⟨b, o, cap, L, ys, e, rfl, h2⟩
  case hs => obtain ⟨l, cap, h1, rfl, h2⟩ := h; simp only [AV.cells, Value.cells, rels_cons_cons, rels_nil, and_true, rel]; exact ⟨l, cap, h1, rfl, h2⟩
  case func => obtain ⟨ys, zs, rfl, h2⟩ := h; simp only [AV.cells, Value.cells, rels_cons_cons, rels_nil, and_true, rel]; exact ⟨ys, zs, rfl, h2⟩
  case iface => obtain ⟨y, rfl, h2⟩ := h; simp only [AV.cells, Value.cells, rels_cons_cons, rels_nil, and_true, rel]; exact ⟨y, rfl, h2⟩
  case tuple => obtain ⟨ys, rfl, h2⟩ := h; simp only [AV.cells, Value.cells, rels_cons_cons, rels_nil, and_true, rel]; exact ⟨ys, rfl, h2⟩
theorem rel_cells_len {g : Gh} {v : AV} {x : Value} (h : rel g v x) : x.cells.size = v.cells.length := by
  simpa using rels_length (rel_cells h)
theorem rel_oneCell {g : Gh} {v : AV} {x : Value} (h : rel g v x) (hs : v.scalar = true) : x.oneCell' = true ∧ x.cells = #[x] := by
  cases v <;> simp only [rel] at h <;> (try exact h.elim) <;> (try (simp [AV.scalar] at hs; done))
  case bool => subst h; exact ⟨rfl, rfl⟩
  case int => subst h; exact ⟨rfl, rfl⟩
  case str => subst h; exact ⟨rfl, rfl⟩
  case nilp => subst h; exact ⟨rfl, rfl⟩
  case nils => subst h; exact ⟨rfl, rfl⟩
  case nilm => subst h; exact ⟨rfl, rfl⟩
  case nilf => subst h; exact ⟨rfl, rfl⟩
  case nili => subst h; exact ⟨rfl, rfl⟩
  case ptr i o => obtain ⟨l, h1, rfl⟩ := h; exact ⟨rfl, rfl⟩
  case map i => obtain ⟨l, h1, rfl⟩ := h; exact ⟨rfl, rfl⟩
  case cp cs => obtain ⟨b, o, L, ys, rfl, h2⟩ := h; exact ⟨rfl, rfl⟩
  case vs t xs => obtain ⟨b, o, cap, L, ys, e, rfl, h2⟩ := h; exact ⟨rfl, rfl⟩
  case hs => obtain ⟨l, cap, h1, rfl, h2⟩ := h; exact ⟨rfl, rfl⟩
  case func => obtain ⟨ys, zs, rfl, h2⟩ := h; exact ⟨rfl, rfl⟩
  case iface => obtain ⟨y, rfl, h2⟩ := h; exact ⟨rfl, rfl⟩

theorem drop1_scalar (v : AV) : v.drop1.scalar = v.scalar := by cases v <;> rfl
theorem rel_drop1 {g : Gh} {v : AV} {x : Value} (h : rel g v x) : rel g v.drop1 x := by
  cases v <;> try exact h
  case vs t xs =>
    simp only [AV.drop1, rel] at h ⊢
    obtain ⟨b, o, cap, L, ys, e, h1, h0, h2, h3, h4, h5, _⟩ := h
    exact ⟨b, o, cap, L, ys, e, h1, h0, h2, h3, h4, h5, fun i hi => by cases hi⟩
theorem rels_map_drop1 {g : Gh} : ∀ {vs : List AV} {xs : List Value}, rels g vs xs → rels g (vs.map AV.drop1) xs
  | [], xs, r => by simpa using r
  | a :: vs, xs, r => by
    obtain ⟨y, t, rfl, h2, h3⟩ := rels_cons_iff.1 r
    exact rels_cons_cons.2 ⟨rel_drop1 h2, rels_map_drop1 h3⟩
theorem rel_agg_drop1 {g : Gh} {cs : List AV} {x : Value} (h : rel g (.agg cs) x) : rel g (.agg (cs.map AV.drop1)) x := by
  simp only [rel] at h ⊢
  obtain ⟨ys, h1, h2, h3⟩ := h
  refine ⟨ys, h1, rels_map_drop1 h2, ?_⟩
  rw [List.all_map]
  rw [← h3]
  congr 1
  funext v
  exact drop1_scalar v
theorem rel_erase {g : Gh} {v : AV} {x : Value} (h : rel g v x) : rel g v.erase x := by
  cases v <;> try exact h
  case vs t xs => exact rel_drop1 h
  case agg cs => exact rel_agg_drop1 h
  case tuple xs =>
    simp only [AV.erase, rel] at h ⊢
    obtain ⟨ys, h1, h2⟩ := h
    refine ⟨ys, h1, ?_⟩
    clear h1
    induction xs generalizing ys with
    | nil => simpa using h2
    | cons a r ih =>
      obtain ⟨y, t, rfl, h3, h4⟩ := rels_cons_iff.1 h2
      refine rels_cons_cons.2 ⟨?_, ih t h4⟩
      cases a <;> first | exact rel_agg_drop1 h3 | exact rel_drop1 h3
theorem rels_map_erase {g : Gh} : ∀ {vs : List AV} {xs : List Value}, rels g vs xs → rels g (vs.map AV.erase) xs
  | [], xs, r => by simpa using r
  | a :: vs, xs, r => by
    obtain ⟨y, t, rfl, h2, h3⟩ := rels_cons_iff.1 r
    exact rels_cons_cons.2 ⟨rel_erase h2, rels_map_erase h3⟩

end Go.Ab

/- The abstract heap and the model's: how the one stands for the other, and what a change of the one does to the other. -/
namespace Go.Ab

inductive AObj where
  | cells (cs : List AV)
  | map (es : List (AV × AV))
  | tip
  | dead
  deriving Inhabited

abbrev Heap := Array Obj

def mrel (g : Gh) : List (AV × AV) → List MapEntry → Prop
  | [], l => l = []
  | (k, v) :: r, l => ∃ e t, l = e :: t ∧ rel g k e.key ∧ rel g v e.val ∧ mrel g r t

theorem mrel_le {g g' : Gh} (h : Le g g') : ∀ {es : List (AV × AV)} {l : List MapEntry}, mrel g es l → mrel g' es l
  | [], _, r => by simpa [mrel] using r
  | (k, v) :: es, l, r => by
    simp only [mrel] at r ⊢
    obtain ⟨e, t, h1, h2, h3, h4⟩ := r
    exact ⟨e, t, h1, rel_le h k _ h2, rel_le h v _ h3, mrel_le h h4⟩

def ORel (g : Gh) (h : Heap) : AObj → Loc → Prop
  | .cells cs, l => g.imm l.b = none ∧ cs.all AV.scalar = true ∧ ∃ c T ys, h[l.b]? = some (.cells c T (0, 0)) ∧ rels g cs ys ∧ ys <+: c.toList.drop l.o ∧ l.lim ≤ c.size ∧ l.o ≤ c.size
  | .map es, l => g.imm l.b = none ∧ ∃ c k, h[l.b]? = some (.map c k) ∧ mrel g es c.toList
  | .tip, l => ∃ L c T, g.imm l.b = some L ∧ L.length = l.o ∧ h[l.b]? = some (.cells c T (0, 0)) ∧ l.lim ≤ c.size
  | .dead, _ => True

def AObj.live : AObj → Prop
  | .dead => False
  | _ => True

structure WRel (g : Gh) (H : List AObj) (h : Heap) : Prop where
  len : g.obj.length = H.length
  bnd : ∀ l ∈ g.obj, l.b < h.size
  obj : ∀ (i : Nat) (o : AObj) (l : Loc), H[i]? = some o → g.obj[i]? = some l → ORel g h o l
  sep : ∀ (i j : Nat) (o o' : AObj) (l l' : Loc), H[i]? = some o → H[j]? = some o' → o.live → o'.live → g.obj[i]? = some l → g.obj[j]? = some l' → l.b = l'.b → i = j
  imm : ∀ (b : Nat) (L : List Value), g.imm b = some L → ∃ c T fr, h[b]? = some (.cells c T fr) ∧ L <+: c.toList

/-- A block that no ghost speaks of. -/
structure Priv (g : Gh) (h : Heap) (b : Nat) : Prop where
  lt : b < h.size
  imm : g.imm b = none
  obj : ∀ l ∈ g.obj, l.b ≠ b

/-- What may have become of ghost and heap: nothing private below B is touched. -/
structure Step (B : Nat) (g : Gh) (h : Heap) (g' : Gh) (h' : Heap) : Prop where
  le : Le g g'
  size : h.size ≤ h'.size
  priv : ∀ b, b < B → Priv g h b → Priv g' h' b ∧ h'[b]? = h[b]?

theorem Step.refl (B : Nat) (g : Gh) (h : Heap) : Step B g h g h := ⟨Le.refl g, Nat.le_refl _, fun _ _ p => ⟨p, rfl⟩⟩
theorem Step.trans {B : Nat} {g g1 g2 : Gh} {h h1 h2 : Heap} (a : Step B g h g1 h1) (b : Step B g1 h1 g2 h2) : Step B g h g2 h2 :=
  ⟨a.le.trans b.le, Nat.le_trans a.size b.size, fun x hx p => let ⟨p1, e1⟩ := a.priv x hx p; let ⟨p2, e2⟩ := b.priv x hx p1; ⟨p2, e2.trans e1⟩⟩
theorem Step.less {B B' : Nat} {g g' : Gh} {h h' : Heap} (a : Step B g h g' h') (hb : B' ≤ B) : Step B' g h g' h' := ⟨a.le, a.size, fun x hx p => a.priv x (by omega) p⟩
/-- A step that is good for all blocks there are is good for any bound. -/
theorem Step.all {B : Nat} {g g' : Gh} {h h' : Heap} (a : Step h.size g h g' h') : Step B g h g' h' := ⟨a.le, a.size, fun x _ p => a.priv x p.lt p⟩

/-- The same of worlds: nothing is told, and the machine's surroundings stay. -/
structure WStep (B : Nat) (g : Gh) (w : World) (g' : Gh) (w' : World) : Prop extends Step B g w.heap g' w'.heap where
  os : w'.os = w.os
  out : w'.output = w.output
theorem Step.w {B : Nat} {g g' : Gh} {w w' : World} (a : Step B g w.heap g' w'.heap) (h1 : w'.os = w.os) (h2 : w'.output = w.output) : WStep B g w g' w' := ⟨a, h1, h2⟩
theorem WStep.refl (B : Nat) (g : Gh) (w : World) : WStep B g w g w := ⟨Step.refl _ _ _, rfl, rfl⟩
theorem WStep.trans {B : Nat} {g g1 g2 : Gh} {w w1 w2 : World} (a : WStep B g w g1 w1) (b : WStep B g1 w1 g2 w2) : WStep B g w g2 w2 := ⟨a.toStep.trans b.toStep, b.os.trans a.os, b.out.trans a.out⟩
theorem WStep.less {B B' : Nat} {g g' : Gh} {w w' : World} (a : WStep B g w g' w') (hb : B' ≤ B) : WStep B' g w g' w' := ⟨a.toStep.less hb, a.os, a.out⟩
theorem WStep.all {B : Nat} {g g' : Gh} {w w' : World} (a : WStep w.heap.size g w g' w') : WStep B g w g' w' := ⟨a.toStep.all, a.os, a.out⟩

/-- Blocks that matter: a live object stands there, or cells that never change. -/
def Matters (g : Gh) (H : List AObj) (b : Nat) : Prop :=
  g.imm b ≠ none ∨ ∃ (i : Nat) (o : AObj) (l : Loc), H[i]? = some o ∧ o.live ∧ g.obj[i]? = some l ∧ l.b = b

theorem WRel.heap {g : Gh} {H : List AObj} {h h' : Heap} (W : WRel g H h) (hs : h.size ≤ h'.size)
    (he : ∀ b, Matters g H b → h'[b]? = h[b]?) : WRel g H h' where
  len := W.len
  bnd := fun l hl => Nat.lt_of_lt_of_le (W.bnd l hl) hs
  obj := fun i o l ho hl => by
    have r := W.obj i o l ho hl
    cases o with
    | dead => exact trivial
    | cells cs =>
      obtain ⟨h1, h0, c, T, ys, h2, h3⟩ := r
      exact ⟨h1, h0, c, T, ys, by rw [he _ (.inr ⟨i, _, l, ho, trivial, hl, rfl⟩)]; exact h2, h3⟩
    | map es =>
      obtain ⟨h1, c, k, h2, h3⟩ := r
      exact ⟨h1, c, k, by rw [he _ (.inr ⟨i, _, l, ho, trivial, hl, rfl⟩)]; exact h2, h3⟩
    | tip =>
      obtain ⟨L, c, T, h1, h2, h3, h4⟩ := r
      exact ⟨L, c, T, h1, h2, by rw [he _ (.inr ⟨i, _, l, ho, trivial, hl, rfl⟩)]; exact h3, h4⟩
  sep := W.sep
  imm := fun b L hb => by
    rw [he b (.inl (by simp [hb]))]
    exact W.imm b L hb

theorem get_set_ne {H : List AObj} {i j : Nat} {o x : AObj} (h : (H.set i x)[j]? = some o) (hne : j ≠ i) : H[j]? = some o := by
  rwa [List.getElem?_set_ne (Ne.symm hne)] at h

theorem WRel.kill {g : Gh} {H : List AObj} {h : Heap} (W : WRel g H h) (i : Nat) : WRel g (H.set i .dead) h where
  len := by simp [W.len]
  bnd := W.bnd
  obj := fun j o l ho hl => by
    by_cases e : j = i
    · subst e
      rw [List.getElem?_set] at ho
      simp at ho
      obtain ⟨_, rfl⟩ := ho
      trivial
    · exact W.obj j o l (get_set_ne ho e) hl
  sep := fun a b o o' l l' h1 h2 h3 h4 h5 h6 h7 => by
    have aux : ∀ (a : Nat) (o : AObj), (H.set i .dead)[a]? = some o → o.live → H[a]? = some o := by
      intro a o h1 h3
      by_cases e : a = i
      · subst e
        rw [List.getElem?_set] at h1
        simp at h1
        obtain ⟨_, rfl⟩ := h1
        exact h3.elim
      · exact get_set_ne h1 e
    exact W.sep a b o o' l l' (aux a o h1 h3) (aux b o' h2 h4) h3 h4 h5 h6 h7
  imm := W.imm

theorem matters_kill {g : Gh} {H : List AObj} {i b : Nat} (m : Matters g (H.set i .dead) b) :
    g.imm b ≠ none ∨ ∃ (j : Nat) (o : AObj) (l : Loc), j ≠ i ∧ H[j]? = some o ∧ o.live ∧ g.obj[j]? = some l ∧ l.b = b := by
  rcases m with m | ⟨j, o, l, h1, h2, h3, h4⟩
  · exact .inl m
  · refine .inr ⟨j, o, l, ?_, ?_, h2, h3, h4⟩
    · rintro rfl
      rw [List.getElem?_set] at h1
      simp at h1
      obtain ⟨_, rfl⟩ := h1
      exact h2.elim
    · refine get_set_ne h1 ?_
      rintro rfl
      rw [List.getElem?_set] at h1
      simp at h1
      obtain ⟨_, rfl⟩ := h1
      exact h2.elim

/-- An object takes the place of a dead one, where it stood. -/
theorem WRel.revive {g : Gh} {H : List AObj} {h : Heap} {i : Nat} {o : AObj} {l : Loc} (W : WRel g (H.set i .dead) h) (hi : i < H.length) (hl : g.obj[i]? = some l)
    (ho : ORel g h o l) (hs : ∀ (j : Nat) (o' : AObj) (l' : Loc), j ≠ i → H[j]? = some o' → o'.live → g.obj[j]? = some l' → l'.b ≠ l.b) : WRel g (H.set i o) h where
  len := by have := W.len; simpa using this
  bnd := W.bnd
  obj := fun j o' l' hj hl' => by
    by_cases e : j = i
    · subst e
      rw [List.getElem?_set] at hj
      simp [hi] at hj
      subst hj
      rw [hl] at hl'
      cases hl'
      exact ho
    · refine W.obj j o' l' ?_ hl'
      rw [List.getElem?_set_ne (Ne.symm e)]
      exact get_set_ne hj e
  sep := fun a b x y l1 l2 h1 h2 h3 h4 h5 h6 h7 => by
    by_cases ea : a = i
    · by_cases eb : b = i
      · rw [ea, eb]
      · subst ea
        rw [hl] at h5
        cases h5
        exact absurd h7.symm (hs b y l2 eb (get_set_ne h2 eb) h4 h6)
    · by_cases eb : b = i
      · subst eb
        rw [hl] at h6
        cases h6
        exact absurd h7 (hs a x l1 ea (get_set_ne h1 ea) h3 h5)
      · refine W.sep a b x y l1 l2 ?_ ?_ h3 h4 h5 h6 h7
        · rw [List.getElem?_set_ne (Ne.symm ea)]; exact get_set_ne h1 ea
        · rw [List.getElem?_set_ne (Ne.symm eb)]; exact get_set_ne h2 eb
  imm := W.imm

/-- A new object. -/
theorem WRel.adopt {g : Gh} {H : List AObj} {h : Heap} {o : AObj} {l : Loc} (W : WRel g H h) (hb : l.b < h.size)
    (ho : ORel { g with obj := g.obj ++ [l] } h o l) (hs : ∀ (j : Nat) (o' : AObj) (l' : Loc), H[j]? = some o' → o'.live → g.obj[j]? = some l' → l'.b ≠ l.b) :
    WRel { g with obj := g.obj ++ [l] } (H ++ [o]) h := by
  have le : Le g { g with obj := g.obj ++ [l] } := ⟨⟨_, rfl⟩, fun b L e => ⟨L, e, List.prefix_refl _⟩⟩
  have hlen := W.len
  have old : ∀ (j : Nat) (o' : AObj), (H ++ [o])[j]? = some o' → H[j]? = some o' ∧ j < H.length ∨ j = H.length ∧ o' = o := by
    intro j o' hj
    rw [List.getElem?_append] at hj
    split at hj
    · exact .inl ⟨hj, by assumption⟩
    · rename_i hlt
      have : j - H.length = 0 := by
        rcases Nat.lt_or_ge (j - H.length) 1 with h | h
        · omega
        · rw [List.getElem?_eq_none (by simpa using h)] at hj; cases hj
      refine .inr ⟨by omega, ?_⟩
      rw [this] at hj
      simpa using hj.symm
  have oldl : ∀ (j : Nat) (l' : Loc), j < H.length → (g.obj ++ [l])[j]? = some l' → g.obj[j]? = some l' := by
    intro j l' hj hl
    rwa [List.getElem?_append_left (by omega)] at hl
  have newl : ∀ (l' : Loc), (g.obj ++ [l])[H.length]? = some l' → l' = l := by
    intro l' hl
    rw [List.getElem?_append_right (by omega)] at hl
    simpa [hlen] using hl.symm
  refine ⟨by simp [hlen], ?_, ?_, ?_, ?_⟩
  · intro x hx
    rcases List.mem_append.1 hx with hx | hx
    · exact W.bnd x hx
    · simp at hx; subst hx; exact hb
  · intro j o' l' hj hl
    rcases old j o' hj with ⟨hj, hlt⟩ | ⟨rfl, rfl⟩
    · have r := W.obj j o' l' hj (oldl j l' hlt hl)
      cases o' with
      | dead => trivial
      | cells cs =>
        obtain ⟨h1, h0, c, T, ys, h2, h3, h4⟩ := r
        exact ⟨h1, h0, c, T, ys, h2, rels_le le _ _ h3, h4⟩
      | map es =>
        obtain ⟨h1, c, k, h2, h3⟩ := r
        exact ⟨h1, c, k, h2, mrel_le le h3⟩
      | tip => exact r
    · rw [newl l' hl]; exact ho
  · intro a b x y l1 l2 h1 h2 h3 h4 h5 h6 h7
    rcases old a x h1 with ⟨ha, hla⟩ | ⟨rfl, rfl⟩
    · rcases old b y h2 with ⟨hb', hlb⟩ | ⟨rfl, rfl⟩
      · exact W.sep a b x y l1 l2 ha hb' h3 h4 (oldl a l1 hla h5) (oldl b l2 hlb h6) h7
      · rw [newl l2 h6] at h7
        exact absurd h7 (hs a x l1 ha h3 (oldl a l1 hla h5))
    · rcases old b y h2 with ⟨hb', hlb⟩ | ⟨rfl, rfl⟩
      · rw [newl l1 h5] at h7
        exact absurd h7.symm (hs b y l2 hb' h4 (oldl b l2 hlb h6))
      · rfl
  · exact W.imm

def immSet (g : Gh) (b : Nat) (L : List Value) : Gh := { g with imm := fun x => if x = b then some L else g.imm x }

theorem immSet_le {g : Gh} {b : Nat} {L : List Value} (h : ∀ L0, g.imm b = some L0 → L0 <+: L) : Le g (immSet g b L) :=
  ⟨List.prefix_refl _, fun x L0 hx => by
    by_cases e : x = b
    · subst e; exact ⟨L, by simp [immSet], h L0 hx⟩
    · exact ⟨L0, by simp [immSet, e, hx], List.prefix_refl _⟩⟩

/-- More cells of a block never change any more; nothing live stands there. -/
theorem WRel.immset {g : Gh} {H : List AObj} {h : Heap} {b : Nat} {L : List Value} {c : Array Value} {T : TypeId} {fr : Nat × Nat} (W : WRel g H h)
    (hb : h[b]? = some (.cells c T fr)) (hL : L <+: c.toList) (h0 : ∀ L0, g.imm b = some L0 → L0 <+: L)
    (hs : ∀ (j : Nat) (o' : AObj) (l' : Loc), H[j]? = some o' → o'.live → g.obj[j]? = some l' → l'.b ≠ b) : WRel (immSet g b L) H h := by
  have le := immSet_le h0
  refine ⟨W.len, W.bnd, ?_, W.sep, ?_⟩
  · intro j o l ho hl
    have r := W.obj j o l ho hl
    cases o with
    | dead => trivial
    | cells cs =>
      have hne := hs j _ l ho trivial hl
      obtain ⟨h1, h0, c, T, ys, h2, h3, h4⟩ := r
      exact ⟨by simp [immSet, hne, h1], h0, c, T, ys, h2, rels_le le _ _ h3, h4⟩
    | map es =>
      have hne := hs j _ l ho trivial hl
      obtain ⟨h1, c, k, h2, h3⟩ := r
      exact ⟨by simp [immSet, hne, h1], c, k, h2, mrel_le le h3⟩
    | tip =>
      have hne := hs j _ l ho trivial hl
      obtain ⟨L, c, T, h1, h2⟩ := r
      exact ⟨L, c, T, by simp [immSet, hne, h1], h2⟩
  · intro x L1 hx
    by_cases e : x = b
    · subst e
      simp [immSet] at hx
      subst hx
      exact ⟨c, T, fr, hb, hL⟩
    · simp [immSet, e] at hx
      exact W.imm x L1 hx

theorem WRel.imm_lt {g : Gh} {H : List AObj} {h : Heap} (W : WRel g H h) {b : Nat} {L : List Value} (hb : g.imm b = some L) : b < h.size := by
  obtain ⟨c, T, fr, h1, _⟩ := W.imm b L hb
  exact (Array.getElem?_eq_some_iff.1 h1).1

theorem WRel.fresh {g : Gh} {H : List AObj} {h : Heap} (W : WRel g H h) (o : Obj) : Priv g (h.push o) h.size where
  lt := by simp
  imm := by
    cases e : g.imm h.size with
    | none => rfl
    | some L => exact absurd (W.imm_lt e) (by omega)
  obj := fun l hl e => absurd (W.bnd l hl) (by omega)

theorem push_old {h : Heap} {o : Obj} {b : Nat} (hb : b < h.size) : (h.push o)[b]? = h[b]? := by
  rw [Array.getElem?_push]; simp [Nat.ne_of_lt hb]

theorem WRel.push {g : Gh} {H : List AObj} {h : Heap} (W : WRel g H h) (o : Obj) : WRel g H (h.push o) := by
  refine W.heap (by simp) fun b m => push_old ?_
  rcases m with m | ⟨i, x, l, _, _, h3, rfl⟩
  · cases e : g.imm b with
    | none => exact absurd e m
    | some L => exact W.imm_lt e
  · exact W.bnd l (List.mem_of_getElem? h3)

theorem Step.push {B : Nat} {g : Gh} {h : Heap} (o : Obj) : Step B g h g (h.push o) :=
  ⟨Le.refl g, by simp, fun b _ p => ⟨⟨Nat.lt_of_lt_of_le p.lt (by simp), p.imm, p.obj⟩, push_old p.lt⟩⟩

/-- The general step. -/
theorem Step.of {B : Nat} {g g' : Gh} {h h' : Heap} (hl : Le g g') (hs : h.size ≤ h'.size)
    (ho : ∀ l ∈ g'.obj, l ∈ g.obj ∨ h.size ≤ l.b ∨ (∃ l0 ∈ g.obj, l0.b = l.b) ∨ g.imm l.b ≠ none)
    (hi : ∀ b, g'.imm b ≠ none → g.imm b ≠ none ∨ h.size ≤ b ∨ ∃ l0 ∈ g.obj, l0.b = b)
    (hh : ∀ b, b < B → Priv g h b → h'[b]? = h[b]?) : Step B g h g' h' := by
  refine ⟨hl, hs, fun b hb p => ⟨⟨Nat.lt_of_lt_of_le p.lt hs, ?_, ?_⟩, hh b hb p⟩⟩
  · cases e : g'.imm b with
    | none => rfl
    | some L =>
      rcases hi b (by simp [e]) with h1 | h1 | ⟨l, h1, h2⟩
      · exact absurd p.imm h1
      · exact absurd p.lt (by omega)
      · exact absurd h2 (p.obj l h1)
  · intro l hl' e
    rcases ho l hl' with h1 | h1 | ⟨l0, h1, h2⟩ | h1
    · exact p.obj l h1 e
    · have := p.lt; omega
    · exact p.obj l0 h1 (h2.trans e)
    · rw [e] at h1; exact h1 p.imm

end Go.Ab

/- The abstract machine's operations, and the check that ties them to the model's. -/
namespace Go.Ab

def look {β : Type} : List (Nat × β) → Nat → Option β
  | [], _ => none
  | (k, v) :: r, n => if k = n then some v else look r n
def put {β : Type} : List (Nat × β) → Nat → β → List (Nat × β)
  | [], n, v => [(n, v)]
  | (k, x) :: r, n, v => if k = n then (n, v) :: r else (k, x) :: put r n v
def keep {β : Type} : List Nat → List (Nat × β) → List (Nat × β)
  | [], _ => []
  | k :: l, e => match look e k with
    | some v => (k, v) :: keep l e
    | none => keep l e

theorem look_put {β : Type} (n m : Nat) (v : β) : ∀ (e : List (Nat × β)), look (put e n v) m = if n = m then some v else look e m
  | [] => by simp [put, look]
  | (k, x) :: r => by
    by_cases h : k = n
    · subst h
      by_cases h2 : k = m <;> simp [put, look, h2]
    · simp only [put, h, if_false, look, look_put n m v r]
      by_cases h2 : k = m
      · subst h2
        simp [Ne.symm h]
      · simp [h2]
theorem look_keep {β : Type} (n : Nat) (v : β) (e : List (Nat × β)) : ∀ (l : List Nat), look (keep l e) n = some v → look e n = some v
  | [], h => by simp [keep, look] at h
  | k :: l, h => by
    simp only [keep] at h
    split at h
    · rename_i x hx
      simp only [look] at h
      split at h
      · rename_i hk; subst hk; rw [hx]; exact h
      · exact look_keep n v e l h
    · exact look_keep n v e l h

/-- The frame's locals, and the heap. -/
structure AS where
  lo : List (Nat × List AV)
  hp : List AObj
  df : List (Nat × List AV) := []

inductive Opd where
  | t (n : Nat)
  | c (v : AV)

/-- Kinds of what is compared as it is: a whole number, a truth, a text. -/
inductive BK where
  | i | b | s
  deriving DecidableEq

/-- What '==' is asked of. -/
inductive TK where
  | num | bool | ptr | slice | map | func | iface | flat (ks : List BK)
  deriving DecidableEq

/-- What a length is asked of. -/
inductive LK where
  | s | l | m
  deriving DecidableEq

inductive AOp where
  | mv (x : Opd)
  | pick (c a b : Opd)
  | allocL (z : List AV)
  | allocH (z : List AV)
  | boxL (x : Opd)
  | boxH (x : Opd)
  | build (z : List AV) (ps : List (Nat × Nat × Opd))
  | bsl (e : Nat) (hk : Bool) (ps : List Opd)
  | ld (ag : Bool) (n : Nat) (x : Opd)
  | st (n : Nat) (x v : Opd)
  | nck (x : Opd)
  | bin (op : BinOp) (tk : TK) (x y : Opd)
  | un (op : UnOp) (x : Opd)
  | cvi (k : IntKind) (x : Opd)
  | fld (ag : Bool) (off n : Nat) (x : Opd)
  | fa (off : Nat) (x : Opd)
  | ixa (e : Nat) (x i : Opd)
  | ixs (x i : Opd)
  | sl (e : Nat) (x : Opd) (lo hi : Option Opd)
  | sls (x : Opd) (lo hi : Option Opd)
  | app (e bytes : Nat) (hk : Bool) (x y : Opd)
  | len (k : LK) (x : Opd)
  | mx (least : Bool) (x y : Opd)
  | mkmap
  | lkp (bk : BK) (z : AV) (ok : Bool) (m k : Opd)
  | mup (bk : BK) (m k v : Opd)
  | mkf (fn : Fn) (first caps : List Opd)
  | mki (t : Nat) (x : Opd)
  | tas (t : Nat) (z : AV) (ok : Bool) (x : Opd)
  | ext (x : Opd) (i : Nat)
  | mks (e bytes : Nat) (hk : Bool) (z : AV) (n : Opd)

/-- May a value stand in memory? -/
def AV.okv : AV → Bool
  | .undef | .skip | .lref .. | .tuple _ => false
  | _ => true

/-- Are all of them good for memory, and of so many cells? -/
def wid (e : Nat) (xs : List AV) : Bool := xs.all fun v => v.okv && v.cells.length == e

def splice (cs : List AV) (o : Nat) (vs : List AV) : List AV := cs.take o ++ vs ++ cs.drop (o + vs.length)

def fillA (cs : List AV) : List (Nat × Nat × AV) → Option (List AV)
  | [] => some cs
  | (off, n, v) :: r => if v.okv = true ∧ v.cells.length = n ∧ off + n ≤ cs.length then fillA (splice cs off v.cells) r else none

def sq : BK → AV → AV → Option Bool
  | .i, .int k a, .int k' b => if k = k' then some (a == b) else none
  | .b, .bool a, .bool b => some (a == b)
  | .s, .str a, .str b => some (a == b)
  | _, _, _ => none
def sqs : List BK → List AV → List AV → Option Bool
  | [], [], [] => some true
  | k :: ks, x :: xs, y :: ys => match sq k x y with
    | some true => sqs ks xs ys
    | some false => some false
    | none => none
  | _, _, _ => none

def eqA : TK → AV → AV → Option Bool
  | .num, .int k a, .int k' b => if k = k' then some (a == b) else none
  | .num, .str a, .str b => some (a == b)
  | .bool, .bool a, .bool b => some (a == b)
  | .ptr, .nilp, .nilp => some true
  | .ptr, .nilp, .ptr .. | .ptr, .ptr .., .nilp | .ptr, .nilp, .cp _ | .ptr, .cp _, .nilp => some false
  | .slice, .nils, .nils => some true
  | .slice, .nils, .vs .. | .slice, .vs .., .nils | .slice, .nils, .hs .. | .slice, .hs .., .nils => some false
  | .map, .nilm, .nilm => some true
  | .map, .nilm, .map _ | .map, .map _, .nilm => some false
  | .func, .nilf, .nilf => some true
  | .func, .nilf, .func .. | .func, .func .., .nilf => some false
  | .iface, .nili, .nili => some true
  | .iface, .nili, .iface .. | .iface, .iface .., .nili => some false
  | .flat ks, .agg xs, .agg ys => if xs.length = ks.length ∧ ys.length = ks.length then sqs ks xs ys else none
  | _, _, _ => none

def binA (op : BinOp) (tk : TK) (x y : AV) : Option AV :=
  match op with
  | .eql => (eqA tk x y).map .bool
  | .neq => (eqA tk x y).map fun b => .bool !b
  | op => match x, y with
    | .int k a, .int k' b =>
      match op with
      | .shl => if b < 0 then none else some (.int k (k.wrap (a * 2 ^ min b.toNat k.bits)))
      | .shr => if b < 0 then none else some (.int k (a.fdiv (2 ^ min b.toNat k.bits)))
      | op => if k = k' then match op with
        | .add => some (.int k (k.wrap (a + b)))
        | .sub => some (.int k (k.wrap (a - b)))
        | .mul => some (.int k (k.wrap (a * b)))
        | .quo => if b = 0 then none else some (.int k (k.wrap (a.tdiv b)))
        | .rem => if b = 0 then none else some (.int k (a.tmod b))
        | .and => some (.int k (k.wrap (BitVec.ofInt k.bits a &&& BitVec.ofInt k.bits b).toNat))
        | .or => some (.int k (k.wrap (BitVec.ofInt k.bits a ||| BitVec.ofInt k.bits b).toNat))
        | .xor => some (.int k (k.wrap (BitVec.ofInt k.bits a ^^^ BitVec.ofInt k.bits b).toNat))
        | .lss => some (.bool (decide (a < b)))
        | .leq => some (.bool (decide (a ≤ b)))
        | .gtr => some (.bool (decide (a > b)))
        | .geq => some (.bool (decide (a ≥ b)))
        | _ => none
        else none
    | .str a, .str b => match op with
      | .add => if a.length + b.length ≤ 2 ^ 62 then some (.str (a ++ b)) else none
      | _ => none
    | _, _ => none

def unA (op : UnOp) : AV → Option AV
  | .bool b => match op with | .not => some (.bool !b) | _ => none
  | .int k n => match op with
    | .neg => some (.int k (k.wrap (0 - n)))
    | _ => none
  | _ => none

def loadA (S : AS) (n : Nat) : AV → Option (List AV)
  | .ptr i o => match S.hp[i]? with
    | some (.cells cs) => if o + n ≤ cs.length then some ((cs.drop o).take n) else none
    | _ => none
  | .cp cs => if n ≤ cs.length then some (cs.take n) else none
  | .lref s o => match look S.lo s with
    | some cs => if o + n ≤ cs.length then some ((cs.drop o).take n) else none
    | none => none
  | _ => none

/-- Cells as one value. -/
def joinA (ag : Bool) (cs : List AV) : Option AV :=
  if ag then some (.agg cs) else match cs with
    | [v] => some v
    | _ => none

def storeA (S : AS) (n : Nat) (x v : AV) : Option AS :=
  if v.okv = true ∧ v.cells.length = n then match x with
    | .ptr i o => match S.hp[i]? with
      | some (.cells cs) => if o + n ≤ cs.length then some { S with hp := S.hp.set i (.cells (splice cs o v.cells)) } else none
      | _ => none
    | .lref s o => match look S.lo s with
      | some cs => if o + n ≤ cs.length then some { S with lo := put S.lo s (splice cs o v.cells) } else none
      | none => none
    | _ => none
  else none

def faA (off : Nat) : AV → Option AV
  | .ptr i o => some (.ptr i (o + off))
  | .cp cs => if off ≤ cs.length then some (.cp (cs.drop off)) else none
  | .lref s o => some (.lref s (o + off))
  | _ => none

def ixaA (e : Nat) (x i : AV) : Option AV :=
  match i with
  | .int _ n => match x with
    | .vs _ xs => if 0 ≤ n then match xs[n.toNat]? with
      | some v => if v.okv = true ∧ v.cells.length = e then some (.cp v.cells) else none
      | none => none
      else none
    | .hs j e' o len => if e' = e ∧ 0 ≤ n ∧ n < len then some (.ptr j (o + n.toNat * e)) else none
    | _ => none
  | _ => none

def ixsA (x i : AV) : Option AV :=
  match x, i with
  | .str s, .int _ n => if 0 ≤ n then match s[n.toNat]? with
    | some b => some (.int .u8 b.toNat)
    | none => none
    else none
  | _, _ => none

/-- The bounds of a slice expression. -/
def bndA (len : Nat) (lo hi : Option AV) : Option (Nat × Nat) :=
  match hi with
  | none => match lo with
    | none => some (0, len)
    | some (.int _ l) => if 0 ≤ l ∧ l ≤ len then some (l.toNat, len) else none
    | _ => none
  | some (.int _ h) => if 0 ≤ h ∧ h ≤ len then match lo with
    | none => some (0, h.toNat)
    | some (.int _ l) => if 0 ≤ l ∧ l ≤ h then some (l.toNat, h.toNat) else none
    | _ => none
    else none
  | _ => none

def slsA (x : AV) (lo hi : Option AV) : Option AV :=
  match x with
  | .str s => match bndA s.length lo hi with
    | some (l, h) => some (.str ((s.take h).drop l))
    | none => none
  | _ => none

def slA (e : Nat) (x : AV) (lo hi : Option AV) : Option AV :=
  match x with
  | .nils => match bndA 0 lo hi with
    | some _ => some .nils
    | none => none
  | .vs t xs => match bndA xs.length lo hi with
    | some (l, h) => if wid e xs = true then some (.vs (if h = xs.length ∧ l < h then t else none) ((xs.take h).drop l)) else none
    | none => none
  | .hs i e' o n => match bndA n lo hi with
    | some (l, h) => if e' = e ∧ (l = 0 ∨ l < h) then some (.hs i e (o + l * e) (h - l)) else none
    | none => none
  | _ => none

/-- What a slice, or a text, has to be appended: its elements, each of so many cells. -/
def elemsA (S : AS) (e : Nat) : AV → Option (List AV)
  | .nils => some []
  | .vs _ xs => if wid e xs = true then some xs else none
  | .hs i e' o n => if e' = e then match S.hp[i]? with
    | some (.cells cs) => if o + n * e ≤ cs.length ∧ e = 1 then some ((cs.drop o).take n) else none
    | _ => none
    else none
  | _ => none

/-- The same, as cells. -/
def cellsA (S : AS) (e : Nat) : AV → Option (Nat × List AV)
  | .nils => some (0, [])
  | .vs _ xs => if wid e xs = true then some (xs.length, xs.flatMap AV.cells) else none
  | .hs i e' o n => if e' = e then match S.hp[i]? with
    | some (.cells cs) => if o + n * e ≤ cs.length then some (n, (cs.drop o).take (n * e)) else none
    | _ => none
    else none
  | _ => none

def roomA : Nat := 2 ^ 45

def appA (S : AS) (e bytes : Nat) (hk : Bool) (x y : AV) : Option (AV × AS) :=
  if hk then match cellsA S e y with
    | none => none
    | some (m, cs) => match x with
      | .nils => if m = 0 then some (.nils, S) else if m * bytes ≤ roomA then some (.hs S.hp.length e 0 m, { S with hp := S.hp ++ [.cells (cs.map AV.drop1)] }) else none
      | .hs i e' o n => if e' = e ∧ (n + m) * bytes ≤ roomA then match S.hp[i]? with
        | some (.cells old) => if o + n * e ≤ old.length ∧ o = 0 then
            some (.hs S.hp.length e 0 (n + m), { S with hp := S.hp.set i .dead ++ [.cells (old.take (n * e) ++ cs.map AV.drop1)] }) else none
        | _ => none
        else none
      | _ => none
  else match elemsA S e y with
    | none => none
    | some ys => match x with
      | .nils => if ys = [] then some (.nils, S) else if ys.length * bytes ≤ roomA then some (.vs (some S.hp.length) (ys.map AV.erase), { S with hp := S.hp ++ [.tip] }) else none
      | .vs (some t) xs => if (xs.length + ys.length) * bytes ≤ roomA ∧ wid e xs = true then match S.hp[t]? with
        | some .tip => some (.vs (some S.hp.length) (xs ++ ys.map AV.erase), { S with hp := S.hp.set t .dead ++ [.tip] })
        | _ => none
        else none
      | _ => none

def lenA (S : AS) : LK → AV → Option Nat
  | .s, .str s => some s.length
  | .l, .nils => some 0
  | .l, .vs _ xs => some xs.length
  | .l, .hs _ _ _ n => some n
  | .m, .nilm => some 0
  | .m, .map i => match S.hp[i]? with
    | some (.map es) => some es.length
    | _ => none
  | _, _ => none

/-- Where a key stands, and what it has. -/
def findA (bk : BK) (k : AV) : List (AV × AV) → Option (Option AV)
  | [] => some none
  | (a, v) :: r => match sq bk k a with
    | some true => some (some v)
    | some false => findA bk k r
    | none => none
def setA (bk : BK) (k v : AV) : List (AV × AV) → Option (List (AV × AV))
  | [] => some [(k, v)]
  | (a, x) :: r => match sq bk k a with
    | some true => some ((k, v) :: r)
    | some false => match setA bk k v r with
      | some r => some ((a, x) :: r)
      | none => none
    | none => none

def AV.key : BK → AV → Bool
  | .i, .int .. | .s, .str _ | .b, .bool _ => true
  | _, _ => false

def astep (ρ : Opd → AV) (d : Option Nat) (S : AS) : AOp → Option (AV × AS)
  | .mv x => some (ρ x, S)
  | .pick c a b => match ρ c with
    | .bool t => some (if t then ρ a else ρ b, S)
    | _ => none
  | .allocL z => match d with
    | some s => some (.lref s 0, { S with lo := put S.lo s z })
    | none => none
  | .allocH z => some (.ptr S.hp.length 0, { S with hp := S.hp ++ [.cells z] })
  | .boxL x => match d with
    | some s => if (ρ x).okv = true then some (.lref s 0, { S with lo := put S.lo s (ρ x).cells }) else none
    | none => none
  | .boxH x => if (ρ x).okv = true then some (.ptr S.hp.length 0, { S with hp := S.hp ++ [.cells (ρ x).cells] }) else none
  | .build z ps => match fillA z (ps.map fun (o, n, x) => (o, n, ρ x)) with
    | some cs => some (.agg cs, S)
    | none => none
  | .bsl e hk ps =>
    let vs := ps.map ρ
    if wid e vs = true then
      if hk then some (.hs S.hp.length e 0 vs.length, { S with hp := S.hp ++ [.cells ((vs.flatMap AV.cells).map AV.drop1)] })
      else if vs = [] then some (.vs none [], S) else some (.vs (some S.hp.length) (vs.map AV.erase), { S with hp := S.hp ++ [.tip] })
    else none
  | .ld ag n x => match loadA S n (ρ x) with
    | some cs => match joinA ag cs with
      | some v => some (v, S)
      | none => none
    | none => none
  | .st n x v => match storeA S n (ρ x) (ρ v) with
    | some S' => some (.skip, S')
    | none => none
  | .nck x => match ρ x with
    | .ptr i o => some (.ptr i o, S)
    | .cp cs => some (.cp cs, S)
    | .lref s o => some (.lref s o, S)
    | _ => none
  | .bin op tk x y => match binA op tk (ρ x) (ρ y) with
    | some v => some (v, S)
    | none => none
  | .un op x => match unA op (ρ x) with
    | some v => some (v, S)
    | none => none
  | .cvi k x => match ρ x with
    | .int _ n => some (.int k (k.wrap n), S)
    | _ => none
  | .fld ag off n x => match ρ x with
    | .agg cs => if off + n ≤ cs.length then match joinA ag ((cs.drop off).take n) with
      | some v => some (v, S)
      | none => none
      else none
    | _ => none
  | .fa off x => match faA off (ρ x) with
    | some v => some (v, S)
    | none => none
  | .ixa e x i => match ixaA e (ρ x) (ρ i) with
    | some v => some (v, S)
    | none => none
  | .ixs x i => match ixsA (ρ x) (ρ i) with
    | some v => some (v, S)
    | none => none
  | .sl e x lo hi => match slA e (ρ x) (lo.map ρ) (hi.map ρ) with
    | some v => some (v, S)
    | none => none
  | .sls x lo hi => match slsA (ρ x) (lo.map ρ) (hi.map ρ) with
    | some v => some (v, S)
    | none => none
  | .app e b hk x y => appA S e b hk (ρ x) (ρ y)
  | .len k x => match lenA S k (ρ x) with
    | some n => some (.int .i64 n, S)
    | none => none
  | .mx least x y => match ρ x, ρ y with
    | .int k a, .int k' b => if k = k' then some (.int k (if least then min a b else max a b), S) else none
    | _, _ => none
  | .mkmap => some (.map S.hp.length, { S with hp := S.hp ++ [.map []] })
  | .lkp bk z ok m k => if AV.key bk (ρ k) = true then match (match ρ m with
      | .nilm => some none
      | .map i => match S.hp[i]? with
        | some (.map es) => findA bk (ρ k) es
        | _ => none
      | _ => none) with
    | some r => let v := r.getD z; some (if ok then .tuple [v, .bool r.isSome] else v, S)
    | none => none
    else none
  | .mup bk m k v => if AV.key bk (ρ k) = true ∧ (ρ v).proper = true then match ρ m with
    | .map i => match S.hp[i]? with
      | some (.map es) => match setA bk (ρ k) (ρ v) es with
        | some es' => some (.skip, { S with hp := S.hp.set i (.map es') })
        | none => none
      | _ => none
    | _ => none
    else none
  | .mkf fn first caps => if (first.map ρ).all AV.proper ∧ (caps.map ρ).all AV.proper then some (.func fn (first.map ρ) (caps.map ρ), S) else none
  | .mki t x => if (ρ x).proper = true then some (.iface t (ρ x), S) else none
  | .tas t z ok x => match ρ x with
    | .iface u v => if u = t then some (if ok then .tuple [v, .bool true] else v, S) else if ok then some (.tuple [z, .bool false], S) else none
    | .nili => if ok then some (.tuple [z, .bool false], S) else none
    | _ => none
  | .ext x i => match ρ x with
    | .tuple vs => match vs[i]? with
      | some v => some (v, S)
      | none => none
    | _ => none
  | .mks e b hk z n => match ρ n with
    | .int k m => if 0 ≤ m ∧ m * b ≤ (roomA : Int) ∧ k = .i64 ∧ m < 2 ^ 62 then
        if hk then some (.hs S.hp.length e 0 m.toNat, { S with hp := S.hp ++ [.cells ((List.replicate m.toNat z).flatMap AV.cells)] })
        else if m = 0 then some (.vs none [], S) else some (.vs (some S.hp.length) (List.replicate m.toNat z), { S with hp := S.hp ++ [.tip] })
      else none
    | _ => none

/-- A constant: whatever the ghost, it stands for the value. -/
def const1 : AV → Value → Bool
  | .bool b, .bool c => b == c
  | .int k n, .int k' n' => k == k' && n == n'
  | .str s, .string t => s == t.data.toList
  | .nilp, .pointer none => true
  | .nils, .slice none 0 0 => true
  | .nilm, .map none => true
  | .nilf, .nilFunc => true
  | .nili, .nilIface => true
  | _, _ => false
def consts : List AV → List Value → Bool
  | [], [] => true
  | a :: as, x :: xs => const1 a x && consts as xs
  | _, _ => false
def constOk : AV → Value → Bool
  | .agg cs, .agg xs => consts cs xs.toList
  | .func (.func f) [] [], .func (.func f') a b => f == f' && a.isEmpty && b.isEmpty
  | a, x => const1 a x

def Opd.ok : Opd → Operand → Bool
  | .t n, .tmp m => n == m
  | .c v, .const x => constOk v x
  | .c (.func (.func f) [] []), .func f' => f == f'
  | _, _ => false
def Opd.oks : List Opd → List Operand → Bool
  | [], [] => true
  | a :: as, x :: xs => a.ok x && Opd.oks as xs
  | _, _ => false
def Opd.okO : Option Opd → Option Operand → Bool
  | none, none => true
  | some a, some x => a.ok x
  | _, _ => false

def aggB (P : Program) (t : TypeId) : Option Bool :=
  match P.underlying t with
  | some (.struct _) | some (.array ..) => some true
  | some _ => some false
  | none => none
def sizeB (P : Program) (t : TypeId) : Option Nat := (P.info? t).map (·.size)
def bytesB (P : Program) (t : TypeId) : Option Nat := (P.info? t).map (·.bytes)
def zeroB (P : Program) (t : TypeId) (z : List AV) : Bool :=
  match (P.info? t).bind (·.zero) with
  | some v => consts z v.cells.toList
  | none => false
def zero1 (P : Program) (t : TypeId) (z : AV) : Bool :=
  match (P.info? t).bind (·.zero) with
  | some v => constOk z v
  | none => false
def sliceB (P : Program) (t : TypeId) : Option TypeId :=
  match P.underlying t with
  | some (.slice e) => some e
  | _ => none

/-- A struct's field of basic kind, at its place. -/
def bkB (P : Program) (t : TypeId) : BK → Bool
  | .b => match P.underlying t with | some .bool => true | _ => false
  | .i => match P.underlying t with | some (.int _) => true | _ => false
  | .s => match P.underlying t with | some .string => true | _ => false
def flats (P : Program) : Nat → List Field → List BK → Bool
  | _, [], [] => true
  | i, f :: fs, k :: ks => f.name != "_" && f.offset == i && bkB P f.type k && flats P (i + 1) fs ks
  | _, _, _ => false
def flatB (P : Program) (t : TypeId) (ks : List BK) : Bool :=
  match P.underlying t with
  | some (.struct fs) => flats P 0 fs.toList ks && !P.stoodInHeld t && !P.eqGuardType P.depth t
  | _ => false
def tkB (P : Program) : TK → TypeId → Bool
  | .num, t => match P.underlying t with | some (.int _) | some .string => true | _ => false
  | .bool, t => match P.underlying t with | some .bool => true | _ => false
  | .ptr, t => match P.underlying t with | some (.pointer _) => true | _ => false
  | .slice, t => match P.underlying t with | some (.slice _) => true | _ => false
  | .map, t => match P.underlying t with | some (.map ..) => true | _ => false
  | .func, t => match P.underlying t with | some (.func ..) => true | _ => false
  | .iface, t => match P.underlying t with | some (.interface ms) => ms.isEmpty | _ => false
  | .flat ks, t => flatB P t ks

def parts (P : Program) (fs : Array Field) : List (Nat × Nat × Opd) → List (Nat × Operand) → Bool
  | [], [] => true
  | (off, n, x) :: r, (i, y) :: s => (match fs[i]? with
    | some f => f.offset == off && sizeB P f.type == some n
    | none => false) && x.ok y && parts P fs r s
  | _, _ => false
def elems : Nat → List Opd → List (Nat × Operand) → Bool
  | _, [], [] => true
  | k, x :: r, (i, y) :: s => i == k && x.ok y && elems (k + 1) r s
  | _, _, _ => false

def fieldB (P : Program) (t : TypeId) (i : Nat) : Option Field :=
  match P.underlying t with
  | some (.struct fs) => fs[i]?
  | _ => none

def builtinB (o : Oper) (b : Builtin) (n : Nat) : Option (Array Operand × Array TypeId) :=
  match o.op with
  | .call { callee := .builtin b', args, argTypes } => if b' = b ∧ args.size = n ∧ argTypes.size = n then some (args, argTypes) else none
  | _ => none

def chkOp (P : Program) (ao : AOp) (o : Oper) : Bool :=
  match ao with
  | .mv x => match o.op with
    | .move y | .assign y => x.ok y
    | _ => false
  | .pick c a b => match o.op with
    | .pick c' a' b' => c.ok c' && a.ok a' && b.ok b'
    | _ => false
  | .allocL z | .allocH z => match o.op with
    | .alloc t => zeroB P t z
    | _ => false
  | .boxL x | .boxH x => match o.op with
    | .box _ y => x.ok y
    | _ => false
  | .build z ps => match o.op with
    | .build t qs => (match P.underlying t with
      | some (.struct fs) => fs.all (fun f => (sizeB P f.type).isSome) && parts P fs ps qs.toList
      | _ => false) && zeroB P t z
    | _ => false
  | .bsl e _ ps => match o.op with
    | .buildSlice t len qs => (match sliceB P t with
      | some el => sizeB P el == some e && (P.info? el).any (fun i => i.zero.any (fun v => v.cells.size == e)) && decide (len * e ≤ 2 ^ 24)
      | none => false) && elems 0 ps qs.toList && len == ps.length && decide (0 < e)
    | _ => false
  | .ld ag n x => match o.op with
    | .load t y => aggB P t == some ag && sizeB P t == some n && x.ok y
    | _ => false
  | .st n x v => match o.op with
    | .store t y z => sizeB P t == some n && x.ok y && v.ok z
    | _ => false
  | .nck x => match o.op with
    | .nilCheck y => x.ok y
    | _ => false
  | .bin op tk x y => match o.op with
    | .binOp op' t x' y' _ => op == op' && tkB P tk t && x.ok x' && y.ok y'
    | _ => false
  | .un op x => match o.op with
    | .unOp op' _ y => op == op' && x.ok y
    | _ => false
  | .cvi k x => match o.op with
    | .convert s t y => (P.underlying s).isSome && (match P.underlying t with | some (.int k') => k == k' | _ => false) && x.ok y
    | _ => false
  | .fld ag off n x => match o.op with
    | .field t y i => (match fieldB P t i with
      | some f => f.offset == off && aggB P f.type == some ag && sizeB P f.type == some n
      | none => false) && x.ok y
    | _ => false
  | .fa off x => match o.op with
    | .fieldAddr t y i => (match fieldB P t i with
      | some f => f.offset == off && (match sizeB P f.type with | some n => n != 0 | none => false)
      | none => false) && x.ok y
    | _ => false
  | .ixa e x i => match o.op with
    | .indexAddr t y j => (match sliceB P t with
      | some el => sizeB P el == some e
      | none => false) && x.ok y && i.ok j
    | _ => false
  | .ixs x i => match o.op with
    | .index t y j => (match P.underlying t with | some .string => true | _ => false) && x.ok y && i.ok j
    | _ => false
  | .sl e x lo hi => match o.op with
    | .slice t y lo' hi' mx => (match sliceB P t with
      | some el => sizeB P el == some e
      | _ => false) && x.ok y && Opd.okO lo lo' && Opd.okO hi hi' && mx.isNone
    | _ => false
  | .sls x lo hi => match o.op with
    | .slice t y lo' hi' mx => (match P.underlying t with | some .string => true | _ => false) && x.ok y && Opd.okO lo lo' && Opd.okO hi hi' && mx.isNone
    | _ => false
  | .app e b _ x y => match builtinB o .append 2 with
    | some (as, ts) => (match as[0]?, as[1]? with | some x', some y' => x.ok x' && y.ok y' | _, _ => false) && (match ts[0]?, ts[1]? with
      | some t, some u => (match sliceB P t with
        | some el => sizeB P el == some e && bytesB P el == some b && (P.info? el).any (fun i => i.zero.any (fun v => v.cells.size == e)) && decide (0 < e) && decide (0 < b)
        | none => false) && (sliceB P u).isSome
      | _, _ => false)
    | none => false
  | .len k x => match builtinB o .len 1 with
    | some (as, ts) => (match as[0]?, ts[0]? with
      | some y, some t => x.ok y && (match k, P.underlying t with | .s, some .string | .l, some (.slice _) | .m, some (.map ..) => true | _, _ => false)
      | _, _ => false)
    | none => false
  | .mx least x y => match builtinB o (if least then .min else .max) 2 with
    | some (as, ts) => (match as[0]?, as[1]? with | some x', some y' => x.ok x' && y.ok y' | _, _ => false) && (match ts[0]?, ts[1]? with
      | some t, some u => (P.underlying t).isSome && (P.underlying u).isSome
      | _, _ => false)
    | none => false
  | .mkmap => match o.op with
    | .makeMap _ none => true
    | _ => false
  | .lkp bk z ok m k => match o.op with
    | .lookup t m' k' ok' => (match P.underlying t with
      | some (.map kt et) => bkB P kt bk && zero1 P et z
      | _ => false) && ok == ok' && m.ok m' && k.ok k'
    | _ => false
  | .mup bk m k v => match o.op with
    | .mapUpdate t m' k' v' => (match P.underlying t with
      | some (.map kt _) => bkB P kt bk
      | _ => false) && m.ok m' && k.ok k' && v.ok v'
    | _ => false
  | .mkf fn first caps => match o.op with
    | .makeFunc fn' a b => decide (fn = fn') && Opd.oks first a.toList && Opd.oks caps b.toList
    | _ => false
  | .mki t x => match o.op with
    | .makeInterface t' y => t == t' && (match P.underlying t with | some (.interface _) => false | some _ => true | none => false) && x.ok y
    | _ => false
  | .tas t z ok x => match o.op with
    | .typeAssert y _ t' ok' => t == t' && ok == ok' && (match P.underlying t with | some (.interface _) => false | some _ => true | none => false) && zero1 P t z && x.ok y
    | _ => false
  | .ext x i => match o.op with
    | .extract y j => x.ok y && i == j
    | _ => false
  | .mks e b _ z n => match o.op with
    | .makeSlice t y y' => (match sliceB P t with
      | some el => sizeB P el == some e && bytesB P el == some b && zero1 P el z && z.cells.length == e && decide (0 < e)
      | none => false) && n.ok y && n.ok y'
    | _ => false

end Go.Ab

/- The operations that make nothing and change nothing: what the abstract machine says, the model does. -/
namespace Go.Ab

def relT (g : Gh) (blk : Nat → Option Nat) (v : AV) (x : Value) : Prop :=
  match v with
  | .undef => True
  | .skip => x = Go.undef
  | .lref s o => ∃ b, blk s = some b ∧ x = .pointer (some ⟨b, o, none⟩)
  | v => rel g v x

structure SRel (B : Nat) (g : Gh) (blk : Nat → Option Nat) (h : Heap) (S : AS) : Prop where
  base : B ≤ h.size
  W : WRel g S.hp h
  loc : ∀ (s : Nat) (cs : List AV), look S.lo s = some cs → cs.all AV.scalar = true ∧ ∃ b c T, blk s = some b ∧ Priv g h b ∧ h[b]? = some (.cells c T (0, 0)) ∧ rels g cs c.toList ∧ B ≤ b
  inj : ∀ (s s' b : Nat), (look S.lo s).isSome = true → (look S.lo s').isSome = true → blk s = some b → blk s' = some b → s = s'

def Res (B : Nat) (g : Gh) (blk : Nat → Option Nat) (w : World) (d : Option Nat) (S' : AS) (v : AV) (r : Result Next) : Prop :=
  ∃ n y w' g' blk', r = .ok n w' ∧ (n = .value y ∨ (n = .skip ∧ y = Go.undef)) ∧ SRel B g' blk' w'.heap S' ∧ WStep B g w g' w' ∧ relT g' blk' v y ∧ (blk' = blk ∨ ∃ s, d = some s ∧ v = .lref s 0 ∧ ∀ x, x ≠ s → blk' x = blk x)

section
variable {B : Nat} {P : Program} {g : Gh} {blk : Nat → Option Nat} {w : World} {S S' : AS} {ρ : Opd → AV} {ρ' : Operand → Value} {d : Option Nat} {o : Oper} {v : AV}

theorem relT_of {v : AV} {x : Value} (h : rel g v x) : relT g blk v x := by
  cases v <;> first | exact h | (simp only [rel] at h)
theorem relT_okv {v : AV} {x : Value} (h : relT g blk v x) (hv : v.okv = true) : rel g v x := by
  cases v <;> first | exact h | (simp [AV.okv] at hv)
theorem relT_proper {v : AV} {x : Value} (h : relT g blk v x) (hv : v.proper = true) : rel g v x := by
  cases v <;> first | exact h | (simp [AV.proper] at hv)

theorem Res.value {y : Value} (hS : SRel B g blk w.heap S) (h : relT g blk v y) : Res B g blk w d S v (.ok (.value y) w) :=
  ⟨_, y, w, g, blk, rfl, .inl rfl, hS, WStep.refl _ _ _, h, .inl rfl⟩

/-- Locals stay, whatever is done to the heap beside them. -/
theorem SRel.step {g' : Gh} {h h' : Heap} {H' : List AObj} (hS : SRel B g blk h S) (W : WRel g' H' h') (st : Step h.size g h g' h') : SRel B g' blk h' { S with hp := H' } where
  base := Nat.le_trans hS.base st.size
  W := W
  loc := fun s cs e => by
    obtain ⟨h0, b, c, T, h1, h2, h3, h4, h5⟩ := hS.loc s cs e
    obtain ⟨p, e'⟩ := st.priv b h2.lt h2
    exact ⟨h0, b, c, T, h1, p, by rw [e']; exact h3, rels_le st.le _ _ h4, h5⟩
  inj := hS.inj

theorem const1_rel {a : AV} {x : Value} (h : const1 a x = true) : rel g a x := by
  unfold const1 at h
  split at h <;> simp_all [rel]
  all_goals first
    | (rename_i t; cases t; rename_i d; cases d; simp_all)
theorem const1_scalar {a : AV} {x : Value} (h : const1 a x = true) : a.scalar = true := by
  unfold const1 at h
  split at h <;> simp_all [AV.scalar]
theorem consts_rels : ∀ {as : List AV} {xs : List Value}, consts as xs = true → rels g as xs
  | [], [], _ => by simp
  | a :: as, x :: xs, h => by
    simp only [consts, Bool.and_eq_true] at h
    exact rels_cons_cons.2 ⟨const1_rel h.1, consts_rels h.2⟩
  | [], _ :: _, h => by simp [consts] at h
  | _ :: _, [], h => by simp [consts] at h
theorem consts_scalar : ∀ {as : List AV} {xs : List Value}, consts as xs = true → as.all AV.scalar = true
  | [], [], _ => by simp
  | a :: as, x :: xs, h => by
    simp only [consts, Bool.and_eq_true] at h
    simp only [List.all_cons, Bool.and_eq_true]
    exact ⟨const1_scalar h.1, consts_scalar h.2⟩
  | [], _ :: _, h => by simp [consts] at h
  | _ :: _, [], h => by simp [consts] at h
theorem constOk_rel {a : AV} {x : Value} (h : constOk a x = true) : rel g a x := by
  unfold constOk at h
  split at h
  · rename_i cs xs
    simp only [rel]
    exact ⟨xs.toList, by simp, consts_rels h, consts_scalar h⟩
  · rename_i f f' a b
    simp only [Bool.and_eq_true, beq_iff_eq] at h
    obtain ⟨⟨rfl, h2⟩, h3⟩ := h
    simp only [Array.isEmpty_iff] at h2 h3
    subst h2; subst h3
    simp [rel]
  · exact const1_rel h

theorem run_info {t : TypeId} {i : TypeInfo} (h : P.info? t = some i) (w : World) : (typeInfo t).run P w = .ok i w := by
  simp [typeInfo, h]
theorem run_und {t : TypeId} {x : TypeDesc} (h : P.underlying t = some x) (w : World) : (underlying t).run P w = .ok x w := by
  simp [underlying, h]
theorem run_size {t n : Nat} (h : sizeB P t = some n) (w : World) : (sizeOf t).run P w = .ok n w := by
  unfold sizeB at h
  cases e : P.info? t with
  | none => simp [e] at h
  | some i => simp [e] at h; simp [sizeOf, run_info e, h]
theorem run_agg {t : Nat} {b : Bool} (h : aggB P t = some b) (w : World) : (isAgg t).run P w = .ok b w := by
  unfold aggB at h
  cases e : P.underlying t with
  | none => simp [e] at h
  | some x => cases x <;> simp [e] at h <;> simp [isAgg, run_und e, h]
theorem run_zero {t : Nat} {z : Value} (h : (P.info? t).bind (·.zero) = some z) (w : World) : (zeroValue t).run P w = .ok z w := by
  cases e : P.info? t with
  | none => simp [e] at h
  | some i => simp [e] at h; simp [zeroValue, run_info e, h]

theorem cell_of {h : Heap} {b o : Nat} {c : Array Value} {T : TypeId} {fr : Nat × Nat} {w : World} (hw : w.heap = h) (hb : h[b]? = some (.cells c T fr)) :
    w.cell? ⟨b, o, none⟩ = c[o]? := by
  subst hw
  unfold World.cell?
  rw [hb]
  rfl

@[simp] theorem add_none (b o n : Nat) : Addr.add ⟨b, o, none⟩ n = ⟨b, o + n, none⟩ := by
  unfold Addr.add; split <;> simp_all

/-- Cells in a row are loaded. -/
theorem run_loadFrom {b o : Nat} : ∀ (n i : Nat) (acc : Array Value) (ys : List Value), ys.length = n → (∀ j x, ys[j]? = some x → w.cell? ⟨b, o + (i + j), none⟩ = some x) →
    (loadCellsFrom ⟨b, o, none⟩ i n acc).run P w = .ok (acc ++ ys.toArray) w
  | 0, i, acc, ys, h, _ => by
    have : ys = [] := by simpa using h
    subst this
    simp [loadCellsFrom]
  | n + 1, i, acc, [], h, _ => by simp at h
  | n + 1, i, acc, y :: ys, h, hc => by
    have h0 := hc 0 y (by simp)
    have ih := run_loadFrom n (i + 1) (acc.push y) ys (by simpa using h) (fun j x hx => by
      have := hc (j + 1) x (by simpa using hx)
      rw [show i + 1 + j = i + (j + 1) from by omega]
      exact this)
    simp only [Nat.add_zero] at h0
    simp only [loadCellsFrom, add_none, Sem.run_bind, run_load, h0, Result.andThen_ok, ih]
    congr 1
    simp

/-- The cells that a pointer stands for, and where they are. -/
theorem loadA_sound {n : Nat} {p : AV} {x : Value} {cs : List AV} (hS : SRel B g blk w.heap S) (hp : relT g blk p x) (h : loadA S n p = some cs) :
    cs.all AV.scalar = true ∧ cs.length = n ∧ ∃ b o ys, x = .pointer (some ⟨b, o, none⟩) ∧ rels g cs ys ∧ (∀ j z, ys[j]? = some z → w.cell? ⟨b, o + j, none⟩ = some z) := by
  unfold loadA at h
  split at h
  · rename_i i o
    split at h
    · rename_i all hi
      split at h
      · rename_i hle
        cases h
        obtain ⟨l, hl, rfl⟩ := hp
        obtain ⟨h1, h0, c, T, ys, h2, h3, h4, _⟩ := hS.W.obj i _ l hi hl
        refine ⟨?_, by simp; omega, l.b, l.o + o, (ys.drop o).take n, rfl, rels_take n (rels_drop o h3), ?_⟩
        · rw [List.all_eq_true] at h0 ⊢
          exact fun z hz => h0 z (List.mem_of_mem_drop (List.mem_of_mem_take hz))
        · intro j z hz
          rw [cell_of rfl h2]
          have hlen := rels_length h3
          have hj : j < n := by
            have := (List.getElem?_eq_some_iff.1 hz).1
            simp at this; omega
          rw [List.getElem?_take_of_lt hj, List.getElem?_drop] at hz
          obtain ⟨r, hr⟩ := h4
          have : (ys ++ r)[o + j]? = some z := by rw [List.getElem?_append_left (by omega)]; exact hz
          rw [hr, List.getElem?_drop] at this
          rw [← Array.getElem?_toList, Nat.add_assoc]
          exact this
      · cases h
    · cases h
  · rename_i all
    split at h
    · rename_i hle
      cases h
      obtain ⟨b, o, L, ys, rfl, h1, h2, h0, h3⟩ := hp
      obtain ⟨c, T, fr, h4, h5⟩ := hS.W.imm b L h1
      refine ⟨?_, by simp; omega, b, o, ys.take n, rfl, rels_take n h2, ?_⟩
      · rw [List.all_eq_true] at h0 ⊢
        exact fun z hz => h0 z (List.mem_of_mem_take hz)
      · intro j z hz
        rw [cell_of rfl h4]
        have hlen := rels_length h2
        have hj : j < n := by
          have := (List.getElem?_eq_some_iff.1 hz).1
          simp at this; omega
        rw [List.getElem?_take_of_lt hj] at hz
        have h6 := h3.trans (prefix_drop o h5)
        have h7 := get_prefix h6 hz
        rw [List.getElem?_drop] at h7
        rw [← Array.getElem?_toList]
        exact h7
    · cases h
  · rename_i s o
    split at h
    · rename_i all hs
      split at h
      · rename_i hle
        cases h
        obtain ⟨b, hb, rfl⟩ := hp
        obtain ⟨h0, b', c, T, h1, h2, h3, h4, _⟩ := hS.loc s all hs
        rw [hb] at h1; cases h1
        refine ⟨?_, by simp; omega, b, o, (c.toList.drop o).take n, rfl, rels_take n (rels_drop o h4), ?_⟩
        · rw [List.all_eq_true] at h0 ⊢
          exact fun z hz => h0 z (List.mem_of_mem_drop (List.mem_of_mem_take hz))
        · intro j z hz
          rw [cell_of rfl h3]
          have hlen := rels_length h4
          have hj : j < n := by
            have := (List.getElem?_eq_some_iff.1 hz).1
            simp at this; simp at hlen; omega
          rw [List.getElem?_take_of_lt hj, List.getElem?_drop] at hz
          rw [← Array.getElem?_toList]
          exact hz
      · cases h
    · cases h
  · cases h

theorem joinA_rel {ag : Bool} {cs : List AV} {ys : List Value} (h : joinA ag cs = some v) (hr : rels g cs ys) (hs : cs.all AV.scalar = true) :
    (ag = true ∧ rel g v (.agg ys.toArray)) ∨ (ag = false ∧ ∃ y, ys = [y] ∧ rel g v y) := by
  unfold joinA at h
  split at h
  · cases h
    exact .inl ⟨by assumption, by simp only [rel]; exact ⟨ys, rfl, hr, hs⟩⟩
  · split at h
    · cases h
      obtain ⟨y, t, rfl, h2, h3⟩ := rels_cons_iff.1 hr
      simp at h3
      subst h3
      exact .inr ⟨by simp_all, y, rfl, h2⟩
    · cases h

theorem run_loadVar {t : TypeId} {ag : Bool} {n : Nat} {p : AV} {x : Value} {cs : List AV} (hS : SRel B g blk w.heap S) (hp : relT g blk p x) (h : loadA S n p = some cs)
    (hj : joinA ag cs = some v) (ha : aggB P t = some ag) (hn : sizeB P t = some n) : ∃ a y, x = .pointer (some a) ∧ (loadVar t a).run P w = .ok y w ∧ rel g v y := by
  obtain ⟨h0, hlen, b, o, ys, rfl, h1, h2⟩ := loadA_sound hS hp h
  rcases joinA_rel hj h1 h0 with ⟨rfl, h3⟩ | ⟨rfl, y, rfl, h3⟩
  · refine ⟨_, _, rfl, ?_, h3⟩
    have hl := rels_length h1
    have := run_loadFrom (P := P) (w := w) (b := b) (o := o) n 0 #[] ys (by omega) (fun j x hx => by simpa using h2 j x hx)
    simp [loadVar, run_agg ha, run_size hn, loadCells, this]
  · refine ⟨_, y, rfl, ?_, h3⟩
    have := h2 0 y (by simp)
    simp at this
    simp [loadVar, run_agg ha, this]

theorem s_mv {x : Opd} {y : Operand} (hS : SRel B g blk w.heap S) (hρ : relT g blk (ρ x) (ρ' y)) (ho : o.op = .move y ∨ o.op = .assign y) :
    Res B g blk w d S (ρ x) ((execOp ρ' o).run P w) := by
  rcases ho with ho | ho <;> simp only [execOp, ho, Sem.run_pure] <;> exact Res.value hS hρ

theorem s_pick {a b c : Opd} {a' b' c' : Operand} (hS : SRel B g blk w.heap S) (hc : relT g blk (ρ c) (ρ' c')) (ha : relT g blk (ρ a) (ρ' a')) (hb : relT g blk (ρ b) (ρ' b'))
    (ho : o.op = .pick c' a' b') (h : astep ρ d S (.pick c a b) = some (v, S')) : Res B g blk w d S' v ((execOp ρ' o).run P w) := by
  simp only [astep] at h
  split at h
  · rename_i t ht
    cases h
    rw [ht] at hc
    have hc' : ρ' c' = .bool t := by simpa [relT, rel] using hc
    simp only [execOp, ho, hc', asBool, Sem.run_bind, Sem.run_pure, Result.andThen_ok]
    cases t
    · simpa using Res.value hS hb
    · simpa using Res.value hS ha
  · cases h

theorem s_ld {ag : Bool} {n : Nat} {x : Opd} {y : Operand} {t : TypeId} (hS : SRel B g blk w.heap S) (hρ : relT g blk (ρ x) (ρ' y)) (ho : o.op = .load t y)
    (ha : aggB P t = some ag) (hn : sizeB P t = some n) (h : astep ρ d S (.ld ag n x) = some (v, S')) : Res B g blk w d S' v ((execOp ρ' o).run P w) := by
  simp only [astep] at h
  split at h
  · rename_i cs hcs
    split at h
    · rename_i u hu
      cases h
      obtain ⟨a, z, hx, hrun, hr⟩ := run_loadVar (P := P) (t := t) hS hρ hcs hu ha hn
      simp only [execOp, ho, Instr.loadAt, hx, Instr.sureAddr, Sem.run_bind, Sem.run_pure, Result.andThen_ok, hrun]
      exact Res.value hS (relT_of hr)
    · cases h
  · cases h

theorem s_nck {x : Opd} {y : Operand} (hS : SRel B g blk w.heap S) (hρ : relT g blk (ρ x) (ρ' y)) (ho : o.op = .nilCheck y)
    (h : astep ρ d S (.nck x) = some (v, S')) : Res B g blk w d S' v ((execOp ρ' o).run P w) := by
  simp only [astep] at h
  split at h <;> cases h
  · rename_i e
    rw [e] at hρ
    have hr := hρ
    obtain ⟨l, h1, h2⟩ := hρ
    simp only [execOp, ho, h2, Sem.run_pure]
    exact Res.value hS (by rw [← h2]; exact hr)
  · rename_i e
    rw [e] at hρ
    have hr := hρ
    obtain ⟨b, q, L, ys, h2, _⟩ := hρ
    simp only [execOp, ho, h2, Sem.run_pure]
    exact Res.value hS (by rw [← h2]; exact hr)
  · rename_i e
    rw [e] at hρ
    have hr := hρ
    obtain ⟨b, h1, h2⟩ := hρ
    simp only [execOp, ho, h2, Sem.run_pure]
    exact Res.value hS (by rw [← h2]; exact hr)

theorem s_fa {off : Nat} {x : Opd} {y : Operand} {t : TypeId} {i : Nat} {f : Field} {n : Nat} (hS : SRel B g blk w.heap S) (hρ : relT g blk (ρ x) (ρ' y)) (ho : o.op = .fieldAddr t y i)
    (hf : fieldB P t i = some f) (hoff : f.offset = off) (hn : sizeB P f.type = some n) (hn0 : n ≠ 0) (h : astep ρ d S (.fa off x) = some (v, S')) :
    Res B g blk w d S' v ((execOp ρ' o).run P w) := by
  have hu : ∃ fs, P.underlying t = some (.struct fs) ∧ fs[i]? = some f := by
    unfold fieldB at hf
    split at hf
    · exact ⟨_, by assumption, hf⟩
    · cases hf
  obtain ⟨fs, hu, hfi⟩ := hu
  have run : ∀ b q, ρ' y = .pointer (some ⟨b, q, none⟩) → (execOp ρ' o).run P w = .ok (.value (.pointer (some ⟨b, q + off, none⟩))) w := by
    intro b q e
    simp only [execOp, ho, Instr.fieldAt, Sem.run_bind, run_und hu, Result.andThen_ok, hfi, e, Instr.sureAddr, Sem.run_pure, fieldPlace, run_size hn, if_neg hn0, add_none, hoff]
  simp only [astep] at h
  split at h
  · rename_i u hu'
    cases h
    unfold faA at hu'
    split at hu'
    · rename_i j q e
      cases hu'
      rw [e] at hρ
      obtain ⟨l, h1, h2⟩ := hρ
      rw [run _ _ h2]
      exact Res.value hS (by simp only [relT, rel]; exact ⟨l, h1, by rw [Nat.add_assoc]⟩)
    · rename_i cs e
      split at hu'
      · cases hu'
        rw [e] at hρ
        obtain ⟨b, q, L, ys, h2, h3, h4, h5, h6⟩ := hρ
        rw [run _ _ h2]
        refine Res.value hS ?_
        simp only [relT, rel]
        refine ⟨b, q + off, L, ys.drop off, rfl, h3, rels_drop off h4, ?_, ?_⟩
        · rw [List.all_eq_true] at h5 ⊢
          exact fun z hz => h5 z (List.mem_of_mem_drop hz)
        · have := prefix_drop off h6
          rwa [List.drop_drop] at this
      · cases hu'
    · rename_i s q e
      cases hu'
      rw [e] at hρ
      obtain ⟨b, h1, h2⟩ := hρ
      rw [run _ _ h2]
      exact Res.value hS ⟨b, h1, rfl⟩
    · cases hu'
  · cases h

theorem s_ext {x : Opd} {y : Operand} {i : Nat} (hS : SRel B g blk w.heap S) (hρ : relT g blk (ρ x) (ρ' y)) (ho : o.op = .extract y i)
    (h : astep ρ d S (.ext x i) = some (v, S')) : Res B g blk w d S' v ((execOp ρ' o).run P w) := by
  simp only [astep] at h
  split at h
  · rename_i vs e
    split at h
    · rename_i u hu
      cases h
      rw [e] at hρ
      obtain ⟨ys, h1, h2⟩ := hρ
      obtain ⟨z, hz, hr⟩ := rels_get h2 hu
      have hz' : ys.toArray[i]? = some z := by simpa using hz
      simp only [execOp, ho, Instr.extract, h1, hz', Sem.run_bind, Sem.run_pure, Result.andThen_ok]
      exact Res.value hS (relT_of hr)
    · cases h
  · cases h

theorem s_fld {ag : Bool} {off n : Nat} {x : Opd} {y : Operand} {t : TypeId} {i : Nat} {f : Field} (hS : SRel B g blk w.heap S) (hρ : relT g blk (ρ x) (ρ' y)) (ho : o.op = .field t y i)
    (hf : fieldB P t i = some f) (hoff : f.offset = off) (ha : aggB P f.type = some ag) (hn : sizeB P f.type = some n) (h : astep ρ d S (.fld ag off n x) = some (v, S')) :
    Res B g blk w d S' v ((execOp ρ' o).run P w) := by
  have hu : ∃ fs, P.underlying t = some (.struct fs) ∧ fs[i]? = some f := by
    unfold fieldB at hf
    split at hf
    · exact ⟨_, by assumption, hf⟩
    · cases hf
  obtain ⟨fs, hu, hfi⟩ := hu
  simp only [astep] at h
  split at h
  · rename_i cs e
    split at h
    · rename_i hle
      split at h
      · rename_i u hj
        cases h
        rw [e] at hρ
        obtain ⟨ys, h1, h2, h3⟩ := hρ
        have hall : ((cs.drop off).take n).all AV.scalar = true := by
          rw [List.all_eq_true] at h3 ⊢
          exact fun z hz => h3 z (List.mem_of_mem_drop (List.mem_of_mem_take hz))
        have hl := rels_length h2
        rcases joinA_rel hj (rels_take n (rels_drop off h2)) hall with ⟨rfl, h4⟩ | ⟨rfl, z, hz, h4⟩
        · have hex : (ys.toArray.extract off (off + n)) = ((ys.drop off).take n).toArray := by
            simp [List.extract_eq_take_drop]
          simp only [execOp, ho, Instr.field, Sem.run_bind, run_und hu, Result.andThen_ok, hfi, h1, asAgg, Sem.run_pure, part, hoff, run_agg ha, if_true, run_size hn, hex]
          exact Res.value hS (relT_of h4)
        · have hz' : ys.toArray[off]? = some z := by
            have : ((ys.drop off).take n)[0]? = some z := by rw [hz]; rfl
            have hn0 : 0 < n := by
              rcases Nat.eq_zero_or_pos n with h | h
              · subst h; simp at hz
              · exact h
            rw [List.getElem?_take_of_lt hn0, List.getElem?_drop] at this
            simpa using this
          simp only [execOp, ho, Instr.field, Sem.run_bind, run_und hu, Result.andThen_ok, hfi, h1, asAgg, Sem.run_pure, part, hoff, run_agg ha, Bool.false_eq_true, if_false, hz']
          exact Res.value hS (relT_of h4)
      · cases h
    · cases h
  · cases h

theorem flat_get {e : Nat} : ∀ {ys : List Value} {k : Nat} {y : Value}, (∀ y ∈ ys, y.cells.size = e) → ys[k]? = some y → y.cells.toList <+: (cellsL ys).drop (k * e)
  | [], k, y, _, h => by simp at h
  | a :: ys, 0, y, _, h => by
    simp at h; subst h
    simp [cellsL]
  | a :: ys, k + 1, y, hs, h => by
    have ih := flat_get (ys := ys) (k := k) (y := y) (fun z hz => hs z (List.mem_cons_of_mem _ hz)) (by simpa using h)
    have ha := hs a (by simp)
    have : (cellsL (a :: ys)).drop ((k + 1) * e) = (cellsL ys).drop (k * e) := by
      simp only [cellsL, List.flatMap_cons]
      rw [List.drop_append]
      have e1 : a.cells.toList.length = e := by simpa using ha
      rw [List.drop_eq_nil_of_le (by rw [e1, Nat.succ_mul]; omega), List.nil_append]
      congr 1
      rw [e1, Nat.succ_mul]; omega
    rw [this]; exact ih

theorem s_ixa {e : Nat} {x i : Opd} {y j : Operand} {t el : TypeId} (hS : SRel B g blk w.heap S) (hx : relT g blk (ρ x) (ρ' y)) (hi : relT g blk (ρ i) (ρ' j)) (ho : o.op = .indexAddr t y j)
    (hu : P.underlying t = some (.slice el)) (hn : sizeB P el = some e) (h : astep ρ d S (.ixa e x i) = some (v, S')) : Res B g blk w d S' v ((execOp ρ' o).run P w) := by
  simp only [astep] at h
  split at h
  · rename_i u hu'
    cases h
    unfold ixaA at hu'
    split at hu'
    · rename_i k n ei
      rw [ei] at hi
      have hi' : ρ' j = .int k n := by simpa [relT, rel] using hi
      split at hu'
      · rename_i tk xs ex
        rw [ex] at hx
        obtain ⟨b, q, cap, L, ys, e0, h1, h0, h2, h3, h4, h5, _⟩ := hx
        split at hu'
        · rename_i hn0
          split at hu'
          · rename_i z hz
            split at hu'
            · rename_i hok
              cases hu'
              obtain ⟨zv, hzv, hzr⟩ := rels_get h3 hz
              have hlt : n.toNat < xs.length := (List.getElem?_eq_some_iff.1 hz).1
              have hlt' : n < (xs.length : Int) := by omega
              have hcz := rel_cells_len hzr
              have he0 : e0 = e := by
                have := h5 zv (List.mem_of_getElem? hzv)
                omega
              subst he0
              have hfl := (flat_get h5 hzv).trans (prefix_drop (n.toNat * e0) h4)
              simp only [execOp, ho, Instr.indexAt, hi', asIntOf, Sem.run_bind, Sem.run_pure, Result.andThen_ok, run_und hu, h1, hn0, hlt', and_self, if_true, run_size hn, add_none]
              refine Res.value hS ?_
              simp only [relT, rel]
              refine ⟨b, q + n.toNat * e0, L, zv.cells.toList, rfl, h2, rel_cells hzr, ?_, by rwa [List.drop_drop] at hfl⟩
              cases z <;> simp only [rel] at hzr <;> (try exact hzr.elim) <;> (try (simp [AV.cells, AV.scalar]; done)) <;> (try (simp [AV.okv] at hok; done))
              obtain ⟨_, _, _, hsc⟩ := hzr
              exact hsc
            · cases hu'
          · cases hu'
        · cases hu'
      · rename_i jd e' q len ex
        rw [ex] at hx
        obtain ⟨l, cap, h1, h2, _⟩ := hx
        split at hu'
        · rename_i hc
          cases hu'
          obtain ⟨rfl, hn0, hlt⟩ := hc
          simp only [execOp, ho, Instr.indexAt, hi', asIntOf, Sem.run_bind, Sem.run_pure, Result.andThen_ok, run_und hu, h2, hn0, hlt, and_self, if_true, run_size hn, add_none]
          refine Res.value hS ?_
          simp only [relT, rel]
          exact ⟨l, h1, by rw [Nat.add_assoc]⟩
        · cases hu'
      · cases hu'
    · cases hu'
  · cases h

theorem s_ixs {x i : Opd} {y j : Operand} {t : TypeId} (hS : SRel B g blk w.heap S) (hx : relT g blk (ρ x) (ρ' y)) (hi : relT g blk (ρ i) (ρ' j)) (ho : o.op = .index t y j)
    (hu : P.underlying t = some .string) (h : astep ρ d S (.ixs x i) = some (v, S')) : Res B g blk w d S' v ((execOp ρ' o).run P w) := by
  simp only [astep] at h
  split at h
  · rename_i u hu'
    cases h
    unfold ixsA at hu'
    split at hu'
    · rename_i s k n ex ei
      rw [ex] at hx
      rw [ei] at hi
      have hx' : ρ' y = .string ⟨⟨s⟩⟩ := by simpa [relT, rel] using hx
      have hi' : ρ' j = .int k n := by simpa [relT, rel] using hi
      split at hu'
      · rename_i hn0
        split at hu'
        · rename_i z hz
          cases hu'
          have hb : (ByteArray.mk ⟨s⟩)[n.toNat]? = some z := by
            obtain ⟨hlt, hz'⟩ := List.getElem?_eq_some_iff.1 hz
            have hsz : n.toNat < (ByteArray.mk ⟨s⟩).size := hlt
            rw [getElem?_pos (ByteArray.mk ⟨s⟩) n.toNat hsz]
            exact congrArg some hz'
          simp only [execOp, ho, Instr.index, hi', hx', asIntOf, Sem.run_bind, Sem.run_pure, Result.andThen_ok, run_und hu, if_pos hn0, hb]
          exact Res.value hS (by simp [relT, rel])
        · cases hu'
      · cases hu'
    · cases hu'
  · cases h

theorem s_cvi {k : IntKind} {x : Opd} {y : Operand} {s t : TypeId} {ds : TypeDesc} (hS : SRel B g blk w.heap S) (hx : relT g blk (ρ x) (ρ' y)) (ho : o.op = .convert s t y)
    (hs : P.underlying s = some ds) (ht : P.underlying t = some (.int k)) (h : astep ρ d S (.cvi k x) = some (v, S')) : Res B g blk w d S' v ((execOp ρ' o).run P w) := by
  simp only [astep] at h
  split at h
  · rename_i k' n e
    cases h
    rw [e] at hx
    have hx' : ρ' y = .int k' n := by simpa [relT, rel] using hx
    simp only [execOp, ho, convert, Sem.run_bind, run_und hs, run_und ht, Result.andThen_ok, hx', Conv.intToInt, Sem.run_pure]
    exact Res.value hS (by simp [relT, rel])
  · cases h

theorem s_un {op : UnOp} {x : Opd} {y : Operand} {t : TypeId} (hS : SRel B g blk w.heap S) (hx : relT g blk (ρ x) (ρ' y)) (ho : o.op = .unOp op t y)
    (h : astep ρ d S (.un op x) = some (v, S')) : Res B g blk w d S' v ((execOp ρ' o).run P w) := by
  simp only [astep] at h
  split at h
  · rename_i u hu
    cases h
    unfold unA at hu
    split at hu
    · rename_i b e
      rw [e] at hx
      have hx' : ρ' y = .bool b := by simpa [relT, rel] using hx
      split at hu <;> cases hu
      simp only [execOp, ho, hx', Op.unary, Sem.run_bind, Sem.run_pure, Result.andThen_ok]
      exact Res.value hS (by simp [relT, rel])
    · rename_i k n e
      rw [e] at hx
      have hx' : ρ' y = .int k n := by simpa [relT, rel] using hx
      split at hu <;> cases hu
      simp only [execOp, ho, hx', Op.unary, Op.intArith, Sem.run_bind, Sem.run_pure, Result.andThen_ok]
      exact Res.value hS (by simp [relT, rel])
    · cases hu
  · cases h

theorem s_mki {t : Nat} {x : Opd} {y : Operand} {ds : TypeDesc} (hS : SRel B g blk w.heap S) (hx : relT g blk (ρ x) (ρ' y)) (ho : o.op = .makeInterface t y)
    (ht : P.underlying t = some ds) (hni : ∀ ms, ds ≠ .interface ms) (h : astep ρ d S (.mki t x) = some (v, S')) : Res B g blk w d S' v ((execOp ρ' o).run P w) := by
  simp only [astep] at h
  split at h
  · rename_i hp
    cases h
    have : (execOp ρ' o).run P w = .ok (.value (.iface t (ρ' y))) w := by
      simp only [execOp, ho, Instr.makeInterface, Sem.run_bind, run_und ht, Result.andThen_ok]
      cases ds <;> first | rfl | (exact absurd rfl (hni _))
    rw [this]
    exact Res.value hS (by simp only [relT, rel]; exact ⟨_, rfl, relT_proper hx hp⟩)
  · cases h

theorem s_tas {t xt : Nat} {z : AV} {zv : Value} {ok : Bool} {x : Opd} {y : Operand} {ds : TypeDesc} (hS : SRel B g blk w.heap S) (hx : relT g blk (ρ x) (ρ' y)) (ho : o.op = .typeAssert y xt t ok)
    (ht : P.underlying t = some ds) (hni : ∀ ms, ds ≠ .interface ms) (hz : (P.info? t).bind (·.zero) = some zv) (hzr : constOk z zv = true)
    (h : astep ρ d S (.tas t z ok x) = some (v, S')) : Res B g blk w d S' v ((execOp ρ' o).run P w) := by
  simp only [astep] at h
  have zrel : rel g z zv := constOk_rel hzr
  split at h
  · rename_i u a e
    rw [e] at hx
    obtain ⟨a', h1, h2⟩ := hx
    by_cases hut : u = t
    · subst hut
      simp only [if_true] at h
      cases h
      have : (execOp ρ' o).run P w = .ok (.value (if ok then .tuple #[a', .bool true] else a')) w := by
        simp only [execOp, ho, Instr.typeAssert, Sem.run_bind, run_und ht, Result.andThen_ok, h1]
        cases ds <;> first | (exact absurd rfl (hni _)) | (simp)
      rw [this]
      refine Res.value hS (relT_of ?_)
      cases ok
      · exact h2
      · simp only [if_true, rel]
        exact ⟨[a', .bool true], rfl, by simp [h2, rel]⟩
    · simp only [hut, if_false] at h
      split at h
      · rename_i hok
        subst hok
        cases h
        have : (execOp ρ' o).run P w = .ok (.value (.tuple #[zv, .bool false])) w := by
          simp only [execOp, ho, Instr.typeAssert, Sem.run_bind, run_und ht, Result.andThen_ok, h1]
          cases ds <;> first | (exact absurd rfl (hni _)) | (simp [hut, run_zero hz])
        rw [this]
        exact Res.value hS (relT_of (by simp only [rel]; exact ⟨[zv, .bool false], rfl, by simp [zrel, rel]⟩))
      · cases h
  · rename_i e
    rw [e] at hx
    have hx' : ρ' y = .nilIface := by simpa [relT, rel] using hx
    split at h
    · rename_i hok
      subst hok
      cases h
      have : (execOp ρ' o).run P w = .ok (.value (.tuple #[zv, .bool false])) w := by
        simp only [execOp, ho, Instr.typeAssert, Sem.run_bind, run_und ht, Result.andThen_ok, hx']
        cases ds <;> first | (exact absurd rfl (hni _)) | (simp [run_zero hz])
      rw [this]
      exact Res.value hS (relT_of (by simp only [rel]; exact ⟨[zv, .bool false], rfl, by simp [zrel, rel]⟩))
    · cases h
  · cases h

end
end Go.Ab

/- More operations that change nothing: arithmetic, comparisons, slices of slices, lengths, look-ups, aggregates. -/
namespace Go.Ab
section
variable {B : Nat} {P : Program} {g : Gh} {blk : Nat → Option Nat} {w : World} {S S' : AS} {ρ : Opd → AV} {ρ' : Operand → Value} {d : Option Nat} {o : Oper} {v : AV}

theorem str_toList (s : List UInt8) : (ByteArray.mk ⟨s⟩).toList = s := by rw [ByteArray.toList_eq]

theorem sq_sound {bk : BK} {x y : AV} {a b : Value} {r : Bool} (hx : rel g x a) (hy : rel g y b) (h : sq bk x y = some r) {t : TypeId} (hb : bkB P t bk = true) (n : Nat) :
    (Op.equalIn (n + 1) t a b).run P w = .ok r w := by
  unfold sq at h
  unfold bkB at hb
  split at h
  · rename_i k i k' j
    split at h
    · rename_i hk
      subst hk
      cases h
      simp only [rel] at hx hy
      subst hx; subst hy
      simp only at hb
      split at hb
      · rename_i q hq
        simp [Op.equalIn, run_und hq]
      · cases hb
    · cases h
  · cases h
    simp only [rel] at hx hy
    subst hx; subst hy
    simp only at hb
    split at hb
    · rename_i hq
      simp [Op.equalIn, run_und hq]
    · cases hb
  · cases h
    rename_i s t'
    simp only [rel] at hx hy
    subst hx; subst hy
    simp only at hb
    split at hb
    · rename_i hq
      simp only [Op.equalIn, Sem.run_bind, run_und hq, Result.andThen_ok, Sem.run_pure]
      rw [beq_toListBytes, str_toList, str_toList]
    · cases hb
  · cases h

theorem bk_aggB {t : TypeId} {bk : BK} (h : bkB P t bk = true) : aggB P t = some false := by
  unfold bkB at h
  unfold aggB
  cases bk <;> simp only at h <;> split at h <;> simp_all

theorem sqs_sound {n : Nat} {xs' ys' : Array Value} : ∀ {fs : List Field} {ks : List BK} {xs ys : List AV} {i : Nat} {r : Bool}, flats P i fs ks = true → sqs ks xs ys = some r →
    rels g xs (xs'.toList.drop i) → rels g ys (ys'.toList.drop i) → (Op.eqFields (n + 1) xs' ys' fs).run P w = .ok r w
  | [], [], [], [], i, r, _, h, _, _ => by simp only [sqs] at h; cases h; rfl
  | f :: fs, k :: ks, x :: xs, y :: ys, i, r, hf, h, hx, hy => by
    simp only [flats, Bool.and_eq_true, bne_iff_ne, beq_iff_eq] at hf
    obtain ⟨⟨⟨h1, h2⟩, h3⟩, h4⟩ := hf
    obtain ⟨a, as, ha, hxa, hxs⟩ := rels_cons_iff.1 hx
    obtain ⟨b, bs, hb, hyb, hys⟩ := rels_cons_iff.1 hy
    have ga : xs'[i]? = some a := by
      have : (xs'.toList.drop i)[0]? = some a := by rw [ha]; rfl
      simpa [List.getElem?_drop] using this
    have gb : ys'[i]? = some b := by
      have : (ys'.toList.drop i)[0]? = some b := by rw [hb]; rfl
      simpa [List.getElem?_drop] using this
    have pa : (part f.type xs' f.offset).run P w = .ok a w := by simp [part, run_agg (bk_aggB h3), h2, ga]
    have pb : (part f.type ys' f.offset).run P w = .ok b w := by simp [part, run_agg (bk_aggB h3), h2, gb]
    simp only [sqs] at h
    simp only [Op.eqFields, if_pos h1, Sem.run_bind, pa, pb, Result.andThen_ok]
    split at h
    · rename_i hq
      simp only [sq_sound hxa hyb hq h3 n, Result.andThen_ok, Bool.not_true, Bool.false_eq_true, if_false]
      refine sqs_sound h4 h ?_ ?_
      · have : xs'.toList.drop (i + 1) = as := by rw [← List.drop_drop, ha]; rfl
        rw [this]; exact hxs
      · have : ys'.toList.drop (i + 1) = bs := by rw [← List.drop_drop, hb]; rfl
        rw [this]; exact hys
    · rename_i hq
      cases h
      simp [sq_sound hxa hyb hq h3 n]
    · cases h
  | [], [], [], _ :: _, _, _, _, h, _, _ => by simp [sqs] at h
  | [], [], _ :: _, _, _, _, _, h, _, _ => by simp [sqs] at h
  | [], _ :: _, _, _, _, _, hf, _, _, _ => by simp [flats] at hf
  | _ :: _, [], _, _, _, _, hf, _, _, _ => by simp [flats] at hf
  | _ :: _, _ :: _, [], _, _, _, _, h, _, _ => by simp [sqs] at h
  | _ :: _, _ :: _, _ :: _, [], _, _, _, h, _, _ => by simp [sqs] at h

theorem und_fieldsOf {t : TypeId} {fs : Array Field} (h : P.underlying t = some (.struct fs)) : P.underlying t = some (.struct (P.fieldsOf t)) := by
  unfold Program.fieldsOf; rw [h]

def noGuard : Value → Value → Prop
  | .nilIface, .nilIface => False
  | .agg _, .agg _ => False
  | _, _ => True

theorem guard_eq {a b : Value} (op : BinOp) (t : TypeId) (X Y : Operand) (h : (eqGuard .eql t X Y a b).run P w = .ok () w) : (eqGuard op t X Y a b).run P w = .ok () w := by
  cases op <;> first | exact h | rfl
theorem guard_base {a b : Value} (h : noGuard a b) (op : BinOp) (t : TypeId) (X Y : Operand) : (eqGuard op t X Y a b).run P w = .ok () w := by
  refine guard_eq op t X Y ?_
  unfold eqGuard
  simp only [Bool.not_true, Bool.false_eq_true, if_false]
  split
  · exact h.elim
  · exact h.elim
  · rfl
theorem guard_agg {a b : Array Value} (op : BinOp) (t : TypeId) (X Y : Operand) (h : P.eqGuardType P.depth t = false) : (eqGuard op t X Y (.agg a) (.agg b)).run P w = .ok () w := by
  refine guard_eq op t X Y ?_
  unfold eqGuard
  simp [h]
theorem guard_no {a b : Value} {op : BinOp} (h1 : op ≠ .eql) (h2 : op ≠ .neq) (t : TypeId) (X Y : Operand) : (eqGuard op t X Y a b).run P w = .ok () w := by
  unfold eqGuard
  cases op <;> first | rfl | exact absurd rfl h1 | exact absurd rfl h2

set_option maxHeartbeats 1000000 in
/-- What '==' comes to. -/
theorem eqA_sound {tk : TK} {x y : AV} {a b : Value} {r : Bool} {t : TypeId} (hx : rel g x a) (hy : rel g y b) (ht : tkB P tk t = true) (h : eqA tk x y = some r) :
    (∀ op X Y, (eqGuard op t X Y a b).run P w = .ok () w) ∧ (binOp .eql t a b).run P w = .ok (.bool r) w ∧ (binOp .neq t a b).run P w = .ok (.bool !r) w := by
  have base : noGuard a b → ∀ op X Y, (eqGuard op t X Y a b).run P w = .ok () w := fun hne op X Y => guard_base hne op t X Y
  have viaEq : ∀ (hq : ∀ n, (Op.equalIn (n + 1 + 1) t a b).run P w = .ok r w) (hbin : binOp .eql t a b = (do pure (.bool (← Op.equal t a b))) ∧ binOp .neq t a b = (do pure (.bool (!(← Op.equal t a b))))),
      (binOp .eql t a b).run P w = .ok (.bool r) w ∧ (binOp .neq t a b).run P w = .ok (.bool !r) w := by
    intro hq hbin
    have hq' : (Op.equal t a b).run P w = .ok r w := hq 9998
    rw [hbin.1, hbin.2]
    simp [hq']
  unfold eqA at h
  unfold tkB at ht
  split at h
  · rename_i k i k' j
    split at h
    · rename_i hk
      subst hk
      cases h
      simp only [rel] at hx hy
      subst hx; subst hy
      refine ⟨base trivial, ?_, ?_⟩ <;> simp [binOp, Op.intCmp, bne]
    · cases h
  · cases h
    simp only [rel] at hx hy
    subst hx; subst hy
    refine ⟨base trivial, ?_, ?_⟩ <;> simp [binOp, Op.stringOp]
  · cases h
    simp only [rel] at hx hy
    subst hx; subst hy
    simp only at ht
    split at ht
    · rename_i hq
      exact ⟨base trivial, viaEq (fun n => by simp [Op.equalIn, run_und hq]) ⟨rfl, rfl⟩⟩
    · cases ht
  all_goals first
    | (cases h
       simp only [rel] at hx hy
       simp only at ht
       split at ht
       · rename_i hq
         first
           | (obtain ⟨l, h1, rfl⟩ := hx; subst hy; exact ⟨base trivial, viaEq (fun n => by simp [Op.equalIn, run_und hq]) ⟨rfl, rfl⟩⟩)
           | (obtain ⟨l, h1, rfl⟩ := hy; subst hx; exact ⟨base trivial, viaEq (fun n => by simp [Op.equalIn, run_und hq]) ⟨rfl, rfl⟩⟩)
           | (obtain ⟨b0, o0, L, ys, rfl, _⟩ := hx; subst hy; exact ⟨base trivial, viaEq (fun n => by simp [Op.equalIn, run_und hq]) ⟨rfl, rfl⟩⟩)
           | (obtain ⟨b0, o0, L, ys, rfl, _⟩ := hy; subst hx; exact ⟨base trivial, viaEq (fun n => by simp [Op.equalIn, run_und hq]) ⟨rfl, rfl⟩⟩)
           | (obtain ⟨b0, o0, cap, L, ys, e, rfl, _⟩ := hx; subst hy; exact ⟨base trivial, viaEq (fun n => by simp [Op.equalIn, run_und hq]) ⟨rfl, rfl⟩⟩)
           | (obtain ⟨b0, o0, cap, L, ys, e, rfl, _⟩ := hy; subst hx; exact ⟨base trivial, viaEq (fun n => by simp [Op.equalIn, run_und hq]) ⟨rfl, rfl⟩⟩)
           | (obtain ⟨l, cap, h1, rfl, _⟩ := hx; subst hy; exact ⟨base trivial, viaEq (fun n => by simp [Op.equalIn, run_und hq]) ⟨rfl, rfl⟩⟩)
           | (obtain ⟨l, cap, h1, rfl, _⟩ := hy; subst hx; exact ⟨base trivial, viaEq (fun n => by simp [Op.equalIn, run_und hq]) ⟨rfl, rfl⟩⟩)
           | (obtain ⟨ys, zs, rfl, _⟩ := hx; subst hy; exact ⟨base trivial, viaEq (fun n => by simp [Op.equalIn, run_und hq]) ⟨rfl, rfl⟩⟩)
           | (obtain ⟨ys, zs, rfl, _⟩ := hy; subst hx; exact ⟨base trivial, viaEq (fun n => by simp [Op.equalIn, run_und hq]) ⟨rfl, rfl⟩⟩)
           | (obtain ⟨z, rfl, _⟩ := hx; subst hy; exact ⟨base trivial, viaEq (fun n => by simp [Op.equalIn, run_und hq]) ⟨rfl, rfl⟩⟩)
           | (obtain ⟨z, rfl, _⟩ := hy; subst hx; exact ⟨base trivial, viaEq (fun n => by simp [Op.equalIn, run_und hq]) ⟨rfl, rfl⟩⟩)
           | (subst hx; subst hy; exact ⟨base trivial, viaEq (fun n => by simp [Op.equalIn, run_und hq]) ⟨rfl, rfl⟩⟩)
       · cases ht; done)
    | skip
  · cases h
    simp only [rel] at hx hy
    subst hx; subst hy
    simp only at ht
    split at ht
    · rename_i hq
      refine ⟨fun op X Y => guard_eq op t X Y ?_, viaEq (fun n => ?_) ⟨rfl, rfl⟩⟩
      · unfold eqGuard
        simp only [Bool.not_true, Bool.false_eq_true, if_false]
        split
        · rfl
        · have key : ∀ n, (Op.eqGuardIn (n + 1) t .nilIface .nilIface).run P w = .ok false w := fun n => by simp [Op.eqGuardIn, run_und hq, ht]
          have : (Op.eqGuardIn Op.maxDepth t .nilIface .nilIface).run P w = .ok false w := key 9999
          simp [this]
      · simp [Op.equalIn, run_und hq]
    · cases ht
  · rename_i ks xs ys
    split at h
    · rename_i hlen
      simp only [rel] at hx hy
      obtain ⟨xs', rfl, h1, _⟩ := hx
      obtain ⟨ys', rfl, h2, _⟩ := hy
      simp only [flatB] at ht
      split at ht
      · rename_i fs hu
        simp only [Bool.and_eq_true, Bool.not_eq_true'] at ht
        obtain ⟨⟨h3, h4⟩, h5⟩ := ht
        refine ⟨fun op X Y => ?_, viaEq (fun n => ?_) ⟨rfl, rfl⟩⟩
        · exact guard_agg op t X Y h5
        · rw [run_equalIn_struct w _ t _ _ (und_fieldsOf hu) h4]
          have : P.fieldsOf t = fs := by unfold Program.fieldsOf; rw [hu]
          rw [this]
          exact sqs_sound h3 h (by simpa using h1) (by simpa using h2)
      · cases ht
    · cases h
  · cases h

theorem s_bin {op : BinOp} {tk : TK} {x y : Opd} {x' y' : Operand} {t u : TypeId} (hS : SRel B g blk w.heap S) (hx : relT g blk (ρ x) (ρ' x')) (hy : relT g blk (ρ y) (ρ' y')) (ho : o.op = .binOp op t x' y' u)
    (ht : tkB P tk t = true) (h : astep ρ d S (.bin op tk x y) = some (v, S')) : Res B g blk w d S' v ((execOp ρ' o).run P w) := by
  simp only [astep] at h
  split at h
  case h_2 => cases h
  rename_i u hu
  cases h
  have hrun : ∀ {z : Value}, (binOp op t (ρ' x') (ρ' y')).run P w = .ok z w → (∀ X Y, (eqGuard op t X Y (ρ' x') (ρ' y')).run P w = .ok () w) → (execOp ρ' o).run P w = .ok (.value z) w := by
    intro z hz hg
    simp only [execOp, ho, Sem.run_bind, hg, Result.andThen_ok, hz, Sem.run_pure]
  have proper : ∀ {tk x y r}, eqA tk x y = some r → x.proper = true ∧ y.proper = true := by
    intro tk x y r h
    unfold eqA at h
    split at h <;> first | exact ⟨rfl, rfl⟩ | cases h
  unfold binA at hu
  split at hu
  · cases e : eqA tk (ρ x) (ρ y) with
    | none => rw [e] at hu; cases hu
    | some r =>
      rw [e] at hu
      cases hu
      obtain ⟨hp1, hp2⟩ := proper e
      obtain ⟨h1, h2, _⟩ := eqA_sound (P := P) (w := w) (relT_proper hx hp1) (relT_proper hy hp2) ht e
      rw [hrun h2 (h1 _)]
      exact Res.value hS (by simp [relT, rel])
  · cases e : eqA tk (ρ x) (ρ y) with
    | none => rw [e] at hu; cases hu
    | some r =>
      rw [e] at hu
      cases hu
      obtain ⟨hp1, hp2⟩ := proper e
      obtain ⟨h1, _, h2⟩ := eqA_sound (P := P) (w := w) (relT_proper hx hp1) (relT_proper hy hp2) ht e
      rw [hrun h2 (h1 _)]
      exact Res.value hS (by simp [relT, rel])
  · rename_i hn1 hn2
    have hg : ∀ X Y, (eqGuard op t X Y (ρ' x') (ρ' y')).run P w = .ok () w := fun X Y => guard_no hn1 hn2 t X Y
    split at hu
    · rename_i k a k' b ex ey
      rw [ex] at hx; rw [ey] at hy
      have hx' : ρ' x' = .int k a := by simpa [relT, rel] using hx
      have hy' : ρ' y' = .int k' b := by simpa [relT, rel] using hy
      have fin : ∀ {z : AV} {zz : Value}, (binOp op t (.int k a) (.int k' b)).run P w = .ok zz w → rel g z zz → Res B g blk w d S z ((execOp ρ' o).run P w) := by
        intro z zz h1 h2
        rw [hrun (z := zz) (by rw [hx', hy']; exact h1) hg]
        exact Res.value hS (relT_of h2)
      split at hu
      · split at hu
        · cases hu
        · rename_i hb
          cases hu
          exact fin (zz := .int k (k.wrap (a * 2 ^ min b.toNat k.bits))) (by simp [binOp, Op.shift, hb]) (by simp [rel])
      · split at hu
        · cases hu
        · rename_i hb
          cases hu
          exact fin (zz := .int k (a.fdiv (2 ^ min b.toNat k.bits))) (by simp [binOp, Op.shift, hb]) (by simp [rel])
      · rename_i hs1 hs2
        split at hu
        · rename_i hk
          subst hk
          split at hu
          · cases hu; exact fin (zz := .int k _) (by simp [binOp, Op.intArith]; rfl) (by simp [rel])
          · cases hu; exact fin (zz := .int k _) (by simp [binOp, Op.intArith]; rfl) (by simp [rel])
          · cases hu; exact fin (zz := .int k _) (by simp [binOp, Op.intArith]; rfl) (by simp [rel])
          · split at hu
            · cases hu
            · rename_i hb; cases hu; exact fin (zz := .int k _) (by simp [binOp, Op.intDiv, hb]; rfl) (by simp [rel])
          · split at hu
            · cases hu
            · rename_i hb; cases hu; exact fin (zz := .int k _) (by simp [binOp, Op.intDiv, hb]; rfl) (by simp [rel])
          · cases hu; exact fin (zz := .int k _) (by simp [binOp, Op.intBits]; rfl) (by simp [rel])
          · cases hu; exact fin (zz := .int k _) (by simp [binOp, Op.intBits]; rfl) (by simp [rel])
          · cases hu; exact fin (zz := .int k _) (by simp [binOp, Op.intBits]; rfl) (by simp [rel])
          · cases hu; exact fin (zz := .bool _) (by simp [binOp, Op.intCmp]; rfl) (by simp [rel])
          · cases hu; exact fin (zz := .bool _) (by simp [binOp, Op.intCmp]; rfl) (by simp [rel])
          · cases hu; exact fin (zz := .bool _) (by simp [binOp, Op.intCmp]; rfl) (by simp [rel])
          · cases hu; exact fin (zz := .bool _) (by simp [binOp, Op.intCmp]; rfl) (by simp [rel])
          · cases hu
        · cases hu
    · rename_i a b ex ey
      rw [ex] at hx; rw [ey] at hy
      have hx' : ρ' x' = .string ⟨⟨a⟩⟩ := by simpa [relT, rel] using hx
      have hy' : ρ' y' = .string ⟨⟨b⟩⟩ := by simpa [relT, rel] using hy
      split at hu
      · split at hu
        · rename_i hle
          cases hu
          have hsz : ¬ ((((ByteArray.mk ⟨a⟩).size + (ByteArray.mk ⟨b⟩).size : Nat) : Int) > IntKind.i64.max) := by
            have e1 : (ByteArray.mk ⟨a⟩).size = a.length := rfl
            have e2 : (ByteArray.mk ⟨b⟩).size = b.length := rfl
            have e3 : IntKind.i64.max = 9223372036854775807 := by decide
            rw [e1, e2, e3]; omega
          have happ : ByteArray.mk ⟨a⟩ ++ ByteArray.mk ⟨b⟩ = ByteArray.mk ⟨a ++ b⟩ := by
            apply ByteArray.ext
            simp
          rw [hrun (z := .string ⟨⟨a ++ b⟩⟩) (by rw [hx', hy']; simp only [binOp, Op.stringOp, if_neg hsz, happ, Sem.run_pure]) hg]
          exact Res.value hS (by simp [relT, rel])
        · cases hu
      · cases hu
    · cases hu

end
end Go.Ab

/- Slices of slices, lengths, the greater of two, look-ups, function values, aggregates. -/
namespace Go.Ab
section
variable {B : Nat} {P : Program} {g : Gh} {blk : Nat → Option Nat} {w : World} {S S' : AS} {ρ : Opd → AV} {ρ' : Operand → Value} {d : Option Nat} {o : Oper} {v : AV}

theorem run_sliceBound {k : IntKind} {i : Int} {y : Nat} {c : BoundsCode} (h : 0 ≤ i ∧ i ≤ y) : (Instr.sliceBound (.int k i) y c).run P w = .ok i.toNat w := by
  simp [Instr.sliceBound, asIntOf, h]

/-- Two optional operands that stand for one another. -/
def relO (g : Gh) (blk : Nat → Option Nat) : Option AV → Option Value → Prop
  | none, none => True
  | some a, some x => relT g blk a x
  | _, _ => False

theorem bnd_sound {isS : Bool} {n cap : Nat} {lo hi : Option AV} {lo' hi' : Option Value} {l h : Nat} (hl : relO g blk lo lo') (hh : relO g blk hi hi') (hc : n ≤ cap)
    (e : bndA n lo hi = some (l, h)) : (Instr.sliceBounds isS n cap lo' hi' none).run P w = .ok (l, h, cap) w ∧ l ≤ h ∧ h ≤ n := by
  unfold bndA at e
  cases hi with
  | none =>
    cases hi' with
    | some _ => exact hh.elim
    | none =>
      cases lo with
      | none =>
        cases lo' with
        | some _ => exact hl.elim
        | none =>
          simp only at e; cases e
          exact ⟨by simp [Instr.sliceBounds], by omega, by omega⟩
      | some a =>
        cases lo' with
        | none => exact hl.elim
        | some x =>
          simp only at e
          split at e
          · cases ‹some a = none›
          · rename_i k i e1
            cases e1
            split at e
            · rename_i hb
              cases e
              have hx : x = .int k i := by simpa [relO, relT, rel] using hl
              subst hx
              exact ⟨by simp [Instr.sliceBounds, run_sliceBound hb], by omega, by omega⟩
            · cases e
          · cases e
  | some a =>
    cases hi' with
    | none => exact hh.elim
    | some x =>
      simp only at e
      split at e
      · cases ‹some a = none›
      · rename_i k i e1
        cases e1
        split at e
        · rename_i hb
          have hx : x = .int k i := by simpa [relO, relT, rel] using hh
          subst hx
          have hbc : 0 ≤ i ∧ i ≤ (cap : Int) := ⟨hb.1, by omega⟩
          cases lo with
          | none =>
            cases lo' with
            | some _ => exact hl.elim
            | none =>
              simp only at e; cases e
              exact ⟨by simp [Instr.sliceBounds, run_sliceBound hbc], by omega, by omega⟩
          | some a =>
            cases lo' with
            | none => exact hl.elim
            | some x =>
              split at e
              · cases ‹some a = none›
              · rename_i k2 j e1
                cases e1
                split at e
                · rename_i hb2
                  cases e
                  have hx : x = .int k2 j := by simpa [relO, relT, rel] using hl
                  subst hx
                  have hb3 : 0 ≤ j ∧ j ≤ ((i.toNat : Nat) : Int) := by omega
                  exact ⟨by simp [Instr.sliceBounds, run_sliceBound hbc, run_sliceBound hb3], by omega, by omega⟩
                · cases e
              · cases e
        · cases e
      · cases e

theorem drop_take_split {α : Type} (ys : List α) (l h : Nat) (hlh : l ≤ h) : ys = ys.take l ++ ((ys.take h).drop l ++ ys.drop h) := by
  have h1 : (ys.take h).take l ++ (ys.take h).drop l = ys.take h := List.take_append_drop _ _
  rw [List.take_take, Nat.min_eq_left hlh] at h1
  rw [← List.append_assoc, h1, List.take_append_drop]
theorem cellsL_append (a b : List Value) : cellsL (a ++ b) = cellsL a ++ cellsL b := by simp [cellsL]
theorem cellsL_length {e : Nat} : ∀ {ys : List Value}, (∀ y ∈ ys, y.cells.size = e) → (cellsL ys).length = ys.length * e
  | [], _ => by simp [cellsL]
  | y :: ys, h => by
    have ih := cellsL_length (ys := ys) (fun z hz => h z (List.mem_cons_of_mem _ hz))
    have h0 := h y (by simp)
    simp only [cellsL, List.flatMap_cons, List.length_append, List.length_cons] at ih ⊢
    rw [ih, Nat.succ_mul]
    simp [h0]; omega
theorem cellsL_take_drop {e : Nat} {ys : List Value} (he : ∀ y ∈ ys, y.cells.size = e) (l h : Nat) (hh : h ≤ ys.length) (hlh : l ≤ h) :
    cellsL ((ys.take h).drop l) <+: (cellsL ys).drop (l * e) := by
  have h2 : (cellsL (ys.take l)).length = l * e := by
    rw [cellsL_length (e := e) (fun y hy => he y (List.mem_of_mem_take hy))]
    simp [Nat.min_eq_left (Nat.le_trans hlh hh)]
  refine ⟨cellsL (ys.drop h), ?_⟩
  have e2 : cellsL ys = cellsL (ys.take l) ++ (cellsL ((ys.take h).drop l) ++ cellsL (ys.drop h)) := by
    rw [← cellsL_append, ← cellsL_append]
    exact congrArg cellsL (drop_take_split ys l h hlh)
  rw [e2, List.drop_append, h2, Nat.sub_self, List.drop_zero, List.drop_eq_nil_of_le (Nat.le_of_eq h2), List.nil_append]

theorem s_sls {x : Opd} {lo hi : Option Opd} {y : Operand} {lo' hi' : Option Operand} {t : TypeId} (hS : SRel B g blk w.heap S) (hx : relT g blk (ρ x) (ρ' y))
    (hlo : relO g blk (lo.map ρ) (lo'.map ρ')) (hhi : relO g blk (hi.map ρ) (hi'.map ρ')) (ho : o.op = .slice t y lo' hi' none)
    (ht : P.underlying t = some .string) (h : astep ρ d S (.sls x lo hi) = some (v, S')) : Res B g blk w d S' v ((execOp ρ' o).run P w) := by
  simp only [astep] at h
  split at h
  case h_2 => cases h
  rename_i u hu
  cases h
  unfold slsA at hu
  split at hu
  case h_2 => cases hu
  rename_i s ex
  rw [ex] at hx
  have hx' : ρ' y = .string ⟨⟨s⟩⟩ := by simpa [relT, rel] using hx
  cases e1 : bndA s.length (lo.map ρ) (hi.map ρ) with
  | none => rw [e1] at hu; cases hu
  | some lh =>
    obtain ⟨l, h⟩ := lh
    rw [e1] at hu
    cases hu
    obtain ⟨h1, h2, h3⟩ := bnd_sound (P := P) (w := w) (isS := false) (cap := s.length) hlo hhi (Nat.le_refl _) e1
    have hsz : (ByteArray.mk ⟨s⟩).size = s.length := rfl
    have hex : (ByteArray.mk ⟨s⟩).extract l h = ByteArray.mk ⟨(s.take h).drop l⟩ := by
      apply ByteArray.ext
      rw [ByteArray.data_extract]
      simp [List.extract_eq_take_drop, List.drop_take]
    have : (execOp ρ' o).run P w = .ok (.value (.string ⟨⟨(s.take h).drop l⟩⟩)) w := by
      simp only [execOp, ho, Instr.sliceAt, Sem.run_bind, run_und ht, Result.andThen_ok, Option.map_none, Instr.slice, hx', Option.isSome_none, Bool.false_eq_true, if_false, hsz, h1, Sem.run_pure, hex]
    rw [this]
    exact Res.value hS (by simp [relT, rel])

theorem rels_mem {g : Gh} : ∀ {vs : List AV} {xs : List Value} {x : Value}, rels g vs xs → x ∈ xs → ∃ v ∈ vs, rel g v x
  | [], xs, x, r, h => by simp at r; subst r; simp at h
  | a :: vs, xs, x, r, h => by
    obtain ⟨y, t, rfl, h2, h3⟩ := rels_cons_iff.1 r
    rcases List.mem_cons.1 h with rfl | h
    · exact ⟨a, by simp, h2⟩
    · obtain ⟨v, hv, hr⟩ := rels_mem h3 h
      exact ⟨v, List.mem_cons_of_mem _ hv, hr⟩

theorem wid_eq {xs : List AV} {ys : List Value} {e e0 : Nat} (h3 : rels g xs ys) (h5 : ∀ y ∈ ys, y.cells.size = e0) (hw : wid e xs = true) (hne : 0 < ys.length) : e0 = e := by
  obtain ⟨a, ha, hr⟩ := rels_mem h3 (List.getElem_mem hne)
  have g1 := h5 _ (List.getElem_mem hne)
  have g2 := rel_cells_len hr
  unfold wid at hw
  rw [List.all_eq_true] at hw
  have g3 := hw a ha
  simp only [Bool.and_eq_true, beq_iff_eq] at g3
  omega

theorem s_sl {e : Nat} {x : Opd} {lo hi : Option Opd} {y : Operand} {lo' hi' : Option Operand} {t el : TypeId} (hS : SRel B g blk w.heap S) (hx : relT g blk (ρ x) (ρ' y))
    (hlo : relO g blk (lo.map ρ) (lo'.map ρ')) (hhi : relO g blk (hi.map ρ) (hi'.map ρ')) (ho : o.op = .slice t y lo' hi' none)
    (ht : P.underlying t = some (.slice el)) (hn : sizeB P el = some e) (h : astep ρ d S (.sl e x lo hi) = some (v, S')) :
    Res B g blk w d S' v ((execOp ρ' o).run P w) := by
  have run : ∀ {a : Option Addr} {n cap l h : Nat}, ρ' y = .slice a n cap → n ≤ cap → bndA n (lo.map ρ) (hi.map ρ) = some (l, h) →
      (execOp ρ' o).run P w = .ok (.value (.slice (if cap = l then a else a.map (·.add (l * e))) (h - l) (cap - l))) w ∧ l ≤ h ∧ h ≤ n := by
    intro a n cap l h hy hc e1
    obtain ⟨h1, h2, h3⟩ := bnd_sound (P := P) (w := w) (isS := true) (cap := cap) hlo hhi hc e1
    refine ⟨?_, h2, h3⟩
    simp only [execOp, ho, Instr.sliceAt, Sem.run_bind, run_und ht, Result.andThen_ok, Option.map_none, Instr.slice, hy, h1, run_size hn, Sem.run_pure]
  simp only [astep] at h
  split at h
  case h_2 => cases h
  rename_i u hu
  cases h
  unfold slA at hu
  split at hu
  · rename_i ex
    rw [ex] at hx
    have hx' : ρ' y = .slice none 0 0 := by simpa [relT, rel] using hx
    split at hu
    · rename_i lh e1
      cases hu
      obtain ⟨l, h⟩ := lh
      obtain ⟨h1, h2, h3⟩ := run hx' (Nat.le_refl _) e1
      have : (execOp ρ' o).run P w = .ok (.value (.slice none 0 0)) w := by
        rw [h1]
        have hh : h = 0 := by omega
        have hl : l = 0 := by omega
        subst hh; subst hl
        rfl
      rw [this]
      exact Res.value hS (by simp [relT, rel])
    · cases hu
  · rename_i tk xs ex
    rw [ex] at hx
    obtain ⟨b, q, cap, L, ys, e0, h1, h0, h2, h3, h4, h5, h6⟩ := hx
    split at hu
    · rename_i l h e1
      split at hu
      case isFalse => cases hu
      rename_i hwid
      cases hu
      obtain ⟨hr, hlh, hhn⟩ := run h1 h0 e1
      rw [hr]
      have hlen := rels_length h3
      have hcl := cellsL_length h5
      refine Res.value hS (relT_of ?_)
      by_cases hcap : cap = l
      · have hl0 : h = l := by omega
        subst hl0
        rw [if_pos hcap]
        simp only [rel]
        refine ⟨b, q, cap - h, L, [], e0, ?_, by simp, h2, ?_, ?_, by simp, ?_⟩
        · simp
        · simp
        · simp [cellsL]
        · intro i hi
          simp at hi
      · rw [if_neg hcap]
        simp only [rel, Option.map_some, add_none]
        have hnil : l < h ∨ l = h := by omega
        rcases hnil with hnil | hnil
        · refine ⟨b, q + l * e0, cap - l, L, (ys.take h).drop l, e0, ?_, ?_, h2, rels_drop l (rels_take h h3), ?_, ?_, ?_⟩
          · have he : e0 = e := wid_eq h3 h5 hwid (by omega)
            subst he
            simp [Nat.min_eq_left hhn]
          · simp [Nat.min_eq_left hhn]; omega
          · have := (cellsL_take_drop h5 l h (by omega) hlh).trans (prefix_drop (l * e0) h4)
            rwa [List.drop_drop] at this
          · exact fun z hz => h5 z (List.mem_of_mem_take (List.mem_of_mem_drop hz))
          · intro i hi
            split at hi
            · rename_i hc
              obtain ⟨z, g1, g2, g3, g4, g5⟩ := h6 i hi
              refine ⟨z, g1, g2, ?_, ?_, ?_⟩
              · rw [g3, cellsL_length (e := e0) (fun z hz => h5 z (List.mem_of_mem_take (List.mem_of_mem_drop hz))), hcl]
                simp only [List.length_drop, List.length_take]
                rw [Nat.min_eq_left (by omega), Nat.add_assoc, ← Nat.add_mul]
                congr 2; omega
              · simp; omega
              · have : l * e0 + (cap - l) * e0 = cap * e0 := by rw [← Nat.add_mul]; congr 1; omega
                omega
            · cases hi
        · subst hnil
          refine ⟨b, q + l * e, cap - l, L, [], e0, ?_, ?_, h2, ?_, ?_, by simp, ?_⟩
          · simp
          · simp
          · have : (List.take l xs).drop l = [] := List.drop_eq_nil_of_le (by simp; omega)
            rw [this]; simp
          · simp [cellsL]
          · intro i hi
            simp at hi
    · cases hu
  · rename_i i e' q n ex
    rw [ex] at hx
    obtain ⟨z, cap, h1, h2, h3, h4⟩ := hx
    split at hu
    · rename_i l h e1
      split at hu
      · rename_i hc
        cases hu
        obtain ⟨rfl, hc⟩ := hc
        obtain ⟨hr, hlh, hhn⟩ := run h2 h3 e1
        rw [hr]
        refine Res.value hS (relT_of ?_)
        simp only [rel]
        refine ⟨z, cap - l, h1, ?_, by omega, ?_⟩
        · by_cases hcap : cap = l
          · have : l = 0 := by omega
            subst this
            simp [hcap]
          · rw [if_neg hcap]
            simp only [Option.map_some, add_none, Nat.add_assoc]
        · have : l * e' + (cap - l) * e' = cap * e' := by rw [← Nat.add_mul]; congr 1; omega
          omega
      · cases hu
    · cases hu
  · cases hu

end
end Go.Ab

/- Lengths, the greater of two, look-ups, function values, aggregates. -/
namespace Go.Ab
section
variable {B : Nat} {P : Program} {g : Gh} {blk : Nat → Option Nat} {w : World} {S S' : AS} {ρ : Opd → AV} {ρ' : Operand → Value} {d : Option Nat} {o : Oper} {v : AV}

theorem builtin_call {b : Builtin} {n : Nat} {as : Array Operand} {ts : Array TypeId} (h : builtinB o b n = some (as, ts)) :
    o.op = .call { callee := .builtin b, args := as, argTypes := ts } ∧ as.size = n ∧ ts.size = n := by
  unfold builtinB at h
  split at h
  · rename_i b' as' ts' e
    split at h
    · rename_i hc
      cases h
      obtain ⟨rfl, h1, h2⟩ := hc
      exact ⟨e, h1, h2⟩
    · cases h
  · cases h

theorem run_builtin {b : Builtin} {as : Array Operand} {ts : Array TypeId} (ho : o.op = .call { callee := .builtin b, args := as, argTypes := ts }) :
    execOp ρ' o = builtin b ts o.type (as.map fun | .const _ => true | _ => false) (as.map ρ') := by
  simp only [execOp, ho, resolve, pure_bind, invoke]
  rfl

theorem s_len {k : LK} {x : Opd} {y : Operand} {t : TypeId} {as : Array Operand} {ts : Array TypeId} (hS : SRel B g blk w.heap S) (hx : relT g blk (ρ x) (ρ' y))
    (ho : builtinB o .len 1 = some (as, ts)) (ha : as[0]? = some y) (hts : ts[0]? = some t)
    (ht : (match k, P.underlying t with | .s, some .string | .l, some (.slice _) | .m, some (.map ..) => true | _, _ => false) = true)
    (h : astep ρ d S (.len k x) = some (v, S')) : Res B g blk w d S' v ((execOp ρ' o).run P w) := by
  obtain ⟨ho, h1, h2⟩ := builtin_call ho
  have ha' : (as.map ρ')[0]? = some (ρ' y) := by simp [ha]
  have run : ∀ {n : Nat} {ds : TypeDesc}, P.underlying t = some ds → (Builtin.len_ ts o.type (as.map ρ')).run P w = .ok (goInt n) w → (execOp ρ' o).run P w = .ok (.value (.int .i64 n)) w := by
    intro n ds _ hr
    rw [run_builtin ho]
    simp only [builtin, Sem.run_bind, hr, Result.andThen_ok, Sem.run_pure, goInt]
  simp only [astep] at h
  split at h
  case h_2 => cases h
  rename_i n hn
  cases h
  have fin : (execOp ρ' o).run P w = .ok (.value (.int .i64 n)) w → Res B g blk w d S (.int .i64 n) ((execOp ρ' o).run P w) := by
    intro hr; rw [hr]; exact Res.value hS (by simp [relT, rel])
  refine fin ?_
  unfold lenA at hn
  split at hn
  · rename_i s ex
    cases hn
    rw [ex] at hx
    have hx' : ρ' y = .string ⟨⟨s⟩⟩ := by simpa [relT, rel] using hx
    split at ht
    · rename_i hu
      refine run hu ?_
      simp only [Builtin.len_, hts, ha', Sem.run_bind, run_und hu, Result.andThen_ok, hx', Sem.run_pure]
      rfl
    · rename_i e _; cases e
    · rename_i e _; cases e
    · cases ht
  · rename_i ex
    cases hn
    rw [ex] at hx
    have hx' : ρ' y = .slice none 0 0 := by simpa [relT, rel] using hx
    split at ht
    · rename_i e _; cases e
    · rename_i hu
      refine run hu ?_
      simp only [Builtin.len_, hts, ha', Sem.run_bind, run_und hu, Result.andThen_ok, hx', Sem.run_pure]
    · rename_i e _; cases e
    · cases ht
  · rename_i tk xs ex
    cases hn
    rw [ex] at hx
    obtain ⟨b, q, cap, L, ys, e0, hx', _⟩ := hx
    split at ht
    · rename_i e _; cases e
    · rename_i hu
      refine run hu ?_
      simp only [Builtin.len_, hts, ha', Sem.run_bind, run_und hu, Result.andThen_ok, hx', Sem.run_pure]
    · rename_i e _; cases e
    · cases ht
  · rename_i ex
    cases hn
    rw [ex] at hx
    obtain ⟨l, cap, _, hx', _⟩ := hx
    split at ht
    · rename_i e _; cases e
    · rename_i hu
      refine run hu ?_
      simp only [Builtin.len_, hts, ha', Sem.run_bind, run_und hu, Result.andThen_ok, hx', Sem.run_pure]
    · rename_i e _; cases e
    · cases ht
  · rename_i ex
    cases hn
    rw [ex] at hx
    have hx' : ρ' y = .map none := by simpa [relT, rel] using hx
    split at ht
    · rename_i e _; cases e
    · rename_i e _; cases e
    · rename_i hu
      refine run hu ?_
      simp only [Builtin.len_, hts, ha', Sem.run_bind, run_und hu, Result.andThen_ok, hx', Sem.run_pure]
      rfl
    · cases ht
  · rename_i i ex
    split at hn
    · rename_i es hi
      cases hn
      rw [ex] at hx
      obtain ⟨l, hl, hx'⟩ := hx
      obtain ⟨_, c, ck, hc, hm⟩ := hS.W.obj i _ l hi hl
      have hml : ∀ {es : List (AV × AV)} {l : List MapEntry}, mrel g es l → l.length = es.length := by
        intro es
        induction es with
        | nil => intro l h; simp only [mrel] at h; simp [h]
        | cons a r ih =>
          obtain ⟨k, v⟩ := a
          intro l h
          obtain ⟨e, t, rfl, _, _, h4⟩ := h
          simp [ih h4]
      have hlen := hml hm
      split at ht
      · rename_i e _; cases e
      · rename_i e _; cases e
      · rename_i hu
        refine run hu ?_
        simp only [Builtin.len_, hts, ha', Sem.run_bind, run_und hu, Result.andThen_ok, hx', getObj, Sem.run, hc, Sem.run_pure]
        simp at hlen
        rw [hlen]
      · cases ht
    · cases hn
  · cases hn

theorem s_mx {least : Bool} {x y : Opd} {x' y' : Operand} {as : Array Operand} {ts : Array TypeId} (hS : SRel B g blk w.heap S) (hx : relT g blk (ρ x) (ρ' x')) (hy : relT g blk (ρ y) (ρ' y'))
    (ho : builtinB o (if least then .min else .max) 2 = some (as, ts)) (ha : as[0]? = some x') (hb : as[1]? = some y')
    (h : astep ρ d S (.mx least x y) = some (v, S')) : Res B g blk w d S' v ((execOp ρ' o).run P w) := by
  obtain ⟨ho, h1, h2⟩ := builtin_call ho
  have has : as.map ρ' = #[ρ' x', ρ' y'] := by
    apply Array.ext
    · simp [h1]
    · intro i hi hi'
      simp at hi'
      rcases (by omega : i = 0 ∨ i = 1) with rfl | rfl
      · have := (Array.getElem?_eq_some_iff.1 ha).2; simp [this]
      · have := (Array.getElem?_eq_some_iff.1 hb).2; simp [this]
  simp only [astep] at h
  split at h
  · rename_i k a k' b ea eb
    split at h
    · rename_i hk
      subst hk
      cases h
      rw [ea] at hx; rw [eb] at hy
      have hx' : ρ' x' = .int k a := by simpa [relT, rel] using hx
      have hy' : ρ' y' = .int k b := by simpa [relT, rel] using hy
      have : (execOp ρ' o).run P w = .ok (.value (.int k (if least then min a b else max a b))) w := by
        rw [run_builtin ho]
        cases least
        · have e : (if b > a then b else a) = max a b := by simp only [Int.max_def]; split <;> split <;> omega
          simp only [Bool.false_eq_true, if_false, builtin, Builtin.max_, has, hx', hy', List.foldlM_cons, List.foldlM_nil, Builtin.max2, Sem.run_bind, Sem.run_pure, Result.andThen_ok, e]
        · have e : (if b < a then b else a) = min a b := by simp only [Int.min_def]; split <;> split <;> omega
          simp only [if_true, builtin, Builtin.min_, has, hx', hy', List.foldlM_cons, List.foldlM_nil, Builtin.min2, Sem.run_bind, Sem.run_pure, Result.andThen_ok, e]
      rw [this]
      exact Res.value hS (by simp [relT, rel])
    · cases h
  · cases h

theorem sq_same {bk : BK} {x y : AV} {a b : Value} {r : Bool} (hx : rel g x a) (hy : rel g y b) (h : sq bk x y = some r) {t : TypeId} {ds : TypeDesc} (hb : bkB P t bk = true)
    (hu : P.underlying t = some ds) : Instr.sameNow ds a b = some r := by
  unfold sq at h
  unfold bkB at hb
  split at h
  · rename_i k i k' j
    split at h
    · rename_i hk
      subst hk
      cases h
      simp only [rel] at hx hy
      subst hx; subst hy
      simp only [hu] at hb
      split at hb
      · rename_i e; cases e; simp [Instr.sameNow]
      · cases hb
    · cases h
  · cases h
    simp only [rel] at hx hy
    subst hx; subst hy
    simp only [hu] at hb
    split at hb
    · rename_i e; cases e; simp [Instr.sameNow]
    · cases hb
  · cases h
    simp only [rel] at hx hy
    subst hx; subst hy
    simp only [hu] at hb
    split at hb
    · rename_i e; cases e
      simp only [Instr.sameNow, beq_toListBytes, str_toList]
    · cases hb
  · cases h

theorem findA_sound {bk : BK} {k : AV} {k' : Value} {t : TypeId} {ds : TypeDesc} (hk : rel g k k') (hb : bkB P t bk = true) (hu : P.underlying t = some ds) :
    ∀ {es : List (AV × AV)} {l : List MapEntry} (i : Nat) {r : Option AV}, mrel g es l → findA bk k es = some r →
      (r = none ∧ Instr.findNow ds k' l i = some none) ∨ ∃ u j x, r = some u ∧ Instr.findNow ds k' l i = some (some (j, x)) ∧ rel g u x
  | [], l, i, r, hm, h => by
    simp only [mrel] at hm
    subst hm
    simp only [findA] at h
    cases h
    exact .inl ⟨rfl, rfl⟩
  | (a, u) :: es, l, i, r, hm, h => by
    obtain ⟨e, t', rfl, h1, h2, h3⟩ := hm
    simp only [findA] at h
    split at h
    · rename_i hq
      cases h
      refine .inr ⟨u, i, e.val, rfl, ?_, h2⟩
      simp [Instr.findNow, sq_same hk h1 hq hb hu]
    · rename_i hq
      have ih := findA_sound hk hb hu (i + 1) h3 h
      simpa [Instr.findNow, sq_same hk h1 hq hb hu] using ih
    · cases h

theorem run_checkKey {bk : BK} {k : AV} {k' : Value} {t : TypeId} {b : Bool} {n : Nat} (hk : rel g k k') (hkey : AV.key bk k = true) (hb : bkB P t bk = true) :
    (Instr.checkKey b (n + 1) t k').run P w = .ok () w := by
  unfold AV.key at hkey
  unfold bkB at hb
  split at hkey
  · simp only [rel] at hk; subst hk
    simp only at hb
    split at hb
    · rename_i e; simp [Instr.checkKey, run_und e]
    · cases hb
  · simp only [rel] at hk; subst hk
    simp only at hb
    split at hb
    · rename_i e; simp [Instr.checkKey, run_und e]
    · cases hb
  · simp only [rel] at hk; subst hk
    simp only at hb
    split at hb
    · rename_i e; simp [Instr.checkKey, run_und e]
    · cases hb
  · cases hkey

theorem key_proper {bk : BK} {k : AV} (h : AV.key bk k = true) : k.proper = true := by
  unfold AV.key at h
  split at h <;> first | rfl | cases h

theorem s_lkp {bk : BK} {z : AV} {zv : Value} {ok : Bool} {m k : Opd} {m' k' : Operand} {t kt et : TypeId} (hS : SRel B g blk w.heap S) (hm : relT g blk (ρ m) (ρ' m')) (hk : relT g blk (ρ k) (ρ' k'))
    (ho : o.op = .lookup t m' k' ok) (ht : P.underlying t = some (.map kt et)) (hb : bkB P kt bk = true) (hz : (P.info? et).bind (·.zero) = some zv) (hzr : constOk z zv = true)
    (h : astep ρ d S (.lkp bk z ok m k) = some (v, S')) : Res B g blk w d S' v ((execOp ρ' o).run P w) := by
  simp only [astep] at h
  split at h
  case isFalse => cases h
  rename_i hkey
  have hk' := relT_proper hk (key_proper hkey)
  have zrel : rel g z zv := constOk_rel hzr
  have hkt : ∃ ds, P.underlying kt = some ds := by
    unfold bkB at hb
    cases bk <;> simp only at hb <;> split at hb <;> first | (exact ⟨_, by assumption⟩) | cases hb
  obtain ⟨ds, hds⟩ := hkt
  have tail : ∀ {es : List (AV × AV)} {l : List MapEntry} {r : Option AV}, mrel g es l → findA bk (ρ k) es = some r →
      ∃ x r', (Instr.findKey kt (ρ' k') l).run P w = .ok r' w ∧ ((r = none ∧ r' = none) ∨ ∃ u j, r = some u ∧ r' = some (j, x) ∧ rel g u x) := by
    intro es l r hm hf
    rcases findA_sound hk' hb hds 0 hm hf with ⟨h1, h2⟩ | ⟨u, j, x, h1, h2, h3⟩
    · exact ⟨undef, none, by simp [Instr.findKey, run_und hds, h2], .inl ⟨h1, rfl⟩⟩
    · exact ⟨x, some (j, x), by simp [Instr.findKey, run_und hds, h2], .inr ⟨u, j, h1, rfl, h3⟩⟩
  have fin : ∀ {es : Array MapEntry} {r : Option AV} {aes : List (AV × AV)}, mrel g aes es.toList → findA bk (ρ k) aes = some r →
      (∀ (r' : Option (Nat × Value)), (Instr.checkKey es.isEmpty 10000 kt (ρ' k')).run P w = .ok () w → (Instr.findKey kt (ρ' k') es.toList).run P w = .ok r' w →
        (execOp ρ' o).run P w = .ok (.value (if ok then .tuple #[(r'.map (·.2)).getD zv, .bool r'.isSome] else (r'.map (·.2)).getD zv)) w) →
      Res B g blk w d S (if ok then .tuple [r.getD z, .bool r.isSome] else r.getD z) ((execOp ρ' o).run P w) := by
    intro es r aes hm hf hgo
    obtain ⟨x, r', h1, h2⟩ := tail hm hf
    have hck := run_checkKey (P := P) (w := w) (b := es.isEmpty) (n := 9999) hk' hkey hb
    rw [hgo r' hck h1]
    rcases h2 with ⟨rfl, rfl⟩ | ⟨u, j, rfl, rfl, hr⟩
    · refine Res.value hS (relT_of ?_)
      cases ok
      · simpa using zrel
      · simp only [if_true, Option.getD_none, Option.isSome_none, rel, Option.map_none]
        exact ⟨[zv, .bool false], rfl, by simp [zrel, rel]⟩
    · refine Res.value hS (relT_of ?_)
      cases ok
      · simpa using hr
      · simp only [if_true, Option.getD_some, Option.isSome_some, rel, Option.map_some]
        exact ⟨[x, .bool true], rfl, by simp [hr, rel]⟩
  split at h
  case h_2 => cases h
  rename_i r hr
  cases h
  split at hr
  · rename_i e
    cases hr
    rw [e] at hm
    have hm' : ρ' m' = .map none := by simpa [relT, rel] using hm
    refine fin (es := #[]) (aes := []) (r := none) (by simp [mrel]) rfl (fun r' h1 h2 => ?_)
    simp only [execOp, ho, Instr.lookup, Sem.run_bind, run_und ht, Result.andThen_ok, hm', Sem.run_pure, h1, h2]
    cases r' <;> simp [run_zero hz]
  · rename_i i e
    split at hr
    · rename_i es hi
      rw [e] at hm
      obtain ⟨l, hl, hm'⟩ := hm
      obtain ⟨_, c, ck, hc, hmr⟩ := hS.W.obj i _ l hi hl
      refine fin (es := c) hmr hr (fun r' h1 h2 => ?_)
      simp only [execOp, ho, Instr.lookup, Sem.run_bind, run_und ht, Result.andThen_ok, hm', getObj, Sem.run, hc, Sem.run_pure, h1, h2]
      cases r' <;> simp [run_zero hz]
    · cases hr
  · cases hr

/-- Operands that stand for one another, in order. -/
def relLs (g : Gh) (blk : Nat → Option Nat) : List AV → List Value → Prop
  | [], [] => True
  | a :: as, x :: xs => relT g blk a x ∧ relLs g blk as xs
  | _, _ => False

theorem relLs_rels : ∀ {as : List AV} {xs : List Value}, relLs g blk as xs → as.all AV.proper = true → rels g as xs
  | [], [], _, _ => by simp
  | a :: as, x :: xs, h, hp => by
    simp only [List.all_cons, Bool.and_eq_true] at hp
    exact rels_cons_cons.2 ⟨relT_proper h.1 hp.1, relLs_rels h.2 hp.2⟩
  | [], _ :: _, h, _ => h.elim
  | _ :: _, [], h, _ => h.elim

theorem s_mkf {fn : Fn} {first caps : List Opd} {a b : Array Operand} (hS : SRel B g blk w.heap S) (h1 : relLs g blk (first.map ρ) (a.toList.map ρ')) (h2 : relLs g blk (caps.map ρ) (b.toList.map ρ'))
    (ho : o.op = .makeFunc fn a b) (h : astep ρ d S (.mkf fn first caps) = some (v, S')) : Res B g blk w d S' v ((execOp ρ' o).run P w) := by
  simp only [astep] at h
  split at h
  · rename_i hp
    cases h
    simp only [execOp, ho, Instr.makeFunc, Sem.run_bind, Sem.run_pure, Result.andThen_ok]
    refine Res.value hS (relT_of ?_)
    simp only [rel]
    exact ⟨a.toList.map ρ', b.toList.map ρ', by rw [← Array.toList_map, ← Array.toList_map, Array.toArray_toList, Array.toArray_toList], relLs_rels h1 hp.1, relLs_rels h2 hp.2⟩
  · cases h

end
end Go.Ab

/- The operations that make memory or write it: stores, new locals, new objects, aggregates. -/
namespace Go.Ab
section
variable {B : Nat} {P : Program} {g : Gh} {blk : Nat → Option Nat} {w : World} {S S' : AS} {ρ : Opd → AV} {ρ' : Operand → Value} {d : Option Nat} {o : Oper} {v : AV}

theorem heap_setCell {w : World} {b o : Nat} {c : Array Value} {T : TypeId} {x : Value} (hb : w.heap[b]? = some (.cells c T (0, 0))) :
    (w.setCell ⟨b, o, none⟩ x).heap.size = w.heap.size ∧ (∀ y, y ≠ b → (w.setCell ⟨b, o, none⟩ x).heap[y]? = w.heap[y]?) ∧
    (w.setCell ⟨b, o, none⟩ x).heap[b]? = some (.cells (c.setIfInBounds o x) T (0, 0)) := by
  refine ⟨by simp [World.setCell], fun y hy => ?_, ?_⟩
  · simp only [World.setCell, Array.getElem?_modify]
    rw [if_neg (fun h => hy h.symm)]
  · simp only [World.setCell, Array.getElem?_modify, if_true]
    rw [hb]
    simp

theorem run_storeCells {b o : Nat} {T : TypeId} : ∀ (vs : List Value) (i : Nat) (w : World) (c : Array Value), w.heap[b]? = some (.cells c T (0, 0)) → (∀ v ∈ vs, v.oneCell' = true) →
    o + i + vs.length ≤ c.size → ∃ w' c', (storeCells ⟨b, o, none⟩ vs i).run P w = .ok () w' ∧ w'.heap.size = w.heap.size ∧ (∀ x, x ≠ b → w'.heap[x]? = w.heap[x]?) ∧
      w'.heap[b]? = some (.cells c' T (0, 0)) ∧ c'.toList = c.toList.take (o + i) ++ vs ++ c.toList.drop (o + i + vs.length) ∧ w'.os = w.os ∧ w'.output = w.output
  | [], i, w, c, hb, _, _ => ⟨w, c, rfl, rfl, fun _ _ => rfl, hb, by simp, rfl, rfl⟩
  | v :: vs, i, w, c, hb, h1, hsz => by
    obtain ⟨e1, e2, e3⟩ := heap_setCell (o := o + i) (x := v) hb
    simp at hsz
    have hlt : o + i < c.size := by omega
    obtain ⟨w', c', r1, r2, r3, r4, r5, ro⟩ := run_storeCells (o := o) vs (i + 1) (w.setCell ⟨b, o + i, none⟩ v) (c.setIfInBounds (o + i) v) e3 (fun x hx => h1 x (List.mem_cons_of_mem _ hx)) (by simp; omega)
    have hcell : w.cell? ⟨b, o + i, none⟩ = some c[o + i] := by rw [cell_of rfl hb]; simp [hlt]
    have hfr : w.frozen? ⟨b, o + i, none⟩ = false := by unfold World.frozen?; rw [hb]; simp
    refine ⟨w', c', ?_, r2.trans e1, fun x hx => (r3 x hx).trans (e2 x hx), r4, ?_, ro.1, ro.2⟩
    · simp only [storeCells, add_none, Sem.run_bind, run_store P w _ v .plain (h1 v (by simp)), hcell, hfr, Bool.false_eq_true, if_false, Result.andThen_ok]
      exact r1
    · rw [r5, Array.toList_setIfInBounds]
      have hlt' : o + i < c.toList.length := by simpa using hlt
      apply List.ext_getElem?
      intro n
      have hlen : (c.toList.set (o + i) v).length = c.toList.length := by simp
      rcases Nat.lt_trichotomy n (o + i) with hn | hn | hn
      · rw [List.getElem?_append_left (by simp; omega), List.getElem?_append_left (by simp; omega), List.getElem?_take_of_lt (by omega), List.getElem?_set_ne (by omega),
          List.getElem?_append_left (by simp; omega), List.getElem?_append_left (by simp; omega), List.getElem?_take_of_lt hn]
      · subst hn
        rw [List.getElem?_append_left (by simp; omega), List.getElem?_append_left (by simp; omega), List.getElem?_take_of_lt (by omega), List.getElem?_set_self hlt',
          List.getElem?_append_left (by simp; omega), List.getElem?_append_right (by simp; omega)]
        simp [Nat.min_eq_left (Nat.le_of_lt hlt)]
      · by_cases hn2 : n < o + (i + 1) + vs.length
        · rw [List.getElem?_append_left (by simp; omega), List.getElem?_append_right (by simp; omega), List.getElem?_append_left (by simp; omega), List.getElem?_append_right (by simp; omega)]
          simp only [List.length_take, List.length_set, Array.length_toList]
          rw [Nat.min_eq_left (by omega), Nat.min_eq_left (by omega), show n - (o + i) = (n - (o + (i + 1))) + 1 from by omega, List.getElem?_cons_succ]
        · rw [List.getElem?_append_right (by simp; omega), List.getElem?_append_right (by simp; omega), List.getElem?_drop, List.getElem?_drop, List.getElem?_set_ne (by simp; omega)]
          congr 1
          simp
          omega

theorem splice_shift {α : Type} (A Y r x : List α) {q : Nat} (h : q + x.length ≤ Y.length) :
    ((A ++ (Y ++ r)).take (A.length + q) ++ x ++ (A ++ (Y ++ r)).drop (A.length + q + x.length)).drop A.length = Y.take q ++ x ++ Y.drop (q + x.length) ++ r := by
  rw [List.take_length_add_append, Nat.add_assoc, List.drop_length_add_append, List.append_assoc, List.append_assoc, List.drop_left,
    List.take_append_of_le_length (by omega), List.drop_append_of_le_length h]
  simp
theorem rels_splice {g : Gh} {cs vs : List AV} {ys xs : List Value} (o : Nat) (h : rels g cs ys) (h' : rels g vs xs) :
    rels g (splice cs o vs) (ys.take o ++ xs ++ ys.drop (o + xs.length)) := by
  unfold splice
  rw [← rels_length h']
  exact rels_append (rels_append (rels_take o h) h') (rels_drop _ h)
theorem splice_scalar {cs vs : List AV} {o : Nat} (h : cs.all AV.scalar = true) (h' : vs.all AV.scalar = true) : (splice cs o vs).all AV.scalar = true := by
  unfold splice
  rw [List.all_eq_true] at *
  intro x hx
  simp only [List.mem_append] at hx
  rcases hx with (hx | hx) | hx
  · exact h x (List.mem_of_mem_take hx)
  · exact h' x hx
  · exact h x (List.mem_of_mem_drop hx)
theorem okv_cells {v : AV} {x : Value} (h : rel g v x) (hv : v.okv = true) : v.cells.all AV.scalar = true ∧ rels g v.cells x.cells.toList ∧ ∀ y ∈ x.cells.toList, y.oneCell' = true := by
  have h1 := rel_cells h
  have h0 : v.cells.all AV.scalar = true := by
    cases v <;> simp only [rel] at h <;> (try exact h.elim) <;> (try (simp [AV.cells, AV.scalar]; done)) <;> (try (simp [AV.okv] at hv; done))
    obtain ⟨_, _, _, h2⟩ := h
    exact h2
  refine ⟨h0, h1, fun y hy => ?_⟩
  obtain ⟨a, ha, hr⟩ := rels_mem h1 hy
  rw [List.all_eq_true] at h0
  exact (rel_oneCell hr (h0 a ha)).1

theorem run_storeVar {t : TypeId} {n b o : Nat} {x : Value} {c : Array Value} {T : TypeId} (hn : sizeB P t = some n) (hx : x.cells.size = n) (h1 : ∀ y ∈ x.cells.toList, y.oneCell' = true)
    (hb : w.heap[b]? = some (.cells c T (0, 0))) (hsz : o + n ≤ c.size) : ∃ w' c', (storeVar t ⟨b, o, none⟩ x).run P w = .ok () w' ∧ w'.heap.size = w.heap.size ∧
      (∀ y, y ≠ b → w'.heap[y]? = w.heap[y]?) ∧ w'.heap[b]? = some (.cells c' T (0, 0)) ∧ c'.toList = c.toList.take o ++ x.cells.toList ++ c.toList.drop (o + x.cells.size) ∧ w'.os = w.os ∧ w'.output = w.output := by
  obtain ⟨w', c', r1, r2, r3, r4, r5, ro⟩ := run_storeCells (P := P) (o := o) x.cells.toList 0 w c hb h1 (by simp; omega)
  refine ⟨w', c', ?_, r2, r3, r4, by simpa using r5, ro⟩
  have : ¬ (x.cells.size ≠ n) := by omega
  simp only [storeVar, Sem.run_bind, run_size hn, Result.andThen_ok, if_neg this, Sem.run_ite]
  exact r1

theorem s_st {n : Nat} {x u : Opd} {y z : Operand} {t : TypeId} (hS : SRel B g blk w.heap S) (hx : relT g blk (ρ x) (ρ' y)) (hv : relT g blk (ρ u) (ρ' z)) (ho : o.op = .store t y z)
    (hn : sizeB P t = some n) (h : astep ρ d S (.st n x u) = some (v, S')) : Res B g blk w d S' v ((execOp ρ' o).run P w) := by
  simp only [astep] at h
  split at h
  case h_2 => cases h
  rename_i S1 hS1
  cases h
  unfold storeA at hS1
  split at hS1
  case isFalse => cases hS1
  rename_i hok
  obtain ⟨hok, hlen⟩ := hok
  have hv' := relT_okv hv hok
  obtain ⟨k1, k2, k3⟩ := okv_cells hv' hok
  have hsz : (ρ' z).cells.size = n := by rw [rel_cells_len hv', hlen]
  have fin : ∀ {b q : Nat} {w' : World}, ρ' y = .pointer (some ⟨b, q, none⟩) → (storeVar t ⟨b, q, none⟩ (ρ' z)).run P w = .ok () w' → (execOp ρ' o).run P w = .ok .skip w' := by
    intro b q w' e hr
    simp only [execOp, ho, Instr.storeAt, e, Instr.sureAddr, Sem.run_bind, Sem.run_pure, Result.andThen_ok, hr]
  split at hS1
  · rename_i i q ex
    split at hS1
    · rename_i cs hi
      split at hS1
      · rename_i hle
        cases hS1
        rw [ex] at hx
        obtain ⟨l, hl, hy⟩ := hx
        obtain ⟨h1, h0, c, T, ys, h2, h3, h4, h5, h6⟩ := hS.W.obj i _ l hi hl
        have hlen' := rels_length h3
        have hys : ys.length ≤ c.size - l.o := by
          have := h4.length_le
          simpa using this
        obtain ⟨w', c', r1, r2, r3, r4, r5, ro⟩ := run_storeVar (P := P) (t := t) (o := l.o + q) (x := ρ' z) (n := n) hn hsz k3 h2 (by omega)
        rw [fin hy r1]
        have hilt : i < S.hp.length := (List.getElem?_eq_some_iff.1 hi).1
        have st : Step w.heap.size g w.heap g w'.heap := by
          refine Step.of (Le.refl g) (by omega) (fun l hl => .inl hl) (fun b hb => .inl hb) (fun b _ pb => r3 b ?_)
          exact fun e => pb.obj l (List.mem_of_getElem? hl) e.symm
        have Wk := (hS.W.kill i).heap (h' := w'.heap) (by omega) (fun b m => r3 b (by
          rcases matters_kill m with m | ⟨j, o', l', hj, hj1, hj2, hj3, rfl⟩
          · rintro rfl
            exact m h1
          · intro e
            exact hj (hS.W.sep j i o' _ l' l hj1 hi hj2 trivial hj3 hl e)))
        have W' : WRel g (S.hp.set i (.cells (splice cs q (ρ u).cells))) w'.heap := by
          refine Wk.revive hilt hl ?_ (fun j o' l' hj hj1 hj2 hj3 e => hj (hS.W.sep j i o' _ l' l hj1 hi hj2 trivial hj3 hl e))
          refine ⟨h1, splice_scalar h0 k1, c', T, _, r4, rels_splice q h3 k2, ?_, ?_⟩
          · rw [r5]
            obtain ⟨r, hr⟩ := h4
            have hA : c.toList = c.toList.take l.o ++ (ys ++ r) := by rw [hr, List.take_append_drop]
            have e1 := splice_shift (c.toList.take l.o) ys r (ρ' z).cells.toList (q := q) (by simp; omega)
            rw [← hA, show (c.toList.take l.o).length = l.o from by simp; omega] at e1
            rw [show (ρ' z).cells.size = (ρ' z).cells.toList.length from by simp]
            rw [e1]
            exact ⟨r, rfl⟩
          · have : c'.size = c.size := by
              have := congrArg List.length r5
              simp at this
              omega
            omega
        exact ⟨.skip, Go.undef, w', g, blk, rfl, .inr ⟨rfl, rfl⟩, hS.step W' st, st.all.w ro.1 ro.2, rfl, .inl rfl⟩
      · cases hS1
    · cases hS1
  · rename_i s q ex
    split at hS1
    · rename_i cs hs
      split at hS1
      · rename_i hle
        cases hS1
        rw [ex] at hx
        obtain ⟨b, hb, hy⟩ := hx
        obtain ⟨h0, b', c, T, h1, h2, h3, h4, hB⟩ := hS.loc s cs hs
        rw [hb] at h1; cases h1
        have hlen' := rels_length h4
        obtain ⟨w', c', r1, r2, r3, r4, r5, ro⟩ := run_storeVar (P := P) (t := t) (o := q) (x := ρ' z) (n := n) hn hsz k3 h3 (by simp at hlen'; omega)
        rw [fin hy r1]
        have hp : ∀ b1, Priv g w.heap b1 → Priv g w'.heap b1 := fun b1 p => ⟨by have := p.lt; omega, p.imm, p.obj⟩
        have st : Step B g w.heap g w'.heap := ⟨Le.refl g, by omega, fun b1 hb1 p => ⟨hp b1 p, r3 b1 (by omega)⟩⟩
        have W' : WRel g S.hp w'.heap := hS.W.heap (by omega) (fun b1 m => r3 b1 (by
          rintro rfl
          rcases m with m | ⟨i, o', l, m1, _, m3, m4⟩
          · exact m h2.imm
          · exact h2.obj l (List.mem_of_getElem? m3) m4))
        have S' : SRel B g blk w'.heap { S with lo := put S.lo s (splice cs q (ρ u).cells) } := by
          refine ⟨by have := hS.base; omega, W', fun s1 cs1 e1 => ?_, fun s1 s2 b1 e1 e2 e3 e4 => ?_⟩
          · simp only [look_put] at e1
            split at e1
            · rename_i e
              subst e
              cases e1
              refine ⟨splice_scalar h0 k1, b, c', T, hb, hp b h2, r4, ?_, hB⟩
              rw [r5]
              exact rels_splice q h4 k2
            · rename_i e
              obtain ⟨g0, b2, c2, T2, g1, g2, g3, g4, g5⟩ := hS.loc s1 cs1 e1
              have hne : b2 ≠ b := by
                rintro rfl
                exact e (hS.inj s s1 b2 (by simp [hs]) (by simp [e1]) hb g1)
              exact ⟨g0, b2, c2, T2, g1, hp b2 g2, by rw [r3 b2 hne]; exact g3, g4, g5⟩
          · have aux : ∀ x, (look (put S.lo s (splice cs q (ρ u).cells)) x).isSome = true → (look S.lo x).isSome = true := by
              intro x hx
              rw [look_put] at hx
              split at hx
              · rename_i e; subst e; simp [hs]
              · exact hx
            exact hS.inj s1 s2 b1 (aux s1 e1) (aux s2 e2) e3 e4
        exact ⟨.skip, Go.undef, w', g, blk, rfl, .inr ⟨rfl, rfl⟩, S', st.w ro.1 ro.2, rfl, .inl rfl⟩
      · cases hS1
    · cases hS1
  · cases hS1

def updB (blk : Nat → Option Nat) (s b : Nat) : Nat → Option Nat := fun x => if x = s then some b else blk x

/-- A new local. -/
theorem SRel.newLocal {cs : List AV} {c : Array Value} {T : TypeId} (hS : SRel B g blk w.heap S) (s : Nat) (h0 : cs.all AV.scalar = true) (hr : rels g cs c.toList) :
    SRel B g (updB blk s w.heap.size) (w.heap.push (.cells c T (0, 0))) { S with lo := put S.lo s cs } := by
  have fr := hS.W.fresh (.cells c T (0, 0))
  have st : Step w.heap.size g w.heap g (w.heap.push (.cells c T (0, 0))) := Step.push _
  have hlt : ∀ s1 cs1 b1, look S.lo s1 = some cs1 → blk s1 = some b1 → b1 < w.heap.size := by
    intro s1 cs1 b1 e1 e2
    obtain ⟨_, b2, c2, T2, g1, g2, _⟩ := hS.loc s1 cs1 e1
    rw [g1] at e2; cases e2
    exact g2.lt
  refine ⟨by have := hS.base; simp; omega, hS.W.push _, fun s1 cs1 e1 => ?_, fun s1 s2 b1 e1 e2 e3 e4 => ?_⟩
  · simp only [look_put] at e1
    split at e1
    · rename_i e
      subst e
      cases e1
      exact ⟨h0, _, c, T, by simp [updB], fr, by simp, hr, hS.base⟩
    · rename_i e
      obtain ⟨g0, b2, c2, T2, g1, g2, g3, g4, g5⟩ := hS.loc s1 cs1 e1
      obtain ⟨p, e'⟩ := st.priv b2 g2.lt g2
      exact ⟨g0, b2, c2, T2, by simp [updB, Ne.symm e, g1], p, by rw [e']; exact g3, g4, g5⟩
  · simp only [look_put] at e1 e2
    simp only [updB] at e3 e4
    by_cases h1 : s1 = s
    · by_cases h2 : s2 = s
      · rw [h1, h2]
      · rw [if_pos h1] at e3
        rw [if_neg h2] at e4
        rw [if_neg (Ne.symm h2)] at e2
        cases e3
        obtain ⟨cs2, h3⟩ := Option.isSome_iff_exists.1 e2
        exact absurd (hlt s2 cs2 _ h3 e4) (by omega)
    · by_cases h2 : s2 = s
      · rw [if_pos h2] at e4
        rw [if_neg h1] at e3
        rw [if_neg (Ne.symm h1)] at e1
        cases e4
        obtain ⟨cs2, h3⟩ := Option.isSome_iff_exists.1 e1
        exact absurd (hlt s1 cs2 _ h3 e3) (by omega)
      · rw [if_neg h1] at e3
        rw [if_neg h2] at e4
        rw [if_neg (Ne.symm h1)] at e1
        rw [if_neg (Ne.symm h2)] at e2
        exact hS.inj s1 s2 b1 e1 e2 e3 e4

theorem Res.local {cs : List AV} {c : Array Value} {T : TypeId} {s : Nat} (hS : SRel B g blk w.heap S) (h0 : cs.all AV.scalar = true) (hr : rels g cs c.toList) :
    Res B g blk w (some s) { S with lo := put S.lo s cs } (.lref s 0) (.ok (.value (.pointer (some ⟨w.heap.size, 0, none⟩))) { w with heap := w.heap.push (.cells c T) }) := by
  refine ⟨_, _, _, g, updB blk s w.heap.size, rfl, .inl rfl, hS.newLocal s h0 hr, (Step.push _).w rfl rfl, ⟨_, by simp [updB], rfl⟩, .inr ⟨s, rfl, rfl, fun x hx => by simp [updB, hx]⟩⟩

theorem s_allocL {z : List AV} {t : TypeId} {zv : Value} (hS : SRel B g blk w.heap S) (ho : o.op = .alloc t) (hz : (P.info? t).bind (·.zero) = some zv) (hc : consts z zv.cells.toList = true)
    (h : astep ρ d S (.allocL z) = some (v, S')) : Res B g blk w d S' v ((execOp ρ' o).run P w) := by
  simp only [astep] at h
  cases d with
  | none => cases h
  | some s =>
    simp only at h
    cases h
    have : (execOp ρ' o).run P w = .ok (.value (.pointer (some ⟨w.heap.size, 0, none⟩))) { w with heap := w.heap.push (.cells zv.cells t) } := by
      simp only [execOp, ho, Instr.alloc, Sem.run_bind, run_zero hz, Result.andThen_ok, newVar, newRow, run_newObj, Sem.run_pure]
    rw [this]
    exact Res.local hS (consts_scalar hc) (consts_rels hc)

theorem s_boxL {x : Opd} {y : Operand} {t : TypeId} (hS : SRel B g blk w.heap S) (hx : relT g blk (ρ x) (ρ' y)) (ho : o.op = .box t y)
    (h : astep ρ d S (.boxL x) = some (v, S')) : Res B g blk w d S' v ((execOp ρ' o).run P w) := by
  simp only [astep] at h
  cases d with
  | none => cases h
  | some s =>
    simp only at h
    split at h
    · rename_i hok
      cases h
      obtain ⟨k1, k2, k3⟩ := okv_cells (relT_okv hx hok) hok
      have : (execOp ρ' o).run P w = .ok (.value (.pointer (some ⟨w.heap.size, 0, none⟩))) { w with heap := w.heap.push (.cells (ρ' y).cells t) } := by
        simp only [execOp, ho, Instr.box, newVar, newRow, Sem.run_bind, run_newObj, Result.andThen_ok, Sem.run_pure]
      rw [this]
      exact Res.local hS k1 k2
    · cases h

theorem le_addObj (g : Gh) (l : Loc) : Le g { g with obj := g.obj ++ [l] } := ⟨⟨_, rfl⟩, fun _ L e => ⟨L, e, List.prefix_refl _⟩⟩

/-- A new object in a new block. -/
theorem newCells {H : List AObj} {h : Heap} (W : WRel g H h) {cs : List AV} {c : Array Value} {T : TypeId} {ys : List Value} {lim : Nat} (h0 : cs.all AV.scalar = true) (hr : rels g cs ys)
    (hp : ys <+: c.toList) (hl : lim ≤ c.size) :
    WRel { g with obj := g.obj ++ [⟨h.size, 0, lim⟩] } (H ++ [.cells cs]) (h.push (.cells c T)) ∧ Step h.size g h { g with obj := g.obj ++ [⟨h.size, 0, lim⟩] } (h.push (.cells c T)) ∧
      (g.obj ++ [(⟨h.size, 0, lim⟩ : Loc)])[H.length]? = some ⟨h.size, 0, lim⟩ := by
  have W1 := W.push (.cells c T (0, 0))
  have fr := W.fresh (.cells c T (0, 0))
  have le := le_addObj g ⟨h.size, 0, lim⟩
  refine ⟨W1.adopt (l := ⟨h.size, 0, lim⟩) (by simp) ⟨fr.imm, h0, c, T, ys, by simp, rels_le le _ _ hr, by simpa using hp, hl, by simp⟩
    (fun j o' l' _ _ h3 => fr.obj l' (List.mem_of_getElem? h3)), ?_, ?_⟩
  · refine Step.of le (by simp) (fun l hl' => ?_) (fun b hb => .inl hb) (fun b hb _ => push_old hb)
    rcases List.mem_append.1 hl' with h1 | h1
    · exact .inl h1
    · simp at h1; subst h1; exact .inr (.inl (Nat.le_refl _))
  · rw [← W.len]; simp

theorem Res.object {cs : List AV} {c : Array Value} {T : TypeId} (hS : SRel B g blk w.heap S) (h0 : cs.all AV.scalar = true) (hr : rels g cs c.toList) :
    Res B g blk w d { S with hp := S.hp ++ [.cells cs] } (.ptr S.hp.length 0) (.ok (.value (.pointer (some ⟨w.heap.size, 0, none⟩))) { w with heap := w.heap.push (.cells c T) }) := by
  obtain ⟨W', st, hg⟩ := newCells (T := T) (lim := c.size) hS.W h0 hr (List.prefix_refl _) (Nat.le_refl _)
  exact ⟨_, _, _, _, blk, rfl, .inl rfl, hS.step W' st, st.all.w rfl rfl, ⟨_, hg, rfl⟩, .inl rfl⟩

theorem s_allocH {z : List AV} {t : TypeId} {zv : Value} (hS : SRel B g blk w.heap S) (ho : o.op = .alloc t) (hz : (P.info? t).bind (·.zero) = some zv) (hc : consts z zv.cells.toList = true)
    (h : astep ρ d S (.allocH z) = some (v, S')) : Res B g blk w d S' v ((execOp ρ' o).run P w) := by
  simp only [astep] at h
  cases h
  have : (execOp ρ' o).run P w = .ok (.value (.pointer (some ⟨w.heap.size, 0, none⟩))) { w with heap := w.heap.push (.cells zv.cells t) } := by
    simp only [execOp, ho, Instr.alloc, Sem.run_bind, run_zero hz, Result.andThen_ok, newVar, newRow, run_newObj, Sem.run_pure]
  rw [this]
  exact Res.object hS (consts_scalar hc) (consts_rels hc)

theorem s_boxH {x : Opd} {y : Operand} {t : TypeId} (hS : SRel B g blk w.heap S) (hx : relT g blk (ρ x) (ρ' y)) (ho : o.op = .box t y)
    (h : astep ρ d S (.boxH x) = some (v, S')) : Res B g blk w d S' v ((execOp ρ' o).run P w) := by
  simp only [astep] at h
  split at h
  · rename_i hok
    cases h
    obtain ⟨k1, k2, k3⟩ := okv_cells (relT_okv hx hok) hok
    have : (execOp ρ' o).run P w = .ok (.value (.pointer (some ⟨w.heap.size, 0, none⟩))) { w with heap := w.heap.push (.cells (ρ' y).cells t) } := by
      simp only [execOp, ho, Instr.box, newVar, newRow, Sem.run_bind, run_newObj, Result.andThen_ok, Sem.run_pure]
    rw [this]
    exact Res.object hS k1 k2
  · cases h

end
end Go.Ab
