/- What the functions come to (part 11). No conditions. -/
import Derived.Test.YtlncafbialfojaaGreatLmT3
set_option linter.unusedVariables false
set_option linter.unusedSimpArgs false
/- The reference for the instructions (palingref13): its own state on the heap, and its small functions. -/
namespace Go.Ab
open Go.Proofs

set_option maxRecDepth 100000
set_option maxHeartbeats 8000000
/-- The cells of the reference's own state. -/
def Rcells (P : Prg) (pi : Nat) (cv : AV) (rr : Int) (lv : AV) (fl : Bool) : List AV :=
  [sl (P.globals.map Glob.av), sl (P.locks.map Lok.av), sl (P.funcs.map Func.av), sl (P.threads.map Thr.av), .int .i64 0, .nils, .hs pi 4 0 P.globals.length, cv, .int .i64 rr, lv, .bool fl]
/-- The reference's own state on the heap. -/
structure Rw (o pi : Nat) (P : Prg) (c : List Ins) (rr : Int) (fl : Bool) (lv cv : AV) (H : List AObj) : Prop where
  ho : getH H o = some (.cells (Rcells P pi cv rr lv fl))
  hc : CV cv c H
  hp : getH H pi = some (.cells (P.plcs.flatMap Plc.cells))
  ne : pi ≠ o
  ni : pi ∉ hid cv
  lo : lv.okv = true ∧ lv.cells = [lv] ∧ lv.proper = true
  cl : c.length ≤ 4097
/-- The same, of a state, or of too much. -/
def Rq (e o pi : Nat) (P : Prg) (st : Option LS) (lv cv : AV) (H : List AObj) : Prop :=
  ∃ (c : List Ins) (rr : Int), Rw o pi P c rr st.isNone lv cv H ∧ match st with
    | some s => c = s.c ∧ rr = s.r ∧ s.r ≤ s.c.length + e
    | none => c.length = 4097
/-- What a step comes to. -/
def Rep {α : Type} (st : Option LS) (m : LM α) (x : α) (st' : Option LS) : Prop := match st.bind (m 4097) with
  | some (y, s') => x = y ∧ st' = some s'
  | none => st' = none
theorem Rep.ret {α : Type} (st : Option LS) (x : α) : Rep st (LM.ret x) x st := by
  cases st with
  | none => exact rfl
  | some s => exact ⟨rfl, rfl⟩
theorem Rep.none {α : Type} (m : LM α) (x : α) : Rep none m x none := rfl
theorem Rep.bind {α β : Type} {st st' st'' : Option LS} {m : LM α} {f : α → LM β} {x : α} {y : β} (h : Rep st m x st') (h' : Rep st' (f x) y st'') : Rep st (m.bind f) y st'' := by
  cases st with
  | none =>
    have : st' = Option.none := h
    subst this
    exact h'
  | some s =>
    simp only [Rep, Option.bind_some] at h ⊢
    cases hm : m 4097 s with
    | none =>
      rw [hm] at h
      simp only at h
      subst h
      rw [LM.bind_none hm]
      exact h'
    | some p =>
      obtain ⟨x1, s1⟩ := p
      rw [hm] at h
      simp only at h
      obtain ⟨rfl, rfl⟩ := h
      rw [LM.bind_some hm]
      exact h'
theorem Rep.some {α : Type} {st st' : Option LS} {m : LM α} {x : α} {s' : LS} (h : Rep st m x st') (h' : st' = some s') : ∃ s, st = some s ∧ m 4097 s = some (x, s') := by
  subst h'
  cases st with
  | none => cases (show _ = Option.none from h)
  | some s =>
    refine ⟨s, rfl, ?_⟩
    simp only [Rep, Option.bind_some] at h
    cases hm : m 4097 s with
    | none => rw [hm] at h; cases h
    | some p =>
      obtain ⟨x1, s1⟩ := p
      rw [hm] at h
      simp only [Option.some.injEq] at h
      obtain ⟨rfl, rfl⟩ := h
      rfl
theorem Rep.of {α : Type} {s s' : LS} {m : LM α} {x : α} (h : m 4097 s = Option.some (x, s')) : Rep (Option.some s) m x (Option.some s') := by
  unfold Rep
  rw [Option.bind_some, h]
  exact ⟨rfl, rfl⟩
/-- What a function of the reference comes to, where the locals stay. -/
def RP {α : Type} (o pi : Nat) (P : Prg) (lv cv : AV) (st : Option LS) (H : List AObj) (m : LM α) (val : α → AV → Prop) : AEnd → List AObj → Prop := fun r K =>
  ∃ (v : AV) (x : α) (st' : Option LS) (cv' : AV), r = .ret v ∧ val x v ∧ Rq 0 o pi P st' lv cv' K ∧ Kp o cv H cv' K ∧ Rep st m x st'
def isI : Int → AV → Prop := fun x v => v = .int .i64 x
def isU : Unit → AV → Prop := fun _ v => v = .tuple []
section
variable {o pi : Nat} {P : Prg} {c : List Ins} {rr : Int} {fl : Bool} {lv cv : AV} {H K : List AObj} {st : Option LS} {s : LS}
theorem Rw.io (h : Rw o pi P c rr fl lv cv H) {i : Nat} (hne : c ≠ []) (hi : getH H i = some (.cells (c.flatMap Ins.cells))) : o ≠ i := fun e => by
  subst e
  have ho := h.ho
  rw [hi] at ho
  cases hcc : c with
  | nil => exact hne hcc
  | cons z zs =>
    rw [hcc] at ho
    simp only [Option.some.injEq, AObj.cells.injEq, List.flatMap_cons] at ho
    have h3 := congrArg (fun l => l[5]?) ho
    simp [Ins.cells, Rcells] at h3
/-- Another object is left, and the own state is stored anew. -/
theorem Rw.re (h : Rw o pi P c rr fl lv cv H) {rr' : Int} {fl' : Bool} {lv' : AV} (hl : lv'.okv = true ∧ lv'.cells = [lv'] ∧ lv'.proper = true) : Rw o pi P c rr' fl' lv' cv (setH H o (.cells (Rcells P pi cv rr' lv' fl'))) ∧ Kp o cv H cv (setH H o (.cells (Rcells P pi cv rr' lv' fl'))) := by
  generalize hK : setH H o _ = K
  have hk : ∀ r, r ≠ o → getH K r = getH H r := fun r hne => by rw [← hK, getH_set_ne (Ne.symm hne)]
  have hKl : lenH K = lenH H := by rw [← hK]; simp
  refine ⟨⟨by rw [← hK]; exact getH_set_self (by simp [h.ho]), ?_, by rw [hk _ h.ne, h.hp], h.ne, h.ni, hl, h.cl⟩, by omega, fun r _ hne _ => hk r hne, fun i hi => .inl hi⟩
  rcases h.hc with hc | ⟨i, hne, e, hi⟩
  · exact .inl hc
  · exact .inr ⟨i, hne, e, by rw [hk _ (h.io hne hi).symm, hi]⟩
theorem Rw.gr (h : Rw o pi P c rr fl lv cv H) (g : Gr H K) : Rw o pi P c rr fl lv cv K ∧ Kp o cv H cv K := by
  have hk : ∀ r x, getH H r = some x → getH K r = some x := fun r x hr => by rw [g.old r (by simp [hr]), hr]
  refine ⟨⟨hk _ _ h.ho, ?_, hk _ _ h.hp, h.ne, h.ni, h.lo, h.cl⟩, g.len, fun r hr _ _ => g.old r (getH_isSome.2 hr), fun i hi => .inl hi⟩
  rcases h.hc with hc | ⟨i, hne, e, hi⟩
  · exact .inl hc
  · exact .inr ⟨i, hne, e, hk _ _ hi⟩
theorem Rq.gr (h : Rq 0 o pi P st lv cv H) (g : Gr H K) : Rq 0 o pi P st lv cv K ∧ Kp o cv H cv K := by
  obtain ⟨c, rr, h1, h2⟩ := h
  exact ⟨⟨c, rr, (h1.gr g).1, h2⟩, (h1.gr g).2⟩
/-- Some cells that the own state does not hold stay. -/
theorem Rw.one (h : Rw o pi P c rr fl lv cv H) {r : Nat} {x : AV} (hr : getH H r = some (.cells [x])) : r ≠ o ∧ r ∉ hid cv := by
  refine ⟨fun e => ?_, fun hm => ?_⟩
  · subst e
    rw [h.ho] at hr
    simp [Rcells] at hr
  · rcases h.hc with ⟨-, e⟩ | ⟨i, hne, e, hi⟩
    · rw [e] at hm; simp [hid] at hm
    · rw [e] at hm
      simp [hid] at hm
      subst hm
      rw [hi] at hr
      simp at hr
      have hl := congrArg List.length hr
      rw [Ins.flat_len] at hl
      cases hcc : c with
      | nil => exact hne hcc
      | cons y ys => rw [hcc] at hl; simp at hl; omega
theorem Rep.into {st st1 st2 : Option LS} {f : Int → Ins} {x : Int} {u : Unit} (r1 : Rep st lfresh x st1) (r2 : Rep st1 (lput (f x)) u st2) : Rep st (linto f) x st2 :=
  Rep.bind (f := fun k => (lput (f k)).bind fun _ => LM.ret k) r1 (Rep.bind (f := fun _ => LM.ret x) r2 (Rep.ret _ _))
def I148 (k : Int) (H : List AObj) (m : Nat) (τ : Env) (S : AS) : Prop := 1 ≤ m ∧ m ≤ 64 ∧ pow2 (m : Int) = pow2 k ∧ τ = [(0, .int .i64 m)] ∧ S = ⟨[], H, []⟩
/-- A local on the heap. -/
def vav (p : List UInt8 × Int) : AV := .agg [.str p.1, .int .i64 p.2]
/-- The locals on the heap. -/
structure LvOk (V : LV) (lv : AV) : Prop where
  v : V = [] ∧ lv = .nils ∨ ∃ t, V ≠ [] ∧ lv = .vs t (V.map vav)
  p : ∀ q ∈ V, 0 ≤ q.2
def I118 (o : Nat) (V : LV) (nm : List UInt8) (H : List AObj) (m : Nat) (τ : Env) (S : AS) : Prop :=
  m ≤ V.length ∧ (lreg V nm = lreg (V.take m) nm) ∧ τ = [(0, .ptr o 0), (1, .str nm), (5, .int .i64 ((m : Int) - 1))] ∧ S = ⟨[], H, []⟩
theorem LvOk.reg {V : LV} {lv : AV} (h : LvOk V lv) {nm : List UInt8} {r : Int} (hr : lreg V nm = some r) : 0 ≤ r := by
  unfold lreg at hr
  cases hf : V.reverse.find? fun p => p.1 == nm with
  | none => rw [hf] at hr; cases hr
  | some q =>
    rw [hf] at hr
    cases hr
    exact h.p q (by simpa using List.mem_of_find?_eq_some hf)
end
end Go.Ab

/- The reference for the instructions (palingref13): expressions. -/
namespace Go.Ab
open Go.Proofs

set_option maxRecDepth 100000
set_option maxHeartbeats 8000000
/-- What an expression of the reference comes to. -/
def ER (o pi : Nat) (P : Prg) (cl : List UInt8 → List Int → LM Int) (e : Ex) : Prop := ∀ {st : Option LS} {lv cv : AV} {H : List AObj} {V : LV}, Rq 0 o pi P st lv cv H → (st ≠ none → LvOk V lv ∧ V.length ≤ 2 ^ 30) → e.sc P (V.map Prod.fst) →
  SCalls Tryz.prog 117 [.ptr o 0, e.av] H (RP o pi P lv cv st H (lexpr P cl V e) isI)
def CR (o pi : Nat) (P : Prg) (cl : List UInt8 → List Int → LM Int) (e : Ex) : Prop := ∀ {st : Option LS} {lv cv : AV} {H : List AObj} {V : LV}, Rq 0 o pi P st lv cv H → (st ≠ none → LvOk V lv ∧ V.length ≤ 2 ^ 30) → e.sc P (V.map Prod.fst) → st ≠ none →
  SCalls Tryz.prog 152 [.ptr o 0, e.av] H (RP o pi P lv cv st H (lexpr P cl V e) isI)
section
variable {o pi : Nat} {P : Prg} {cl : List UInt8 → List Int → LM Int} {st : Option LS} {lv cv : AV} {V : LV} {H : List AObj}
end
end Go.Ab

/- The reference for the instructions (palingref13): rows of statements, blocks, arrays, branches. -/
namespace Go.Ab
open Go.Proofs

set_option maxRecDepth 100000
set_option maxHeartbeats 8000000
/-- What statements of the reference come to. -/
def BP (o pi : Nat) (P : Prg) (cv : AV) (st : Option LS) (H : List AObj) (m : LM LV) : AEnd → List AObj → Prop := fun r K =>
  ∃ (V' : LV) (st' : Option LS) (lv' cv' : AV), r = .ret (.tuple []) ∧ Rq 0 o pi P st' lv' cv' K ∧ Kp o cv H cv' K ∧ Rep st m V' st' ∧ (∀ s', st' = some s' → LvOk V' lv' ∧ V'.length ≤ s'.c.length)
def SR (o pi : Nat) (P : Prg) (cl : List UInt8 → List Int → LM Int) (F : Int) (x : St) : Prop := ∀ {s : LS} {lv cv : AV} {H : List AObj} {V : LV}, Rq 0 o pi P (some s) lv cv H → LvOk V lv → V.length ≤ s.c.length → x.sc P F (V.map Prod.fst) →
  SCalls Tryz.prog 93 [.ptr o 0, x.av] H (BP o pi P cv (some s) H (lstmt P cl x V))
def BR (o pi : Nat) (P : Prg) (cl : List UInt8 → List Int → LM Int) (F : Int) (l : List St) : Prop := ∀ {st : Option LS} {lv cv : AV} {H : List AObj} {V : LV}, Rq 0 o pi P st lv cv H → (∀ s, st = some s → LvOk V lv ∧ V.length ≤ s.c.length) → (st ≠ none → St.scs P F (V.map Prod.fst) l) →
  SCalls Tryz.prog 57 [.ptr o 0, sl (St.avs l)] H (BP o pi P cv st H (lstmts P cl l V))
section
variable {o pi : Nat} {P : Prg} {cl : List UInt8 → List Int → LM Int} {st : Option LS} {lv cv : AV} {V : LV} {H K : List AObj} {F : Int} {s : LS} {c : List Ins} {rr : Int} {fl : Bool}
theorem Rep.here {c : List Ins} {rr : Int} (hs : match st with
    | Option.some s => c = s.c ∧ rr = s.r ∧ s.r ≤ s.c.length + 0
    | Option.none => c.length = 4097) : Rep st lhere c.length st := by
  cases st with
  | none => exact rfl
  | some s => obtain ⟨rfl, -, -⟩ := hs; exact Rep.of rfl
theorem Rq.vb (h : Rq 0 o pi P (some s) lv cv H) (hb : V.length ≤ s.c.length) : V.length ≤ 2 ^ 30 := by
  obtain ⟨c, rr, hw, rfl, -, -⟩ := h
  have := hw.cl
  omega
def I57 (o pi : Nat) (P : Prg) (cl : List UInt8 → List Int → LM Int) (F : Int) (l : List St) (st : Option LS) (cv : AV) (V : LV) (H : List AObj) (m : Nat) (τ : Env) (S : AS) : Prop :=
  ∃ (j : Nat) (st1 : Option LS) (lv1 cv1 : AV) (M : List AObj) (V1 : LV), m + j = l.length ∧ (∀ y st2, Rep st1 (lstmts P cl (l.drop j) V1) y st2 → Rep st (lstmts P cl l V) y st2) ∧ Rq 0 o pi P st1 lv1 cv1 M ∧ Kp o cv H cv1 M ∧
    (∀ s, st1 = some s → LvOk V1 lv1 ∧ V1.length ≤ s.c.length) ∧ (st1 ≠ none → St.scs P F (V1.map Prod.fst) (l.drop j)) ∧ τ = [(0, .ptr o 0), (1, sl (St.avs l)), (4, .int .i64 j)] ∧ S = ⟨[], M, []⟩
end
end Go.Ab

/- The reference for the instructions (palingref13): branches, statements. -/
namespace Go.Ab
open Go.Proofs

set_option maxRecDepth 100000
set_option maxHeartbeats 8000000
section
variable {o pi : Nat} {P : Prg} {cl : List UInt8 → List Int → LM Int} {st : Option LS} {lv cv : AV} {V : LV} {H K : List AObj} {F : Int} {s : LS} {c : List Ins} {rr : Int} {fl : Bool}
theorem Rw.lenA (hw : Rw o pi P c rr fl lv cv H) (S : AS) : lenA S .l cv = some c.length := by
  rcases hw.hc with ⟨e1, e⟩ | ⟨i, -, e, -⟩ <;> rw [e]
  · rw [e1]; rfl
  · rfl
theorem Rw.pr (hw : Rw o pi P c rr fl lv cv H) : cv.proper = true := by
  rcases hw.hc with ⟨e1, e⟩ | ⟨i, -, e, -⟩ <;> rw [e] <;> rfl
/-- Where an instruction goes to is told. -/
theorem Rw.goto (h : Rw o pi P c rr fl lv cv H) {k m i : Nat} (hk : k < c.length) (hcv : cv = .hs i 7 0 c.length) (hci : getH H i = some (.cells (c.flatMap Ins.cells)))
    (hK : setH H i (.cells ((c.flatMap Ins.cells).take (k * 7 + 6) ++ .int .i64 m :: (c.flatMap Ins.cells).drop (k * 7 + 6 + 1))) = K) : Rw o pi P (c.modify k (Ins.goto m)) rr fl lv cv K ∧ Kp o cv H cv K := by
  have hil := getH_lt (H := H) (i := i) (by simp [hci])
  have hne : c ≠ [] := fun e => by rw [e] at hk; simp at hk
  have hoi := h.io hne hci
  have hpi2 : pi ≠ i := fun e => h.ni (by rw [hcv]; simp [hid, e])
  rw [flat_modify (n := m) (c := c) (k := k) hk] at hK
  have hKi : getH K i = some (.cells ((c.modify k (Ins.goto m)).flatMap Ins.cells)) := by
    rw [← hK, getH_set_self (by simp [hci])]
  have hKk : ∀ r, r ≠ i → getH K r = getH H r := fun r hne => by rw [← hK, getH_set_ne (Ne.symm hne)]
  have hKl : lenH K = lenH H := by rw [← hK]; simp
  refine ⟨⟨by rw [hKk o hoi, h.ho], .inr ⟨i, ?_, ?_, hKi⟩, by rw [hKk pi hpi2, h.hp], h.ne, h.ni, h.lo, by simpa using h.cl⟩, by omega, fun r hr h1 h2 => hKk r (fun e => h2 (by rw [hcv]; simp [hid, e])), fun i hi => .inl hi⟩
  · intro e
    have := congrArg List.length e
    simp at this
    rw [this] at hk
    simp at hk
  · rw [hcv]; simp
theorem Rep.to {k n : Nat} {s : LS} : Rep (Option.some s) (lto k n) () (Option.some ⟨s.c.modify k (Ins.goto n), s.r⟩) := Rep.of rfl
end
end Go.Ab

/- The reference for the instructions (palingref13): statements. -/
namespace Go.Ab
open Go.Proofs

set_option maxRecDepth 100000
set_option maxHeartbeats 8000000
section
variable {o pi : Nat} {P : Prg} {cl : List UInt8 → List Int → LM Int} {st : Option LS} {lv cv : AV} {V : LV} {H K : List AObj} {F : Int} {s : LS} {c : List Ins} {rr : Int} {fl : Bool}
@[simp] theorem vav_erase' : AV.erase ∘ vav = vav := by
  funext p
  simp [vav, AV.erase, AV.drop1]
end
end Go.Ab

/- The reference for the instructions (palingref13): calls. -/
namespace Go.Ab
open Go.Proofs

set_option maxRecDepth 100000
set_option maxHeartbeats 8000000
section
variable {o pi : Nat} {P : Prg} {cl : List UInt8 → List Int → LM Int} {st st1 : Option LS} {lv cv cv' : AV} {V : LV} {H K : List AObj} {F : Int} {s : LS} {c : List Ins} {rr : Int} {fl : Bool}
/-- Another object is stored. -/
theorem Rw.other (h : Rw o pi P c rr fl lv cv H) {r0 : Nat} {x : AObj} (hr : r0 ≠ o ∧ r0 ≠ pi ∧ r0 ∉ hid cv) : Rw o pi P c rr fl lv cv (setH H r0 x) := by
  have hk : ∀ r y, r ≠ r0 → getH H r = some y → getH (setH H r0 x) r = some y := fun r y hne hr => by rw [getH_set_ne (Ne.symm hne), hr]
  refine ⟨hk _ _ hr.1.symm h.ho, ?_, hk _ _ hr.2.1.symm h.hp, h.ne, h.ni, h.lo, h.cl⟩
  rcases h.hc with hc | ⟨i, hne, e, hi⟩
  · exact .inl hc
  · exact .inr ⟨i, hne, e, hk _ _ (fun e2 => hr.2.2 (by rw [e, ← e2]; simp [hid])) hi⟩
theorem Rq.other (h : Rq 0 o pi P st lv cv H) {r0 : Nat} {x : AObj} (hr : r0 ≠ o ∧ r0 ≠ pi ∧ r0 ∉ hid cv) : Rq 0 o pi P st lv cv (setH H r0 x) := by
  obtain ⟨c, rr, h1, h2⟩ := h
  exact ⟨c, rr, h1.other hr, h2⟩
theorem Kp.other (h : Kp o cv H cv' K) {r0 : Nat} {x : AObj} (hr : lenH H ≤ r0) : Kp o cv H cv' (setH K r0 x) :=
  ⟨by simpa using h.len, fun r hr2 h1 h2 => by rw [getH_set_ne (by omega), h.keep r hr2 h1 h2], h.sub⟩
theorem Kp.gr (h : Kp o cv H cv' K) {M : List AObj} (g : Gr K M) : Kp o cv H cv' M :=
  ⟨by have := h.len; have := g.len; omega, fun r hr2 h1 h2 => by rw [g.old r (getH_isSome.2 (by have := h.len; omega)), h.keep r hr2 h1 h2], h.sub⟩
theorem Kp.tip (h : Kp o cv H cv' K) (hq : Rq 0 o pi P st lv cv H) {t : Nat} (ht : getH H t = some .tip) : getH K t = some .tip := by
  obtain ⟨c, rr, hw, -⟩ := hq
  rw [h.keep t (getH_lt (by simp [ht])) (fun e => ?_) (fun hm => ?_), ht]
  · subst e; rw [hw.ho] at ht; simp at ht
  · rcases hw.hc with ⟨-, e⟩ | ⟨i, hne, e, hi⟩
    · rw [e] at hm; simp [hid] at hm
    · rw [e] at hm
      simp [hid] at hm
      subst hm
      rw [hi] at ht
      simp at ht
/-- The registers of the arguments, as they are on the heap. -/
def AQ (o pi : Nat) (H0 : List AObj) (cv : AV) (M : List AObj) (v : AV) (ms : List Int) : Prop :=
  ms = [] ∧ v = .nils ∨ ∃ j, ms ≠ [] ∧ v = .hs j 1 0 ms.length ∧ getH M j = some (.cells (ms.map (.int .i64))) ∧ lenH H0 ≤ j ∧ j ≠ o ∧ j ≠ pi ∧ j ∉ hid cv
theorem AQ.keep {H0 : List AObj} {v : AV} {ms : List Int} (a : AQ o pi H0 cv H v ms) (k : Kp o cv H cv' K) : AQ o pi H0 cv' K v ms := by
  rcases a with a | ⟨j, h1, h2, h3, h4, h5, h6, h7⟩
  · exact .inl a
  · have hl := getH_lt (H := H) (i := j) (by simp [h3])
    exact .inr ⟨j, h1, h2, by rw [k.keep j hl h5 h7, h3], h4, h5, h6, fun hm => by
      rcases k.sub j hm with h | h
      · exact h7 h
      · omega⟩
def I152 (o pi : Nat) (P : Prg) (cl : List UInt8 → List Int → LM Int) (ks : List Ex) (st : Option LS) (lv cv : AV) (V : LV) (H : List AObj) (ev fv : List AV) (m : Nat) (τ : Env) (S : AS) : Prop :=
  ∃ (j : Nat) (rs : List Int) (st1 : Option LS) (cv1 : AV) (M : List AObj) (v : AV), m + j = ks.length ∧ rs.length = j ∧ (∀ {α : Type} (f : List Int → LM α) y st2, Rep st1 ((lexprs P cl V (ks.drop j)).bind fun r => f (rs ++ r)) y st2 → Rep st ((lexprs P cl V ks).bind f) y st2) ∧
    Rq 0 o pi P st1 lv cv1 M ∧ Kp o cv H cv1 M ∧ AQ o pi H cv1 M v rs ∧ τ = [(0, .ptr o 0), (3, .lref 3 0), (5, .lref 5 0), (7, v), (8, .int .i64 j)] ∧ S = ⟨[(3, ev), (5, fv)], M, []⟩
def I152b (o pi : Nat) (P : Prg) (ps : List Para) (rs : List Int) (st : Option LS) (lv cv : AV) (H : List AObj) (fv : List AV) (wv : AV) (m : Nat) (τ : Env) (S : AS) : Prop :=
  ∃ (j : Nat) (done : List Int) (st1 : Option LS) (cv1 : AV) (M : List AObj) (v ov : AV), m + j = rs.length ∧ done.length = j ∧ (∀ {α : Type} (f : List Int → LM α) y st2, Rep st1 ((lmoves (rs.drop j)).bind fun r => f (done ++ r)) y st2 → Rep st ((lmoves rs).bind f) y st2) ∧
    Rq 0 o pi P st1 lv cv1 M ∧ Kp o cv H cv1 M ∧ AQ o pi H cv1 M v rs ∧ TipN (lenH H) M ov ((((ps.map Para.name).take j).zip done).map vav) ∧ (∀ s1, st1 = some s1 → (∀ x ∈ done, 0 ≤ x) ∧ done.length ≤ s1.c.length) ∧
    τ = [(0, .ptr o 0), (5, .lref 5 0), (7, v), (9, wv), (10, ov), (11, .int .i64 j)] ∧ S = ⟨[(5, fv)], M, []⟩
theorem Rq.lt (h : Rq 0 o pi P st lv cv H) : o < lenH H ∧ pi < lenH H ∧ ∀ i ∈ hid cv, i < lenH H := by
  obtain ⟨c, rr, hw, -⟩ := h
  refine ⟨getH_lt (by simp [hw.ho]), getH_lt (by simp [hw.hp]), fun i hi => ?_⟩
  rcases hw.hc with ⟨-, e⟩ | ⟨j, hne, e, hj⟩
  · rw [e] at hi; simp [hid] at hi
  · rw [e] at hi
    simp [hid] at hi
    subst hi
    exact getH_lt (by simp [hj])
/-- Only ends of slices are others. -/
theorem Rq.tips (h : Rq 0 o pi P st lv cv H) (hk : ∀ r, r < lenH H → getH H r ≠ some .tip → getH K r = getH H r) : Rq 0 o pi P st lv cv K := by
  obtain ⟨c, rr, hw, hs⟩ := h
  have hh : ∀ r cs, getH H r = some (.cells cs) → getH K r = some (.cells cs) := fun r cs hr => by rw [hk r (getH_lt (by simp [hr])) (by simp [hr]), hr]
  refine ⟨c, rr, ⟨hh _ _ hw.ho, ?_, hh _ _ hw.hp, hw.ne, hw.ni, hw.lo, hw.cl⟩, hs⟩
  rcases hw.hc with hc | ⟨i, hne, e, hi⟩
  · exact .inl hc
  · exact .inr ⟨i, hne, e, hh _ _ hi⟩
end
end Go.Ab

/- The reference for the instructions (palingref13): all of it, by the calls' depth. -/
namespace Go.Ab
open Go.Proofs

set_option maxRecDepth 100000
set_option maxHeartbeats 8000000
def TieER (o pi : Nat) (P : Prg) (f : Nat) : Prop := ∀ e : Ex, e.ok → e.cl P f → e.size ≤ 2 ^ 30 → ER o pi P (lcall P f) e
def TieSR (o pi : Nat) (P : Prg) (f : Nat) : Prop := ∀ (F : Int) (l : List St), St.oks l → St.cbs P f l → St.sizes l ≤ 2 ^ 30 → BR o pi P (lcall P f) F l
end Go.Ab

/- palingref09.Of: where the globals stand. -/
namespace Go.Ab
open Go.Proofs

set_option maxRecDepth 100000
set_option maxHeartbeats 8000000
def tbp (P : Prg) (p : Nat) : List Plc := if p = 0 then P.tb false 0 else if p = 1 then P.tb true 0 else P.plcs
def I17 (P : Prg) (j : Nat) (H : List AObj) (m : Nat) (τ : Env) (S : AS) : Prop :=
  ∃ (p : Nat) (at' : Int) (M : List AObj), m + p = 2 ∧ getH M j = some (.cells ((tbp P p).flatMap Plc.cells)) ∧ (p < 2 → at' = P.at52 (p == 1) 0) ∧ Gr H M ∧
    τ = [(1, .lref 1 0), (3, .hs j 4 0 P.globals.length), (4, .int .i64 at'), (5, .int .i64 p)] ∧ S = ⟨[(1, P.cells)], M, []⟩
def I17b (P : Prg) (j p : Nat) (H : List AObj) (m : Nat) (τ : Env) (S : AS) : Prop :=
  ∃ (i : Nat) (M : List AObj) (lo : List (Nat × List AV)), m + i = P.globals.length ∧ getH M j = some (.cells ((P.tb (p == 1) i).flatMap Plc.cells)) ∧ Gr H M ∧
    τ = [(1, .lref 1 0), (3, .hs j 4 0 P.globals.length), (4, .int .i64 (P.at52 (p == 1) i)), (5, .int .i64 p), (6, .int .i64 i)] ∧ S = ⟨[(1, P.cells)], M, []⟩
section
variable {H : List AObj}
end
end Go.Ab

/- palingref13.Thread -/
namespace Go.Ab
open Go.Proofs

set_option maxRecDepth 100000
set_option maxHeartbeats 8000000
/-- An instruction that goes to a trap is sent on. -/
def fT (tr : Int) (n : Nat) (x : Ins) : Ins := if x.led tr = true then { x with to := n } else x
theorem flat_at {x : Ins} : ∀ {c : List Ins} {i : Nat}, c[i]? = some x → ∀ k, k < 7 → ((c.flatMap Ins.cells).drop (i * 7 + k)).take 1 = (x.cells.drop k).take 1
  | [], i, h, k, hk => by simp at h
  | y :: r, 0, h, k, hk => by
    simp at h
    subst h
    rw [List.flatMap_cons]
    simp only [Nat.zero_mul, Nat.zero_add]
    rw [List.drop_append_of_le_length (by simp [Ins.cells]; omega), List.take_append_of_le_length (by simp [Ins.cells]; omega)]
  | y :: r, i + 1, h, k, hk => by
    simp at h
    have hl : y.cells.length = 7 := rfl
    rw [List.flatMap_cons, show (i + 1) * 7 + k = y.cells.length + (i * 7 + k) by rw [hl]; omega, List.drop_length_add_append]
    exact flat_at h k hk
section
variable {o pi : Nat} {P : Prg} {st : Option LS} {lv cv : AV} {V : LV} {H K : List AObj} {F : Int} {s : LS} {c : List Ins} {rr : Int} {fl : Bool}
def mid (tr : Int) (c : List Ins) (i : Nat) : List Ins := (c.take i).map (fT tr c.length) ++ c.drop i
def I11i (o pi : Nat) (P : Prg) (c : List Ins) (rr : Int) (fl : Bool) (lv cv : AV) (tr : Int) (H : List AObj) (m : Nat) (τ : Env) (S : AS) : Prop :=
  ∃ (i : Nat) (M : List AObj), m + i = c.length ∧ Rw o pi P (mid tr c i) rr fl lv cv M ∧ Kp o cv H cv M ∧
    τ = [(9, .ptr o 0), (10, .int .i64 tr), (11, .bool ((c.take i).any (Ins.led tr))), (12, .int .i64 c.length), (13, .int .i64 i)] ∧ S = ⟨[], M, []⟩
def I11 (o pi : Nat) (P : Prg) (st0 : Option LS) (cv0 : AV) (H : List AObj) (m : Nat) (τ : Env) (S : AS) : Prop :=
  ∃ (ph : Nat) (st : Option LS) (cv : AV) (M : List AObj), m + ph = 2 ∧ Rq 0 o pi P st .nils cv M ∧ Kp o cv0 H cv M ∧ (∀ st9, Rep st (lrest ph) () st9 → Rep st0 (lrest 0) () st9) ∧
    τ = [(9, .ptr o 0), (10, .int .i64 ((ph : Int) + 1))] ∧ S = ⟨[], M, []⟩
def ThQ (P : Prg) (i : Int) (H : List AObj) : AEnd → List AObj → Prop := fun r K => FrN (lenH H) H K ∧ ((∃ c cv, thR P i 4097 = some c ∧ c.length ≤ 4096 ∧ r = .ret (.tuple [cv, .bool true]) ∧ CV cv c K ∧ ∀ i ∈ hid cv, lenH H ≤ i) ∨
  (∀ c, thR P i 4097 = some c → 4096 < c.length) ∧ r = .ret (.tuple [.nils, .bool false]))
end
end Go.Ab

/- palingref13.Same, lower.Program. -/
namespace Go.Ab
open Go.Proofs

set_option maxRecDepth 100000
set_option maxHeartbeats 8000000
section
variable {H K : List AObj} {P : Prg} {c : List Ins} {va vb cv : AV}
theorem CV.len (h : CV cv c H) (S : AS) : lenA S .l cv = some c.length := by
  rcases h with ⟨e1, e⟩ | ⟨i, -, e, -⟩ <;> rw [e]
  · rw [e1]; rfl
  · rfl
theorem CV.pr (h : CV cv c H) : cv.proper = true := by
  rcases h with ⟨e1, e⟩ | ⟨i, -, e, -⟩ <;> rw [e] <;> rfl
theorem CV.fr (h : CV cv c H) (f : FrN (lenH H) H K) : CV cv c K := by
  rcases h with h | ⟨i, h1, h2, h3⟩
  · exact .inl h
  · exact .inr ⟨i, h1, h2, by rw [f.2 i (getH_lt (by simp [h3])), h3]⟩
theorem CV.tips (h : CV cv c H) (hk : ∀ r, r < lenH H → getH H r ≠ some .tip → getH K r = getH H r) : CV cv c K := by
  rcases h with h | ⟨i, h1, h2, h3⟩
  · exact .inl h
  · exact .inr ⟨i, h1, h2, by rw [hk i (getH_lt (by simp [h3])) (by simp [h3]), h3]⟩
theorem CV.val (h : CV cv c H) : cv.okv = true ∧ cv.cells = [cv] ∧ cv.erase = cv := by
  rcases h with ⟨-, e⟩ | ⟨i, -, e, -⟩ <;> rw [e] <;> exact ⟨rfl, rfl, rfl⟩
theorem FrN.weak {n n' : Nat} {M M' : List AObj} (h : FrN n M M') (hn : n' ≤ n) : FrN n' M M' := ⟨h.1, fun r hr => h.2 r (by omega)⟩
theorem flat_seg {x : Ins} : ∀ {c : List Ins} {i : Nat}, c[i]? = some x → ((c.flatMap Ins.cells).drop (i * 7)).take 7 = x.cells
  | [], i, h => by simp at h
  | y :: r, 0, h => by
    simp at h
    subst h
    simp [Ins.cells]
  | y :: r, i + 1, h => by
    simp at h
    have hl : y.cells.length = 7 := rfl
    rw [List.flatMap_cons, show (i + 1) * 7 = y.cells.length + i * 7 by rw [hl]; omega, List.drop_length_add_append]
    exact flat_seg h
def I12 (va vb : AV) (c : List Ins) (H : List AObj) (m : Nat) (τ : Env) (S : AS) : Prop := ∃ i : Nat, m + i = c.length ∧ τ = [(0, va), (1, vb), (5, .int .i64 i)] ∧ S = ⟨[], H, []⟩
/-- What all threads' instructions are. -/
def ProgP (P : Prg) (H : List AObj) : AEnd → List AObj → Prop := fun r K => FrN (lenH H) H K ∧
  ((∃ (cs : List (List Ins)) (cvs : List AV), cs.length = P.threads.length ∧ cvs.length = P.threads.length ∧ (∀ i : Nat, i < P.threads.length → thR P i 4096 = cs[i]?) ∧
      (∀ (i : Nat) cv c, cvs[i]? = some cv → cs[i]? = some c → CV cv c K ∧ c.length ≤ 4096 ∧ ∀ j ∈ hid cv, lenH H ≤ j) ∧ r = .ret (.tuple [sl cvs, .bool true])) ∨
    (∃ i : Nat, i < P.threads.length ∧ thR P i 4096 = none) ∧ r = .ret (.tuple [.nils, .bool false]))
def I13 (P : Prg) (H : List AObj) (m : Nat) (τ : Env) (S : AS) : Prop :=
  ∃ (i : Nat) (cs : List (List Ins)) (cvs : List AV) (v : AV) (M : List AObj), m + i = P.threads.length ∧ cs.length = i ∧ cvs.length = i ∧ (∀ k : Nat, k < i → thR P k 4096 = cs[k]?) ∧
    (∀ (i : Nat) cv c, cvs[i]? = some cv → cs[i]? = some c → CV cv c M ∧ c.length ≤ 4096 ∧ ∀ j ∈ hid cv, lenH H ≤ j) ∧ (∀ cv ∈ cvs, cv.okv = true ∧ cv.cells = [cv] ∧ cv.erase = cv) ∧ TipN (lenH H) M v cvs ∧ FrN (lenH H) H M ∧
    τ = [(1, .lref 1 0), (4, v), (10, .int .i64 P.threads.length), (11, .int .i64 i)] ∧ S = ⟨[(1, P.cells)], M, []⟩
theorem Program_c (hw : PW P) : SCalls Tryz.prog 13 [P.av] H (ProgP P H) := by
  have hnt := hw.pv.nt
  refine fn_go k13 rfl ?_
  intro Q hQ
  simp [c13, Prg.av]
  refine loop_keep (n := P.threads.length) (I13 P H) ?_ ⟨0, [], [], .nils, H, by simp, rfl, rfl, by simp, by simp, by simp, .inl ⟨rfl, rfl⟩, .refl _ _, by simp, rfl⟩
  rintro m τ S ⟨i, cs, cvs, v, M, hm, hcs, hcvs, hth, hcv, hok, htip, hfr, rfl, rfl⟩
  by_cases hlt : i < P.threads.length
  · have hT := Thread_c (H := M) hw (i := i) (by omega)
    simp only [Prg.av] at hT
    simp [hlt]
    simp [c13_3, Prg.cells]
    refine hT.mono ?_
    rintro r K ⟨fr, hr⟩
    have hlM := hfr.1
    have hfrK : FrN (lenH H) H K := hfr.trans (FrN.weak fr hlM)
    cases hn : thR P i 4096 with
    | none =>
      rw [hn] at hr
      simp only at hr
      subst hr
      simp
      exact hQ _ _ ⟨hfrK, .inr ⟨⟨i, hlt, hn⟩, rfl⟩⟩
    | some c =>
      rw [hn] at hr
      simp only at hr
      obtain ⟨hl, cv, rfl, hcvc, hids⟩ := hr
      obtain ⟨w1, w2, w3⟩ := hcvc.val
      have tip1 : TipN (lenH H) K v cvs := htip.keep fun t ht h2 => by rw [fr.2 t (getH_lt (by simp [h2])), h2]
      have tip2 := tip1.gr ((Gr.refl K).add (o := .tip))
      have hlK := fr.1
      have hwid : wid 1 cvs = true := by
        unfold wid
        rw [List.all_eq_true]
        intro x hx
        obtain ⟨y1, y2, -⟩ := hok x hx
        rw [y1, y2]; rfl
      obtain ⟨M3, happ, tip5, fr5, hk5⟩ := tip2.app (lo := [(1, P.cells)]) (df := []) (e := 1) (b := 24) (x := cv) (by simp; omega) hwid (by simp only [roomA_eq]; omega)
      rw [w3] at happ tip5
      simp [Prg.cells] at happ tip5
      have htok : ∀ r ∈ tokOf v, lenH H ≤ r := by
        intro r hr
        rcases tip1 with ⟨-, e⟩ | ⟨t, -, e, -, hn⟩
        · rw [e] at hr; simp at hr
        · rw [e] at hr; simp at hr; omega
      have hold : ∀ r, r < lenH K → r ∉ tokOf v → getH M3 r = getH K r := fun r hr hn => by
        rw [hk5 r (by simp; omega) hn, getH_add_old (getH_isSome.2 hr)]
      have htips : ∀ r, r < lenH K → getH K r ≠ some .tip → getH M3 r = getH K r := fun r hr hnt => hold r hr fun hm => hnt (tip1.lt r hm).2
      have hl5 : lenH K ≤ lenH M3 := by have := fr5.1; simp at this; omega
      simp [okD_proper hcvc.pr, c13_1, okD_proper htip.proper, wid, w1, w2, w3, happ, c13_2, wrap_s (n := (i : Int) + 1) (by omega)]
      refine ⟨m - 1, by omega, i + 1, cs ++ [c], cvs ++ [cv], _, M3, by omega, by simp [hcs], by simp [hcvs], fun k hk => ?_, fun k cv' c' h1 h2 => ?_, fun x hx => ?_, tip5, ⟨by omega, fun r hr => by rw [hold r (by omega) (fun hm => by have := htok r hm; omega), hfrK.2 r hr]⟩, by simp, rfl⟩
      · rcases Nat.lt_or_ge k i with h | h
        · rw [hth k h, List.getElem?_append_left (by omega)]
        · have : k = i := by omega
          subst this
          rw [hn, List.getElem?_append_right (by omega)]
          simp [hcs]
      · rcases Nat.lt_or_ge k i with h | h
        · rw [List.getElem?_append_left (by omega)] at h1 h2
          obtain ⟨q1, q2, q3⟩ := hcv k cv' c' h1 h2
          exact ⟨(q1.fr fr).tips htips, q2, q3⟩
        · rw [List.getElem?_append_right (by omega)] at h1 h2
          have hk : k = i := by
            have := (List.getElem?_eq_some_iff.1 h1).1
            simp at this
            omega
          subst hk
          simp [hcs] at h1 h2
          have e1 : cv' = cv := by
            have : k - cvs.length = 0 := by omega
            simp [this] at h1
            exact h1.symm
          subst e1 h2
          exact ⟨hcvc.tips htips, hl, fun j hj => by have := hids j hj; omega⟩
      · rcases List.mem_append.1 hx with hx | hx
        · exact hok x hx
        · simp at hx; subst hx; exact ⟨w1, w2, w3⟩
  · have hin : i = P.threads.length := by omega
    have hfin : Q (.ret (.tuple [sl cvs, .bool true])) M := hQ _ _ ⟨hfr, .inl ⟨cs, cvs, by omega, by omega, fun k hk => hth k (by omega), hcv, rfl⟩⟩
    rcases htip with ⟨e1, rfl⟩ | ⟨t, e1, rfl, -⟩
    · subst e1
      simp [hlt, c13_4]
      simpa [resV] using hfin
    · rw [sl_ne e1] at hfin
      simp [hlt, c13_4]
      simpa [resV, AV.erase, AV.drop1] using hfin
end
end Go.Ab

/- The law's live example: awake. -/
namespace Go.Ab
open Go.Proofs

set_option maxRecDepth 100000
set_option maxHeartbeats 8000000
/-- The instructions of the example's first thread. -/
def code9 : List Ins := [⟨0, 0, 0, 0, 0, 1, 0⟩, ⟨0, 0, 1, 0, 0, 2, 0⟩, ⟨7, 0, 0, 1, 0, 0, 6⟩, ⟨2, 3, 2, 0, 1, 0, 0⟩, ⟨11, 0, 0, 2, 0, 0, 0⟩, ⟨13, 0, 0, 0, 0, 0, 0⟩, ⟨12, 0, 0, 0, 0, 1, 0⟩]
theorem dig9_0 (K : List AObj) : evF (look tb9) 100 10 45 [.int .i64 0] K = some (.ret (.str [48]), K) := by kernel_rfl
theorem shw9_0 (K : List AObj) : evF (look tb9) 100 10 46 [Ins.av ⟨0, 0, 0, 0, 0, 1, 0⟩] K = some (.ret (.str [115, 101, 116, 32, 114, 48, 32, 49]), K ++ [.tip]) := by kernel_rfl
theorem dig9_1 (K : List AObj) : evF (look tb9) 100 10 45 [.int .i64 1] K = some (.ret (.str [49]), K) := by kernel_rfl
theorem shw9_1 (K : List AObj) : evF (look tb9) 100 10 46 [Ins.av ⟨0, 0, 1, 0, 0, 2, 0⟩] K = some (.ret (.str [115, 101, 116, 32, 114, 49, 32, 50]), K ++ [.tip]) := by kernel_rfl
theorem dig9_2 (K : List AObj) : evF (look tb9) 100 10 45 [.int .i64 2] K = some (.ret (.str [50]), K) := by kernel_rfl
theorem shw9_2 (K : List AObj) : evF (look tb9) 100 10 46 [Ins.av ⟨7, 0, 0, 1, 0, 0, 6⟩] K = some (.ret (.str [122, 101, 114, 111, 32, 114, 49, 32, 54]), K ++ [.tip]) := by kernel_rfl
theorem dig9_3 (K : List AObj) : evF (look tb9) 100 10 45 [.int .i64 3] K = some (.ret (.str [51]), K) := by kernel_rfl
theorem shw9_3 (K : List AObj) : evF (look tb9) 100 10 46 [Ins.av ⟨2, 3, 2, 0, 1, 0, 0⟩] K = some (.ret (.str [99, 97, 108, 99, 32, 114, 50, 32, 114, 48, 32, 47, 32, 114, 49]), K ++ [.tip]) := by kernel_rfl
theorem dig9_4 (K : List AObj) : evF (look tb9) 100 10 45 [.int .i64 4] K = some (.ret (.str [52]), K) := by kernel_rfl
theorem shw9_4 (K : List AObj) : evF (look tb9) 100 10 46 [Ins.av ⟨11, 0, 0, 2, 0, 0, 0⟩] K = some (.ret (.str [111, 117, 116, 32, 114, 50]), K ++ [.tip]) := by kernel_rfl
theorem dig9_5 (K : List AObj) : evF (look tb9) 100 10 45 [.int .i64 5] K = some (.ret (.str [53]), K) := by kernel_rfl
theorem shw9_5 (K : List AObj) : evF (look tb9) 100 10 46 [Ins.av ⟨13, 0, 0, 0, 0, 0, 0⟩] K = some (.ret (.str [104, 97, 108, 116]), K ++ [.tip]) := by kernel_rfl
theorem dig9_6 (K : List AObj) : evF (look tb9) 100 10 45 [.int .i64 6] K = some (.ret (.str [54]), K) := by kernel_rfl
theorem shw9_6 (K : List AObj) : evF (look tb9) 100 10 46 [Ins.av ⟨12, 0, 0, 0, 0, 1, 0⟩] K = some (.ret (.str [116, 114, 97, 112, 32, 49]), K ++ [.tip]) := by kernel_rfl

theorem thr9_0 : thR P9 0 4096 = some code9 := by
  have : thR P9 0 4096 = (lthread P9 ((P9.threads[0]?).getD []) 4096 ⟨[], 0⟩).map fun p => p.2.c := if_pos (by decide)
  rw [this]
  rfl
theorem thr9_1 : thR P9 1 4096 = some [⟨13, 0, 0, 0, 0, 0, 0⟩] := by
  have : thR P9 1 4096 = (lthread P9 ((P9.threads[1]?).getD []) 4096 ⟨[], 0⟩).map fun p => p.2.c := if_pos (by decide)
  rw [this]
  rfl
theorem thr9_2 : thR P9 2 4096 = none := if_neg (by decide)
/-- What a line of a code is. -/
def Line (i : Nat) (x : Ins) (s : List UInt8) : Prop := ∃ d t, s = d ++ [32] ++ t ++ [10] ∧ (∀ K, SCalls Tryz.prog 45 [.int .i64 i] K fun r K' => r = .ret (.str d) ∧ K' = K) ∧ ∀ K, SCalls Tryz.prog 46 [x.av] K fun r K' => r = .ret (.str t) ∧ Gr K K'
theorem line_of' {i : Nat} {x : Ins} {d t : List UInt8} (h1 : ∀ K, evF (look tb9) 100 10 45 [.int .i64 i] K = some (.ret (.str d), K)) (h2 : ∀ K, evF (look tb9) 100 10 46 [x.av] K = some (.ret (.str t), K ++ [.tip])) : Line i x (d ++ [32] ++ t ++ [10]) :=
  ⟨d, t, rfl, fun K => evF_ok tb9_ok 10 _ _ _ _ _ _ (h1 K) ⟨rfl, rfl⟩, fun K => evF_ok tb9_ok 10 _ _ _ _ _ _ (h2 K) ⟨rfl, (Gr.refl K).add (o := .tip)⟩⟩
def lines9 : List (List UInt8) := [[48, 32, 115, 101, 116, 32, 114, 48, 32, 49, 10],
  [49, 32, 115, 101, 116, 32, 114, 49, 32, 50, 10],
  [50, 32, 122, 101, 114, 111, 32, 114, 49, 32, 54, 10],
  [51, 32, 99, 97, 108, 99, 32, 114, 50, 32, 114, 48, 32, 47, 32, 114, 49, 10],
  [52, 32, 111, 117, 116, 32, 114, 50, 10],
  [53, 32, 104, 97, 108, 116, 10],
  [54, 32, 116, 114, 97, 112, 32, 49, 10]]
theorem lines9_ok : ∀ (i : Nat) (x : Ins) (s : List UInt8), code9[i]? = some x → lines9[i]? = some s → Line i x s := by
  intro i x s h1 h2
  match i, h1, h2 with
  | 0, h1, h2 => cases h1; cases h2; exact line_of' dig9_0 shw9_0
  | 1, h1, h2 => cases h1; cases h2; exact line_of' dig9_1 shw9_1
  | 2, h1, h2 => cases h1; cases h2; exact line_of' dig9_2 shw9_2
  | 3, h1, h2 => cases h1; cases h2; exact line_of' dig9_3 shw9_3
  | 4, h1, h2 => cases h1; cases h2; exact line_of' dig9_4 shw9_4
  | 5, h1, h2 => cases h1; cases h2; exact line_of' dig9_5 shw9_5
  | 6, h1, h2 => cases h1; cases h2; exact line_of' dig9_6 shw9_6
  | i + 7, h1, h2 => simp [code9] at h1
def I22 (cv : AV) (ss : List (List UInt8)) (n : Nat) (H : List AObj) (m : Nat) (τ : Env) (S : AS) : Prop :=
  ∃ (i : Nat) (M : List AObj), m + i = n ∧ Gr H M ∧ τ = [(0, cv), (3, .str (ss.take i).flatten), (4, .int .i64 i)] ∧ S = ⟨[], M, []⟩
/-- A code's text. -/
theorem text_c {H : List AObj} {cv : AV} {c : List Ins} {ss : List (List UInt8)} (h : CV cv c H) (hl : ss.length = c.length) (hb : c.length ≤ 2 ^ 40) (hs : ss.flatten.length ≤ 2 ^ 40) (hln : ∀ (i : Nat) (x : Ins) (s : List UInt8), c[i]? = some x → ss[i]? = some s → Line i x s) :
    SCalls Tryz.prog 22 [cv] H (fun r K => r = .ret (.str ss.flatten) ∧ Gr H K) := by
  refine fn_go k22 rfl ?_
  intro Q hQ
  simp [c22]
  refine loop_keep (n := c.length) (I22 cv ss c.length H) ?_ ⟨0, H, by simp, .refl _, by simp, rfl⟩
  rintro m τ S ⟨i, M, hm, g, rfl, rfl⟩
  have hM := h.fr (K := M) ⟨g.len, fun r hr => g.old r (getH_isSome.2 hr)⟩
  by_cases hlt : i < c.length
  · obtain ⟨x, hx⟩ : ∃ x, c[i]? = some x := ⟨_, List.getElem?_eq_getElem hlt⟩
    obtain ⟨s, hsi⟩ : ∃ s, ss[i]? = some s := ⟨_, List.getElem?_eq_getElem (by omega)⟩
    obtain ⟨d, t, hst, h45, h46⟩ := hln i x s hx hsi
    have htk : (ss.take (i + 1)).flatten = (ss.take i).flatten ++ s := by rw [List.take_add_one, hsi]; simp
    rcases id hM with ⟨e, -⟩ | ⟨q, -, rfl, hq⟩
    · rw [e] at hlt; simp at hlt
    have hsg := flat_seg hx
    have hfl := Ins.flat_len c
    have hav : x.av = .agg x.cells := rfl
    simp only [hav, Ins.cells] at h46
    generalize c.flatMap Ins.cells = L at hsg hfl hq
    simp [hlt]
    simp [c22_1, hlt, hq, hsg, Ins.cells, show i * 7 + 7 ≤ L.length by omega]
    refine (h45 M).mono ?_
    rintro r K ⟨rfl, rfl⟩
    have hfl2 : (ss.take i).flatten.length + s.length ≤ 2 ^ 40 := by
      have h1 : ss.flatten = (ss.take (i + 1)).flatten ++ (ss.drop (i + 1)).flatten := by rw [← List.flatten_append, List.take_append_drop]
      have h2 := congrArg List.length h1
      rw [htk] at h2
      simp only [List.length_append] at h2
      omega
    rw [hst] at hfl2
    simp only [List.length_append, List.length_cons, List.length_nil] at hfl2
    have a1 : d.length + 1 ≤ 4611686018427387904 := by omega
    have a1' : d.length ≤ 4611686018427387903 := by omega
    simp [hlt, hq, hsg, Ins.cells, show i * 7 + 7 ≤ L.length by omega, a1, a1']
    refine (h46 _).mono ?_
    rintro r K2 ⟨rfl, g2⟩
    have a2 : d.length + 1 + t.length ≤ 4611686018427387904 := by omega
    have a2' : d.length + (t.length + 1) ≤ 4611686018427387904 := by omega
    have a3 : d.length + 1 + t.length + 1 ≤ 4611686018427387904 := by omega
    have a3' : d.length + (t.length + 1 + 1) ≤ 4611686018427387904 := by omega
    have a3'' : d.length + (t.length + 1) + 1 ≤ 4611686018427387904 := by omega
    simp only [List.length_flatten] at hfl2
    have a4 : (List.take i (List.map List.length ss)).sum + (d.length + (t.length + 1 + 1)) ≤ 4611686018427387904 := by
      rw [← List.map_take]
      omega
    simp [a2, a2', a3, a3', a3'', a4, wrap_s (n := (i : Int) + 1) (by omega)]
    exact ⟨m - 1, by omega, i + 1, K2, by omega, g.trans g2, by simp [htk, hst], rfl⟩
  · simp [hlt, okD_proper hM.pr, hM.len, c22_2]
    have : ss.take i = ss := List.take_of_length_le (by omega)
    rw [this]
    exact hQ _ _ ⟨rfl, g⟩
theorem awake_c : SCalls Tryz.prog 8 [] [] (fun r _ => r = .ret (.bool true)) := by
  have hT0 := fun M => Thread_c (H := M) P9_pw (i := 0) (by omega)
  have hT2 := fun M => Thread_c (H := M) P9_pw (i := 2) (by omega)
  have hP := fun M => Program_c (H := M) P9_pw
  refine fn_go k8 rfl ?_
  intro Q hQ
  obtain ⟨T9, htv⟩ : ∃ T9, P9.av = .agg [.nils, .nils, .nils, sl T9] := ⟨P9.threads.map Thr.av, rfl⟩
  rw [htv] at hT0 hT2 hP
  have hex := ex_c
  rw [htv] at hex
  unfold ex9 at hex
  simp [c8]
  refine hex.mono ?_
  rintro r K rfl
  simp
  refine (hT0 _).mono ?_
  rintro r K1 ⟨fr1, h1⟩
  rw [thr9_0] at h1
  simp only at h1
  obtain ⟨-, cv0, rfl, hcv0, -⟩ := h1
  obtain ⟨w1, w2, w3⟩ := hcv0.val
  simp [okD_proper hcv0.pr]
  refine (hP _).mono ?_
  rintro r K2 ⟨fr2, h2⟩
  obtain ⟨cs, cvs, l1, l2, hth, hcvs, rfl⟩ := h2.resolve_right fun h => by
    obtain ⟨⟨i, hi, hn⟩, -⟩ := h
    have : i = 0 ∨ i = 1 := by
      have : P9.threads.length = 2 := rfl
      omega
    rcases this with rfl | rfl
    · rw [show ((0 : Nat) : Int) = 0 from rfl, thr9_0] at hn; cases hn
    · rw [show ((1 : Nat) : Int) = 1 from rfl, thr9_1] at hn; cases hn
  have l2' : cvs.length = 2 := l2
  obtain ⟨a, b, rfl⟩ : ∃ a b, cvs = [a, b] := by
    rcases cvs with _ | ⟨a, _ | ⟨b, _ | _⟩⟩ <;> simp at l2'
    exact ⟨a, b, rfl⟩
  have hc1 : cs[1]? = some [⟨13, 0, 0, 0, 0, 0, 0⟩] := by
    rw [← hth 1 (by decide)]
    exact thr9_1
  obtain ⟨hb, -, -⟩ := hcvs 1 b _ rfl hc1
  obtain ⟨jb, rfl⟩ : ∃ j, b = .hs j 7 0 1 := by
    rcases hb with ⟨e, -⟩ | ⟨j, -, e, -⟩
    · cases e
    · exact ⟨j, e⟩
  simp
  refine (hT2 _).mono ?_
  rintro r K3 ⟨fr3, h3⟩
  rw [thr9_2] at h3
  simp only at h3
  subst h3
  have hcv3 := (hcv0.fr fr2).fr fr3
  have htx := text_c (ss := lines9) hcv3 rfl (by decide) (by decide) lines9_ok
  simp [okD_proper hcv0.pr, hcv0.pr, w3]
  refine htx.mono ?_
  rintro r K4 ⟨rfl, -⟩
  simp [lines9]
  exact hQ _ _ rfl
end Go.Ab

/- Plain laws of the lowering: what its instructions are. -/
namespace Go.Ab
open Go.Proofs

def Reg (r : Nat) (v : Int) : Prop := 0 ≤ v ∧ v < r
theorem Reg.le {r r' : Nat} {v : Int} (h : Reg r v) (hr : r ≤ r') : Reg r' v := ⟨h.1, by have := h.2; omega⟩
def kA (k : Int) : Bool := k == 1 || k == 2 || k == 3 || k == 4 || k == 5 || k == 7 || k == 11
def kB (k : Int) : Bool := k == 2 || k == 3 || k == 5
def kN (k : Int) : Bool := k == 0 || k == 4 || k == 5 || k == 9 || k == 10
/-- What is put, but for its end. -/
structure Ok1 (P : Prg) (r : Nat) (x : Ins) : Prop where
  k : 0 ≤ x.kind ∧ x.kind ≤ 11 ∧ x.kind ≠ 8
  d : (x.kind ≤ 4 → Reg r x.d) ∧ (4 < x.kind → x.d = 0)
  a : (kA x.kind = true → Reg r x.a ∨ (x.kind = 4 ∨ x.kind = 5) ∧ x.a = -1) ∧ (kA x.kind = false → x.a = 0)
  b : (kB x.kind = true → Reg r x.b) ∧ (kB x.kind = false → x.b = 0)
  o : 0 ≤ x.op ∧ x.op ≤ 18 ∧ (x.kind ≠ 2 → x.op = 0)
  n : (kN x.kind = false → x.n = 0) ∧ (x.kind = 4 ∨ x.kind = 5 → 0 ≤ x.n ∧ x.n ≤ 65535) ∧ (x.kind = 9 ∨ x.kind = 10 → 0 ≤ x.n ∧ x.n < P.locks.length)
  t : x.kind ≠ 6 → x.kind ≠ 7 → x.to = 0
theorem Ok1.le {P : Prg} {r r' : Nat} {x : Ins} (h : Ok1 P r x) (hr : r ≤ r') : Ok1 P r' x :=
  ⟨h.k, ⟨fun e => (h.d.1 e).le hr, h.d.2⟩, ⟨fun e => (h.a.1 e).imp (·.le hr) id, h.a.2⟩, ⟨fun e => (h.b.1 e).le hr, h.b.2⟩, h.o, h.n, h.t⟩
structure JC (P : Prg) (s : LS) : Prop where
  ok : ∀ x ∈ s.c, Ok1 P s.r x
  to : ∀ x ∈ s.c, x.to ≤ s.c.length
  df : ∀ k : Nat, k < s.r → ∃ x ∈ s.c, x.kind ≤ 4 ∧ x.d = k
/-- What was put stays, but for where it goes. -/
structure Ex2 (s s' : LS) : Prop where
  r : s.r ≤ s'.r
  c : ∀ (i : Nat) (x : Ins), s.c[i]? = some x → ∃ y, s'.c[i]? = some y ∧ y.kind = x.kind
theorem Ex2.refl (s : LS) : Ex2 s s := ⟨Nat.le_refl _, fun i x h => ⟨x, h, rfl⟩⟩
theorem Ex2.trans {s s' s'' : LS} (a : Ex2 s s') (b : Ex2 s' s'') : Ex2 s s'' := ⟨Nat.le_trans a.r b.r, fun i x h => by
  obtain ⟨y, h1, h2⟩ := a.c i x h
  obtain ⟨z, h3, h4⟩ := b.c i y h1
  exact ⟨z, h3, h4.trans h2⟩⟩
theorem Ex2.len {s s' : LS} (a : Ex2 s s') : s.c.length ≤ s'.c.length := by
  rcases Nat.lt_or_ge s'.c.length s.c.length with h | h
  · obtain ⟨y, h1, -⟩ := a.c s'.c.length s.c[s'.c.length] (List.getElem?_eq_getElem h)
    rw [List.getElem?_eq_none (Nat.le_refl _)] at h1
    cases h1
  · exact h
theorem LM.inv {α β : Type} {m : LM α} {f : α → LM β} {L : Nat} {s s' : LS} {y : β} (h : m.bind f L s = some (y, s')) : ∃ x s1, m L s = some (x, s1) ∧ f x L s1 = some (y, s') := by
  simp only [LM.bind] at h
  split at h
  · rename_i x s1 h1
    exact ⟨x, s1, h1, h⟩
  · cases h
section
variable {P : Prg} {cl : List UInt8 → List Int → LM Int} {L : Nat} {s s' : LS} {V V' : LV}
def VOk (r : Nat) (V : LV) : Prop := ∀ p ∈ V, Reg r p.2
theorem VOk.le {r r' : Nat} (h : VOk r V) (hr : r ≤ r') : VOk r' V := fun p hp => (h p hp).le hr
theorem jput {x : Ins} {u : Unit} (j : JC P s) (hx : Ok1 P s.r x) (ht : x.to ≤ s.c.length) (h : lput x L s = some (u, s')) : JC P s' ∧ Ex2 s s' ∧ s'.c = s.c ++ [x] ∧ s'.r = s.r := by
  simp only [lput] at h
  split at h
  · cases h
    refine ⟨⟨fun y hy => ?_, fun y hy => ?_, fun k hk => ?_⟩, ⟨Nat.le_refl _, fun i y hy => ⟨y, ?_, rfl⟩⟩, rfl, rfl⟩
    · rcases List.mem_append.1 hy with hy | hy
      · exact j.ok y hy
      · simp at hy; subst hy; exact hx
    · rcases List.mem_append.1 hy with hy | hy
      · have := j.to y hy; simp; omega
      · simp at hy; subst hy; simp; omega
    · obtain ⟨y, h1, h2⟩ := j.df k hk
      exact ⟨y, List.mem_append.2 (.inl h1), h2⟩
    · show (s.c ++ [x])[i]? = some y
      rw [List.getElem?_append_left (List.getElem?_eq_some_iff.1 hy).1, hy]
  · cases h
theorem jinto {f : Int → Ins} {x : Int} (j : JC P s) (hf : Ok1 P (s.r + 1) (f s.r)) (hd : (f s.r).kind ≤ 4 ∧ (f s.r).d = s.r) (h : linto f L s = some (x, s')) : JC P s' ∧ Ex2 s s' ∧ Reg s'.r x := by
  simp only [linto, lfresh, LM.bind, lput, LM.ret] at h
  by_cases hl : s.c.length < L
  · rw [if_pos hl] at h
    cases h
    refine ⟨⟨fun y hy => ?_, fun y hy => ?_, fun k hk => ?_⟩, ⟨Nat.le_succ _, fun i y hy => ⟨y, ?_, rfl⟩⟩, by simp, by simp; omega⟩
    · rcases List.mem_append.1 hy with hy | hy
      · exact (j.ok y hy).le (Nat.le_succ _)
      · simp at hy; subst hy; exact hf
    · rcases List.mem_append.1 hy with hy | hy
      · have := j.to y hy; simp; omega
      · simp at hy
        subst hy
        have h67 : (f s.r).to = 0 := hf.t (by omega) (by omega)
        simp [h67]
        omega
    · rcases Nat.lt_or_ge k s.r with h | h
      · obtain ⟨y, h1, h2⟩ := j.df k h
        exact ⟨y, List.mem_append.2 (.inl h1), h2⟩
      · simp at hk
        have : k = s.r := by omega
        subst this
        exact ⟨f s.r, by simp, hd⟩
    · show (s.c ++ [f s.r])[i]? = some y
      rw [List.getElem?_append_left (List.getElem?_eq_some_iff.1 hy).1, hy]
  · rw [if_neg hl] at h
    cases h
theorem jto {k n : Nat} {u : Unit} (j : JC P s) (hk : ∀ x, s.c[k]? = some x → x.kind = 6 ∨ x.kind = 7) (hn : n ≤ s.c.length) (h : lto k n L s = some (u, s')) : JC P s' ∧ Ex2 s s' ∧ s'.c.length = s.c.length := by
  cases h
  have key : ∀ (i : Nat) (y : Ins), (s.c.modify k fun x => { x with to := (n : Int) })[i]? = some y → ∃ z, s.c[i]? = some z ∧ (y = z ∨ i = k ∧ y = { z with to := (n : Int) }) := by
    intro i y hy
    rw [List.getElem?_modify] at hy
    cases hc : s.c[i]? with
    | none => rw [hc] at hy; simp at hy
    | some z =>
      rw [hc] at hy
      refine ⟨z, rfl, ?_⟩
      by_cases e : k = i
      · simp [e] at hy; exact .inr ⟨e.symm, hy.symm⟩
      · simp [e] at hy; exact .inl hy.symm
  refine ⟨⟨fun y hy => ?_, fun y hy => ?_, fun m hm => ?_⟩, ⟨Nat.le_refl _, fun i y hy => ?_⟩, by simp⟩
  · obtain ⟨i, hi⟩ := List.mem_iff_getElem?.1 hy
    obtain ⟨z, hz, h1⟩ := key i y hi
    have oz := j.ok z (List.mem_of_getElem? hz)
    rcases h1 with rfl | ⟨rfl, rfl⟩
    · exact oz
    · have := hk z hz
      exact ⟨oz.k, oz.d, oz.a, oz.b, oz.o, oz.n, fun h6 h7 => by rcases this with h | h <;> simp_all⟩
  · obtain ⟨i, hi⟩ := List.mem_iff_getElem?.1 hy
    obtain ⟨z, hz, h1⟩ := key i y hi
    rcases h1 with rfl | ⟨rfl, rfl⟩
    · have := j.to y (List.mem_of_getElem? hz); simpa using this
    · simp; exact hn
  · obtain ⟨y, h1, h2⟩ := j.df m hm
    obtain ⟨i, hi⟩ := List.mem_iff_getElem?.1 h1
    by_cases e : k = i
    · refine ⟨{ y with to := (n : Int) }, List.mem_of_getElem? (i := i) ?_, h2⟩
      show (s.c.modify k _)[i]? = _
      rw [List.getElem?_modify, hi]
      simp [e]
    · refine ⟨y, List.mem_of_getElem? (i := i) ?_, h2⟩
      show (s.c.modify k _)[i]? = _
      rw [List.getElem?_modify, hi]
      simp [e]
  · show ∃ z, (s.c.modify k _)[i]? = _ ∧ _
    rw [List.getElem?_modify, hy]
    by_cases e : k = i
    · exact ⟨{ y with to := (n : Int) }, by simp [e], rfl⟩
    · exact ⟨y, by simp [e], rfl⟩
/-- What comes to a register. -/
def JR (P : Prg) (L : Nat) (m : LM Int) : Prop := ∀ s x s', JC P s → m L s = some (x, s') → JC P s' ∧ Ex2 s s' ∧ Reg s'.r x
theorem jset (n : Int) : JR P L (lset n) := fun s x s' j h => jinto j ⟨by simp, by simp [Reg]; omega, by simp [kA], by simp [kB], by simp, by simp [kN], by simp⟩ (by simp) h
theorem jmove {a : Int} {x : Int} (j : JC P s) (ha : Reg s.r a) (h : lmove a L s = some (x, s')) : JC P s' ∧ Ex2 s s' ∧ Reg s'.r x :=
  jinto j ⟨by simp, by simp [Reg]; omega, by simp [kA]; exact ha.le (Nat.le_succ _), by simp [kB], by simp, by simp [kN], by simp⟩ (by simp) h
theorem jcalc {o a b : Int} {x : Int} (j : JC P s) (ho : 0 ≤ o ∧ o ≤ 18) (ha : Reg s.r a) (hb : Reg s.r b) (h : lcalc o a b L s = some (x, s')) : JC P s' ∧ Ex2 s s' ∧ Reg s'.r x :=
  jinto j ⟨by simp, by simp [Reg]; omega, by simp [kA]; exact ha.le (Nat.le_succ _), by simp [kB]; exact hb.le (Nat.le_succ _), by simp; exact ho, by simp [kN], by simp⟩ (by simp) h
theorem jload {a b : Int} {x : Int} (j : JC P s) (ha : Reg s.r a ∨ a = -1) (hb : 0 ≤ b ∧ b ≤ 65535) (h : lload a b L s = some (x, s')) : JC P s' ∧ Ex2 s s' ∧ Reg s'.r x :=
  jinto j ⟨by simp, by simp [Reg]; omega, by simp [kA]; exact ha.imp (·.le (Nat.le_succ _)) id, by simp [kB], by simp, by simp [kN]; exact hb, by simp⟩ (by simp) h
theorem jtrap {a n : Int} {u : Unit} (j : JC P s) (ha : Reg s.r a) (hn : 0 ≤ n) (h : ltrap a n L s = some (u, s')) : JC P s' ∧ Ex2 s s' := by
  obtain ⟨q1, q2, -⟩ := jput j ⟨by simp, by simp, by simp [kA]; exact ha, by simp [kB], by simp, by simp [kN], by simp⟩ (by simp; omega) h
  exact ⟨q1, q2⟩
theorem jbelow {t k : Int} {x : Int} (j : JC P s) (ht : Reg s.r t) (h : lbelow t k L s = some (x, s')) : JC P s' ∧ Ex2 s s' ∧ Reg s'.r x := by
  obtain ⟨b, s1, h1, h⟩ := LM.inv h
  obtain ⟨j1, e1, r1⟩ := jset _ _ _ _ j h1
  obtain ⟨j2, e2, r2⟩ := jcalc j1 (by omega) (ht.le e1.r) r1 h
  exact ⟨j2, e1.trans e2, r2⟩
theorem jlook {t k : Int} {u : Unit} (j : JC P s) (ht : Reg s.r t) (h : llook t k L s = some (u, s')) : JC P s' ∧ Ex2 s s' := by
  obtain ⟨b, s1, h1, h⟩ := LM.inv h
  obtain ⟨j1, e1, r1⟩ := jbelow j ht h1
  obtain ⟨j2, e2⟩ := jtrap j1 r1 (by omega) h
  exact ⟨j2, e1.trans e2⟩
theorem jmasked {t k : Int} {x : Int} (j : JC P s) (ht : Reg s.r t) (h : lmasked t k L s = some (x, s')) : JC P s' ∧ Ex2 s s' ∧ Reg s'.r x := by
  obtain ⟨b, s1, h1, h⟩ := LM.inv h
  obtain ⟨j1, e1, r1⟩ := jset _ _ _ _ j h1
  obtain ⟨j2, e2, r2⟩ := jcalc j1 (by omega) (ht.le e1.r) r1 h
  exact ⟨j2, e1.trans e2, r2⟩
end
end Go.Ab

/- Plain laws of the lowering: what its instructions are, of whole programs. -/
namespace Go.Ab
open Go.Proofs

mutual
/-- Operators are operators. -/
def Ex.oo : Ex → Prop
  | .mk k o n s ks a => Ex.oos ks ∧ (k = 6 → 0 ≤ o ∧ o ≤ 18)
def Ex.oos : List Ex → Prop
  | [] => True
  | e :: r => e.oo ∧ Ex.oos r
end
mutual
/-- The same, and locks are there. -/
def St.oo (P : Prg) : St → Prop
  | .mk k a t u s i e b l => (k ≠ 4 → Ex.oos e) ∧ (k = 1 → Ex.oos i) ∧ (k = 4 → 0 ≤ P.lidx s) ∧ (k = 2 ∨ k = 3 ∨ k = 4 → St.oos P b) ∧ (k = 2 → St.oos P l)
def St.oos (P : Prg) : List St → Prop
  | [] => True
  | s :: r => s.oo P ∧ St.oos P r
end
section
variable {P : Prg} {V : List (List UInt8)} {F : Int}
mutual
theorem Ex.sc_oo : ∀ e : Ex, e.sc P V → e.oo
  | .mk k o n s ks a, h => by
    simp only [Ex.sc] at h
    simp only [Ex.oo]
    exact ⟨Ex.scs_oos ks h.1, fun hk => ⟨(h.2.2.2.1 hk).1, (h.2.2.2.1 hk).2.1⟩⟩
theorem Ex.scs_oos : ∀ l : List Ex, Ex.scs P V l → Ex.oos l
  | [], _ => by simp [Ex.oos]
  | e :: r, h => by
    simp only [Ex.scs] at h
    simp only [Ex.oos]
    exact ⟨Ex.sc_oo e h.1, Ex.scs_oos r h.2⟩
end
theorem Ex.gds_oos : ∀ {l : List Ex}, (∀ x ∈ l, x.gd P V F) → Ex.oos l
  | [], _ => by simp [Ex.oos]
  | e :: r, h => by
    simp only [Ex.oos]
    exact ⟨Ex.sc_oo e (h e (by simp)).1, Ex.gds_oos fun x hx => h x (by simp [hx])⟩
end
mutual
theorem St.sc_oo {P : Prg} {F : Int} : ∀ (x : St) (V : List (List UInt8)), x.sc P F V → x.oo P
  | .mk k a t u s i e b l, V, h => by
    simp only [St.sc] at h
    simp only [St.oo]
    exact ⟨fun hk => Ex.gds_oos (h.1 hk), fun hk => Ex.gds_oos (h.2.1 hk).1, h.2.2.1, fun hk => St.scs_oos b V (h.2.2.2.1 hk), fun hk => St.scs_oos l V (h.2.2.2.2 hk)⟩
theorem St.scs_oos {P : Prg} {F : Int} : ∀ (l : List St) (V : List (List UInt8)), St.scs P F V l → St.oos P l
  | [], V, _ => by simp [St.oos]
  | x :: r, V, h => by
    rw [St.scs_cons] at h
    simp only [St.oos]
    exact ⟨St.sc_oo x V h.1, St.scs_oos r _ h.2⟩
end
theorem Prg.lidx_lt (P : Prg) (s : List UInt8) : P.lidx s < P.locks.length := by
  rcases fidx_cases (P.locks.map Lok.name) s with ⟨i, h1, h2, h3⟩ | ⟨h1, -⟩
  · have hi : P.lidx s = i := h1
    have hlt := (List.getElem?_eq_some_iff.1 h2).1
    simp at hlt
    omega
  · have : P.lidx s = -1 := h1
    omega
theorem Prg.base_le {P : Prg} (hv : PV P) (s : List UInt8) : 0 ≤ (P.pl s).base ∧ (P.pl s).base ≤ 65535 := by
  have hng := hv.ng
  have hw1 := words_le (gs := P.globals) (b := false) hv.g
  unfold Prg.pl Prg.plc
  split
  · rename_i g hg
    have hw2 := words_le (gs := P.globals.take (P.gidx s).toNat) (b := g.secret) (fun g hg => hv.g g (List.mem_of_mem_take hg))
    have : (P.globals.take (P.gidx s).toNat).length ≤ 32 := by simp; omega
    simp only
    split <;> omega
  · simp
section
variable {P : Prg} {cl : List UInt8 → List Int → LM Int} {L : Nat} {s s' : LS} {V V' : LV}
def JCl (P : Prg) (L : Nat) (cl : List UInt8 → List Int → LM Int) : Prop := ∀ nm rs s x s', JC P s → (∀ a ∈ rs, Reg s.r a) → cl nm rs L s = some (x, s') → JC P s' ∧ Ex2 s s' ∧ Reg s'.r x
theorem lreg_reg {r : Nat} {nm : List UInt8} {v : Int} (h : VOk r V) (hl : lreg V nm = some v) : Reg r v := by
  unfold lreg at hl
  cases hf : V.reverse.find? fun p => p.1 == nm with
  | none => rw [hf] at hl; cases hl
  | some q =>
    rw [hf] at hl
    cases hl
    exact h q (by simpa using List.mem_of_find?_eq_some hf)
theorem jfin (hv : PV P) (hc : JCl P L cl) {k o n : Int} {nm : List UInt8} {rs : List Int} {x : Int} (j : JC P s) (hV : VOk s.r V) (hr : ∀ a ∈ rs, Reg s.r a) (ho : k = 6 → 0 ≤ o ∧ o ≤ 18) (h : lfin P cl V k o n nm rs L s = some (x, s')) : JC P s' ∧ Ex2 s s' ∧ Reg s'.r x := by
  have hb := P.base_le hv nm
  unfold lfin at h
  split at h
  · exact jset _ _ _ _ j h
  split at h
  · cases hl : lreg V nm with
    | some r =>
      rw [hl] at h
      cases h
      exact ⟨j, .refl _, lreg_reg hV hl⟩
    | none =>
      rw [hl] at h
      exact jload j (.inr rfl) hb h
  split at h
  · split at h
    · rename_i t r
      have ht := hr t (by simp)
      split at h
      · obtain ⟨_, s1, h1, h⟩ := LM.inv h
        obtain ⟨j1, e1⟩ := jlook j ht h1
        obtain ⟨m, s2, h2, h⟩ := LM.inv h
        obtain ⟨j2, e2, r2⟩ := jmasked j1 (ht.le e1.r) h2
        obtain ⟨j3, e3, r3⟩ := jload j2 (.inl r2) hb h
        exact ⟨j3, (e1.trans e2).trans e3, r3⟩
      · obtain ⟨u, s1, h1, h⟩ := LM.inv h
        obtain ⟨j1, e1, r1⟩ := jmove j ht h1
        obtain ⟨_, s2, h2, h⟩ := LM.inv h
        obtain ⟨j2, e2⟩ := jlook j1 r1 h2
        obtain ⟨j3, e3, r3⟩ := jload j2 (.inl (r1.le e2.r)) hb h
        exact ⟨j3, (e1.trans e2).trans e3, r3⟩
    · cases h
  split at h
  · split at h
    · rename_i a r
      have ha := hr a (by simp)
      obtain ⟨z, s1, h1, h⟩ := LM.inv h
      obtain ⟨j1, e1, r1⟩ := jset _ _ _ _ j h1
      obtain ⟨j2, e2, r2⟩ := jcalc j1 (by omega) r1 (ha.le e1.r) h
      exact ⟨j2, e1.trans e2, r2⟩
    · cases h
  split at h
  · rename_i hk
    have hoo := ho hk
    split at h
    · rename_i a b r
      have ha := hr a (by simp)
      have hb2 := hr b (by simp)
      split at h
      · obtain ⟨_, s1, h1, h⟩ := LM.inv h
        obtain ⟨j1, e1⟩ := jtrap j hb2 (by omega) h1
        obtain ⟨j2, e2, r2⟩ := jcalc j1 hoo (ha.le e1.r) (hb2.le e1.r) h
        exact ⟨j2, e1.trans e2, r2⟩
      · exact jcalc j hoo ha hb2 h
    · cases h
  · exact hc _ _ _ _ _ j hr h
mutual
theorem jexpr (hv : PV P) (hc : JCl P L cl) : ∀ (e : Ex) (s s' : LS) (x : Int), e.oo → JC P s → VOk s.r V → lexpr P cl V e L s = some (x, s') → JC P s' ∧ Ex2 s s' ∧ Reg s'.r x
  | .mk k o n nm ks a, s, s', x, he, j, hV, h => by
    simp only [Ex.oo] at he
    simp only [lexpr] at h
    obtain ⟨rs, s1, h1, h⟩ := LM.inv h
    obtain ⟨j1, e1, r1⟩ := jexprs hv hc ks s s1 rs he.1 j hV h1
    obtain ⟨j2, e2, r2⟩ := jfin hv hc j1 (hV.le e1.r) r1 he.2 h
    exact ⟨j2, e1.trans e2, r2⟩
theorem jexprs (hv : PV P) (hc : JCl P L cl) : ∀ (l : List Ex) (s s' : LS) (rs : List Int), Ex.oos l → JC P s → VOk s.r V → lexprs P cl V l L s = some (rs, s') → JC P s' ∧ Ex2 s s' ∧ ∀ a ∈ rs, Reg s'.r a
  | [], s, s', rs, _, j, hV, h => by
    simp only [lexprs, LM.ret, Option.some.injEq, Prod.mk.injEq] at h
    obtain ⟨rfl, rfl⟩ := h
    exact ⟨j, .refl _, by simp⟩
  | e :: r, s, s', rs, he, j, hV, h => by
    simp only [Ex.oos] at he
    simp only [lexprs] at h
    obtain ⟨x, s1, h1, h⟩ := LM.inv h
    obtain ⟨xs, s2, h2, h⟩ := LM.inv h
    cases h
    obtain ⟨j1, e1, r1⟩ := jexpr hv hc e s s1 x he.1 j hV h1
    obtain ⟨j2, e2, r2⟩ := jexprs hv hc r s1 s' xs he.2 j1 (hV.le e1.r) h2
    refine ⟨j2, e1.trans e2, fun a ha => ?_⟩
    rcases List.mem_cons.1 ha with rfl | ha
    · exact r1.le e2.r
    · exact r2 a ha
end
theorem Ex.oos_mem {l : List Ex} (h : Ex.oos l) {x : Ex} (hx : x ∈ l) : x.oo := by
  induction l with
  | nil => simp at hx
  | cons y r ih =>
    simp only [Ex.oos] at h
    rcases List.mem_cons.1 hx with rfl | hx
    · exact h.1
    · exact ih h.2 hx
theorem jarray (hv : PV P) (hc : JCl P L cl) {nm : List UInt8} {y x : Ex} {u : Unit} (hy : y.oo) (hx : x.oo) (j : JC P s) (hV : VOk s.r V) (h : larray P cl V nm y x L s = some (u, s')) : JC P s' ∧ Ex2 s s' := by
  have hb := P.base_le hv nm
  unfold larray at h
  obtain ⟨t, s1, h1, h⟩ := LM.inv h
  obtain ⟨j1, e1, r1⟩ := jexpr hv hc y _ _ _ hy j hV h1
  obtain ⟨_, s2, h2, h⟩ := LM.inv h
  obtain ⟨j2, e2⟩ := jlook j1 r1 h2
  obtain ⟨e, s3, h3, h⟩ := LM.inv h
  obtain ⟨j3, e3, r3⟩ := jexpr hv hc x _ _ _ hx j2 (hV.le (e1.trans e2).r) h3
  obtain ⟨m, s4, h4, h⟩ := LM.inv h
  have e13 := (e1.trans e2).trans e3
  have r1' := r1.le (e2.trans e3).r
  have key : JC P s4 ∧ Ex2 s3 s4 ∧ Reg s4.r m := by
    split at h4
    · exact jmasked j3 r1' h4
    · obtain ⟨w, s5, h5, h4⟩ := LM.inv h4
      obtain ⟨j5, e5, r5⟩ := jmove j3 r1' h5
      obtain ⟨c, s6, h6, h4⟩ := LM.inv h4
      obtain ⟨j6, e6, r6⟩ := jbelow j5 r5 h6
      obtain ⟨z, s7, h7, h4⟩ := LM.inv h4
      obtain ⟨j7, e7, r7⟩ := jset _ _ _ _ j6 h7
      obtain ⟨_, s8, h8, h4⟩ := LM.inv h4
      obtain ⟨j8, e8, -⟩ := jput j7 (x := ⟨3, 0, z, c, w, 0, 0⟩) ⟨by simp, by simp; exact r7, by simp [kA]; exact r6.le e7.r, by simp [kB]; exact r5.le (e6.trans e7).r, by simp, by simp [kN], by simp⟩ (by simp) h8
      cases h4
      exact ⟨j8, ((e5.trans e6).trans e7).trans e8, r7.le e8.r⟩
  obtain ⟨j4, e4, r4⟩ := key
  obtain ⟨j5, e5, -⟩ := jput j4 (x := ⟨5, 0, 0, m, e, (P.pl nm).base, 0⟩) ⟨by simp, by simp, by simp [kA]; exact .inl r4, by simp [kB]; exact r3.le e4.r, by simp, by simp [kN]; exact hb, by simp⟩ (by simp) h
  exact ⟨j5, (e13.trans e4).trans e5⟩
theorem jassign (hv : PV P) (hc : JCl P L cl) {nm : List UInt8} {i e : List Ex} {u : Unit} (hi : Ex.oos i) (he : Ex.oos e) (j : JC P s) (hV : VOk s.r V) (h : lassign P cl V nm i e L s = some (u, s')) : JC P s' ∧ Ex2 s s' := by
  have hb := P.base_le hv nm
  unfold lassign at h
  split at h
  · rename_i x r
    have hx := Ex.oos_mem he (x := x) (by simp)
    split at h
    · rename_i y r2
      exact jarray hv hc (Ex.oos_mem hi (by simp)) hx j hV h
    · obtain ⟨v, s1, h1, h⟩ := LM.inv h
      obtain ⟨j1, e1, r1⟩ := jexpr hv hc x _ _ _ hx j hV h1
      cases hl : lreg V nm with
      | some d =>
        rw [hl] at h
        have hd := (lreg_reg hV hl).le e1.r
        obtain ⟨j2, e2, -⟩ := jput j1 (x := ⟨1, 0, d, v, 0, 0, 0⟩) ⟨by simp, by simp; exact hd, by simp [kA]; exact r1, by simp [kB], by simp, by simp [kN], by simp⟩ (by simp) h
        exact ⟨j2, e1.trans e2⟩
      | none =>
        rw [hl] at h
        obtain ⟨j2, e2, -⟩ := jput j1 (x := ⟨5, 0, 0, -1, v, (P.pl nm).base, 0⟩) ⟨by simp, by simp, by simp [kA], by simp [kB]; exact r1, by simp, by simp [kN]; exact hb, by simp⟩ (by simp) h
        exact ⟨j2, e1.trans e2⟩
  · cases h
end
end Go.Ab

/- Plain laws of the lowering: what its instructions are, of statements and threads. -/
namespace Go.Ab
open Go.Proofs

section
variable {P : Prg} {cl : List UInt8 → List Int → LM Int} {L : Nat} {s s' : LS} {V V' : LV}
theorem Ex2.at {x : Ins} {s1 s2 : LS} (e : Ex2 s1 s2) {k : Nat} (hk : s1.c[k]? = some x) (h67 : x.kind = 6 ∨ x.kind = 7) : ∀ y, s2.c[k]? = some y → y.kind = 6 ∨ y.kind = 7 := by
  obtain ⟨z, h1, h2⟩ := e.c k x hk
  intro y hy
  rw [h1] at hy
  cases hy
  rw [h2]
  exact h67
mutual
theorem jstmt (hv : PV P) (hc : JCl P L cl) : ∀ (x : St) (V : LV) (s s' : LS) (V' : LV), x.oo P → JC P s → VOk s.r V → lstmt P cl x V L s = some (V', s') → JC P s' ∧ Ex2 s s' ∧ VOk s'.r V'
  | .mk k a t u nm i e b l, V, s, s', V', ho, j, hV, h => by
    simp only [St.oo] at ho
    obtain ⟨he, hi, h4, hb, hl⟩ := ho
    simp only [lstmt] at h
    split at h
    · rename_i hk
      split at h
      · rename_i x r
        obtain ⟨v, s1, h1, h⟩ := LM.inv h
        obtain ⟨j1, e1, r1⟩ := jexpr hv hc x _ _ _ (Ex.oos_mem (he (by omega)) (by simp)) j hV h1
        obtain ⟨m, s2, h2, h⟩ := LM.inv h
        obtain ⟨j2, e2, r2⟩ := jmove j1 r1 h2
        cases h
        refine ⟨j2, e1.trans e2, fun p hp => ?_⟩
        rcases List.mem_append.1 hp with hp | hp
        · exact (hV p hp).le (e1.trans e2).r
        · simp at hp; subst hp; exact r2
      · cases h
    split at h
    · rename_i hk
      obtain ⟨_, s1, h1, h⟩ := LM.inv h
      cases h
      obtain ⟨j1, e1⟩ := jassign hv hc (hi hk) (he (by omega)) j hV h1
      exact ⟨j1, e1, hV.le e1.r⟩
    split at h
    · rename_i hk
      split at h
      · rename_i x r
        obtain ⟨v, s1, h1, h⟩ := LM.inv h
        obtain ⟨j1, e1, r1⟩ := jexpr hv hc x _ _ _ (Ex.oos_mem (he (by omega)) (by simp)) j hV h1
        obtain ⟨z, s1', h0, h⟩ := LM.inv h
        cases h0
        obtain ⟨_, s2, h2, h⟩ := LM.inv h
        obtain ⟨j2, e2, c2, r2⟩ := jput j1 (x := ⟨7, 0, 0, v, 0, 0, 0⟩) ⟨by simp, by simp, by simp [kA]; exact r1, by simp [kB], by simp, by simp [kN], by simp⟩ (by simp) h2
        have hz2 : s2.c[s1.c.length]? = some ⟨7, 0, 0, v, 0, 0, 0⟩ := by rw [c2]; simp
        obtain ⟨V3, s3, h3, h⟩ := LM.inv h
        obtain ⟨j3, e3, -⟩ := jstmts hv hc b V s2 s3 V3 (hb (by omega)) j2 (hV.le (e1.trans e2).r) h3
        have hz3 := e3.at hz2 (by simp)
        have e13 := (e1.trans e2).trans e3
        split at h
        · obtain ⟨n, s3', h0, h⟩ := LM.inv h
          cases h0
          obtain ⟨_, s4, h4, h⟩ := LM.inv h
          obtain ⟨j4, e4, -⟩ := jto j3 hz3 (Nat.le_refl _) h4
          cases h
          exact ⟨j4, e13.trans e4, hV.le (e13.trans e4).r⟩
        · obtain ⟨jp, s3', h0, h⟩ := LM.inv h
          cases h0
          obtain ⟨_, s4, h4, h⟩ := LM.inv h
          obtain ⟨j4, e4, c4, r4⟩ := jput j3 (x := ⟨6, 0, 0, 0, 0, 0, 0⟩) ⟨by simp, by simp, by simp [kA], by simp [kB], by simp, by simp [kN], by simp⟩ (by simp) h4
          have hj4 : s4.c[s3.c.length]? = some ⟨6, 0, 0, 0, 0, 0, 0⟩ := by rw [c4]; simp
          obtain ⟨n, s4', h0, h⟩ := LM.inv h
          cases h0
          obtain ⟨_, s5, h5, h⟩ := LM.inv h
          have hz4 : ∀ y, s4.c[s1.c.length]? = some y → y.kind = 6 ∨ y.kind = 7 := (e3.trans e4).at hz2 (by simp)
          obtain ⟨j5, e5, -⟩ := jto j4 hz4 (Nat.le_refl _) h5
          obtain ⟨V6, s6, h6, h⟩ := LM.inv h
          have e15 := (e13.trans e4).trans e5
          obtain ⟨j6, e6, -⟩ := jstmts hv hc l V s5 s6 V6 (hl hk) j5 (hV.le e15.r) h6
          obtain ⟨n6, s6', h0, h⟩ := LM.inv h
          cases h0
          obtain ⟨_, s7, h7, h⟩ := LM.inv h
          obtain ⟨j7, e7, -⟩ := jto j6 ((e5.trans e6).at hj4 (by simp)) (Nat.le_refl _) h7
          cases h
          exact ⟨j7, (e15.trans e6).trans e7, hV.le ((e15.trans e6).trans e7).r⟩
      · cases h
    split at h
    · rename_i hk
      split at h
      · rename_i x r
        obtain ⟨fr, s0, h0, h⟩ := LM.inv h
        cases h0
        obtain ⟨v, s1, h1, h⟩ := LM.inv h
        obtain ⟨j1, e1, r1⟩ := jexpr hv hc x _ _ _ (Ex.oos_mem (he (by omega)) (by simp)) j hV h1
        obtain ⟨z, s1', h0, h⟩ := LM.inv h
        cases h0
        obtain ⟨_, s2, h2, h⟩ := LM.inv h
        obtain ⟨j2, e2, c2, r2⟩ := jput j1 (x := ⟨7, 0, 0, v, 0, 0, 0⟩) ⟨by simp, by simp, by simp [kA]; exact r1, by simp [kB], by simp, by simp [kN], by simp⟩ (by simp) h2
        have hz2 : s2.c[s1.c.length]? = some ⟨7, 0, 0, v, 0, 0, 0⟩ := by rw [c2]; simp
        obtain ⟨V3, s3, h3, h⟩ := LM.inv h
        obtain ⟨j3, e3, -⟩ := jstmts hv hc b V s2 s3 V3 (hb (by omega)) j2 (hV.le (e1.trans e2).r) h3
        obtain ⟨_, s4, h4, h⟩ := LM.inv h
        have e13 := (e1.trans e2).trans e3
        obtain ⟨j4, e4, -⟩ := jput j3 (x := ⟨6, 0, 0, 0, 0, 0, s.c.length⟩) ⟨by simp, by simp, by simp [kA], by simp [kB], by simp, by simp [kN], by simp⟩ (by have := e13.len; simp; omega) h4
        obtain ⟨n, s4', h0, h⟩ := LM.inv h
        cases h0
        obtain ⟨_, s5, h5, h⟩ := LM.inv h
        obtain ⟨j5, e5, -⟩ := jto j4 ((e3.trans e4).at hz2 (by simp)) (Nat.le_refl _) h5
        cases h
        exact ⟨j5, (e13.trans e4).trans e5, hV.le ((e13.trans e4).trans e5).r⟩
      · cases h
    split at h
    · rename_i hk
      have hlk := h4 hk
      have hll := P.lidx_lt nm
      obtain ⟨_, s1, h1, h⟩ := LM.inv h
      obtain ⟨j1, e1, -⟩ := jput j (x := ⟨9, 0, 0, 0, 0, P.lidx nm, 0⟩) ⟨by simp, by simp, by simp [kA], by simp [kB], by simp, by simp [kN]; exact ⟨hlk, hll⟩, by simp⟩ (by simp) h1
      obtain ⟨V2, s2, h2, h⟩ := LM.inv h
      obtain ⟨j2, e2, -⟩ := jstmts hv hc b V s1 s2 V2 (hb (by omega)) j1 (hV.le e1.r) h2
      obtain ⟨_, s3, h3, h⟩ := LM.inv h
      obtain ⟨j3, e3, -⟩ := jput j2 (x := ⟨10, 0, 0, 0, 0, P.lidx nm, 0⟩) ⟨by simp, by simp, by simp [kA], by simp [kB], by simp, by simp [kN]; exact ⟨hlk, hll⟩, by simp⟩ (by simp) h3
      cases h
      exact ⟨j3, (e1.trans e2).trans e3, hV.le ((e1.trans e2).trans e3).r⟩
    split at h
    · rename_i x r
      obtain ⟨v, s1, h1, h⟩ := LM.inv h
      obtain ⟨j1, e1, r1⟩ := jexpr hv hc x _ _ _ (Ex.oos_mem (he (by omega)) (by simp)) j hV h1
      obtain ⟨_, s2, h2, h⟩ := LM.inv h
      obtain ⟨j2, e2, -⟩ := jput j1 (x := ⟨11, 0, 0, v, 0, 0, 0⟩) ⟨by simp, by simp, by simp [kA]; exact r1, by simp [kB], by simp, by simp [kN], by simp⟩ (by simp) h2
      cases h
      exact ⟨j2, e1.trans e2, hV.le (e1.trans e2).r⟩
    · cases h
theorem jstmts (hv : PV P) (hc : JCl P L cl) : ∀ (l : List St) (V : LV) (s s' : LS) (V' : LV), St.oos P l → JC P s → VOk s.r V → lstmts P cl l V L s = some (V', s') → JC P s' ∧ Ex2 s s' ∧ VOk s'.r V'
  | [], V, s, s', V', _, j, hV, h => by
    simp only [lstmts, LM.ret, Option.some.injEq, Prod.mk.injEq] at h
    obtain ⟨rfl, rfl⟩ := h
    exact ⟨j, .refl _, hV⟩
  | x :: r, V, s, s', V', ho, j, hV, h => by
    simp only [St.oos] at ho
    simp only [lstmts] at h
    obtain ⟨V1, s1, h1, h⟩ := LM.inv h
    obtain ⟨j1, e1, v1⟩ := jstmt hv hc x V s s1 V1 ho.1 j hV h1
    obtain ⟨j2, e2, v2⟩ := jstmts hv hc r V1 s1 s' V' ho.2 j1 v1 h
    exact ⟨j2, e1.trans e2, v2⟩
end
theorem jmoves : ∀ (l : List Int) (s s' : LS) (ms : List Int), JC P s → (∀ a ∈ l, Reg s.r a) → lmoves l L s = some (ms, s') → JC P s' ∧ Ex2 s s' ∧ ∀ a ∈ ms, Reg s'.r a
  | [], s, s', ms, j, hr, h => by
    simp only [lmoves, LM.ret, Option.some.injEq, Prod.mk.injEq] at h
    obtain ⟨rfl, rfl⟩ := h
    exact ⟨j, .refl _, by simp⟩
  | a :: r, s, s', ms, j, hr, h => by
    simp only [lmoves] at h
    obtain ⟨m, s1, h1, h⟩ := LM.inv h
    obtain ⟨xs, s2, h2, h⟩ := LM.inv h
    cases h
    obtain ⟨j1, e1, r1⟩ := jmove j (hr a (by simp)) h1
    obtain ⟨j2, e2, r2⟩ := jmoves r s1 s' xs j1 (fun x hx => (hr x (by simp [hx])).le e1.r) h2
    refine ⟨j2, e1.trans e2, fun x hx => ?_⟩
    rcases List.mem_cons.1 hx with rfl | hx
    · exact r1.le e2.r
    · exact r2 x hx
theorem fat_oo (hw : PW P) (nm : List UInt8) : St.oos P (P.fat nm).body ∧ (P.fat nm).ret.oo := by
  unfold Prg.fat
  split
  · rename_i h0
    have hlt := P.fix_lt nm
    have hget : P.funcs[(P.fix nm).toNat]? = some (P.funcs[(P.fix nm).toNat]'(by omega)) := List.getElem?_eq_getElem (by omega)
    rw [hget]
    have hfs := hw.fn _ _ hget
    exact ⟨St.scs_oos _ _ hfs.1, Ex.sc_oo _ hfs.2.1⟩
  · exact ⟨by simp [fz, St.oos], by simp [fz, Ex.oo, Ex.oos]⟩
theorem jcall (hw : PW P) : ∀ f : Nat, JCl P L (lcall P f)
  | 0 => fun nm rs s x s' j hr h => by cases h
  | f + 1 => fun nm rs s x s' j hr h => by
    simp only [lcall] at h
    obtain ⟨ms, s1, h1, h⟩ := LM.inv h
    obtain ⟨j1, e1, r1⟩ := jmoves rs s s1 ms j hr h1
    obtain ⟨V2, s2, h2, h⟩ := LM.inv h
    obtain ⟨hb, he⟩ := fat_oo hw nm
    obtain ⟨j2, e2, v2⟩ := jstmts hw.pv (jcall hw f) _ _ s1 s2 V2 hb j1 (fun p hp => r1 _ (List.of_mem_zip hp).2) h2
    obtain ⟨j3, e3, r3⟩ := jexpr hw.pv (jcall hw f) _ s2 s' x he j2 v2 h
    exact ⟨j3, (e1.trans e2).trans e3, r3⟩
theorem jthread (hw : PW P) {t : List St} (ht : t ∈ P.threads) {V' : LV} (h : lstmts P (lcall P 17) t [] L ⟨[], 0⟩ = some (V', s')) : JC P s' :=
  (jstmts hw.pv (jcall hw 17) t [] ⟨[], 0⟩ s' V' (St.scs_oos t [] (hw.th t ht)) ⟨by simp, by simp, by simp⟩ (by simp [VOk]) h).1
end
end Go.Ab

/- Plain laws of the lowering: what a thread's instructions are. -/
namespace Go.Ab
open Go.Proofs

def rsv (t : Int) (m : Nat) (x : Ins) : Ins := if x.led t = true then { x with to := (m : Int) } else x
def trp (n : Int) : Ins := ⟨12, 0, 0, 0, 0, n, 0⟩
def hlt : Ins := ⟨13, 0, 0, 0, 0, 0, 0⟩
structure Md (P : Prg) (c : List Ins) (b r ph : Nat) : Prop where
  hb : b < c.length
  lo : ∀ (k : Nat) x, k < b → c[k]? = some x → Ok1 P r x ∧ x.to < c.length ∧ (0 ≤ x.to ∨ ∃ t : Nat, ph < t ∧ t ≤ 2 ∧ x.led t = true)
  mid : c[b]? = some hlt
  hi : ∀ (k : Nat) x, b < k → c[k]? = some x → ∃ n : Nat, x = trp n ∧ 1 ≤ n ∧ n ≤ ph ∧ (k = b + 1 ∨ k = b + 2 ∧ n = 2 ∧ c[b + 1]? = some (trp 1)) ∧ ∃ (j : Nat) (y : Ins), c[j]? = some y ∧ y.kind = 7 ∧ y.to = k
  df : ∀ k : Nat, k < r → ∃ x ∈ c, x.kind ≤ 4 ∧ x.d = k
  len : c.length ≤ b + 1 + ph
theorem rsv_kind (t : Int) (m : Nat) (x : Ins) : (rsv t m x).kind = x.kind ∧ (rsv t m x).d = x.d := by
  unfold rsv
  split <;> exact ⟨rfl, rfl⟩
theorem rsv_to {t : Int} {m : Nat} {x : Ins} (ht : 0 < t) (hx : 0 ≤ x.to) : rsv t m x = x := by
  unfold rsv
  rw [if_neg]
  intro h
  simp only [Ins.led, Bool.and_eq_true, beq_iff_eq] at h
  omega
section
variable {P : Prg} {L : Nat} {s' : LS} {c : List Ins} {b r ph : Nat}
theorem Md.step (h : Md P c b r ph) (hph : ph < 2) {u : Unit} (hl : lend (ph + 1 : Nat) L ⟨c, r⟩ = some (u, s')) : Md P s'.c b r (ph + 1) ∧ s'.r = r := by
  obtain ⟨hb, lo, mid, hi, df, len⟩ := h
  unfold lend at hl
  by_cases hany : c.any (Ins.led (ph + 1 : Nat)) = true
  · simp only [hany, if_true, lput] at hl
    split at hl
    case isFalse => cases hl
    cases hl
    obtain ⟨t, htd⟩ : ∃ t : Nat, t = ph + 1 := ⟨_, rfl⟩
    rw [← htd] at hany ⊢
    have e : (c.map fun x => if x.led t = true then { x with to := (c.length : Int) } else x) = c.map (rsv t c.length) := rfl
    rw [e]
    obtain ⟨c', hc'⟩ : ∃ c', c.map (rsv t c.length) ++ [trp t] = c' := ⟨_, rfl⟩
    show Md P (c.map (rsv t c.length) ++ [trp t]) b r t ∧ r = r
    rw [hc']
    have hlen : c'.length = c.length + 1 := by rw [← hc']; simp
    have get : ∀ k, k < c.length → c'[k]? = (c[k]?).map (rsv t c.length) := fun k hk => by
      rw [← hc', List.getElem?_append_left (by simpa using hk), List.getElem?_map]
    have getl : c'[c.length]? = some (trp t) := by
      rw [← hc', List.getElem?_append_right (by simp)]; simp
    refine ⟨⟨by omega, fun k x hk hx => ?_, ?_, fun k x hk hx => ?_, fun k hk => ?_, by omega⟩, rfl⟩
    · rw [get k (by omega)] at hx
      cases hz : c[k]? with
      | none => rw [hz] at hx; cases hx
      | some z =>
        rw [hz] at hx
        simp only [Option.map_some, Option.some.injEq] at hx
        subst hx
        obtain ⟨q1, q2, q3⟩ := lo k z hk hz
        unfold rsv
        split
        · rename_i hld
          simp only [Ins.led, Bool.and_eq_true, beq_iff_eq] at hld
          exact ⟨⟨q1.k, q1.d, q1.a, q1.b, q1.o, q1.n, fun h6 h7 => absurd hld.1 h7⟩, by simp; omega, .inl (by simp)⟩
        · rename_i hld
          refine ⟨q1, by omega, ?_⟩
          rcases q3 with h0 | ⟨t', h1, h2, h3⟩
          · exact .inl h0
          refine .inr ⟨t', ?_, h2, h3⟩
          rcases Nat.lt_or_ge t t' with h | h
          · exact h
          · have : t' = t := by omega
            rw [this] at h3
            exact absurd h3 hld
    · rw [get b hb, mid]
      simp [rsv, hlt, Ins.led]
    · rcases Nat.lt_or_ge k c.length with hkl | hkl
      · rw [get k hkl] at hx
        cases hz : c[k]? with
        | none => rw [hz] at hx; cases hx
        | some z =>
          rw [hz] at hx
          simp only [Option.map_some, Option.some.injEq] at hx
          subst hx
          obtain ⟨n, rfl, n1, n2, n3, j, y, y1, y2, y3⟩ := hi k z hk hz
          have n3' : k = b + 1 ∨ k = b + 2 ∧ n = 2 ∧ c'[b + 1]? = some (trp 1) := by
            rcases n3 with h1 | ⟨h1, h2, h3⟩
            · exact .inl h1
            · refine .inr ⟨h1, h2, ?_⟩
              rw [get (b + 1) (List.getElem?_eq_some_iff.1 h3).1, h3]
              simp [rsv, trp, Ins.led]
          refine ⟨n, by simp [rsv, trp, Ins.led], n1, by omega, n3', j, y, ?_, y2, y3⟩
          · rw [get j (List.getElem?_eq_some_iff.1 y1).1, y1, Option.map_some, rsv_to (by omega) (by omega)]
      · have hk2 : k = c.length := by
          have := (List.getElem?_eq_some_iff.1 hx).1
          omega
        subst hk2
        rw [getl] at hx
        cases hx
        obtain ⟨y, hy, hyl⟩ := List.any_eq_true.1 hany
        obtain ⟨j, hj⟩ := List.mem_iff_getElem?.1 hy
        refine ⟨t, rfl, by omega, by omega, ?_, j, rsv t c.length y, ?_, ?_, ?_⟩
        · rcases (show c.length = b + 1 ∨ c.length = b + 2 ∧ ph = 1 by omega) with h | ⟨h1, h2⟩
          · exact .inl h
          · refine .inr ⟨h1, by omega, ?_⟩
            have hlt1 : b + 1 < c.length := by omega
            obtain ⟨n, e1, n1, n2, -⟩ := hi (b + 1) c[b + 1] (by omega) (List.getElem?_eq_getElem hlt1)
            have : n = 1 := by omega
            subst this
            rw [get (b + 1) hlt1, List.getElem?_eq_getElem hlt1, Option.map_some, e1]
            simp [rsv, trp, Ins.led]
        · rw [get j (List.getElem?_eq_some_iff.1 hj).1, hj]; rfl
        · rw [(rsv_kind _ _ _).1]
          simp only [Ins.led, Bool.and_eq_true, beq_iff_eq] at hyl
          exact hyl.1
        · simp [rsv, hyl]
    · obtain ⟨x, h1, h2⟩ := df k hk
      refine ⟨rsv t c.length x, by rw [← hc']; exact List.mem_append.2 (.inl (List.mem_map.2 ⟨x, h1, rfl⟩)), ?_⟩
      rw [(rsv_kind _ _ _).1, (rsv_kind _ _ _).2]
      exact h2
  · simp only [hany, if_false] at hl
    cases hl
    refine ⟨⟨hb, fun k x hk hx => ?_, mid, fun k x hk hx => ?_, df, by simp; omega⟩, rfl⟩
    · obtain ⟨q1, q2, q3⟩ := lo k x hk hx
      refine ⟨q1, q2, ?_⟩
      rcases q3 with h0 | ⟨t', h1, h2, h3⟩
      · exact .inl h0
      refine .inr ⟨t', ?_, h2, h3⟩
      rcases Nat.lt_or_ge (ph + 1) t' with h | h
      · exact h
      · have : t' = ph + 1 := by omega
        rw [this] at h3
        exact absurd (List.any_eq_true.2 ⟨x, List.mem_of_getElem? hx, h3⟩) hany
    · obtain ⟨n, h1, n1, n2, n3⟩ := hi k x hk hx
      exact ⟨n, h1, n1, by omega, n3⟩
theorem fin_of (hw : PW P) {i : Int} (h : thR P i L = some c) : ∃ b r, Md P c b r 2 := by
  unfold thR at h
  split at h
  case isFalse => cases h
  rename_i h0
  obtain ⟨t, ht⟩ : ∃ t, P.threads[i.toNat]? = some t := ⟨_, List.getElem?_eq_getElem (by omega)⟩
  rw [ht] at h
  simp only [Option.getD_some] at h
  cases hl : lthread P t L ⟨[], 0⟩ with
  | none => rw [hl] at h; cases h
  | some p =>
    obtain ⟨u, s'⟩ := p
    rw [hl] at h
    simp only [Option.map_some, Option.some.injEq] at h
    subst h
    unfold lthread at hl
    obtain ⟨V1, s1, h1, hl⟩ := LM.inv hl
    obtain ⟨_, s2, h2, hl⟩ := LM.inv hl
    obtain ⟨_, s3, h3, hl⟩ := LM.inv hl
    have j1 := jthread hw (List.mem_of_getElem? ht) h1
    have t1 : Tos s1.c := TT.stmts (TT.call 17) t [] L ⟨[], 0⟩ _ s1 (fun x hx => by simp at hx) h1
    simp only [lput] at h2
    split at h2
    case isFalse => cases h2
    cases h2
    have m0 : Md P (s1.c ++ [hlt]) s1.c.length s1.r 0 := by
      refine ⟨by simp, fun k x hk hx => ?_, by simp, fun k x hk hx => ?_, fun k hk => ?_, by simp⟩
      · rw [List.getElem?_append_left hk] at hx
        have hm := List.mem_of_getElem? hx
        refine ⟨j1.ok x hm, by have := j1.to x hm; simp; omega, ?_⟩
        rcases t1 x hm with h | h | h
        · exact .inl h
        · exact .inr ⟨1, by omega, by omega, h⟩
        · exact .inr ⟨2, by omega, by omega, h⟩
      · have := (List.getElem?_eq_some_iff.1 hx).1
        simp at this
        omega
      · obtain ⟨x, q1, q2⟩ := j1.df k hk
        exact ⟨x, List.mem_append.2 (.inl q1), q2⟩
    obtain ⟨m1, r1⟩ := m0.step (by omega) h3
    obtain ⟨c3, r3⟩ := s3
    simp only at r1 m1
    subst r1
    obtain ⟨m2, r2⟩ := m1.step (by omega) hl
    exact ⟨_, _, m2⟩
end
end Go.Ab

/- LowerMay: palingref11's checks. -/
namespace Go.Ab
open Go.Proofs

set_option maxRecDepth 100000
set_option maxHeartbeats 8000000
def fldL : List (List UInt8) := [[68, 78], [68, 65], [68, 79, 65, 66], [68, 65, 66], [68, 65, 78], [65, 66, 78], [84], [65, 84], [46], [78], [78], [65], [78], [46]]
/-- A kind's fields. -/
def flds (k : Int) : List UInt8 := (fldL[k.toNat]?).getD []
section
variable {H : List AObj}
theorem fields_c {k : Int} (h : 0 ≤ k ∧ k < 14) : SCalls Tryz.prog 43 [.int .i64 k] H (fun r K => r = .ret (.str (flds k)) ∧ K = addH H .tip) := by
  refine fn_go k43 rfl ?_
  intro Q hQ
  obtain ⟨n, rfl⟩ : ∃ n : Nat, k = n := ⟨k.toNat, by omega⟩
  have h0 : ¬ ((n : Int) < 0) := by omega
  have h1 : ¬ (14 : Int) ≤ n := by omega
  simp [c43, h0, h1]
  rcases (by omega : n = 0 ∨ n = 1 ∨ n = 2 ∨ n = 3 ∨ n = 4 ∨ n = 5 ∨ n = 6 ∨ n = 7 ∨ n = 8 ∨ n = 9 ∨ n = 10 ∨ n = 11 ∨ n = 12 ∨ n = 13) with rfl | rfl | rfl | rfl | rfl | rfl | rfl | rfl | rfl | rfl | rfl | rfl | rfl | rfl <;>
  · simp [c43_1]
    exact hQ _ _ ⟨rfl, rfl⟩
def I42 (s : List UInt8) (b : UInt8) (H : List AObj) (m : Nat) (τ : Env) (S : AS) : Prop :=
  ∃ i : Nat, m + i = s.length ∧ (s.take i).contains b = false ∧ τ = [(0, .str s), (1, .int .u8 b.toNat), (5, .int .i64 i)] ∧ S = ⟨[], H, []⟩
theorem has11_c {s : List UInt8} {b : UInt8} (hs : s.length ≤ 2 ^ 40) : SCalls Tryz.prog 42 [.str s, .int .u8 b.toNat] H (fun r K => r = .ret (.bool (s.contains b)) ∧ K = H) := by
  refine fn_go k42 rfl ?_
  intro Q hQ
  simp [c42]
  refine loop_keep (n := s.length) (I42 s b H) ?_ ⟨0, by simp, by simp, by simp, rfl⟩
  rintro m τ S ⟨i, hm, hc, rfl, rfl⟩
  by_cases hlt : i < s.length
  · simp [hlt]
    have hst : (s.take (i + 1)).contains b = (s[i] == b) := by
      have hc' : ¬ b ∈ s.take i := fun h => by rw [List.contains_iff_mem.2 h] at hc; cases hc
      rw [List.take_succ_eq_append_getElem hlt, Bool.eq_iff_iff]
      simp only [List.contains_iff_mem, List.mem_append, List.mem_singleton, beq_iff_eq]
      exact ⟨fun h => (h.resolve_left hc').symm, fun h => .inr h.symm⟩
    by_cases hb : s[i] = b
    · have h1 : s.contains b = true := by
        rw [List.contains_iff_mem, ← hb]
        exact List.getElem_mem hlt
      simp [c42_2, hlt, hb]
      exact hQ _ _ ⟨by rw [h1], rfl⟩
    · have h1 : ¬ ((s[i].toNat : Int) = b.toNat) := fun h => hb (UInt8.toNat_inj.1 (by omega))
      simp [c42_2, hlt, h1]
      simp [c42_1, wrap_s (n := (i : Int) + 1) (by omega)]
      exact ⟨m - 1, by omega, i + 1, by omega, by rw [hst]; simpa using hb, by simp, rfl⟩
  · simp [hlt, c42_3]
    have e : s.take i = s := List.take_of_length_le (by omega)
    rw [e] at hc
    exact hQ _ _ ⟨by rw [hc], rfl⟩
/-- A register that may be. -/
def regB (v : Int) (r : Nat) (own none : Bool) : Bool := if own then (decide (0 ≤ v ∧ v < r) || (none && v == -1)) else v == 0
theorem reg_c {v : Int} {r : Nat} {o n : Bool} (h : regB v r o n = true) : SCalls Tryz.prog 70 [.int .i64 v, .int .i64 r, .bool o, .bool n] H (fun r K => r = .ret (.bool true) ∧ K = H) := by
  refine fn_go k70 rfl ?_
  intro Q hQ
  cases o
  · simp [regB] at h
    simp [c70, h]
    exact hQ _ _ ⟨rfl, rfl⟩
  · simp only [regB, if_true] at h
    by_cases h0 : 0 ≤ v ∧ v < r
    · simp [c70]
      simp [c70_1, h0.1, h0.2]
      exact hQ _ _ ⟨rfl, rfl⟩
    · simp only [h0, decide_false, Bool.false_or, Bool.and_eq_true, beq_iff_eq] at h
      obtain ⟨rfl, rfl⟩ := h
      simp [c70]
      simp [c70_1]
      exact hQ _ _ ⟨rfl, rfl⟩
/-- A number that may be. -/
def numB (x : Ins) (l : Nat) : Prop := (x.kind = 4 ∨ x.kind = 5 → 0 ≤ x.n ∧ x.n ≤ 65535) ∧ (x.kind = 9 ∨ x.kind = 10 → 0 ≤ x.n ∧ x.n < l) ∧ (x.kind = 12 → x.n = 1 ∨ x.n = 2)
theorem number11_c {x : Ins} {l : Nat} (h : numB x l) : SCalls Tryz.prog 71 [x.av, .int .i64 l] H (fun r K => r = .ret (.bool true) ∧ K = H) := by
  obtain ⟨h4, h9, h12⟩ := h
  refine fn_go k71 rfl ?_
  intro Q hQ
  by_cases e4 : x.kind = 4
  · obtain ⟨a, b⟩ := h4 (.inl e4)
    simp [c71, Ins.av, Ins.cells, e4, c71_2, a, b]
    exact hQ _ _ ⟨rfl, rfl⟩
  by_cases e5 : x.kind = 5
  · obtain ⟨a, b⟩ := h4 (.inr e5)
    simp [c71, Ins.av, Ins.cells, e5, c71_2, a, b]
    exact hQ _ _ ⟨rfl, rfl⟩
  by_cases e9 : x.kind = 9
  · obtain ⟨a, b⟩ := h9 (.inl e9)
    simp [c71, Ins.av, Ins.cells, e9, c71_2, c71_1, a, b]
    exact hQ _ _ ⟨rfl, rfl⟩
  by_cases e10 : x.kind = 10
  · obtain ⟨a, b⟩ := h9 (.inr e10)
    simp [c71, Ins.av, Ins.cells, e10, c71_2, c71_1, a, b]
    exact hQ _ _ ⟨rfl, rfl⟩
  by_cases e12 : x.kind = 12
  · by_cases hn : x.n = 1
    · simp [c71, Ins.av, Ins.cells, e12, c71_2, c71_1, hn]
      exact hQ _ _ ⟨rfl, rfl⟩
    · have hn2 : x.n = 2 := (h12 e12).resolve_left hn
      simp [c71, Ins.av, Ins.cells, e12, c71_2, c71_1, hn2]
      exact hQ _ _ ⟨rfl, rfl⟩
  simp [c71, Ins.av, Ins.cells, e4, e5, e9, e10, e12, c71_2, c71_1]
  simp [c71_3]
  exact hQ _ _ ⟨rfl, rfl⟩
/-- An instruction of a code that may be. -/
structure OneB (x : Ins) (len r l : Nat) : Prop where
  k : 0 ≤ x.kind ∧ x.kind < 14
  d : regB x.d r ((flds x.kind).contains 68) false = true
  a : regB x.a r ((flds x.kind).contains 65) (x.kind == 4 || x.kind == 5) = true
  b : regB x.b r ((flds x.kind).contains 66) false = true
  o : 0 ≤ x.op ∧ x.op ≤ 18 ∧ ((flds x.kind).contains 79 = false → x.op = 0)
  n : (flds x.kind).contains 78 = false → x.n = 0
  t : (flds x.kind).contains 84 = false → x.to = 0
  m : numB x l
  to : 0 ≤ x.to ∧ x.to < len
theorem flds_len (k : Int) : (flds k).length ≤ 4 := by
  unfold flds
  cases h : fldL[k.toNat]? with
  | none => simp
  | some s =>
    have := List.mem_of_getElem? h
    simp [fldL] at this
    rcases this with rfl | rfl | rfl | rfl | rfl | rfl | rfl | rfl | rfl | rfl | rfl | rfl | rfl <;> simp
theorem flds_ne {k : Int} (h : 0 ≤ k ∧ k < 14) : flds k ≠ [] := by
  obtain ⟨n, rfl⟩ : ∃ n : Nat, k = n := ⟨k.toNat, by omega⟩
  rcases (by omega : n = 0 ∨ n = 1 ∨ n = 2 ∨ n = 3 ∨ n = 4 ∨ n = 5 ∨ n = 6 ∨ n = 7 ∨ n = 8 ∨ n = 9 ∨ n = 10 ∨ n = 11 ∨ n = 12 ∨ n = 13) with rfl | rfl | rfl | rfl | rfl | rfl | rfl | rfl | rfl | rfl | rfl | rfl | rfl | rfl <;> simp [flds, fldL]
theorem one11_c {x : Ins} {len r l : Nat} (h : OneB x len r l) : SCalls Tryz.prog 44 [x.av, .int .i64 len, .int .i64 r, .int .i64 l] H (fun r K => r = .ret (.bool true) ∧ K = addH H .tip) := by
  obtain ⟨hk, hd, ha, hb, ho, hn, ht, hm, hto⟩ := h
  have hfl := flds_len x.kind
  have hfn := flds_ne hk
  have hF := fun M => fields_c (H := M) hk
  have hD := fun M => has11_c (H := M) (s := flds x.kind) (b := 68) (by omega)
  have hA := fun M => has11_c (H := M) (s := flds x.kind) (b := 65) (by omega)
  have hB := fun M => has11_c (H := M) (s := flds x.kind) (b := 66) (by omega)
  have hO := fun M => has11_c (H := M) (s := flds x.kind) (b := 79) (by omega)
  have hN := fun M => has11_c (H := M) (s := flds x.kind) (b := 78) (by omega)
  have hT := fun M => has11_c (H := M) (s := flds x.kind) (b := 84) (by omega)
  have hM := fun M => number11_c (H := M) hm
  clear hm
  obtain ⟨kd, op, d, a, b, n, to⟩ := x
  simp only at *
  obtain ⟨f, hff⟩ : ∃ f, flds kd = f := ⟨_, rfl⟩
  simp only [hff] at *
  simp only [Ins.av, Ins.cells] at hM ⊢
  have hfe : f.isEmpty = false := by simpa using hfn
  obtain ⟨o1, o2, o3⟩ := ho
  obtain ⟨to1, to2⟩ := hto
  generalize f.contains 68 = b68 at hd hD
  generalize f.contains 65 = b65 at ha hA
  generalize f.contains 66 = b66 at hb hB
  generalize f.contains 79 = b79 at o3 hO
  generalize f.contains 78 = b78 at hn hN
  generalize f.contains 84 = b84 at ht hT
  have o1' : ¬ op < 0 := by omega
  have o2' : ¬ (18 < op) := by omega
  have hend : ∀ Q : AEnd → List AObj → Prop, (∀ r K, r = .ret (.bool true) ∧ K = addH H .tip → Q r K) → go (SCalls Tryz.prog) c44_2 [] [(1, .int .i64 len), (3, .int .i64 l), (4, .lref 4 0), (9, .str f), (51, .bool false)] ⟨[(4, (⟨kd, op, d, a, b, n, to⟩ : Ins).cells)], addH H .tip, []⟩ (aendR [.tmp 8] Q) := by
    intro Q hQ
    simp [c44_2]
    refine (hO _).mono ?_
    rintro r' K ⟨rfl, rfl⟩
    rcases b79 with _ | _
    all_goals
      first
      | (obtain rfl := o3 rfl
         simp [Ins.cells])
      | simp [Ins.cells, o1, o2, o1', o2']
      refine (hN _).mono ?_
      rintro r' K ⟨rfl, rfl⟩
      rcases b78 with _ | _
      all_goals
        first | obtain rfl := hn rfl | skip
        simp
        refine (hT _).mono ?_
        rintro r' K ⟨rfl, rfl⟩
        rcases b84 with _ | _
        all_goals
          first | obtain rfl := ht rfl | skip
          simp
          simp [c44_1]
          refine (hM _).mono ?_
          rintro r' K ⟨rfl, rfl⟩
          simp [to1, to2]
          exact hQ _ _ ⟨by first | rfl | (have : 0 < len := by omega); simp [this], rfl⟩
  simp only [Ins.cells] at hend
  obtain ⟨nb, hnb⟩ : ∃ nb, (kd == 4 || kd == 5) = nb := ⟨_, rfl⟩
  have h3 : (kd = 4 ∧ nb = true) ∨ (kd = 5 ∧ nb = true) ∨ (kd ≠ 4 ∧ kd ≠ 5 ∧ (kd == 5) = false ∧ nb = false) := by
    by_cases e4 : kd = 4
    · exact .inl ⟨e4, by rw [← hnb]; simp [e4]⟩
    · by_cases e5 : kd = 5
      · exact .inr (.inl ⟨e5, by rw [← hnb]; simp [e5]⟩)
      · exact .inr (.inr ⟨e4, e5, by simp [e5], by rw [← hnb]; simp [e4, e5]⟩)
  rw [hnb] at ha
  refine fn_go k44 rfl ?_
  intro Q hQ
  have hend' := hend Q hQ
  clear hend hnb
  simp [c44, Ins.av, Ins.cells]
  refine (hF _).mono ?_
  rintro r' K ⟨rfl, rfl⟩
  rcases h3 with ⟨rfl, rfl⟩ | ⟨rfl, rfl⟩ | ⟨e4, e5, e5', rfl⟩
  all_goals
    first | simp [hfn, e4, e5, e5'] | simp [hfn]
    refine (hD _).mono ?_
    rintro r' K ⟨rfl, rfl⟩
    simp [hfn, hfe]
    refine (reg_c hd).mono ?_
    rintro r' K ⟨rfl, rfl⟩
    simp [hfn, hfe]
    refine (hA _).mono ?_
    rintro r' K ⟨rfl, rfl⟩
    simp [hfn, hfe]
    refine (reg_c ha).mono ?_
    rintro r' K ⟨rfl, rfl⟩
    simp [hfn, hfe]
    refine (hB _).mono ?_
    rintro r' K ⟨rfl, rfl⟩
    simp [hfn, hfe]
    refine (reg_c hb).mono ?_
    rintro r' K ⟨rfl, rfl⟩
    simp [hfn, hfe]
    exact hend'
end
end Go.Ab

/- LowerEnds, on the abstract machine. -/
namespace Go.Ab
open Go.Proofs

set_option maxRecDepth 100000
set_option maxHeartbeats 8000000
theorem zero_pw : PW Prg.zero where
  pv := ⟨by simp [Prg.zero], by simp [Prg.zero], by simp [Prg.zero], by simp [Prg.zero], by simp [Prg.zero], by simp [Prg.zero], by simp [Prg.zero], by simp [Prg.zero, Prg.ats], by simp [Prg.zero, Prg.ats], by simp [Prg.zero, Prg.size]⟩
  nd := by simp [Prg.zero, Prg.names]
  by' := by simp [Prg.zero]
  fn := by simp [Prg.zero]
  th := by simp [Prg.zero]
/-- What was told last. -/
def lastN (c : List Ins) (b k : Nat) : Int := if k ≤ b + 1 then 0 else ((c[k - 1]?).map Ins.n).getD 0
def ledTo (c : List Ins) (k j : Nat) : Bool := (c.take j).any fun y => y.kind == 7 && y.to == k
def I7 (cvs : List AV) (M : List AObj) (n : Nat) (m : Nat) (τ : Env) (S : AS) : Prop := ∃ i : Nat, m + i = n ∧ τ = [(7, sl cvs), (9, .int .i64 i)] ∧ S = ⟨[], M, []⟩
def I7k (cvs : List AV) (M : List AObj) (c : List Ins) (b i : Nat) (m : Nat) (τ : Env) (S : AS) : Prop :=
  ∃ k : Nat, m + k = c.length ∧ τ = [(7, sl cvs), (9, .int .i64 i), (10, .int .i64 (if b < k then 1 else 0)), (11, .int .i64 (lastN c b k)), (12, .int .i64 k)] ∧ S = ⟨[], M, []⟩
def I7j (cvs : List AV) (M : List AObj) (c : List Ins) (i k : Nat) (hv lv : Int) (m : Nat) (τ : Env) (S : AS) : Prop :=
  ∃ j : Nat, m + j = c.length ∧ τ = [(7, sl cvs), (9, .int .i64 i), (10, .int .i64 hv), (11, .int .i64 lv), (12, .int .i64 k), (14, .bool (ledTo c k j)), (15, .int .i64 j)] ∧ S = ⟨[], M, []⟩
end Go.Ab

/- LowerMay, on the abstract machine. -/
namespace Go.Ab
open Go.Proofs

set_option maxRecDepth 100000
set_option maxHeartbeats 8000000
theorem nodup_le : ∀ {l m : List Nat}, l.Nodup → (∀ x ∈ l, x ∈ m) → l.length ≤ m.length
  | [], m, _, _ => by simp
  | a :: l, m, h, hs => by
    rw [List.nodup_cons] at h
    have ha : a ∈ m := hs a (by simp)
    have h1 := nodup_le (m := m.erase a) h.2 fun x hx => (List.mem_erase_of_ne (fun e => h.1 (by rw [← e]; exact hx))).2 (hs x (by simp [hx]))
    rw [List.length_erase_of_mem ha] at h1
    have := List.length_pos_of_mem ha
    simp
    omega
theorem Md.r_le {P : Prg} {c : List Ins} {b r ph : Nat} (h : Md P c b r ph) : r ≤ c.length := by
  have := nodup_le (l := List.range r) (m := c.map fun x => x.d.toNat) List.nodup_range fun x hx => by
    obtain ⟨y, h1, h2, h3⟩ := h.df x (List.mem_range.1 hx)
    exact List.mem_map.2 ⟨y, h1, by omega⟩
  simpa using this
/-- What an instruction names. -/
def defOf (x : Ins) : Int := if x.kind ≤ 4 then x.d else -1
theorem flds_D {k : Int} (h : 0 ≤ k ∧ k < 14) : (flds k).contains 68 = decide (k ≤ 4) := by
  obtain ⟨n, rfl⟩ : ∃ n : Nat, k = n := ⟨k.toNat, by omega⟩
  rcases (by omega : n = 0 ∨ n = 1 ∨ n = 2 ∨ n = 3 ∨ n = 4 ∨ n = 5 ∨ n = 6 ∨ n = 7 ∨ n = 8 ∨ n = 9 ∨ n = 10 ∨ n = 11 ∨ n = 12 ∨ n = 13) with rfl | rfl | rfl | rfl | rfl | rfl | rfl | rfl | rfl | rfl | rfl | rfl | rfl | rfl <;> rfl
theorem flds_A {k : Int} (h : 0 ≤ k ∧ k < 14) : (flds k).contains 65 = kA k := by
  obtain ⟨n, rfl⟩ : ∃ n : Nat, k = n := ⟨k.toNat, by omega⟩
  rcases (by omega : n = 0 ∨ n = 1 ∨ n = 2 ∨ n = 3 ∨ n = 4 ∨ n = 5 ∨ n = 6 ∨ n = 7 ∨ n = 8 ∨ n = 9 ∨ n = 10 ∨ n = 11 ∨ n = 12 ∨ n = 13) with rfl | rfl | rfl | rfl | rfl | rfl | rfl | rfl | rfl | rfl | rfl | rfl | rfl | rfl <;> rfl
theorem flds_B {k : Int} (h : 0 ≤ k ∧ k < 14) : (flds k).contains 66 = kB k := by
  obtain ⟨n, rfl⟩ : ∃ n : Nat, k = n := ⟨k.toNat, by omega⟩
  rcases (by omega : n = 0 ∨ n = 1 ∨ n = 2 ∨ n = 3 ∨ n = 4 ∨ n = 5 ∨ n = 6 ∨ n = 7 ∨ n = 8 ∨ n = 9 ∨ n = 10 ∨ n = 11 ∨ n = 12 ∨ n = 13) with rfl | rfl | rfl | rfl | rfl | rfl | rfl | rfl | rfl | rfl | rfl | rfl | rfl | rfl <;> rfl
theorem flds_N {k : Int} (h : 0 ≤ k ∧ k < 14) : (flds k).contains 78 = (kN k || k == 12) := by
  obtain ⟨n, rfl⟩ : ∃ n : Nat, k = n := ⟨k.toNat, by omega⟩
  rcases (by omega : n = 0 ∨ n = 1 ∨ n = 2 ∨ n = 3 ∨ n = 4 ∨ n = 5 ∨ n = 6 ∨ n = 7 ∨ n = 8 ∨ n = 9 ∨ n = 10 ∨ n = 11 ∨ n = 12 ∨ n = 13) with rfl | rfl | rfl | rfl | rfl | rfl | rfl | rfl | rfl | rfl | rfl | rfl | rfl | rfl <;> rfl
theorem flds_O {k : Int} (h : 0 ≤ k ∧ k < 14) : (flds k).contains 79 = (k == 2) := by
  obtain ⟨n, rfl⟩ : ∃ n : Nat, k = n := ⟨k.toNat, by omega⟩
  rcases (by omega : n = 0 ∨ n = 1 ∨ n = 2 ∨ n = 3 ∨ n = 4 ∨ n = 5 ∨ n = 6 ∨ n = 7 ∨ n = 8 ∨ n = 9 ∨ n = 10 ∨ n = 11 ∨ n = 12 ∨ n = 13) with rfl | rfl | rfl | rfl | rfl | rfl | rfl | rfl | rfl | rfl | rfl | rfl | rfl | rfl <;> rfl
theorem flds_T {k : Int} (h : 0 ≤ k ∧ k < 14) : (flds k).contains 84 = (k == 6 || k == 7) := by
  obtain ⟨n, rfl⟩ : ∃ n : Nat, k = n := ⟨k.toNat, by omega⟩
  rcases (by omega : n = 0 ∨ n = 1 ∨ n = 2 ∨ n = 3 ∨ n = 4 ∨ n = 5 ∨ n = 6 ∨ n = 7 ∨ n = 8 ∨ n = 9 ∨ n = 10 ∨ n = 11 ∨ n = 12 ∨ n = 13) with rfl | rfl | rfl | rfl | rfl | rfl | rfl | rfl | rfl | rfl | rfl | rfl | rfl | rfl <;> rfl
theorem Md.one {P : Prg} {c : List Ins} {b r : Nat} (h : Md P c b r 2) {k : Nat} {x : Ins} (hx : c[k]? = some x) : OneB x c.length r P.locks.length := by
  have hb := h.hb
  rcases Nat.lt_trichotomy k b with hk | hk | hk
  · obtain ⟨q, t1, t2⟩ := h.lo k x hk hx
    have t3 : 0 ≤ x.to := by
      rcases t2 with h | ⟨t, h1, h2, -⟩
      · exact h
      · omega
    have hr : 0 ≤ x.kind ∧ x.kind < 14 := by have := q.k; omega
    refine ⟨hr, ?_, ?_, ?_, ?_, ?_, ?_, ⟨q.n.2.1, q.n.2.2, fun h => by have := q.k; omega⟩, t3, t1⟩
    · rw [flds_D hr]
      by_cases h4 : x.kind ≤ 4
      · have := q.d.1 h4
        simp [regB, h4, this.1, this.2]
      · simp [regB, h4, q.d.2 (by omega)]
    · rw [flds_A hr]
      cases ha : kA x.kind
      · simp [regB, q.a.2 ha]
      · rcases q.a.1 ha with h | ⟨h, h'⟩
        · simp [regB, h.1, h.2]
        · simp [regB, h, h']
    · rw [flds_B hr]
      cases hb : kB x.kind
      · simp [regB, q.b.2 hb]
      · have := q.b.1 hb
        simp [regB, this.1, this.2]
    · rw [flds_O hr]
      exact ⟨q.o.1, q.o.2.1, fun h => q.o.2.2 (by simpa using h)⟩
    · rw [flds_N hr]
      intro h
      simp only [Bool.or_eq_false_iff] at h
      exact q.n.1 h.1
    · rw [flds_T hr]
      intro h
      simp at h
      exact q.t h.1 h.2
  · subst hk
    have := h.mid
    rw [hx] at this
    cases this
    refine ⟨by simp [hlt], by simp [hlt, regB, flds, fldL], by simp [hlt, regB, flds, fldL], by simp [hlt, regB, flds, fldL], by simp [hlt], by simp [hlt], by simp [hlt], by simp [numB, hlt], by simp [hlt]; omega⟩
  · obtain ⟨n, rfl, n1, n2, -⟩ := h.hi k x hk hx
    refine ⟨by simp [trp], by simp [trp, regB, flds, fldL], by simp [trp, regB, flds, fldL], by simp [trp, regB, flds, fldL], by simp [trp], by simp [trp, flds, fldL], by simp [trp], ⟨by simp [trp], by simp [trp], by simp [trp]; omega⟩, by simp [trp]; omega⟩
/-- The registers that are named. -/
def regsOf (c : List Ins) : Int := c.foldl (fun m x => max m (defOf x + 1)) 0
theorem regsOf_app (c : List Ins) (x : Ins) : regsOf (c ++ [x]) = max (regsOf c) (defOf x + 1) := by simp [regsOf]
theorem regsOf_le {r : Nat} : ∀ (c : List Ins), (∀ x ∈ c, defOf x < r) → regsOf c ≤ r := by
  have : ∀ (c : List Ins) (m : Int), m ≤ r → (∀ x ∈ c, defOf x < r) → c.foldl (fun m x => max m (defOf x + 1)) m ≤ r := by
    intro c
    induction c with
    | nil => intro m hm _; exact hm
    | cons y c ih =>
      intro m hm h
      exact ih _ (by have := h y (by simp); show max m (defOf y + 1) ≤ r; omega) fun x hx => h x (by simp [hx])
  exact fun c h => this c 0 (by omega) h
theorem regsOf_ge (c : List Ins) : 0 ≤ regsOf c ∧ ∀ x ∈ c, defOf x < regsOf c := by
  have : ∀ (c : List Ins) (m : Int), m ≤ c.foldl (fun m x => max m (defOf x + 1)) m ∧ ∀ x ∈ c, defOf x < c.foldl (fun m x => max m (defOf x + 1)) m := by
    intro c
    induction c with
    | nil => intro m; simp
    | cons y c ih =>
      intro m
      have := ih (max m (defOf y + 1))
      refine ⟨by simp only [List.foldl_cons]; omega, fun x hx => ?_⟩
      rcases List.mem_cons.1 hx with rfl | hx
      · simp only [List.foldl_cons]; omega
      · exact this.2 x hx
  exact this c 0
theorem Md.def_lt {P : Prg} {c : List Ins} {b r : Nat} (h : Md P c b r 2) {x : Ins} (hx : x ∈ c) : -1 ≤ defOf x ∧ defOf x < r := by
  obtain ⟨k, hk⟩ := List.mem_iff_getElem?.1 hx
  have q := h.one hk
  unfold defOf
  have hd := q.d
  rw [flds_D q.k] at hd
  by_cases h4 : x.kind ≤ 4
  · simp [regB, h4] at hd
    rw [if_pos h4]; omega
  · rw [if_neg h4]; omega
theorem Md.regs {P : Prg} {c : List Ins} {b r : Nat} (h : Md P c b r 2) : regsOf c = r := by
  have h1 := regsOf_le (r := r) c fun x hx => (h.def_lt hx).2
  obtain ⟨h2, h3⟩ := regsOf_ge c
  rcases Nat.eq_zero_or_pos r with h0 | h0
  · omega
  · obtain ⟨x, hx, h4, h5⟩ := h.df (r - 1) (by omega)
    have := h3 x hx
    unfold defOf at this
    rw [if_pos h4] at this
    omega
section
variable {H : List AObj}
theorem def11_c {x : Ins} (hk : 0 ≤ x.kind ∧ x.kind < 14) : SCalls Tryz.prog 20 [x.av] H (fun r K => r = .ret (.int .i64 (defOf x)) ∧ K = addH H .tip) := by
  have hF := fun M => fields_c (H := M) hk
  have hD := fun M => has11_c (H := M) (s := flds x.kind) (b := 68) (by have := flds_len x.kind; omega)
  rw [flds_D hk] at hD
  refine fn_go k20 rfl ?_
  intro Q hQ
  simp [c20, Ins.av, Ins.cells]
  refine (hF _).mono ?_
  rintro r' K ⟨rfl, rfl⟩
  simp
  refine (hD _).mono ?_
  rintro r' K ⟨rfl, rfl⟩
  by_cases h4 : x.kind ≤ 4
  · simp [h4]
    exact hQ _ _ ⟨by simp [defOf, h4], rfl⟩
  · simp [h4, c20_1]
    exact hQ _ _ ⟨by simp [defOf, h4], rfl⟩
def I21 (cv : AV) (r l n : Nat) (H : List AObj) (m : Nat) (τ : Env) (S : AS) : Prop :=
  ∃ (i : Nat) (M : List AObj), m + i = n ∧ FrN (lenH H) H M ∧ τ = [(0, cv), (1, .int .i64 r), (2, .int .i64 l), (7, .int .i64 i)] ∧ S = ⟨[], M, []⟩
theorem check_c {cv : AV} {P : Prg} {c : List Ins} {b r : Nat} (hmd : Md P c b r 2) (hcv : CV cv c H) (hl : c.length ≤ 4096) : SCalls Tryz.prog 21 [cv, .int .i64 r, .int .i64 P.locks.length] H (fun r K => r = .ret (.bool true) ∧ FrN (lenH H) H K) := by
  have hb := hmd.hb
  obtain ⟨q, rfl, hq⟩ : ∃ q, cv = .hs q 7 0 c.length ∧ getH H q = some (.cells (c.flatMap Ins.cells)) := by
    rcases hcv with ⟨e, -⟩ | ⟨q, -, e, h⟩
    · rw [e] at hb; simp at hb
    · exact ⟨q, e, h⟩
  have hseg := fun k x (h : c[k]? = some x) => flat_seg h
  have hat := fun k x (h : c[k]? = some x) => flat_at h
  have hfl := Ins.flat_len c
  generalize c.flatMap Ins.cells = L at hq hseg hat hfl
  refine fn_go k21 rfl ?_
  intro Q hQ
  simp [c21, show ¬ (c.length : Int) < 1 by omega, show ¬ (4096 : Int) < c.length by omega]
  simp [c21_4]
  refine loop_keep (n := c.length) (I21 (.hs q 7 0 c.length) r P.locks.length c.length H) ?_ ⟨0, H, by simp, .refl _ _, by simp, rfl⟩
  rintro m τ S ⟨i, M, hm, hfr, rfl, rfl⟩
  have hqM : getH M q = some (.cells L) := by rw [hfr.2 q (getH_lt (by simp [hq])), hq]
  by_cases hlt : i < c.length
  · obtain ⟨x, hx⟩ : ∃ x, c[i]? = some x := ⟨_, List.getElem?_eq_getElem hlt⟩
    have h1 := one11_c (H := M) (hmd.one hx)
    have hsg := hseg i x hx
    simp only [Ins.av, Ins.cells] at h1 hsg
    simp [hlt]
    simp [c21_2, hlt, hqM, hsg, show i * 7 + 7 ≤ L.length by omega]
    refine h1.mono ?_
    rintro r' K ⟨rfl, rfl⟩
    simp
    simp [c21_1, wrap_s (n := (i : Int) + 1) (by omega)]
    exact ⟨m - 1, by omega, i + 1, _, by omega, hfr.trans (FrN.add (by simpa using hfr.1)), by simp, rfl⟩
  · obtain rfl : i = c.length := by omega
    obtain ⟨x, hx⟩ : ∃ x, c[c.length - 1]? = some x := ⟨_, List.getElem?_eq_getElem (by omega)⟩
    have hk : x.kind = 13 ∨ x.kind = 12 := by
      rcases Nat.lt_or_ge b (c.length - 1) with h | h
      · obtain ⟨n, rfl, -⟩ := hmd.hi _ _ h hx
        exact .inr rfl
      · have : b = c.length - 1 := by omega
        subst this
        rw [hmd.mid] at hx
        cases hx
        exact .inl rfl
    have h0 := hat _ x hx 0 (by omega)
    simp [Ins.cells] at h0
    simp
    have hw : IntKind.i64.wrap ((c.length : Int) - 1) = ((c.length - 1 : Nat) : Int) := by
      rw [wrap_s (by omega)]; omega
    rcases hk with hk | hk
    all_goals
      simp [c21_3, hw, hqM, h0, hk, show c.length - 1 < c.length by omega, show (c.length - 1) * 7 + 1 ≤ L.length by omega, show (c.length - 1) * 7 + 7 ≤ L.length by omega]
      exact hQ _ _ ⟨rfl, hfr⟩
end
def I5 (P : Prg) (cvs : List AV) (K : List AObj) (n : Nat) (m : Nat) (τ : Env) (S : AS) : Prop := ∃ (i : Nat) (M : List AObj), m + i = n ∧ FrN (lenH K) K M ∧ τ = [(4, .lref 4 0), (7, sl cvs), (9, .int .i64 i)] ∧ S = ⟨[(4, P.cells)], M, []⟩
def I5k (P : Prg) (cvs : List AV) (K : List AObj) (c : List Ins) (i : Nat) (m : Nat) (τ : Env) (S : AS) : Prop :=
  ∃ (k : Nat) (M : List AObj), m + k = c.length ∧ FrN (lenH K) K M ∧ τ = [(4, .lref 4 0), (7, sl cvs), (9, .int .i64 i), (10, .int .i64 (regsOf (c.take k))), (11, .int .i64 k)] ∧ S = ⟨[(4, P.cells)], M, []⟩
theorem may_code {cvs : List AV} {M0 M : List AObj} {c : List Ins} {b r i : Nat} {P : Prg} {cv : AV} {Q : CPostA} {ks : List KF} (hmd : Md P c b r 2) (hcv : CV cv c M0) (hl : c.length ≤ 4096) (hi : cvs[i]? = some cv) (hfr : FrN (lenH M0) M0 M)
    (hnext : ∀ K, FrN (lenH M0) M0 K → go (SCalls Tryz.prog) c5_3 ks [(4, .lref 4 0), (7, sl cvs), (9, .int .i64 i)] ⟨[(4, P.cells)], K, []⟩ Q) : go (SCalls Tryz.prog) c5_4 ks [(4, .lref 4 0), (7, sl cvs), (9, .int .i64 i)] ⟨[(4, P.cells)], M, []⟩ Q := by
  have hb := hmd.hb
  have hr := hmd.r_le
  have hck := fun K (h : CV cv c K) => check_c hmd h hl
  obtain ⟨q, rfl, hq⟩ : ∃ q, cv = .hs q 7 0 c.length ∧ getH M0 q = some (.cells (c.flatMap Ins.cells)) := by
    rcases hcv with ⟨e, -⟩ | ⟨q, -, e, h⟩
    · rw [e] at hb; simp at hb
    · exact ⟨q, e, h⟩
  have hseg := fun k x (h : c[k]? = some x) => flat_seg h
  have hfl := Ins.flat_len c
  obtain ⟨L, hL⟩ : ∃ L, c.flatMap Ins.cells = L := ⟨_, rfl⟩
  simp only [hL] at hseg hfl hq
  simp [c5_4]
  refine loop_keep (n := c.length) (I5k P cvs M0 c i) ?_ ⟨0, M, by simp, hfr, by simp [regsOf], rfl⟩
  rintro m τ S ⟨k, M1, hm, hfr1, rfl, rfl⟩
  have hqM : getH M1 q = some (.cells L) := by rw [hfr1.2 q (getH_lt (by simp [hq])), hq]
  by_cases hkl : k < c.length
  · obtain ⟨x, hx⟩ : ∃ x, c[k]? = some x := ⟨_, List.getElem?_eq_getElem hkl⟩
    have hd := hmd.def_lt (List.mem_of_getElem? hx)
    have h1 := def11_c (H := M1) (hmd.one hx).k
    have hsg := hseg k x hx
    simp only [Ins.av, Ins.cells] at h1 hsg
    simp [hi, hkl]
    simp [c5_1, hi, hkl, hqM, hsg, show k * 7 + 7 ≤ L.length by omega]
    refine h1.mono ?_
    rintro r' K ⟨rfl, rfl⟩
    simp [wrap_s (n := defOf x + 1) (by omega), wrap_s (n := (k : Int) + 1) (by omega)]
    refine ⟨m - 1, by omega, k + 1, _, by omega, hfr1.trans (FrN.add (by simpa using hfr1.1)), ?_, rfl⟩
    have e : c.take (k + 1) = c.take k ++ [x] := by
      rw [List.take_succ_eq_append_getElem hkl]
      have : c[k] = x := by simpa [List.getElem?_eq_getElem hkl] using hx
      rw [this]
    simp [e, regsOf_app]
  · obtain rfl : k = c.length := by omega
    have h1 := hck M1 (hcv.fr hfr1)
    simp [hi, hmd.regs]
    simp [c5_2, hi, Prg.cells]
    refine h1.mono ?_
    rintro r' K ⟨rfl, hK⟩
    simp
    exact hnext K (hfr1.trans (hK.weak hfr1.1))
theorem May_c {s : List UInt8} (hs : s.length ≤ 2 ^ 50) : SCalls Tryz.prog 5 [.str s] [] (fun r _ => r = .ret (.bool true)) := by
  refine fn_go k5 rfl ?_
  intro Q hQ
  simp [c5]
  refine awake_c.mono ?_
  rintro r K rfl
  simp [c5_8]
  by_cases h4 : (6000 : Int) < s.length
  · simp [h4]
    exact hQ _ _ rfl
  simp [h4, c5_7]
  refine (Text_c (s := s) (by omega)).mono ?_
  rintro r K ⟨P, e, a, rfl, fr, hpw, hz⟩
  have hw : PW P := by
    by_cases he : e = 0
    · exact hpw he
    · rw [hz he]; exact zero_pw
  have hnt := hw.pv.nt
  have hP := fun M => Program_c (H := M) hw
  simp only [Prg.av] at hP
  simp [Prg.av]
  refine (hP _).mono ?_
  rintro r K1 ⟨fr1, ⟨cs, cvs, l1, l2, hth, hcv, rfl⟩ | ⟨-, rfl⟩⟩
  · by_cases he : e = 0
    · simp [he, c5_6]
      refine loop_keep (n := cvs.length) (I5 P cvs K1 cvs.length) ?_ ⟨0, K1, by simp, .refl _ _, by simp, rfl⟩
      rintro m τ S ⟨i, M, hm, hfr, rfl, rfl⟩
      by_cases hlt : i < cvs.length
      · obtain ⟨cv, hi⟩ : ∃ x, cvs[i]? = some x := ⟨_, List.getElem?_eq_getElem hlt⟩
        obtain ⟨c, hc⟩ : ∃ x, cs[i]? = some x := ⟨_, List.getElem?_eq_getElem (by omega)⟩
        obtain ⟨q1, q2, -⟩ := hcv i cv c hi hc
        have q3 := hth i (by omega)
        rw [hc] at q3
        obtain ⟨b, r, hmd⟩ := fin_of hw q3
        simp [hlt]
        refine may_code hmd q1 q2 hi hfr ?_
        intro K hK
        simp [c5_3, wrap_s (n := (i : Int) + 1) (by omega)]
        exact ⟨m - 1, by omega, i + 1, K, by omega, hK, by simp, rfl⟩
      · simp [hlt]
        simp [c5_5, Prg.cells, l2]
        exact hQ _ _ rfl
    · simp [he]
      exact hQ _ _ rfl
  · by_cases he : e = 0
    · simp [he]
      exact hQ _ _ rfl
    · simp [he]
      exact hQ _ _ rfl
end Go.Ab
