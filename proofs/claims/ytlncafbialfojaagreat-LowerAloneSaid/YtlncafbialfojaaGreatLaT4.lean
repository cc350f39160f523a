/- What the functions come to (part 11). No conditions. -/
import Derived.Test.YtlncafbialfojaaGreatLaT3
set_option linter.unusedVariables false
set_option linter.unusedSimpArgs false
/- The reference for the instructions (palingref13): its own state on the heap, and its small functions. -/
namespace Go.Ab
open Go.Proofs

set_option maxRecDepth 100000
set_option maxHeartbeats 8000000
/-- The cells of the reference's own state. -/
def Rcells (P : Prg) (pi : Nat) (cv : AV) (rr : Int) (lv : AV) (fl : Bool) : List AV :=
  [sl (P.globals.map Glob.av), sl (P.locks.map Lok.av), sl (P.funcs.map Func.av), sl (P.threads.map Thr.av), .int .i64 0, .nils, .hs pi 4 0 P.globals.length, cv, .int .i64 rr, lv, .bool fl]
/-- The reference's own state on the heap. -/
structure Rw (o pi : Nat) (P : Prg) (c : List Ins) (rr : Int) (fl : Bool) (lv cv : AV) (H : List AObj) : Prop where
  ho : getH H o = some (.cells (Rcells P pi cv rr lv fl))
  hc : CV cv c H
  hp : getH H pi = some (.cells (P.plcs.flatMap Plc.cells))
  ne : pi ≠ o
  ni : pi ∉ hid cv
  lo : lv.okv = true ∧ lv.cells = [lv] ∧ lv.proper = true
  cl : c.length ≤ 4097
/-- The same, of a state, or of too much. -/
def Rq (e o pi : Nat) (P : Prg) (st : Option LS) (lv cv : AV) (H : List AObj) : Prop :=
  ∃ (c : List Ins) (rr : Int), Rw o pi P c rr st.isNone lv cv H ∧ match st with
    | some s => c = s.c ∧ rr = s.r ∧ s.r ≤ s.c.length + e
    | none => c.length = 4097
/-- What a step comes to. -/
def Rep {α : Type} (st : Option LS) (m : LM α) (x : α) (st' : Option LS) : Prop := match st.bind (m 4097) with
  | some (y, s') => x = y ∧ st' = some s'
  | none => st' = none
theorem Rep.ret {α : Type} (st : Option LS) (x : α) : Rep st (LM.ret x) x st := by
  cases st with
  | none => exact rfl
  | some s => exact ⟨rfl, rfl⟩
theorem Rep.none {α : Type} (m : LM α) (x : α) : Rep none m x none := rfl
theorem Rep.bind {α β : Type} {st st' st'' : Option LS} {m : LM α} {f : α → LM β} {x : α} {y : β} (h : Rep st m x st') (h' : Rep st' (f x) y st'') : Rep st (m.bind f) y st'' := by
  cases st with
  | none =>
    have : st' = Option.none := h
    subst this
    exact h'
  | some s =>
    simp only [Rep, Option.bind_some] at h ⊢
    cases hm : m 4097 s with
    | none =>
      rw [hm] at h
      simp only at h
      subst h
      rw [LM.bind_none hm]
      exact h'
    | some p =>
      obtain ⟨x1, s1⟩ := p
      rw [hm] at h
      simp only at h
      obtain ⟨rfl, rfl⟩ := h
      rw [LM.bind_some hm]
      exact h'
theorem Rep.some {α : Type} {st st' : Option LS} {m : LM α} {x : α} {s' : LS} (h : Rep st m x st') (h' : st' = some s') : ∃ s, st = some s ∧ m 4097 s = some (x, s') := by
  subst h'
  cases st with
  | none => cases (show _ = Option.none from h)
  | some s =>
    refine ⟨s, rfl, ?_⟩
    simp only [Rep, Option.bind_some] at h
    cases hm : m 4097 s with
    | none => rw [hm] at h; cases h
    | some p =>
      obtain ⟨x1, s1⟩ := p
      rw [hm] at h
      simp only [Option.some.injEq] at h
      obtain ⟨rfl, rfl⟩ := h
      rfl
theorem Rep.of {α : Type} {s s' : LS} {m : LM α} {x : α} (h : m 4097 s = Option.some (x, s')) : Rep (Option.some s) m x (Option.some s') := by
  unfold Rep
  rw [Option.bind_some, h]
  exact ⟨rfl, rfl⟩
/-- What a function of the reference comes to, where the locals stay. -/
def RP {α : Type} (o pi : Nat) (P : Prg) (lv cv : AV) (st : Option LS) (H : List AObj) (m : LM α) (val : α → AV → Prop) : AEnd → List AObj → Prop := fun r K =>
  ∃ (v : AV) (x : α) (st' : Option LS) (cv' : AV), r = .ret v ∧ val x v ∧ Rq 0 o pi P st' lv cv' K ∧ Kp o cv H cv' K ∧ Rep st m x st'
def isI : Int → AV → Prop := fun x v => v = .int .i64 x
def isU : Unit → AV → Prop := fun _ v => v = .tuple []
section
variable {o pi : Nat} {P : Prg} {c : List Ins} {rr : Int} {fl : Bool} {lv cv : AV} {H K : List AObj} {st : Option LS} {s : LS}
theorem Rw.io (h : Rw o pi P c rr fl lv cv H) {i : Nat} (hne : c ≠ []) (hi : getH H i = some (.cells (c.flatMap Ins.cells))) : o ≠ i := fun e => by
  subst e
  have ho := h.ho
  rw [hi] at ho
  cases hcc : c with
  | nil => exact hne hcc
  | cons z zs =>
    rw [hcc] at ho
    simp only [Option.some.injEq, AObj.cells.injEq, List.flatMap_cons] at ho
    have h3 := congrArg (fun l => l[5]?) ho
    simp [Ins.cells, Rcells] at h3
/-- Another object is left, and the own state is stored anew. -/
theorem Rw.re (h : Rw o pi P c rr fl lv cv H) {rr' : Int} {fl' : Bool} {lv' : AV} (hl : lv'.okv = true ∧ lv'.cells = [lv'] ∧ lv'.proper = true) : Rw o pi P c rr' fl' lv' cv (setH H o (.cells (Rcells P pi cv rr' lv' fl'))) ∧ Kp o cv H cv (setH H o (.cells (Rcells P pi cv rr' lv' fl'))) := by
  generalize hK : setH H o _ = K
  have hk : ∀ r, r ≠ o → getH K r = getH H r := fun r hne => by rw [← hK, getH_set_ne (Ne.symm hne)]
  have hKl : lenH K = lenH H := by rw [← hK]; simp
  refine ⟨⟨by rw [← hK]; exact getH_set_self (by simp [h.ho]), ?_, by rw [hk _ h.ne, h.hp], h.ne, h.ni, hl, h.cl⟩, by omega, fun r _ hne _ => hk r hne, fun i hi => .inl hi⟩
  rcases h.hc with hc | ⟨i, hne, e, hi⟩
  · exact .inl hc
  · exact .inr ⟨i, hne, e, by rw [hk _ (h.io hne hi).symm, hi]⟩
theorem Rw.gr (h : Rw o pi P c rr fl lv cv H) (g : Gr H K) : Rw o pi P c rr fl lv cv K ∧ Kp o cv H cv K := by
  have hk : ∀ r x, getH H r = some x → getH K r = some x := fun r x hr => by rw [g.old r (by simp [hr]), hr]
  refine ⟨⟨hk _ _ h.ho, ?_, hk _ _ h.hp, h.ne, h.ni, h.lo, h.cl⟩, g.len, fun r hr _ _ => g.old r (getH_isSome.2 hr), fun i hi => .inl hi⟩
  rcases h.hc with hc | ⟨i, hne, e, hi⟩
  · exact .inl hc
  · exact .inr ⟨i, hne, e, hk _ _ hi⟩
theorem Rq.gr (h : Rq 0 o pi P st lv cv H) (g : Gr H K) : Rq 0 o pi P st lv cv K ∧ Kp o cv H cv K := by
  obtain ⟨c, rr, h1, h2⟩ := h
  exact ⟨⟨c, rr, (h1.gr g).1, h2⟩, (h1.gr g).2⟩
/-- Some cells that the own state does not hold stay. -/
theorem Rw.one (h : Rw o pi P c rr fl lv cv H) {r : Nat} {x : AV} (hr : getH H r = some (.cells [x])) : r ≠ o ∧ r ∉ hid cv := by
  refine ⟨fun e => ?_, fun hm => ?_⟩
  · subst e
    rw [h.ho] at hr
    simp [Rcells] at hr
  · rcases h.hc with ⟨-, e⟩ | ⟨i, hne, e, hi⟩
    · rw [e] at hm; simp [hid] at hm
    · rw [e] at hm
      simp [hid] at hm
      subst hm
      rw [hi] at hr
      simp at hr
      have hl := congrArg List.length hr
      rw [Ins.flat_len] at hl
      cases hcc : c with
      | nil => exact hne hcc
      | cons y ys => rw [hcc] at hl; simp at hl; omega
theorem Rep.into {st st1 st2 : Option LS} {f : Int → Ins} {x : Int} {u : Unit} (r1 : Rep st lfresh x st1) (r2 : Rep st1 (lput (f x)) u st2) : Rep st (linto f) x st2 :=
  Rep.bind (f := fun k => (lput (f k)).bind fun _ => LM.ret k) r1 (Rep.bind (f := fun _ => LM.ret x) r2 (Rep.ret _ _))
def I148 (k : Int) (H : List AObj) (m : Nat) (τ : Env) (S : AS) : Prop := 1 ≤ m ∧ m ≤ 64 ∧ pow2 (m : Int) = pow2 k ∧ τ = [(0, .int .i64 m)] ∧ S = ⟨[], H, []⟩
/-- A local on the heap. -/
def vav (p : List UInt8 × Int) : AV := .agg [.str p.1, .int .i64 p.2]
/-- The locals on the heap. -/
structure LvOk (V : LV) (lv : AV) : Prop where
  v : V = [] ∧ lv = .nils ∨ ∃ t, V ≠ [] ∧ lv = .vs t (V.map vav)
  p : ∀ q ∈ V, 0 ≤ q.2
def I118 (o : Nat) (V : LV) (nm : List UInt8) (H : List AObj) (m : Nat) (τ : Env) (S : AS) : Prop :=
  m ≤ V.length ∧ (lreg V nm = lreg (V.take m) nm) ∧ τ = [(0, .ptr o 0), (1, .str nm), (5, .int .i64 ((m : Int) - 1))] ∧ S = ⟨[], H, []⟩
theorem LvOk.reg {V : LV} {lv : AV} (h : LvOk V lv) {nm : List UInt8} {r : Int} (hr : lreg V nm = some r) : 0 ≤ r := by
  unfold lreg at hr
  cases hf : V.reverse.find? fun p => p.1 == nm with
  | none => rw [hf] at hr; cases hr
  | some q =>
    rw [hf] at hr
    cases hr
    exact h.p q (by simpa using List.mem_of_find?_eq_some hf)
end
end Go.Ab

/- The reference for the instructions (palingref13): expressions. -/
namespace Go.Ab
open Go.Proofs

set_option maxRecDepth 100000
set_option maxHeartbeats 8000000
/-- What an expression of the reference comes to. -/
def ER (o pi : Nat) (P : Prg) (cl : List UInt8 → List Int → LM Int) (e : Ex) : Prop := ∀ {st : Option LS} {lv cv : AV} {H : List AObj} {V : LV}, Rq 0 o pi P st lv cv H → (st ≠ none → LvOk V lv ∧ V.length ≤ 2 ^ 30) → e.sc P (V.map Prod.fst) →
  SCalls Tryz.prog 117 [.ptr o 0, e.av] H (RP o pi P lv cv st H (lexpr P cl V e) isI)
def CR (o pi : Nat) (P : Prg) (cl : List UInt8 → List Int → LM Int) (e : Ex) : Prop := ∀ {st : Option LS} {lv cv : AV} {H : List AObj} {V : LV}, Rq 0 o pi P st lv cv H → (st ≠ none → LvOk V lv ∧ V.length ≤ 2 ^ 30) → e.sc P (V.map Prod.fst) → st ≠ none →
  SCalls Tryz.prog 152 [.ptr o 0, e.av] H (RP o pi P lv cv st H (lexpr P cl V e) isI)
section
variable {o pi : Nat} {P : Prg} {cl : List UInt8 → List Int → LM Int} {st : Option LS} {lv cv : AV} {V : LV} {H : List AObj}
end
end Go.Ab

/- The reference for the instructions (palingref13): rows of statements, blocks, arrays, branches. -/
namespace Go.Ab
open Go.Proofs

set_option maxRecDepth 100000
set_option maxHeartbeats 8000000
/-- What statements of the reference come to. -/
def BP (o pi : Nat) (P : Prg) (cv : AV) (st : Option LS) (H : List AObj) (m : LM LV) : AEnd → List AObj → Prop := fun r K =>
  ∃ (V' : LV) (st' : Option LS) (lv' cv' : AV), r = .ret (.tuple []) ∧ Rq 0 o pi P st' lv' cv' K ∧ Kp o cv H cv' K ∧ Rep st m V' st' ∧ (∀ s', st' = some s' → LvOk V' lv' ∧ V'.length ≤ s'.c.length)
def SR (o pi : Nat) (P : Prg) (cl : List UInt8 → List Int → LM Int) (F : Int) (x : St) : Prop := ∀ {s : LS} {lv cv : AV} {H : List AObj} {V : LV}, Rq 0 o pi P (some s) lv cv H → LvOk V lv → V.length ≤ s.c.length → x.sc P F (V.map Prod.fst) →
  SCalls Tryz.prog 93 [.ptr o 0, x.av] H (BP o pi P cv (some s) H (lstmt P cl x V))
def BR (o pi : Nat) (P : Prg) (cl : List UInt8 → List Int → LM Int) (F : Int) (l : List St) : Prop := ∀ {st : Option LS} {lv cv : AV} {H : List AObj} {V : LV}, Rq 0 o pi P st lv cv H → (∀ s, st = some s → LvOk V lv ∧ V.length ≤ s.c.length) → (st ≠ none → St.scs P F (V.map Prod.fst) l) →
  SCalls Tryz.prog 57 [.ptr o 0, sl (St.avs l)] H (BP o pi P cv st H (lstmts P cl l V))
section
variable {o pi : Nat} {P : Prg} {cl : List UInt8 → List Int → LM Int} {st : Option LS} {lv cv : AV} {V : LV} {H K : List AObj} {F : Int} {s : LS} {c : List Ins} {rr : Int} {fl : Bool}
theorem Rep.here {c : List Ins} {rr : Int} (hs : match st with
    | Option.some s => c = s.c ∧ rr = s.r ∧ s.r ≤ s.c.length + 0
    | Option.none => c.length = 4097) : Rep st lhere c.length st := by
  cases st with
  | none => exact rfl
  | some s => obtain ⟨rfl, -, -⟩ := hs; exact Rep.of rfl
theorem Rq.vb (h : Rq 0 o pi P (some s) lv cv H) (hb : V.length ≤ s.c.length) : V.length ≤ 2 ^ 30 := by
  obtain ⟨c, rr, hw, rfl, -, -⟩ := h
  have := hw.cl
  omega
def I57 (o pi : Nat) (P : Prg) (cl : List UInt8 → List Int → LM Int) (F : Int) (l : List St) (st : Option LS) (cv : AV) (V : LV) (H : List AObj) (m : Nat) (τ : Env) (S : AS) : Prop :=
  ∃ (j : Nat) (st1 : Option LS) (lv1 cv1 : AV) (M : List AObj) (V1 : LV), m + j = l.length ∧ (∀ y st2, Rep st1 (lstmts P cl (l.drop j) V1) y st2 → Rep st (lstmts P cl l V) y st2) ∧ Rq 0 o pi P st1 lv1 cv1 M ∧ Kp o cv H cv1 M ∧
    (∀ s, st1 = some s → LvOk V1 lv1 ∧ V1.length ≤ s.c.length) ∧ (st1 ≠ none → St.scs P F (V1.map Prod.fst) (l.drop j)) ∧ τ = [(0, .ptr o 0), (1, sl (St.avs l)), (4, .int .i64 j)] ∧ S = ⟨[], M, []⟩
end
end Go.Ab

/- The reference for the instructions (palingref13): branches, statements. -/
namespace Go.Ab
open Go.Proofs

set_option maxRecDepth 100000
set_option maxHeartbeats 8000000
section
variable {o pi : Nat} {P : Prg} {cl : List UInt8 → List Int → LM Int} {st : Option LS} {lv cv : AV} {V : LV} {H K : List AObj} {F : Int} {s : LS} {c : List Ins} {rr : Int} {fl : Bool}
theorem Rw.lenA (hw : Rw o pi P c rr fl lv cv H) (S : AS) : lenA S .l cv = some c.length := by
  rcases hw.hc with ⟨e1, e⟩ | ⟨i, -, e, -⟩ <;> rw [e]
  · rw [e1]; rfl
  · rfl
theorem Rw.pr (hw : Rw o pi P c rr fl lv cv H) : cv.proper = true := by
  rcases hw.hc with ⟨e1, e⟩ | ⟨i, -, e, -⟩ <;> rw [e] <;> rfl
/-- Where an instruction goes to is told. -/
theorem Rw.goto (h : Rw o pi P c rr fl lv cv H) {k m i : Nat} (hk : k < c.length) (hcv : cv = .hs i 7 0 c.length) (hci : getH H i = some (.cells (c.flatMap Ins.cells)))
    (hK : setH H i (.cells ((c.flatMap Ins.cells).take (k * 7 + 6) ++ .int .i64 m :: (c.flatMap Ins.cells).drop (k * 7 + 6 + 1))) = K) : Rw o pi P (c.modify k (Ins.goto m)) rr fl lv cv K ∧ Kp o cv H cv K := by
  have hil := getH_lt (H := H) (i := i) (by simp [hci])
  have hne : c ≠ [] := fun e => by rw [e] at hk; simp at hk
  have hoi := h.io hne hci
  have hpi2 : pi ≠ i := fun e => h.ni (by rw [hcv]; simp [hid, e])
  rw [flat_modify (n := m) (c := c) (k := k) hk] at hK
  have hKi : getH K i = some (.cells ((c.modify k (Ins.goto m)).flatMap Ins.cells)) := by
    rw [← hK, getH_set_self (by simp [hci])]
  have hKk : ∀ r, r ≠ i → getH K r = getH H r := fun r hne => by rw [← hK, getH_set_ne (Ne.symm hne)]
  have hKl : lenH K = lenH H := by rw [← hK]; simp
  refine ⟨⟨by rw [hKk o hoi, h.ho], .inr ⟨i, ?_, ?_, hKi⟩, by rw [hKk pi hpi2, h.hp], h.ne, h.ni, h.lo, by simpa using h.cl⟩, by omega, fun r hr h1 h2 => hKk r (fun e => h2 (by rw [hcv]; simp [hid, e])), fun i hi => .inl hi⟩
  · intro e
    have := congrArg List.length e
    simp at this
    rw [this] at hk
    simp at hk
  · rw [hcv]; simp
theorem Rep.to {k n : Nat} {s : LS} : Rep (Option.some s) (lto k n) () (Option.some ⟨s.c.modify k (Ins.goto n), s.r⟩) := Rep.of rfl
end
end Go.Ab

/- The reference for the instructions (palingref13): statements. -/
namespace Go.Ab
open Go.Proofs

set_option maxRecDepth 100000
set_option maxHeartbeats 8000000
section
variable {o pi : Nat} {P : Prg} {cl : List UInt8 → List Int → LM Int} {st : Option LS} {lv cv : AV} {V : LV} {H K : List AObj} {F : Int} {s : LS} {c : List Ins} {rr : Int} {fl : Bool}
@[simp] theorem vav_erase' : AV.erase ∘ vav = vav := by
  funext p
  simp [vav, AV.erase, AV.drop1]
end
end Go.Ab

/- The reference for the instructions (palingref13): calls. -/
namespace Go.Ab
open Go.Proofs

set_option maxRecDepth 100000
set_option maxHeartbeats 8000000
section
variable {o pi : Nat} {P : Prg} {cl : List UInt8 → List Int → LM Int} {st st1 : Option LS} {lv cv cv' : AV} {V : LV} {H K : List AObj} {F : Int} {s : LS} {c : List Ins} {rr : Int} {fl : Bool}
/-- Another object is stored. -/
theorem Rw.other (h : Rw o pi P c rr fl lv cv H) {r0 : Nat} {x : AObj} (hr : r0 ≠ o ∧ r0 ≠ pi ∧ r0 ∉ hid cv) : Rw o pi P c rr fl lv cv (setH H r0 x) := by
  have hk : ∀ r y, r ≠ r0 → getH H r = some y → getH (setH H r0 x) r = some y := fun r y hne hr => by rw [getH_set_ne (Ne.symm hne), hr]
  refine ⟨hk _ _ hr.1.symm h.ho, ?_, hk _ _ hr.2.1.symm h.hp, h.ne, h.ni, h.lo, h.cl⟩
  rcases h.hc with hc | ⟨i, hne, e, hi⟩
  · exact .inl hc
  · exact .inr ⟨i, hne, e, hk _ _ (fun e2 => hr.2.2 (by rw [e, ← e2]; simp [hid])) hi⟩
theorem Rq.other (h : Rq 0 o pi P st lv cv H) {r0 : Nat} {x : AObj} (hr : r0 ≠ o ∧ r0 ≠ pi ∧ r0 ∉ hid cv) : Rq 0 o pi P st lv cv (setH H r0 x) := by
  obtain ⟨c, rr, h1, h2⟩ := h
  exact ⟨c, rr, h1.other hr, h2⟩
theorem Kp.other (h : Kp o cv H cv' K) {r0 : Nat} {x : AObj} (hr : lenH H ≤ r0) : Kp o cv H cv' (setH K r0 x) :=
  ⟨by simpa using h.len, fun r hr2 h1 h2 => by rw [getH_set_ne (by omega), h.keep r hr2 h1 h2], h.sub⟩
theorem Kp.gr (h : Kp o cv H cv' K) {M : List AObj} (g : Gr K M) : Kp o cv H cv' M :=
  ⟨by have := h.len; have := g.len; omega, fun r hr2 h1 h2 => by rw [g.old r (getH_isSome.2 (by have := h.len; omega)), h.keep r hr2 h1 h2], h.sub⟩
theorem Kp.tip (h : Kp o cv H cv' K) (hq : Rq 0 o pi P st lv cv H) {t : Nat} (ht : getH H t = some .tip) : getH K t = some .tip := by
  obtain ⟨c, rr, hw, -⟩ := hq
  rw [h.keep t (getH_lt (by simp [ht])) (fun e => ?_) (fun hm => ?_), ht]
  · subst e; rw [hw.ho] at ht; simp at ht
  · rcases hw.hc with ⟨-, e⟩ | ⟨i, hne, e, hi⟩
    · rw [e] at hm; simp [hid] at hm
    · rw [e] at hm
      simp [hid] at hm
      subst hm
      rw [hi] at ht
      simp at ht
/-- The registers of the arguments, as they are on the heap. -/
def AQ (o pi : Nat) (H0 : List AObj) (cv : AV) (M : List AObj) (v : AV) (ms : List Int) : Prop :=
  ms = [] ∧ v = .nils ∨ ∃ j, ms ≠ [] ∧ v = .hs j 1 0 ms.length ∧ getH M j = some (.cells (ms.map (.int .i64))) ∧ lenH H0 ≤ j ∧ j ≠ o ∧ j ≠ pi ∧ j ∉ hid cv
theorem AQ.keep {H0 : List AObj} {v : AV} {ms : List Int} (a : AQ o pi H0 cv H v ms) (k : Kp o cv H cv' K) : AQ o pi H0 cv' K v ms := by
  rcases a with a | ⟨j, h1, h2, h3, h4, h5, h6, h7⟩
  · exact .inl a
  · have hl := getH_lt (H := H) (i := j) (by simp [h3])
    exact .inr ⟨j, h1, h2, by rw [k.keep j hl h5 h7, h3], h4, h5, h6, fun hm => by
      rcases k.sub j hm with h | h
      · exact h7 h
      · omega⟩
def I152 (o pi : Nat) (P : Prg) (cl : List UInt8 → List Int → LM Int) (ks : List Ex) (st : Option LS) (lv cv : AV) (V : LV) (H : List AObj) (ev fv : List AV) (m : Nat) (τ : Env) (S : AS) : Prop :=
  ∃ (j : Nat) (rs : List Int) (st1 : Option LS) (cv1 : AV) (M : List AObj) (v : AV), m + j = ks.length ∧ rs.length = j ∧ (∀ {α : Type} (f : List Int → LM α) y st2, Rep st1 ((lexprs P cl V (ks.drop j)).bind fun r => f (rs ++ r)) y st2 → Rep st ((lexprs P cl V ks).bind f) y st2) ∧
    Rq 0 o pi P st1 lv cv1 M ∧ Kp o cv H cv1 M ∧ AQ o pi H cv1 M v rs ∧ τ = [(0, .ptr o 0), (3, .lref 3 0), (5, .lref 5 0), (7, v), (8, .int .i64 j)] ∧ S = ⟨[(3, ev), (5, fv)], M, []⟩
def I152b (o pi : Nat) (P : Prg) (ps : List Para) (rs : List Int) (st : Option LS) (lv cv : AV) (H : List AObj) (fv : List AV) (wv : AV) (m : Nat) (τ : Env) (S : AS) : Prop :=
  ∃ (j : Nat) (done : List Int) (st1 : Option LS) (cv1 : AV) (M : List AObj) (v ov : AV), m + j = rs.length ∧ done.length = j ∧ (∀ {α : Type} (f : List Int → LM α) y st2, Rep st1 ((lmoves (rs.drop j)).bind fun r => f (done ++ r)) y st2 → Rep st ((lmoves rs).bind f) y st2) ∧
    Rq 0 o pi P st1 lv cv1 M ∧ Kp o cv H cv1 M ∧ AQ o pi H cv1 M v rs ∧ TipN (lenH H) M ov ((((ps.map Para.name).take j).zip done).map vav) ∧ (∀ s1, st1 = some s1 → (∀ x ∈ done, 0 ≤ x) ∧ done.length ≤ s1.c.length) ∧
    τ = [(0, .ptr o 0), (5, .lref 5 0), (7, v), (9, wv), (10, ov), (11, .int .i64 j)] ∧ S = ⟨[(5, fv)], M, []⟩
theorem Rq.lt (h : Rq 0 o pi P st lv cv H) : o < lenH H ∧ pi < lenH H ∧ ∀ i ∈ hid cv, i < lenH H := by
  obtain ⟨c, rr, hw, -⟩ := h
  refine ⟨getH_lt (by simp [hw.ho]), getH_lt (by simp [hw.hp]), fun i hi => ?_⟩
  rcases hw.hc with ⟨-, e⟩ | ⟨j, hne, e, hj⟩
  · rw [e] at hi; simp [hid] at hi
  · rw [e] at hi
    simp [hid] at hi
    subst hi
    exact getH_lt (by simp [hj])
/-- Only ends of slices are others. -/
theorem Rq.tips (h : Rq 0 o pi P st lv cv H) (hk : ∀ r, r < lenH H → getH H r ≠ some .tip → getH K r = getH H r) : Rq 0 o pi P st lv cv K := by
  obtain ⟨c, rr, hw, hs⟩ := h
  have hh : ∀ r cs, getH H r = some (.cells cs) → getH K r = some (.cells cs) := fun r cs hr => by rw [hk r (getH_lt (by simp [hr])) (by simp [hr]), hr]
  refine ⟨c, rr, ⟨hh _ _ hw.ho, ?_, hh _ _ hw.hp, hw.ne, hw.ni, hw.lo, hw.cl⟩, hs⟩
  rcases hw.hc with hc | ⟨i, hne, e, hi⟩
  · exact .inl hc
  · exact .inr ⟨i, hne, e, hh _ _ hi⟩
end
end Go.Ab

/- The reference for the instructions (palingref13): all of it, by the calls' depth. -/
namespace Go.Ab
open Go.Proofs

set_option maxRecDepth 100000
set_option maxHeartbeats 8000000
def TieER (o pi : Nat) (P : Prg) (f : Nat) : Prop := ∀ e : Ex, e.ok → e.cl P f → e.size ≤ 2 ^ 30 → ER o pi P (lcall P f) e
def TieSR (o pi : Nat) (P : Prg) (f : Nat) : Prop := ∀ (F : Int) (l : List St), St.oks l → St.cbs P f l → St.sizes l ≤ 2 ^ 30 → BR o pi P (lcall P f) F l
end Go.Ab

/- palingref09.Of: where the globals stand. -/
namespace Go.Ab
open Go.Proofs

set_option maxRecDepth 100000
set_option maxHeartbeats 8000000
def tbp (P : Prg) (p : Nat) : List Plc := if p = 0 then P.tb false 0 else if p = 1 then P.tb true 0 else P.plcs
def I17 (P : Prg) (j : Nat) (H : List AObj) (m : Nat) (τ : Env) (S : AS) : Prop :=
  ∃ (p : Nat) (at' : Int) (M : List AObj), m + p = 2 ∧ getH M j = some (.cells ((tbp P p).flatMap Plc.cells)) ∧ (p < 2 → at' = P.at52 (p == 1) 0) ∧ Gr H M ∧
    τ = [(1, .lref 1 0), (3, .hs j 4 0 P.globals.length), (4, .int .i64 at'), (5, .int .i64 p)] ∧ S = ⟨[(1, P.cells)], M, []⟩
def I17b (P : Prg) (j p : Nat) (H : List AObj) (m : Nat) (τ : Env) (S : AS) : Prop :=
  ∃ (i : Nat) (M : List AObj) (lo : List (Nat × List AV)), m + i = P.globals.length ∧ getH M j = some (.cells ((P.tb (p == 1) i).flatMap Plc.cells)) ∧ Gr H M ∧
    τ = [(1, .lref 1 0), (3, .hs j 4 0 P.globals.length), (4, .int .i64 (P.at52 (p == 1) i)), (5, .int .i64 p), (6, .int .i64 i)] ∧ S = ⟨[(1, P.cells)], M, []⟩
section
variable {H : List AObj}
end
end Go.Ab

/- palingref13.Thread -/
namespace Go.Ab
open Go.Proofs

set_option maxRecDepth 100000
set_option maxHeartbeats 8000000
/-- An instruction that goes to a trap is sent on. -/
def fT (tr : Int) (n : Nat) (x : Ins) : Ins := if x.led tr = true then { x with to := n } else x
section
variable {o pi : Nat} {P : Prg} {st : Option LS} {lv cv : AV} {V : LV} {H K : List AObj} {F : Int} {s : LS} {c : List Ins} {rr : Int} {fl : Bool}
def mid (tr : Int) (c : List Ins) (i : Nat) : List Ins := (c.take i).map (fT tr c.length) ++ c.drop i
def I11i (o pi : Nat) (P : Prg) (c : List Ins) (rr : Int) (fl : Bool) (lv cv : AV) (tr : Int) (H : List AObj) (m : Nat) (τ : Env) (S : AS) : Prop :=
  ∃ (i : Nat) (M : List AObj), m + i = c.length ∧ Rw o pi P (mid tr c i) rr fl lv cv M ∧ Kp o cv H cv M ∧
    τ = [(9, .ptr o 0), (10, .int .i64 tr), (11, .bool ((c.take i).any (Ins.led tr))), (12, .int .i64 c.length), (13, .int .i64 i)] ∧ S = ⟨[], M, []⟩
def I11 (o pi : Nat) (P : Prg) (st0 : Option LS) (cv0 : AV) (H : List AObj) (m : Nat) (τ : Env) (S : AS) : Prop :=
  ∃ (ph : Nat) (st : Option LS) (cv : AV) (M : List AObj), m + ph = 2 ∧ Rq 0 o pi P st .nils cv M ∧ Kp o cv0 H cv M ∧ (∀ st9, Rep st (lrest ph) () st9 → Rep st0 (lrest 0) () st9) ∧
    τ = [(9, .ptr o 0), (10, .int .i64 ((ph : Int) + 1))] ∧ S = ⟨[], M, []⟩
def ThQ (P : Prg) (i : Int) (H : List AObj) : AEnd → List AObj → Prop := fun r K => FrN (lenH H) H K ∧ ((∃ c cv, thR P i 4097 = some c ∧ c.length ≤ 4096 ∧ r = .ret (.tuple [cv, .bool true]) ∧ CV cv c K ∧ ∀ i ∈ hid cv, lenH H ≤ i) ∨
  (∀ c, thR P i 4097 = some c → 4096 < c.length) ∧ r = .ret (.tuple [.nils, .bool false]))
end
end Go.Ab

/- palingref13.Same, lower.Program. -/
namespace Go.Ab
open Go.Proofs

set_option maxRecDepth 100000
set_option maxHeartbeats 8000000
section
variable {H K : List AObj} {P : Prg} {c : List Ins} {va vb cv : AV}
theorem CV.len (h : CV cv c H) (S : AS) : lenA S .l cv = some c.length := by
  rcases h with ⟨e1, e⟩ | ⟨i, -, e, -⟩ <;> rw [e]
  · rw [e1]; rfl
  · rfl
theorem CV.pr (h : CV cv c H) : cv.proper = true := by
  rcases h with ⟨e1, e⟩ | ⟨i, -, e, -⟩ <;> rw [e] <;> rfl
theorem CV.fr (h : CV cv c H) (f : FrN (lenH H) H K) : CV cv c K := by
  rcases h with h | ⟨i, h1, h2, h3⟩
  · exact .inl h
  · exact .inr ⟨i, h1, h2, by rw [f.2 i (getH_lt (by simp [h3])), h3]⟩
theorem CV.tips (h : CV cv c H) (hk : ∀ r, r < lenH H → getH H r ≠ some .tip → getH K r = getH H r) : CV cv c K := by
  rcases h with h | ⟨i, h1, h2, h3⟩
  · exact .inl h
  · exact .inr ⟨i, h1, h2, by rw [hk i (getH_lt (by simp [h3])) (by simp [h3]), h3]⟩
theorem CV.val (h : CV cv c H) : cv.okv = true ∧ cv.cells = [cv] ∧ cv.erase = cv := by
  rcases h with ⟨-, e⟩ | ⟨i, -, e, -⟩ <;> rw [e] <;> exact ⟨rfl, rfl, rfl⟩
theorem FrN.weak {n n' : Nat} {M M' : List AObj} (h : FrN n M M') (hn : n' ≤ n) : FrN n' M M' := ⟨h.1, fun r hr => h.2 r (by omega)⟩
theorem flat_seg {x : Ins} : ∀ {c : List Ins} {i : Nat}, c[i]? = some x → ((c.flatMap Ins.cells).drop (i * 7)).take 7 = x.cells
  | [], i, h => by simp at h
  | y :: r, 0, h => by
    simp at h
    subst h
    simp [Ins.cells]
  | y :: r, i + 1, h => by
    simp at h
    have hl : y.cells.length = 7 := rfl
    rw [List.flatMap_cons, show (i + 1) * 7 = y.cells.length + i * 7 by rw [hl]; omega, List.drop_length_add_append]
    exact flat_seg h
def I12 (va vb : AV) (c : List Ins) (H : List AObj) (m : Nat) (τ : Env) (S : AS) : Prop := ∃ i : Nat, m + i = c.length ∧ τ = [(0, va), (1, vb), (5, .int .i64 i)] ∧ S = ⟨[], H, []⟩
theorem Same_c (ha : CV va c H) (hb : CV vb c H) (hl : c.length ≤ 2 ^ 40) : SCalls Tryz.prog 12 [va, vb] H (fun r K => r = .ret (.bool true) ∧ K = H) := by
  refine fn_go k12 rfl ?_
  intro Q hQ
  simp [c12, okD_proper ha.pr, okD_proper hb.pr, ha.len, hb.len]
  simp [c12_4]
  refine loop_keep (n := c.length) (I12 va vb c H) ?_ ⟨0, by simp, by simp, rfl⟩
  rintro m τ S ⟨i, hm, rfl, rfl⟩
  by_cases hlt : i < c.length
  · obtain ⟨x, hx⟩ : ∃ x, c[i]? = some x := ⟨_, List.getElem?_eq_getElem hlt⟩
    rcases id ha with ⟨e, -⟩ | ⟨ia, -, rfl, hia⟩
    · rw [e] at hlt; simp at hlt
    rcases id hb with ⟨e, -⟩ | ⟨ib, -, rfl, hib⟩
    · rw [e] at hlt; simp at hlt
    have hsg := flat_seg hx
    have hfl := Ins.flat_len c
    generalize c.flatMap Ins.cells = L at hsg hfl hia hib
    simp [hlt]
    simp [c12_2, hlt, hia, hib, hsg, Ins.cells, show i * 7 + 7 ≤ L.length by omega]
    simp [c12_1, wrap_s (n := (i : Int) + 1) (by omega)]
    exact ⟨m - 1, by omega, i + 1, by omega, by simp, rfl⟩
  · simp [hlt, okD_proper ha.pr, ha.len, c12_3]
    exact hQ _ _ ⟨rfl, rfl⟩
/-- What all threads' instructions are. -/
def ProgP (P : Prg) (H : List AObj) : AEnd → List AObj → Prop := fun r K => FrN (lenH H) H K ∧
  ((∃ (cs : List (List Ins)) (cvs : List AV), cs.length = P.threads.length ∧ cvs.length = P.threads.length ∧ (∀ i : Nat, i < P.threads.length → thR P i 4096 = cs[i]?) ∧
      (∀ (i : Nat) cv c, cvs[i]? = some cv → cs[i]? = some c → CV cv c K ∧ c.length ≤ 4096 ∧ ∀ j ∈ hid cv, lenH H ≤ j) ∧ r = .ret (.tuple [sl cvs, .bool true])) ∨
    (∃ i : Nat, i < P.threads.length ∧ thR P i 4096 = none) ∧ r = .ret (.tuple [.nils, .bool false]))
def I13 (P : Prg) (H : List AObj) (m : Nat) (τ : Env) (S : AS) : Prop :=
  ∃ (i : Nat) (cs : List (List Ins)) (cvs : List AV) (v : AV) (M : List AObj), m + i = P.threads.length ∧ cs.length = i ∧ cvs.length = i ∧ (∀ k : Nat, k < i → thR P k 4096 = cs[k]?) ∧
    (∀ (i : Nat) cv c, cvs[i]? = some cv → cs[i]? = some c → CV cv c M ∧ c.length ≤ 4096 ∧ ∀ j ∈ hid cv, lenH H ≤ j) ∧ (∀ cv ∈ cvs, cv.okv = true ∧ cv.cells = [cv] ∧ cv.erase = cv) ∧ TipN (lenH H) M v cvs ∧ FrN (lenH H) H M ∧
    τ = [(1, .lref 1 0), (4, v), (10, .int .i64 P.threads.length), (11, .int .i64 i)] ∧ S = ⟨[(1, P.cells)], M, []⟩
theorem Program_c (hw : PW P) : SCalls Tryz.prog 13 [P.av] H (ProgP P H) := by
  have hnt := hw.pv.nt
  refine fn_go k13 rfl ?_
  intro Q hQ
  simp [c13, Prg.av]
  refine loop_keep (n := P.threads.length) (I13 P H) ?_ ⟨0, [], [], .nils, H, by simp, rfl, rfl, by simp, by simp, by simp, .inl ⟨rfl, rfl⟩, .refl _ _, by simp, rfl⟩
  rintro m τ S ⟨i, cs, cvs, v, M, hm, hcs, hcvs, hth, hcv, hok, htip, hfr, rfl, rfl⟩
  by_cases hlt : i < P.threads.length
  · have hT := Thread_c (H := M) hw (i := i) (by omega)
    simp only [Prg.av] at hT
    simp [hlt]
    simp [c13_3, Prg.cells]
    refine hT.mono ?_
    rintro r K ⟨fr, hr⟩
    have hlM := hfr.1
    have hfrK : FrN (lenH H) H K := hfr.trans (FrN.weak fr hlM)
    cases hn : thR P i 4096 with
    | none =>
      rw [hn] at hr
      simp only at hr
      subst hr
      simp
      exact hQ _ _ ⟨hfrK, .inr ⟨⟨i, hlt, hn⟩, rfl⟩⟩
    | some c =>
      rw [hn] at hr
      simp only at hr
      obtain ⟨hl, cv, rfl, hcvc, hids⟩ := hr
      obtain ⟨w1, w2, w3⟩ := hcvc.val
      have tip1 : TipN (lenH H) K v cvs := htip.keep fun t ht h2 => by rw [fr.2 t (getH_lt (by simp [h2])), h2]
      have tip2 := tip1.gr ((Gr.refl K).add (o := .tip))
      have hlK := fr.1
      have hwid : wid 1 cvs = true := by
        unfold wid
        rw [List.all_eq_true]
        intro x hx
        obtain ⟨y1, y2, -⟩ := hok x hx
        rw [y1, y2]; rfl
      obtain ⟨M3, happ, tip5, fr5, hk5⟩ := tip2.app (lo := [(1, P.cells)]) (df := []) (e := 1) (b := 24) (x := cv) (by simp; omega) hwid (by simp only [roomA_eq]; omega)
      rw [w3] at happ tip5
      simp [Prg.cells] at happ tip5
      have htok : ∀ r ∈ tokOf v, lenH H ≤ r := by
        intro r hr
        rcases tip1 with ⟨-, e⟩ | ⟨t, -, e, -, hn⟩
        · rw [e] at hr; simp at hr
        · rw [e] at hr; simp at hr; omega
      have hold : ∀ r, r < lenH K → r ∉ tokOf v → getH M3 r = getH K r := fun r hr hn => by
        rw [hk5 r (by simp; omega) hn, getH_add_old (getH_isSome.2 hr)]
      have htips : ∀ r, r < lenH K → getH K r ≠ some .tip → getH M3 r = getH K r := fun r hr hnt => hold r hr fun hm => hnt (tip1.lt r hm).2
      have hl5 : lenH K ≤ lenH M3 := by have := fr5.1; simp at this; omega
      simp [okD_proper hcvc.pr, c13_1, okD_proper htip.proper, wid, w1, w2, w3, happ, c13_2, wrap_s (n := (i : Int) + 1) (by omega)]
      refine ⟨m - 1, by omega, i + 1, cs ++ [c], cvs ++ [cv], _, M3, by omega, by simp [hcs], by simp [hcvs], fun k hk => ?_, fun k cv' c' h1 h2 => ?_, fun x hx => ?_, tip5, ⟨by omega, fun r hr => by rw [hold r (by omega) (fun hm => by have := htok r hm; omega), hfrK.2 r hr]⟩, by simp, rfl⟩
      · rcases Nat.lt_or_ge k i with h | h
        · rw [hth k h, List.getElem?_append_left (by omega)]
        · have : k = i := by omega
          subst this
          rw [hn, List.getElem?_append_right (by omega)]
          simp [hcs]
      · rcases Nat.lt_or_ge k i with h | h
        · rw [List.getElem?_append_left (by omega)] at h1 h2
          obtain ⟨q1, q2, q3⟩ := hcv k cv' c' h1 h2
          exact ⟨(q1.fr fr).tips htips, q2, q3⟩
        · rw [List.getElem?_append_right (by omega)] at h1 h2
          have hk : k = i := by
            have := (List.getElem?_eq_some_iff.1 h1).1
            simp at this
            omega
          subst hk
          simp [hcs] at h1 h2
          have e1 : cv' = cv := by
            have : k - cvs.length = 0 := by omega
            simp [this] at h1
            exact h1.symm
          subst e1 h2
          exact ⟨hcvc.tips htips, hl, fun j hj => by have := hids j hj; omega⟩
      · rcases List.mem_append.1 hx with hx | hx
        · exact hok x hx
        · simp at hx; subst hx; exact ⟨w1, w2, w3⟩
  · have hin : i = P.threads.length := by omega
    have hfin : Q (.ret (.tuple [sl cvs, .bool true])) M := hQ _ _ ⟨hfr, .inl ⟨cs, cvs, by omega, by omega, fun k hk => hth k (by omega), hcv, rfl⟩⟩
    rcases htip with ⟨e1, rfl⟩ | ⟨t, e1, rfl, -⟩
    · subst e1
      simp [hlt, c13_4]
      simpa [resV] using hfin
    · rw [sl_ne e1] at hfin
      simp [hlt, c13_4]
      simpa [resV, AV.erase, AV.drop1] using hfin
end
end Go.Ab

/- The law's live example: awake. -/
namespace Go.Ab
open Go.Proofs

set_option maxRecDepth 100000
set_option maxHeartbeats 8000000
/-- The instructions of the example's first thread. -/
def code9 : List Ins := [⟨0, 0, 0, 0, 0, 1, 0⟩, ⟨0, 0, 1, 0, 0, 2, 0⟩, ⟨7, 0, 0, 1, 0, 0, 6⟩, ⟨2, 3, 2, 0, 1, 0, 0⟩, ⟨11, 0, 0, 2, 0, 0, 0⟩, ⟨13, 0, 0, 0, 0, 0, 0⟩, ⟨12, 0, 0, 0, 0, 1, 0⟩]
theorem dig9_0 (K : List AObj) : evF (look tb9) 100 10 45 [.int .i64 0] K = some (.ret (.str [48]), K) := by kernel_rfl
theorem shw9_0 (K : List AObj) : evF (look tb9) 100 10 46 [Ins.av ⟨0, 0, 0, 0, 0, 1, 0⟩] K = some (.ret (.str [115, 101, 116, 32, 114, 48, 32, 49]), K ++ [.tip]) := by kernel_rfl
theorem dig9_1 (K : List AObj) : evF (look tb9) 100 10 45 [.int .i64 1] K = some (.ret (.str [49]), K) := by kernel_rfl
theorem shw9_1 (K : List AObj) : evF (look tb9) 100 10 46 [Ins.av ⟨0, 0, 1, 0, 0, 2, 0⟩] K = some (.ret (.str [115, 101, 116, 32, 114, 49, 32, 50]), K ++ [.tip]) := by kernel_rfl
theorem dig9_2 (K : List AObj) : evF (look tb9) 100 10 45 [.int .i64 2] K = some (.ret (.str [50]), K) := by kernel_rfl
theorem shw9_2 (K : List AObj) : evF (look tb9) 100 10 46 [Ins.av ⟨7, 0, 0, 1, 0, 0, 6⟩] K = some (.ret (.str [122, 101, 114, 111, 32, 114, 49, 32, 54]), K ++ [.tip]) := by kernel_rfl
theorem dig9_3 (K : List AObj) : evF (look tb9) 100 10 45 [.int .i64 3] K = some (.ret (.str [51]), K) := by kernel_rfl
theorem shw9_3 (K : List AObj) : evF (look tb9) 100 10 46 [Ins.av ⟨2, 3, 2, 0, 1, 0, 0⟩] K = some (.ret (.str [99, 97, 108, 99, 32, 114, 50, 32, 114, 48, 32, 47, 32, 114, 49]), K ++ [.tip]) := by kernel_rfl
theorem dig9_4 (K : List AObj) : evF (look tb9) 100 10 45 [.int .i64 4] K = some (.ret (.str [52]), K) := by kernel_rfl
theorem shw9_4 (K : List AObj) : evF (look tb9) 100 10 46 [Ins.av ⟨11, 0, 0, 2, 0, 0, 0⟩] K = some (.ret (.str [111, 117, 116, 32, 114, 50]), K ++ [.tip]) := by kernel_rfl
theorem dig9_5 (K : List AObj) : evF (look tb9) 100 10 45 [.int .i64 5] K = some (.ret (.str [53]), K) := by kernel_rfl
theorem shw9_5 (K : List AObj) : evF (look tb9) 100 10 46 [Ins.av ⟨13, 0, 0, 0, 0, 0, 0⟩] K = some (.ret (.str [104, 97, 108, 116]), K ++ [.tip]) := by kernel_rfl
theorem dig9_6 (K : List AObj) : evF (look tb9) 100 10 45 [.int .i64 6] K = some (.ret (.str [54]), K) := by kernel_rfl
theorem shw9_6 (K : List AObj) : evF (look tb9) 100 10 46 [Ins.av ⟨12, 0, 0, 0, 0, 1, 0⟩] K = some (.ret (.str [116, 114, 97, 112, 32, 49]), K ++ [.tip]) := by kernel_rfl

theorem thr9_0 : thR P9 0 4096 = some code9 := by
  have : thR P9 0 4096 = (lthread P9 ((P9.threads[0]?).getD []) 4096 ⟨[], 0⟩).map fun p => p.2.c := if_pos (by decide)
  rw [this]
  rfl
theorem thr9_1 : thR P9 1 4096 = some [⟨13, 0, 0, 0, 0, 0, 0⟩] := by
  have : thR P9 1 4096 = (lthread P9 ((P9.threads[1]?).getD []) 4096 ⟨[], 0⟩).map fun p => p.2.c := if_pos (by decide)
  rw [this]
  rfl
theorem thr9_2 : thR P9 2 4096 = none := if_neg (by decide)
/-- What a line of a code is. -/
def Line (i : Nat) (x : Ins) (s : List UInt8) : Prop := ∃ d t, s = d ++ [32] ++ t ++ [10] ∧ (∀ K, SCalls Tryz.prog 45 [.int .i64 i] K fun r K' => r = .ret (.str d) ∧ K' = K) ∧ ∀ K, SCalls Tryz.prog 46 [x.av] K fun r K' => r = .ret (.str t) ∧ Gr K K'
theorem line_of' {i : Nat} {x : Ins} {d t : List UInt8} (h1 : ∀ K, evF (look tb9) 100 10 45 [.int .i64 i] K = some (.ret (.str d), K)) (h2 : ∀ K, evF (look tb9) 100 10 46 [x.av] K = some (.ret (.str t), K ++ [.tip])) : Line i x (d ++ [32] ++ t ++ [10]) :=
  ⟨d, t, rfl, fun K => evF_ok tb9_ok 10 _ _ _ _ _ _ (h1 K) ⟨rfl, rfl⟩, fun K => evF_ok tb9_ok 10 _ _ _ _ _ _ (h2 K) ⟨rfl, (Gr.refl K).add (o := .tip)⟩⟩
def lines9 : List (List UInt8) := [[48, 32, 115, 101, 116, 32, 114, 48, 32, 49, 10],
  [49, 32, 115, 101, 116, 32, 114, 49, 32, 50, 10],
  [50, 32, 122, 101, 114, 111, 32, 114, 49, 32, 54, 10],
  [51, 32, 99, 97, 108, 99, 32, 114, 50, 32, 114, 48, 32, 47, 32, 114, 49, 10],
  [52, 32, 111, 117, 116, 32, 114, 50, 10],
  [53, 32, 104, 97, 108, 116, 10],
  [54, 32, 116, 114, 97, 112, 32, 49, 10]]
theorem lines9_ok : ∀ (i : Nat) (x : Ins) (s : List UInt8), code9[i]? = some x → lines9[i]? = some s → Line i x s := by
  intro i x s h1 h2
  match i, h1, h2 with
  | 0, h1, h2 => cases h1; cases h2; exact line_of' dig9_0 shw9_0
  | 1, h1, h2 => cases h1; cases h2; exact line_of' dig9_1 shw9_1
  | 2, h1, h2 => cases h1; cases h2; exact line_of' dig9_2 shw9_2
  | 3, h1, h2 => cases h1; cases h2; exact line_of' dig9_3 shw9_3
  | 4, h1, h2 => cases h1; cases h2; exact line_of' dig9_4 shw9_4
  | 5, h1, h2 => cases h1; cases h2; exact line_of' dig9_5 shw9_5
  | 6, h1, h2 => cases h1; cases h2; exact line_of' dig9_6 shw9_6
  | i + 7, h1, h2 => simp [code9] at h1
def I22 (cv : AV) (ss : List (List UInt8)) (n : Nat) (H : List AObj) (m : Nat) (τ : Env) (S : AS) : Prop :=
  ∃ (i : Nat) (M : List AObj), m + i = n ∧ Gr H M ∧ τ = [(0, cv), (3, .str (ss.take i).flatten), (4, .int .i64 i)] ∧ S = ⟨[], M, []⟩
/-- A code's text. -/
theorem text_c {H : List AObj} {cv : AV} {c : List Ins} {ss : List (List UInt8)} (h : CV cv c H) (hl : ss.length = c.length) (hb : c.length ≤ 2 ^ 40) (hs : ss.flatten.length ≤ 2 ^ 40) (hln : ∀ (i : Nat) (x : Ins) (s : List UInt8), c[i]? = some x → ss[i]? = some s → Line i x s) :
    SCalls Tryz.prog 22 [cv] H (fun r K => r = .ret (.str ss.flatten) ∧ Gr H K) := by
  refine fn_go k22 rfl ?_
  intro Q hQ
  simp [c22]
  refine loop_keep (n := c.length) (I22 cv ss c.length H) ?_ ⟨0, H, by simp, .refl _, by simp, rfl⟩
  rintro m τ S ⟨i, M, hm, g, rfl, rfl⟩
  have hM := h.fr (K := M) ⟨g.len, fun r hr => g.old r (getH_isSome.2 hr)⟩
  by_cases hlt : i < c.length
  · obtain ⟨x, hx⟩ : ∃ x, c[i]? = some x := ⟨_, List.getElem?_eq_getElem hlt⟩
    obtain ⟨s, hsi⟩ : ∃ s, ss[i]? = some s := ⟨_, List.getElem?_eq_getElem (by omega)⟩
    obtain ⟨d, t, hst, h45, h46⟩ := hln i x s hx hsi
    have htk : (ss.take (i + 1)).flatten = (ss.take i).flatten ++ s := by rw [List.take_add_one, hsi]; simp
    rcases id hM with ⟨e, -⟩ | ⟨q, -, rfl, hq⟩
    · rw [e] at hlt; simp at hlt
    have hsg := flat_seg hx
    have hfl := Ins.flat_len c
    have hav : x.av = .agg x.cells := rfl
    simp only [hav, Ins.cells] at h46
    generalize c.flatMap Ins.cells = L at hsg hfl hq
    simp [hlt]
    simp [c22_1, hlt, hq, hsg, Ins.cells, show i * 7 + 7 ≤ L.length by omega]
    refine (h45 M).mono ?_
    rintro r K ⟨rfl, rfl⟩
    have hfl2 : (ss.take i).flatten.length + s.length ≤ 2 ^ 40 := by
      have h1 : ss.flatten = (ss.take (i + 1)).flatten ++ (ss.drop (i + 1)).flatten := by rw [← List.flatten_append, List.take_append_drop]
      have h2 := congrArg List.length h1
      rw [htk] at h2
      simp only [List.length_append] at h2
      omega
    rw [hst] at hfl2
    simp only [List.length_append, List.length_cons, List.length_nil] at hfl2
    have a1 : d.length + 1 ≤ 4611686018427387904 := by omega
    have a1' : d.length ≤ 4611686018427387903 := by omega
    simp [hlt, hq, hsg, Ins.cells, show i * 7 + 7 ≤ L.length by omega, a1, a1']
    refine (h46 _).mono ?_
    rintro r K2 ⟨rfl, g2⟩
    have a2 : d.length + 1 + t.length ≤ 4611686018427387904 := by omega
    have a2' : d.length + (t.length + 1) ≤ 4611686018427387904 := by omega
    have a3 : d.length + 1 + t.length + 1 ≤ 4611686018427387904 := by omega
    have a3' : d.length + (t.length + 1 + 1) ≤ 4611686018427387904 := by omega
    have a3'' : d.length + (t.length + 1) + 1 ≤ 4611686018427387904 := by omega
    simp only [List.length_flatten] at hfl2
    have a4 : (List.take i (List.map List.length ss)).sum + (d.length + (t.length + 1 + 1)) ≤ 4611686018427387904 := by
      rw [← List.map_take]
      omega
    simp [a2, a2', a3, a3', a3'', a4, wrap_s (n := (i : Int) + 1) (by omega)]
    exact ⟨m - 1, by omega, i + 1, K2, by omega, g.trans g2, by simp [htk, hst], rfl⟩
  · simp [hlt, okD_proper hM.pr, hM.len, c22_2]
    have : ss.take i = ss := List.take_of_length_le (by omega)
    rw [this]
    exact hQ _ _ ⟨rfl, g⟩
theorem awake_c : SCalls Tryz.prog 8 [] [] (fun r _ => r = .ret (.bool true)) := by
  have hT0 := fun M => Thread_c (H := M) P9_pw (i := 0) (by omega)
  have hT2 := fun M => Thread_c (H := M) P9_pw (i := 2) (by omega)
  have hP := fun M => Program_c (H := M) P9_pw
  refine fn_go k8 rfl ?_
  intro Q hQ
  obtain ⟨T9, htv⟩ : ∃ T9, P9.av = .agg [.nils, .nils, .nils, sl T9] := ⟨P9.threads.map Thr.av, rfl⟩
  rw [htv] at hT0 hT2 hP
  have hex := ex_c
  rw [htv] at hex
  unfold ex9 at hex
  simp [c8]
  refine hex.mono ?_
  rintro r K rfl
  simp
  refine (hT0 _).mono ?_
  rintro r K1 ⟨fr1, h1⟩
  rw [thr9_0] at h1
  simp only at h1
  obtain ⟨-, cv0, rfl, hcv0, -⟩ := h1
  obtain ⟨w1, w2, w3⟩ := hcv0.val
  simp [okD_proper hcv0.pr]
  refine (hP _).mono ?_
  rintro r K2 ⟨fr2, h2⟩
  obtain ⟨cs, cvs, l1, l2, hth, hcvs, rfl⟩ := h2.resolve_right fun h => by
    obtain ⟨⟨i, hi, hn⟩, -⟩ := h
    have : i = 0 ∨ i = 1 := by
      have : P9.threads.length = 2 := rfl
      omega
    rcases this with rfl | rfl
    · rw [show ((0 : Nat) : Int) = 0 from rfl, thr9_0] at hn; cases hn
    · rw [show ((1 : Nat) : Int) = 1 from rfl, thr9_1] at hn; cases hn
  have l2' : cvs.length = 2 := l2
  obtain ⟨a, b, rfl⟩ : ∃ a b, cvs = [a, b] := by
    rcases cvs with _ | ⟨a, _ | ⟨b, _ | _⟩⟩ <;> simp at l2'
    exact ⟨a, b, rfl⟩
  have hc1 : cs[1]? = some [⟨13, 0, 0, 0, 0, 0, 0⟩] := by
    rw [← hth 1 (by decide)]
    exact thr9_1
  obtain ⟨hb, -, -⟩ := hcvs 1 b _ rfl hc1
  obtain ⟨jb, rfl⟩ : ∃ j, b = .hs j 7 0 1 := by
    rcases hb with ⟨e, -⟩ | ⟨j, -, e, -⟩
    · cases e
    · exact ⟨j, e⟩
  simp
  refine (hT2 _).mono ?_
  rintro r K3 ⟨fr3, h3⟩
  rw [thr9_2] at h3
  simp only at h3
  subst h3
  have hcv3 := (hcv0.fr fr2).fr fr3
  have htx := text_c (ss := lines9) hcv3 rfl (by decide) (by decide) lines9_ok
  simp [okD_proper hcv0.pr, hcv0.pr, w3]
  refine htx.mono ?_
  rintro r K4 ⟨rfl, -⟩
  simp [lines9]
  exact hQ _ _ rfl
end Go.Ab

/- LowerTells, on the abstract machine. -/
namespace Go.Ab
open Go.Proofs

set_option maxRecDepth 100000
set_option maxHeartbeats 8000000
section
variable {H : List AObj}
/-- What both tell of a thread is the same. -/
def TwoP (P : Prg) (i : Int) (b : Bool) (c : List Ins) (v : AV) (K : List AObj) : Prop := b = (thR P i 4096).isSome ∧ c = (thR P i 4096).getD [] ∧ CV v c K ∧ c.length ≤ 4096
theorem two_1 {P : Prg} {i : Int} {r : AEnd} {K : List AObj} (h : ThP P i H r K) : FrN (lenH H) H K ∧ ∃ b c v, r = .ret (.tuple [v, .bool b]) ∧ TwoP P i b c v K := by
  obtain ⟨fr, h⟩ := h
  refine ⟨fr, ?_⟩
  cases hn : thR P i 4096 with
  | none => rw [hn] at h; exact ⟨false, [], .nils, h, by rw [hn]; rfl, by rw [hn]; rfl, .inl ⟨rfl, rfl⟩, by simp⟩
  | some c =>
    rw [hn] at h
    obtain ⟨hl, cv, h1, h2, -⟩ := h
    exact ⟨true, c, cv, h1, by rw [hn]; rfl, by rw [hn]; rfl, h2, hl⟩
def allTo (P : Prg) (k : Nat) : Bool := (List.range k).all fun j => (thR P j 4096).isSome
def I3 (P : Prg) (m : Nat) (τ : Env) (S : AS) : Prop :=
  ∃ (k : Nat) (M : List AObj), m + k = P.threads.length + 2 ∧ τ = [(4, .lref 4 0), (7, .bool (allTo P (min (k - 1) P.threads.length))), (8, .int .i64 ((k : Int) - 1))] ∧ S = ⟨[(4, P.cells)], M, []⟩
end
end Go.Ab

/- LowerAlone, on the abstract machine. -/
namespace Go.Ab
open Go.Proofs

set_option maxRecDepth 100000
set_option maxHeartbeats 8000000
theorem thr_fn (g : List Glob) (l : List Lok) (f : List Func) (t t' : List (List St)) (i : Int) (x : Func) : Func.sc ⟨g, l, f, t⟩ i x = Func.sc ⟨g, l, f, t'⟩ i x := by kernel_rfl
theorem thr_sc (g : List Glob) (l : List Lok) (f : List Func) (t t' : List (List St)) (F : Int) (V : List (List UInt8)) (x : List St) : St.scs ⟨g, l, f, t⟩ F V x = St.scs ⟨g, l, f, t'⟩ F V x := by kernel_rfl
theorem thr_lt (g : List Glob) (l : List Lok) (f : List Func) (t t' : List (List St)) (x : List St) : lthread ⟨g, l, f, t⟩ x = lthread ⟨g, l, f, t'⟩ x := by kernel_rfl
/-- A program whose threads are others. -/
def Prg.thr (P : Prg) (t : List (List St)) : Prg := ⟨P.globals, P.locks, P.funcs, t⟩
theorem PW.thr {P : Prg} (h : PW P) {t : List St} (ht : t ∈ P.threads) : PW (P.thr [[], t]) := by
  obtain ⟨g, l, f, th⟩ := P
  obtain ⟨⟨p1, p2, p3, p4, p5, p6, p7, p8, p9, p10⟩, nd, by', fn, hth⟩ := h
  refine ⟨⟨p1, p2, ?_, p4, p5, p6, by simp [Prg.thr], p8, p9, ?_⟩, nd, by', fun i x hx => ?_, ?_⟩
  · intro b hb
    simp [Prg.thr] at hb
    rcases hb with rfl | rfl
    · simp [St.oks]
    · exact p3 _ ht
  · have h1 : St.sizes t ≤ (th.map St.sizes).sum := sum_mem (List.mem_map.2 ⟨_, ht, rfl⟩)
    simp only [Prg.size] at p10 ⊢
    simp [Prg.thr, St.sizes]
    omega
  · have := fn i x hx
    rw [thr_fn g l f th [[], t]] at this
    exact this
  · intro b hb
    simp [Prg.thr] at hb
    rcases hb with rfl | rfl
    · simp [St.scs]
    · have := hth _ ht
      rw [thr_sc g l f th [[], b]] at this
      exact this
theorem thR_thr {P : Prg} {k : Nat} {t : List St} (ht : P.threads[k]? = some t) (L : Nat) : thR (P.thr [[], t]) 1 L = thR P k L := by
  obtain ⟨g, l, f, th⟩ := P
  have hk := (List.getElem?_eq_some_iff.1 ht).1
  simp only at ht hk
  unfold thR
  rw [if_pos ⟨by omega, by simp [Prg.thr]⟩, if_pos ⟨by omega, by simpa using hk⟩]
  simp only [Prg.thr, Int.toNat_natCast, ht, Option.getD_some]
  rw [thr_lt g l f [[], t] th]
  rfl
theorem thR_nil {P : Prg} {t : List St} : thR (P.thr [[], t]) 0 4096 = some [⟨13, 0, 0, 0, 0, 0, 0⟩] := by
  unfold thR
  rw [if_pos ⟨by omega, by simp [Prg.thr]⟩]
  rfl
theorem CV.lref {cv : AV} {c : List Ins} {H : List AObj} (h : CV cv c H) (m : Nat) : isLref m cv = false := by
  rcases h with ⟨-, e⟩ | ⟨i, -, e, -⟩ <;> rw [e] <;> rfl
theorem Alone_c {s : List UInt8} {n : Int} (hs : s.length ≤ 2 ^ 50) (hn : 0 ≤ n ∧ n ≤ 255) : SCalls Tryz.prog 6 [.str s, .int .u8 n] [] (fun r _ => r = .ret (.bool true)) := by
  refine fn_go k6 rfl ?_
  intro Q hQ
  simp [c6]
  refine awake_c.mono ?_
  rintro r K rfl
  simp [c6_2]
  refine (Text_c (s := s) (by omega)).mono ?_
  rintro r K ⟨P, e, a, rfl, fr, hpw, -⟩
  simp [Prg.av]
  by_cases h4 : (s.length : Int) ≤ 4000
  · have h4n : ¬ (4000 : Int) < s.length := by omega
    by_cases he : e = 0
    · subst he
      have hw := hpw rfl
      have hnt := hw.pv.nt
      by_cases ht0 : P.threads = []
      · simp [h4, h4n, ht0]
        exact hQ _ _ rfl
      · have hlen : 0 < P.threads.length := List.length_pos_iff.2 ht0
        have hne : ¬ P.threads.length = 0 := by omega
        obtain ⟨k, hk⟩ : ∃ k : Nat, n.tmod P.threads.length = k := by
          rw [Int.tmod_eq_emod_of_nonneg hn.1]
          exact ⟨(n % (P.threads.length : Int)).toNat, by have := Int.emod_nonneg n (show (P.threads.length : Int) ≠ 0 by omega); omega⟩
        have hkl : k < P.threads.length := by
          have := Int.tmod_lt_of_pos n (show (0 : Int) < P.threads.length by omega)
          omega
        obtain ⟨t, ht⟩ : ∃ t, P.threads[k]? = some t := ⟨_, List.getElem?_eq_getElem hkl⟩
        have hw2 := hw.thr (List.mem_of_getElem? ht)
        have h1 := fun M => Thread_c (H := M) hw (i := k) (by omega)
        have h2 := fun M => Thread_c (H := M) hw2 (i := 1) (by omega)
        have h3 := fun M => Thread_c (H := M) hw2 (i := 0) (by omega)
        have hav2 : (P.thr [[], t]).av = .agg [sl (P.globals.map Glob.av), sl (P.locks.map Lok.av), sl (P.funcs.map Func.av), .vs none [.nils, Thr.av t]] := rfl
        rw [hav2] at h2 h3
        simp only [Prg.av] at h1
        have hwr : IntKind.i64.wrap n = n := wrap_s (by omega)
        have htg : (P.threads.map Thr.av)[k]? = some (Thr.av t) := by simp [ht]
        have hne2 : ¬ (P.threads.map Thr.av) = [] := by simpa using ht0
        simp [h4, h4n, hne, c6_1, hwr, hk, ht0]
        refine (h1 _).mono ?_
        rintro r K1 hp1
        obtain ⟨fr1, b1, cc1, v1, rfl, p1, p2, p3, p4⟩ := two_1 hp1
        simp [okD_proper p3.pr, p3.lref, htg, Thr.av, roomA_eq, wid]
        have hfrM : FrN (lenH K1) K1 (addH (setH (addH (addH (addH K1 .tip) .tip) .tip) (lenH K1 + 1) .dead) .tip) :=
          (((FrN.add (Nat.le_refl _)).trans (FrN.add (by simp))).trans (FrN.add (by simp; omega))).trans ((FrN.set (by omega)).trans (FrN.add (by simp; omega)))
        generalize addH (setH (addH (addH (addH K1 .tip) .tip) .tip) (lenH K1 + 1) .dead) .tip = M at hfrM
        have h2' := h2 M
        simp only [Thr.av] at h2' h3
        refine h2'.mono ?_
        rintro r K2 hp2
        obtain ⟨fr2, b2, cc2, v2, rfl, q1, q2, q3, q4⟩ := two_1 hp2
        have hth := thR_thr ht 4096
        rw [hth, ← p1] at q1
        rw [hth, ← p2] at q2
        subst q1 q2
        simp [okD_proper q3.pr]
        refine (h3 _).mono ?_
        rintro r K3 ⟨fr3, hr3⟩
        rw [thR_nil] at hr3
        simp only at hr3
        obtain ⟨-, cv3, rfl, hc3, -⟩ := hr3
        obtain ⟨j3, rfl, hj3⟩ : ∃ j, cv3 = .hs j 7 0 1 ∧ getH K3 j = some (.cells ([⟨13, 0, 0, 0, 0, 0, 0⟩].flatMap Ins.cells)) := by
          rcases hc3 with ⟨e, -⟩ | ⟨j, -, e, hj⟩
          · cases e
          · exact ⟨j, e, hj⟩
        have p3' := ((p3.fr hfrM).fr fr2).fr fr3
        have q3' := q3.fr fr3
        simp [okD_proper p3.pr, okD_proper q3.pr, p3.pr, q3.pr, p3.val.2.2, q3.val.2.2]
        refine (Same_c p3' q3' (by omega)).mono ?_
        rintro r K4 ⟨rfl, rfl⟩
        simp [hj3, Ins.cells]
        exact hQ _ _ rfl
    · simp [h4, h4n, he]
      exact hQ _ _ rfl
  · have h4p : (4000 : Int) < s.length := by omega
    simp [h4, h4p]
    exact hQ _ _ rfl
end Go.Ab
