/- What the functions come to (part 11). No conditions. -/
import Derived.Test.YtlncafbialfojaaGreatLtT3
set_option linter.unusedVariables false
set_option linter.unusedSimpArgs false
/- The reference for the instructions (palingref13): its own state on the heap, and its small functions. -/
namespace Go.Ab
open Go.Proofs

set_option maxRecDepth 100000
set_option maxHeartbeats 8000000
attribute [local simp] c118_1
/-- The cells of the reference's own state. -/
def Rcells (P : Prg) (pi : Nat) (cv : AV) (rr : Int) (lv : AV) (fl : Bool) : List AV :=
  [sl (P.globals.map Glob.av), sl (P.locks.map Lok.av), sl (P.funcs.map Func.av), sl (P.threads.map Thr.av), .int .i64 0, .nils, .hs pi 4 0 P.globals.length, cv, .int .i64 rr, lv, .bool fl]
/-- The reference's own state on the heap. -/
structure Rw (o pi : Nat) (P : Prg) (c : List Ins) (rr : Int) (fl : Bool) (lv cv : AV) (H : List AObj) : Prop where
  ho : getH H o = some (.cells (Rcells P pi cv rr lv fl))
  hc : CV cv c H
  hp : getH H pi = some (.cells (P.plcs.flatMap Plc.cells))
  ne : pi ≠ o
  ni : pi ∉ hid cv
  lo : lv.okv = true ∧ lv.cells = [lv] ∧ lv.proper = true
  cl : c.length ≤ 4097
/-- The same, of a state, or of too much. -/
def Rq (e o pi : Nat) (P : Prg) (st : Option LS) (lv cv : AV) (H : List AObj) : Prop :=
  ∃ (c : List Ins) (rr : Int), Rw o pi P c rr st.isNone lv cv H ∧ match st with
    | some s => c = s.c ∧ rr = s.r ∧ s.r ≤ s.c.length + e
    | none => c.length = 4097
/-- What a step comes to. -/
def Rep {α : Type} (st : Option LS) (m : LM α) (x : α) (st' : Option LS) : Prop := match st.bind (m 4097) with
  | some (y, s') => x = y ∧ st' = some s'
  | none => st' = none
theorem Rep.ret {α : Type} (st : Option LS) (x : α) : Rep st (LM.ret x) x st := by
  cases st with
  | none => exact rfl
  | some s => exact ⟨rfl, rfl⟩
theorem Rep.none {α : Type} (m : LM α) (x : α) : Rep none m x none := rfl
theorem Rep.bind {α β : Type} {st st' st'' : Option LS} {m : LM α} {f : α → LM β} {x : α} {y : β} (h : Rep st m x st') (h' : Rep st' (f x) y st'') : Rep st (m.bind f) y st'' := by
  cases st with
  | none =>
    have : st' = Option.none := h
    subst this
    exact h'
  | some s =>
    simp only [Rep, Option.bind_some] at h ⊢
    cases hm : m 4097 s with
    | none =>
      rw [hm] at h
      simp only at h
      subst h
      rw [LM.bind_none hm]
      exact h'
    | some p =>
      obtain ⟨x1, s1⟩ := p
      rw [hm] at h
      simp only at h
      obtain ⟨rfl, rfl⟩ := h
      rw [LM.bind_some hm]
      exact h'
theorem Rep.some {α : Type} {st st' : Option LS} {m : LM α} {x : α} {s' : LS} (h : Rep st m x st') (h' : st' = some s') : ∃ s, st = some s ∧ m 4097 s = some (x, s') := by
  subst h'
  cases st with
  | none => cases (show _ = Option.none from h)
  | some s =>
    refine ⟨s, rfl, ?_⟩
    simp only [Rep, Option.bind_some] at h
    cases hm : m 4097 s with
    | none => rw [hm] at h; cases h
    | some p =>
      obtain ⟨x1, s1⟩ := p
      rw [hm] at h
      simp only [Option.some.injEq] at h
      obtain ⟨rfl, rfl⟩ := h
      rfl
theorem Rep.of {α : Type} {s s' : LS} {m : LM α} {x : α} (h : m 4097 s = Option.some (x, s')) : Rep (Option.some s) m x (Option.some s') := by
  unfold Rep
  rw [Option.bind_some, h]
  exact ⟨rfl, rfl⟩
theorem Rep.of_none {α : Type} {s : LS} {m : LM α} {x : α} (h : m 4097 s = Option.none) : Rep (Option.some s) m x Option.none := by
  unfold Rep
  rw [Option.bind_some, h]
/-- What a function of the reference comes to, where the locals stay. -/
def RP {α : Type} (o pi : Nat) (P : Prg) (lv cv : AV) (st : Option LS) (H : List AObj) (m : LM α) (val : α → AV → Prop) : AEnd → List AObj → Prop := fun r K =>
  ∃ (v : AV) (x : α) (st' : Option LS) (cv' : AV), r = .ret v ∧ val x v ∧ Rq 0 o pi P st' lv cv' K ∧ Kp o cv H cv' K ∧ Rep st m x st'
def isI : Int → AV → Prop := fun x v => v = .int .i64 x
def isU : Unit → AV → Prop := fun _ v => v = .tuple []
section
variable {o pi : Nat} {P : Prg} {c : List Ins} {rr : Int} {fl : Bool} {lv cv : AV} {H K : List AObj} {st : Option LS} {s : LS}
theorem Rw.cvv (h : Rw o pi P c rr fl lv cv H) : cv.okv = true ∧ cv.cells = [cv] := by
  rcases h.hc with ⟨-, e⟩ | ⟨i, -, e, -⟩ <;> rw [e] <;> simp
theorem Rw.io (h : Rw o pi P c rr fl lv cv H) {i : Nat} (hne : c ≠ []) (hi : getH H i = some (.cells (c.flatMap Ins.cells))) : o ≠ i := fun e => by
  subst e
  have ho := h.ho
  rw [hi] at ho
  cases hcc : c with
  | nil => exact hne hcc
  | cons z zs =>
    rw [hcc] at ho
    simp only [Option.some.injEq, AObj.cells.injEq, List.flatMap_cons] at ho
    have h3 := congrArg (fun l => l[5]?) ho
    simp [Ins.cells, Rcells] at h3
/-- Another object is left, and the own state is stored anew. -/
theorem Rw.re (h : Rw o pi P c rr fl lv cv H) {rr' : Int} {fl' : Bool} {lv' : AV} (hl : lv'.okv = true ∧ lv'.cells = [lv'] ∧ lv'.proper = true) : Rw o pi P c rr' fl' lv' cv (setH H o (.cells (Rcells P pi cv rr' lv' fl'))) ∧ Kp o cv H cv (setH H o (.cells (Rcells P pi cv rr' lv' fl'))) := by
  generalize hK : setH H o _ = K
  have hk : ∀ r, r ≠ o → getH K r = getH H r := fun r hne => by rw [← hK, getH_set_ne (Ne.symm hne)]
  have hKl : lenH K = lenH H := by rw [← hK]; simp
  refine ⟨⟨by rw [← hK]; exact getH_set_self (by simp [h.ho]), ?_, by rw [hk _ h.ne, h.hp], h.ne, h.ni, hl, h.cl⟩, by omega, fun r _ hne _ => hk r hne, fun i hi => .inl hi⟩
  rcases h.hc with hc | ⟨i, hne, e, hi⟩
  · exact .inl hc
  · exact .inr ⟨i, hne, e, by rw [hk _ (h.io hne hi).symm, hi]⟩
theorem Rw.gr (h : Rw o pi P c rr fl lv cv H) (g : Gr H K) : Rw o pi P c rr fl lv cv K ∧ Kp o cv H cv K := by
  have hk : ∀ r x, getH H r = some x → getH K r = some x := fun r x hr => by rw [g.old r (by simp [hr]), hr]
  refine ⟨⟨hk _ _ h.ho, ?_, hk _ _ h.hp, h.ne, h.ni, h.lo, h.cl⟩, g.len, fun r hr _ _ => g.old r (getH_isSome.2 hr), fun i hi => .inl hi⟩
  rcases h.hc with hc | ⟨i, hne, e, hi⟩
  · exact .inl hc
  · exact .inr ⟨i, hne, e, hk _ _ hi⟩
theorem Rq.gr (h : Rq 0 o pi P st lv cv H) (g : Gr H K) : Rq 0 o pi P st lv cv K ∧ Kp o cv H cv K := by
  obtain ⟨c, rr, h1, h2⟩ := h
  exact ⟨⟨c, rr, (h1.gr g).1, h2⟩, (h1.gr g).2⟩
/-- Some cells that the own state does not hold stay. -/
theorem Rw.one (h : Rw o pi P c rr fl lv cv H) {r : Nat} {x : AV} (hr : getH H r = some (.cells [x])) : r ≠ o ∧ r ∉ hid cv := by
  refine ⟨fun e => ?_, fun hm => ?_⟩
  · subst e
    rw [h.ho] at hr
    simp [Rcells] at hr
  · rcases h.hc with ⟨-, e⟩ | ⟨i, hne, e, hi⟩
    · rw [e] at hm; simp [hid] at hm
    · rw [e] at hm
      simp [hid] at hm
      subst hm
      rw [hi] at hr
      simp at hr
      have hl := congrArg List.length hr
      rw [Ins.flat_len] at hl
      cases hcc : c with
      | nil => exact hne hcc
      | cons y ys => rw [hcc] at hl; simp at hl; omega
theorem put_w {y : Ins} (h : Rw o pi P c rr fl lv cv H) : SCalls Tryz.prog 32 [.ptr o 0, y.av] H (fun r K => r = .ret (.tuple []) ∧ ∃ cv', Kp o cv H cv' K ∧
    (c.length ≤ 4096 ∧ Rw o pi P (c ++ [y]) rr fl lv cv' K ∨ ¬ c.length ≤ 4096 ∧ Rw o pi P c rr true lv cv' K)) := by
  have ho := h.ho
  have hcl := h.cl
  have hpi := h.hp
  have hne0 := h.ne
  have holt := getH_lt (H := H) (i := o) (by simp [ho])
  have hplt := getH_lt (H := H) (i := pi) (by simp [hpi])
  obtain ⟨vc, wc⟩ := h.cvv
  obtain ⟨vl, wl, pl⟩ := h.lo
  unfold Rcells at ho
  refine fn_go k32 rfl ?_
  intro Q hQ
  rcases h.hc with ⟨hs0, hcv⟩ | ⟨i, hne, hcv, hci⟩
  · have hl : c.length ≤ 4096 := by rw [hs0]; decide
    have e1 : lenH H + 1 ≠ o := by omega
    simp [c32, ho, hcv, c32_1, Ins.av, Ins.cells, roomA_eq, e1]
    generalize hKd : setH _ o _ = K
    have hyc : [AV.int .i64 y.kind, .int .i64 y.op, .int .i64 y.d, .int .i64 y.a, .int .i64 y.b, .int .i64 y.n, .int .i64 y.to] = y.cells := rfl
    rw [hyc] at hKd
    have hKo : getH K o = some (.cells (Rcells P pi (.hs (lenH H + 1) 7 0 1) rr lv fl)) := by
      rw [← hKd]; simp (maxDischargeDepth := 9) [e1, ho, Rcells]
    have hKi : getH K (lenH H + 1) = some (.cells y.cells) := by
      rw [← hKd, getH_set_ne (by omega)]
      exact getH_add_at (by simp)
    have hKk : ∀ r, r < lenH H → r ≠ o → getH K r = getH H r := fun r hr hne => by
      have hs : (getH H r).isSome = true := getH_isSome.2 hr
      have e2 : lenH H + 1 ≠ r := by omega
      rw [← hKd, getH_set_ne (Ne.symm hne)]
      simp (maxDischargeDepth := 9) [e2, hs]
    have hKl : lenH H ≤ lenH K := by rw [← hKd]; simp; omega
    exact hQ _ _ ⟨rfl, .hs (lenH H + 1) 7 0 1, ⟨hKl, fun r hr hne _ => hKk r hr hne, fun i hi => .inr (by simp [hid] at hi; omega)⟩,
      .inl ⟨hl, hKo, .inr ⟨lenH H + 1, by simp, by simp [hs0], by rw [hs0, hKi]; simp⟩, by rw [hKk pi hplt hne0, hpi], hne0, by simp [hid]; omega, ⟨vl, wl, pl⟩, by simp; omega⟩⟩
  · have hil := getH_lt (H := H) (i := i) (by simp [hci])
    have e3 : o ≠ i := h.io hne hci
    have hpi2 : pi ≠ i := fun e => h.ni (by rw [hcv]; simp [hid, e])
    have hLl := Ins.flat_len c
    have hLe : (c ++ [y]).flatMap Ins.cells = c.flatMap Ins.cells ++ y.cells := by simp
    have hci' := hci
    generalize c.flatMap Ins.cells = L at hci hLl hLe
    by_cases hl : c.length ≤ 4096
    · have hl2 : ¬ (4096 : Int) < c.length := by omega
      have hl3 : ¬ 4096 < c.length := by omega
      have e1 : lenH H + 1 ≠ o := by omega
      have e2 : lenH H + 1 ≠ i := by omega
      have e5 : (c.length + 1) * 56 ≤ 35184372088832 := by omega
      have e6 : L.take (c.length * 7) = L := List.take_of_length_le (by omega)
      have e7 : c.length * 7 ≤ L.length := by omega
      simp (maxDischargeDepth := 9) [c32, ho, hcv, c32_1, Ins.av, Ins.cells, hci, hl2, hl3, roomA_eq, e1, e2, e3, e3.symm, e5, e6, e7]
      generalize hKd : setH _ o _ = K
      have hyc : [AV.int .i64 y.kind, .int .i64 y.op, .int .i64 y.d, .int .i64 y.a, .int .i64 y.b, .int .i64 y.n, .int .i64 y.to] = y.cells := rfl
      rw [hyc] at hKd
      have hKo : getH K o = some (.cells (Rcells P pi (.hs (lenH H + 1) 7 0 (c.length + 1)) rr lv fl)) := by
        rw [← hKd]; simp (maxDischargeDepth := 9) [e1, e3, e3.symm, ho, Rcells]
      have hKi : getH K (lenH H + 1) = some (.cells (L ++ y.cells)) := by
        rw [← hKd, getH_set_ne (by omega)]
        exact getH_add_at (by simp)
      have hKk : ∀ r, r < lenH H → r ≠ o → r ≠ i → getH K r = getH H r := fun r hr hne hne2 => by
        have hs : (getH H r).isSome = true := getH_isSome.2 hr
        have e2 : lenH H + 1 ≠ r := by omega
        rw [← hKd, getH_set_ne (Ne.symm hne)]
        simp (maxDischargeDepth := 9) [e2, hs, Ne.symm hne2]
      have hKl : lenH H ≤ lenH K := by rw [← hKd]; simp; omega
      exact hQ _ _ ⟨rfl, .hs (lenH H + 1) 7 0 (c.length + 1), ⟨hKl, fun r hr hne hne2 => hKk r hr hne (fun e => hne2 (by rw [hcv]; simp [hid, e])), fun i hi => .inr (by simp [hid] at hi; omega)⟩,
        .inl ⟨hl, hKo, .inr ⟨lenH H + 1, by simp, by simp, by rw [hKi, hLe]⟩, by rw [hKk pi hplt hne0 hpi2, hpi], hne0, by simp [hid]; omega, ⟨vl, wl, pl⟩, by simp; omega⟩⟩
    · have hl2 : (4096 : Int) < c.length := by omega
      have hl3 : 4096 < c.length := by omega
      obtain ⟨q1, q2⟩ := h.re (rr' := rr) (fl' := true) h.lo
      simp [c32, ho, hcv, hl2, hl3, Ins.av, Ins.cells]
      refine hQ _ _ ⟨rfl, cv, ?_, .inr ⟨hl, ?_⟩⟩
      · simpa [Rcells, hcv] using q2
      · simpa [Rcells, hcv] using q1
theorem rput {e : Nat} {y : Ins} (he : e ≤ 1) (h : Rq e o pi P st lv cv H) : SCalls Tryz.prog 32 [.ptr o 0, y.av] H (RP o pi P lv cv st H (lput y) isU) := by
  obtain ⟨c, rr, hw, hs⟩ := h
  refine (put_w hw).mono ?_
  rintro r K ⟨rfl, cv', kp, (⟨hl, h'⟩ | ⟨hl, h'⟩)⟩
  · cases st with
    | none => simp at hs; omega
    | some s =>
      obtain ⟨rfl, rfl, hr⟩ := hs
      exact ⟨_, (), some ⟨s.c ++ [y], s.r⟩, cv', rfl, rfl, ⟨_, _, h', rfl, rfl, by simp; omega⟩, kp, Rep.of (by simp [lput]; omega)⟩
  · refine ⟨_, (), none, cv', rfl, rfl, ⟨c, rr, h', by have := hw.cl; show c.length = 4097; omega⟩, kp, ?_⟩
    cases st with
    | none => rfl
    | some s =>
      obtain ⟨rfl, rfl, hr⟩ := hs
      exact Rep.of_none (by simp [lput]; omega)
theorem fresh_r (h : Rq 0 o pi P st lv cv H) : SCalls Tryz.prog 145 [.ptr o 0] H (fun r K => ∃ (x : Int) (st' : Option LS), r = .ret (.int .i64 x) ∧ Rq 1 o pi P st' lv cv K ∧ Kp o cv H cv K ∧ Rep st lfresh x st') := by
  obtain ⟨c, rr, hw, hs⟩ := h
  have ho := hw.ho
  obtain ⟨vc, wc⟩ := hw.cvv
  obtain ⟨vl, wl, pl⟩ := hw.lo
  obtain ⟨q1, q2⟩ := hw.re (rr' := IntKind.i64.wrap (rr + 1)) (fl' := st.isNone) hw.lo
  unfold Rcells at ho q1 q2
  refine fn_go k145 rfl ?_
  intro Q hQ
  simp [c145, ho, vc, wc, vl, wl]
  have hcl := hw.cl
  cases st with
  | none => exact hQ _ _ ⟨_, none, rfl, ⟨c, _, by simpa using q1, hs⟩, by simpa using q2, rfl⟩
  | some s =>
    obtain ⟨rfl, rfl, hr⟩ := hs
    have e1 : IntKind.i64.wrap ((s.r : Int) + 1) = (s.r : Int) + 1 := wrap_s (by omega)
    have e2 : IntKind.i64.wrap ((s.r : Int)) = (s.r : Int) := wrap_s (by omega)
    rw [e1] at q1 q2
    simp [e1, e2]
    exact hQ _ _ ⟨_, some ⟨s.c, s.r + 1⟩, rfl, ⟨s.c, _, by simpa using q1, rfl, by simp, by simp; omega⟩, by simpa using q2, Rep.of rfl⟩
theorem Rep.into {st st1 st2 : Option LS} {f : Int → Ins} {x : Int} {u : Unit} (r1 : Rep st lfresh x st1) (r2 : Rep st1 (lput (f x)) u st2) : Rep st (linto f) x st2 :=
  Rep.bind (f := fun k => (lput (f k)).bind fun _ => LM.ret k) r1 (Rep.bind (f := fun _ => LM.ret x) r2 (Rep.ret _ _))
theorem set_r (h : Rq 0 o pi P st lv cv H) {k : Int} : SCalls Tryz.prog 146 [.ptr o 0, .int .i64 k] H (RP o pi P lv cv st H (lset k) isI) := by
  refine fn_go k146 rfl ?_
  intro Q hQ
  simp [c146]
  refine (fresh_r h).mono ?_
  rintro r K ⟨x, st1, rfl, h1, kp1, r1⟩
  simp
  refine (rput (y := ⟨0, 0, x, 0, 0, k, 0⟩) (Nat.le_refl _) h1).mono ?_
  rintro r K2 ⟨v2, x2, st2, cv2, rfl, rfl, h2, kp2, r2⟩
  simp
  exact hQ _ _ ⟨_, _, _, _, rfl, rfl, h2, kp1.trans kp2, Rep.into r1 r2⟩
theorem move_r (h : Rq 0 o pi P st lv cv H) {k : Int} : SCalls Tryz.prog 116 [.ptr o 0, .int .i64 k] H (RP o pi P lv cv st H (lmove k) isI) := by
  refine fn_go k116 rfl ?_
  intro Q hQ
  simp [c116]
  refine (fresh_r h).mono ?_
  rintro r K ⟨x, st1, rfl, h1, kp1, r1⟩
  simp
  refine (rput (y := ⟨1, 0, x, k, 0, 0, 0⟩) (Nat.le_refl _) h1).mono ?_
  rintro r K2 ⟨v2, x2, st2, cv2, rfl, rfl, h2, kp2, r2⟩
  simp
  exact hQ _ _ ⟨_, _, _, _, rfl, rfl, h2, kp1.trans kp2, Rep.into r1 r2⟩
theorem load_r (h : Rq 0 o pi P st lv cv H) {a b : Int} : SCalls Tryz.prog 147 [.ptr o 0, .int .i64 a, .int .i64 b] H (RP o pi P lv cv st H (lload a b) isI) := by
  refine fn_go k147 rfl ?_
  intro Q hQ
  simp [c147]
  refine (fresh_r h).mono ?_
  rintro r K ⟨x, st1, rfl, h1, kp1, r1⟩
  simp
  refine (rput (y := ⟨4, 0, x, a, 0, b, 0⟩) (Nat.le_refl _) h1).mono ?_
  rintro r K2 ⟨v2, x2, st2, cv2, rfl, rfl, h2, kp2, r2⟩
  simp
  exact hQ _ _ ⟨_, _, _, _, rfl, rfl, h2, kp1.trans kp2, Rep.into r1 r2⟩
theorem calc_r (h : Rq 0 o pi P st lv cv H) {op a b : Int} : SCalls Tryz.prog 151 [.ptr o 0, .int .i64 op, .int .i64 a, .int .i64 b] H (RP o pi P lv cv st H (lcalc op a b) isI) := by
  refine fn_go k151 rfl ?_
  intro Q hQ
  simp [c151]
  refine (fresh_r h).mono ?_
  rintro r K ⟨x, st1, rfl, h1, kp1, r1⟩
  simp
  refine (rput (y := ⟨2, op, x, a, b, 0, 0⟩) (Nat.le_refl _) h1).mono ?_
  rintro r K2 ⟨v2, x2, st2, cv2, rfl, rfl, h2, kp2, r2⟩
  simp
  exact hQ _ _ ⟨_, _, _, _, rfl, rfl, h2, kp1.trans kp2, Rep.into r1 r2⟩
theorem below_r (h : Rq 0 o pi P st lv cv H) {t k : Int} : SCalls Tryz.prog 153 [.ptr o 0, .int .i64 t, .int .i64 k] H (RP o pi P lv cv st H (lbelow t k) isI) := by
  refine fn_go k153 rfl ?_
  intro Q hQ
  simp [c153]
  refine (set_r h).mono ?_
  rintro r K ⟨v1, x1, st1, cv1, rfl, rfl, h1, kp1, r1⟩
  simp
  refine (calc_r h1).mono ?_
  rintro r K2 ⟨v2, x2, st2, cv2, rfl, rfl, h2, kp2, r2⟩
  simp
  exact hQ _ _ ⟨_, _, _, _, rfl, rfl, h2, kp1.trans kp2, r1.bind r2⟩
theorem look_r (h : Rq 0 o pi P st lv cv H) {t k : Int} : SCalls Tryz.prog 149 [.ptr o 0, .int .i64 t, .int .i64 k] H (RP o pi P lv cv st H (llook t k) isU) := by
  refine fn_go k149 rfl ?_
  intro Q hQ
  simp [c149]
  refine (below_r h).mono ?_
  rintro r K ⟨v1, x1, st1, cv1, rfl, rfl, h1, kp1, r1⟩
  simp
  refine (rput (y := ⟨7, 0, 0, x1, 0, 0, -2⟩) (Nat.zero_le _) h1).mono ?_
  rintro r K2 ⟨v2, x2, st2, cv2, rfl, rfl, h2, kp2, r2⟩
  simp
  exact hQ _ _ ⟨_, _, _, _, rfl, rfl, h2, kp1.trans kp2, r1.bind r2⟩
theorem masked_r (h : Rq 0 o pi P st lv cv H) {t k : Int} (hk : -2 ^ 59 ≤ k ∧ k ≤ 2 ^ 59) : SCalls Tryz.prog 150 [.ptr o 0, .int .i64 t, .int .i64 k] H (RP o pi P lv cv st H (lmasked t k) isI) := by
  refine fn_go k150 rfl ?_
  intro Q hQ
  simp [c150, wrap_s (n := k - 1) (by omega)]
  refine (set_r h).mono ?_
  rintro r K ⟨v1, x1, st1, cv1, rfl, rfl, h1, kp1, r1⟩
  simp
  refine (calc_r h1).mono ?_
  rintro r K2 ⟨v2, x2, st2, cv2, rfl, rfl, h2, kp2, r2⟩
  simp
  exact hQ _ _ ⟨_, _, _, _, rfl, rfl, h2, kp1.trans kp2, r1.bind r2⟩
theorem pow2_even : ∀ k : Fin 65, 1 ≤ k.val → k.val % 2 = 0 → pow2 ((k.val / 2 : Nat) : Int) = pow2 k.val := by decide +kernel
theorem pow2_odd : ∀ k : Fin 65, 1 ≤ k.val → k.val % 2 = 1 → (((k.val : Nat) : Int) == 1) = pow2 k.val := by decide +kernel
def I148 (k : Int) (H : List AObj) (m : Nat) (τ : Env) (S : AS) : Prop := 1 ≤ m ∧ m ≤ 64 ∧ pow2 (m : Int) = pow2 k ∧ τ = [(0, .int .i64 m)] ∧ S = ⟨[], H, []⟩
theorem power_r {k : Int} (h1 : 1 ≤ k) (h2 : k ≤ 64) : SCalls Tryz.prog 148 [.int .i64 k] H (fun r K => r = .ret (.bool (pow2 k)) ∧ K = H) := by
  refine fn_go k148 rfl ?_
  intro Q hQ
  have hk : ((k.toNat : Nat) : Int) = k := by omega
  simp [c148]
  refine loop_keep (n := k.toNat) (I148 k H) ?_ ⟨by omega, by omega, by rw [hk], by simp [hk], rfl⟩
  rintro m τ S ⟨m1, m2, hp, rfl, rfl⟩
  have ht : (m : Int).tmod 2 = (m : Int) % 2 := Int.tmod_eq_emod_of_nonneg (by omega)
  have hd : (m : Int).tdiv 2 = (m : Int) / 2 := Int.tdiv_eq_ediv_of_nonneg (by omega)
  by_cases he : m % 2 = 0
  · have e1 : (m : Int) % 2 = 0 := by omega
    have e2 : (m : Int) / 2 = (m / 2 : Nat) := by omega
    have hp2 := pow2_even ⟨m, by omega⟩ m1 he
    simp only at hp2
    have e3 : ((m / 2 : Nat) : Int) = (m : Int) / 2 := by omega
    simp [c148_1, e1, ht, hd]
    rw [show IntKind.i64.wrap ((m : Int) / 2) = ((m / 2 : Nat) : Int) from by rw [← e3]; exact wrap_s (by omega)]
    refine ⟨m / 2, by omega, by omega, by omega, by rw [hp2, hp], rfl, rfl⟩
  · have e1 : ¬ (m : Int) % 2 = 0 := by omega
    have hp2 := pow2_odd ⟨m, by omega⟩ m1 (show m % 2 = 1 by omega)
    simp only at hp2
    simp [c148_2, e1, ht]
    exact hQ _ _ ⟨by rw [hp2, hp], rfl⟩
theorem _root_.Go.Ab.Prg.gidx_lt (P : Prg) (s : List UInt8) : P.gidx s < P.globals.length := by
  rcases fidx_cases (P.globals.map Glob.name) s with ⟨i, h1, h2, h3⟩ | ⟨h1, -⟩
  · have hi : P.gidx s = i := h1
    have hlt := (List.getElem?_eq_some_iff.1 h2).1
    simp at hlt
    omega
  · have : P.gidx s = -1 := h1
    omega
/-- Where a global stands. -/
theorem place_r (hv : PV P) (h : Rq 0 o pi P st lv cv H) {nm : List UInt8} (hg : 0 ≤ P.gidx nm) : SCalls Tryz.prog 120 [.ptr o 0, .str nm] H (fun r K => r = .ret (P.pl nm).av ∧ K = H) := by
  obtain ⟨c, rr, hw, hs⟩ := h
  have ho := hw.ho
  obtain ⟨vc, wc⟩ := hw.cvv
  obtain ⟨vl, wl, pl⟩ := hw.lo
  unfold Rcells at ho
  have hok : Sc.Ok ⟨P, 0, []⟩ := ⟨hv, by simp, by simp, by simp⟩
  have hgl := glob_c (σ := ⟨P, 0, []⟩) (s := nm) (H := H) hok
  simp only [Sc.av, Sc.cells, List.map_nil, sl_nil] at hgl
  refine fn_go k120 rfl ?_
  intro Q hQ
  simp [c120, ho, vc, wc, vl, wl]
  refine hgl.mono ?_
  rintro r K ⟨rfl, rfl⟩
  have hgi : P.gidx nm < P.globals.length := P.gidx_lt nm
  have hplc := plcs_get (P := P) (j := (P.gidx nm).toNat) (by omega)
  have hpl : P.plc (P.gidx nm).toNat = P.pl nm := rfl
  rw [hpl] at hplc
  have hpi := hw.hp
  generalize (P.plcs.flatMap Plc.cells) = L at hplc hpi
  simp [ho, Glob.av, ixaA_hs, hg, hgi, hpi, hplc, Plc.cells]
  exact hQ _ _ ⟨rfl, rfl⟩
/-- A local on the heap. -/
def vav (p : List UInt8 × Int) : AV := .agg [.str p.1, .int .i64 p.2]
/-- The locals on the heap. -/
structure LvOk (V : LV) (lv : AV) : Prop where
  v : V = [] ∧ lv = .nils ∨ ∃ t, V ≠ [] ∧ lv = .vs t (V.map vav)
  p : ∀ q ∈ V, 0 ≤ q.2
def I118 (o : Nat) (V : LV) (nm : List UInt8) (H : List AObj) (m : Nat) (τ : Env) (S : AS) : Prop :=
  m ≤ V.length ∧ (lreg V nm = lreg (V.take m) nm) ∧ τ = [(0, .ptr o 0), (1, .str nm), (5, .int .i64 ((m : Int) - 1))] ∧ S = ⟨[], H, []⟩
theorem local_r (h : Rq 0 o pi P st lv cv H) {V : LV} (hl : LvOk V lv) (hb : V.length ≤ 2 ^ 30) {nm : List UInt8} : SCalls Tryz.prog 118 [.ptr o 0, .str nm] H (fun r K => K = H ∧ r = .ret (.int .i64 ((lreg V nm).getD (-1)))) := by
  obtain ⟨c, rr, hw, hs⟩ := h
  have ho := hw.ho
  obtain ⟨vc, wc⟩ := hw.cvv
  obtain ⟨vl, wl, pl⟩ := hw.lo
  unfold Rcells at ho
  refine fn_go k118 rfl ?_
  intro Q hQ
  have hlen : ∀ S : AS, lenA S .l lv = some V.length := by
    intro S
    rcases hl.v with ⟨rfl, rfl⟩ | ⟨t, h0, rfl⟩
    · rfl
    · simp [lenA]
  simp [c118, ho, vc, wc, vl, wl, okD_proper pl, hlen, wrap_s (n := (V.length : Int) - 1) (by omega)]
  refine loop_keep (n := V.length) (I118 o V nm H) ?_ ⟨Nat.le_refl _, by rw [List.take_length], rfl, rfl⟩
  rintro m τ S ⟨hm, hreg, rfl, rfl⟩
  by_cases h0 : m = 0
  · subst h0
    have hn : lreg V nm = none := by rw [hreg]; rfl
    rw [hn] at hQ
    simp [c118_3]
    exact hQ _ _ ⟨rfl, rfl⟩
  · have hne : V ≠ [] := fun e => by subst e; simp at hm; omega
    have hge : (0 : Int) ≤ (m : Int) - 1 := by omega
    have hge1 : 1 ≤ (m : Int) := by omega
    have hge2 : 1 ≤ m := by omega
    have hto : ((m : Int) - 1).toNat = m - 1 := by omega
    have hlt : m - 1 < V.length := by omega
    obtain ⟨q, hq⟩ : ∃ q, V[m - 1]? = some q := ⟨_, List.getElem?_eq_getElem hlt⟩
    have hgv : (V.map vav)[m - 1]? = some (vav q) := by rw [List.getElem?_map, hq]; rfl
    have htk : V.take m = V.take (m - 1) ++ [q] := by
      have : m = (m - 1) + 1 := by omega
      rw [this, List.take_add_one]
      simp [hq]
    have hrg : lreg V nm = if q.1 = nm then some q.2 else lreg (V.take (m - 1)) nm := by
      rw [hreg, htk]
      unfold lreg
      rw [List.reverse_append, List.reverse_singleton, List.singleton_append, List.find?_cons]
      by_cases e : q.1 = nm
      · simp [e]
      · have : (q.1 == nm) = false := by simp [e]
        simp [e, this]
    rcases hl.v with ⟨e, -⟩ | ⟨t, -, rfl⟩
    · exact absurd e hne
    by_cases e : q.1 = nm
    · rw [if_pos e] at hrg
      rw [hrg] at hQ
      simp [hge, hge1, hge2, c118_2, ho, hto, hgv, vav, e]
      exact hQ _ _ ⟨rfl, rfl⟩
    · rw [if_neg e] at hrg
      simp [hge, hge1, hge2, c118_2, ho, hto, hgv, vav, e, wrap_s (n := (m : Int) - 1 - 1) (by omega)]
      exact ⟨m - 1, by omega, by omega, hrg, by simp; omega, rfl⟩
theorem LvOk.reg {V : LV} {lv : AV} (h : LvOk V lv) {nm : List UInt8} {r : Int} (hr : lreg V nm = some r) : 0 ≤ r := by
  unfold lreg at hr
  cases hf : V.reverse.find? fun p => p.1 == nm with
  | none => rw [hf] at hr; cases hr
  | some q =>
    rw [hf] at hr
    cases hr
    exact h.p q (by simpa using List.mem_of_find?_eq_some hf)
end
end Go.Ab

/- The reference for the instructions (palingref13): expressions. -/
namespace Go.Ab
open Go.Proofs

set_option maxRecDepth 100000
set_option maxHeartbeats 8000000
attribute [local simp] c117_3 c117_5 c117_6 c117_7 c117_8
/-- What an expression of the reference comes to. -/
def ER (o pi : Nat) (P : Prg) (cl : List UInt8 → List Int → LM Int) (e : Ex) : Prop := ∀ {st : Option LS} {lv cv : AV} {H : List AObj} {V : LV}, Rq 0 o pi P st lv cv H → (st ≠ none → LvOk V lv ∧ V.length ≤ 2 ^ 30) → e.sc P (V.map Prod.fst) →
  SCalls Tryz.prog 117 [.ptr o 0, e.av] H (RP o pi P lv cv st H (lexpr P cl V e) isI)
def CR (o pi : Nat) (P : Prg) (cl : List UInt8 → List Int → LM Int) (e : Ex) : Prop := ∀ {st : Option LS} {lv cv : AV} {H : List AObj} {V : LV}, Rq 0 o pi P st lv cv H → (st ≠ none → LvOk V lv ∧ V.length ≤ 2 ^ 30) → e.sc P (V.map Prod.fst) → st ≠ none →
  SCalls Tryz.prog 152 [.ptr o 0, e.av] H (RP o pi P lv cv st H (lexpr P cl V e) isI)
section
variable {o pi : Nat} {P : Prg} {cl : List UInt8 → List Int → LM Int} {st : Option LS} {lv cv : AV} {V : LV} {H : List AObj}
theorem lx_0 {k o nn : Int} {nm : List UInt8} {a : Int} (h : k = 0 ∨ k = 1) : lexpr P cl V (.mk k o nn nm [] a) = lset nn := by
  funext L s
  simp [lexpr, lexprs, LM.bind, LM.ret, lfin, h]
theorem lx_2s {o nn : Int} {nm : List UInt8} {a r : Int} (h : lreg V nm = some r) : lexpr P cl V (.mk 2 o nn nm [] a) = LM.ret r := by
  funext L s
  simp [lexpr, lexprs, LM.bind, LM.ret, lfin, h]
theorem lx_2n {o nn : Int} {nm : List UInt8} {a : Int} (h : lreg V nm = none) : lexpr P cl V (.mk 2 o nn nm [] a) = lload (-1) (P.pl nm).base := by
  funext L s
  simp [lexpr, lexprs, LM.bind, LM.ret, lfin, h]
theorem lx_3 {oo nn a : Int} {nm : List UInt8} {x : Ex} : lexpr P cl V (.mk 3 oo nn nm [x] a) = (lexpr P cl V x).bind fun t => if pow2 (P.pl nm).len = true then (llook t (P.pl nm).len).bind fun _ => (lmasked t (P.pl nm).len).bind fun m => lload m (P.pl nm).base
      else (lmove t).bind fun u => (llook u (P.pl nm).len).bind fun _ => lload u (P.pl nm).base := by
  funext L s
  simp only [lexpr, lexprs, LM.bind, LM.ret]
  cases lexpr P cl V x L s with
  | none => rfl
  | some p => obtain ⟨t, s'⟩ := p; simp [lfin, LM.bind]
theorem lx_45 {k o nn : Int} {nm : List UInt8} {a : Int} {x : Ex} (h : k = 4 ∨ k = 5) : lexpr P cl V (.mk k o nn nm [x] a) = (lexpr P cl V x).bind fun a => (lset (k - 4)).bind fun z => lcalc 1 z a := by
  funext L s
  simp only [lexpr, lexprs, LM.bind, LM.ret]
  cases lexpr P cl V x L s with
  | none => rfl
  | some p => obtain ⟨t, s'⟩ := p; rcases h with rfl | rfl <;> simp [lfin, LM.bind]
theorem lx_6 {o nn : Int} {nm : List UInt8} {a : Int} {x y : Ex} : lexpr P cl V (.mk 6 o nn nm [x, y] a) = (lexpr P cl V x).bind fun a => (lexpr P cl V y).bind fun b =>
    if o = 3 ∨ o = 4 then (ltrap b 1).bind fun _ => lcalc o a b else lcalc o a b := by
  funext L s
  simp only [lexpr, lexprs, LM.bind, LM.ret]
  cases lexpr P cl V x L s with
  | none => rfl
  | some p =>
    obtain ⟨t, s'⟩ := p
    simp only
    cases lexpr P cl V y L s' with
    | none => rfl
    | some p => obtain ⟨t, s'⟩ := p; simp [lfin, LM.bind]
theorem exprr_step (hv : PV P) {e : Ex} (hok : e.ok) (hk : ∀ k oo nn nm ks a, e = .mk k oo nn nm ks a → (∀ x ∈ ks, ER o pi P cl x) ∧ (k = 7 → CR o pi P cl e)) : ER o pi P cl e := by
  intro st lv cv H V h hlv hsc
  obtain ⟨k, oo, nn, nm, ks, a⟩ := e
  obtain ⟨hkids, hcall⟩ := hk _ _ _ _ _ _ rfl
  have hcase := hok
  simp only [Ex.ok] at hcase
  obtain ⟨-, hcase⟩ := hcase
  have hsc' := hsc
  simp only [Ex.sc] at hsc'
  obtain ⟨hscs, hs2, hs3, hs6, hs7⟩ := hsc'
  obtain ⟨c, rr, hw, hs⟩ := id h
  have ho := hw.ho
  obtain ⟨vc, wc⟩ := hw.cvv
  obtain ⟨vl, wl, pl⟩ := hw.lo
  unfold Rcells at ho
  refine fn_go k117 rfl ?_
  intro Q hQ
  cases st with
  | none =>
    simp [c117, ho]
    exact hQ _ _ ⟨_, 0, none, cv, rfl, rfl, h, .refl _ _ _, rfl⟩
  | some s =>
  obtain ⟨hL, hVb⟩ := hlv (by simp)
  simp only [Option.isNone_some] at ho
  rcases hcase with ⟨h012, rfl⟩ | ⟨h345, hks⟩ | ⟨rfl, hks⟩ | rfl
  · rcases h012 with rfl | rfl | rfl
    · rw [lx_0 (.inl rfl)] at hQ
      simp [c117, ho, Ex.av]
      refine (set_r h).mono ?_
      rintro r K ⟨v1, x1, st1, cv1, rfl, rfl, h1, kp1, r1⟩
      simp
      exact hQ _ _ ⟨_, _, _, _, rfl, rfl, h1, kp1, r1⟩
    · rw [lx_0 (.inr rfl)] at hQ
      simp [c117, ho, Ex.av]
      refine (set_r h).mono ?_
      rintro r K ⟨v1, x1, st1, cv1, rfl, rfl, h1, kp1, r1⟩
      simp
      exact hQ _ _ ⟨_, _, _, _, rfl, rfl, h1, kp1, r1⟩
    · simp [c117, ho, Ex.av]
      refine (local_r h hL hVb).mono ?_
      rintro r K ⟨rfl, rfl⟩
      cases hl : lreg V nm with
      | some r0 =>
        rw [lx_2s hl] at hQ
        have h0 := hL.reg hl
        simp [h0]
        exact hQ _ _ ⟨_, _, _, _, rfl, rfl, h, .refl _ _ _, Rep.ret _ _⟩
      | none =>
        rw [lx_2n hl] at hQ
        have hg : 0 ≤ P.gidx nm := by
          rcases hs2 rfl with hs | hs
          · obtain ⟨r0, h0⟩ := lreg_some hs
            rw [hl] at h0; cases h0
          · exact hs.1
        simp [c117_1]
        refine (place_r hv h hg).mono ?_
        rintro r K ⟨rfl, rfl⟩
        simp [Plc.av, Plc.cells]
        refine (load_r h).mono ?_
        rintro r K ⟨v1, x1, st1, cv1, rfl, rfl, h1, kp1, r1⟩
        simp
        exact hQ _ _ ⟨_, _, _, _, rfl, rfl, h1, kp1, r1⟩
  · obtain ⟨x, rfl⟩ := List.length_eq_one_iff.1 hks
    have hkx : ER o pi P cl x := hkids x (by simp)
    have hx := fun {H} (h : Rq 0 o pi P (some s) lv cv H) => hkx h (fun _ => ⟨hL, hVb⟩) (by simpa [Ex.scs] using hscs)
    obtain ⟨xk, xo, xn, xs, xks, xa⟩ := x
    rcases h345 with rfl | h45
    · obtain ⟨hg, -⟩ := hs3 rfl
      obtain ⟨hpl1, hpl2⟩ := P.pl_len hv hg
      rw [lx_3] at hQ
      simp [c117, ho, Ex.av, Ex.avs]
      refine (place_r hv h hg).mono ?_
      rintro r K ⟨rfl, rfl⟩
      simp [Plc.av, Plc.cells]
      refine (hx h).mono ?_
      rintro r K1 ⟨v1, x1, st1, cv1, rfl, rfl, h1, kp1, r1⟩
      simp
      refine (power_r hpl1 hpl2).mono ?_
      rintro r K2 ⟨rfl, rfl⟩
      by_cases hp : pow2 (P.pl nm).len = true
      · simp only [hp, if_true] at hQ
        simp [hp]
        refine (look_r h1).mono ?_
        rintro r K2 ⟨v2, x2, st2, cv2, rfl, rfl, h2, kp2, r2⟩
        simp
        refine (masked_r h2 (by omega)).mono ?_
        rintro r K3 ⟨v3, x3, st3, cv3, rfl, rfl, h3, kp3, r3⟩
        simp
        refine (load_r h3).mono ?_
        rintro r K4 ⟨v4, x4, st4, cv4, rfl, rfl, h4, kp4, r4⟩
        simp
        exact hQ _ _ ⟨_, _, _, _, rfl, rfl, h4, ((kp1.trans kp2).trans kp3).trans kp4, r1.bind (r2.bind (r3.bind r4))⟩
      · simp only [hp, if_false] at hQ
        simp [hp, c117_2]
        refine (move_r h1).mono ?_
        rintro r K2 ⟨v2, x2, st2, cv2, rfl, rfl, h2, kp2, r2⟩
        simp
        refine (look_r h2).mono ?_
        rintro r K3 ⟨v3, x3, st3, cv3, rfl, rfl, h3, kp3, r3⟩
        simp
        refine (load_r h3).mono ?_
        rintro r K4 ⟨v4, x4, st4, cv4, rfl, rfl, h4, kp4, r4⟩
        simp
        exact hQ _ _ ⟨_, _, _, _, rfl, rfl, h4, ((kp1.trans kp2).trans kp3).trans kp4, r1.bind (r2.bind (r3.bind r4))⟩
    · rw [lx_45 h45] at hQ
      rcases h45 with rfl | rfl
      all_goals
        simp [c117, ho, Ex.av, Ex.avs]
        refine (hx h).mono ?_
        rintro r K1 ⟨v1, x1, st1, cv1, rfl, rfl, h1, kp1, r1⟩
        simp
        refine (set_r h1).mono ?_
        rintro r K2 ⟨v2, x2, st2, cv2, rfl, rfl, h2, kp2, r2⟩
        simp
        refine (calc_r h2).mono ?_
        rintro r K3 ⟨v3, x3, st3, cv3, rfl, rfl, h3, kp3, r3⟩
        simp
        exact hQ _ _ ⟨_, _, _, _, rfl, rfl, h3, (kp1.trans kp2).trans kp3, r1.bind (r2.bind r3)⟩
  · obtain ⟨x, y, rfl⟩ : ∃ x y, ks = [x, y] := by
      rcases ks with _ | ⟨x, _ | ⟨y, _ | _⟩⟩ <;> simp at hks
      exact ⟨x, y, rfl⟩
    have hkx : ER o pi P cl x := hkids x (by simp)
    have hky : ER o pi P cl y := hkids y (by simp)
    simp only [Ex.scs] at hscs
    have hx := fun {H} (h : Rq 0 o pi P (some s) lv cv H) => hkx h (fun _ => ⟨hL, hVb⟩) hscs.1
    have hy := fun {st cv H} (h : Rq 0 o pi P st lv cv H) => hky h (fun _ => ⟨hL, hVb⟩) hscs.2.1
    rw [lx_6] at hQ
    obtain ⟨xk, xo, xn, xs, xks, xa⟩ := x
    obtain ⟨yk, yo, yn, ys, yks, ya⟩ := y
    by_cases h34 : oo = 3 ∨ oo = 4
    · simp only [h34, if_true] at hQ
      rcases h34 with rfl | rfl
      all_goals
        simp [c117, ho, Ex.av, Ex.avs]
        refine (hx h).mono ?_
        rintro r K1 ⟨v1, x1, st1, cv1, rfl, rfl, h1, kp1, r1⟩
        simp
        refine (hy h1).mono ?_
        rintro r K2 ⟨v2, x2, st2, cv2, rfl, rfl, h2, kp2, r2⟩
        simp
        refine (rput (y := ⟨7, 0, 0, x2, 0, 0, -1⟩) (Nat.zero_le _) h2).mono ?_
        rintro r K3 ⟨v3, x3, st3, cv3, rfl, rfl, h3, kp3, r3⟩
        simp [c117_4]
        refine (calc_r h3).mono ?_
        rintro r K4 ⟨v4, x4, st4, cv4, rfl, rfl, h4, kp4, r4⟩
        simp
        exact hQ _ _ ⟨_, _, _, _, rfl, rfl, h4, ((kp1.trans kp2).trans kp3).trans kp4, r1.bind (r2.bind (r3.bind r4))⟩
    · simp only [h34, if_false] at hQ
      have h3 : ¬ oo = 3 := fun e => h34 (.inl e)
      have h4 : ¬ oo = 4 := fun e => h34 (.inr e)
      simp [c117, ho, Ex.av, Ex.avs]
      refine (hx h).mono ?_
      rintro r K1 ⟨v1, x1, st1, cv1, rfl, rfl, h1, kp1, r1⟩
      simp
      refine (hy h1).mono ?_
      rintro r K2 ⟨v2, x2, st2, cv2, rfl, rfl, h2, kp2, r2⟩
      simp [h3, h4, c117_4]
      refine (calc_r h2).mono ?_
      rintro r K4 ⟨v4, x4, st4, cv4, rfl, rfl, h4, kp4, r4⟩
      simp
      exact hQ _ _ ⟨_, _, _, _, rfl, rfl, h4, (kp1.trans kp2).trans kp4, r1.bind (r2.bind r4)⟩
  · simp [c117, ho, Ex.av]
    refine (hcall rfl h (fun _ => ⟨hL, hVb⟩) hsc (by simp)).mono ?_
    rintro r K1 ⟨v1, x1, st1, cv1, rfl, rfl, h1, kp1, r1⟩
    simp
    exact hQ _ _ ⟨_, _, _, _, rfl, rfl, h1, kp1, r1⟩
end
end Go.Ab

/- The reference for the instructions (palingref13): rows of statements, blocks, arrays, branches. -/
namespace Go.Ab
open Go.Proofs

set_option maxRecDepth 100000
set_option maxHeartbeats 8000000
/-- What statements of the reference come to. -/
def BP (o pi : Nat) (P : Prg) (cv : AV) (st : Option LS) (H : List AObj) (m : LM LV) : AEnd → List AObj → Prop := fun r K =>
  ∃ (V' : LV) (st' : Option LS) (lv' cv' : AV), r = .ret (.tuple []) ∧ Rq 0 o pi P st' lv' cv' K ∧ Kp o cv H cv' K ∧ Rep st m V' st' ∧ (∀ s', st' = some s' → LvOk V' lv' ∧ V'.length ≤ s'.c.length)
def SR (o pi : Nat) (P : Prg) (cl : List UInt8 → List Int → LM Int) (F : Int) (x : St) : Prop := ∀ {s : LS} {lv cv : AV} {H : List AObj} {V : LV}, Rq 0 o pi P (some s) lv cv H → LvOk V lv → V.length ≤ s.c.length → x.sc P F (V.map Prod.fst) →
  SCalls Tryz.prog 93 [.ptr o 0, x.av] H (BP o pi P cv (some s) H (lstmt P cl x V))
def BR (o pi : Nat) (P : Prg) (cl : List UInt8 → List Int → LM Int) (F : Int) (l : List St) : Prop := ∀ {st : Option LS} {lv cv : AV} {H : List AObj} {V : LV}, Rq 0 o pi P st lv cv H → (∀ s, st = some s → LvOk V lv ∧ V.length ≤ s.c.length) → (st ≠ none → St.scs P F (V.map Prod.fst) l) →
  SCalls Tryz.prog 57 [.ptr o 0, sl (St.avs l)] H (BP o pi P cv st H (lstmts P cl l V))
section
variable {o pi : Nat} {P : Prg} {cl : List UInt8 → List Int → LM Int} {st : Option LS} {lv cv : AV} {V : LV} {H K : List AObj} {F : Int} {s : LS} {c : List Ins} {rr : Int} {fl : Bool}
theorem Rep.here {c : List Ins} {rr : Int} (hs : match st with
    | Option.some s => c = s.c ∧ rr = s.r ∧ s.r ≤ s.c.length + 0
    | Option.none => c.length = 4097) : Rep st lhere c.length st := by
  cases st with
  | none => exact rfl
  | some s => obtain ⟨rfl, -, -⟩ := hs; exact Rep.of rfl
theorem Rq.vb (h : Rq 0 o pi P (some s) lv cv H) (hb : V.length ≤ s.c.length) : V.length ≤ 2 ^ 30 := by
  obtain ⟨c, rr, hw, rfl, -, -⟩ := h
  have := hw.cl
  omega
def I57 (o pi : Nat) (P : Prg) (cl : List UInt8 → List Int → LM Int) (F : Int) (l : List St) (st : Option LS) (cv : AV) (V : LV) (H : List AObj) (m : Nat) (τ : Env) (S : AS) : Prop :=
  ∃ (j : Nat) (st1 : Option LS) (lv1 cv1 : AV) (M : List AObj) (V1 : LV), m + j = l.length ∧ (∀ y st2, Rep st1 (lstmts P cl (l.drop j) V1) y st2 → Rep st (lstmts P cl l V) y st2) ∧ Rq 0 o pi P st1 lv1 cv1 M ∧ Kp o cv H cv1 M ∧
    (∀ s, st1 = some s → LvOk V1 lv1 ∧ V1.length ≤ s.c.length) ∧ (st1 ≠ none → St.scs P F (V1.map Prod.fst) (l.drop j)) ∧ τ = [(0, .ptr o 0), (1, sl (St.avs l)), (4, .int .i64 j)] ∧ S = ⟨[], M, []⟩
theorem bodyr_c {l : List St} (hbig : l.length ≤ 2 ^ 40) (ih : ∀ x ∈ l, SR o pi P cl F x) : BR o pi P cl F l := by
  intro st lv cv H V h hlv hsc
  refine fn_go k57 rfl ?_
  intro Q hQ
  have e : (St.avs l).length = l.length := by simp [St.avs_eq]
  simp [c57, e]
  refine loop_keep (n := l.length) (I57 o pi P cl F l st cv V H) ?_ ⟨0, st, lv, cv, H, V, by simp, fun y st2 hh => hh, h, .refl _ _ _, hlv, hsc, rfl, rfl⟩
  rintro m τ S ⟨j, st1, lv1, cv1, M, V1, hj, hspec, h1, kp1, hlv1, hsc1, rfl, rfl⟩
  obtain ⟨c, rr, hw, hs⟩ := id h1
  have ho := hw.ho
  obtain ⟨vc, wc⟩ := hw.cvv
  obtain ⟨vl, wl, pl⟩ := hw.lo
  unfold Rcells at ho
  have out : st1 = none ∨ ¬ j < l.length → Rep st (lstmts P cl l V) V1 st1 := by
    intro hh
    refine hspec _ _ ?_
    rcases hh with rfl | hh
    · rfl
    · rw [List.drop_eq_nil_of_le (by omega)]
      exact Rep.ret _ _
  by_cases hlt : j < l.length
  · cases st1 with
    | none =>
      simp [hlt, ho, e]
      exact hQ _ _ ⟨_, _, _, _, rfl, h1, kp1, out (.inl rfl), hlv1⟩
    | some s1 =>
      have hg : (St.avs l)[j]? = some (l[j]).av := by simp [St.avs_eq, hlt]
      have hd : l.drop j = l[j] :: l.drop (j + 1) := List.drop_eq_getElem_cons hlt
      rw [hd] at hspec hsc1
      have hx : SR o pi P cl F l[j] := ih _ (List.getElem_mem hlt)
      have hsc2 := hsc1 (by simp)
      rw [St.scs_cons] at hsc2
      simp only [lstmts] at hspec
      have hstep := hx h1 (hlv1 s1 rfl).1 (hlv1 s1 rfl).2 hsc2.1
      have hnm := fun s s' V' => lstmt_names (P := P) (cl := cl) (L := 4097) l[j] V1 s s' V'
      generalize (l[j]) = x at *
      simp [hlt, ho, e]
      simp [c57_1, hg]
      refine hstep.mono ?_
      rintro r K ⟨V2, st2, lv2, cv2, rfl, h2, kp2, r2, hlv2⟩
      simp [wrap_s (n := (j : Int) + 1) (by omega)]
      refine ⟨m - 1, by omega, j + 1, st2, lv2, cv2, K, V2, by omega, fun y st3 hh => hspec _ _ (r2.bind hh), h2, kp1.trans kp2, hlv2, fun hne => ?_, by simp, rfl⟩
      cases st2 with
      | none => exact absurd rfl hne
      | some s2 =>
        obtain ⟨s0, hs0, hm⟩ := r2.some rfl
        rw [hnm _ _ _ hm]
        exact hsc2.2
  · simp [hlt, ho, e]
    exact hQ _ _ ⟨_, _, _, _, rfl, h1, kp1, out (.inr hlt), hlv1⟩
theorem block_r {b : List St} (ih : BR o pi P cl F b) (h : Rq 0 o pi P st lv cv H) (hlv : ∀ s, st = some s → LvOk V lv ∧ V.length ≤ s.c.length) (hsc : st ≠ none → St.scs P F (V.map Prod.fst) b) :
    SCalls Tryz.prog 31 [.ptr o 0, sl (St.avs b)] H (fun r K => ∃ (V' : LV) (st' : Option LS) (cv' : AV), r = .ret (.tuple []) ∧ Rq 0 o pi P st' lv cv' K ∧ Kp o cv H cv' K ∧ Rep st (lstmts P cl b V) V' st') := by
  obtain ⟨c, rr, hw, hs⟩ := id h
  have ho := hw.ho
  obtain ⟨vc, wc⟩ := hw.cvv
  obtain ⟨vl, wl, pl⟩ := hw.lo
  unfold Rcells at ho
  refine fn_go k31 rfl ?_
  intro Q hQ
  simp [c31, ho, vl, wl, okD_proper pl]
  refine (ih h hlv hsc).mono ?_
  rintro r K ⟨V2, st2, lv2, cv2, rfl, ⟨c2, rr2, hw2, hs2⟩, kp2, r2, hlv2⟩
  have ho2 := hw2.ho
  obtain ⟨vc2, wc2⟩ := hw2.cvv
  obtain ⟨vl2, wl2, pl2⟩ := hw2.lo
  obtain ⟨q1, q2⟩ := hw2.re (rr' := rr2) (fl' := st2.isNone) hw.lo
  unfold Rcells at ho2
  simp [ho2, vl, wl, okD_proper pl]
  trace_state
  exact hQ _ _ ⟨V2, st2, cv2, rfl, ⟨c2, rr2, q1, hs2⟩, kp2.trans q2, r2⟩
theorem array_r (hv : PV P) {k a : Int} {t u : Bool} {nm : List UInt8} {y x : Ex} {b l : List St} (h : Rq 0 o pi P (some s) lv cv H) (hL : LvOk V lv) (hb : V.length ≤ s.c.length) (hg : 0 ≤ P.gidx nm) (hy : y.sc P (V.map Prod.fst)) (hx : x.sc P (V.map Prod.fst))
    (ihy : ER o pi P cl y) (ihx : ER o pi P cl x) :
    SCalls Tryz.prog 119 [.ptr o 0, (St.mk k a t u nm [y] [x] b l).av] H (RP o pi P lv cv (some s) H (larray P cl V nm y x) isU) := by
  have hVb := h.vb hb
  obtain ⟨hpl1, hpl2⟩ := P.pl_len hv hg
  have iy := ihy h (fun _ => ⟨hL, hVb⟩) hy
  have ix := fun {st cv H} (h : Rq 0 o pi P st lv cv H) => ihx h (fun _ => ⟨hL, hVb⟩) hx
  obtain ⟨yk, yo, yn, ys, yks, ya⟩ := y
  obtain ⟨xk, xo, xn, xs, xks, xa⟩ := x
  refine fn_go k119 rfl ?_
  intro Q hQ
  unfold larray at hQ
  simp [c119, St.av, Ex.av, Ex.avs]
  refine (place_r hv h hg).mono ?_
  rintro r K ⟨rfl, rfl⟩
  simp [Plc.av, Plc.cells]
  refine iy.mono ?_
  rintro r K1 ⟨v1, x1, st1, cv1, rfl, rfl, h1, kp1, r1⟩
  simp
  refine (look_r h1).mono ?_
  rintro r K2 ⟨v2, x2, st2, cv2, rfl, rfl, h2, kp2, r2⟩
  simp
  refine (ix h2).mono ?_
  rintro r K3 ⟨v3, x3, st3, cv3, rfl, rfl, h3, kp3, r3⟩
  simp
  refine (power_r hpl1 hpl2).mono ?_
  rintro r K4 ⟨rfl, rfl⟩
  have kp13 := (kp1.trans kp2).trans kp3
  by_cases hp : pow2 (P.pl nm).len = true
  · simp only [hp, if_true] at hQ
    simp [hp]
    refine (masked_r h3 (by omega)).mono ?_
    rintro r K4 ⟨v4, x4, st4, cv4, rfl, rfl, h4, kp4, r4⟩
    simp [c119_1]
    refine (rput (y := ⟨5, 0, 0, x4, x3, (P.pl nm).base, 0⟩) (Nat.zero_le _) h4).mono ?_
    rintro r K5 ⟨v5, x5, st5, cv5, rfl, rfl, h5, kp5, r5⟩
    simp
    exact hQ _ _ ⟨_, (), _, _, rfl, rfl, h5, (kp13.trans kp4).trans kp5, r1.bind (r2.bind (r3.bind (r4.bind r5)))⟩
  · simp only [hp, if_false] at hQ
    simp [hp]
    refine (move_r h3).mono ?_
    rintro r K4 ⟨v4, x4, st4, cv4, rfl, rfl, h4, kp4, r4⟩
    simp
    refine (below_r h4).mono ?_
    rintro r K5 ⟨v5, x5, st5, cv5, rfl, rfl, h5, kp5, r5⟩
    simp
    refine (set_r h5).mono ?_
    rintro r K6 ⟨v6, x6, st6, cv6, rfl, rfl, h6, kp6, r6⟩
    simp
    refine (rput (y := ⟨3, 0, x6, x5, x4, 0, 0⟩) (Nat.zero_le _) h6).mono ?_
    rintro r K7 ⟨v7, x7, st7, cv7, rfl, rfl, h7, kp7, r7⟩
    simp [c119_1]
    refine (rput (y := ⟨5, 0, 0, x6, x3, (P.pl nm).base, 0⟩) (Nat.zero_le _) h7).mono ?_
    rintro r K8 ⟨v8, x8, st8, cv8, rfl, rfl, h8, kp8, r8⟩
    simp
    exact hQ _ _ ⟨_, (), _, _, rfl, rfl, h8, ((((kp13.trans kp4).trans kp5).trans kp6).trans kp7).trans kp8, r1.bind (r2.bind (r3.bind ((r4.bind (r5.bind (r6.bind (Rep.bind (f := fun _ => LM.ret x6) r7 (Rep.ret _ _))))).bind r8)))⟩
end
end Go.Ab

/- The reference for the instructions (palingref13): branches, statements. -/
namespace Go.Ab
open Go.Proofs

set_option maxRecDepth 100000
set_option maxHeartbeats 8000000
attribute [local simp] c3_1 c3_2 c3_3 c3_4 c3_5 c3_6 c3_7
section
variable {o pi : Nat} {P : Prg} {cl : List UInt8 → List Int → LM Int} {st : Option LS} {lv cv : AV} {V : LV} {H K : List AObj} {F : Int} {s : LS} {c : List Ins} {rr : Int} {fl : Bool}
theorem Rw.lenA (hw : Rw o pi P c rr fl lv cv H) (S : AS) : lenA S .l cv = some c.length := by
  rcases hw.hc with ⟨e1, e⟩ | ⟨i, -, e, -⟩ <;> rw [e]
  · rw [e1]; rfl
  · rfl
theorem Rw.pr (hw : Rw o pi P c rr fl lv cv H) : cv.proper = true := by
  rcases hw.hc with ⟨e1, e⟩ | ⟨i, -, e, -⟩ <;> rw [e] <;> rfl
/-- Where an instruction goes to is told. -/
theorem Rw.goto (h : Rw o pi P c rr fl lv cv H) {k m i : Nat} (hk : k < c.length) (hcv : cv = .hs i 7 0 c.length) (hci : getH H i = some (.cells (c.flatMap Ins.cells)))
    (hK : setH H i (.cells ((c.flatMap Ins.cells).take (k * 7 + 6) ++ .int .i64 m :: (c.flatMap Ins.cells).drop (k * 7 + 6 + 1))) = K) : Rw o pi P (c.modify k (Ins.goto m)) rr fl lv cv K ∧ Kp o cv H cv K := by
  have hil := getH_lt (H := H) (i := i) (by simp [hci])
  have hne : c ≠ [] := fun e => by rw [e] at hk; simp at hk
  have hoi := h.io hne hci
  have hpi2 : pi ≠ i := fun e => h.ni (by rw [hcv]; simp [hid, e])
  rw [flat_modify (n := m) (c := c) (k := k) hk] at hK
  have hKi : getH K i = some (.cells ((c.modify k (Ins.goto m)).flatMap Ins.cells)) := by
    rw [← hK, getH_set_self (by simp [hci])]
  have hKk : ∀ r, r ≠ i → getH K r = getH H r := fun r hne => by rw [← hK, getH_set_ne (Ne.symm hne)]
  have hKl : lenH K = lenH H := by rw [← hK]; simp
  refine ⟨⟨by rw [hKk o hoi, h.ho], .inr ⟨i, ?_, ?_, hKi⟩, by rw [hKk pi hpi2, h.hp], h.ne, h.ni, h.lo, by simpa using h.cl⟩, by omega, fun r hr h1 h2 => hKk r (fun e => h2 (by rw [hcv]; simp [hid, e])), fun i hi => .inl hi⟩
  · intro e
    have := congrArg List.length e
    simp at this
    rw [this] at hk
    simp at hk
  · rw [hcv]; simp
theorem lput_some {x : Ins} {L : Nat} {s s' : LS} {u : Unit} (h : lput x L s = some (u, s')) : s'.c = s.c ++ [x] ∧ s'.r = s.r := by
  simp only [lput] at h
  split at h
  · cases h; exact ⟨rfl, rfl⟩
  · cases h
theorem Rep.to {k n : Nat} {s : LS} : Rep (Option.some s) (lto k n) () (Option.some ⟨s.c.modify k (Ins.goto n), s.r⟩) := Rep.of rfl
theorem branch_r (hcl : ∀ s rs, Lim (cl s rs)) {a : Int} {t u : Bool} {nm : List UInt8} {i : List Ex} {x : Ex} {b l : List St} (h : Rq 0 o pi P (some s) lv cv H) (hL : LvOk V lv) (hb : V.length ≤ s.c.length) (hx : x.sc P (V.map Prod.fst)) (hsb : St.scs P F (V.map Prod.fst) b) (hsl : St.scs P F (V.map Prod.fst) l)
    (ihx : ER o pi P cl x) (ihb : BR o pi P cl F b) (ihl : BR o pi P cl F l) :
    SCalls Tryz.prog 121 [.ptr o 0, (St.mk 2 a t u nm i [x] b l).av] H (RP o pi P lv cv (some s) H (lstmt P cl (.mk 2 a t u nm i [x] b l) V) fun _ v => v = .tuple []) := by
  have hVb := h.vb hb
  have ix := ihx h (fun _ => ⟨hL, hVb⟩) hx
  obtain ⟨c, rr, hw, hs⟩ := id h
  have ho := hw.ho
  obtain ⟨vc, wc⟩ := hw.cvv
  obtain ⟨vl, wl, pl⟩ := hw.lo
  unfold Rcells at ho
  refine fn_go k121 rfl ?_
  intro Q hQ
  simp only [lstmt] at hQ
  simp at hQ
  obtain ⟨xk, xo, xn, xs, xks, xa⟩ := x
  simp [c121, St.av, Ex.av, Ex.avs, ho, vc, wc, hw.lenA, okD_proper hw.pr]
  refine ix.mono ?_
  rintro r K1 ⟨v1, x1, st1, cv1, rfl, rfl, h1, kp1, r1⟩
  obtain ⟨c1, rr1, hw1, hs1⟩ := id h1
  have ho1 := hw1.ho
  obtain ⟨vc1, wc1⟩ := hw1.cvv
  unfold Rcells at ho1
  simp [ho1, vc1, wc1, hw1.lenA, okD_proper hw1.pr]
  have rh1 := Rep.here hs1
  refine (rput (y := ⟨7, 0, 0, x1, 0, 0, 0⟩) (Nat.zero_le _) h1).mono ?_
  rintro r K2 ⟨v2, x2, st2, cv2, rfl, rfl, h2, kp2, r2⟩
  have hm2 : ∀ s2, st2 = some s2 → V.length ≤ s2.c.length ∧ c1.length < s2.c.length := by
    intro s2 e2
    obtain ⟨s1, e1, m2⟩ := r2.some e2
    obtain ⟨s0, e0, m1⟩ := r1.some e1
    cases e0
    have l1 := (Lim.expr hcl V (.mk xk xo xn xs xks xa)).len _ _ _ _ m1
    have l2 := (lput_some m2).1
    rw [e1] at hs1
    obtain ⟨rfl, -, -⟩ := hs1
    rw [l2]
    simp
    omega
  simp
  refine (block_r ihb h2 (fun s2 e2 => ⟨hL, (hm2 s2 e2).1⟩) (fun _ => hsb)).mono ?_
  rintro r K3 ⟨V3, st3, cv3, rfl, h3, kp3, r3⟩
  have hm3 : ∀ s3, st3 = some s3 → V.length ≤ s3.c.length ∧ c1.length < s3.c.length := by
    intro s3 e3
    obtain ⟨s2, e2, m3⟩ := r3.some e3
    have := hm2 s2 e2
    have := (Lim.stmts hcl b V).len _ _ _ _ m3
    omega
  obtain ⟨c3, rr3, hw3, hs3⟩ := id h3
  have ho3 := hw3.ho
  obtain ⟨vc3, wc3⟩ := hw3.cvv
  unfold Rcells at ho3
  have rh3 := Rep.here hs3
  have kp13 := (kp1.trans kp2).trans kp3
  by_cases hle : l = []
  · subst hle
    simp at hQ
    simp [c121_3, ho3, vc3, wc3, hw3.lenA, okD_proper hw3.pr]
    cases st3 with
    | none =>
      simp [c121_2, ho3]
      exact hQ _ _ ⟨_, V, _, _, rfl, rfl, h3, kp13, r1.bind (rh1.bind (r2.bind (r3.bind (Rep.none _ _))))⟩
    | some s3 =>
      obtain ⟨rfl, rfl, hr3⟩ := hs3
      have hlt := (hm3 s3 rfl).2
      rcases hw3.hc with ⟨e, -⟩ | ⟨j, hne, hcv, hci⟩
      · rw [e] at hlt; simp at hlt
      have hfl := Ins.flat_len s3.c
      have hgo := fun K hK => hw3.goto (K := K) (m := s3.c.length) hlt hcv hci hK
      generalize s3.c.flatMap Ins.cells = L at hci hfl hgo
      simp [c121_2, ho3, hcv, c121_1, hci, hlt, show c1.length * 7 + 6 + 1 ≤ L.length by omega]
      obtain ⟨q1, q2⟩ := hgo _ rfl
      exact hQ _ _ ⟨_, V, some ⟨s3.c.modify c1.length (Ins.goto s3.c.length), s3.r⟩, _, rfl, rfl, ⟨_, _, q1, rfl, rfl, by simpa using hr3⟩, kp13.trans q2, r1.bind (rh1.bind (r2.bind (r3.bind (rh3.bind (Rep.bind (f := fun _ => LM.ret V) Rep.to (Rep.ret _ _))))))⟩
  · have hle2 : l.isEmpty = false := by simpa using hle
    have hle3 : ¬ (St.avs l) = [] := by simpa [St.avs_eq] using hle
    have hll : 0 < (St.avs l).length := List.length_pos_iff.2 hle3
    simp [hle] at hQ
    simp [c121_3, ho3, vc3, wc3, hw3.lenA, okD_proper hw3.pr, hle3, hll]
    refine (rput (y := ⟨6, 0, 0, 0, 0, 0, 0⟩) (Nat.zero_le _) h3).mono ?_
    rintro r K4 ⟨v4, x4, st4, cv4, rfl, rfl, h4, kp4, r4⟩
    obtain ⟨c4, rr4, hw4, hs4⟩ := id h4
    have ho4 := hw4.ho
    obtain ⟨vc4, wc4⟩ := hw4.cvv
    unfold Rcells at ho4
    have rh4 := Rep.here hs4
    have kp14 := kp13.trans kp4
    cases st4 with
    | none =>
      simp [c121_2, ho4]
      exact hQ _ _ ⟨_, V, _, _, rfl, rfl, h4, kp14, r1.bind (rh1.bind (r2.bind (r3.bind (rh3.bind (r4.bind (Rep.none _ _))))))⟩
    | some s4 =>
      obtain ⟨rfl, rfl, hr4⟩ := hs4
      obtain ⟨s3, e3, m4⟩ := r4.some rfl
      have hs3' := hm3 s3 e3
      have e4 := (lput_some m4).1
      rw [e3] at hs3
      obtain ⟨rfl, -, -⟩ := hs3
      have hl4 : s4.c.length = s3.c.length + 1 := by rw [e4]; simp
      have hlt : c1.length < s4.c.length := by omega
      rcases hw4.hc with ⟨e, -⟩ | ⟨j, hne, hcv, hci⟩
      · rw [e] at hlt; simp at hlt
      have hfl := Ins.flat_len s4.c
      have hgo := fun K hK => hw4.goto (K := K) (m := s4.c.length) hlt hcv hci hK
      generalize s4.c.flatMap Ins.cells = L at hci hfl hgo
      simp [c121_2, ho4, hcv, c121_1, hci, hlt, show c1.length * 7 + 6 + 1 ≤ L.length by omega, hle3, hll]
      obtain ⟨q1, q2⟩ := hgo _ rfl
      have h5 : Rq 0 o pi P (some ⟨s4.c.modify c1.length (Ins.goto s4.c.length), s4.r⟩) lv cv4 _ := ⟨_, _, q1, rfl, rfl, by simpa using hr4⟩
      refine (block_r ihl h5 (fun s5 e5 => ⟨hL, by cases e5; simp; omega⟩) (fun _ => hsl)).mono ?_
      rintro r K6 ⟨V6, st6, cv6, rfl, h6, kp6, r6⟩
      obtain ⟨c6, rr6, hw6, hs6⟩ := id h6
      have ho6 := hw6.ho
      obtain ⟨vc6, wc6⟩ := hw6.cvv
      unfold Rcells at ho6
      have hl6 : s4.c.length ≤ c6.length := by
        cases st6 with
        | none => have := hw4.cl; simp at hs6; omega
        | some s6 =>
          obtain ⟨s5, e5, m6⟩ := r6.some rfl
          cases e5
          obtain ⟨rfl, -, -⟩ := hs6
          have := (Lim.stmts hcl l V).len _ _ _ _ m6
          simpa using this
      have hlt6 : s3.c.length < c6.length := by omega
      have rh6 := Rep.here hs6
      rcases hw6.hc with ⟨e, -⟩ | ⟨j6, hne6, hcv6, hci6⟩
      · rw [e] at hlt6; simp at hlt6
      have hfl6 := Ins.flat_len c6
      have hgo6 := fun K hK => hw6.goto (K := K) (m := c6.length) hlt6 hcv6 hci6 hK
      generalize c6.flatMap Ins.cells = L6 at hci6 hfl6 hgo6
      simp [ho6, hcv6, hci6, hlt6, show s3.c.length * 7 + 6 + 1 ≤ L6.length by omega]
      obtain ⟨q61, q62⟩ := hgo6 _ rfl
      have kp := ((kp14.trans q2).trans kp6).trans q62
      have pre : ∀ (y : LV) (st9 : Option LS), Rep (some ⟨s4.c.modify c1.length (Ins.goto s4.c.length), s4.r⟩) ((lstmts P cl l V).bind fun _ => lhere.bind fun h => (lto s3.c.length h).bind fun _ => LM.ret V) y st9 →
          Rep (some s) ((lexpr P cl V (Ex.mk xk xo xn xs xks xa)).bind fun r => lhere.bind fun zr => (lput ⟨7, 0, 0, r, 0, 0, 0⟩).bind fun _ => (lstmts P cl b V).bind fun _ => lhere.bind fun jump => (lput ⟨6, 0, 0, 0, 0, 0, 0⟩).bind fun _ => lhere.bind fun h => (lto zr h).bind fun _ => (lstmts P cl l V).bind fun _ => lhere.bind fun h => (lto jump h).bind fun _ => LM.ret V) y st9 :=
        fun y st9 hh => r1.bind (rh1.bind (r2.bind (r3.bind (rh3.bind (r4.bind (rh4.bind (Rep.bind Rep.to hh)))))))
      cases st6 with
      | none => exact hQ _ _ ⟨_, V, none, _, rfl, rfl, ⟨_, _, q61, by simpa using hs6⟩, kp, pre _ _ (r6.bind (Rep.none _ _))⟩
      | some s6 =>
        obtain ⟨rfl, rfl, hr6⟩ := hs6
        exact hQ _ _ ⟨_, V, some ⟨s6.c.modify s3.c.length (Ins.goto s6.c.length), s6.r⟩, _, rfl, rfl, ⟨_, _, q61, rfl, rfl, by simpa using hr6⟩, kp, pre _ _ (r6.bind (rh6.bind (Rep.bind (f := fun _ => LM.ret V) Rep.to (Rep.ret _ _))))⟩
theorem while_r (hcl : ∀ s rs, Lim (cl s rs)) {a : Int} {t u : Bool} {nm : List UInt8} {i : List Ex} {x : Ex} {b : List St} (h : Rq 0 o pi P (some s) lv cv H) (hL : LvOk V lv) (hb : V.length ≤ s.c.length) (hx : x.sc P (V.map Prod.fst)) (hsb : St.scs P F (V.map Prod.fst) b)
    (ihx : ER o pi P cl x) (ihb : BR o pi P cl F b) :
    SCalls Tryz.prog 121 [.ptr o 0, (St.mk 3 a t u nm i [x] b []).av] H (RP o pi P lv cv (some s) H (lstmt P cl (.mk 3 a t u nm i [x] b []) V) fun _ v => v = .tuple []) := by
  have hVb := h.vb hb
  have ix := ihx h (fun _ => ⟨hL, hVb⟩) hx
  obtain ⟨c, rr, hw, hs⟩ := id h
  have ho := hw.ho
  obtain ⟨vc, wc⟩ := hw.cvv
  obtain ⟨vl, wl, pl⟩ := hw.lo
  unfold Rcells at ho
  have rh0 := Rep.here (st := some s) hs
  refine fn_go k121 rfl ?_
  intro Q hQ
  simp only [lstmt] at hQ
  simp at hQ
  obtain ⟨xk, xo, xn, xs, xks, xa⟩ := x
  simp [c121, St.av, Ex.av, Ex.avs, ho, vc, wc, hw.lenA, okD_proper hw.pr]
  refine ix.mono ?_
  rintro r K1 ⟨v1, x1, st1, cv1, rfl, rfl, h1, kp1, r1⟩
  obtain ⟨c1, rr1, hw1, hs1⟩ := id h1
  have ho1 := hw1.ho
  obtain ⟨vc1, wc1⟩ := hw1.cvv
  unfold Rcells at ho1
  simp [ho1, vc1, wc1, hw1.lenA, okD_proper hw1.pr]
  have rh1 := Rep.here hs1
  refine (rput (y := ⟨7, 0, 0, x1, 0, 0, 0⟩) (Nat.zero_le _) h1).mono ?_
  rintro r K2 ⟨v2, x2, st2, cv2, rfl, rfl, h2, kp2, r2⟩
  have hm2 : ∀ s2, st2 = some s2 → V.length ≤ s2.c.length ∧ c1.length < s2.c.length := by
    intro s2 e2
    obtain ⟨s1, e1, m2⟩ := r2.some e2
    obtain ⟨s0, e0, m1⟩ := r1.some e1
    cases e0
    have l1 := (Lim.expr hcl V (.mk xk xo xn xs xks xa)).len _ _ _ _ m1
    have l2 := (lput_some m2).1
    rw [e1] at hs1
    obtain ⟨rfl, -, -⟩ := hs1
    rw [l2]
    simp
    omega
  simp
  refine (block_r ihb h2 (fun s2 e2 => ⟨hL, (hm2 s2 e2).1⟩) (fun _ => hsb)).mono ?_
  rintro r K3 ⟨V3, st3, cv3, rfl, h3, kp3, r3⟩
  have hm3 : ∀ s3, st3 = some s3 → V.length ≤ s3.c.length ∧ c1.length < s3.c.length := by
    intro s3 e3
    obtain ⟨s2, e2, m3⟩ := r3.some e3
    have := hm2 s2 e2
    have := (Lim.stmts hcl b V).len _ _ _ _ m3
    omega
  simp
  refine (rput (y := ⟨6, 0, 0, 0, 0, 0, c.length⟩) (Nat.zero_le _) h3).mono ?_
  rintro r K4 ⟨v4, x4, st4, cv4, rfl, rfl, h4, kp4, r4⟩
  obtain ⟨c4, rr4, hw4, hs4⟩ := id h4
  have ho4 := hw4.ho
  obtain ⟨vc4, wc4⟩ := hw4.cvv
  unfold Rcells at ho4
  have rh4 := Rep.here hs4
  have kp14 := ((kp1.trans kp2).trans kp3).trans kp4
  simp [c121_3, ho4, vc4, wc4, hw4.lenA, okD_proper hw4.pr]
  cases st4 with
  | none =>
    simp [c121_2, ho4]
    exact hQ _ _ ⟨_, V, _, _, rfl, rfl, h4, kp14, rh0.bind (r1.bind (rh1.bind (r2.bind (r3.bind (r4.bind (Rep.none _ _))))))⟩
  | some s4 =>
    obtain ⟨rfl, rfl, hr4⟩ := hs4
    obtain ⟨s3, e3, m4⟩ := r4.some rfl
    have hs3' := hm3 s3 e3
    have e4 := (lput_some m4).1
    have hl4 : s4.c.length = s3.c.length + 1 := by rw [e4]; simp
    have hlt : c1.length < s4.c.length := by omega
    rcases hw4.hc with ⟨e, -⟩ | ⟨j, hne, hcv, hci⟩
    · rw [e] at hlt; simp at hlt
    have hfl := Ins.flat_len s4.c
    have hgo := fun K hK => hw4.goto (K := K) (m := s4.c.length) hlt hcv hci hK
    generalize s4.c.flatMap Ins.cells = L at hci hfl hgo
    simp [c121_2, ho4, hcv, c121_1, hci, hlt, show c1.length * 7 + 6 + 1 ≤ L.length by omega]
    obtain ⟨q1, q2⟩ := hgo _ rfl
    exact hQ _ _ ⟨_, V, some ⟨s4.c.modify c1.length (Ins.goto s4.c.length), s4.r⟩, _, rfl, rfl, ⟨_, _, q1, rfl, rfl, by simpa using hr4⟩, kp14.trans q2, rh0.bind (r1.bind (rh1.bind (r2.bind (r3.bind (r4.bind (rh4.bind (Rep.bind (f := fun _ => LM.ret V) Rep.to (Rep.ret _ _))))))))⟩
end
end Go.Ab

/- The reference for the instructions (palingref13): statements. -/
namespace Go.Ab
open Go.Proofs

set_option maxRecDepth 100000
set_option maxHeartbeats 8000000
section
variable {o pi : Nat} {P : Prg} {cl : List UInt8 → List Int → LM Int} {st : Option LS} {lv cv : AV} {V : LV} {H K : List AObj} {F : Int} {s : LS} {c : List Ins} {rr : Int} {fl : Bool}
theorem vav_erase (V : LV) : (V.map vav).map AV.erase = V.map vav := by
  rw [List.map_map]
  refine List.map_congr_left fun p _ => ?_
  simp [vav, AV.erase, AV.drop1]
theorem vav_wid (V : LV) : wid 2 (V.map vav) = true := wid_map 2 vav V fun e => ⟨rfl, rfl⟩
@[simp] theorem vav_erase' : AV.erase ∘ vav = vav := by
  funext p
  simp [vav, AV.erase, AV.drop1]
theorem lmove_some {a : Int} {L : Nat} {s s' : LS} {x : Int} (h : lmove a L s = some (x, s')) : 0 ≤ x ∧ s'.c.length = s.c.length + 1 := by
  simp only [lmove, linto, lfresh, LM.bind, lput, LM.ret] at h
  by_cases hl : s.c.length < L
  · rw [if_pos hl] at h
    cases h
    simp
  · rw [if_neg hl] at h
    cases h
theorem LM.bind_inv {α β : Type} {m : LM α} {f : α → LM β} {L : Nat} {s s' : LS} {y : β} (h : m.bind f L s = some (y, s')) : ∃ x s1, m L s = some (x, s1) ∧ f x L s1 = some (y, s') := by
  simp only [LM.bind] at h
  split at h
  · rename_i x s1 h1
    exact ⟨x, s1, h1, h⟩
  · cases h
theorem branch_V {a : Int} {t u : Bool} {nm : List UInt8} {i : List Ex} {x : Ex} {b l : List St} {L : Nat} {s s' : LS} {V' : LV} (h : lstmt P cl (.mk 2 a t u nm i [x] b l) V L s = some (V', s')) : V' = V := by
  simp only [lstmt] at h
  simp at h
  obtain ⟨_, s1, -, h⟩ := LM.bind_inv h
  obtain ⟨_, s1, -, h⟩ := LM.bind_inv h
  obtain ⟨_, s1, -, h⟩ := LM.bind_inv h
  obtain ⟨_, s1, -, h⟩ := LM.bind_inv h
  split at h
  · obtain ⟨_, s1, -, h⟩ := LM.bind_inv h
    obtain ⟨_, s1, -, h⟩ := LM.bind_inv h
    cases h; rfl
  · obtain ⟨_, s1, -, h⟩ := LM.bind_inv h
    obtain ⟨_, s1, -, h⟩ := LM.bind_inv h
    obtain ⟨_, s1, -, h⟩ := LM.bind_inv h
    obtain ⟨_, s1, -, h⟩ := LM.bind_inv h
    obtain ⟨_, s1, -, h⟩ := LM.bind_inv h
    obtain ⟨_, s1, -, h⟩ := LM.bind_inv h
    obtain ⟨_, s1, -, h⟩ := LM.bind_inv h
    cases h; rfl
theorem while_V {a : Int} {t u : Bool} {nm : List UInt8} {i : List Ex} {x : Ex} {b l : List St} {L : Nat} {s s' : LS} {V' : LV} (h : lstmt P cl (.mk 3 a t u nm i [x] b l) V L s = some (V', s')) : V' = V := by
  simp only [lstmt] at h
  simp at h
  obtain ⟨_, s1, -, h⟩ := LM.bind_inv h
  obtain ⟨_, s1, -, h⟩ := LM.bind_inv h
  obtain ⟨_, s1, -, h⟩ := LM.bind_inv h
  obtain ⟨_, s1, -, h⟩ := LM.bind_inv h
  obtain ⟨_, s1, -, h⟩ := LM.bind_inv h
  obtain ⟨_, s1, -, h⟩ := LM.bind_inv h
  obtain ⟨_, s1, -, h⟩ := LM.bind_inv h
  obtain ⟨_, s1, -, h⟩ := LM.bind_inv h
  cases h; rfl
theorem stmtr_c (hv : PV P) (hcl : ∀ s rs, Lim (cl s rs)) {x : St} (hok : x.ok) (hk : ∀ k a t u nm i e b l, x = .mk k a t u nm i e b l → (k = 1 → ∀ y ∈ i, ER o pi P cl y) ∧ (k ≠ 4 → ∀ y ∈ e, ER o pi P cl y) ∧ (k = 2 ∨ k = 3 ∨ k = 4 → BR o pi P cl F b) ∧ (k = 2 → BR o pi P cl F l)) : SR o pi P cl F x := by
  intro s lv cv H V h hL hb hsc
  have hVb := h.vb hb
  obtain ⟨k, a, t, u, nm, i, e, b, l⟩ := x
  obtain ⟨hki, hke, hkb, hkl⟩ := hk _ _ _ _ _ _ _ _ _ rfl
  simp only [St.ok] at hok
  obtain ⟨-, -, -, -, hok⟩ := hok
  simp only [St.sc] at hsc
  obtain ⟨hse, hs1, hs4, hsb, hsl⟩ := hsc
  obtain ⟨c, rr, hw, hs⟩ := id h
  have ho := hw.ho
  obtain ⟨vc, wc⟩ := hw.cvv
  obtain ⟨vl, wl, pl⟩ := hw.lo
  unfold Rcells at ho
  refine fn_go k93 rfl ?_
  intro Q hQ
  rcases hok with ⟨rfl, he⟩ | ⟨rfl, he, hi⟩ | ⟨rfl, he⟩ | ⟨rfl, he, rfl⟩ | rfl | ⟨rfl, he⟩
  · obtain ⟨x, rfl⟩ := List.length_eq_one_iff.1 he
    have ix := hke (by simp) x (by simp) h (fun _ => ⟨hL, hVb⟩) (hse (by simp) x (by simp)).1
    simp only [lstmt] at hQ
    simp at hQ
    obtain ⟨xk, xo, xn, xs, xks, xa⟩ := x
    simp [c93, St.av, Ex.av, Ex.avs]
    refine ix.mono ?_
    rintro r K1 ⟨v1, x1, st1, cv1, rfl, rfl, h1, kp1, r1⟩
    simp
    refine (move_r h1).mono ?_
    rintro r K2 ⟨v2, x2, st2, cv2, rfl, rfl, h2, kp2, r2⟩
    obtain ⟨c2, rr2, hw2, hs2⟩ := id h2
    have ho2 := hw2.ho
    obtain ⟨vc2, wc2⟩ := hw2.cvv
    unfold Rcells at ho2
    have hL2 : ∀ s2, st2 = some s2 → 0 ≤ x2 ∧ (V ++ [(nm, x2)]).length ≤ s2.c.length := by
      intro s2 e2
      obtain ⟨s1, e1, m2⟩ := r2.some e2
      obtain ⟨s0, e0, m1⟩ := r1.some e1
      cases e0
      have l1 := (Lim.expr hcl V (.mk xk xo xn xs xks xa)).len _ _ _ _ m1
      obtain ⟨q1, q2⟩ := lmove_some m2
      exact ⟨q1, by simp; omega⟩
    have hLv : ∀ t s2, st2 = some s2 → LvOk (V ++ [(nm, x2)]) (.vs t ((V ++ [(nm, x2)]).map vav)) ∧ (V ++ [(nm, x2)]).length ≤ s2.c.length := fun t s2 e2 =>
      ⟨⟨.inr ⟨t, by simp, rfl⟩, fun q hq => by
        rcases List.mem_append.1 hq with hq | hq
        · exact hL.p q hq
        · simp at hq; subst hq; exact (hL2 s2 e2).1⟩, (hL2 s2 e2).2⟩
    rcases hL.v with ⟨rfl, rfl⟩ | ⟨t0, hne, rfl⟩
    · simp [ho2, roomA_eq]
      have g : Gr K2 (addH (addH K2 .tip) .tip) := (Gr.refl K2).add.add
      obtain ⟨w1, w2⟩ := hw2.gr g
      obtain ⟨q1, q2⟩ := w1.re (rr' := rr2) (fl' := st2.isNone) (lv' := .vs (some (lenH K2 + 1)) [.agg [.str nm, .int .i64 x2]]) ⟨rfl, rfl, rfl⟩
      exact hQ _ _ ⟨_, st2, _, cv2, rfl, ⟨c2, rr2, q1, hs2⟩, ((kp1.trans kp2).trans w2).trans q2, r1.bind (Rep.bind (f := fun m => LM.ret ([] ++ [(nm, m)])) r2 (Rep.ret _ _)), hLv _⟩
    · have hm : (V.map vav) ≠ [] := by simpa using hne
      have hr : ((V.length : Int) + 1) * 24 ≤ 35184372088832 := by omega
      have hr2 : (V.length + 1) * 24 ≤ 35184372088832 := by omega
      have hr3 : V.length * 24 ≤ 35184372088832 := by omega
      have g : Gr K2 (addH (setH (addH (addH K2 .tip) .tip) (lenH K2) .dead) .tip) := ⟨by simp; omega, fun r hr => by
        have hr' := getH_isSome.1 hr
        rw [getH_add_old (getH_isSome.2 (by simp; omega)), getH_set_ne (by omega), getH_add_old (getH_isSome.2 (by simp; omega)), getH_add_old hr]⟩
      obtain ⟨w1, w2⟩ := hw2.gr g
      obtain ⟨q1, q2⟩ := w1.re (rr' := rr2) (fl' := st2.isNone) (lv' := .vs (some (lenH K2 + 1 + 1)) (V.map vav ++ [.agg [.str nm, .int .i64 x2]])) ⟨rfl, rfl, rfl⟩
      have ho3 := w1.ho
      unfold Rcells at ho3
      simp [ho2, roomA_eq, hne, vav_erase, vav_wid, hr2, hr3, ho3]
      have hLv2 := hLv (some (lenH K2 + 1 + 1))
      rw [List.map_append] at hLv2
      exact hQ _ _ ⟨_, st2, _, cv2, rfl, ⟨c2, rr2, q1, hs2⟩, ((kp1.trans kp2).trans w2).trans q2, r1.bind (Rep.bind (f := fun m => LM.ret (V ++ [(nm, m)])) r2 (Rep.ret _ _)), hLv2⟩
  · obtain ⟨x, rfl⟩ := List.length_eq_one_iff.1 he
    have iex := fun {st cv H} (h : Rq 0 o pi P st lv cv H) => hke (by simp) x (by simp) h (fun _ => ⟨hL, hVb⟩) (hse (by simp) x (by simp)).1
    obtain ⟨hsi, hig, hin⟩ := hs1 rfl
    simp only [lstmt] at hQ
    simp at hQ
    rcases i with _ | ⟨y, i⟩
    · simp only [lassign] at hQ
      obtain ⟨xk, xo, xn, xs, xks, xa⟩ := x
      simp [c93, St.av, Ex.av, Ex.avs]
      refine (local_r h hL hVb).mono ?_
      rintro r K ⟨rfl, rfl⟩
      simp
      simp [c93_1]
      refine (iex h).mono ?_
      rintro r K1 ⟨v1, x1, st1, cv1, rfl, rfl, h1, kp1, r1⟩
      have hlv1 : ∀ {st2 : Option LS} {m : LM Unit} {u : Unit}, Rep st1 m u st2 → (∀ L s x s', m L s = some (x, s') → s.c.length ≤ s'.c.length) → ∀ s', st2 = some s' → LvOk V lv ∧ V.length ≤ s'.c.length := by
        intro st2 m u r2 hm s2 e2
        obtain ⟨s1, e1, m2⟩ := r2.some e2
        obtain ⟨s0, e0, m1⟩ := r1.some e1
        cases e0
        have l1 := (Lim.expr hcl V (.mk xk xo xn xs xks xa)).len _ _ _ _ m1
        have l2 := hm _ _ _ _ m2
        exact ⟨hL, by omega⟩
      cases hl : lreg V nm with
      | some r0 =>
        have h0 := hL.reg hl
        simp only [hl] at hQ
        simp [h0]
        refine (rput (y := ⟨1, 0, r0, x1, 0, 0, 0⟩) (Nat.zero_le _) h1).mono ?_
        rintro r K2 ⟨v2, x2, st2, cv2, rfl, rfl, h2, kp2, r2⟩
        simp
        exact hQ _ _ ⟨V, st2, _, cv2, rfl, h2, kp1.trans kp2, (r1.bind r2).bind (Rep.ret _ _), hlv1 r2 (Lim.put _).len⟩
      | none =>
        simp only [hl] at hQ
        have hg : 0 ≤ P.gidx nm := by
          rcases hin rfl with hs | hs
          · obtain ⟨r0, h0⟩ := lreg_some hs
            rw [hl] at h0; cases h0
          · exact hs.1
        simp
        refine (place_r hv h1 hg).mono ?_
        rintro r K ⟨rfl, rfl⟩
        simp [Plc.av, Plc.cells]
        refine (rput (y := ⟨5, 0, 0, -1, x1, (P.pl nm).base, 0⟩) (Nat.zero_le _) h1).mono ?_
        rintro r K2 ⟨v2, x2, st2, cv2, rfl, rfl, h2, kp2, r2⟩
        simp
        exact hQ _ _ ⟨V, st2, _, cv2, rfl, h2, kp1.trans kp2, (r1.bind r2).bind (Rep.ret _ _), hlv1 r2 (Lim.put _).len⟩
    · have hi0 : i = [] := by
        rcases i with _ | _
        · rfl
        · simp at hi
      subst hi0
      simp only [lassign] at hQ
      have har := array_r (k := 1) (a := a) (t := t) (u := u) (b := b) (l := l) hv h hL hb (hig (by simp)).1 (hsi y (by simp)).1 (hse (by simp) x (by simp)).1 (hki rfl y (by simp)) (hke (by simp) x (by simp))
      simp [c93, St.av, Ex.avs]
      refine (local_r h hL hVb).mono ?_
      rintro r K ⟨rfl, rfl⟩
      simp
      refine har.mono ?_
      rintro r K1 ⟨v1, x1, st1, cv1, rfl, rfl, h1, kp1, r1⟩
      simp
      refine hQ _ _ ⟨V, st1, _, cv1, rfl, h1, kp1, r1.bind (Rep.ret _ _), fun s1 e1 => ?_⟩
      obtain ⟨s0, e0, m1⟩ := r1.some e1
      cases e0
      have := (Lim.array hcl V nm y x).len _ _ _ _ m1
      exact ⟨hL, by omega⟩
  · obtain ⟨x, rfl⟩ := List.length_eq_one_iff.1 he
    have hbr := branch_r (a := a) (t := t) (u := u) (nm := nm) (i := i) hcl h hL hb (hse (by simp) x (by simp)).1 (hsb (by simp)) (hsl rfl) (hke (by simp) x (by simp)) (hkb (by simp)) (hkl rfl)
    simp [c93, St.av, Ex.avs, c93_2]
    refine hbr.mono ?_
    rintro r K1 ⟨v1, x1, st1, cv1, rfl, rfl, h1, kp1, r1⟩
    simp
    refine hQ _ _ ⟨x1, st1, _, cv1, rfl, h1, kp1, r1, fun s1 e1 => ?_⟩
    obtain ⟨s0, e0, m1⟩ := r1.some e1
    cases e0
    have := (Lim.stmt hcl (.mk 2 a t u nm i [x] b l) V).len _ _ _ _ m1
    have hx1 : x1 = V := branch_V m1
    subst hx1
    exact ⟨hL, by omega⟩
  · obtain ⟨x, rfl⟩ := List.length_eq_one_iff.1 he
    have hbr := while_r (a := a) (t := t) (u := u) (nm := nm) (i := i) hcl h hL hb (hse (by simp) x (by simp)).1 (hsb (by simp)) (hke (by simp) x (by simp)) (hkb (by simp))
    simp [c93, St.av, Ex.avs, c93_2]
    refine hbr.mono ?_
    rintro r K1 ⟨v1, x1, st1, cv1, rfl, rfl, h1, kp1, r1⟩
    simp
    refine hQ _ _ ⟨x1, st1, _, cv1, rfl, h1, kp1, r1, fun s1 e1 => ?_⟩
    obtain ⟨s0, e0, m1⟩ := r1.some e1
    cases e0
    have := (Lim.stmt hcl (.mk 3 a t u nm i [x] b []) V).len _ _ _ _ m1
    have hx1 : x1 = V := while_V m1
    subst hx1
    exact ⟨hL, by omega⟩
  · have hok4 : Sc.Ok ⟨P, 0, []⟩ := ⟨hv, by simp, by simp, by simp⟩
    have hlk := lock_c (σ := ⟨P, 0, []⟩) (s := nm) (H := H) hok4
    simp only [Sc.av, Sc.cells, List.map_nil, sl_nil] at hlk
    simp only [lstmt] at hQ
    simp at hQ
    simp [c93, St.av, c93_2, ho, vc, wc, vl, wl]
    refine hlk.mono ?_
    rintro r K ⟨rfl, rfl⟩
    simp
    refine (rput (y := ⟨9, 0, 0, 0, 0, P.lidx nm, 0⟩) (Nat.zero_le _) h).mono ?_
    rintro r K2 ⟨v2, x2, st2, cv2, rfl, rfl, h2, kp2, r2⟩
    have hm2 : ∀ s2, st2 = some s2 → V.length ≤ s2.c.length := by
      intro s2 e2
      obtain ⟨s1, e1, m2⟩ := r2.some e2
      cases e1
      have := (Lim.put ⟨9, 0, 0, 0, 0, P.lidx nm, 0⟩).len _ _ _ _ m2
      omega
    simp
    refine (block_r (hkb (by simp)) h2 (fun s2 e2 => ⟨hL, hm2 s2 e2⟩) (fun _ => hsb (by simp))).mono ?_
    rintro r K3 ⟨V3, st3, cv3, rfl, h3, kp3, r3⟩
    simp
    refine (rput (y := ⟨10, 0, 0, 0, 0, P.lidx nm, 0⟩) (Nat.zero_le _) h3).mono ?_
    rintro r K4 ⟨v4, x4, st4, cv4, rfl, rfl, h4, kp4, r4⟩
    simp
    refine hQ _ _ ⟨V, st4, _, cv4, rfl, h4, (kp2.trans kp3).trans kp4, r2.bind (r3.bind (r4.bind (Rep.ret _ _))), fun s4 e4 => ?_⟩
    obtain ⟨s3, e3, m4⟩ := r4.some e4
    obtain ⟨s2, e2, m3⟩ := r3.some e3
    have := (Lim.put ⟨10, 0, 0, 0, 0, P.lidx nm, 0⟩).len _ _ _ _ m4
    have := (Lim.stmts hcl b V).len _ _ _ _ m3
    have := hm2 s2 e2
    exact ⟨hL, by omega⟩
  · obtain ⟨x, rfl⟩ := List.length_eq_one_iff.1 he
    have ix := hke (by simp) x (by simp) h (fun _ => ⟨hL, hVb⟩) (hse (by simp) x (by simp)).1
    simp only [lstmt] at hQ
    simp at hQ
    obtain ⟨xk, xo, xn, xs, xks, xa⟩ := x
    simp [c93, St.av, Ex.av, Ex.avs, c93_2]
    refine ix.mono ?_
    rintro r K1 ⟨v1, x1, st1, cv1, rfl, rfl, h1, kp1, r1⟩
    simp
    refine (rput (y := ⟨11, 0, 0, x1, 0, 0, 0⟩) (Nat.zero_le _) h1).mono ?_
    rintro r K2 ⟨v2, x2, st2, cv2, rfl, rfl, h2, kp2, r2⟩
    simp
    refine hQ _ _ ⟨V, st2, _, cv2, rfl, h2, kp1.trans kp2, r1.bind (r2.bind (Rep.ret _ _)), fun s2 e2 => ?_⟩
    obtain ⟨s1, e1, m2⟩ := r2.some e2
    obtain ⟨s0, e0, m1⟩ := r1.some e1
    cases e0
    have l1 := (Lim.expr hcl V (.mk xk xo xn xs xks xa)).len _ _ _ _ m1
    have l2 := (Lim.put ⟨11, 0, 0, x1, 0, 0, 0⟩).len _ _ _ _ m2
    exact ⟨hL, by omega⟩
end
end Go.Ab

/- The reference for the instructions (palingref13): calls. -/
namespace Go.Ab
open Go.Proofs

set_option maxRecDepth 100000
set_option maxHeartbeats 8000000
section
variable {o pi : Nat} {P : Prg} {cl : List UInt8 → List Int → LM Int} {st st1 : Option LS} {lv cv cv' : AV} {V : LV} {H K : List AObj} {F : Int} {s : LS} {c : List Ins} {rr : Int} {fl : Bool}
/-- Another object is stored. -/
theorem Rw.other (h : Rw o pi P c rr fl lv cv H) {r0 : Nat} {x : AObj} (hr : r0 ≠ o ∧ r0 ≠ pi ∧ r0 ∉ hid cv) : Rw o pi P c rr fl lv cv (setH H r0 x) := by
  have hk : ∀ r y, r ≠ r0 → getH H r = some y → getH (setH H r0 x) r = some y := fun r y hne hr => by rw [getH_set_ne (Ne.symm hne), hr]
  refine ⟨hk _ _ hr.1.symm h.ho, ?_, hk _ _ hr.2.1.symm h.hp, h.ne, h.ni, h.lo, h.cl⟩
  rcases h.hc with hc | ⟨i, hne, e, hi⟩
  · exact .inl hc
  · exact .inr ⟨i, hne, e, hk _ _ (fun e2 => hr.2.2 (by rw [e, ← e2]; simp [hid])) hi⟩
theorem Rq.other (h : Rq 0 o pi P st lv cv H) {r0 : Nat} {x : AObj} (hr : r0 ≠ o ∧ r0 ≠ pi ∧ r0 ∉ hid cv) : Rq 0 o pi P st lv cv (setH H r0 x) := by
  obtain ⟨c, rr, h1, h2⟩ := h
  exact ⟨c, rr, h1.other hr, h2⟩
theorem Kp.other (h : Kp o cv H cv' K) {r0 : Nat} {x : AObj} (hr : lenH H ≤ r0) : Kp o cv H cv' (setH K r0 x) :=
  ⟨by simpa using h.len, fun r hr2 h1 h2 => by rw [getH_set_ne (by omega), h.keep r hr2 h1 h2], h.sub⟩
theorem Kp.gr (h : Kp o cv H cv' K) {M : List AObj} (g : Gr K M) : Kp o cv H cv' M :=
  ⟨by have := h.len; have := g.len; omega, fun r hr2 h1 h2 => by rw [g.old r (getH_isSome.2 (by have := h.len; omega)), h.keep r hr2 h1 h2], h.sub⟩
theorem Kp.tip (h : Kp o cv H cv' K) (hq : Rq 0 o pi P st lv cv H) {t : Nat} (ht : getH H t = some .tip) : getH K t = some .tip := by
  obtain ⟨c, rr, hw, -⟩ := hq
  rw [h.keep t (getH_lt (by simp [ht])) (fun e => ?_) (fun hm => ?_), ht]
  · subst e; rw [hw.ho] at ht; simp at ht
  · rcases hw.hc with ⟨-, e⟩ | ⟨i, hne, e, hi⟩
    · rw [e] at hm; simp [hid] at hm
    · rw [e] at hm
      simp [hid] at hm
      subst hm
      rw [hi] at ht
      simp at ht
/-- The registers of the arguments, as they are on the heap. -/
def AQ (o pi : Nat) (H0 : List AObj) (cv : AV) (M : List AObj) (v : AV) (ms : List Int) : Prop :=
  ms = [] ∧ v = .nils ∨ ∃ j, ms ≠ [] ∧ v = .hs j 1 0 ms.length ∧ getH M j = some (.cells (ms.map (.int .i64))) ∧ lenH H0 ≤ j ∧ j ≠ o ∧ j ≠ pi ∧ j ∉ hid cv
theorem AQ.keep {H0 : List AObj} {v : AV} {ms : List Int} (a : AQ o pi H0 cv H v ms) (k : Kp o cv H cv' K) : AQ o pi H0 cv' K v ms := by
  rcases a with a | ⟨j, h1, h2, h3, h4, h5, h6, h7⟩
  · exact .inl a
  · have hl := getH_lt (H := H) (i := j) (by simp [h3])
    exact .inr ⟨j, h1, h2, by rw [k.keep j hl h5 h7, h3], h4, h5, h6, fun hm => by
      rcases k.sub j hm with h | h
      · exact h7 h
      · omega⟩
def I152 (o pi : Nat) (P : Prg) (cl : List UInt8 → List Int → LM Int) (ks : List Ex) (st : Option LS) (lv cv : AV) (V : LV) (H : List AObj) (ev fv : List AV) (m : Nat) (τ : Env) (S : AS) : Prop :=
  ∃ (j : Nat) (rs : List Int) (st1 : Option LS) (cv1 : AV) (M : List AObj) (v : AV), m + j = ks.length ∧ rs.length = j ∧ (∀ {α : Type} (f : List Int → LM α) y st2, Rep st1 ((lexprs P cl V (ks.drop j)).bind fun r => f (rs ++ r)) y st2 → Rep st ((lexprs P cl V ks).bind f) y st2) ∧
    Rq 0 o pi P st1 lv cv1 M ∧ Kp o cv H cv1 M ∧ AQ o pi H cv1 M v rs ∧ τ = [(0, .ptr o 0), (3, .lref 3 0), (5, .lref 5 0), (7, v), (8, .int .i64 j)] ∧ S = ⟨[(3, ev), (5, fv)], M, []⟩
def I152b (o pi : Nat) (P : Prg) (ps : List Para) (rs : List Int) (st : Option LS) (lv cv : AV) (H : List AObj) (fv : List AV) (wv : AV) (m : Nat) (τ : Env) (S : AS) : Prop :=
  ∃ (j : Nat) (done : List Int) (st1 : Option LS) (cv1 : AV) (M : List AObj) (v ov : AV), m + j = rs.length ∧ done.length = j ∧ (∀ {α : Type} (f : List Int → LM α) y st2, Rep st1 ((lmoves (rs.drop j)).bind fun r => f (done ++ r)) y st2 → Rep st ((lmoves rs).bind f) y st2) ∧
    Rq 0 o pi P st1 lv cv1 M ∧ Kp o cv H cv1 M ∧ AQ o pi H cv1 M v rs ∧ TipN (lenH H) M ov ((((ps.map Para.name).take j).zip done).map vav) ∧ (∀ s1, st1 = some s1 → (∀ x ∈ done, 0 ≤ x) ∧ done.length ≤ s1.c.length) ∧
    τ = [(0, .ptr o 0), (5, .lref 5 0), (7, v), (9, wv), (10, ov), (11, .int .i64 j)] ∧ S = ⟨[(5, fv)], M, []⟩
theorem Rq.lt (h : Rq 0 o pi P st lv cv H) : o < lenH H ∧ pi < lenH H ∧ ∀ i ∈ hid cv, i < lenH H := by
  obtain ⟨c, rr, hw, -⟩ := h
  refine ⟨getH_lt (by simp [hw.ho]), getH_lt (by simp [hw.hp]), fun i hi => ?_⟩
  rcases hw.hc with ⟨-, e⟩ | ⟨j, hne, e, hj⟩
  · rw [e] at hi; simp [hid] at hi
  · rw [e] at hi
    simp [hid] at hi
    subst hi
    exact getH_lt (by simp [hj])
/-- Only ends of slices are others. -/
theorem Rq.tips (h : Rq 0 o pi P st lv cv H) (hk : ∀ r, r < lenH H → getH H r ≠ some .tip → getH K r = getH H r) : Rq 0 o pi P st lv cv K := by
  obtain ⟨c, rr, hw, hs⟩ := h
  have hh : ∀ r cs, getH H r = some (.cells cs) → getH K r = some (.cells cs) := fun r cs hr => by rw [hk r (getH_lt (by simp [hr])) (by simp [hr]), hr]
  refine ⟨c, rr, ⟨hh _ _ hw.ho, ?_, hh _ _ hw.hp, hw.ne, hw.ni, hw.lo, hw.cl⟩, hs⟩
  rcases hw.hc with hc | ⟨i, hne, e, hi⟩
  · exact .inl hc
  · exact .inr ⟨i, hne, e, hh _ _ hi⟩
theorem callr_c {f : Nat} {oo nn a : Int} {nm : List UInt8} {ks : List Ex} (hv : PV P) (hbig : ks.length ≤ 2 ^ 30)
    (ihk : ∀ x ∈ ks, ER o pi P (lcall P (f + 1)) x) (hps : (P.fat nm).params.length ≤ 6) (hfs : (P.fat nm).sc P (P.fix nm)) (ihb : BR o pi P (lcall P f) (P.fix nm) (P.fat nm).body) (ihr : ER o pi P (lcall P f) (P.fat nm).ret) :
    CR o pi P (lcall P (f + 1)) (.mk 7 oo nn nm ks a) := by
  intro st lv cv H V h hlv hsc hne
  have hsc' := hsc
  simp only [Ex.sc] at hsc'
  obtain ⟨hks, -, -, -, h7⟩ := hsc'
  obtain ⟨hfx, hpl⟩ := h7 trivial
  have hspec : lexpr P (lcall P (f + 1)) V (.mk 7 oo nn nm ks a) = ((lexprs P (lcall P (f + 1)) V ks).bind fun rs => (lmoves rs).bind fun ms => (lstmts P (lcall P f) (P.fat nm).body (((P.fat nm).params.map Para.name).zip ms)).bind fun V => lexpr P (lcall P f) V (P.fat nm).ret) := by
    funext L s
    simp [lexpr, lfin, lcall]
  rw [hspec]
  obtain ⟨c, rr, hw, hs⟩ := id h
  have ho := hw.ho
  obtain ⟨vc, wc⟩ := hw.cvv
  obtain ⟨vl, wl, pl⟩ := hw.lo
  unfold Rcells at ho
  have hok : Sc.Ok ⟨P, 0, []⟩ := ⟨hv, by simp, by simp, by simp⟩
  have hfn := func_c (σ := ⟨P, 0, []⟩) (s := nm) (H := H) hok
  simp only [Sc.av, Sc.cells, List.map_nil, sl_nil] at hfn
  obtain ⟨g, hg⟩ : ∃ g, P.fat nm = g := ⟨_, rfl⟩
  rw [hg] at hfn hpl hfs ihb ihr hps ⊢
  obtain ⟨gat', gname, gps, gtr, gse, gbody, ⟨rk, ro, rn, rs, rks, ra⟩⟩ := g
  simp only at hfn hpl hfs ihb ihr hps ⊢
  refine fn_go k152 rfl ?_
  intro Q hQ
  have e : (Ex.avs ks).length = ks.length := by simp [Ex.avs_eq]
  simp [c152, Ex.av, ho, vc, wc, vl, wl]
  refine hfn.mono ?_
  rintro r K ⟨rfl, rfl⟩
  simp [Func.av, Ex.av]
  refine loop_keep (n := ks.length) (I152 o pi P (lcall P (f + 1)) ks st lv cv V K _ _) ?_ ⟨0, [], st, cv, K, .nils, by simp, rfl, fun f y st2 hh => by simpa using hh, h, .refl _ _ _, .inl ⟨rfl, rfl⟩, rfl, rfl⟩
  rintro m τ S ⟨j, xs, st1, cv1, M, v, hj, hxs, hspec1, h1, kp1, ha, rfl, rfl⟩
  by_cases hlt : j < ks.length
  · have hgx : (Ex.avs ks)[j]? = some (ks[j]).av := by simp [Ex.avs_eq, hlt]
    have hd : ks.drop j = ks[j] :: ks.drop (j + 1) := List.drop_eq_getElem_cons hlt
    rw [hd] at hspec1
    have hx : ER o pi P (lcall P (f + 1)) ks[j] := ihk _ (List.getElem_mem hlt)
    have ix := hx h1 (fun _ => hlv hne) (Ex.scs_iff.1 hks _ (List.getElem_mem hlt))
    generalize (ks[j]) = x at *
    obtain ⟨xk, xo, xn, xs', xks, xa⟩ := x
    simp only [lexprs, LM.bind_assoc, LM.ret_bind] at hspec1
    simp [hlt, e]
    have hkl := kp1.len
    rcases ha with ⟨hms0, rfl⟩ | ⟨ji, hmne, rfl, hji, hjl, hjo, hjp, hjc⟩
    · subst hms0
      simp at hxs
      subst hxs
      simp [c152_1, hgx, Ex.av]
      refine ix.mono ?_
      rintro r K1 ⟨v2, x2, st2, cv2, rfl, rfl, h2, kp2, r2⟩
      have g1 : Gr K1 (addH (addH K1 (.cells [.int .i64 x2])) (.cells [.int .i64 x2])) := (Gr.refl K1).add.add
      obtain ⟨lo1, lp1, lc1⟩ := h2.lt
      have hkl2 := kp2.len
      simp [roomA_eq, wrap_s (n := (0 : Int) + 1) (by omega)]
      refine ⟨m - 1, by omega, 1, [x2], st2, cv2, _, _, by omega, rfl, fun f y st3 hh => hspec1 f y st3 (r2.bind ?_), (h2.gr g1).1, (kp1.trans kp2).gr g1, .inr ⟨lenH K1 + 1, by simp, rfl, by simp, by omega, by omega, by omega, fun hm => by have := lc1 _ hm; omega⟩, by simp [wrap_s (n := (1 : Int)) (by omega)], rfl⟩
      simpa using hh
    · have hfl : (xs.map (AV.int .i64)).length = xs.length := by simp
      have hm1 : xs.map (AV.int .i64) ++ [.int .i64 0] ≠ [] := by simp
      obtain ⟨L, hL⟩ : ∃ L, xs.map (AV.int .i64) = L := ⟨_, rfl⟩
      rw [hL] at hji hfl
      have e2 : L.take xs.length = L := List.take_of_length_le (by omega)
      have e3 : xs.length ≤ L.length := by omega
      have e4 : (xs.length + 1) * 8 ≤ 35184372088832 := by omega
      simp [c152_1, hgx, Ex.av]
      refine ix.mono ?_
      rintro r K1 ⟨v2, x2, st2, cv2, rfl, rfl, h2, kp2, r2⟩
      obtain ⟨lo1, lp1, lc1⟩ := h2.lt
      have hkl2 := kp2.len
      have hjlt := getH_lt (H := M) (i := ji) (by simp [hji])
      have hji2 : getH K1 ji = some (.cells L) := by rw [kp2.keep _ hjlt hjo hjc, hji]
      have hjc2 : ji ∉ hid cv2 := fun hm => by
        rcases kp2.sub _ hm with h | h
        · exact hjc h
        · omega
      simp [roomA_eq, hji2, e2, e3, e4, wrap_s (n := (j : Int) + 1) (by omega)]
      have gx : Gr K1 (addH K1 (.cells [.int .i64 x2])) := (Gr.refl K1).add
      have h4 := (h2.gr gx).1.other (x := .dead) ⟨hjo, hjp, hjc2⟩
      have gy : Gr (setH (addH K1 (.cells [.int .i64 x2])) ji .dead) (addH (setH (addH K1 (.cells [.int .i64 x2])) ji .dead) (.cells (L ++ [.int .i64 x2]))) := (Gr.refl _).add
      refine ⟨m - 1, by omega, j + 1, xs ++ [x2], st2, cv2, _, .hs (lenH K1 + 1) 1 0 (xs.length + 1), by omega, by simp [hxs], fun f y st3 hh => hspec1 f y st3 (r2.bind (by simpa using hh)), (h4.gr gy).1, (((kp1.trans kp2).gr gx).other (by omega)).gr gy, .inr ⟨lenH K1 + 1, by simp, by simp, ?_, by omega, by omega, by omega, fun hm => by have := lc1 _ hm; omega⟩, by simp, rfl⟩
      rw [List.map_append, hL]
      exact getH_add_at (by simp)
  · have hd : ks.drop j = [] := List.drop_eq_nil_of_le (by omega)
    rw [hd] at hspec1
    simp only [lexprs, LM.ret_bind, List.append_nil] at hspec1
    have hjk : j = ks.length := by omega
    have hxl : xs.length = gps.length := by omega
    obtain ⟨c1, rr1, hw1, hs1⟩ := id h1
    have ho1 := hw1.ho
    unfold Rcells at ho1
    simp [hlt, e, c152_4, ho1, vl, wl, okD_proper pl]
    have avl : ∀ {cv M v} (a : AQ o pi K cv M v xs) (S : AS), lenA S .l v = some xs.length := by
      intro cv M v a S
      rcases a with ⟨e1, rfl⟩ | ⟨j, -, rfl, -⟩
      · rw [e1]; rfl
      · rfl
    have avp : ∀ {cv M v} (a : AQ o pi K cv M v xs), v.proper = true := by
      intro cv M v a
      rcases a with ⟨e1, rfl⟩ | ⟨j, -, rfl, -⟩ <;> rfl
    refine loop_keep (n := xs.length) (I152b o pi P gps xs st1 lv cv K _ lv) ?_ ⟨0, [], st1, cv1, M, v, .nils, by simp, rfl, fun f y st3 hh => by simpa using hh, h1, kp1, ha, .inl ⟨by simp, rfl⟩, fun s1 _ => ⟨by simp, by simp⟩, rfl, rfl⟩
    rintro m2 τ S ⟨i, done, st2, cv2, M2, v2, ov, hi, hdl, hspec2, h2, kp2, ha2, htip, hnn, rfl, rfl⟩
    obtain ⟨c2, rr2, hw2, hs2⟩ := id h2
    have ho2 := hw2.ho
    unfold Rcells at ho2
    have tail : st2 = none ∨ ¬ i < xs.length → go (SCalls Tryz.prog) c152_3 [] [(0, .ptr o 0), (5, .lref 5 0), (9, lv), (10, ov)]
        ⟨[(5, [AV.int IntKind.i64 gat', AV.str gname, sl (List.map Para.av gps), AV.bool gtr, AV.bool gse, sl (St.avs gbody), AV.int IntKind.i64 rk, AV.int IntKind.i64 ro, AV.int IntKind.i64 rn, AV.str rs, sl (Ex.avs rks), AV.int IntKind.i64 ra])], M2, []⟩ (aendR [ARes.tmp 4] Q) := by
      intro hex
      have hsp : ∀ {α : Type} (f : List Int → LM α) y st3, Rep st2 (f done) y st3 → Rep st1 ((lmoves xs).bind f) y st3 := by
        intro α f y st3 hh
        refine hspec2 f y st3 ?_
        rcases hex with rfl | hx
        · exact hh
        · rw [List.drop_eq_nil_of_le (by omega)]
          simpa [lmoves, LM.ret_bind] using hh
      have hw3 := hw2.re (rr' := rr2) (fl' := st2.isNone) ⟨htip.okv, htip.cells, htip.proper⟩
      have h3 : Rq 0 o pi P st2 ov cv2 _ := ⟨c2, rr2, hw3.1, hs2⟩
      have hLv : ∀ s2, st2 = some s2 → LvOk ((gps.map Para.name).zip done) ov ∧ ((gps.map Para.name).zip done).length ≤ s2.c.length := by
        intro s2 e2
        obtain ⟨n1, n2⟩ := hnn s2 e2
        have hx : ¬ i < xs.length := hex.resolve_left (by rw [e2]; simp)
        rw [List.take_of_length_le (by simp; omega)] at htip
        refine ⟨⟨?_, fun q hq => n1 _ (List.of_mem_zip hq).2⟩, by simp; omega⟩
        rcases htip with ⟨e1, e2⟩ | ⟨t, e1, e2, -⟩
        · exact .inl ⟨by simpa using e1, e2⟩
        · exact .inr ⟨_, by simpa using e1, e2⟩
      have hnames : st2 ≠ none → ((gps.map Para.name).zip done).map Prod.fst = gps.map Para.name := by
        intro hne2
        have hx : ¬ i < xs.length := hex.resolve_left hne2
        rw [List.map_fst_zip]
        simp
        omega
      simp [c152_3, ho2, htip.okv, htip.cells, okD_proper htip.proper]
      refine (ihb h3 hLv (fun hne2 => by rw [hnames hne2]; exact hfs.1)).mono ?_
      rintro r K4 ⟨V4, st4, lv4, cv4, rfl, h4, kp4, r4, hLv4⟩
      obtain ⟨V5, hV5n, hV5⟩ : ∃ V5 : LV, V5.map Prod.fst = gps.map Para.name ++ St.addsL gbody ∧ (st4 ≠ none → V5 = V4) := by
        cases st4 with
        | none => exact ⟨(gps.map Para.name ++ St.addsL gbody).map fun s => (s, 0), by simp [Function.comp_def], fun h => absurd rfl h⟩
        | some s4 =>
          obtain ⟨s2, e2, m4⟩ := r4.some rfl
          exact ⟨V4, by rw [lstmts_names _ _ _ _ _ m4, hnames (by rw [e2]; simp)], fun _ => rfl⟩
      have hLv5 : st4 ≠ none → LvOk V5 lv4 ∧ V5.length ≤ 2 ^ 30 := by
        intro hne4
        rw [hV5 hne4]
        cases st4 with
        | none => exact absurd rfl hne4
        | some s4 =>
          obtain ⟨q1, q2⟩ := hLv4 s4 rfl
          exact ⟨q1, h4.vb q2⟩
      simp
      refine (ihr h4 hLv5 (by rw [hV5n]; exact hfs.2.1)).mono ?_
      rintro r K5 ⟨v5, x5, st5, cv5, rfl, rfl, h5, kp5, r5⟩
      have r5' : Rep st4 (lexpr P (lcall P f) V4 (.mk rk ro rn rs rks ra)) x5 st5 := by
        cases st4 with
        | none => exact r5
        | some s4 => rw [← hV5 (by simp)]; exact r5
      obtain ⟨c5, rr5, hw5, hs5⟩ := id h5
      have ho5 := hw5.ho
      unfold Rcells at ho5
      obtain ⟨q1, q2⟩ := hw5.re (rr' := rr5) (fl' := st5.isNone) hw.lo
      simp [ho5, vl, wl, okD_proper pl]
      exact hQ _ _ ⟨_, x5, st5, cv5, rfl, rfl, ⟨c5, rr5, q1, hs5⟩, (((kp2.trans hw3.2).trans kp4).trans kp5).trans q2, hspec1 _ _ _ (hsp _ _ _ (r4.bind r5'))⟩
    cases st2 with
    | none =>
      by_cases hlt2 : i < xs.length
      · simp [hlt2, avl ha2, okD_proper (avp ha2), ho2]
        exact tail (.inl rfl)
      · simp [hlt2, avl ha2, okD_proper (avp ha2), ho2]
        exact tail (.inl rfl)
    | some s2 =>
      by_cases hlt2 : i < xs.length
      · rcases id ha2 with ⟨e1, -⟩ | ⟨ji, hmne, rfl, hji, hjl, hjo, hjp, hjc⟩
        · rw [e1] at hlt2; simp at hlt2
        obtain ⟨x0, hx0⟩ : ∃ x0, xs[i]? = some x0 := ⟨_, List.getElem?_eq_getElem hlt2⟩
        have hd2 : xs.drop i = x0 :: xs.drop (i + 1) := by
          rw [List.drop_eq_getElem_cons hlt2]
          rw [List.getElem?_eq_getElem hlt2] at hx0
          cases hx0; rfl
        rw [hd2] at hspec2
        simp only [lmoves, LM.bind_assoc, LM.ret_bind] at hspec2
        obtain ⟨L, hL⟩ : ∃ L, xs.map (AV.int .i64) = L := ⟨_, rfl⟩
        have hfl : L.length = xs.length := by rw [← hL]; simp
        have htk : (L.drop i).take 1 = [.int .i64 x0] := by rw [← hL, ← List.map_drop, hd2]; simp
        rw [hL] at hji
        obtain ⟨g0, hg0⟩ : ∃ g0, gps[i]? = some g0 := ⟨_, List.getElem?_eq_getElem (by omega)⟩
        have hgp : (gps.map Para.av)[i]? = some (Para.av g0) := by rw [List.getElem?_map, hg0]; rfl
        simp [hlt2, ho2]
        simp [c152_2, hji, htk, hlt2, show i + 1 ≤ L.length by omega]
        refine (move_r h2).mono ?_
        rintro r K3 ⟨v3, x3, st3, cv3, rfl, rfl, h3, kp3, r3⟩
        have tip3 : TipN (lenH K) K3 ov ((((gps.map Para.name).take i).zip done).map vav) := htip.keep fun t _ ht => kp3.tip h2 ht
        have tip4 := tip3.gr ((Gr.refl K3).add (o := .tip))
        have hk0 := kp2.len
        have hk3 := kp3.len
        obtain ⟨M3, happ, tip5, fr5, hk5⟩ := tip4.app (lo := [(5, [AV.int IntKind.i64 gat', AV.str gname, sl (List.map Para.av gps), AV.bool gtr, AV.bool gse, sl (St.avs gbody), AV.int IntKind.i64 rk, AV.int IntKind.i64 ro, AV.int IntKind.i64 rn, AV.str rs, sl (Ex.avs rks), AV.int IntKind.i64 ra])])
          (df := []) (e := 2) (b := 24) (x := .agg [.str g0.name, .int .i64 x3]) (by simp; omega) (vav_wid _) (by simp only [roomA_eq, List.length_map, List.length_zip, List.length_take]; omega)
        simp at happ tip5
        simp [hgp, Para.av, okD_proper htip.proper, happ, wrap_s (n := (i : Int) + 1) (by omega)]
        have hold : ∀ r, r < lenH K3 → r ∉ tokOf ov → getH M3 r = getH K3 r := fun r hr hn => by
          rw [hk5 r (by simp; omega) hn, getH_add_old (getH_isSome.2 hr)]
        have htok : ∀ r ∈ tokOf ov, lenH K ≤ r := by
          intro r hr
          rcases tip3 with ⟨-, e⟩ | ⟨t, -, e, -, hn⟩
          · rw [e] at hr; simp at hr
          · rw [e] at hr; simp at hr; omega
        have hl5 : lenH K3 ≤ lenH M3 := by have := fr5.1; simp at this; omega
        have h5 : Rq 0 o pi P st3 lv cv3 M3 := h3.tips fun r hr hnt => hold r hr fun hm => hnt (tip3.lt r hm).2
        have kp5 : Kp o cv K cv3 M3 := ⟨by omega, fun r hr k1 k2 => by rw [hold r (by omega) (fun hm => by have := htok r hm; omega), (kp2.trans kp3).keep r hr k1 k2], (kp2.trans kp3).sub⟩
        rw [hL.symm] at hji
        have ha3 : AQ o pi K cv3 M3 (.hs ji 1 0 xs.length) xs := by
          rcases ha2.keep kp3 with ⟨e1, -⟩ | ⟨j2, q1, q2, q3, q4⟩
          · rw [e1] at hlt2; simp at hlt2
          · exact .inr ⟨j2, q1, q2, by rw [hold j2 (getH_lt (by simp [q3])) (fun hm => by have := (tip3.lt _ hm).2; rw [q3] at this; simp at this), q3], q4⟩
        have hzip : (((gps.map Para.name).take (i + 1)).zip (done ++ [x3])).map vav = (((gps.map Para.name).take i).zip done).map vav ++ [.agg [.str g0.name, .int .i64 x3]] := by
          rw [List.take_add_one, List.zip_append (by simp; omega)]
          simp [hg0, vav]
        refine ⟨m2 - 1, by omega, i + 1, done ++ [x3], st3, cv3, M3, .hs ji 1 0 xs.length, _, by omega, by simp [hdl], fun f y st4 hh => hspec2 f y st4 (r3.bind (by simpa using hh)), h5, kp5, ha3, by rw [hzip]; exact tip5, fun s3 e3 => ?_, by simp, rfl⟩
        obtain ⟨s2', e2, m3⟩ := r3.some e3
        cases e2
        obtain ⟨n1, n2⟩ := hnn _ rfl
        obtain ⟨n3, n4⟩ := lmove_some m3
        refine ⟨fun x hx => ?_, by simp; omega⟩
        rcases List.mem_append.1 hx with hx | hx
        · exact n1 x hx
        · simp at hx; omega
      · simp [hlt2, avl ha2, okD_proper (avp ha2), ho2]
        exact tail (.inr hlt2)
end
end Go.Ab

/- The reference for the instructions (palingref13): all of it, by the calls' depth. -/
namespace Go.Ab
open Go.Proofs

set_option maxRecDepth 100000
set_option maxHeartbeats 8000000
def TieER (o pi : Nat) (P : Prg) (f : Nat) : Prop := ∀ e : Ex, e.ok → e.cl P f → e.size ≤ 2 ^ 30 → ER o pi P (lcall P f) e
def TieSR (o pi : Nat) (P : Prg) (f : Nat) : Prop := ∀ (F : Int) (l : List St), St.oks l → St.cbs P f l → St.sizes l ≤ 2 ^ 30 → BR o pi P (lcall P f) F l
theorem tieSR {o pi : Nat} {P : Prg} {f : Nat} (hv : PV P) (hE : TieER o pi P f) : TieSR o pi P f := by
  intro F
  have key : ∀ (m : Nat) (l : List St), St.sizes l ≤ m → St.oks l → St.cbs P f l → St.sizes l ≤ 2 ^ 30 → BR o pi P (lcall P f) F l := by
    intro m
    induction m with
    | zero =>
      intro l hl ho hc hb
      refine bodyr_c (by have := St.len_sizes l; omega) fun s hs => ?_
      have := St.size_mem hs
      cases s; simp [St.size] at this; omega
    | succ m ih =>
      intro l hl ho hc hb
      refine bodyr_c (by have := St.len_sizes l; omega) fun s hs => stmtr_c hv (Lim.call f) (St.oks_iff.1 ho s hs) ?_
      rintro k a t u nm i e b l' rfl
      have h1 := St.size_mem hs
      have h2 := St.oks_iff.1 ho _ hs
      have h3 := St.cbs_iff.1 hc _ hs
      simp only [St.size] at h1
      simp only [St.ok] at h2
      simp only [St.cb] at h3
      exact ⟨fun hk y hy => hE y (Ex.oks_iff.1 h2.1 y hy) (h3.2.1 hk y hy) (by have := Ex.size_mem hy; omega), fun hk y hy => hE y (Ex.oks_iff.1 h2.2.1 y hy) (h3.1 hk y hy) (by have := Ex.size_mem hy; omega),
        fun hk => ih b (by omega) h2.2.2.1 (h3.2.2.1 hk) (by omega), fun hk => ih l' (by omega) h2.2.2.2.1 (h3.2.2.2 hk) (by omega)⟩
  exact fun l ho hc hb => key _ l (Nat.le_refl _) ho hc hb
theorem tieER {o pi : Nat} {P : Prg} (hw : PW P) : ∀ f : Nat, TieER o pi P f := by
  intro f
  induction f with
  | zero =>
    have key : ∀ (m : Nat) (e : Ex), e.size ≤ m → e.ok → e.cl P (0 : Nat) → e.size ≤ 2 ^ 30 → ER o pi P (lcall P 0) e := by
      intro m
      induction m with
      | zero => intro e hn; cases e; simp [Ex.size] at hn
      | succ m ih =>
        intro e hn ho hc hb
        refine exprr_step hw.pv ho ?_
        rintro k oo nn nm ks a rfl
        simp only [Ex.size] at hn hb
        simp only [Ex.ok] at ho
        simp only [Ex.cl] at hc
        refine ⟨fun x hx => ih x (by have := Ex.size_mem hx; omega) (Ex.oks_iff.1 ho.1 x hx) (Ex.cls_iff.1 hc.2 x hx) (by have := Ex.size_mem hx; omega), fun hk => ?_⟩
        intro st lv cv H V h hlv hsc hne
        have h1 := hc.1 hk (by omega)
        simp only [Ex.sc] at hsc
        have h2 := (hsc.2.2.2.2 hk).1
        omega
    exact fun e ho hc hb => key _ e (Nat.le_refl _) ho hc hb
  | succ f ihf =>
    have ihS := tieSR hw.pv ihf
    have key : ∀ (m : Nat) (e : Ex), e.size ≤ m → e.ok → e.cl P (f + 1 : Nat) → e.size ≤ 2 ^ 30 → ER o pi P (lcall P (f + 1)) e := by
      intro m
      induction m with
      | zero => intro e hn; cases e; simp [Ex.size] at hn
      | succ m ih =>
        intro e hn ho hc hb
        refine exprr_step hw.pv ho ?_
        rintro k oo nn nm ks a rfl
        simp only [Ex.size] at hn hb
        simp only [Ex.ok] at ho
        simp only [Ex.cl] at hc
        have ihk : ∀ x ∈ ks, ER o pi P (lcall P (f + 1)) x := fun x hx => ih x (by have := Ex.size_mem hx; omega) (Ex.oks_iff.1 ho.1 x hx) (Ex.cls_iff.1 hc.2 x hx) (by have := Ex.size_mem hx; omega)
        refine ⟨ihk, fun hk => ?_⟩
        subst hk
        intro st lv cv H V h hlv hsc hne
        have h1 := hc.1 rfl (by omega)
        have hsc' := hsc
        simp only [Ex.sc] at hsc'
        have h2 := (hsc'.2.2.2.2 trivial).1
        have hget : P.funcs[(P.fix nm).toNat]? = some (P.fat nm) := by
          have hlt := P.fix_lt nm
          have hlt2 : (P.fix nm).toNat < P.funcs.length := by omega
          rw [List.getElem?_eq_getElem hlt2]
          simp only [Prg.fat, if_pos h2, List.getElem?_eq_getElem hlt2, Option.getD_some]
        have hfs := hw.fn _ _ hget
        rw [show (((P.fix nm).toNat : Nat) : Int) = P.fix nm by omega] at hfs
        have hmem := List.mem_of_getElem? hget
        have hfp := hw.pv.f _ hmem
        have hbound : ∀ s, (0 ≤ P.fix nm → P.fix s < P.fix nm) → P.fix s < (f : Int) := fun s hs => by have := hs h2; omega
        have hsize : St.sizes (P.fat nm).body + (P.fat nm).ret.size ≤ P.size := by
          have h1 : St.sizes (P.fat nm).body + (P.fat nm).ret.size ≤ (P.funcs.map fun f => St.sizes f.body + f.ret.size).sum := sum_mem (List.mem_map.2 ⟨_, hmem, rfl⟩)
          simp only [Prg.size]
          omega
        have := hw.pv.size
        exact callr_c hw.pv (by have := Ex.len_sizes ks; omega) ihk hfp.1 hfs (ihS _ _ hfp.2.1 (St.scs_cbs hbound _ _ hfs.1) (by omega)) (ihf _ hfp.2.2 (Ex.cl_mono hbound _ hfs.2.2) (by omega)) h hlv hsc hne
    exact fun e ho hc hb => key _ e (Nat.le_refl _) ho hc hb
/-- A thread's statements. -/
theorem thread_r {o pi : Nat} {P : Prg} (hw : PW P) {t : List St} (ht : t ∈ P.threads) : BR o pi P (lcall P 17) (-1) t := by
  have hsize : St.sizes t ≤ P.size := by
    have h1 : St.sizes t ≤ (P.threads.map St.sizes).sum := sum_mem (List.mem_map.2 ⟨_, ht, rfl⟩)
    simp only [Prg.size]
    omega
  have := hw.pv.size
  have hnf := hw.pv.nf
  intro st lv cv H V h hlv hsc
  exact tieSR hw.pv (tieER hw 17) (-1) t (hw.pv.t t ht) (St.scs_cbs (fun s _ => by have := P.fix_lt s; omega) t [] (hw.th t ht)) (by omega) h hlv hsc
end Go.Ab

/- palingref09.Of: where the globals stand. -/
namespace Go.Ab
open Go.Proofs

set_option maxRecDepth 100000
set_option maxHeartbeats 8000000
def tbp (P : Prg) (p : Nat) : List Plc := if p = 0 then P.tb false 0 else if p = 1 then P.tb true 0 else P.plcs
def I17 (P : Prg) (j : Nat) (H : List AObj) (m : Nat) (τ : Env) (S : AS) : Prop :=
  ∃ (p : Nat) (at' : Int) (M : List AObj), m + p = 2 ∧ getH M j = some (.cells ((tbp P p).flatMap Plc.cells)) ∧ (p < 2 → at' = P.at52 (p == 1) 0) ∧ Gr H M ∧
    τ = [(1, .lref 1 0), (3, .hs j 4 0 P.globals.length), (4, .int .i64 at'), (5, .int .i64 p)] ∧ S = ⟨[(1, P.cells)], M, []⟩
def I17b (P : Prg) (j p : Nat) (H : List AObj) (m : Nat) (τ : Env) (S : AS) : Prop :=
  ∃ (i : Nat) (M : List AObj) (lo : List (Nat × List AV)), m + i = P.globals.length ∧ getH M j = some (.cells ((P.tb (p == 1) i).flatMap Plc.cells)) ∧ Gr H M ∧
    τ = [(1, .lref 1 0), (3, .hs j 4 0 P.globals.length), (4, .int .i64 (P.at52 (p == 1) i)), (5, .int .i64 p), (6, .int .i64 i)] ∧ S = ⟨[(1, P.cells)], M, []⟩
section
variable {H : List AObj}
theorem Gr.setNew {H M : List AObj} (g : Gr H M) {j : Nat} {x : AObj} (h : lenH H ≤ j) : Gr H (setH M j x) := ⟨by simpa using g.len, fun r hr => by
  have := getH_isSome.1 hr
  rw [getH_set_ne (by omega), g.old r hr]⟩
theorem Of_17 {P : Prg} (hv : PV P) : SCalls Tryz.prog 17 [P.av] H (fun r K => ∃ i, r = .ret (.hs i 4 0 P.globals.length) ∧ getH K i = some (.cells (P.plcs.flatMap Plc.cells)) ∧ lenH H ≤ i ∧ Gr H K) := by
  have hng := hv.ng
  refine fn_go k17 rfl ?_
  intro Q hQ
  have hr1 : (P.globals.length : Int) * 24 ≤ (roomA : Int) := by rw [roomA_eq]; omega
  have hr2 : (P.globals.length : Int) < 2 ^ 62 := by omega
  simp [c17, Prg.av, -mksA_int]
  rw [mksA_int, if_pos ⟨by omega, hr1, rfl, hr2⟩]
  simp only [if_true, Int.toNat_natCast]
  generalize hZ : (List.replicate P.globals.length _).flatMap AV.cells = Z
  rw [← tb_0] at hZ
  obtain ⟨n1, n2, n3⟩ := tb_next P
  simp
  refine loop_keep (n := 2) (I17 P (lenH H) H) ?_ ⟨0, 0, _, by simp, by rw [← hZ]; exact getH_add_at rfl, fun _ => by simp [Prg.at52, words], (Gr.refl H).add, rfl, rfl⟩
  rintro m τ S ⟨p, at', M, hm, hj, hat, g, rfl, rfl⟩
  have hlH : lenH H ≤ lenH M := g.len
  by_cases hp : p < 2
  · have hat' := hat hp
    subst hat'
    have htb : (tbp P p) = P.tb (p == 1) 0 := by
      rcases (show p = 0 ∨ p = 1 by omega) with rfl | rfl <;> rfl
    rw [htb] at hj
    simp [hp, show (p : Int) < 2 by omega, c17_4]
    refine loop_keep (n := P.globals.length) (I17b P (lenH H) p H) ?_ ⟨0, M, [], by simp, hj, g, rfl, rfl⟩
    rintro m2 τ S ⟨i, M2, -, hm2, hj2, g2, rfl, rfl⟩
    by_cases hlt : i < P.globals.length
    · have hg0 := hv.g _ (List.getElem_mem hlt)
      have hge : P.globals[i]? = some P.globals[i] := List.getElem?_eq_getElem hlt
      obtain ⟨t1, t2⟩ := tb_step (P := P) (b := p == 1) hge
      have hw1 := words_le (gs := P.globals) (b := false) hv.g
      have hw2 := words_le (gs := P.globals.take i) (b := p == 1) (fun g hg => hv.g g (List.mem_of_mem_take hg))
      have hatb : 0 ≤ P.at52 (p == 1) i ∧ P.at52 (p == 1) i ≤ 10000 := by
        have : (P.globals.take i).length ≤ 32 := by simp; omega
        unfold Prg.at52
        split <;> omega
      have hgx : (P.globals.map Glob.av)[i]? = some (P.globals[i]).av := by simp [hlt]
      have htl : (P.tb (p == 1) i).length = P.globals.length := by simp [Prg.tb]
      obtain ⟨gg, hgi⟩ : ∃ gg, P.globals[i] = gg := ⟨_, rfl⟩
      rw [hgi] at hgx hg0 hge t1 t2
      obtain ⟨ga, gn, gt, gs, gl, gb⟩ := gg
      have hpe : (decide ((p : Int) = 1)) = (p == 1) := by
        rcases (show p = 0 ∨ p = 1 by omega) with rfl | rfl <;> rfl
      have hset := fun q => flat_set (p := q) (T := P.tb (p == 1) i) (i := i) (by omega)
      have hfl := Plc.flat_len (P.tb (p == 1) i)
      rw [htl] at hfl
      by_cases hb : gs = (p == 1)
      · simp only [hb, if_true] at t1 t2
        have hset1 := hset ⟨P.at52 (p == 1) i, (Glob.mk ga gn gt (p == 1) gl gb).words, gt, p == 1⟩
        rw [← t1] at hset1
        generalize (P.tb (p == 1) i).flatMap Plc.cells = L at hj2 hfl hset1
        have e1 : ((p : Int) == 1) = (p == 1) := by
          rcases (show p = 0 ∨ p = 1 by omega) with rfl | rfl <;> rfl
        simp [Prg.cells, hlt]
        simp [c17_2, hgi, Glob.av, hb, e1, hlt, hj2, show i * 4 + 4 ≤ L.length by omega]
        simp only [] at hg0
        simp [c17_1, wrap_s (n := P.at52 (p == 1) i + max gl 1) (by omega), wrap_s (n := (i : Int) + 1) (by omega)]
        exact ⟨m2 - 1, by omega, i + 1, _, [], by omega, by rw [getH_set_self (by simp [hj2]), ← hset1]; simp [Plc.cells, Glob.words], g2.setNew (Nat.le_refl _), by rw [t2]; simp [Glob.words], rfl⟩
      · simp only [hb, if_false] at t1 t2
        have e1 : ((p : Int) == 1) = (p == 1) := by
          rcases (show p = 0 ∨ p = 1 by omega) with rfl | rfl <;> rfl
        simp [Prg.cells, hlt]
        simp [c17_2, hgi, hlt, Glob.av, hb, e1, c17_1, wrap_s (n := (i : Int) + 1) (by omega)]
        exact ⟨m2 - 1, by omega, i + 1, M2, [], by omega, by rw [t1]; exact hj2, g2, by rw [t2]; simp, rfl⟩
    · have hi : i = P.globals.length := by omega
      subst hi
      simp [Prg.cells, c17_3, wrap_s (n := (p : Int) + 1) (by omega)]
      refine ⟨m - 1, by omega, p + 1, P.at52 (p == 1) P.globals.length, M2, by omega, ?_, fun h1 => ?_, g2, by simp, rfl⟩
      · rcases (show p = 0 ∨ p = 1 by omega) with rfl | rfl
        · show getH M2 (lenH H) = some (.cells ((P.tb true 0).flatMap Plc.cells))
          rw [n1]; exact hj2
        · show getH M2 (lenH H) = some (.cells (P.plcs.flatMap Plc.cells))
          rw [← n3]; exact hj2
      · have h0 : p = 0 := by omega
        subst h0
        exact n2.symm
  · have hp2 : p = 2 := by omega
    subst hp2
    simp [c17_5]
    exact hQ _ _ ⟨_, rfl, hj, Nat.le_refl _, g⟩
end
end Go.Ab

/- palingref13.Thread -/
namespace Go.Ab
open Go.Proofs

set_option maxRecDepth 100000
set_option maxHeartbeats 8000000
attribute [local simp] c3_1 c3_2 c3_3 c3_4 c3_5 c3_6 c3_7
/-- An instruction that goes to a trap is sent on. -/
def fT (tr : Int) (n : Nat) (x : Ins) : Ins := if x.led tr = true then { x with to := n } else x
theorem flat_at {x : Ins} : ∀ {c : List Ins} {i : Nat}, c[i]? = some x → ∀ k, k < 7 → ((c.flatMap Ins.cells).drop (i * 7 + k)).take 1 = (x.cells.drop k).take 1
  | [], i, h, k, hk => by simp at h
  | y :: r, 0, h, k, hk => by
    simp at h
    subst h
    rw [List.flatMap_cons]
    simp only [Nat.zero_mul, Nat.zero_add]
    rw [List.drop_append_of_le_length (by simp [Ins.cells]; omega), List.take_append_of_le_length (by simp [Ins.cells]; omega)]
  | y :: r, i + 1, h, k, hk => by
    simp at h
    have hl : y.cells.length = 7 := rfl
    rw [List.flatMap_cons, show (i + 1) * 7 + k = y.cells.length + (i * 7 + k) by rw [hl]; omega, List.drop_length_add_append]
    exact flat_at h k hk
section
variable {o pi : Nat} {P : Prg} {st : Option LS} {lv cv : AV} {V : LV} {H K : List AObj} {F : Int} {s : LS} {c : List Ins} {rr : Int} {fl : Bool}
def mid (tr : Int) (c : List Ins) (i : Nat) : List Ins := (c.take i).map (fT tr c.length) ++ c.drop i
theorem mid_len (tr : Int) (c : List Ins) (i : Nat) : (mid tr c i).length = c.length := by simp [mid]; omega
theorem mid_at {tr : Int} {c : List Ins} {i : Nat} (h : i < c.length) : (mid tr c i)[i]? = some c[i] := by
  unfold mid
  rw [List.getElem?_append_right (by simp; omega)]
  simp
  rw [Nat.min_eq_left (by omega)]
  simp
theorem modify_mid : ∀ (a : List Ins) (x : Ins) (b : List Ins) (f : Ins → Ins), (a ++ x :: b).modify a.length f = a ++ f x :: b
  | [], x, b, f => by simp
  | y :: a, x, b, f => by simp [modify_mid a x b f]
theorem mid_succ {tr : Int} {c : List Ins} {i : Nat} (h : i < c.length) : mid tr c (i + 1) = if (c[i]).led tr = true then (mid tr c i).modify i (Ins.goto c.length) else mid tr c i := by
  have hd : c.drop i = c[i] :: c.drop (i + 1) := List.drop_eq_getElem_cons h
  have ht : c.take (i + 1) = c.take i ++ [c[i]] := by rw [List.take_add_one]; simp [h]
  have hm : ((c.take i).map (fT tr c.length)).length = i := by simp; omega
  unfold mid
  rw [ht, List.map_append, hd]
  split
  · rename_i hl
    have := modify_mid ((c.take i).map (fT tr c.length)) c[i] (c.drop (i + 1)) (Ins.goto c.length)
    rw [hm] at this
    rw [this]
    simp [fT, hl, Ins.goto]
  · rename_i hl
    simp [fT, hl]
def I11i (o pi : Nat) (P : Prg) (c : List Ins) (rr : Int) (fl : Bool) (lv cv : AV) (tr : Int) (H : List AObj) (m : Nat) (τ : Env) (S : AS) : Prop :=
  ∃ (i : Nat) (M : List AObj), m + i = c.length ∧ Rw o pi P (mid tr c i) rr fl lv cv M ∧ Kp o cv H cv M ∧
    τ = [(9, .ptr o 0), (10, .int .i64 tr), (11, .bool ((c.take i).any (Ins.led tr))), (12, .int .i64 c.length), (13, .int .i64 i)] ∧ S = ⟨[], M, []⟩
def I11 (o pi : Nat) (P : Prg) (st0 : Option LS) (cv0 : AV) (H : List AObj) (m : Nat) (τ : Env) (S : AS) : Prop :=
  ∃ (ph : Nat) (st : Option LS) (cv : AV) (M : List AObj), m + ph = 2 ∧ Rq 0 o pi P st .nils cv M ∧ Kp o cv0 H cv M ∧ (∀ st9, Rep st (lrest ph) () st9 → Rep st0 (lrest 0) () st9) ∧
    τ = [(9, .ptr o 0), (10, .int .i64 ((ph : Int) + 1))] ∧ S = ⟨[], M, []⟩
def ThQ (P : Prg) (i : Int) (H : List AObj) : AEnd → List AObj → Prop := fun r K => FrN (lenH H) H K ∧ ((∃ c cv, thR P i 4097 = some c ∧ c.length ≤ 4096 ∧ r = .ret (.tuple [cv, .bool true]) ∧ CV cv c K ∧ ∀ i ∈ hid cv, lenH H ≤ i) ∨
  (∀ c, thR P i 4097 = some c → 4096 < c.length) ∧ r = .ret (.tuple [.nils, .bool false]))
theorem Thread_r (hw : PW P) {i : Int} (hi : -2 ^ 59 ≤ i ∧ i ≤ 2 ^ 59) : SCalls Tryz.prog 11 [P.av, .int .i64 i] H (ThQ P i H) := by
  refine fn_go k11 rfl ?_
  intro Q hQ
  have hnt := hw.pv.nt
  by_cases h0 : 0 ≤ i ∧ i < P.threads.length
  · have hth : thR P i 4097 = (lthread P ((P.threads[i.toNat]?).getD []) 4097 ⟨[], 0⟩).map fun p => p.2.c := if_pos h0
    obtain ⟨t, ht⟩ : ∃ t, P.threads[i.toNat]? = some t := ⟨_, List.getElem?_eq_getElem (by omega)⟩
    rw [ht] at hth
    simp only [Option.getD_some] at hth
    have htm := List.mem_of_getElem? ht
    have hnew := New_c hw.pv (H := H)
    have hof := fun M => Of_17 hw.pv (H := M)
    simp only [Prg.av] at hnew hof
    simp [c11, Prg.av, h0.1, h0.2, Int.not_lt.2 h0.1, Int.not_le.2 h0.2, c11_8]
    refine hnew.mono ?_
    rintro r K ⟨fr, hnr⟩
    obtain ⟨-, rfl⟩ := hnr.resolve_right fun h => h.1 hw.nd
    simp [Sc.av, Sc.cells]
    refine (hof _).mono ?_
    rintro r K1 ⟨pi, rfl, hpi, hpl, g⟩
    have hg2 : (P.threads.map Thr.av)[i.toNat]? = some (Thr.av t) := by simp [ht]
    simp [ixaA_sl, h0.1, hg2, Thr.av]
    obtain ⟨H2, hH2⟩ : ∃ H2, addH K1 (.cells (Rcells P pi .nils 0 .nils false)) = H2 := ⟨_, rfl⟩
    have hpilt := getH_lt (H := K1) (i := pi) (by simp [hpi])
    have hq : Rq 0 (lenH K1) pi P (some ⟨[], 0⟩) .nils .nils H2 := ⟨[], 0, ⟨by rw [← hH2]; simp, .inl ⟨rfl, rfl⟩, by rw [← hH2, getH_add_old (by simp [hpi]), hpi], by omega, by simp [hid], ⟨rfl, rfl, rfl⟩, by simp⟩, rfl, rfl, by simp⟩
    have hH2l : lenH H2 = lenH K1 + 1 := by rw [← hH2]; simp
    have hfr2 : FrN (lenH H) H H2 := by
      refine ⟨by have := fr.1; have := g.len; omega, fun r hr => ?_⟩
      have := fr.1
      rw [← hH2, getH_add_old (getH_isSome.2 (by have := g.len; omega)), g.old r (getH_isSome.2 (by omega)), fr.2 r hr]
    unfold Rcells at hH2
    rw [hH2]
    refine (block_r (V := []) (thread_r hw htm) hq (fun s e => by cases e; exact ⟨⟨.inl ⟨rfl, rfl⟩, by simp⟩, by simp⟩) (fun _ => hw.th t htm)).mono ?_
    rintro r K3 ⟨V1, st1, cv1, rfl, h1, kp1, r1⟩
    simp
    refine (rput (y := ⟨13, 0, 0, 0, 0, 0, 0⟩) (Nat.zero_le _) h1).mono ?_
    rintro r K4 ⟨v2, x2, st2, cv2, rfl, rfl, h2, kp2, r2⟩
    simp
    refine loop_keep (n := 2) (I11 (lenH K1) pi P st2 cv2 K4) ?_ ⟨0, st2, cv2, K4, by simp, h2, .refl _ _ _, fun _ h => h, by simp, rfl⟩
    rintro m τ S ⟨ph, st3, cv3, M, hm, h3, kp3, hsp, rfl, rfl⟩
    obtain ⟨c3, rr3, hw3, hs3⟩ := id h3
    have ho3 := hw3.ho
    obtain ⟨vc3, wc3⟩ := hw3.cvv
    unfold Rcells at ho3
    by_cases hph : ph < 2
    · have hcl3 := hw3.cl
      have hsp3 : ∀ st9 st4, Rep st3 (lend (ph + 1 : Nat)) () st4 → Rep st4 (lrest (ph + 1)) () st9 → Rep st2 (lrest 0) () st9 := by
        intro st9 st4 q1 q2
        refine hsp st9 ?_
        rcases (show ph = 0 ∨ ph = 1 by omega) with rfl | rfl
        · exact q1.bind q2
        · have := q1.bind (f := fun _ => LM.ret ()) q2
          have e : ∀ k, (lend k).bind (fun _ => LM.ret ()) = lend k := by
            intro k
            funext L s
            simp only [LM.bind, LM.ret]
            cases lend k L s with
            | none => rfl
            | some p => obtain ⟨u, s'⟩ := p; rfl
          rw [e] at this
          exact this
      simp [show (ph : Int) + 1 < 3 by omega]
      simp [c11_5, ho3, vc3, wc3, hw3.lenA, okD_proper hw3.pr]
      refine loop_keep (n := c3.length) (I11i (lenH K1) pi P c3 rr3 st3.isNone .nils cv3 ((ph : Int) + 1) M) ?_ ⟨0, M, by simp, by simpa [mid] using hw3, .refl _ _ _, by simp, rfl⟩
      rintro m2 τ S ⟨i2, M2, hm2, hw5, kp5, rfl, rfl⟩
      have ho5 := hw5.ho
      unfold Rcells at ho5
      by_cases hlt : i2 < c3.length
      · have hx := mid_at (tr := (ph : Int) + 1) hlt
        have hsu := mid_succ (tr := (ph : Int) + 1) hlt
        have hml := mid_len ((ph : Int) + 1) c3 i2
        have htk : c3.take (i2 + 1) = c3.take i2 ++ [c3[i2]] := by rw [List.take_add_one]; simp [hlt]
        obtain ⟨x, hxx⟩ : ∃ x, c3[i2] = x := ⟨_, rfl⟩
        rw [hxx] at hx hsu htk
        have hk0 := flat_at hx 0 (by omega)
        have hk6 := flat_at hx 6 (by omega)
        rcases hw5.hc with ⟨e, -⟩ | ⟨q, hne, hcv, hci⟩
        · have := congrArg List.length e
          simp [mid_len] at this
          rw [this] at hlt; simp at hlt
        have hfl := Ins.flat_len (mid ((ph : Int) + 1) c3 i2)
        have hgo := fun K hK => hw5.goto (K := K) (k := i2) (m := c3.length) (by omega) hcv hci hK
        rw [hml] at hcv hfl
        subst hcv
        generalize (mid ((ph : Int) + 1) c3 i2).flatMap Ins.cells = L at hk0 hk6 hci hfl hgo
        simp [Ins.cells] at hk0 hk6
        have hneg : IntKind.i64.wrap (-((ph : Int) + 1)) = -((ph : Int) + 1) := wrap_s (by omega)
        by_cases h7 : x.kind = 7
        · by_cases hto : x.to = -((ph : Int) + 1)
          · have hled : x.led ((ph : Int) + 1) = true := by simp [Ins.led, h7, hto]
            rw [if_pos hled] at hsu
            simp [hlt]
            simp [c11_2, ho5, hci, hlt, hk0, hk6, h7, hto, hneg, show i2 * 7 + 1 ≤ L.length by omega, show i2 * 7 + 6 + 1 ≤ L.length by omega]
            simp [c11_1, wrap_s (n := (i2 : Int) + 1) (by omega)]
            obtain ⟨q1, q2⟩ := hgo _ rfl
            exact ⟨m2 - 1, by omega, i2 + 1, _, by omega, by rw [hsu]; exact q1, kp5.trans q2, by simp [htk, hled], rfl⟩
          · have hled : x.led ((ph : Int) + 1) = false := by simp [Ins.led, hto]
            rw [if_neg (by simp [hled])] at hsu
            simp [hlt]
            simp [c11_2, ho5, hci, hlt, hk0, hk6, h7, hto, hneg, show i2 * 7 + 1 ≤ L.length by omega, show i2 * 7 + 6 + 1 ≤ L.length by omega]
            simp [c11_1, wrap_s (n := (i2 : Int) + 1) (by omega)]
            exact ⟨m2 - 1, by omega, i2 + 1, M2, by omega, by rw [hsu]; exact hw5, kp5, by simp [htk, hled], rfl⟩
        · have hled : x.led ((ph : Int) + 1) = false := by simp [Ins.led, h7]
          rw [if_neg (by simp [hled])] at hsu
          simp [hlt]
          simp [c11_2, ho5, hci, hlt, hk0, hk6, h7, hneg, show i2 * 7 + 1 ≤ L.length by omega, show i2 * 7 + 6 + 1 ≤ L.length by omega]
          simp [c11_1, wrap_s (n := (i2 : Int) + 1) (by omega)]
          exact ⟨m2 - 1, by omega, i2 + 1, M2, by omega, by rw [hsu]; exact hw5, kp5, by simp [htk, hled], rfl⟩
      · have hi2 : i2 = c3.length := by omega
        subst hi2
        have ecast : ((ph + 1 : Nat) : Int) = (ph : Int) + 1 := by omega
        rw [ecast] at hsp3
        have hmid : mid ((ph : Int) + 1) c3 c3.length = c3.map (fT ((ph : Int) + 1) c3.length) := by simp [mid]
        rw [hmid] at hw5
        by_cases hany : c3.any (Ins.led ((ph : Int) + 1)) = true
        · have h5 : Rq 0 (lenH K1) pi P (st3.map fun s => ⟨s.c.map (fT ((ph : Int) + 1) s.c.length), s.r⟩) .nils cv3 M2 := by
            cases st3 with
            | none => exact ⟨_, _, hw5, by simpa using hs3⟩
            | some s3 =>
              obtain ⟨rfl, rfl, hr3⟩ := hs3
              exact ⟨_, _, hw5, rfl, rfl, by simpa using hr3⟩
          simp [c11_3, hany]
          refine (rput (y := ⟨12, 0, 0, 0, 0, (ph : Int) + 1, 0⟩) (Nat.zero_le _) h5).mono ?_
          rintro r K6 ⟨v6, x6, st6, cv6, rfl, rfl, h6, kp6, r6⟩
          simp [c11_4, wrap_s (n := (ph : Int) + 1 + 1) (by omega)]
          refine ⟨m - 1, by omega, ph + 1, st6, cv6, K6, by omega, h6, (kp3.trans kp5).trans kp6, fun st9 hh => hsp3 st9 st6 ?_ hh, by simp, rfl⟩
          cases st3 with
          | none => exact r6
          | some s3 =>
            obtain ⟨rfl, rfl, hr3⟩ := hs3
            have e : lend ((ph : Int) + 1) 4097 s3 = lput ⟨12, 0, 0, 0, 0, (ph : Int) + 1, 0⟩ 4097 ⟨s3.c.map (fT ((ph : Int) + 1) s3.c.length), s3.r⟩ := by
              unfold lend
              rw [if_pos hany]
              rfl
            simp only [Rep, Option.map_some, Option.bind_some] at r6 ⊢
            rw [e]
            exact r6
        · have hsame : c3.map (fT ((ph : Int) + 1) c3.length) = c3 := by
            have : c3.map (fT ((ph : Int) + 1) c3.length) = c3.map id := by
              refine List.map_congr_left fun x hx => ?_
              have : ¬ x.led ((ph : Int) + 1) = true := fun h => hany (List.any_eq_true.2 ⟨x, hx, h⟩)
              simp [fT, this]
            rw [this, List.map_id]
          rw [hsame] at hw5
          simp [c11_3, hany, c11_4, wrap_s (n := (ph : Int) + 1 + 1) (by omega)]
          refine ⟨m - 1, by omega, ph + 1, st3, cv3, M2, by omega, ⟨_, _, hw5, hs3⟩, kp3.trans kp5, fun st9 hh => hsp3 st9 st3 ?_ hh, by simp, rfl⟩
          cases st3 with
          | none => rfl
          | some s3 =>
            obtain ⟨rfl, rfl, hr3⟩ := hs3
            refine Rep.of ?_
            unfold lend
            rw [if_neg hany]
    · have hph2 : ph = 2 := by omega
      subst hph2
      have hall : ∀ st9, Rep st3 (LM.ret ()) () st9 → Rep (some ⟨[], 0⟩) (lthread P t) () st9 := fun st9 h => r1.bind (r2.bind (hsp st9 h))
      have hall3 := hall st3 (Rep.ret _ _)
      have kpall := (kp1.trans kp2).trans kp3
      have hge : lenH H ≤ lenH K1 := by have := fr.1; have := g.len; omega
      have hfrM : FrN (lenH H) H M := ⟨by have := kpall.len; omega, fun r hr => by rw [kpall.keep r (by omega) (by omega) (by simp [hid]), hfr2.2 r hr]⟩
      simp [show ¬ ((2 : Nat) : Int) + 1 < 3 by omega]
      cases st3 with
      | none =>
        simp [c11_7, ho3]
        refine hQ _ _ ⟨hfrM, .inr ⟨fun c hc => ?_, rfl⟩⟩
        rw [hth] at hc
        cases hl : lthread P t 4097 ⟨[], 0⟩ with
        | none => rw [hl] at hc; cases hc
        | some p =>
          simp only [Rep, Option.bind_some, hl] at hall3
          obtain ⟨-, h⟩ := hall3
          cases h
      | some s3 =>
        obtain ⟨rfl, rfl, hr3⟩ := hs3
        obtain ⟨s0, e0, hm0⟩ := hall3.some rfl
        cases e0
        have hthc : thR P i 4097 = some s3.c := by rw [hth, hm0]; rfl
        by_cases hl : s3.c.length ≤ 4096
        · simp [c11_7, ho3, vc3, wc3, hw3.lenA, okD_proper hw3.pr, show ¬ (4096 : Int) < s3.c.length by omega, show ¬ 4096 < s3.c.length by omega, c11_6]
          have hfin : Q (.ret (.tuple [cv3, .bool true])) M := by
            refine hQ _ _ ⟨hfrM, .inl ⟨s3.c, cv3, hthc, hl, rfl, hw3.hc, fun j hj => ?_⟩⟩
            rcases kpall.sub j hj with h | h
            · simp [hid] at h
            · omega
          rcases hw3.hc with ⟨-, e⟩ | ⟨q, -, e, -⟩
          · rw [e] at hfin ⊢
            simpa [resV] using hfin
          · rw [e] at hfin ⊢
            simpa [resV] using hfin
        · simp [c11_7, ho3, vc3, wc3, hw3.lenA, okD_proper hw3.pr, show (4096 : Int) < s3.c.length by omega, show 4096 < s3.c.length by omega]
          exact hQ _ _ ⟨hfrM, .inr ⟨fun c hc => by rw [hthc] at hc; cases hc; omega, rfl⟩⟩
  · have hth : thR P i 4097 = none := if_neg h0
    have hfin := hQ (.ret (.tuple [.nils, .bool false])) H ⟨.refl _ _, .inr ⟨by rw [hth]; simp, rfl⟩⟩
    by_cases hn : i < 0
    · simp [c11, Prg.av, hn]
      exact hfin
    · have hge : (P.threads.length : Int) ≤ i := by omega
      simp [c11, Prg.av, hn, hge]
      exact hfin
end
end Go.Ab

/- palingref13.Same, lower.Program. -/
namespace Go.Ab
open Go.Proofs

set_option maxRecDepth 100000
set_option maxHeartbeats 8000000
section
variable {H K : List AObj} {P : Prg} {c : List Ins} {va vb cv : AV}
theorem CV.len (h : CV cv c H) (S : AS) : lenA S .l cv = some c.length := by
  rcases h with ⟨e1, e⟩ | ⟨i, -, e, -⟩ <;> rw [e]
  · rw [e1]; rfl
  · rfl
theorem CV.pr (h : CV cv c H) : cv.proper = true := by
  rcases h with ⟨e1, e⟩ | ⟨i, -, e, -⟩ <;> rw [e] <;> rfl
theorem CV.fr (h : CV cv c H) (f : FrN (lenH H) H K) : CV cv c K := by
  rcases h with h | ⟨i, h1, h2, h3⟩
  · exact .inl h
  · exact .inr ⟨i, h1, h2, by rw [f.2 i (getH_lt (by simp [h3])), h3]⟩
theorem CV.tips (h : CV cv c H) (hk : ∀ r, r < lenH H → getH H r ≠ some .tip → getH K r = getH H r) : CV cv c K := by
  rcases h with h | ⟨i, h1, h2, h3⟩
  · exact .inl h
  · exact .inr ⟨i, h1, h2, by rw [hk i (getH_lt (by simp [h3])) (by simp [h3]), h3]⟩
theorem CV.val (h : CV cv c H) : cv.okv = true ∧ cv.cells = [cv] ∧ cv.erase = cv := by
  rcases h with ⟨-, e⟩ | ⟨i, -, e, -⟩ <;> rw [e] <;> exact ⟨rfl, rfl, rfl⟩
theorem FrN.weak {n n' : Nat} {M M' : List AObj} (h : FrN n M M') (hn : n' ≤ n) : FrN n' M M' := ⟨h.1, fun r hr => h.2 r (by omega)⟩
theorem flat_seg {x : Ins} : ∀ {c : List Ins} {i : Nat}, c[i]? = some x → ((c.flatMap Ins.cells).drop (i * 7)).take 7 = x.cells
  | [], i, h => by simp at h
  | y :: r, 0, h => by
    simp at h
    subst h
    simp [Ins.cells]
  | y :: r, i + 1, h => by
    simp at h
    have hl : y.cells.length = 7 := rfl
    rw [List.flatMap_cons, show (i + 1) * 7 = y.cells.length + i * 7 by rw [hl]; omega, List.drop_length_add_append]
    exact flat_seg h
def I12 (va vb : AV) (c : List Ins) (H : List AObj) (m : Nat) (τ : Env) (S : AS) : Prop := ∃ i : Nat, m + i = c.length ∧ τ = [(0, va), (1, vb), (5, .int .i64 i)] ∧ S = ⟨[], H, []⟩
theorem Same_c (ha : CV va c H) (hb : CV vb c H) (hl : c.length ≤ 2 ^ 40) : SCalls Tryz.prog 12 [va, vb] H (fun r K => r = .ret (.bool true) ∧ K = H) := by
  refine fn_go k12 rfl ?_
  intro Q hQ
  simp [c12, okD_proper ha.pr, okD_proper hb.pr, ha.len, hb.len]
  simp [c12_4]
  refine loop_keep (n := c.length) (I12 va vb c H) ?_ ⟨0, by simp, by simp, rfl⟩
  rintro m τ S ⟨i, hm, rfl, rfl⟩
  by_cases hlt : i < c.length
  · obtain ⟨x, hx⟩ : ∃ x, c[i]? = some x := ⟨_, List.getElem?_eq_getElem hlt⟩
    rcases id ha with ⟨e, -⟩ | ⟨ia, -, rfl, hia⟩
    · rw [e] at hlt; simp at hlt
    rcases id hb with ⟨e, -⟩ | ⟨ib, -, rfl, hib⟩
    · rw [e] at hlt; simp at hlt
    have hsg := flat_seg hx
    have hfl := Ins.flat_len c
    generalize c.flatMap Ins.cells = L at hsg hfl hia hib
    simp [hlt]
    simp [c12_2, hlt, hia, hib, hsg, Ins.cells, show i * 7 + 7 ≤ L.length by omega]
    simp [c12_1, wrap_s (n := (i : Int) + 1) (by omega)]
    exact ⟨m - 1, by omega, i + 1, by omega, by simp, rfl⟩
  · simp [hlt, okD_proper ha.pr, ha.len, c12_3]
    exact hQ _ _ ⟨rfl, rfl⟩
/-- What all threads' instructions are. -/
def ProgP (P : Prg) (H : List AObj) : AEnd → List AObj → Prop := fun r K => FrN (lenH H) H K ∧
  ((∃ (cs : List (List Ins)) (cvs : List AV), cs.length = P.threads.length ∧ cvs.length = P.threads.length ∧ (∀ i : Nat, i < P.threads.length → thR P i 4096 = cs[i]?) ∧
      (∀ (i : Nat) cv c, cvs[i]? = some cv → cs[i]? = some c → CV cv c K ∧ c.length ≤ 4096 ∧ ∀ j ∈ hid cv, lenH H ≤ j) ∧ r = .ret (.tuple [sl cvs, .bool true])) ∨
    (∃ i : Nat, i < P.threads.length ∧ thR P i 4096 = none) ∧ r = .ret (.tuple [.nils, .bool false]))
def I13 (P : Prg) (H : List AObj) (m : Nat) (τ : Env) (S : AS) : Prop :=
  ∃ (i : Nat) (cs : List (List Ins)) (cvs : List AV) (v : AV) (M : List AObj), m + i = P.threads.length ∧ cs.length = i ∧ cvs.length = i ∧ (∀ k : Nat, k < i → thR P k 4096 = cs[k]?) ∧
    (∀ (i : Nat) cv c, cvs[i]? = some cv → cs[i]? = some c → CV cv c M ∧ c.length ≤ 4096 ∧ ∀ j ∈ hid cv, lenH H ≤ j) ∧ (∀ cv ∈ cvs, cv.okv = true ∧ cv.cells = [cv] ∧ cv.erase = cv) ∧ TipN (lenH H) M v cvs ∧ FrN (lenH H) H M ∧
    τ = [(1, .lref 1 0), (4, v), (10, .int .i64 P.threads.length), (11, .int .i64 i)] ∧ S = ⟨[(1, P.cells)], M, []⟩
theorem Program_c (hw : PW P) : SCalls Tryz.prog 13 [P.av] H (ProgP P H) := by
  have hnt := hw.pv.nt
  refine fn_go k13 rfl ?_
  intro Q hQ
  simp [c13, Prg.av]
  refine loop_keep (n := P.threads.length) (I13 P H) ?_ ⟨0, [], [], .nils, H, by simp, rfl, rfl, by simp, by simp, by simp, .inl ⟨rfl, rfl⟩, .refl _ _, by simp, rfl⟩
  rintro m τ S ⟨i, cs, cvs, v, M, hm, hcs, hcvs, hth, hcv, hok, htip, hfr, rfl, rfl⟩
  by_cases hlt : i < P.threads.length
  · have hT := Thread_c (H := M) hw (i := i) (by omega)
    simp only [Prg.av] at hT
    simp [hlt]
    simp [c13_3, Prg.cells]
    refine hT.mono ?_
    rintro r K ⟨fr, hr⟩
    have hlM := hfr.1
    have hfrK : FrN (lenH H) H K := hfr.trans (FrN.weak fr hlM)
    cases hn : thR P i 4096 with
    | none =>
      rw [hn] at hr
      simp only at hr
      subst hr
      simp
      exact hQ _ _ ⟨hfrK, .inr ⟨⟨i, hlt, hn⟩, rfl⟩⟩
    | some c =>
      rw [hn] at hr
      simp only at hr
      obtain ⟨hl, cv, rfl, hcvc, hids⟩ := hr
      obtain ⟨w1, w2, w3⟩ := hcvc.val
      have tip1 : TipN (lenH H) K v cvs := htip.keep fun t ht h2 => by rw [fr.2 t (getH_lt (by simp [h2])), h2]
      have tip2 := tip1.gr ((Gr.refl K).add (o := .tip))
      have hlK := fr.1
      have hwid : wid 1 cvs = true := by
        unfold wid
        rw [List.all_eq_true]
        intro x hx
        obtain ⟨y1, y2, -⟩ := hok x hx
        rw [y1, y2]; rfl
      obtain ⟨M3, happ, tip5, fr5, hk5⟩ := tip2.app (lo := [(1, P.cells)]) (df := []) (e := 1) (b := 24) (x := cv) (by simp; omega) hwid (by simp only [roomA_eq]; omega)
      rw [w3] at happ tip5
      simp [Prg.cells] at happ tip5
      have htok : ∀ r ∈ tokOf v, lenH H ≤ r := by
        intro r hr
        rcases tip1 with ⟨-, e⟩ | ⟨t, -, e, -, hn⟩
        · rw [e] at hr; simp at hr
        · rw [e] at hr; simp at hr; omega
      have hold : ∀ r, r < lenH K → r ∉ tokOf v → getH M3 r = getH K r := fun r hr hn => by
        rw [hk5 r (by simp; omega) hn, getH_add_old (getH_isSome.2 hr)]
      have htips : ∀ r, r < lenH K → getH K r ≠ some .tip → getH M3 r = getH K r := fun r hr hnt => hold r hr fun hm => hnt (tip1.lt r hm).2
      have hl5 : lenH K ≤ lenH M3 := by have := fr5.1; simp at this; omega
      simp [okD_proper hcvc.pr, c13_1, okD_proper htip.proper, wid, w1, w2, w3, happ, c13_2, wrap_s (n := (i : Int) + 1) (by omega)]
      refine ⟨m - 1, by omega, i + 1, cs ++ [c], cvs ++ [cv], _, M3, by omega, by simp [hcs], by simp [hcvs], fun k hk => ?_, fun k cv' c' h1 h2 => ?_, fun x hx => ?_, tip5, ⟨by omega, fun r hr => by rw [hold r (by omega) (fun hm => by have := htok r hm; omega), hfrK.2 r hr]⟩, by simp, rfl⟩
      · rcases Nat.lt_or_ge k i with h | h
        · rw [hth k h, List.getElem?_append_left (by omega)]
        · have : k = i := by omega
          subst this
          rw [hn, List.getElem?_append_right (by omega)]
          simp [hcs]
      · rcases Nat.lt_or_ge k i with h | h
        · rw [List.getElem?_append_left (by omega)] at h1 h2
          obtain ⟨q1, q2, q3⟩ := hcv k cv' c' h1 h2
          exact ⟨(q1.fr fr).tips htips, q2, q3⟩
        · rw [List.getElem?_append_right (by omega)] at h1 h2
          have hk : k = i := by
            have := (List.getElem?_eq_some_iff.1 h1).1
            simp at this
            omega
          subst hk
          simp [hcs] at h1 h2
          have e1 : cv' = cv := by
            have : k - cvs.length = 0 := by omega
            simp [this] at h1
            exact h1.symm
          subst e1 h2
          exact ⟨hcvc.tips htips, hl, fun j hj => by have := hids j hj; omega⟩
      · rcases List.mem_append.1 hx with hx | hx
        · exact hok x hx
        · simp at hx; subst hx; exact ⟨w1, w2, w3⟩
  · have hin : i = P.threads.length := by omega
    have hfin : Q (.ret (.tuple [sl cvs, .bool true])) M := hQ _ _ ⟨hfr, .inl ⟨cs, cvs, by omega, by omega, fun k hk => hth k (by omega), hcv, rfl⟩⟩
    rcases htip with ⟨e1, rfl⟩ | ⟨t, e1, rfl, -⟩
    · subst e1
      simp [hlt, c13_4]
      simpa [resV] using hfin
    · rw [sl_ne e1] at hfin
      simp [hlt, c13_4]
      simpa [resV, AV.erase, AV.drop1] using hfin
end
end Go.Ab

/- The law's live example: awake. -/
namespace Go.Ab
open Go.Proofs

set_option maxRecDepth 100000
set_option maxHeartbeats 8000000
/-- The instructions of the example's first thread. -/
def code9 : List Ins := [⟨0, 0, 0, 0, 0, 1, 0⟩, ⟨0, 0, 1, 0, 0, 2, 0⟩, ⟨7, 0, 0, 1, 0, 0, 6⟩, ⟨2, 3, 2, 0, 1, 0, 0⟩, ⟨11, 0, 0, 2, 0, 0, 0⟩, ⟨13, 0, 0, 0, 0, 0, 0⟩, ⟨12, 0, 0, 0, 0, 1, 0⟩]
theorem dig9_0 (K : List AObj) : evF (look tb9) 100 10 45 [.int .i64 0] K = some (.ret (.str [48]), K) := by kernel_rfl
theorem shw9_0 (K : List AObj) : evF (look tb9) 100 10 46 [Ins.av ⟨0, 0, 0, 0, 0, 1, 0⟩] K = some (.ret (.str [115, 101, 116, 32, 114, 48, 32, 49]), K ++ [.tip]) := by kernel_rfl
theorem dig9_1 (K : List AObj) : evF (look tb9) 100 10 45 [.int .i64 1] K = some (.ret (.str [49]), K) := by kernel_rfl
theorem shw9_1 (K : List AObj) : evF (look tb9) 100 10 46 [Ins.av ⟨0, 0, 1, 0, 0, 2, 0⟩] K = some (.ret (.str [115, 101, 116, 32, 114, 49, 32, 50]), K ++ [.tip]) := by kernel_rfl
theorem dig9_2 (K : List AObj) : evF (look tb9) 100 10 45 [.int .i64 2] K = some (.ret (.str [50]), K) := by kernel_rfl
theorem shw9_2 (K : List AObj) : evF (look tb9) 100 10 46 [Ins.av ⟨7, 0, 0, 1, 0, 0, 6⟩] K = some (.ret (.str [122, 101, 114, 111, 32, 114, 49, 32, 54]), K ++ [.tip]) := by kernel_rfl
theorem dig9_3 (K : List AObj) : evF (look tb9) 100 10 45 [.int .i64 3] K = some (.ret (.str [51]), K) := by kernel_rfl
theorem shw9_3 (K : List AObj) : evF (look tb9) 100 10 46 [Ins.av ⟨2, 3, 2, 0, 1, 0, 0⟩] K = some (.ret (.str [99, 97, 108, 99, 32, 114, 50, 32, 114, 48, 32, 47, 32, 114, 49]), K ++ [.tip]) := by kernel_rfl
theorem dig9_4 (K : List AObj) : evF (look tb9) 100 10 45 [.int .i64 4] K = some (.ret (.str [52]), K) := by kernel_rfl
theorem shw9_4 (K : List AObj) : evF (look tb9) 100 10 46 [Ins.av ⟨11, 0, 0, 2, 0, 0, 0⟩] K = some (.ret (.str [111, 117, 116, 32, 114, 50]), K ++ [.tip]) := by kernel_rfl
theorem dig9_5 (K : List AObj) : evF (look tb9) 100 10 45 [.int .i64 5] K = some (.ret (.str [53]), K) := by kernel_rfl
theorem shw9_5 (K : List AObj) : evF (look tb9) 100 10 46 [Ins.av ⟨13, 0, 0, 0, 0, 0, 0⟩] K = some (.ret (.str [104, 97, 108, 116]), K ++ [.tip]) := by kernel_rfl
theorem dig9_6 (K : List AObj) : evF (look tb9) 100 10 45 [.int .i64 6] K = some (.ret (.str [54]), K) := by kernel_rfl
theorem shw9_6 (K : List AObj) : evF (look tb9) 100 10 46 [Ins.av ⟨12, 0, 0, 0, 0, 1, 0⟩] K = some (.ret (.str [116, 114, 97, 112, 32, 49]), K ++ [.tip]) := by kernel_rfl

theorem thr9_0 : thR P9 0 4096 = some code9 := by
  have : thR P9 0 4096 = (lthread P9 ((P9.threads[0]?).getD []) 4096 ⟨[], 0⟩).map fun p => p.2.c := if_pos (by decide)
  rw [this]
  rfl
theorem thr9_1 : thR P9 1 4096 = some [⟨13, 0, 0, 0, 0, 0, 0⟩] := by
  have : thR P9 1 4096 = (lthread P9 ((P9.threads[1]?).getD []) 4096 ⟨[], 0⟩).map fun p => p.2.c := if_pos (by decide)
  rw [this]
  rfl
theorem thr9_2 : thR P9 2 4096 = none := if_neg (by decide)
/-- What a line of a code is. -/
def Line (i : Nat) (x : Ins) (s : List UInt8) : Prop := ∃ d t, s = d ++ [32] ++ t ++ [10] ∧ (∀ K, SCalls Tryz.prog 45 [.int .i64 i] K fun r K' => r = .ret (.str d) ∧ K' = K) ∧ ∀ K, SCalls Tryz.prog 46 [x.av] K fun r K' => r = .ret (.str t) ∧ Gr K K'
theorem line_of' {i : Nat} {x : Ins} {d t : List UInt8} (h1 : ∀ K, evF (look tb9) 100 10 45 [.int .i64 i] K = some (.ret (.str d), K)) (h2 : ∀ K, evF (look tb9) 100 10 46 [x.av] K = some (.ret (.str t), K ++ [.tip])) : Line i x (d ++ [32] ++ t ++ [10]) :=
  ⟨d, t, rfl, fun K => evF_ok tb9_ok 10 _ _ _ _ _ _ (h1 K) ⟨rfl, rfl⟩, fun K => evF_ok tb9_ok 10 _ _ _ _ _ _ (h2 K) ⟨rfl, (Gr.refl K).add (o := .tip)⟩⟩
def lines9 : List (List UInt8) := [[48, 32, 115, 101, 116, 32, 114, 48, 32, 49, 10],
  [49, 32, 115, 101, 116, 32, 114, 49, 32, 50, 10],
  [50, 32, 122, 101, 114, 111, 32, 114, 49, 32, 54, 10],
  [51, 32, 99, 97, 108, 99, 32, 114, 50, 32, 114, 48, 32, 47, 32, 114, 49, 10],
  [52, 32, 111, 117, 116, 32, 114, 50, 10],
  [53, 32, 104, 97, 108, 116, 10],
  [54, 32, 116, 114, 97, 112, 32, 49, 10]]
theorem lines9_ok : ∀ (i : Nat) (x : Ins) (s : List UInt8), code9[i]? = some x → lines9[i]? = some s → Line i x s := by
  intro i x s h1 h2
  match i, h1, h2 with
  | 0, h1, h2 => cases h1; cases h2; exact line_of' dig9_0 shw9_0
  | 1, h1, h2 => cases h1; cases h2; exact line_of' dig9_1 shw9_1
  | 2, h1, h2 => cases h1; cases h2; exact line_of' dig9_2 shw9_2
  | 3, h1, h2 => cases h1; cases h2; exact line_of' dig9_3 shw9_3
  | 4, h1, h2 => cases h1; cases h2; exact line_of' dig9_4 shw9_4
  | 5, h1, h2 => cases h1; cases h2; exact line_of' dig9_5 shw9_5
  | 6, h1, h2 => cases h1; cases h2; exact line_of' dig9_6 shw9_6
  | i + 7, h1, h2 => simp [code9] at h1
def I22 (cv : AV) (ss : List (List UInt8)) (n : Nat) (H : List AObj) (m : Nat) (τ : Env) (S : AS) : Prop :=
  ∃ (i : Nat) (M : List AObj), m + i = n ∧ Gr H M ∧ τ = [(0, cv), (3, .str (ss.take i).flatten), (4, .int .i64 i)] ∧ S = ⟨[], M, []⟩
/-- A code's text. -/
theorem text_c {H : List AObj} {cv : AV} {c : List Ins} {ss : List (List UInt8)} (h : CV cv c H) (hl : ss.length = c.length) (hb : c.length ≤ 2 ^ 40) (hs : ss.flatten.length ≤ 2 ^ 40) (hln : ∀ (i : Nat) (x : Ins) (s : List UInt8), c[i]? = some x → ss[i]? = some s → Line i x s) :
    SCalls Tryz.prog 22 [cv] H (fun r K => r = .ret (.str ss.flatten) ∧ Gr H K) := by
  refine fn_go k22 rfl ?_
  intro Q hQ
  simp [c22]
  refine loop_keep (n := c.length) (I22 cv ss c.length H) ?_ ⟨0, H, by simp, .refl _, by simp, rfl⟩
  rintro m τ S ⟨i, M, hm, g, rfl, rfl⟩
  have hM := h.fr (K := M) ⟨g.len, fun r hr => g.old r (getH_isSome.2 hr)⟩
  by_cases hlt : i < c.length
  · obtain ⟨x, hx⟩ : ∃ x, c[i]? = some x := ⟨_, List.getElem?_eq_getElem hlt⟩
    obtain ⟨s, hsi⟩ : ∃ s, ss[i]? = some s := ⟨_, List.getElem?_eq_getElem (by omega)⟩
    obtain ⟨d, t, hst, h45, h46⟩ := hln i x s hx hsi
    have htk : (ss.take (i + 1)).flatten = (ss.take i).flatten ++ s := by rw [List.take_add_one, hsi]; simp
    rcases id hM with ⟨e, -⟩ | ⟨q, -, rfl, hq⟩
    · rw [e] at hlt; simp at hlt
    have hsg := flat_seg hx
    have hfl := Ins.flat_len c
    have hav : x.av = .agg x.cells := rfl
    simp only [hav, Ins.cells] at h46
    generalize c.flatMap Ins.cells = L at hsg hfl hq
    simp [hlt]
    simp [c22_1, hlt, hq, hsg, Ins.cells, show i * 7 + 7 ≤ L.length by omega]
    refine (h45 M).mono ?_
    rintro r K ⟨rfl, rfl⟩
    have hfl2 : (ss.take i).flatten.length + s.length ≤ 2 ^ 40 := by
      have h1 : ss.flatten = (ss.take (i + 1)).flatten ++ (ss.drop (i + 1)).flatten := by rw [← List.flatten_append, List.take_append_drop]
      have h2 := congrArg List.length h1
      rw [htk] at h2
      simp only [List.length_append] at h2
      omega
    rw [hst] at hfl2
    simp only [List.length_append, List.length_cons, List.length_nil] at hfl2
    have a1 : d.length + 1 ≤ 4611686018427387904 := by omega
    have a1' : d.length ≤ 4611686018427387903 := by omega
    simp [hlt, hq, hsg, Ins.cells, show i * 7 + 7 ≤ L.length by omega, a1, a1']
    refine (h46 _).mono ?_
    rintro r K2 ⟨rfl, g2⟩
    have a2 : d.length + 1 + t.length ≤ 4611686018427387904 := by omega
    have a2' : d.length + (t.length + 1) ≤ 4611686018427387904 := by omega
    have a3 : d.length + 1 + t.length + 1 ≤ 4611686018427387904 := by omega
    have a3' : d.length + (t.length + 1 + 1) ≤ 4611686018427387904 := by omega
    have a3'' : d.length + (t.length + 1) + 1 ≤ 4611686018427387904 := by omega
    simp only [List.length_flatten] at hfl2
    have a4 : (List.take i (List.map List.length ss)).sum + (d.length + (t.length + 1 + 1)) ≤ 4611686018427387904 := by
      rw [← List.map_take]
      omega
    simp [a2, a2', a3, a3', a3'', a4, wrap_s (n := (i : Int) + 1) (by omega)]
    exact ⟨m - 1, by omega, i + 1, K2, by omega, g.trans g2, by simp [htk, hst], rfl⟩
  · simp [hlt, okD_proper hM.pr, hM.len, c22_2]
    have : ss.take i = ss := List.take_of_length_le (by omega)
    rw [this]
    exact hQ _ _ ⟨rfl, g⟩
theorem awake_c : SCalls Tryz.prog 8 [] [] (fun r _ => r = .ret (.bool true)) := by
  have hT0 := fun M => Thread_c (H := M) P9_pw (i := 0) (by omega)
  have hT2 := fun M => Thread_c (H := M) P9_pw (i := 2) (by omega)
  have hP := fun M => Program_c (H := M) P9_pw
  refine fn_go k8 rfl ?_
  intro Q hQ
  obtain ⟨T9, htv⟩ : ∃ T9, P9.av = .agg [.nils, .nils, .nils, sl T9] := ⟨P9.threads.map Thr.av, rfl⟩
  rw [htv] at hT0 hT2 hP
  have hex := ex_c
  rw [htv] at hex
  unfold ex9 at hex
  simp [c8]
  refine hex.mono ?_
  rintro r K rfl
  simp
  refine (hT0 _).mono ?_
  rintro r K1 ⟨fr1, h1⟩
  rw [thr9_0] at h1
  simp only at h1
  obtain ⟨-, cv0, rfl, hcv0, -⟩ := h1
  obtain ⟨w1, w2, w3⟩ := hcv0.val
  simp [okD_proper hcv0.pr]
  refine (hP _).mono ?_
  rintro r K2 ⟨fr2, h2⟩
  obtain ⟨cs, cvs, l1, l2, hth, hcvs, rfl⟩ := h2.resolve_right fun h => by
    obtain ⟨⟨i, hi, hn⟩, -⟩ := h
    have : i = 0 ∨ i = 1 := by
      have : P9.threads.length = 2 := rfl
      omega
    rcases this with rfl | rfl
    · rw [show ((0 : Nat) : Int) = 0 from rfl, thr9_0] at hn; cases hn
    · rw [show ((1 : Nat) : Int) = 1 from rfl, thr9_1] at hn; cases hn
  have l2' : cvs.length = 2 := l2
  obtain ⟨a, b, rfl⟩ : ∃ a b, cvs = [a, b] := by
    rcases cvs with _ | ⟨a, _ | ⟨b, _ | _⟩⟩ <;> simp at l2'
    exact ⟨a, b, rfl⟩
  have hc1 : cs[1]? = some [⟨13, 0, 0, 0, 0, 0, 0⟩] := by
    rw [← hth 1 (by decide)]
    exact thr9_1
  obtain ⟨hb, -, -⟩ := hcvs 1 b _ rfl hc1
  obtain ⟨jb, rfl⟩ : ∃ j, b = .hs j 7 0 1 := by
    rcases hb with ⟨e, -⟩ | ⟨j, -, e, -⟩
    · cases e
    · exact ⟨j, e⟩
  simp
  refine (hT2 _).mono ?_
  rintro r K3 ⟨fr3, h3⟩
  rw [thr9_2] at h3
  simp only at h3
  subst h3
  have hcv3 := (hcv0.fr fr2).fr fr3
  have htx := text_c (ss := lines9) hcv3 rfl (by decide) (by decide) lines9_ok
  simp [okD_proper hcv0.pr, hcv0.pr, w3]
  refine htx.mono ?_
  rintro r K4 ⟨rfl, -⟩
  simp [lines9]
  exact hQ _ _ rfl
end Go.Ab

/- LowerTells, on the abstract machine. -/
namespace Go.Ab
open Go.Proofs

set_option maxRecDepth 100000
set_option maxHeartbeats 8000000
theorem thR_up {P : Prg} {i : Int} {c : List Ins} (h : thR P i 4096 = some c) : thR P i 4097 = some c := by
  unfold thR at h ⊢
  split at h
  · rename_i h0
    rw [if_pos h0]
    cases hl : lthread P ((P.threads[i.toNat]?).getD []) 4096 ⟨[], 0⟩ with
    | none => rw [hl] at h; cases h
    | some p =>
      obtain ⟨u, s'⟩ := p
      rw [(Lim.thread _ _).up _ _ _ _ hl]
      rw [hl] at h
      exact h
  · cases h
theorem thR_dn {P : Prg} {i : Int} {c : List Ins} (h : thR P i 4097 = some c) (hc : c.length ≤ 4096) : thR P i 4096 = some c := by
  unfold thR at h ⊢
  split at h
  · rename_i h0
    rw [if_pos h0]
    cases hl : lthread P ((P.threads[i.toNat]?).getD []) 4097 ⟨[], 0⟩ with
    | none => rw [hl] at h; cases h
    | some p =>
      obtain ⟨u, s'⟩ := p
      rw [hl] at h
      simp only [Option.map_some, Option.some.injEq] at h
      subst h
      rw [(Lim.thread _ _).dn _ _ _ _ hl hc]
      rfl
  · cases h
section
variable {H : List AObj}
/-- What both tell of a thread is the same. -/
def TwoP (P : Prg) (i : Int) (b : Bool) (c : List Ins) (v : AV) (K : List AObj) : Prop := b = (thR P i 4096).isSome ∧ c = (thR P i 4096).getD [] ∧ CV v c K ∧ c.length ≤ 4096
theorem two_1 {P : Prg} {i : Int} {r : AEnd} {K : List AObj} (h : ThP P i H r K) : FrN (lenH H) H K ∧ ∃ b c v, r = .ret (.tuple [v, .bool b]) ∧ TwoP P i b c v K := by
  obtain ⟨fr, h⟩ := h
  refine ⟨fr, ?_⟩
  cases hn : thR P i 4096 with
  | none => rw [hn] at h; exact ⟨false, [], .nils, h, by rw [hn]; rfl, by rw [hn]; rfl, .inl ⟨rfl, rfl⟩, by simp⟩
  | some c =>
    rw [hn] at h
    obtain ⟨hl, cv, h1, h2, -⟩ := h
    exact ⟨true, c, cv, h1, by rw [hn]; rfl, by rw [hn]; rfl, h2, hl⟩
theorem two_2 {P : Prg} {i : Int} {r : AEnd} {K : List AObj} (hb : ∀ c, thR P i 4096 = some c → c.length ≤ 4096) (h : ThQ P i H r K) : FrN (lenH H) H K ∧ ∃ b c v, r = .ret (.tuple [v, .bool b]) ∧ TwoP P i b c v K := by
  obtain ⟨fr, h⟩ := h
  refine ⟨fr, ?_⟩
  rcases h with ⟨c, cv, h1, h2, h3, h4, -⟩ | ⟨h1, h2⟩
  · have := thR_dn h1 h2
    exact ⟨true, c, cv, h3, by rw [this]; rfl, by rw [this]; rfl, h4, h2⟩
  · have : thR P i 4096 = none := by
      cases hn : thR P i 4096 with
      | none => rfl
      | some c =>
        have h3 := h1 c (thR_up hn)
        have := hb c hn
        omega
    exact ⟨false, [], .nils, h2, by rw [this]; rfl, by rw [this]; rfl, .inl ⟨rfl, rfl⟩, by simp⟩
def allTo (P : Prg) (k : Nat) : Bool := (List.range k).all fun j => (thR P j 4096).isSome
def I3 (P : Prg) (m : Nat) (τ : Env) (S : AS) : Prop :=
  ∃ (k : Nat) (M : List AObj), m + k = P.threads.length + 2 ∧ τ = [(4, .lref 4 0), (7, .bool (allTo P (min (k - 1) P.threads.length))), (8, .int .i64 ((k : Int) - 1))] ∧ S = ⟨[(4, P.cells)], M, []⟩
theorem Tells_c {s : List UInt8} : SCalls Tryz.prog 3 [.str s] [] (fun r _ => r = .ret (.bool true)) := by
  refine fn_go k3 rfl ?_
  intro Q hQ
  simp [c3]
  refine awake_c.mono ?_
  rintro r K rfl
  simp
  by_cases hs : (6000 : Int) < s.length
  · simp [c3_7, hs]
    exact hQ _ _ rfl
  simp [c3_7, hs, c3_6]
  refine (Text_c (s := s) (by omega)).mono ?_
  rintro r K ⟨P, e, a, rfl, fr, hpw, -⟩
  simp [Prg.av]
  by_cases he : e = 0
  · subst he
    have hw := hpw rfl
    have hnt := hw.pv.nt
    simp
    simp [c3_5]
    refine loop_keep (n := P.threads.length + 2) (I3 P) ?_ ⟨0, K, by simp, by simp [allTo], rfl⟩
    rintro m τ S ⟨k, M, hm, rfl, rfl⟩
    have hlen : ∀ S, lenA S .l (sl (P.threads.map Thr.av)) = some P.threads.length := by simp
    by_cases hlt : k < P.threads.length + 2
    · have h1 := Thread_c (H := M) hw (i := (k : Int) - 1) (by omega)
      have h2 := fun M => Thread_r (H := M) hw (i := (k : Int) - 1) (by omega)
      simp only [Prg.av] at h1 h2
      have hle : (k : Int) - 1 ≤ P.threads.length := by omega
      simp [Prg.cells, hle]
      simp [c3_3]
      refine h1.mono ?_
      rintro r K1 hp1
      obtain ⟨fr1, b1, cc1, v1, rfl, t1⟩ := two_1 hp1
      obtain ⟨p1, p2, p3, p4⟩ := t1
      simp [okD_proper p3.pr]
      refine (h2 K1).mono ?_
      rintro r K2 hp2
      obtain ⟨fr2, b2, cc2, v2, rfl, t2⟩ := two_2 (fun c hc => by rw [p2, hc] at p4; simpa using p4) hp2
      obtain ⟨q1, q2, q3, q4⟩ := t2
      have hbb : b2 = b1 := by rw [p1, q1]
      have hcc : cc2 = cc1 := by rw [p2, q2]
      subst hbb hcc
      have p3' := p3.fr fr2
      simp [okD_proper p3.pr, okD_proper q3.pr, p3.pr, q3.pr, p3.val.2.2, q3.val.2.2]
      refine (Same_c p3' q3 (by omega)).mono ?_
      rintro r K3 ⟨rfl, rfl⟩
      simp
      rcases Nat.eq_zero_or_pos k with rfl | hk0
      · simp [c3_1, c3_2, show ¬ (0 : Int) ≤ ((0 : Nat) : Int) - 1 by omega]
        exact ⟨m - 1, by omega, 1, K3, by omega, by simp [wrap_s (n := (0 : Int)) (by omega)], rfl⟩
      · have hge : (0 : Int) ≤ (k : Int) - 1 := by omega
        have hge1 : (1 : Int) ≤ (k : Int) := by omega
        have hge2 : 1 ≤ k := hk0
        by_cases hk : k - 1 < P.threads.length
        · have hlt1 : (k : Int) - 1 < P.threads.length := by omega
          have e1 : min (k - 1) P.threads.length = k - 1 := by omega
          have e2 : min (k + 1 - 1) P.threads.length = (k - 1) + 1 := by omega
          have ek : ((k - 1 : Nat) : Int) = (k : Int) - 1 := by omega
          have hstep : allTo P ((k - 1) + 1) = (allTo P (k - 1) && b2) := by
            unfold allTo
            rw [List.range_succ, List.all_append, p1, ← ek]
            simp
          rw [e1]
          cases hA : allTo P (k - 1) with
          | true =>
            rw [hA] at hstep
            simp [c3_1, c3_2, hge, hge1, hge2, hlt1, wrap_s (n := (k : Int) - 1 + 1) (by omega), wrap_s (n := (k : Int)) (by omega)]
            exact ⟨m - 1, by omega, k + 1, K3, by omega, by rw [e2, hstep]; simp, rfl⟩
          | false =>
            rw [hA] at hstep
            simp [c3_1, c3_2, hge, hge1, hge2, hlt1, wrap_s (n := (k : Int) - 1 + 1) (by omega), wrap_s (n := (k : Int)) (by omega)]
            exact ⟨m - 1, by omega, k + 1, K3, by omega, by rw [e2, hstep]; simp, rfl⟩
        · have hlt1 : ¬ (k : Int) - 1 < P.threads.length := by omega
          have e1 : min (k - 1) P.threads.length = min (k + 1 - 1) P.threads.length := by omega
          rw [e1]
          simp [c3_1, c3_2, hge, hge1, hge2, hlt1, wrap_s (n := (k : Int) - 1 + 1) (by omega), wrap_s (n := (k : Int)) (by omega)]
          exact ⟨m - 1, by omega, k + 1, K3, by omega, by simp, rfl⟩
    · have hle : ¬ (k : Int) - 1 ≤ P.threads.length := by omega
      simp [Prg.cells, hle]
      simp [c3_4]
      have hP := Program_c (H := M) hw
      simp only [Prg.av] at hP
      refine hP.mono ?_
      rintro r K1 ⟨fr1, hr⟩
      have hmin : min (k - 1) P.threads.length = P.threads.length := by omega
      rw [hmin]
      rcases hr with ⟨cs, cvs, l1, l2, hth, -, rfl⟩ | ⟨⟨i, hi, hn⟩, rfl⟩
      · have hall : allTo P P.threads.length = true := by
          unfold allTo
          rw [List.all_eq_true]
          intro j hj
          rw [List.mem_range] at hj
          rw [hth j hj, List.getElem?_eq_getElem (by omega)]
          rfl
        simp [hall, l2]
        exact hQ _ _ rfl
      · have hall : allTo P P.threads.length = false := by
          unfold allTo
          rw [List.all_eq_false]
          exact ⟨i, List.mem_range.2 hi, by rw [hn]; simp⟩
        simp [hall]
        exact hQ _ _ rfl
  · simp [he]
    exact hQ _ _ rfl
end
end Go.Ab
