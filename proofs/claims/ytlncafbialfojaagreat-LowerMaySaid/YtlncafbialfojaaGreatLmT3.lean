/- What the functions come to (part 10). No conditions. -/
import Derived.Test.YtlncafbialfojaaGreatLmT2
set_option linter.unusedVariables false
set_option linter.unusedSimpArgs false
namespace Go.Ab
open Go.Proofs

set_option maxRecDepth 100000
set_option maxHeartbeats 8000000
theorem LM.here_bind {α : Type} {f : Nat → LM α} {L : Nat} {s : LS} : (lhere.bind f) L s = f s.c.length L s := rfl
theorem LM.to_bind {α : Type} {k n : Nat} {f : Unit → LM α} {L : Nat} {s : LS} : ((lto k n).bind f) L s = f () L ⟨s.c.modify k (Ins.goto n), s.r⟩ := rfl
section
variable {n o : Nat} {P : Prg} {cl : List UInt8 → List Int → LM Int} {s s1 : LS} {V V1 : LV} {σ σ' : Lp} {H K : List AObj} {F : Int}
theorem Lo.ones' (h : Lo n o P s V σ H) {r : Nat} {x : AV} (hr : getH H r = some (.cells [x])) : r ∉ σ.m :: σ.own o := fun hm => by
  rcases List.mem_cons.1 hm with rfl | hm
  · obtain ⟨em, hm, -⟩ := h.hm
    rw [hm] at hr; simp at hr
  · exact h.ones hr hm
theorem LKS.one (lk : LKS o σ H σ' K) (h : Lo n o P s V σ H) {r : Nat} {x : AV} (hr : getH H r = some (.cells [x])) : getH K r = some (.cells [x]) := by
  rw [lk.keep r (getH_lt (by simp [hr])) (h.ones' hr), hr]
theorem LKeep.one (lk : LKeep o σ H σ' K) (h : Lo n o P s V σ H) {r : Nat} {x : AV} (hr : getH H r = some (.cells [x])) : getH K r = some (.cells [x]) := lk.s.one h hr
theorem pre_at {c c' : List Ins} {x : Ins} (h : c ++ [x] <+: c') : c.length < c'.length ∧ ∀ y, c'[c.length]? = some y → y = x := by
  have hl := h.length_le
  simp at hl
  refine ⟨by omega, fun y hy => ?_⟩
  obtain ⟨r, rfl⟩ := h
  rw [List.append_assoc, List.getElem?_append_right (Nat.le_refl _)] at hy
  simp at hy
  exact hy.symm
theorem modify_app {a b : List Ins} {k : Nat} {f : Ins → Ins} (h : k < a.length) : (a ++ b).modify k f = a.modify k f ++ b := by
  apply List.ext_getElem?
  intro j
  rw [List.getElem?_modify]
  by_cases hj : j < a.length
  · rw [List.getElem?_append_left hj, List.getElem?_append_left (by simpa using hj), List.getElem?_modify]
  · rw [List.getElem?_append_right (by omega), List.getElem?_append_right (by simp; omega)]
    have : ¬ k = j := by omega
    simp [this]
/-- A block, by what its statements come to. -/
theorem block2_c {b : List St} (ih : SC n o P cl F b) (h : Lo n o P s V σ H) (hr : s.r ≤ s.c.length) (hsc : St.scs P F (V.map Prod.fst) b) :
    SCalls Tryz.prog 27 [.ptr o 0, sl (St.avs b)] H (fun r K => (lstmts P cl b V 4096 s = none ∧ r = .pan tooMany ∧ PKS o σ H K) ∨
      (∃ V1 s' σ', lstmts P cl b V 4096 s = some (V1, s') ∧ r = .ret (.tuple []) ∧ Lo n o P s' V σ' K ∧ LKS o σ H σ' K ∧ s'.r ≤ s'.c.length)) := by
  refine (blockl_c ih h hr hsc).mono ?_
  intro r K hsp
  rcases hsp.c2 with ⟨hm1, rfl, pk⟩ | ⟨V1, s1, σ1, hm1, rfl, h2, lk, hr2⟩
  · left
    cases hm : lstmts P cl b V 4096 s with
    | none => exact ⟨rfl, rfl, pk⟩
    | some p => obtain ⟨V2, s2⟩ := p; rw [LM.bind_some hm] at hm1; cases hm1
  · right
    cases hm : lstmts P cl b V 4096 s with
    | none => rw [LM.bind_none hm] at hm1; cases hm1
    | some p =>
      obtain ⟨V2, s2⟩ := p
      rw [LM.bind_some hm] at hm1
      cases hm1
      exact ⟨V2, _, σ1, rfl, rfl, h2, lk, hr2⟩
theorem branch_c (hcl : ∀ s rs, Pre (cl s rs)) {a : Int} {t u : Bool} {nm : List UInt8} {i : List Ex} {x : Ex} {b l : List St} (h : Lo n o P s V σ H) (hr : s.r ≤ s.c.length) (hx : x.sc P (V.map Prod.fst)) (hb : St.scs P F (V.map Prod.fst) b) (hl : St.scs P F (V.map Prod.fst) l)
    (ihx : EC n o P cl x) (ihb : SC n o P cl F b) (ihl : SC n o P cl F l) :
    SCalls Tryz.prog 114 [.ptr o 0, (St.mk 2 a t u nm i [x] b l).av] H (SP n o P σ H (lstmt P cl (.mk 2 a t u nm i [x] b l) V 4096 s)) := by
  have ix : SCalls Tryz.prog 111 [.ptr o 0, x.av] H (LP n o P V σ H (lexpr P cl V x 4096 s) fun x v _ => v = .int .i64 x) := ihx h hr hx
  refine fn_go k114 rfl ?_
  intro Q hQ
  simp only [lstmt] at hQ
  simp at hQ
  obtain ⟨xk, xo, xn, xs, xks, xa⟩ := x
  simp [c114, St.av, Ex.av, Ex.avs]
  refine ix.mono ?_
  rintro r K1 hlp1
  rcases hlp1.c2 with ⟨hm1, rfl, pk1⟩ | ⟨x1, s1, v1, σ1, hm1, rfl, rfl, h1, lk1, hr1⟩
  · rw [LM.bind_none hm1] at hQ; simp; exact hQ _ _ ⟨rfl, pk1.s⟩
  rw [LM.bind_some hm1, LM.here_bind] at hQ
  simp
  refine (put_c (x := ⟨7, 0, 0, x1, 0, 0, 0⟩) (y := ⟨7, 0, 0, x1, 0, 0, 0⟩) h1 (un0 (by simp)) (tz rfl)).mono ?_
  rintro r K2 hlp2
  rcases hlp2.c2 with ⟨hm2, rfl, pk2⟩ | ⟨x2, s2, v2, σ2, hm2, rfl, ⟨ca, cb, rfl, hca, hcb⟩, h2, lk2, hr2⟩
  · rw [LM.bind_none hm2] at hQ; simp; exact hQ _ _ ⟨rfl, (lk1.pre pk2).s⟩
  rw [LM.bind_some hm2] at hQ
  simp
  have e2 : s2.c = s1.c ++ [⟨7, 0, 0, x1, 0, 0, 0⟩] := by
    simp only [lput] at hm2
    split at hm2
    · cases hm2; rfl
    · cases hm2
  refine (block2_c ihb h2 hr2 hb).mono ?_
  rintro r K3 (⟨hm3, rfl, pk3⟩ | ⟨V3, s3, σ3, hm3, rfl, h3, lk3, hr3⟩)
  · rw [LM.bind_none hm3] at hQ; simp; exact hQ _ _ ⟨rfl, (lk1.trans lk2).s.pre pk3⟩
  rw [LM.bind_some hm3] at hQ
  have p3 := Pre.stmts hcl b V 4096 s2 V3 s3 hm3
  rw [e2] at p3
  obtain ⟨z1, z2⟩ := pre_at p3
  have hca3 := lk3.one h2 hca
  have hcb3 := lk3.one h2 hcb
  have lk13 := (lk1.trans lk2).s.trans lk3
  by_cases hle : l = []
  · subst hle
    simp at hQ
    rw [LM.here_bind, LM.to_bind] at hQ
    simp
    refine (here_c h3).mono ?_
    rintro r K4 ⟨rfl, rfl⟩
    simp
    refine (to_c h3 hca3 hcb3 (m := s3.c.length) z1 (fun y hy => by rw [z2 y hy]; exact tz rfl)).mono ?_
    rintro r K5 ⟨rfl, h5, lk5⟩
    simp
    exact hQ _ _ ⟨rfl, σ3, h5, lk13.trans lk5.s, by simpa using hr3⟩
  · have hle2 : l.isEmpty = false := by simpa using hle
    have hle3 : ¬ (St.avs l) = [] := by simpa [St.avs_eq] using hle
    simp [hle] at hQ
    rw [LM.here_bind] at hQ
    simp [hle, hle3, St.avs_eq, c114_1]
    refine (put_c (x := ⟨6, 0, 0, 0, 0, 0, 0⟩) (y := ⟨6, 0, 0, 0, 0, 0, 0⟩) h3 (un0 (by simp)) (tz rfl)).mono ?_
    rintro r K4 hlp4
    rcases hlp4.c2 with ⟨hm4, rfl, pk4⟩ | ⟨x4, s4, v4, σ4, hm4, rfl, ⟨ca4, cb4, rfl, hca4, hcb4⟩, h4, lk4, hr4⟩
    · rw [LM.bind_none hm4] at hQ; simp; exact hQ _ _ ⟨rfl, lk13.pre pk4.s⟩
    rw [LM.bind_some hm4, LM.here_bind, LM.to_bind] at hQ
    have e4 : s4.c = s3.c ++ [⟨6, 0, 0, 0, 0, 0, 0⟩] := by
      simp only [lput] at hm4
      split at hm4
      · cases hm4; rfl
      · cases hm4
    simp
    refine (here_c h4).mono ?_
    rintro r K5 ⟨rfl, rfl⟩
    simp
    have p4 : s1.c ++ [⟨7, 0, 0, x1, 0, 0, 0⟩] <+: s4.c := by rw [e4]; exact p3.trans (List.prefix_append _ _)
    obtain ⟨z3, z4⟩ := pre_at p4
    refine (to_c h4 (lk4.one h3 hca3) (lk4.one h3 hcb3) (m := s4.c.length) z3 (fun y hy => by rw [z4 y hy]; exact tz rfl)).mono ?_
    rintro r K6 ⟨rfl, h6, lk6⟩
    have hca6 := lk6.one h4 hca4
    have hcb6 := lk6.one h4 hcb4
    have lk46 := (lk13.trans lk4.s).trans lk6.s
    simp
    have e : sl (List.map St.av l) = sl (St.avs l) := by rw [St.avs_eq]
    rw [e]
    refine (block2_c ihl h6 (by simpa using hr4) hl).mono ?_
    rintro r K7 (⟨hm7, rfl, pk7⟩ | ⟨V7, s7, σ7, hm7, rfl, h7, lk7, hr7⟩)
    · rw [LM.bind_none hm7] at hQ; simp; exact hQ _ _ ⟨rfl, lk46.pre pk7⟩
    rw [LM.bind_some hm7, LM.here_bind, LM.to_bind] at hQ
    have p7 := Pre.stmts hcl l V 4096 _ V7 s7 hm7
    simp only at p7
    have p8 : s3.c.modify s1.c.length (Ins.goto s4.c.length) ++ [⟨6, 0, 0, 0, 0, 0, 0⟩] <+: s7.c := by
      have e5 : s4.c.modify s1.c.length (Ins.goto s4.c.length) = s3.c.modify s1.c.length (Ins.goto s4.c.length) ++ [⟨6, 0, 0, 0, 0, 0, 0⟩] := by
        rw [e4, modify_app z1]
      rw [e5] at p7
      exact p7
    obtain ⟨z5, z6⟩ := pre_at p8
    simp at z5 z6
    simp
    refine (here_c h7).mono ?_
    rintro r K8 ⟨rfl, rfl⟩
    simp
    refine (to_c h7 (lk7.one h6 hca6) (lk7.one h6 hcb6) (m := s7.c.length) z5 (fun y hy => by rw [z6 y hy]; exact tz rfl)).mono ?_
    rintro r K9 ⟨rfl, h9, lk9⟩
    simp
    exact hQ _ _ ⟨rfl, σ7, h9, (lk46.trans lk7).trans lk9.s, by simpa using hr7⟩
end
end Go.Ab

namespace Go.Ab
open Go.Proofs

set_option maxRecDepth 100000
set_option maxHeartbeats 8000000
section
variable {n o : Nat} {P : Prg} {cl : List UInt8 → List Int → LM Int} {s s1 : LS} {V V1 : LV} {σ σ' : Lp} {H K : List AObj} {F : Int}
theorem loopl_c (hcl : ∀ s rs, Pre (cl s rs)) {a : Int} {t u : Bool} {nm : List UInt8} {i : List Ex} {x : Ex} {b l : List St} (h : Lo n o P s V σ H) (hr : s.r ≤ s.c.length) (hx : x.sc P (V.map Prod.fst)) (hb : St.scs P F (V.map Prod.fst) b)
    (ihx : EC n o P cl x) (ihb : SC n o P cl F b) :
    SCalls Tryz.prog 115 [.ptr o 0, (St.mk 3 a t u nm i [x] b l).av] H (SP n o P σ H (lstmt P cl (.mk 3 a t u nm i [x] b l) V 4096 s)) := by
  have ix : SCalls Tryz.prog 111 [.ptr o 0, x.av] H (LP n o P V σ H (lexpr P cl V x 4096 s) fun x v _ => v = .int .i64 x) := ihx h hr hx
  refine fn_go k115 rfl ?_
  intro Q hQ
  simp only [lstmt] at hQ
  simp at hQ
  rw [LM.here_bind] at hQ
  obtain ⟨xk, xo, xn, xs, xks, xa⟩ := x
  simp [c115, St.av, Ex.av, Ex.avs]
  refine (here_c h).mono ?_
  rintro r K0 ⟨rfl, rfl⟩
  simp
  refine ix.mono ?_
  rintro r K1 hlp1
  rcases hlp1.c2 with ⟨hm1, rfl, pk1⟩ | ⟨x1, s1, v1, σ1, hm1, rfl, rfl, h1, lk1, hr1⟩
  · rw [LM.bind_none hm1] at hQ; simp; exact hQ _ _ ⟨rfl, pk1.s⟩
  rw [LM.bind_some hm1, LM.here_bind] at hQ
  simp
  refine (put_c (x := ⟨7, 0, 0, x1, 0, 0, 0⟩) (y := ⟨7, 0, 0, x1, 0, 0, 0⟩) h1 (un0 (by simp)) (tz rfl)).mono ?_
  rintro r K2 hlp2
  rcases hlp2.c2 with ⟨hm2, rfl, pk2⟩ | ⟨x2, s2, v2, σ2, hm2, rfl, ⟨ca, cb, rfl, hca, hcb⟩, h2, lk2, hr2⟩
  · rw [LM.bind_none hm2] at hQ; simp; exact hQ _ _ ⟨rfl, (lk1.pre pk2).s⟩
  rw [LM.bind_some hm2] at hQ
  simp
  have e2 : s2.c = s1.c ++ [⟨7, 0, 0, x1, 0, 0, 0⟩] := by
    simp only [lput] at hm2
    split at hm2
    · cases hm2; rfl
    · cases hm2
  refine (block2_c ihb h2 hr2 hb).mono ?_
  rintro r K3 (⟨hm3, rfl, pk3⟩ | ⟨V3, s3, σ3, hm3, rfl, h3, lk3, hr3⟩)
  · rw [LM.bind_none hm3] at hQ; simp; exact hQ _ _ ⟨rfl, (lk1.trans lk2).s.pre pk3⟩
  rw [LM.bind_some hm3] at hQ
  have p3 := Pre.stmts hcl b V 4096 s2 V3 s3 hm3
  rw [e2] at p3
  have hca3 := lk3.one h2 hca
  have hcb3 := lk3.one h2 hcb
  have lk13 := (lk1.trans lk2).s.trans lk3
  simp
  refine (put_c (x := ⟨6, 0, 0, 0, 0, 0, s.c.length⟩) (y := ⟨6, 0, 0, 0, 0, 0, s.c.length⟩) h3 (un0 (by simp)) (tz' (by simp))).mono ?_
  rintro r K4 hlp4
  rcases hlp4.c2 with ⟨hm4, rfl, pk4⟩ | ⟨x4, s4, v4, σ4, hm4, rfl, ⟨ca4, cb4, rfl, hca4, hcb4⟩, h4, lk4, hr4⟩
  · rw [LM.bind_none hm4] at hQ; simp; exact hQ _ _ ⟨rfl, lk13.pre pk4.s⟩
  rw [LM.bind_some hm4, LM.here_bind, LM.to_bind] at hQ
  have e4 : s4.c = s3.c ++ [⟨6, 0, 0, 0, 0, 0, s.c.length⟩] := by
    simp only [lput] at hm4
    split at hm4
    · cases hm4; rfl
    · cases hm4
  have p4 : s1.c ++ [⟨7, 0, 0, x1, 0, 0, 0⟩] <+: s4.c := by rw [e4]; exact p3.trans (List.prefix_append _ _)
  obtain ⟨z3, z4⟩ := pre_at p4
  simp
  refine (here_c h4).mono ?_
  rintro r K5 ⟨rfl, rfl⟩
  simp
  refine (to_c h4 (lk4.one h3 hca3) (lk4.one h3 hcb3) (m := s4.c.length) z3 (fun y hy => by rw [z4 y hy]; exact tz rfl)).mono ?_
  rintro r K6 ⟨rfl, h6, lk6⟩
  simp
  exact hQ _ _ ⟨rfl, σ4, h6, (lk13.trans lk4.s).trans lk6.s, by simpa using hr4⟩
/-- A local is set in the locals' map. -/
theorem Lo.mset (h : Lo n o P s V σ H) {nm : List UInt8} {r : Int} {em em' : Es} (hm : getH H σ.m = some (.map em)) (hvr : VR em V) (he : setA .s (.str nm) (.int .i64 r) em = some em') :
    Lo n o P s (V ++ [(nm, r)]) σ (setH H σ.m (.map em')) ∧ LKS o σ H σ (setH H σ.m (.map em')) := by
  generalize hK : setH H σ.m (.map em') = K
  have hk : ∀ r, r ≠ σ.m → getH K r = getH H r := fun r hne => by rw [← hK, getH_set_ne (Ne.symm hne)]
  have hkl : lenH K = lenH H := by rw [← hK]; simp
  have hkm : getH K σ.m = some (.map em') := by rw [← hK]; exact getH_set_self (by simp [hm])
  have hmp : ∀ r es, r ≠ σ.m → getH H r = some (.map es) → getH K r = some (.map es) := fun r es hne hr => by rw [hk r hne, hr]
  have hcl : ∀ r cs, getH H r = some (.cells cs) → getH K r = some (.cells cs) := fun r cs hr => by
    rw [hk r (fun e => by subst e; rw [hm] at hr; simp at hr), hr]
  have htp : ∀ t, getH H t = some .tip → getH K t = some .tip := fun r hr => by
    rw [hk r (fun e => by subst e; rw [hm] at hr; simp at hr), hr]
  obtain ⟨es, ht, ht'⟩ := h.ht
  obtain ⟨fs1, t1, q1⟩ := h.h1
  obtain ⟨fs2, t2, q2⟩ := h.h2
  obtain ⟨hks', hfs'⟩ := hvr.1.set he
  refine ⟨⟨hcl _ _ h.ho, hmp _ _ h.ne.2.1.symm h.hg, hmp _ _ h.ne.2.2.1.symm h.hf, hmp _ _ h.ne.2.2.2.1.symm h.hk, ⟨em', hkm, hks', fun t => ?_⟩, ⟨es, hmp _ _ h.ne.1.symm ht, ht'⟩, ?_, ⟨fs1, t1.keep fun t _ => htp t, q1.keep fun r x => hcl r _⟩, ⟨fs2, t2.keep fun t _ => htp t, q2.keep fun r x => hcl r _⟩,
    h.nd, h.ne, ⟨h.lo.1, h.lo.2.1, h.lo.2.2.1, by rw [hkl]; exact h.lo.2.2.2.1, h.lo.2.2.2.2⟩, h.cl, h.rl⟩, by omega, fun r hr hn => hk r (fun e => hn (by simp [e])), fun r hr _ => hr, rfl, rfl, rfl, rfl⟩
  · rw [hfs', hvr.2 t]
    unfold lreg
    rw [List.reverse_append, List.reverse_singleton, List.singleton_append, List.find?_cons]
    by_cases e : t = nm
    · subst e; simp
    · have : (nm == t) = false := by simp [Ne.symm e]
      simp [e, this]
  · rcases h.hc with hc | ⟨i, hne, e, hi⟩
    · exact .inl hc
    · exact .inr ⟨i, hne, e, hcl _ _ hi⟩
theorem stmtl_c (hv : PV P) (hcl : ∀ s rs, Pre (cl s rs)) {x : St} (hok : x.ok)
    (hE : ∀ k a t u nm i e b l, x = .mk k a t u nm i e b l → (k = 1 → ∀ y ∈ i, EC n o P cl y) ∧ (k ≠ 4 → ∀ y ∈ e, EC n o P cl y) ∧ (k = 2 ∨ k = 3 ∨ k = 4 → SC n o P cl F b) ∧ (k = 2 → SC n o P cl F l)) : S1 n o P cl F x := by
  intro s V σ H h hr hsc
  obtain ⟨k, a, t, u, nm, i, e, b, l⟩ := x
  obtain ⟨ihi, ihe, ihb, ihl⟩ := hE _ _ _ _ _ _ _ _ _ rfl
  simp only [St.ok] at hok
  obtain ⟨-, -, -, -, hcase⟩ := hok
  simp only [St.sc] at hsc
  obtain ⟨hse, hs1, hs4, hsb, hsl⟩ := hsc
  refine fn_go k92 rfl ?_
  intro Q hQ
  rcases hcase with ⟨rfl, he⟩ | ⟨rfl, he, hi⟩ | ⟨rfl, he⟩ | ⟨rfl, he, rfl⟩ | rfl | ⟨rfl, he⟩
  · obtain ⟨x, rfl⟩ := List.length_eq_one_iff.1 he
    have hkx : EC n o P cl x := ihe (by decide) x (by simp)
    have ix : SCalls Tryz.prog 111 [.ptr o 0, x.av] H (LP n o P V σ H (lexpr P cl V x 4096 s) fun x v _ => v = .int .i64 x) := hkx h hr (hse (by decide) x (by simp)).1
    simp only [lstmt] at hQ
    simp at hQ
    obtain ⟨xk, xo, xn, xs, xks, xa⟩ := x
    simp [c92, St.av, Ex.av, Ex.avs]
    refine ix.mono ?_
    rintro r K1 hlp1
    rcases hlp1.c2 with ⟨hm1, rfl, pk1⟩ | ⟨x1, s1, v1, σ1, hm1, rfl, rfl, h1, lk1, hr1⟩
    · rw [LM.bind_none hm1] at hQ; simp; exact hQ _ _ ⟨rfl, pk1.s⟩
    rw [LM.bind_some hm1] at hQ
    simp
    refine (move_c h1 hr1).mono ?_
    rintro r K2 hlp2
    rcases hlp2.c2 with ⟨hm2, rfl, pk2⟩ | ⟨x2, s2, v2, σ2, hm2, rfl, rfl, h2, lk2, hr2⟩
    · rw [LM.bind_none hm2] at hQ; simp; exact hQ _ _ ⟨rfl, (lk1.pre pk2).s⟩
    rw [LM.bind_some hm2] at hQ
    obtain ⟨em, hem, hvr⟩ := h2.hm
    obtain ⟨em', he', -⟩ := setA_S hvr.1 nm (.int .i64 x2)
    obtain ⟨q1, q2⟩ := h2.mset hem hvr he'
    simp [h2.ho, hem, he']
    exact hQ _ _ ⟨rfl, σ2, q1, (lk1.trans lk2).s.trans q2, hr2⟩
  · have hi' : i = [] ∨ ∃ y, i = [y] := by
      rcases i with _ | ⟨y, _ | ⟨z, i⟩⟩
      · exact .inl rfl
      · exact .inr ⟨y, rfl⟩
      · simp at hi
    obtain ⟨hsi, hig, hin⟩ := hs1 rfl
    simp only [lstmt] at hQ
    simp at hQ
    simp [c92, St.av]
    refine (assignl_c (k := 1) (a := a) (t := t) (u := u) (b := b) (l := l) hv h hr (List.length_eq_one_iff.1 he) hi' (fun hh => (hig hh).1) (fun hh => (hin hh).imp id And.left) (fun y hy => (hsi y hy).1) (fun y hy => (hse (by decide) y hy).1) (ihi rfl) (ihe (by decide))).mono ?_
    rintro r K1 hlp1
    rcases hlp1.c2 with ⟨hm1, rfl, pk1⟩ | ⟨x1, s1, v1, σ1, hm1, rfl, rfl, h1, lk1, hr1⟩
    · rw [LM.bind_none hm1] at hQ; simp; exact hQ _ _ ⟨rfl, pk1.s⟩
    rw [LM.bind_some hm1] at hQ
    simp
    exact hQ _ _ ⟨rfl, σ1, h1, lk1.s, hr1⟩
  · obtain ⟨x, rfl⟩ := List.length_eq_one_iff.1 he
    simp [c92, St.av]
    refine (branch_c (F := F) hcl h hr (hse (by decide) x (by simp)).1 (hsb (.inl rfl)) (hsl rfl) (ihe (by decide) x (by simp)) (ihb (.inl rfl)) (ihl rfl)).mono ?_
    rintro r K hsp
    rcases hsp.c2 with ⟨hm1, rfl, pk⟩ | ⟨V1, s1, σ1, hm1, rfl, h2, lk, hr2⟩
    · rw [hm1] at hQ; simp; exact hQ _ _ ⟨rfl, pk⟩
    · rw [hm1] at hQ; simp; exact hQ _ _ ⟨rfl, σ1, h2, lk, hr2⟩
  · obtain ⟨x, rfl⟩ := List.length_eq_one_iff.1 he
    simp [c92, St.av]
    refine (loopl_c (F := F) hcl h hr (hse (by decide) x (by simp)).1 (hsb (.inr (.inl rfl))) (ihe (by decide) x (by simp)) (ihb (.inr (.inl rfl)))).mono ?_
    rintro r K hsp
    rcases hsp.c2 with ⟨hm1, rfl, pk⟩ | ⟨V1, s1, σ1, hm1, rfl, h2, lk, hr2⟩
    · rw [hm1] at hQ; simp; exact hQ _ _ ⟨rfl, pk⟩
    · rw [hm1] at hQ; simp; exact hQ _ _ ⟨rfl, σ1, h2, lk, hr2⟩
  · have hk := hs4 rfl
    have hfk := findA_S (KS_k P) nm
    rw [Prg.fS_k hk] at hfk
    simp only [lstmt] at hQ
    simp at hQ
    simp [c92, St.av, h.ho, h.hk, hfk]
    refine (put_c (x := ⟨9, 0, 0, 0, 0, P.lidx nm, 0⟩) (y := ⟨9, 0, 0, 0, 0, P.lidx nm, 0⟩) h (un0 (by simp)) (tz rfl)).mono ?_
    rintro r K2 hlp2
    rcases hlp2.c2 with ⟨hm2, rfl, pk2⟩ | ⟨x2, s2, v2, σ2, hm2, rfl, ⟨ca, cb, rfl, hca, hcb⟩, h2, lk2, hr2⟩
    · rw [LM.bind_none hm2] at hQ; simp; exact hQ _ _ ⟨rfl, pk2.s⟩
    rw [LM.bind_some hm2] at hQ
    simp
    refine (block2_c (ihb (.inr (.inr rfl))) h2 hr2 (hsb (.inr (.inr rfl)))).mono ?_
    rintro r K3 (⟨hm3, rfl, pk3⟩ | ⟨V3, s3, σ3, hm3, rfl, h3, lk3, hr3⟩)
    · rw [LM.bind_none hm3] at hQ; simp; exact hQ _ _ ⟨rfl, lk2.s.pre pk3⟩
    rw [LM.bind_some hm3] at hQ
    simp
    have lk23 := lk2.s.trans lk3
    refine (put_c (x := ⟨10, 0, 0, 0, 0, P.lidx nm, 0⟩) (y := ⟨10, 0, 0, 0, 0, P.lidx nm, 0⟩) h3 (un0 (by simp)) (tz rfl)).mono ?_
    rintro r K4 hlp4
    rcases hlp4.c2 with ⟨hm4, rfl, pk4⟩ | ⟨x4, s4, v4, σ4, hm4, rfl, ⟨ca4, cb4, rfl, hca4, hcb4⟩, h4, lk4, hr4⟩
    · rw [LM.bind_none hm4] at hQ; simp; exact hQ _ _ ⟨rfl, lk23.pre pk4.s⟩
    rw [LM.bind_some hm4] at hQ
    simp
    exact hQ _ _ ⟨rfl, σ4, h4, lk23.trans lk4.s, hr4⟩
  · obtain ⟨x, rfl⟩ := List.length_eq_one_iff.1 he
    have hkx : EC n o P cl x := ihe (by decide) x (by simp)
    have ix : SCalls Tryz.prog 111 [.ptr o 0, x.av] H (LP n o P V σ H (lexpr P cl V x 4096 s) fun x v _ => v = .int .i64 x) := hkx h hr (hse (by decide) x (by simp)).1
    simp only [lstmt] at hQ
    simp at hQ
    obtain ⟨xk, xo, xn, xs, xks, xa⟩ := x
    simp [c92, St.av, Ex.av, Ex.avs]
    refine ix.mono ?_
    rintro r K1 hlp1
    rcases hlp1.c2 with ⟨hm1, rfl, pk1⟩ | ⟨x1, s1, v1, σ1, hm1, rfl, rfl, h1, lk1, hr1⟩
    · rw [LM.bind_none hm1] at hQ; simp; exact hQ _ _ ⟨rfl, pk1.s⟩
    rw [LM.bind_some hm1] at hQ
    simp
    refine (put_c (x := ⟨11, 0, 0, x1, 0, 0, 0⟩) (y := ⟨11, 0, 0, x1, 0, 0, 0⟩) h1 (un0 (by simp)) (tz rfl)).mono ?_
    rintro r K2 hlp2
    rcases hlp2.c2 with ⟨hm2, rfl, pk2⟩ | ⟨x2, s2, v2, σ2, hm2, rfl, ⟨ca, cb, rfl, hca, hcb⟩, h2, lk2, hr2⟩
    · rw [LM.bind_none hm2] at hQ; simp; exact hQ _ _ ⟨rfl, (lk1.pre pk2).s⟩
    rw [LM.bind_some hm2] at hQ
    simp
    exact hQ _ _ ⟨rfl, σ2, h2, (lk1.trans lk2).s, hr2⟩
end
end Go.Ab

namespace Go.Ab
open Go.Proofs

set_option maxRecDepth 100000
set_option maxHeartbeats 8000000
attribute [local simp] c142_1 c142_2
section
variable {n o : Nat} {P : Prg} {cl : List UInt8 → List Int → LM Int} {s s1 : LS} {V V1 : LV} {σ σ' : Lp} {H K : List AObj} {F : Int}
/-- Another object is stored. -/
theorem Lo.other (h : Lo n o P s V σ H) {r0 : Nat} {x : AObj} (hr : r0 ∉ σ.own o) (hne : r0 ≠ σ.m ∧ r0 ≠ σ.ig ∧ r0 ≠ σ.ifn ∧ r0 ≠ σ.ik)
    (hclo : ∀ ps fs, Clo H o ps fs → Clo (setH H r0 x) o ps fs) : Lo n o P s V σ (setH H r0 x) := by
  have hk : ∀ r y, r ≠ r0 → getH H r = some y → getH (setH H r0 x) r = some y := fun r y hne hr => by rw [getH_set_ne (Ne.symm hne), hr]
  have hown : ∀ {r}, r ∈ σ.own o → r ≠ r0 := fun hm e => hr (e ▸ hm)
  obtain ⟨es, ht, ht'⟩ := h.ht
  obtain ⟨em, hm, hm'⟩ := h.hm
  obtain ⟨fs1, t1, q1⟩ := h.h1
  obtain ⟨fs2, t2, q2⟩ := h.h2
  refine ⟨hk _ _ (hown (by simp [Lp.own])) h.ho, hk _ _ (Ne.symm hne.2.1) h.hg, hk _ _ (Ne.symm hne.2.2.1) h.hf, hk _ _ (Ne.symm hne.2.2.2) h.hk, ⟨em, hk _ _ (Ne.symm hne.1) hm, hm'⟩, ⟨es, hk _ _ (hown (by simp [Lp.own])) ht, ht'⟩, ?_,
    ⟨fs1, t1.keep fun t ht hh => hk _ _ (hown (by simp [Lp.own, ht])) hh, hclo _ _ q1⟩, ⟨fs2, t2.keep fun t ht hh => hk _ _ (hown (by simp [Lp.own, ht])) hh, hclo _ _ q2⟩,
    h.nd, h.ne, ⟨h.lo.1, h.lo.2.1, h.lo.2.2.1, by simpa using h.lo.2.2.2.1, h.lo.2.2.2.2⟩, h.cl, h.rl⟩
  rcases h.hc with hc | ⟨i, hne, e, hi⟩
  · exact .inl hc
  · exact .inr ⟨i, hne, e, hk _ _ (hown (by simp [Lp.own, e, hid])) hi⟩
theorem LKeep.other (lk : LKeep o σ H σ' K) {r0 : Nat} {x : AObj} (h : lenH H ≤ r0) : LKeep o σ H σ' (setH K r0 x) :=
  ⟨by simpa using lk.len, fun r hr hn => by rw [getH_set_ne (by omega), lk.keep r hr hn], lk.sub, lk.eqs⟩
/-- The registers of the arguments, as they are on the heap. -/
def AR (H0 : List AObj) (own : List Nat) (M : List AObj) (v : AV) (ms : List Int) : Prop :=
  ms = [] ∧ v = .nils ∨ ∃ j x, ms ≠ [] ∧ v = .hs (j + 1) 1 0 ms.length ∧ getH M (j + 1) = some (.cells (ms.map (.int .i64))) ∧ getH M j = some (.cells [.int .i64 x]) ∧ lenH H0 ≤ j ∧ j + 1 ∉ own
theorem Clo.dead {j : Nat} {x : Int} {y : AObj} {ms : List Int} (h1 : getH H (j + 1) = some (.cells (ms.map (.int .i64)))) (h2 : getH H j = some (.cells [.int .i64 x])) : ∀ {ps : List Nat} {fs : List AV}, Clo H o ps fs → Clo (setH H (j + 1) y) o ps fs
  | [], fs, h => h
  | q :: ps, fs, h => by
    obtain ⟨a, b, r, rfl, rfl, ha, hb, hr⟩ := h
    refine ⟨a, a + 1, r, rfl, rfl, ?_, ?_, Clo.dead h1 h2 hr⟩
    · rw [getH_set_ne (fun e => ?_), ha]
      subst e
      rw [ha] at h1
      rcases ms with _ | ⟨m, ms⟩ <;> simp at h1
    · rw [getH_set_ne (fun e => ?_), hb]
      simp at e
      subst e
      rw [ha] at h2
      simp at h2
theorem AR.keep {H0 : List AObj} {v : AV} {ms : List Int} (h : Lo n o P s V σ H) (lk : LKeep o σ H σ' K) (a : AR H0 (σ.own o) H v ms) : AR H0 (σ'.own o) K v ms := by
  rcases a with a | ⟨j, x, h1, h2, h3, h4, h5, h6⟩
  · exact .inl a
  · have hl := getH_lt (H := H) (i := j + 1) (by simp [h3])
    exact .inr ⟨j, x, h1, h2, by rw [lk.keep _ hl h6, h3], lk.one h h4, h5, fun hm => h6 (lk.sub _ hm hl)⟩
def I142 (n o a0 : Nat) (P : Prg) (cl : List UInt8 → List Int → LM Int) (ks : List Ex) (s : LS) (V : LV) (σ : Lp) (H : List AObj) (fv : AV) (m : Nat) (τ : Env) (S : AS) : Prop :=
  ∃ (j : Nat) (ms : List Int) (s' : LS) (σ' : Lp) (M : List AObj) (v : AV), m + j = ks.length ∧ ms.length = j ∧ (∀ {α : Type} (f : List Int → LM α), ((lexprs P cl V ks).bind f) 4096 s = ((lexprs P cl V (ks.drop j)).bind fun r => f (ms ++ r)) 4096 s') ∧
    Lo n o P s' V σ' M ∧ LKeep o σ H σ' M ∧ s'.r ≤ s'.c.length ∧ AR H (σ'.own o) M v ms ∧ getH M a0 = some (.cells [.ptr o 0]) ∧
    τ = [(2, .ptr a0 0), (5, .lref 5 0), (6, v), (21, sl (Ex.avs ks)), (22, .int .i64 ks.length), (23, .int .i64 j)] ∧ S = ⟨[(5, fv.cells)], M, []⟩
def I142b (n o a0 q : Nat) (P : Prg) (ps : List Para) (ms : List Int) (s : LS) (V : LV) (σ : Lp) (H : List AObj) (fv av : AV) (m : Nat) (τ : Env) (S : AS) : Prop :=
  ∃ (j : Nat) (done : List Int) (s' : LS) (σ' : Lp) (M : List AObj) (em : Es), m + j = ms.length ∧ done.length = j ∧ (∀ {α : Type} (f : List Int → LM α), ((lmoves ms).bind f) 4096 s = ((lmoves (ms.drop j)).bind fun r => f (done ++ r)) 4096 s') ∧
    Lo n o P s' V σ' M ∧ LKeep o σ H σ' M ∧ s'.r ≤ s'.c.length ∧ AR H (σ'.own o) M av ms ∧ getH M a0 = some (.cells [.ptr o 0]) ∧ getH M q = some (.map em) ∧ VR em (((ps.map Para.name).take j).zip done) ∧
    τ = [(2, .ptr a0 0), (5, .lref 5 0), (9, .map q), (35, av), (36, .int .i64 ms.length), (37, .int .i64 j)] ∧ S = ⟨[(5, fv.cells)], M, []⟩
/-- What is deferred: the locals are as they were. -/
theorem rest_c {c a0 o q : Nat} {x0 x1 x2 x3 x4 x5 x6 : AV} {md : Option AV} (hc : getH K c = some (.cells [.map q])) (ha : getH K a0 = some (.cells [.ptr o 0])) (ho : getH K o = some (.cells [x0, x1, x2, x3, x4, x5, x6])) :
    DCalls Tryz.prog 168 [.ptr c 0, .ptr a0 0] md K (fun m' K' => m' = md ∧ K' = setH K o (.cells [x0, x1, x2, x3, x4, .map q, x6])) := by
  refine fn_goDef k168 rfl ?_
  intro Q hQ
  simp [c168, hc, ha, ho]
  exact hQ _ _ ⟨rfl, rfl⟩
theorem lstmts_names {L : Nat} : ∀ (l : List St) (V : LV) (s s' : LS) (V' : LV), lstmts P cl l V L s = some (V', s') → V'.map Prod.fst = V.map Prod.fst ++ St.addsL l
  | [], V, s, s', V', h => by simp [lstmts, LM.ret] at h; simp [← h.1, St.addsL]
  | x :: r, V, s, s', V', h => by
    simp only [lstmts, LM.bind] at h
    split at h
    · rename_i V1 s1 h1
      rw [lstmts_names r V1 s1 s' V' h, lstmt_names x V s s1 V1 h1]
      simp [St.addsL]
    · cases h
theorem call_c {f : Nat} (h : Lo n o P s V σ H) (hr : s.r ≤ s.c.length) {oo nn a : Int} {nm : List UInt8} {ks : List Ex} (hsc : (Ex.mk 7 oo nn nm ks a).sc P (V.map Prod.fst)) (hbig : ks.length ≤ 2 ^ 40)
    (ihk : ∀ x ∈ ks, EC n o P (lcall P (f + 1)) x) (hfs : (P.fat nm).sc P (P.fix nm)) (ihb : SC n o P (lcall P f) (P.fix nm) (P.fat nm).body) (ihr : EC n o P (lcall P f) (P.fat nm).ret) :
    SCalls Tryz.prog 142 [.ptr o 0, (Ex.mk 7 oo nn nm ks a).av] H (LP n o P V σ H (lexpr P (lcall P (f + 1)) V (.mk 7 oo nn nm ks a) 4096 s) fun x v _ => v = .int .i64 x) := by
  have hsc' := hsc
  simp only [Ex.sc] at hsc'
  obtain ⟨hks, -, -, -, h7⟩ := hsc'
  obtain ⟨hfx, hpl⟩ := h7 trivial
  have hff := findA_S (KS_f P) nm
  rw [Prg.fS_f hfx] at hff
  have hspec : lexpr P (lcall P (f + 1)) V (.mk 7 oo nn nm ks a) 4096 s = ((lexprs P (lcall P (f + 1)) V ks).bind fun rs => (lmoves rs).bind fun ms => (lstmts P (lcall P f) (P.fat nm).body (((P.fat nm).params.map Para.name).zip ms)).bind fun V => lexpr P (lcall P f) V (P.fat nm).ret) 4096 s := by
    simp [lexpr, lfin, lcall]
  rw [hspec]
  obtain ⟨g, hg⟩ : ∃ g, P.fat nm = g := ⟨_, rfl⟩
  rw [hg] at hff hpl hfs ihb ihr ⊢
  obtain ⟨gat', gname, gps, gtr, gse, gbody, ⟨rk, ro, rn, rs, rks, ra⟩⟩ := g
  simp only at hff hpl hfs ihb ihr ⊢
  refine fn_goD k142 rfl ?_
  intro Q hQ
  have e : (Ex.avs ks).length = ks.length := by simp [Ex.avs_eq]
  have e0 : getH (addH H (.cells [.ptr o 0])) o = some (.cells [.map σ.ig, .map σ.ifn, .map σ.ik, σ.cv, .int .i64 s.r, .map σ.m, .map σ.it]) := by rw [getH_add_old (by simp [h.ho]), h.ho]
  have e1 : getH (addH H (.cells [.ptr o 0])) σ.ifn = some (.map P.fmap) := by rw [getH_add_old (by simp [h.hf]), h.hf]
  simp [c142, Ex.av, e0, e1, hff, e, Func.av]
  have g0 : Gr H (addH H (.cells [.ptr o 0])) := (Gr.refl H).add
  refine loop_keep (n := ks.length) (I142 n o (lenH H) P (lcall P (f + 1)) ks s V σ H (Func.mk gat' gname gps gtr gse gbody (.mk rk ro rn rs rks ra)).av) ?_ ⟨0, [], s, σ, _, .nils, by simp, rfl, fun f => by simp, h.gr g0, LKeep.gr g0 h, hr, .inl ⟨rfl, rfl⟩, by simp, rfl, by simp [Func.av, Ex.av]⟩
  rintro m τ S ⟨j, ms, s1, σ1, M, v, hj, hms, hspec, h1, lk1, hr1, ha1, ha0, rfl, rfl⟩
  by_cases hlt : j < ks.length
  · have hgx : (Ex.avs ks)[j]? = some (ks[j]).av := by simp [Ex.avs_eq, hlt]
    have hd : ks.drop j = ks[j] :: ks.drop (j + 1) := List.drop_eq_getElem_cons hlt
    rw [hd] at hspec
    have hx : EC n o P (lcall P (f + 1)) ks[j] := ihk _ (List.getElem_mem hlt)
    have ix : SCalls Tryz.prog 111 [.ptr o 0, (ks[j]).av] M (LP n o P V σ1 M (lexpr P (lcall P (f + 1)) V ks[j] 4096 s1) fun x v _ => v = .int .i64 x) := hx h1 hr1 (Ex.scs_iff.1 hks _ (List.getElem_mem hlt))
    generalize (ks[j]) = x at *
    obtain ⟨xk, xo, xn, xs, xks, xa⟩ := x
    simp only [lexprs, LM.bind_assoc, LM.ret_bind] at hspec
    rcases ha1 with ⟨hms0, rfl⟩ | ⟨ji, jx, hmne, rfl, hji, hjx, hjl, hjo⟩
    · subst hms0
      simp at hms
      subst hms
      simp [hlt, hgx, Ex.av, Func.av, ha0]
      refine ix.mono ?_
      rintro r K1 hlp1
      rcases hlp1.c2 with ⟨hm1, rfl, pk1⟩ | ⟨x1, s2, v1, σ2, hm1, rfl, rfl, h2, lk2, hr2⟩
      · rw [hspec, LM.bind_none hm1] at hQ; simp; exact hQ _ _ ⟨rfl, lk1.pre pk1⟩
      have hspec' : ∀ {α : Type} (f_1 : List Int → LM α), ((lexprs P (lcall P (f + 1)) V ks).bind f_1) 4096 s = ((lexprs P (lcall P (f + 1)) V (ks.drop (0 + 1))).bind fun r => f_1 (([] ++ [x1]) ++ r)) 4096 s2 := by
        intro α f_1
        rw [hspec, LM.bind_some hm1]
        simp
      simp [roomA_eq, wrap_s (n := (0 : Int) + 1) (by omega)]
      have g1 : Gr K1 (addH (addH K1 (.cells [.int .i64 x1])) (.cells [.int .i64 x1])) := (Gr.refl K1).add.add
      have lk2' := lk2.trans (LKeep.gr g1 h2)
      have hl2 := lk1.len
      have hl3 := lk2.len
      refine ⟨m - 1, by omega, 1, [x1], s2, σ2, _, _, by omega, rfl, fun f => by simpa using hspec' f, h2.gr g1, lk1.trans lk2', hr2, .inr ⟨lenH K1, x1, by simp, rfl, by simp, by simp, by omega, fun hm => ?_⟩, ?_, by simp [wrap_s (n := (1 : Int)) (by omega)], by simp [Func.av, Ex.av]⟩
      · have := (h2.own_ge hm).2; omega
      · exact (LKeep.gr g1 h2).one h2 (lk2.one h1 ha0)
    · have hfl : (ms.map (AV.int .i64)).length = ms.length := by simp
      generalize hL : ms.map (AV.int .i64) = L at hji hfl
      have e2 : L.take ms.length = L := List.take_of_length_le (by omega)
      have e3 : ms.length ≤ L.length := by omega
      have e4 : (ms.length + 1) * 8 ≤ 35184372088832 := by omega
      simp [hlt, hgx, Ex.av, Func.av, ha0]
      refine ix.mono ?_
      rintro r K1 hlp1
      rcases hlp1.c2 with ⟨hm1, rfl, pk1⟩ | ⟨x1, s2, v1, σ2, hm1, rfl, rfl, h2, lk2, hr2⟩
      · rw [hspec, LM.bind_none hm1] at hQ; simp; exact hQ _ _ ⟨rfl, lk1.pre pk1⟩
      have hspec' : ∀ {α : Type} (f_1 : List Int → LM α), ((lexprs P (lcall P (f + 1)) V ks).bind f_1) 4096 s = ((lexprs P (lcall P (f + 1)) V (ks.drop (j + 1))).bind fun r => f_1 ((ms ++ [x1]) ++ r)) 4096 s2 := by
        intro α f_1
        rw [hspec, LM.bind_some hm1]
        simp
      have hjlt := getH_lt (H := M) (i := ji + 1) (by simp [hji])
      have hl2 := lk1.len
      have hl3 := lk2.len
      have hji2 : getH K1 (ji + 1) = some (.cells L) := by rw [lk2.keep _ hjlt hjo, hji]
      have hjx2 := lk2.one h1 hjx
      have hjo2 : ji + 1 ∉ σ2.own o := fun hm => hjo (lk2.sub _ hm hjlt)
      simp [roomA_eq, hji2, e2, e3, e4, wrap_s (n := (j : Int) + 1) (by omega)]
      have hne2 : ji + 1 ≠ σ2.m ∧ ji + 1 ≠ σ2.ig ∧ ji + 1 ≠ σ2.ifn ∧ ji + 1 ≠ σ2.ik := by
        obtain ⟨em2, hem2, -⟩ := h2.hm
        have := h2.hg
        have := h2.hf
        have := h2.hk
        refine ⟨fun e => ?_, fun e => ?_, fun e => ?_, fun e => ?_⟩ <;> rw [e] at hji2 <;> simp_all
      have gx : Gr K1 (addH K1 (.cells [.int .i64 x1])) := (Gr.refl K1).add
      have h3 := h2.gr gx
      have hji3 : getH (addH K1 (.cells [.int .i64 x1])) (ji + 1) = some (.cells (ms.map (.int .i64))) := by rw [getH_add_old (by simp [hji2]), hji2, hL]
      have hjx3 : getH (addH K1 (.cells [.int .i64 x1])) ji = some (.cells [.int .i64 jx]) := by rw [getH_add_old (by simp [hjx2]), hjx2]
      have h4 := h3.other (x := .dead) hjo2 hne2 (fun ps fs => Clo.dead hji3 hjx3)
      have lk4 : LKeep o σ H σ2 (setH (addH K1 (.cells [.int .i64 x1])) (ji + 1) .dead) := ((lk1.trans lk2).trans (LKeep.gr gx h2)).other (by omega)
      have gy : Gr (setH (addH K1 (.cells [.int .i64 x1])) (ji + 1) .dead) (addH (setH (addH K1 (.cells [.int .i64 x1])) (ji + 1) .dead) (.cells (L ++ [.int .i64 x1]))) := (Gr.refl _).add
      refine ⟨m - 1, by omega, j + 1, ms ++ [x1], s2, σ2, _, .hs (lenH K1 + 1) 1 0 (ms.length + 1), by omega, by simp [hms], fun f => hspec' f, h4.gr gy, lk4.trans (LKeep.gr gy h4), hr2, .inr ⟨lenH K1, x1, by simp, by simp, ?_, ?_, by omega, fun hm => ?_⟩, ?_, by simp, by simp [Func.av, Ex.av]⟩
      · rw [List.map_append, hL]
        exact getH_add_at (by simp)
      · rw [getH_add_old (getH_isSome.2 (by simp)), getH_set_ne (by omega)]
        simp
      · have := (h2.own_ge hm).2; omega
      · have hA0 := (LKeep.gr gx h2).one h2 (lk2.one h1 ha0)
        rw [getH_add_old (by simp [show ji + 1 ≠ lenH H by omega, hA0]), getH_set_ne (by omega), hA0]
  · have hd : ks.drop j = [] := List.drop_eq_nil_of_le (by omega)
    rw [hd] at hspec
    simp only [lexprs, LM.ret_bind, List.append_nil] at hspec
    rw [hspec] at hQ
    have hjk : j = ks.length := by omega
    subst hjk
    have hq0 : getH (addH M (.map [])) (lenH M) = some (.map []) := by simp
    have gm : Gr M (addH M (.map [])) := (Gr.refl M).add
    have tail : ∀ (s2 : LS) (σ2 : Lp) (M2 : List AObj) (em : Es) (done : List Int), (lmoves ms).bind (fun ms => (lstmts P (lcall P f) gbody ((List.map Para.name gps).zip ms)).bind fun V => lexpr P (lcall P f) V (Ex.mk rk ro rn rs rks ra)) 4096 s1 =
        ((lstmts P (lcall P f) gbody ((List.map Para.name gps).zip done)).bind fun V => lexpr P (lcall P f) V (Ex.mk rk ro rn rs rks ra)) 4096 s2 → done.length = gps.length →
        Lo n o P s2 V σ2 M2 → LKeep o σ H σ2 M2 → s2.r ≤ s2.c.length → getH M2 (lenH H) = some (.cells [.ptr o 0]) → getH M2 (lenH M) = some (.map em) → VR em ((List.map Para.name gps).zip done) →
        go (SCalls Tryz.prog) c142_3 [] [(2, .ptr (lenH H) 0), (5, .lref 5 0), (9, .map (lenH M))] ⟨[(5, (Func.mk gat' gname gps gtr gse gbody (.mk rk ro rn rs rks ra)).av.cells)], M2, []⟩ (aendD Tryz.prog [ARes.tmp 4] Q) := by
      intro s2 σ2 M2 em done hsp hdl h2 lk2 hr2 ha2 hq hvr
      rw [hsp] at hQ
      obtain ⟨o1, o2, o3, o4, o5, o6⟩ := h.old
      obtain ⟨p1, p2, p3, p4, p5, p6⟩ := h2.old
      have hl1 := lk1.len
      have hl2 := lk2.len
      obtain ⟨q1, q2, q3, q4, q5⟩ := lk2.eqs
      obtain ⟨em0, hem0, hvr0⟩ := h2.hm
      generalize hM4 : setH (addH M2 (.cells [.nilm])) (lenH M2) (.cells [.map σ2.m]) = M4
      have hM4k : ∀ r, r < lenH M2 → getH M4 r = getH M2 r := fun r hr => by rw [← hM4, getH_set_ne (by omega), getH_add_old (getH_isSome.2 hr)]
      have hM4l : lenH M4 = lenH M2 + 1 := by rw [← hM4]; simp
      have hM4n : getH M4 (lenH M2) = some (.cells [.map σ2.m]) := by rw [← hM4]; exact getH_set_self (by simp)
      have g4 : Gr M2 M4 := ⟨by omega, fun r hr => hM4k r (getH_isSome.1 hr)⟩
      have h4 := h2.gr g4
      generalize hM5 : setH M4 o (.cells [.map σ2.ig, .map σ2.ifn, .map σ2.ik, σ2.cv, .int .i64 s2.r, .map (lenH M), .map σ2.it]) = M5
      obtain ⟨h5, hl5, hk5⟩ := h4.setm (V := (List.map Para.name gps).zip done) (m' := lenH M) (by rw [hM4k _ (getH_lt (by simp [hq])), hq]) hvr ⟨by omega, by omega, by omega, by omega⟩ (by have := h1.lo.2.2.2.1; omega) hM5
      have hoa : lenH H ≠ o := by omega
      have ha5 : getH M5 (lenH H) = some (.cells [.ptr o 0]) := by rw [hk5 _ hoa, hM4k _ (getH_lt (by simp [ha2])), ha2]
      have ha4 : getH M4 (lenH H) = some (.cells [.ptr o 0]) := by rw [hM4k _ (getH_lt (by simp [ha2])), ha2]
      have hc5 : getH M5 (lenH M2) = some (.cells [.map σ2.m]) := by rw [hk5 _ (by omega), hM4n]
      have hm5 : getH M5 σ2.m = some (.map em0) := by rw [hk5 _ (fun e => by rw [e, h2.ho] at hem0; simp at hem0), hM4k _ p6, hem0]
      simp [c142_3, ha2, h2.ho, Func.av, Ex.av, hM4, ha4, h4.ho, hM5, ha5]
      have hnz : ((List.map Para.name gps).zip done).map Prod.fst = List.map Para.name gps := List.map_fst_zip (by simp [hdl])
      obtain ⟨hfb, hfr⟩ := hfs
      simp only at hfb hfr
      have old5 : ∀ r, r < lenH H → r ∉ σ.own o → r ≠ o ∧ r ∉ lenH M :: σ2.own o ∧ r < lenH M5 ∧ getH M5 r = getH H r := fun r hr hn => by
        have hn0 : r ≠ o := fun e => hn (by simp [Lp.own, e])
        refine ⟨hn0, fun hm => ?_, by omega, by rw [hk5 r hn0, hM4k r (by omega), lk2.keep r hr hn]⟩
        rcases List.mem_cons.1 hm with e | hm
        · omega
        · exact hn (lk2.sub r hm hr)
      have pkA : ∀ (Mx : List AObj) (τ : Env) (S : AS), (∀ K, PKeep o σ H K → Q (.pan tooMany) K) → PKS o { σ2 with m := lenH M } M5 Mx →
          DCalls Tryz.prog 168 [.ptr (lenH M2) 0, .ptr (lenH H) 0] (some tooMany) Mx fun m' H' => endK [ARes.tmp 4] τ S Q m' H' := by
        intro Mx τ S hQn pk
        obtain ⟨x0, x1, x2, x3, x4, x5, x6, hox⟩ := pk.ho
        have hcx := (pk.keep _ (getH_lt (by simp [hc5])) (h5.ones' hc5)).trans hc5
        have hax := (pk.keep _ (getH_lt (by simp [ha5])) (h5.ones' ha5)).trans ha5
        refine (rest_c hcx hax hox).mono ?_
        rintro m' K ⟨rfl, rfl⟩
        simp
        refine hQn _ ⟨by have := pk.len; simp; omega, fun r hr hn => ?_, _, _, _, _, _, _, _, getH_set_self (by simp [hox])⟩
        obtain ⟨n1, n2, n3, n4⟩ := old5 r hr hn
        rw [getH_set_ne (Ne.symm n1), pk.keep r n3 n2, n4]
      refine (ihb h5 hr2 (by rw [hnz]; exact hfb)).mono ?_
      rintro r M6 hsp6
      rcases hsp6.c2 with ⟨hm6, rfl, pk6⟩ | ⟨V6, s6, σ6, hm6, rfl, h6, lk6, hr6⟩
      · rw [LM.bind_none hm6] at hQ
        simp
        exact pkA _ _ _ (fun K pk => hQ _ _ ⟨rfl, pk⟩) pk6
      rw [LM.bind_some hm6] at hQ
      have hnm6 := lstmts_names gbody _ _ _ _ hm6
      rw [hnz] at hnm6
      have ha6 := lk6.one h5 ha5
      have hc6 := lk6.one h5 hc5
      simp [ha6]
      refine (ihr h6 hr6 (by rw [hnm6]; exact hfr.1)).mono ?_
      rintro r M7 hlp7
      rcases hlp7.c2 with ⟨hm7, rfl, pk7⟩ | ⟨x7, s7, v7, σ7, hm7, rfl, rfl, h7, lk7, hr7⟩
      · rw [hm7] at hQ
        simp
        exact pkA _ _ _ (fun K pk => hQ _ _ ⟨rfl, pk⟩) (lk6.pre pk7.s)
      · rw [hm7] at hQ
        have lk7' := lk6.trans lk7.s
        obtain ⟨w1, w2, w3, w4⟩ := lk7'.eqs
        simp only at w1 w2 w3 w4
        have ha7 := lk7.one h6 ha6
        have hc7 := lk7.one h6 hc6
        have hm7x : getH M7 σ2.m = some (.map em0) := by
          rw [lk7'.keep _ (by omega) (fun hm => ?_), hm5]
          rcases List.mem_cons.1 hm with e | hm
          · simp only at e; omega
          · exact h2.map_own hem0 h2.ne.1 hm
        obtain ⟨z1, z2, z3⟩ := h7.setm (V := V) (m' := σ2.m) hm7x hvr0 ⟨by rw [w4]; exact h2.ne.1, by rw [w1]; exact h2.ne.2.1, by rw [w2]; exact h2.ne.2.2.1, by rw [w3]; exact h2.ne.2.2.2.1⟩ h2.lo.2.1 rfl
        simp
        refine (rest_c hc7 ha7 h7.ho).mono ?_
        rintro m' K ⟨rfl, rfl⟩
        simp
        have hl7 := lk7'.len
        refine hQ _ _ ⟨_, _, rfl, rfl, z1, ⟨by omega, fun r hr hn => ?_, fun r hm hr => ?_, by simp only; omega, by simp only; omega, by simp only; omega, by simp only; omega, by simp only; omega⟩, hr7⟩
        · obtain ⟨n1, n2, n3, n4⟩ := old5 r hr hn
          rw [z3 r n1, lk7'.keep r n3 n2, n4]
        · rcases List.mem_cons.1 (lk7'.sub r (List.mem_cons_of_mem _ hm) (by omega)) with e | hm2
          · simp only at e; omega
          · exact lk2.sub r hm2 hr
    rcases ha1 with ⟨hms0, rfl⟩ | ⟨ji, jx, hmne, rfl, hji, hjx, hjl, hjo⟩
    · subst hms0
      simp at hms
      simp [hlt, c142_4]
      refine loop_keep (n := 0) (fun m τ S => m = 0 ∧ τ = [(2, .ptr (lenH H) 0), (5, .lref 5 0), (9, .map (lenH M)), (35, .nils), (36, .int .i64 0), (37, .int .i64 0)] ∧ S = ⟨[(5, (Func.mk gat' gname gps gtr gse gbody (.mk rk ro rn rs rks ra)).av.cells)], addH M (.map []), []⟩) ?_ ⟨rfl, rfl, rfl⟩
      rintro m2 τ S ⟨rfl, rfl, rfl⟩
      simp
      refine tail s1 σ1 _ [] [] (by simp only [lmoves, LM.ret_bind]) (by simpa [hms] using hpl.symm) (h1.gr gm) (lk1.trans (LKeep.gr gm h1)) hr1 ((LKeep.gr gm h1).one h1 ha0) hq0 ⟨by simp [KS], fun t => by simp [fS, lreg]⟩
    · simp [hlt, c142_4]
      refine loop_keep (n := ms.length) (I142b n o (lenH H) (lenH M) P gps ms s1 V σ H (Func.mk gat' gname gps gtr gse gbody (.mk rk ro rn rs rks ra)).av (.hs (ji + 1) 1 0 ms.length)) ?_
        ⟨0, [], s1, σ1, _, [], by simp, rfl, fun f => by simp, h1.gr gm, lk1.trans (LKeep.gr gm h1), hr1, .inr ⟨ji, jx, hmne, rfl, by rw [gm.old _ (by simp [hji]), hji], by rw [gm.old _ (by simp [hjx]), hjx], hjl, hjo⟩, (LKeep.gr gm h1).one h1 ha0, hq0, ⟨by simp [KS], fun t => by simp [fS, lreg]⟩, rfl, rfl⟩
      rintro m2 τ S ⟨i, done, s2, σ2, M2, em, hi, hdl, hsp2, h2, lk2, hr2, ha2, ha02, hq2, hvr2, rfl, rfl⟩
      by_cases hlt2 : i < ms.length
      · rcases ha2 with ⟨hms0, -⟩ | ⟨jj, jy, -, hjj, hji2, hjx2, hjl2, hjo2⟩
        · exact absurd hms0 hmne
        simp at hjj
        subst hjj
        have hd2 : ms.drop i = ms[i] :: ms.drop (i + 1) := List.drop_eq_getElem_cons hlt2
        have hgi : (ms.map (AV.int .i64))[i]? = some (.int .i64 ms[i]) := by simp [hlt2]
        have hgi2 : (gps.map Para.av)[i]? = some (gps[i]'(by omega)).av := by simp [show i < gps.length by omega]
        rw [hd2] at hsp2
        simp only [lmoves, LM.bind_assoc, LM.ret_bind] at hsp2
        have htk : List.take 1 (List.drop i (List.map (AV.int .i64) ms)) = [.int .i64 ms[i]] := by
          rw [List.drop_eq_getElem_cons (by simpa using hlt2)]; simp
        simp [hlt2, hji2, hgi, hgi2, Func.av, Ex.av, Para.av, ha02, show i + 1 ≤ ms.length by omega, htk]
        refine (move_c h2 hr2).mono ?_
        rintro r K3 hlp3
        rcases hlp3.c2 with ⟨hm3, rfl, pk3⟩ | ⟨x3, s3, v3, σ3, hm3, rfl, rfl, h3, lk3, hr3⟩
        · rw [hsp2, LM.bind_none hm3] at hQ; simp; exact hQ _ _ ⟨rfl, lk2.pre pk3⟩
        have hsp3 : ∀ {α : Type} (f : List Int → LM α), ((lmoves ms).bind f) 4096 s1 = ((lmoves (ms.drop (i + 1))).bind fun r => f ((done ++ [x3]) ++ r)) 4096 s3 := by
          intro α f
          rw [hsp2, LM.bind_some hm3]
          simp
        obtain ⟨em', he', -⟩ := setA_S hvr2.1 (gps[i]'(by omega)).name (.int .i64 x3)
        obtain ⟨o1, o2, o3, o4, o5, o6⟩ := h.old
        have hl1 := lk1.len
        have lk03 := lk2.trans lk3
        obtain ⟨q1, q2, q3, q4, q5⟩ := lk03.eqs
        have hq3 : getH K3 (lenH M) = some (.map em) := by
          rw [lk3.keep _ (getH_lt (by simp [hq2])) (h2.map_own hq2 (by have := lk2.eqs; omega)), hq2]
        simp [hq3, he', wrap_s (n := (i : Int) + 1) (by omega)]
        have hq3o := h3.map_own hq3 (by omega)
        have h4 := h3.other (x := .map em') hq3o ⟨by omega, by omega, by omega, by omega⟩ (fun ps fs => Clo.keep fun r x hr => by
          rw [getH_set_ne (fun e => ?_), hr]
          rw [← e, hq3] at hr; simp at hr)
        have hset : ∀ r cs, getH K3 r = some (.cells cs) → getH (setH K3 (lenH M) (.map em')) r = some (.cells cs) := fun r cs hr => by
          rw [getH_set_ne (fun e => ?_), hr]
          rw [← e, hq3] at hr; simp at hr
        refine ⟨m2 - 1, by omega, i + 1, done ++ [x3], s3, σ3, _, em', by omega, by simp [hdl], fun f => hsp3 f, h4, lk03.other (by omega), hr3, .inr ⟨ji, jy, hmne, rfl, hset _ _ ?_, hset _ _ (lk3.one h2 hjx2), hjl, fun hm => hjo2 (lk3.sub _ hm (getH_lt (by simp [hji2])))⟩,
          hset _ _ (lk3.one h2 ha02), getH_set_self (by simp [hq3]), ?_, by simp, by simp [Func.av, Ex.av]⟩
        · rw [lk3.keep _ (getH_lt (by simp [hji2])) hjo2, hji2]
        · obtain ⟨k1, k2⟩ := hvr2.1.set he'
          refine ⟨k1, fun t => ?_⟩
          have htk2 : (((gps.map Para.name).take (i + 1)).zip (done ++ [x3])) = (((gps.map Para.name).take i).zip done) ++ [((gps[i]'(by omega)).name, x3)] := by
            rw [List.take_add_one, List.zip_append (by simp; omega)]
            simp [show i < gps.length by omega]
          rw [k2, hvr2.2 t, htk2]
          unfold lreg
          rw [List.reverse_append, List.reverse_singleton, List.singleton_append, List.find?_cons]
          by_cases e : t = (gps[i]'(by omega)).name
          · subst e; simp
          · have : ((gps[i]'(by omega)).name == t) = false := by simp [Ne.symm e]
            simp [e, this]
      · have hd2 : ms.drop i = [] := List.drop_eq_nil_of_le (by omega)
        rw [hd2] at hsp2
        simp only [lmoves, LM.ret_bind, List.append_nil] at hsp2
        simp [hlt2]
        have hi2 : i = ms.length := by omega
        refine tail s2 σ2 M2 em done (hsp2 _) (by omega) h2 lk2 hr2 ha02 hq2 ?_
        rw [List.take_of_length_le (by simp; omega)] at hvr2
        exact hvr2
end
end Go.Ab

namespace Go.Ab
open Go.Proofs

set_option maxRecDepth 100000
set_option maxHeartbeats 8000000
mutual
/-- A statement's calls are of functions ahead of so many. -/
def St.cb (P : Prg) (g : Int) : St → Prop
  | .mk k _ _ _ _ i e b l => (k ≠ 4 → ∀ x ∈ e, x.cl P g) ∧ (k = 1 → ∀ x ∈ i, x.cl P g) ∧ (k = 2 ∨ k = 3 ∨ k = 4 → St.cbs P g b) ∧ (k = 2 → St.cbs P g l)
def St.cbs (P : Prg) (g : Int) : List St → Prop
  | [] => True
  | s :: r => s.cb P g ∧ St.cbs P g r
end
theorem St.cbs_iff {P : Prg} {g : Int} {l : List St} : St.cbs P g l ↔ ∀ x ∈ l, x.cb P g := by
  induction l with
  | nil => simp [St.cbs]
  | cons x r ih => simp [St.cbs, ih]
section
variable {P : Prg} {F g : Int}
mutual
theorem Ex.cl_mono (h : ∀ s, (0 ≤ F → P.fix s < F) → P.fix s < g) : ∀ e : Ex, e.cl P F → e.cl P g
  | .mk k o n s ks a, he => by
    simp only [Ex.cl] at he ⊢
    exact ⟨fun hk _ => h s (he.1 hk), Ex.cls_mono h ks he.2⟩
theorem Ex.cls_mono (h : ∀ s, (0 ≤ F → P.fix s < F) → P.fix s < g) : ∀ l : List Ex, Ex.cls P F l → Ex.cls P g l
  | [], _ => by simp [Ex.cls]
  | e :: r, he => by
    simp only [Ex.cls] at he ⊢
    exact ⟨Ex.cl_mono h e he.1, Ex.cls_mono h r he.2⟩
end
mutual
theorem St.sc_cb (h : ∀ s, (0 ≤ F → P.fix s < F) → P.fix s < g) : ∀ (x : St) (V : List (List UInt8)), x.sc P F V → x.cb P g
  | .mk k a t u s i e b l, V, hx => by
    simp only [St.sc] at hx
    simp only [St.cb]
    exact ⟨fun hk x hm => Ex.cl_mono h x (hx.1 hk x hm).2, fun hk x hm => Ex.cl_mono h x ((hx.2.1 hk).1 x hm).2, fun hk => St.scs_cbs h b V (hx.2.2.2.1 hk), fun hk => St.scs_cbs h l V (hx.2.2.2.2 hk)⟩
theorem St.scs_cbs (h : ∀ s, (0 ≤ F → P.fix s < F) → P.fix s < g) : ∀ (l : List St) (V : List (List UInt8)), St.scs P F V l → St.cbs P g l
  | [], V, _ => by simp [St.cbs]
  | x :: r, V, hx => by
    rw [St.scs_cons] at hx
    simp only [St.cbs]
    exact ⟨St.sc_cb h x V hx.1, St.scs_cbs h r _ hx.2⟩
end
theorem St.len_sizes (l : List St) : l.length ≤ St.sizes l := by
  induction l with
  | nil => simp
  | cons x r ih => obtain ⟨k, a, t, u, s, i, e, b, l⟩ := x; simp [St.sizes, St.size]; omega
theorem Ex.len_sizes (l : List Ex) : l.length ≤ Ex.sizes l := by
  induction l with
  | nil => simp
  | cons x r ih => obtain ⟨k, o, n, s, ks, a⟩ := x; simp [Ex.sizes, Ex.size]; omega
end
def TieE (n o : Nat) (P : Prg) (f : Nat) : Prop := ∀ e : Ex, e.ok → e.cl P f → e.size ≤ 2 ^ 40 → EC n o P (lcall P f) e
def TieS (n o : Nat) (P : Prg) (f : Nat) : Prop := ∀ (F : Int) (l : List St), St.oks l → St.cbs P f l → St.sizes l ≤ 2 ^ 40 → SC n o P (lcall P f) F l
theorem tieS {n o : Nat} {P : Prg} {f : Nat} (hv : PV P) (hE : TieE n o P f) : TieS n o P f := by
  intro F
  have key : ∀ (m : Nat) (l : List St), St.sizes l ≤ m → St.oks l → St.cbs P f l → St.sizes l ≤ 2 ^ 40 → SC n o P (lcall P f) F l := by
    intro m
    induction m with
    | zero =>
      intro l hl ho hc hb
      refine stmtsl_c (by have := St.len_sizes l; omega) fun s hs => ?_
      have := St.size_mem hs
      cases s; simp [St.size] at this; omega
    | succ m ih =>
      intro l hl ho hc hb
      refine stmtsl_c (by have := St.len_sizes l; omega) fun s hs => stmtl_c hv (Pre.call f) (St.oks_iff.1 ho s hs) ?_
      rintro k a t u nm i e b l' rfl
      have h1 := St.size_mem hs
      have h2 := St.oks_iff.1 ho _ hs
      have h3 := St.cbs_iff.1 hc _ hs
      simp only [St.size] at h1
      simp only [St.ok] at h2
      simp only [St.cb] at h3
      exact ⟨fun hk y hy => hE y (Ex.oks_iff.1 h2.1 y hy) (h3.2.1 hk y hy) (by have := Ex.size_mem hy; omega), fun hk y hy => hE y (Ex.oks_iff.1 h2.2.1 y hy) (h3.1 hk y hy) (by have := Ex.size_mem hy; omega),
        fun hk => ih b (by omega) h2.2.2.1 (h3.2.2.1 hk) (by omega), fun hk => ih l' (by omega) h2.2.2.2.1 (h3.2.2.2 hk) (by omega)⟩
  exact fun l ho hc hb => key _ l (Nat.le_refl _) ho hc hb
theorem Prg.fix_lt (P : Prg) (s : List UInt8) : P.fix s < P.funcs.length := by
  rcases fidx_cases (P.funcs.map Func.name) s with ⟨i, h1, h2, h3⟩ | ⟨h1, -⟩
  · have hi : P.fix s = i := h1
    have hlt := (List.getElem?_eq_some_iff.1 h2).1
    simp at hlt
    omega
  · have : P.fix s = -1 := h1
    omega
theorem tieE {n o : Nat} {P : Prg} (hw : PW P) : ∀ f : Nat, TieE n o P f := by
  intro f
  induction f with
  | zero =>
    have key : ∀ (m : Nat) (e : Ex), e.size ≤ m → e.ok → e.cl P (0 : Nat) → e.size ≤ 2 ^ 40 → EC n o P (lcall P 0) e := by
      intro m
      induction m with
      | zero => intro e hn; cases e; simp [Ex.size] at hn
      | succ m ih =>
        intro e hn ho hc hb
        refine expr_step hw.pv ho ?_
        rintro k oo nn nm ks a rfl
        simp only [Ex.size] at hn hb
        simp only [Ex.ok] at ho
        simp only [Ex.cl] at hc
        refine ⟨fun x hx => ih x (by have := Ex.size_mem hx; omega) (Ex.oks_iff.1 ho.1 x hx) (Ex.cls_iff.1 hc.2 x hx) (by have := Ex.size_mem hx; omega), fun hk => ?_⟩
        intro s V σ H h hr hsc
        have h1 := hc.1 hk (by omega)
        simp only [Ex.sc] at hsc
        have h2 := (hsc.2.2.2.2 hk).1
        omega
    exact fun e ho hc hb => key _ e (Nat.le_refl _) ho hc hb
  | succ f ihf =>
    have ihS := tieS hw.pv ihf
    have key : ∀ (m : Nat) (e : Ex), e.size ≤ m → e.ok → e.cl P (f + 1 : Nat) → e.size ≤ 2 ^ 40 → EC n o P (lcall P (f + 1)) e := by
      intro m
      induction m with
      | zero => intro e hn; cases e; simp [Ex.size] at hn
      | succ m ih =>
        intro e hn ho hc hb
        refine expr_step hw.pv ho ?_
        rintro k oo nn nm ks a rfl
        simp only [Ex.size] at hn hb
        simp only [Ex.ok] at ho
        simp only [Ex.cl] at hc
        have ihk : ∀ x ∈ ks, EC n o P (lcall P (f + 1)) x := fun x hx => ih x (by have := Ex.size_mem hx; omega) (Ex.oks_iff.1 ho.1 x hx) (Ex.cls_iff.1 hc.2 x hx) (by have := Ex.size_mem hx; omega)
        refine ⟨ihk, fun hk => ?_⟩
        subst hk
        intro s V σ H h hr hsc
        have h1 := hc.1 rfl (by omega)
        have hsc' := hsc
        simp only [Ex.sc] at hsc'
        have h2 := (hsc'.2.2.2.2 trivial).1
        have hget : P.funcs[(P.fix nm).toNat]? = some (P.fat nm) := by
          have hlt := P.fix_lt nm
          have hlt2 : (P.fix nm).toNat < P.funcs.length := by omega
          rw [List.getElem?_eq_getElem hlt2]
          simp only [Prg.fat, if_pos h2, List.getElem?_eq_getElem hlt2, Option.getD_some]
        have hfs := hw.fn _ _ hget
        rw [show (((P.fix nm).toNat : Nat) : Int) = P.fix nm by omega] at hfs
        have hmem := List.mem_of_getElem? hget
        have hfp := hw.pv.f _ hmem
        have hbound : ∀ s, (0 ≤ P.fix nm → P.fix s < P.fix nm) → P.fix s < (f : Int) := fun s hs => by have := hs h2; omega
        have hsize : St.sizes (P.fat nm).body + (P.fat nm).ret.size ≤ P.size := by
          have h1 : St.sizes (P.fat nm).body + (P.fat nm).ret.size ≤ (P.funcs.map fun f => St.sizes f.body + f.ret.size).sum := sum_mem (List.mem_map.2 ⟨_, hmem, rfl⟩)
          simp only [Prg.size]
          omega
        have := hw.pv.size
        exact call_c h hr hsc (by have := Ex.len_sizes ks; omega) ihk hfs (ihS _ _ hfp.2.1 (St.scs_cbs hbound _ _ hfs.1) (by omega)) (ihf _ hfp.2.2 (Ex.cl_mono hbound _ hfs.2.2) (by omega))
    exact fun e ho hc hb => key _ e (Nat.le_refl _) ho hc hb
/-- A thread's statements. -/
theorem thread_s {n o : Nat} {P : Prg} (hw : PW P) {t : List St} (ht : t ∈ P.threads) : SC n o P (lcall P 17) (-1) t := by
  have hsize : St.sizes t ≤ P.size := by
    have h1 : St.sizes t ≤ (P.threads.map St.sizes).sum := sum_mem (List.mem_map.2 ⟨_, ht, rfl⟩)
    simp only [Prg.size]
    omega
  have := hw.pv.size
  have hnf := hw.pv.nf
  intro s V σ H h hr hsc
  refine tieS hw.pv (tieE hw 17) (-1) t (hw.pv.t t ht) (St.scs_cbs (fun s _ => by have := P.fix_lt s; omega) t [] (hw.th t ht)) (by omega) h hr hsc
end Go.Ab

/- layout.Of: a range over a function. -/
namespace Go.Ab
open Go.Proofs
attribute [local simp] c110_1 c110_2

set_option maxRecDepth 100000
set_option maxHeartbeats 8000000
def c52A1 : ACode := .seq (.reg false [⟨0,(some 7),none,.op (.mv (.t 23)),[]⟩])
   (.keep [3,4,7,24] (.reg false [⟨0,(some 8),none,.op (.allocH [(.int .i64 0),(.str []),(.bool false),(.bool false),(.int .i64 0),(.str [])]),[]⟩,
     ⟨1,none,none,.op (.st 6 (.t 8) (.t 24)),[]⟩]))
def c52A2 : ACode := .block 3
    (.seq (.reg false [⟨0,(some 25),none,.op (.ld false 1 (.t 3)),[]⟩,
      ⟨1,(some 26),none,.op (.mv (.t 7)),[]⟩,
      ⟨2,(some 27),none,.op (.ld false 1 (.t 4)),[]⟩,
      ⟨3,(some 28),none,.op (.fa 4 (.t 8)),[]⟩,
      ⟨4,(some 29),none,.op (.ld false 1 (.t 28)),[]⟩,
      ⟨5,(some 30),none,.op (.mx false (.t 29) (.c (.int .i64 1))),[]⟩,
      ⟨6,(some 31),none,.op (.fa 2 (.t 8)),[]⟩,
      ⟨7,(some 32),none,.op (.ld true 2 (.t 31)),[]⟩,
      ⟨8,(some 33),none,.op (.build [(.int .i64 0),(.int .i64 0),(.bool false),(.bool false)] [(0,1,(.t 27)),(1,1,(.t 30)),(2,2,(.t 32))]),[]⟩,
      ⟨9,(some 34),none,.op (.ixa 4 (.t 25) (.t 26)),[]⟩,
      ⟨10,none,none,.op (.st 4 (.t 34) (.t 33)),[]⟩])
    (.keep [3,4,7] (.reg true [⟨0,(some 35),none,.op (.ld false 1 (.t 4)),[]⟩,
      ⟨1,(some 36),none,.op (.ld false 1 (.t 3)),[]⟩,
      ⟨2,(some 37),none,.op (.mv (.t 7)),[]⟩,
      ⟨3,(some 38),none,.op (.ixa 4 (.t 36) (.t 37)),[]⟩,
      ⟨4,(some 39),none,.op (.fa 1 (.t 38)),[]⟩,
      ⟨5,(some 40),none,.op (.ld false 1 (.t 39)),[]⟩,
      ⟨6,(some 41),none,.op (.bin .add .num (.t 35) (.t 40)),[]⟩,
      ⟨7,none,none,.op (.st 1 (.t 4) (.t 41)),[]⟩])))
def c52G : XCode := .seq (.a (.reg false [⟨0,(some 17),none,.op (.ixa 1 (.t 13) (.t 15)),[]⟩,
   ⟨1,(some 18),none,.op (.ld false 1 (.t 17)),[]⟩,
   ⟨2,(some 6),none,.op (.mv (.t 18)),[]⟩]))
 (.keep [1,3,4,6,13,14,15] (.seq (.a (.reg false [⟨0,(some 19),none,.op (.fa 0 (.t 1)),[]⟩,
   ⟨1,(some 20),none,.op (.ld false 1 (.t 19)),[]⟩,
   ⟨2,(some 21),none,.op (.mv (.t 6)),[]⟩,
   ⟨3,(some 22),none,.call 90 [(.t 20),(.t 21)],[]⟩]))
 (.keep [1,3,4,13,14,15,22] (.block 2 (.rf (.t 22) [23,24] c52A1 c52A2 110 c110)))))
def c52B : XCode := .seq (.block 1 c52G) (.keep [1,3,4,13,14,15] (.a (.reg false [⟨0,(some 42),none,.op (.bin .add .num (.t 15) (.c (.int .i64 1))),[]⟩,
  ⟨1,(some 15),none,.op (.mv (.t 42)),[]⟩])))
def c52L : XCode := .keep [1,3,4,13,14,15] (.seq (.a (.reg false [⟨0,(some 16),none,.op (.bin .lss .num (.t 15) (.t 14)),[]⟩]))
  (.keep [1,3,4,13,14,15,16] (.seq (.cond (.t 16) (.a .skip) (.a (.exit 0))) c52B)))
def c52T : XCode := .keep [3] (.seq (.a (.reg false [⟨0,(some 43),none,.op (.ld false 1 (.t 3)),[]⟩,
  ⟨1,(some 2),none,.op (.mv (.t 43)),[]⟩])) (.keep [2] (.a .ret)))
def c52X : XFn := ⟨1, 44, .seq (.a (.reg false [⟨0,(some 1),none,.op (.boxH (.t 0)),[]⟩,
  ⟨1,(some 2),none,.op (.mv (.c .nils)),[]⟩]))
(.keep [1] (.seq (.a (.reg false [⟨0,(some 9),none,.op (.fa 0 (.t 1)),[]⟩,
  ⟨1,(some 10),none,.op (.ld false 1 (.t 9)),[]⟩,
  ⟨2,(some 11),none,.op (.len .l (.t 10)),[]⟩,
  ⟨3,(some 12),none,.op (.mks 4 24 true (.agg [(.int .i64 0),(.int .i64 0),(.bool false),(.bool false)]) (.t 11)),[]⟩,
  ⟨4,(some 3),none,.op (.allocH [.nils]),[]⟩,
  ⟨5,none,none,.op (.st 1 (.t 3) (.t 12)),[]⟩]))
(.keep [1,3] (.seq (.a (.reg false [⟨0,(some 4),none,.op (.allocH [(.int .i64 0)]),[]⟩,
  ⟨1,none,none,.op (.st 1 (.t 4) (.c (.int .i64 0))),[]⟩]))
(.keep [1,3,4] (.seq (.seq (.a (.reg false [⟨0,(some 13),none,.op (.bsl 1 false [(.c (.bool false)),(.c (.bool true))]),[]⟩,
  ⟨1,(some 14),none,.op (.len .l (.t 13)),[]⟩,
  ⟨2,(some 15),none,.op (.mv (.c (.int .i64 0))),[]⟩]))
(.keep [1,3,4,13,14,15] (.block 0 (.loop c52L)))) c52T)))))), [.tmp 2]⟩
theorem k52 : chkFnX Tryz.prog 52 c52X = true := by kernel_rfl
@[simp] theorem SCallsY_yid {P : Program} {l : Nat} {Y : YSpec} {xs : List AV} {H : List AObj} {Q : AEnd → List AObj → Prop} : SCallsY P l Y (yid l) (.skip :: xs) H Q = Y xs H Q := by
  unfold SCallsY
  rw [if_neg (by simp [yid])]
  simp
theorem bodyY_mono {P : Program} {ps : List Nat} {A1 A2 : ACode} {τ : Env} {args : List AV} {H : List AObj} {K K' : AEnd → List AObj → Prop} (h : bodyY P ps A1 A2 τ args H K) (hk : ∀ r H, K r H → K' r H) : bodyY P ps A1 A2 τ args H K' := by
  refine ⟨h.1, h.2.1, acode_mono A1 _ _ _ _ h.2.2 ?_⟩
  intro e τ S hq
  cases e <;> simp only [bodyK] at hq ⊢
  refine ⟨hq.1, acode_mono A2 _ _ _ _ hq.2 ?_⟩
  intro e τ S hq
  cases e <;> simp only at hq ⊢
  exact ⟨hq.1, hk _ _ hq.2⟩
instance (P : Program) (l : Nat) (ps : List Nat) (A1 A2 : ACode) (τ : Env) : MonoS (SCallsY P l (bodyY P ps A1 A2 τ)) := ⟨fun h hq => by
  unfold SCallsY at h ⊢
  split at h
  · rename_i hlt
    rw [if_pos hlt]
    exact h.mono hq
  · rename_i hlt
    rw [if_neg hlt]
    obtain ⟨e, xs, e2, h⟩ := h
    exact ⟨e, xs, e2, bodyY_mono h hq⟩⟩
theorem flat_set {p : Plc} : ∀ {T : List Plc} {i : Nat}, i < T.length → (T.flatMap Plc.cells).take (i * 4) ++ p.cells ++ (T.flatMap Plc.cells).drop (i * 4 + 4) = (T.set i p).flatMap Plc.cells
  | [], i, h => by simp at h
  | x :: r, 0, h => by simp [Plc.cells]
  | x :: r, i + 1, h => by
    have ih := flat_set (p := p) (T := r) (i := i) (by simpa using h)
    have hl : x.cells.length = 4 := rfl
    rw [List.flatMap_cons, List.set_cons_succ, List.flatMap_cons, ← ih]
    rw [show (i + 1) * 4 = x.cells.length + i * 4 by rw [hl]; omega, List.take_length_add_append]
    rw [show x.cells.length + i * 4 + 4 = x.cells.length + (i * 4 + 4) by omega, List.drop_length_add_append]
    simp
theorem Plc.flat_len (T : List Plc) : (T.flatMap Plc.cells).length = T.length * 4 := by
  induction T with
  | nil => rfl
  | cons x r ih => simp only [List.flatMap_cons, List.length_append, ih, List.length_cons]; simp [Plc.cells]; omega
theorem setH_add {H : List AObj} {x y : AObj} : setH (addH H x) (lenH H) y = addH H y := by
  simp [setH, addH, lenH]
section
variable {H : List AObj}
/-- One round. -/
theorem body52 {c1 c3 c4 j n i : Nat} {T : List Plc} {g : Glob} {at' : Int} {v13 v14 v15 v22 : AV} {K : AEnd → List AObj → Prop} (h3 : getH H c3 = some (.cells [.hs j 4 0 n])) (hj : getH H j = some (.cells (T.flatMap Plc.cells))) (h4 : getH H c4 = some (.cells [.int .i64 at']))
    (hn : T.length = n) (hi : i < n) (hg : 0 ≤ g.len ∧ g.len ≤ 64) (hat : 0 ≤ at' ∧ at' ≤ 10000) (hne : c3 ≠ j ∧ c3 ≠ c4 ∧ c4 ≠ j) (h0 : c3 ≠ lenH H ∧ c4 ≠ lenH H ∧ j ≠ lenH H)
    (hK : K (.ret (.bool true)) (setH (setH (addH H (.cells g.av.cells)) j (.cells ((T.set i ⟨at', g.words, g.truth, g.secret⟩).flatMap Plc.cells))) c4 (.cells [.int .i64 (at' + g.words)]))) :
    bodyY Tryz.prog [23, 24] c52A1 c52A2 [(1, .ptr c1 0), (3, .ptr c3 0), (4, .ptr c4 0), (13, v13), (14, v14), (15, v15), (22, v22)] [.int .i64 i, g.av] H K := by
  refine ⟨rfl, rfl, ?_⟩
  show go (SCalls Tryz.prog) c52A1 [] _ _ _
  have hlen := Plc.flat_len T
  have hfs := flat_set (p := ⟨at', g.words, g.truth, g.secret⟩) (T := T) (i := i) (by omega)
  obtain ⟨ga, gn, gt, gs, gl, gb⟩ := g
  simp only at hg
  have f3 : getH (addH H (.cells (Glob.mk ga gn gt gs gl gb).av.cells)) c3 = some (.cells [.hs j 4 0 n]) := by rw [getH_add_old (by simp [h3]), h3]
  have fj : getH (addH H (.cells (Glob.mk ga gn gt gs gl gb).av.cells)) j = some (.cells (T.flatMap Plc.cells)) := by rw [getH_add_old (by simp [hj]), hj]
  have f4 : getH (addH H (.cells (Glob.mk ga gn gt gs gl gb).av.cells)) c4 = some (.cells [.int .i64 at']) := by rw [getH_add_old (by simp [h4]), h4]
  simp only [Glob.av, AV.cells] at f3 fj f4 hK
  simp [c52A1, bindT, Glob.av, bodyK, setH_add]
  show go (SCalls Tryz.prog) c52A2 [] _ _ _
  simp only [Glob.words] at hK hfs
  generalize hM : addH H _ = M at f3 fj f4 hK
  have f8 : getH M (lenH H) = some (.cells [.int .i64 ga, .str gn, .bool gt, .bool gs, .int .i64 gl, .str gb]) := by rw [← hM]; simp
  have hmx2 : 0 ≤ max gl 1 ∧ max gl 1 ≤ 64 := by omega
  obtain ⟨mx, hmx⟩ : ∃ mx, max gl 1 = mx := ⟨_, rfl⟩
  rw [hmx] at hK hfs hmx2
  generalize hL : T.flatMap Plc.cells = L at fj hlen hfs
  have hX : List.take (i * 4) L ++ AV.int IntKind.i64 at' :: AV.int IntKind.i64 mx :: AV.bool gt :: AV.bool gs :: List.drop (i * 4 + 4) L = (T.set i ⟨at', mx, gt, gs⟩).flatMap Plc.cells := by
    rw [← hfs]; simp [Plc.cells]
  have hl2 := Plc.flat_len (T.set i ⟨at', mx, gt, gs⟩)
  have hdr : ((T.set i ⟨at', mx, gt, gs⟩).flatMap Plc.cells).drop (i * 4 + 1) = AV.int IntKind.i64 mx :: AV.bool gt :: AV.bool gs :: List.drop (i * 4 + 4) L := by
    rw [← hX, List.drop_append, List.drop_of_length_le (by simp; omega)]
    have : (List.take (i * 4) L).length = i * 4 := by simp; omega
    rw [this, show i * 4 + 1 - i * 4 = 1 by omega]
    rfl
  generalize (T.set i ⟨at', mx, gt, gs⟩).flatMap Plc.cells = L2 at hK hX hl2 hdr
  have hl3 : L2.length = n * 4 := by rw [hl2]; simp [hn]
  simp [c52A2, f3, f4, f8, hi, fj, hmx, show i * 4 + 4 ≤ L.length by omega]
  have e4 : getH (setH M j (.cells L2)) c4 = some (.cells [.int .i64 at']) := by rw [getH_set_ne (Ne.symm hne.2.2), f4]
  have e3 : getH (setH M j (.cells L2)) c3 = some (.cells [.hs j 4 0 n]) := by rw [getH_set_ne (Ne.symm hne.1), f3]
  have ej : getH (setH M j (.cells L2)) j = some (.cells L2) := getH_set_self (by simp [fj])
  simp [hX, e4, e3, ej, hi, show i * 4 + 1 + 1 ≤ L2.length by omega, hdr, wrap_s (n := at' + mx) (by omega)]
  exact hK
/-- The table, when the globals of a secrecy are laid so far. -/
def Prg.tb (P : Prg) (b : Bool) (i : Nat) : List Plc := (List.range P.globals.length).map fun k => if ((P.globals[k]?).getD gz).secret = b ∧ k < i ∨ b = true ∧ ((P.globals[k]?).getD gz).secret = false then P.plc k else ⟨0, 0, false, false⟩
def Prg.at52 (P : Prg) (b : Bool) (i : Nat) : Int := (if b then words P.globals false else 0) + words (P.globals.take i) b
theorem tb_step {P : Prg} {b : Bool} {i : Nat} {g : Glob} (hg : P.globals[i]? = some g) : P.tb b (i + 1) = (if g.secret = b then (P.tb b i).set i ⟨P.at52 b i, g.words, g.truth, g.secret⟩ else P.tb b i) ∧ P.at52 b (i + 1) = P.at52 b i + (if g.secret = b then g.words else 0) := by
  have hlt := (List.getElem?_eq_some_iff.1 hg).1
  constructor
  · apply List.ext_getElem?
    intro k
    by_cases hk : k < P.globals.length
    · have hlen : (P.tb b i).length = P.globals.length := by simp [Prg.tb]
      by_cases e : k = i
      · subst e
        by_cases hb : g.secret = b
        · rw [if_pos hb, List.getElem?_set_self (by rw [hlen]; exact hk)]
          simp [Prg.tb, hk, hg, hb, Prg.plc, Prg.at52]
          have hgg : P.globals[k] = g := by
            rw [List.getElem?_eq_getElem hk] at hg
            simpa using hg
          simp [hgg, hb]
        · rw [if_neg hb]
          have hgg : P.globals[k] = g := by
            rw [List.getElem?_eq_getElem hk] at hg
            simpa using hg
          simp [Prg.tb, hk, hgg, hb]
      · have h2 : (k < i + 1) = (k < i) := by simp; omega
        split
        · rw [List.getElem?_set_ne (Ne.symm e)]
          simp [Prg.tb, hk, h2]
        · simp [Prg.tb, hk, h2]
    · have h1 : (P.tb b (i + 1))[k]? = none := List.getElem?_eq_none (by simp [Prg.tb]; omega)
      rw [h1]
      symm
      split
      · exact List.getElem?_eq_none (by simp [Prg.tb]; omega)
      · exact List.getElem?_eq_none (by simp [Prg.tb]; omega)
  · have hgg : P.globals[i] = g := by
      rw [List.getElem?_eq_getElem hlt] at hg
      simpa using hg
    simp only [Prg.at52, words]
    rw [List.take_add_one, hg]
    simp [List.sum_append]
    omega
structure St52 (P : Prg) (b : Bool) (c1 c3 c4 j a bb : Nat) (H : List AObj) (i : Nat) (M : List AObj) : Prop where
  h3 : getH M c3 = some (.cells [.hs j 4 0 P.globals.length])
  hj : getH M j = some (.cells ((P.tb b i).flatMap Plc.cells))
  h4 : getH M c4 = some (.cells [.int .i64 (P.at52 b i)])
  ha : getH M a = some (.cells [sl (P.globals.map Glob.av)])
  hb : getH M bb = some (.cells [.bool b])
  len : lenH H ≤ lenH M
  keep : ∀ r, r < lenH H → r ≠ j → r ≠ c4 → getH M r = getH H r
  ne : c3 ≠ j ∧ c3 ≠ c4 ∧ c4 ≠ j ∧ a ≠ j ∧ a ≠ c4 ∧ bb ≠ j ∧ bb ≠ c4
def I110 (P : Prg) (l : Nat) (b : Bool) (c1 c3 c4 j a bb : Nat) (H : List AObj) (m : Nat) (τ : Env) (S : AS) : Prop :=
  ∃ (i : Nat) (M : List AObj), m + i = P.globals.length ∧ St52 P b c1 c3 c4 j a bb H i M ∧ τ = [(0, .func (.yield l) [] []), (2, .ptr bb 0), (6, sl (P.globals.map Glob.av)), (7, .int .i64 P.globals.length), (8, .int .i64 i)] ∧ S = ⟨[], M, []⟩
theorem words_le {gs : List Glob} {b : Bool} (h : ∀ g ∈ gs, 0 ≤ g.len ∧ g.len ≤ 64) : 0 ≤ words gs b ∧ words gs b ≤ 64 * gs.length := by
  induction gs with
  | nil => simp [words]
  | cons g r ih =>
    have h1 := h g (by simp)
    have ih := ih fun x hx => h x (by simp [hx])
    simp only [words, List.map_cons, List.sum_cons, List.length_cons] at ih ⊢
    unfold Glob.words
    unfold Glob.words at ih
    split <;> omega
theorem iter52 {P : Prg} (hv : PV P) {l : Nat} {b : Bool} {c1 c3 c4 j a bb : Nat} {v13 v14 v15 v22 : AV} (h0 : St52 P b c1 c3 c4 j a bb H 0 H) :
    acode (SCallsY Tryz.prog l (bodyY Tryz.prog [23, 24] c52A1 c52A2 [(1, .ptr c1 0), (3, .ptr c3 0), (4, .ptr c4 0), (13, v13), (14, v14), (15, v15), (22, v22)])) c110.code
      (argEnv 0 [.func (.yield l) [] [], .ptr a 0, .ptr bb 0]) ⟨[], H, []⟩ (aend c110 fun r K => (∃ v, r = .ret v) ∧ St52 P b c1 c3 c4 j a bb H P.globals.length K) := by
  generalize hC : SCallsY Tryz.prog l (bodyY Tryz.prog [23, 24] c52A1 c52A2 [(1, .ptr c1 0), (3, .ptr c3 0), (4, .ptr c4 0), (13, v13), (14, v14), (15, v15), (22, v22)]) = C
  haveI : MonoS C := by rw [← hC]; infer_instance
  suffices hgo : go C c110.code [] (argEnv 0 [.func (.yield l) [] [], .ptr a 0, .ptr bb 0]) ⟨[], H, []⟩ (aendR c110.res fun r K => (∃ v, r = .ret v) ∧ St52 P b c1 c3 c4 j a bb H P.globals.length K) from hgo
  have hng := hv.ng
  simp [c110, argEnv, h0.ha]
  refine loop_keep (n := P.globals.length) (I110 P l b c1 c3 c4 j a bb H) ?_ ⟨0, H, by simp, h0, by simp, rfl⟩
  rintro m τ S ⟨i, M, hm, h1, rfl, rfl⟩
  by_cases hlt : i < P.globals.length
  · have hgx : (P.globals.map Glob.av)[i]? = some (P.globals[i]).av := by simp [hlt]
    have hg0 := hv.g _ (List.getElem_mem hlt)
    have hge : P.globals[i]? = some P.globals[i] := List.getElem?_eq_getElem hlt
    obtain ⟨t1, t2⟩ := tb_step (P := P) (b := b) hge
    have hw1 := words_le (gs := P.globals) (b := false) hv.g
    have hw2 := words_le (gs := P.globals.take i) (b := b) (fun g hg => hv.g g (List.mem_of_mem_take hg))
    have hat : 0 ≤ P.at52 b i ∧ P.at52 b i ≤ 10000 := by
      have : (P.globals.take i).length ≤ 32 := by simp; omega
      unfold Prg.at52
      split <;> omega
    have hbody := fun K => body52 (c1 := c1) (v13 := v13) (v14 := v14) (v15 := v15) (v22 := v22) (K := K) h1.h3 h1.hj h1.h4 (n := P.globals.length) (i := i) (g := P.globals[i]) (by simp [Prg.tb]) hlt hg0 hat ⟨h1.ne.1, h1.ne.2.1, h1.ne.2.2.1⟩ ⟨by have := getH_lt (H := M) (i := c3) (by simp [h1.h3]); omega, by have := getH_lt (H := M) (i := c4) (by simp [h1.h4]); omega, by have := getH_lt (H := M) (i := j) (by simp [h1.hj]); omega⟩
    obtain ⟨g, hgi⟩ : ∃ g, P.globals[i] = g := ⟨_, rfl⟩
    rw [hgi] at hgx hg0 hge t1 t2 hbody
    obtain ⟨ga, gn, gt, gs, gl, gb⟩ := g
    by_cases hb : gs = b
    · subst hb
      simp at t1 t2
      simp [hlt, hgi, Glob.av, h1.hb]
      rw [← hC, SCallsY_yid]
      refine hbody _ ?_
      rw [hC]
      generalize hM' : setH (setH _ j _) c4 _ = M'
      have k3 := getH_lt (H := M) (i := c3) (by simp [h1.h3])
      have kj := getH_lt (H := M) (i := j) (by simp [h1.hj])
      have k4 := getH_lt (H := M) (i := c4) (by simp [h1.h4])
      have old : ∀ r, r < lenH M → r ≠ j → r ≠ c4 → getH M' r = getH M r := fun r hr n1 n2 => by
        rw [← hM', getH_set_ne (Ne.symm n2), getH_set_ne (Ne.symm n1), getH_add_old (getH_isSome.2 hr)]
      have ka := getH_lt (H := M) (i := a) (by simp [h1.ha])
      have kb := getH_lt (H := M) (i := bb) (by simp [h1.hb])
      obtain ⟨n1, n2, n3, n4, n5, n6, n7⟩ := h1.ne
      simp [wrap_s (n := (i : Int) + 1) (by omega)]
      refine ⟨m - 1, by omega, i + 1, M', by omega, ⟨by rw [old c3 k3 n1 n2, h1.h3], ?_, ?_, by rw [old a ka n4 n5, h1.ha], by rw [old bb kb n6 n7, h1.hb], ?_, fun r hr m1 m2 => ?_, h1.ne⟩, by simp, rfl⟩
      · rw [t1, ← hM', getH_set_ne n3]
        exact getH_set_self (getH_isSome.2 (by simp; omega))
      · rw [t2, ← hM']
        exact getH_set_self (getH_isSome.2 (by simp; omega))
      · have := h1.len
        rw [← hM']; simp; omega
      · have := h1.len
        rw [old r (by omega) m1 m2, h1.keep r hr m1 m2]
    · simp [hb] at t1 t2
      simp [hlt, hgi, Glob.av, h1.hb, hb, wrap_s (n := (i : Int) + 1) (by omega)]
      exact ⟨m - 1, by omega, i + 1, M, by omega, ⟨h1.h3, by rw [t1]; exact h1.hj, by rw [t2]; exact h1.h4, h1.ha, h1.hb, h1.len, h1.keep, h1.ne⟩, by simp, rfl⟩
  · have hi : i = P.globals.length := by omega
    subst hi
    simp [hlt]
    exact h1
theorem some_c {gl : List AV} {b : Bool} {M : List AObj} : SCalls Tryz.prog 90 [sl gl, .bool b] M (fun r K => r = .ret (.func (.func 110) [] [.ptr (lenH M) 0, .ptr (lenH M + 1) 0]) ∧ K = addH (addH M (.cells [sl gl])) (.cells [.bool b])) := by
  refine fn_go k90 rfl ?_
  intro Q hQ
  simp [c90]
  exact hQ _ _ ⟨rfl, rfl⟩
theorem it52 {P : Prg} (hv : PV P) {b : Bool} {c1 c3 c4 j : Nat} {M : List AObj} {df : List (Nat × List AV)} {Q : CPostA} {x1 x2 x3 : AV} {t : Option Nat} {τ : Env} (hτ : keep [1,3,4,13,14,15] τ = [(1, .ptr c1 0), (3, .ptr c3 0), (4, .ptr c4 0), (13, .vs t [.bool false, .bool true]), (14, .int .i64 2), (15, .int .i64 (if b then 1 else 0))]) (h1 : getH M c1 = some (.cells [sl (P.globals.map Glob.av), x1, x2, x3])) (h3 : getH M c3 = some (.cells [.hs j 4 0 P.globals.length]))
    (hj : getH M j = some (.cells ((P.tb b 0).flatMap Plc.cells))) (h4 : getH M c4 = some (.cells [.int .i64 (P.at52 b 0)])) (hne : c3 ≠ j ∧ c3 ≠ c4 ∧ c4 ≠ j)
    (hQ : ∀ k M', getH M' c3 = some (.cells [.hs j 4 0 P.globals.length]) → getH M' j = some (.cells ((P.tb b P.globals.length).flatMap Plc.cells)) → getH M' c4 = some (.cells [.int .i64 (P.at52 b P.globals.length)]) → lenH M ≤ lenH M' → (∀ r, r < lenH M → r ≠ j → r ≠ c4 → getH M' r = getH M r) →
      Q .normal [(1, .ptr c1 0), (3, .ptr c3 0), (4, .ptr c4 0), (13, .vs t [.bool false, .bool true]), (14, .int .i64 2), (15, .int .i64 (if b then 2 else 1)), (42, .int .i64 (if b then 2 else 1))] ⟨[], M', (yid k, [.skip]) :: df⟩) :
    xcode Tryz.prog c52L τ ⟨[], M, df⟩ Q := by
  have k3 := getH_lt (H := M) (i := c3) (by simp [h3])
  have kj := getH_lt (H := M) (i := j) (by simp [hj])
  have k4 := getH_lt (H := M) (i := c4) (by simp [h4])
  simp only [c52L, xcode, hτ]
  show go (SCalls Tryz.prog) _ [] _ _ _
  cases b
  all_goals
    simp [xpiece, thenA]
    show go (SCalls Tryz.prog) _ [] _ _ _
    simp [xpiece, thenA]
    simp only [c52B, c52G, xcode]
    show go (SCalls Tryz.prog) _ [] _ _ _
    simp [xpiece, thenA]
    show go (SCalls Tryz.prog) _ [] _ _ _
    simp [xpiece, thenA, h1]
    refine some_c.mono ?_
    rintro r K ⟨rfl, rfl⟩
  · simp [thenA, keep]
    refine ⟨rfl, rfl, _, fun l => iter52 hv (b := false) (c1 := c1) (c3 := c3) (c4 := c4) (j := j) ⟨?_, ?_, ?_, ?_, ?_, Nat.le_refl _, fun _ _ _ _ => rfl, hne.1, hne.2.1, hne.2.2, by omega, by omega, by omega, by omega⟩, ?_⟩
    · rw [getH_add_old (getH_isSome.2 (by simp <;> omega)), getH_add_old (getH_isSome.2 k3), h3]
    · rw [getH_add_old (getH_isSome.2 (by simp <;> omega)), getH_add_old (getH_isSome.2 kj), hj]
    · rw [getH_add_old (getH_isSome.2 (by simp <;> omega)), getH_add_old (getH_isSome.2 k4), h4]
    · rw [getH_add_old (getH_isSome.2 (by simp))]; simp
    · exact getH_add_at (by simp)
    · intro k M' hS
      simp only [blockA, thenA]
      show go (SCalls Tryz.prog) _ [] _ _ _
      simp [xpiece, keepC]
      have hfin := hQ k M' hS.h3 hS.hj hS.h4 (by have := hS.len; simp at this; omega) (fun r hr n1 n2 => ?_)
      · simpa [show IntKind.i64.wrap 1 = 1 from rfl, show IntKind.i64.wrap 2 = 2 from rfl] using hfin
      rw [hS.keep r (by simp; omega) n1 n2, getH_add_old (getH_isSome.2 (by simp <;> omega)), getH_add_old (getH_isSome.2 hr)]
  · simp [thenA, keep]
    refine ⟨rfl, rfl, _, fun l => iter52 hv (b := true) (c1 := c1) (c3 := c3) (c4 := c4) (j := j) ⟨?_, ?_, ?_, ?_, ?_, Nat.le_refl _, fun _ _ _ _ => rfl, hne.1, hne.2.1, hne.2.2, by omega, by omega, by omega, by omega⟩, ?_⟩
    · rw [getH_add_old (getH_isSome.2 (by simp <;> omega)), getH_add_old (getH_isSome.2 k3), h3]
    · rw [getH_add_old (getH_isSome.2 (by simp <;> omega)), getH_add_old (getH_isSome.2 kj), hj]
    · rw [getH_add_old (getH_isSome.2 (by simp <;> omega)), getH_add_old (getH_isSome.2 k4), h4]
    · rw [getH_add_old (getH_isSome.2 (by simp))]; simp
    · exact getH_add_at (by simp)
    · intro k M' hS
      simp only [blockA, thenA]
      show go (SCalls Tryz.prog) _ [] _ _ _
      simp [xpiece, keepC]
      have hfin := hQ k M' hS.h3 hS.hj hS.h4 (by have := hS.len; simp at this; omega) (fun r hr n1 n2 => ?_)
      · simpa [show IntKind.i64.wrap 1 = 1 from rfl, show IntKind.i64.wrap 2 = 2 from rfl] using hfin
      rw [hS.keep r (by simp; omega) n1 n2, getH_add_old (getH_isSome.2 (by simp <;> omega)), getH_add_old (getH_isSome.2 hr)]
theorem tb_next (P : Prg) : P.tb true 0 = P.tb false P.globals.length ∧ P.at52 true 0 = P.at52 false P.globals.length ∧ P.tb true P.globals.length = P.plcs := by
  refine ⟨?_, ?_, ?_⟩
  · refine List.map_congr_left fun k hk => ?_
    rw [List.mem_range] at hk
    simp [hk]
  · simp [Prg.at52, words]
  · refine List.map_congr_left fun k hk => ?_
    rw [List.mem_range] at hk
    cases h : ((P.globals[k]?).getD gz).secret <;> simp [hk]
theorem tb_0 (P : Prg) : (P.tb false 0).flatMap Plc.cells = ((List.replicate P.globals.length (AV.agg [.int .i64 0, .int .i64 0, .bool false, .bool false])).flatMap AV.cells) := by
  have : P.tb false 0 = List.replicate P.globals.length ⟨0, 0, false, false⟩ := by
    apply List.ext_getElem?
    intro k
    by_cases hk : k < P.globals.length
    · simp [Prg.tb, hk]
    · rw [List.getElem?_eq_none (by simp [Prg.tb]; omega), List.getElem?_eq_none (by simp; omega)]
  rw [this]
  generalize P.globals.length = n
  induction n with
  | zero => rfl
  | succ n ih => simp only [List.replicate_succ, List.flatMap_cons, ih]; rfl
theorem Of_52 {P : Prg} (hv : PV P) : SCalls Tryz.prog 52 [P.av] H (fun r K => ∃ i, r = .ret (.hs i 4 0 P.globals.length) ∧ getH K i = some (.cells (P.plcs.flatMap Plc.cells)) ∧ lenH H ≤ i ∧ Gr H K) := by
  refine SCalls.of_fnX k52 rfl ?_
  have hng := hv.ng
  simp only [c52X, xcode]
  show go (SCalls Tryz.prog) _ [] _ _ _
  simp [xpiece, thenA, argEnv, Prg.av]
  show go (SCalls Tryz.prog) _ [] _ _ _
  have hr1 : (P.globals.length : Int) * 24 ≤ (roomA : Int) := by rw [roomA_eq]; omega
  have hr2 : (P.globals.length : Int) < 2 ^ 62 := by omega
  simp [xpiece, thenA, -mksA_int]
  rw [mksA_int, if_pos ⟨by omega, hr1, rfl, hr2⟩]
  simp only [if_true, Int.toNat_natCast]
  generalize hZ : (List.replicate P.globals.length _).flatMap AV.cells = Z
  rw [← tb_0] at hZ
  simp [thenA, keepC]
  show go (SCalls Tryz.prog) _ [] _ _ _
  simp [xpiece, thenA, keepC]
  show go (SCalls Tryz.prog) _ [] _ _ _
  simp [xpiece, thenA, keepC]
  generalize hM : addH _ AObj.tip = M
  have hl : lenH M = lenH H + 5 := by rw [← hM]; simp
  have q1 : getH M (lenH H) = some (.cells [sl (P.globals.map Glob.av), sl (P.locks.map Lok.av), sl (P.funcs.map Func.av), sl (P.threads.map Thr.av)]) := by
    rw [← hM, getH_add_old (getH_isSome.2 (by simp <;> omega)), getH_set_ne (by omega), getH_add_old (getH_isSome.2 (by simp <;> omega)), getH_set_ne (by omega), getH_add_old (getH_isSome.2 (by simp <;> omega)), getH_add_old (getH_isSome.2 (by simp <;> omega))]
    exact getH_add_at rfl
  have qj : getH M (lenH H + 1) = some (.cells Z) := by
    rw [← hM, getH_add_old (getH_isSome.2 (by simp <;> omega)), getH_set_ne (by omega), getH_add_old (getH_isSome.2 (by simp <;> omega)), getH_set_ne (by omega), getH_add_old (getH_isSome.2 (by simp <;> omega))]
    exact getH_add_at (by simp)
  have q3 : getH M (lenH H + 1 + 1) = some (.cells [.hs (lenH H + 1) 4 0 P.globals.length]) := by rw [← hM]; simp (maxDischargeDepth := 9)
  have q4 : getH M (lenH H + 1 + 1 + 1) = some (.cells [.int .i64 0]) := by rw [← hM]; simp (maxDischargeDepth := 9)
  have qo : ∀ r, r < lenH H → getH M r = getH H r := fun r hr => by
    have hs : (getH H r).isSome = true := getH_isSome.2 hr
    rw [← hM]
    have e1 : lenH H + 1 + 1 ≠ r := by omega
    have e2 : lenH H + 1 + 1 + 1 ≠ r := by omega
    simp (maxDischargeDepth := 9) [e1, e2, hs]
  obtain ⟨n1, n2, n3⟩ := tb_next P
  refine ⟨3, ?_⟩
  simp only [aiter]
  refine it52 hv (b := false) (c1 := lenH H) (c3 := lenH H + 1 + 1) (c4 := lenH H + 1 + 1 + 1) (j := lenH H + 1) (t := some (lenH H + 1 + 1 + 1 + 1)) rfl q1 q3 (by rw [hZ, qj]) (by rw [q4]; simp [Prg.at52, words]) ⟨by omega, by omega, by omega⟩ ?_
  intro k M2 r3 rj r4 rl ro
  simp only [thenA, aiter]
  refine it52 hv (b := true) (c1 := lenH H) (c3 := lenH H + 1 + 1) (c4 := lenH H + 1 + 1 + 1) (j := lenH H + 1) (t := some (lenH H + 1 + 1 + 1 + 1)) rfl (by rw [ro _ (by omega) (by omega) (by omega), q1]) r3 (by rw [n1, rj]) (by rw [n2, r4]) ⟨by omega, by omega, by omega⟩ ?_
  intro k' M3 s3 sj s4 sl' so
  simp only [thenA, aiter]
  simp only [c52L, xcode]
  show go (SCalls Tryz.prog) _ [] _ _ _
  simp [xpiece, thenA, keepC]
  show go (SCalls Tryz.prog) _ [] _ _ _
  simp [xpiece, thenA, keepC, blockA]
  simp only [c52T, xcode]
  show go (SCalls Tryz.prog) _ [] _ _ _
  simp [xpiece, thenA, keepC, s3]
  show go (SCalls Tryz.prog) _ [] _ _ _
  simp [xpiece, aendX, ress, res1, resV]
  refine ⟨?_, by omega, fun r hr => ?_⟩
  · rw [sj, n3]
  · have hr' := getH_isSome.1 hr
    rw [so r (by omega) (by omega) (by omega), ro r (by omega) (by omega) (by omega), qo r hr']
end
end Go.Ab

/- lower.begin -/
namespace Go.Ab
open Go.Proofs

set_option maxRecDepth 100000
set_option maxHeartbeats 8000000
attribute [local simp] c26_1 c26_2 c26_3
theorem setA_new {s : List UInt8} {v : AV} : ∀ {es : Es}, KS es → (∀ p ∈ es, p.1 ≠ .str s) → setA .s (.str s) v es = some (es ++ [(.str s, v)])
  | [], _, _ => rfl
  | (k, x) :: r, h, hn => by
    obtain ⟨t, e⟩ := h (k, x) (by simp)
    simp only at e
    subst e
    have hne : s ≠ t := fun e => hn (.str t, x) (by simp) (by rw [e])
    have e' : (s == t) = false := by simp [hne]
    have ih := setA_new (s := s) (v := v) (es := r) (fun p hp => h p (by simp [hp])) (fun p hp => hn p (by simp [hp]))
    simp [setA, sq, e', ih]
/-- A row of names that are all others, put one by one. -/
theorem setA_take {l : Es} {nm : List (List UInt8)} (hk : l.map Prod.fst = nm.map AV.str) (hnd : nm.Nodup) {j : Nat} {s : List UInt8} {v : AV} (hj : l[j]? = some (.str s, v)) : setA .s (.str s) v (l.take j) = some (l.take (j + 1)) := by
  have hks : KS l := fun p hp => by
    have : p.1 ∈ l.map Prod.fst := List.mem_map.2 ⟨p, hp, rfl⟩
    rw [hk] at this
    obtain ⟨t, -, e⟩ := List.mem_map.1 this
    exact ⟨t, e.symm⟩
  have hn : nm[j]? = some s := by
    have h := congrArg (fun x => x[j]?) hk
    simp only [List.getElem?_map, hj, Option.map_some] at h
    cases h2 : nm[j]? with
    | none => rw [h2] at h; cases h
    | some t =>
      rw [h2] at h
      simp at h
      rw [h]
  rw [setA_new (fun p hp => hks p (List.mem_of_mem_take hp)) (fun p hp e => ?_), List.take_add_one, hj]
  · rfl
  · obtain ⟨i, hi, hi2⟩ := List.mem_take_iff_getElem.1 hp
    have hin : nm[i]? = some s := by
      have h := congrArg (fun x => x[i]?) hk
      have hl : l[i]? = some p := by rw [List.getElem?_eq_getElem (by omega), hi2]
      simp only [List.getElem?_map, hl, Option.map_some, e] at h
      cases h2 : nm[i]? with
      | none => rw [h2] at h; cases h
      | some t =>
        rw [h2] at h
        simp at h
        rw [h]
    have hij := (List.getElem?_inj (i := i) (j := j) (by obtain ⟨h1, -⟩ := List.getElem?_eq_some_iff.1 hin; exact h1) hnd).1 (by rw [hin, hn])
    omega
section
variable {H : List AObj} {P : Prg}
theorem gmap_keys : P.gmap.map Prod.fst = (P.globals.map Glob.name).map AV.str := by
  apply List.ext_getElem?
  intro k
  by_cases hk : k < P.globals.length
  · simp [Prg.gmap, hk]
  · rw [List.getElem?_eq_none (by simp [Prg.gmap]; omega), List.getElem?_eq_none (by simp; omega)]
theorem kmap_keys : P.kmap.map Prod.fst = (P.locks.map Lok.name).map AV.str := by
  apply List.ext_getElem?
  intro k
  by_cases hk : k < P.locks.length
  · simp [Prg.kmap, hk]
  · rw [List.getElem?_eq_none (by simp [Prg.kmap]; omega), List.getElem?_eq_none (by simp; omega)]
theorem fmap_keys : P.fmap.map Prod.fst = (P.funcs.map Func.name).map AV.str := by simp [Prg.fmap, Function.comp_def]
structure Bg (n : Nat) (H : List AObj) (eg ef ek : Es) (M : List AObj) : Prop where
  ho : getH M (n + 1 + 1 + 1 + 1 + 1) = some (.cells [.map n, .map (n + 1), .map (n + 1 + 1), .nils, .int .i64 0, .map (n + 1 + 1 + 1), .map (n + 1 + 1 + 1 + 1)])
  hg : getH M n = some (.map eg)
  hf : getH M (n + 1) = some (.map ef)
  hk : getH M (n + 1 + 1) = some (.map ek)
  hm : getH M (n + 1 + 1 + 1) = some (.map [])
  ht : getH M (n + 1 + 1 + 1 + 1) = some (.map [])
  gr : Gr H M
theorem Bg.setg {n : Nat} {eg ef ek e' : Es} {M : List AObj} (h : Bg n H eg ef ek M) (hn : lenH H ≤ n) : Bg n H e' ef ek (setH M n (.map e')) :=
  ⟨by rw [getH_set_ne (by omega), h.ho], getH_set_self (by simp [h.hg]), by rw [getH_set_ne (by omega), h.hf], by rw [getH_set_ne (by omega), h.hk], by rw [getH_set_ne (by omega), h.hm], by rw [getH_set_ne (by omega), h.ht],
    ⟨by simpa using h.gr.len, fun q hq => by have := getH_isSome.1 hq; rw [getH_set_ne (by omega), h.gr.old q hq]⟩⟩
theorem Bg.setf {n : Nat} {eg ef ek e' : Es} {M : List AObj} (h : Bg n H eg ef ek M) (hn : lenH H ≤ n) : Bg n H eg e' ek (setH M (n + 1) (.map e')) :=
  ⟨by rw [getH_set_ne (by omega), h.ho], by rw [getH_set_ne (by omega), h.hg], getH_set_self (by simp [h.hf]), by rw [getH_set_ne (by omega), h.hk], by rw [getH_set_ne (by omega), h.hm], by rw [getH_set_ne (by omega), h.ht],
    ⟨by simpa using h.gr.len, fun q hq => by have := getH_isSome.1 hq; rw [getH_set_ne (by omega), h.gr.old q hq]⟩⟩
theorem Bg.setk {n : Nat} {eg ef ek e' : Es} {M : List AObj} (h : Bg n H eg ef ek M) (hn : lenH H ≤ n) : Bg n H eg ef e' (setH M (n + 1 + 1) (.map e')) :=
  ⟨by rw [getH_set_ne (by omega), h.ho], by rw [getH_set_ne (by omega), h.hg], by rw [getH_set_ne (by omega), h.hf], getH_set_self (by simp [h.hk]), by rw [getH_set_ne (by omega), h.hm], by rw [getH_set_ne (by omega), h.ht],
    ⟨by simpa using h.gr.len, fun q hq => by have := getH_isSome.1 hq; rw [getH_set_ne (by omega), h.gr.old q hq]⟩⟩
theorem plcs_get {j : Nat} (hj : j < P.globals.length) : j * 4 + 4 ≤ (P.plcs.flatMap Plc.cells).length ∧ ((P.plcs.flatMap Plc.cells).drop (j * 4)).take 4 = (P.plc j).cells := by
  have hl : P.plcs.length = P.globals.length := by simp [Prg.plcs]
  refine ⟨by rw [Plc.flat_len, hl]; omega, ?_⟩
  have key : ∀ (T : List Plc) (j : Nat) (p : Plc), T[j]? = some p → ((T.flatMap Plc.cells).drop (j * 4)).take 4 = p.cells := by
    intro T
    induction T with
    | nil => intro j p h; simp at h
    | cons x r ih =>
      intro j p h
      cases j with
      | zero => simp at h; subst h; simp [Plc.cells]
      | succ j =>
        simp at h
        have hl : x.cells.length = 4 := rfl
        rw [List.flatMap_cons, show (j + 1) * 4 = x.cells.length + j * 4 by rw [hl]; omega, List.drop_length_add_append]
        exact ih j p h
  exact key _ j _ (by simp [Prg.plcs, hj])
def I26a (n i : Nat) (P : Prg) (H : List AObj) (m : Nat) (τ : Env) (S : AS) : Prop :=
  ∃ (j : Nat) (M : List AObj), m + j = P.globals.length ∧ Bg n H (P.gmap.take j) [] [] M ∧ getH M i = some (.cells (P.plcs.flatMap Plc.cells)) ∧
    τ = [(1, .lref 1 0), (3, .ptr (n + 1 + 1 + 1 + 1 + 1) 0), (4, .hs i 4 0 P.globals.length), (21, sl (P.globals.map Glob.av)), (22, .int .i64 P.globals.length), (23, .int .i64 j)] ∧ S = ⟨[(1, P.cells)], M, []⟩
def I26b (n : Nat) (P : Prg) (H : List AObj) (m : Nat) (τ : Env) (S : AS) : Prop :=
  ∃ (j : Nat) (M : List AObj), m + j = P.funcs.length ∧ Bg n H P.gmap (P.fmap.take j) [] M ∧
    τ = [(1, .lref 1 0), (3, .ptr (n + 1 + 1 + 1 + 1 + 1) 0), (40, sl (P.funcs.map Func.av)), (41, .int .i64 P.funcs.length), (42, .int .i64 j)] ∧ S = ⟨[(1, P.cells)], M, []⟩
def I26c (n : Nat) (P : Prg) (H : List AObj) (m : Nat) (τ : Env) (S : AS) : Prop :=
  ∃ (j : Nat) (M : List AObj), m + j = P.locks.length ∧ Bg n H P.gmap P.fmap (P.kmap.take j) M ∧
    τ = [(3, .ptr (n + 1 + 1 + 1 + 1 + 1) 0), (55, sl (P.locks.map Lok.av)), (56, .int .i64 P.locks.length), (57, .int .i64 j)] ∧ S = ⟨[], M, []⟩
theorem begin_c (hw : PW P) : SCalls Tryz.prog 26 [P.av] H (fun r K => ∃ o σ, r = .ret (.ptr o 0) ∧ Lo (lenH H) o P ⟨[], 0⟩ [] σ K ∧ Gr H K) := by
  refine fn_go k26 rfl ?_
  intro Q hQ
  have h52 := fun M => Of_52 hw.pv (H := M)
  simp [c26, Prg.av]
  simp [Prg.av] at h52
  refine (h52 _).mono ?_
  rintro r K ⟨i, rfl, hi, hil, g⟩
  simp
  obtain ⟨n, hn⟩ : ∃ n, lenH H = n := ⟨_, rfl⟩
  have hnd := hw.nd
  simp only [Prg.names, List.nodup_append] at hnd
  have ndg : (P.globals.map Glob.name).Nodup := by first | exact hnd.1.1
  have ndk : (P.locks.map Lok.name).Nodup := by first | exact hnd.1.2.1
  have ndf : (P.funcs.map Func.name).Nodup := by first | exact hnd.2.1
  have hng := hw.pv.ng
  have hnf := hw.pv.nf
  have hnl := hw.pv.nl
  have b0 : Bg n H [] [] [] K := by
    rw [← hn]
    refine ⟨?_, ?_, ?_, ?_, ?_, ?_, ((Gr.refl H).add.add.add.add.add.add).trans g⟩
    · rw [g.old _ (getH_isSome.2 (by simp <;> omega))]; exact getH_add_at (by simp <;> omega)
    · rw [g.old _ (getH_isSome.2 (by simp <;> omega)), getH_add_old (getH_isSome.2 (by simp <;> omega)), getH_add_old (getH_isSome.2 (by simp <;> omega)), getH_add_old (getH_isSome.2 (by simp <;> omega)), getH_add_old (getH_isSome.2 (by simp <;> omega)), getH_add_old (getH_isSome.2 (by simp <;> omega))]; exact getH_add_at (by simp <;> omega)
    · rw [g.old _ (getH_isSome.2 (by simp <;> omega)), getH_add_old (getH_isSome.2 (by simp <;> omega)), getH_add_old (getH_isSome.2 (by simp <;> omega)), getH_add_old (getH_isSome.2 (by simp <;> omega)), getH_add_old (getH_isSome.2 (by simp <;> omega))]; exact getH_add_at (by simp <;> omega)
    · rw [g.old _ (getH_isSome.2 (by simp <;> omega)), getH_add_old (getH_isSome.2 (by simp <;> omega)), getH_add_old (getH_isSome.2 (by simp <;> omega)), getH_add_old (getH_isSome.2 (by simp <;> omega))]; exact getH_add_at (by simp <;> omega)
    · rw [g.old _ (getH_isSome.2 (by simp <;> omega)), getH_add_old (getH_isSome.2 (by simp <;> omega)), getH_add_old (getH_isSome.2 (by simp <;> omega))]; exact getH_add_at (by simp <;> omega)
    · rw [g.old _ (getH_isSome.2 (by simp <;> omega)), getH_add_old (getH_isSome.2 (by simp <;> omega))]; exact getH_add_at (by simp <;> omega)
  rw [hn]
  refine loop_keep (n := P.globals.length) (I26a n i P H) ?_ ⟨0, K, by simp, b0, hi, by simp, rfl⟩
  rintro m τ S ⟨j, M, hm, hb, hi2, rfl, rfl⟩
  by_cases hlt : j < P.globals.length
  · obtain ⟨g, hgi⟩ : ∃ g, P.globals[j] = g := ⟨_, rfl⟩
    obtain ⟨p1, p2⟩ := plcs_get hlt
    have hge : P.gmap[j]? = some (.str g.name, (P.plc j).av) := by simp [Prg.gmap, hlt, hgi]
    have hst := setA_take gmap_keys ndg hge
    obtain ⟨ga, gn, gt, gs, gl, gb⟩ := g
    simp only [Plc.av, Plc.cells] at hst p2
    obtain ⟨L, hL⟩ : ∃ L, P.plcs.flatMap Plc.cells = L := ⟨_, rfl⟩
    have hi3 := hi2
    rw [hL] at hi3
    have p1' : j * 4 + 4 ≤ L.length := by rw [← hL]; exact p1
    have p2' : (L.drop (j * 4)).take 4 = [.int .i64 (P.plc j).base, .int .i64 (P.plc j).len, .bool (P.plc j).truth, .bool (P.plc j).secret] := by rw [← hL]; exact p2
    simp [hlt, hgi, Glob.av, Prg.cells, hb.ho, hb.hg, hi3, p1', p2', hst, wrap_s (n := (j : Int) + 1) (by omega)]
    refine ⟨m - 1, by omega, j + 1, _, by omega, hb.setg (by omega), ?_, by simp, by simp [Prg.cells]⟩
    rw [getH_set_ne (fun e => ?_), hi2]
    rw [← e, hb.hg] at hi2
    simp at hi2
  · have hjl : j = P.globals.length := by omega
    have htk : P.gmap.take j = P.gmap := List.take_of_length_le (by simp [Prg.gmap]; omega)
    rw [htk] at hb
    simp [hlt, c26_6, Prg.cells]
    refine loop_keep (n := P.funcs.length) (I26b n P H) ?_ ⟨0, M, by simp, hb, by simp, by simp [Prg.cells]⟩
    clear hb hm hi2
    rintro m τ S ⟨j, M, hm, hb, rfl, rfl⟩
    by_cases hlt : j < P.funcs.length
    · obtain ⟨g, hgi⟩ : ∃ g, P.funcs[j] = g := ⟨_, rfl⟩
      have hge : P.fmap[j]? = some (.str g.name, g.av) := by simp [Prg.fmap, hlt, hgi]
      have hst := setA_take fmap_keys ndf hge
      obtain ⟨gat', gname, gps, gtr, gse, gbody, ⟨rk, ro, rn, rs, rks, ra⟩⟩ := g
      simp only [Func.av, Ex.av, AV.cells, List.cons_append, List.nil_append] at hst
      simp [hlt, hgi, Func.av, Ex.av, Prg.cells, hb.ho, hb.hf, hst, wrap_s (n := (j : Int) + 1) (by omega)]
      exact ⟨m - 1, by omega, j + 1, _, by omega, hb.setf (by omega), by simp, by simp [Prg.cells]⟩
    · have hjl : j = P.funcs.length := by omega
      have htk : P.fmap.take j = P.fmap := List.take_of_length_le (by simp [Prg.fmap]; omega)
      rw [htk] at hb
      simp [hlt, c26_5, Prg.cells]
      refine loop_keep (n := P.locks.length) (I26c n P H) ?_ ⟨0, M, by simp, hb, by simp, by simp [Prg.cells]⟩
      clear hb hm
      rintro m τ S ⟨j, M, hm, hb, rfl, rfl⟩
      by_cases hlt : j < P.locks.length
      · obtain ⟨g, hgi⟩ : ∃ g, P.locks[j] = g := ⟨_, rfl⟩
        have hge : P.kmap[j]? = some (.str g.name, .int .i64 j) := by simp [Prg.kmap, hlt, hgi]
        have hst := setA_take kmap_keys ndk hge
        obtain ⟨ga, gn⟩ := g
        simp only at hst
        simp [hlt, hgi, Lok.av, Prg.cells, hb.ho, hb.hk, hst, wrap_s (n := (j : Int) + 1) (by omega)]
        exact ⟨m - 1, by omega, j + 1, _, by omega, hb.setk (by omega), by simp, by simp⟩
      · have hjl : j = P.locks.length := by omega
        have htk : P.kmap.take j = P.kmap := List.take_of_length_le (by simp [Prg.kmap]; omega)
        rw [htk] at hb
        simp [hlt, c26_4]
        refine hQ _ _ ⟨_, ⟨n, n + 1, n + 1 + 1, n + 1 + 1 + 1 + 1, n + 1 + 1 + 1, .nils, .nils, .nils⟩, rfl, ⟨hb.ho, hb.hg, hb.hf, hb.hk, ⟨[], hb.hm, by simp [KS], fun s => by simp [fS, lreg]⟩, ⟨[], hb.ht, by simp [KI], by simp [fI], by simp [fI]⟩, .inl ⟨rfl, rfl⟩, ⟨[], .inl ⟨rfl, rfl⟩, rfl⟩, ⟨[], .inl ⟨rfl, rfl⟩, rfl⟩, by simp, by simp only; omega, ?_, by simp, by simp⟩, hb.gr⟩
        have := hb.gr.len
        simp only [hid]
        refine ⟨by omega, by omega, by omega, by omega, fun i hi => by simp at hi⟩
end
end Go.Ab

/- The end of a thread's instructions. -/
namespace Go.Ab
open Go.Proofs

set_option maxRecDepth 100000
set_option maxHeartbeats 8000000
def c25r : ACode := (.keep [0,1,2] (.seq (.reg false [⟨0,(some 7),none,.op (.mv (.t 2)),[]⟩,
  ⟨1,(some 8),none,.op (.tas 75 (.agg []) true (.t 7)),[]⟩,
  ⟨2,(some 6),none,.op (.mv (.t 8)),[]⟩,
  ⟨3,(some 9),none,.op (.ext (.t 6) 0),[]⟩,
  ⟨4,(some 10),none,.op (.ext (.t 6) 1),[]⟩,
  ⟨5,(some 3),none,.op (.allocL []),[]⟩,
  ⟨6,none,none,.op (.st 0 (.t 3) (.t 9)),[]⟩,
  ⟨7,(some 4),none,.op (.mv (.t 10)),[]⟩])
(.keep [0,1,2,4] (.seq (.reg false [⟨0,(some 11),none,.op (.mv (.t 4)),[]⟩])
(.keep [0,1,2,11] (.cond (.t 11)
 (.reg false [⟨0,none,none,.op (.st 1 (.t 0) (.c .nils)),[]⟩,
   ⟨1,none,none,.op (.st 1 (.t 1) (.c (.bool false))),[]⟩])
 (.seq (.reg false [⟨0,(some 12),none,.op (.mv (.t 2)),[]⟩,
   ⟨1,(some 13),none,.op (.bin .neq .iface (.t 12) (.c .nili)),[]⟩])
 (.keep [2,13] (.cond (.t 13)
  (.reg false [⟨0,(some 14),none,.op (.mv (.t 2)),[]⟩,
    ⟨1,none,none,.pan (.t 14),[]⟩])
  .skip)))))))))
theorem k25 : chkRec Tryz.prog 25 2 15 5 2 c25r = true := by kernel_rfl
section
variable {H K : List AObj} {n o : Nat}
theorem rec_some {a b : Nat} {x y : AV} (ha : getH K a = some (.cells [x])) (hb : getH K b = some (.cells [y])) (hne : a ≠ b) :
    DCalls Tryz.prog 25 [.ptr a 0, .ptr b 0] (some tooMany) K (fun m' K' => m' = none ∧ K' = setH (setH K a (.cells [.nils])) b (.cells [.bool false])) := by
  refine DCalls.of_rec k25 rfl ?_ (fun v h => by cases h; rfl)
  show go (SCalls Tryz.prog) c25r [] _ _ _
  simp [c25r, argEnv, put, tooMany, ha, hb, getH_set_ne hne]
theorem rec_none {a b : Nat} : DCalls Tryz.prog 25 [.ptr a 0, .ptr b 0] none K (fun m' K' => m' = none ∧ K' = K) := by
  refine DCalls.of_rec k25 rfl ?_ (fun v h => by cases h)
  show go (SCalls Tryz.prog) c25r [] _ _ _
  simp [c25r, argEnv, put, aendRec]
/-- The lowerer on the heap, behind its statements. -/
structure LoE (o : Nat) (c : List Ins) (x0 x1 x2 r x5 x6 : AV) (cv : AV) (H : List AObj) : Prop where
  ho : getH H o = some (.cells [x0, x1, x2, cv, r, x5, x6])
  hc : CV cv c H
  cl : c.length ≤ 4096
/-- What else there is stays. -/
structure Kp (o : Nat) (cv : AV) (H : List AObj) (cv' : AV) (K : List AObj) : Prop where
  len : lenH H ≤ lenH K
  keep : ∀ r, r < lenH H → r ≠ o → r ∉ hid cv → getH K r = getH H r
  sub : ∀ i ∈ hid cv', i ∈ hid cv ∨ lenH H ≤ i
theorem Kp.refl (o : Nat) (cv : AV) (H : List AObj) : Kp o cv H cv H := ⟨Nat.le_refl _, fun _ _ _ _ => rfl, fun _ h => .inl h⟩
theorem Kp.trans {o : Nat} {cv cv' cv'' : AV} {H K M : List AObj} (a : Kp o cv H cv' K) (b : Kp o cv' K cv'' M) : Kp o cv H cv'' M where
  len := Nat.le_trans a.len b.len
  keep := fun r hr h1 h2 => by
    rw [b.keep r (by have := a.len; omega) h1 (fun hm => ?_), a.keep r hr h1 h2]
    rcases a.sub r hm with h | h
    · exact h2 h
    · omega
  sub := fun i hi => by
    rcases b.sub i hi with h | h
    · exact a.sub i h
    · exact .inr (by have := a.len; omega)
section
variable {c : List Ins} {x0 x1 x2 x5 x6 cv rr : AV}
theorem put_e {y : Ins} (h : LoE o c x0 x1 x2 rr x5 x6 cv H) (hv : ∀ x ∈ [x0, x1, x2, rr, x5, x6], x.okv = true ∧ x.cells = [x]) :
    SCalls Tryz.prog 28 [.ptr o 0, y.av] H (fun r K => c.length < 4096 ∧ (∃ v cv', r = .ret v ∧ v.proper = true ∧ LoE o (c ++ [y]) x0 x1 x2 rr x5 x6 cv' K ∧ Kp o cv H cv' K) ∨ ¬ c.length < 4096 ∧ r = .pan tooMany ∧ Kp o cv H cv K) := by
  have hcl := h.cl
  have ho := h.ho
  have holt := getH_lt (H := H) (i := o) (by simp [ho])
  simp only [List.mem_cons, List.not_mem_nil, or_false, forall_eq_or_imp, forall_eq] at hv
  obtain ⟨⟨v0, w0⟩, ⟨v1, w1⟩, ⟨v2, w2⟩, ⟨v3, w3⟩, ⟨v4, w4⟩, ⟨v5, w5⟩⟩ := hv
  refine fn_go k28 rfl ?_
  intro Q hQ
  rcases h.hc with ⟨hs0, hcv⟩ | ⟨i, hne, hcv, hci⟩
  · have hl : c.length < 4096 := by rw [hs0]; decide
    have e1 : lenH H + 1 ≠ o := by omega
    simp [c28, ho, hcv, c28_1, Ins.av, Ins.cells, roomA_eq, e1]
    generalize hKd : setH _ o _ = K
    have hyc : [AV.int .i64 y.kind, .int .i64 y.op, .int .i64 y.d, .int .i64 y.a, .int .i64 y.b, .int .i64 y.n, .int .i64 y.to] = y.cells := rfl
    rw [hyc] at hKd
    have hKo : getH K o = some (.cells [x0, x1, x2, .hs (lenH H + 3) 7 0 1, rr, x5, x6]) := by
      rw [← hKd]; simp (maxDischargeDepth := 9) [e1, ho]
    have hKi : getH K (lenH H + 3) = some (.cells y.cells) := by
      rw [← hKd, getH_set_ne (by omega)]
      exact getH_add_at (by simp)
    have hKk : ∀ r, r < lenH H → r ≠ o → getH K r = getH H r := fun r hr hne => by
      have hs : (getH H r).isSome = true := getH_isSome.2 hr
      have e2 : lenH H + 1 ≠ r := by omega
      rw [← hKd, getH_set_ne (Ne.symm hne)]
      simp (maxDischargeDepth := 9) [e2, hs]
    have hKl : lenH H ≤ lenH K := by rw [← hKd]; simp; omega
    exact hQ _ _ (.inl ⟨hl, _, .hs (lenH H + 3) 7 0 1, rfl, rfl, ⟨hKo, .inr ⟨lenH H + 3, by simp, by simp [hs0], by rw [hs0, hKi]; simp⟩, by simp; omega⟩, hKl, fun r hr hne _ => hKk r hr hne, fun i hi => .inr (by simp [hid] at hi; omega)⟩)
  · have hil := getH_lt (H := H) (i := i) (by simp [hci])
    have e3 : o ≠ i := fun e => by
      subst e
      rw [ho] at hci
      cases hcc : c with
      | nil => exact hne hcc
      | cons z zs =>
        rw [hcc] at hci
        simp only [Option.some.injEq, AObj.cells.injEq, List.flatMap_cons] at hci
        have := congrArg (fun l => l[2]?) hci
        have h3 := congrArg (fun l => l[3]?) hci
        simp [Ins.cells, hcv] at h3
    have hLl := Ins.flat_len c
    have hLe : (c ++ [y]).flatMap Ins.cells = c.flatMap Ins.cells ++ y.cells := by simp
    generalize c.flatMap Ins.cells = L at hci hLl hLe
    by_cases hl : c.length < 4096
    · have hl2 : ¬ c.length = 4096 := by omega
      have hl3 : ¬ (c.length : Int) = 4096 := by omega
      have e1 : lenH H + 1 ≠ o := by omega
      have e2 : lenH H + 1 ≠ i := by omega
      have e5 : (c.length + 1) * 56 ≤ 35184372088832 := by omega
      have e6 : L.take (c.length * 7) = L := List.take_of_length_le (by omega)
      have e7 : c.length * 7 ≤ L.length := by omega
      simp (maxDischargeDepth := 9) [c28, ho, hcv, c28_1, Ins.av, Ins.cells, hci, hl2, hl3, roomA_eq, e1, e2, e3, e3.symm, e5, e6, e7]
      generalize hKd : setH _ o _ = K
      have hyc : [AV.int .i64 y.kind, .int .i64 y.op, .int .i64 y.d, .int .i64 y.a, .int .i64 y.b, .int .i64 y.n, .int .i64 y.to] = y.cells := rfl
      rw [hyc] at hKd
      have hKo : getH K o = some (.cells [x0, x1, x2, .hs (lenH H + 3) 7 0 (c.length + 1), rr, x5, x6]) := by
        rw [← hKd]; simp (maxDischargeDepth := 9) [e1, e3, e3.symm, ho]
      have hKi : getH K (lenH H + 3) = some (.cells (L ++ y.cells)) := by
        rw [← hKd, getH_set_ne (by omega)]
        exact getH_add_at (by simp)
      have hKk : ∀ r, r < lenH H → r ≠ o → r ≠ i → getH K r = getH H r := fun r hr hne hne2 => by
        have hs : (getH H r).isSome = true := getH_isSome.2 hr
        have e2 : lenH H + 1 ≠ r := by omega
        rw [← hKd, getH_set_ne (Ne.symm hne)]
        simp (maxDischargeDepth := 9) [e2, hs, Ne.symm hne2]
      have hKl : lenH H ≤ lenH K := by rw [← hKd]; simp; omega
      exact hQ _ _ (.inl ⟨hl, _, .hs (lenH H + 3) 7 0 (c.length + 1), rfl, rfl, ⟨hKo, .inr ⟨lenH H + 3, by simp, by simp, by rw [hKi, hLe]⟩, by simp; omega⟩, hKl, fun r hr hne hne2 => hKk r hr hne (fun e => hne2 (by rw [hcv]; simp [hid, e])), fun i hi => .inr (by simp [hid] at hi; omega)⟩)
    · have hl2 : c.length = 4096 := by omega
      simp [c28, ho, hcv, hl2, Ins.av, Ins.cells]
      exact hQ (.pan tooMany) (addH H (.cells [.ptr o 0])) (.inr ⟨hl, rfl, by simp, fun r hr _ _ => getH_add_old (getH_isSome.2 hr), fun i hi => .inl hi⟩)
theorem here_e (h : LoE o c x0 x1 x2 rr x5 x6 cv H) : SCalls Tryz.prog 29 [.ptr o 0] H (fun r K => r = .ret (.int .i64 c.length) ∧ K = H) := by
  refine fn_go k29 rfl ?_
  intro Q hQ
  rcases h.hc with ⟨hs0, hcv⟩ | ⟨i, hne, hcv, hci⟩
  · simp [c29, h.ho, hcv]
    have := hQ _ _ ⟨rfl, rfl⟩
    simpa [hs0] using this
  · simp [c29, h.ho, hcv]
    have := hQ _ _ ⟨rfl, rfl⟩
    simpa using this
theorem to_e (h : LoE o c x0 x1 x2 rr x5 x6 cv H) {a b k m : Nat} (ha : getH H a = some (.cells [.ptr o 0])) (hb : getH H b = some (.cells [.int .i64 k])) (hk : k < c.length) :
    SCalls Tryz.prog 55 [.int .i64 m, .ptr a 0, .ptr b 0] H (fun r K => r = .ret (.tuple []) ∧ LoE o (c.modify k (Ins.goto m)) x0 x1 x2 rr x5 x6 cv K ∧ Kp o cv H cv K) := by
  rcases h.hc with ⟨hs0, hcv⟩ | ⟨i, hne, hcv, hci⟩
  · rw [hs0] at hk; simp at hk
  have hil := getH_lt (H := H) (i := i) (by simp [hci])
  have hfl := Ins.flat_len c
  have hfm := flat_modify (n := m) (c := c) (k := k) hk
  have hoi : o ≠ i := fun e => by
    subst e
    rw [h.ho] at hci
    cases hcc : c with
    | nil => exact hne hcc
    | cons z zs =>
      rw [hcc] at hci
      simp only [Option.some.injEq, AObj.cells.injEq, List.flatMap_cons] at hci
      have h3 := congrArg (fun l => l[3]?) hci
      simp [Ins.cells, hcv] at h3
  refine fn_go k55 rfl ?_
  intro Q hQ
  have hci' := hci
  generalize c.flatMap Ins.cells = L at hci hfl hfm
  simp [c55, ha, hb, h.ho, hcv, hk, hci, show k * 7 + 6 + 1 ≤ L.length by omega]
  generalize hK : setH H i _ = K
  have hKi : getH K i = some (.cells ((c.modify k (Ins.goto m)).flatMap Ins.cells)) := by
    rw [← hK, getH_set_self (by simp [hci]), ← hfm]
  have hKk : ∀ r, r ≠ i → getH K r = getH H r := fun r hne => by rw [← hK, getH_set_ne (Ne.symm hne)]
  have hKl : lenH K = lenH H := by rw [← hK]; simp
  refine hQ _ _ ⟨rfl, ⟨by rw [hKk o hoi, h.ho], .inr ⟨i, ?_, ?_, hKi⟩, by simpa using h.cl⟩, by omega, fun r hr h1 h2 => hKk r (fun e => h2 (by rw [hcv]; simp [hid, e])), fun i hi => .inl hi⟩
  · intro e
    have := congrArg List.length e
    simp at this
    rw [this] at hk
    simp at hk
  · rw [hcv]; simp
end
/-- All that goes to a trap is sent elsewhere. -/
theorem fold_get {m : Nat} : ∀ (ps : List Nat) (c : List Ins) (j : Nat), (ps.foldl (fun d k => d.modify k (Ins.goto m)) c)[j]? = if j ∈ ps then (c[j]?).map (Ins.goto m) else c[j]?
  | [], c, j => by simp
  | p :: ps, c, j => by
    rw [List.foldl_cons, fold_get ps, List.getElem?_modify]
    by_cases e : p = j
    · subst e
      by_cases h : p ∈ ps
      · simp only [h, if_true, List.mem_cons_self]
        cases c[p]? <;> simp [Ins.goto]
      · simp [h]
    · by_cases h : j ∈ ps
      · simp only [h, List.mem_cons_of_mem, if_true, e, if_false]
        cases c[j]? <;> simp
      · simp only [h, List.mem_cons, if_false, e, or_false, Ne.symm e]
        cases c[j]? <;> simp
theorem fold_len {m : Nat} : ∀ (ps : List Nat) (c : List Ins), (ps.foldl (fun d k => d.modify k (Ins.goto m)) c).length = c.length
  | [], c => rfl
  | p :: ps, c => by rw [List.foldl_cons, fold_len ps]; simp
theorem mem_posL {tr : Int} {c : List Ins} {j : Nat} : j ∈ posL tr c ↔ ∃ x, c[j]? = some x ∧ x.led tr = true := by
  unfold posL
  simp only [List.mem_filter, List.mem_range]
  constructor
  · rintro ⟨h1, h2⟩
    split at h2
    · rename_i x hx
      exact ⟨x, hx, h2⟩
    · cases h2
  · rintro ⟨x, hx, h⟩
    refine ⟨(List.getElem?_eq_some_iff.1 hx).1, ?_⟩
    rw [hx]
    exact h
theorem fold_posL {tr : Int} {m : Nat} {c : List Ins} : (posL tr c).foldl (fun d k => d.modify k (Ins.goto m)) (c.map Ins.un) = (c.map fun x => if x.led tr = true then { x with to := (m : Int) } else x).map Ins.un := by
  apply List.ext_getElem?
  intro j
  rw [fold_get]
  simp only [List.getElem?_map]
  by_cases h : j ∈ posL tr c
  · obtain ⟨x, hx, hl⟩ := mem_posL.1 h
    rw [if_pos h, hx]
    have hm : ¬ (m : Int) < 0 := by omega
    simp only [Option.map_some, hl, if_true, Ins.goto, Ins.un, hm, if_false]
    split <;> rfl
  · rw [if_neg h]
    cases hx : c[j]? with
    | none => rfl
    | some x =>
      have : x.led tr = false := by
        cases hh : x.led tr with
        | false => rfl
        | true => exact absurd (mem_posL.2 ⟨x, hx, hh⟩) h
      simp [this]
theorem any_posL {tr : Int} {c : List Ins} : c.any (Ins.led tr) = true ↔ posL tr c ≠ [] := by
  rw [List.any_eq_true]
  constructor
  · rintro ⟨x, hx, hl⟩ e
    obtain ⟨j, hj⟩ := List.mem_iff_getElem?.1 hx
    have := mem_posL.2 ⟨x, hj, hl⟩
    rw [e] at this
    cases this
  · intro h
    obtain ⟨j, hj⟩ := List.exists_mem_of_ne_nil _ h
    obtain ⟨x, hx, hl⟩ := mem_posL.1 hj
    exact ⟨x, List.mem_of_getElem? hx, hl⟩
end
end Go.Ab

/- Plain laws of the lowering: where fewer instructions may be. -/
namespace Go.Ab
open Go.Proofs

/-- How the work goes where one more instruction may be. -/
structure Lim {α : Type} (m : LM α) : Prop where
  len : ∀ L s x s', m L s = some (x, s') → s.c.length ≤ s'.c.length
  up : ∀ L s x s', m L s = some (x, s') → m (L + 1) s = some (x, s')
  dn : ∀ L s x s', m (L + 1) s = some (x, s') → s'.c.length ≤ L → m L s = some (x, s')
theorem Lim.ret {α : Type} (x : α) : Lim (LM.ret x) := ⟨fun L s y s' h => by simp [LM.ret] at h; rw [h.2]; exact Nat.le_refl _, fun L s y s' h => h, fun L s y s' h _ => h⟩
theorem Lim.bind {α β : Type} {m : LM α} {f : α → LM β} (h : Lim m) (hf : ∀ x, Lim (f x)) : Lim (m.bind f) where
  len := fun L s y s' e => by
    simp only [LM.bind] at e
    split at e
    · rename_i x s1 h1
      exact Nat.le_trans (h.len L s x s1 h1) ((hf x).len L s1 y s' e)
    · cases e
  up := fun L s y s' e => by
    simp only [LM.bind] at e ⊢
    split at e
    · rename_i x s1 h1
      rw [h.up L s x s1 h1]
      exact (hf x).up L s1 y s' e
    · cases e
  dn := fun L s y s' e hl => by
    simp only [LM.bind] at e ⊢
    split at e
    · rename_i x s1 h1
      have h2 := (hf x).len _ _ _ _ e
      rw [h.dn L s x s1 h1 (by omega)]
      exact (hf x).dn L s1 y s' e hl
    · cases e
theorem Lim.fail {α : Type} : Lim (lfail : LM α) := ⟨(fun L s x s' h => by cases h), (fun L s x s' h => by cases h), (fun L s x s' h _ => by cases h)⟩
theorem Lim.put (x : Ins) : Lim (lput x) where
  len := fun L s y s' h => by
    simp only [lput] at h
    split at h
    · cases h; simp
    · cases h
  up := fun L s y s' h => by
    simp only [lput] at h ⊢
    split at h
    · rename_i hl
      rw [if_pos (by omega)]
      exact h
    · cases h
  dn := fun L s y s' h hlen => by
    simp only [lput] at h ⊢
    split at h
    · rename_i hl
      cases h
      simp at hlen
      rw [if_pos (by omega)]
    · cases h
theorem Lim.fresh : Lim lfresh := ⟨(fun L s y s' h => by cases h; exact Nat.le_refl _), fun L s y s' h => h, fun L s y s' h _ => h⟩
theorem Lim.here : Lim lhere := ⟨(fun L s y s' h => by cases h; exact Nat.le_refl _), fun L s y s' h => h, fun L s y s' h _ => h⟩
theorem Lim.to (k n : Nat) : Lim (lto k n) := ⟨(fun L s y s' h => by cases h; simp), fun L s y s' h => h, fun L s y s' h _ => h⟩
theorem Lim.into (f : Int → Ins) : Lim (linto f) := Lim.fresh.bind fun _ => (Lim.put _).bind fun _ => .ret _
theorem Lim.set (n : Int) : Lim (lset n) := .into _
theorem Lim.move (n : Int) : Lim (lmove n) := .into _
theorem Lim.calc (a b c : Int) : Lim (lcalc a b c) := .into _
theorem Lim.load (a b : Int) : Lim (lload a b) := .into _
theorem Lim.trap (a b : Int) : Lim (ltrap a b) := .put _
theorem Lim.below (a b : Int) : Lim (lbelow a b) := (Lim.set _).bind fun _ => .calc _ _ _
theorem Lim.look (a b : Int) : Lim (llook a b) := (Lim.below _ _).bind fun _ => .trap _ _
theorem Lim.masked (a b : Int) : Lim (lmasked a b) := (Lim.set _).bind fun _ => .calc _ _ _
section
variable {P : Prg} {cl : List UInt8 → List Int → LM Int}
theorem Lim.fin (hc : ∀ s rs, Lim (cl s rs)) (V : LV) (k o n : Int) (s : List UInt8) (rs : List Int) : Lim (lfin P cl V k o n s rs) := by
  unfold lfin
  split
  · exact .set _
  split
  · split
    · exact .ret _
    · exact .load _ _
  split
  · split
    · split
      · exact (Lim.look _ _).bind fun _ => (Lim.masked _ _).bind fun _ => .load _ _
      · exact (Lim.move _).bind fun _ => (Lim.look _ _).bind fun _ => .load _ _
    · exact .fail
  split
  · split
    · exact (Lim.set _).bind fun _ => .calc _ _ _
    · exact .fail
  split
  · split
    · split
      · exact (Lim.trap _ _).bind fun _ => .calc _ _ _
      · exact .calc _ _ _
    · exact .fail
  · exact hc _ _
mutual
theorem Lim.expr (hc : ∀ s rs, Lim (cl s rs)) (V : LV) : ∀ e : Ex, Lim (lexpr P cl V e)
  | .mk k o n s ks a => (Lim.exprs hc V ks).bind fun rs => .fin hc V k o n s rs
theorem Lim.exprs (hc : ∀ s rs, Lim (cl s rs)) (V : LV) : ∀ l : List Ex, Lim (lexprs P cl V l)
  | [] => .ret []
  | e :: r => (Lim.expr hc V e).bind fun _ => (Lim.exprs hc V r).bind fun _ => .ret _
end
theorem Lim.array (hc : ∀ s rs, Lim (cl s rs)) (V : LV) (s : List UInt8) (y x : Ex) : Lim (larray P cl V s y x) := by
  unfold larray
  refine (Lim.expr hc V y).bind fun _ => (Lim.look _ _).bind fun _ => (Lim.expr hc V x).bind fun _ => Lim.bind ?_ fun _ => .put _
  split
  · exact .masked _ _
  · exact (Lim.move _).bind fun _ => (Lim.below _ _).bind fun _ => (Lim.set _).bind fun _ => (Lim.put _).bind fun _ => .ret _
theorem Lim.assign (hc : ∀ s rs, Lim (cl s rs)) (V : LV) (s : List UInt8) (i e : List Ex) : Lim (lassign P cl V s i e) := by
  unfold lassign
  split
  · split
    · exact .array hc V s _ _
    · refine (Lim.expr hc V _).bind fun r => ?_
      split
      · exact .put _
      · exact .put _
  · exact .fail
mutual
theorem Lim.stmt (hc : ∀ s rs, Lim (cl s rs)) : ∀ (x : St) (V : LV), Lim (lstmt P cl x V)
  | .mk k a t u s i e b l, V => by
    have hb := Lim.stmts hc b V
    have hl := Lim.stmts hc l V
    simp only [lstmt]
    split
    · split
      · exact (Lim.expr hc V _).bind fun _ => (Lim.move _).bind fun _ => .ret _
      · exact .fail
    split
    · exact (Lim.assign hc V s i e).bind fun _ => .ret _
    split
    · split
      · refine (Lim.expr hc V _).bind fun r => Lim.here.bind fun z => (Lim.put _).bind fun _ => hb.bind fun _ => ?_
        split
        · exact Lim.here.bind fun _ => (Lim.to _ _).bind fun _ => .ret _
        · exact Lim.here.bind fun _ => (Lim.put _).bind fun _ => Lim.here.bind fun _ => (Lim.to _ _).bind fun _ => hl.bind fun _ => Lim.here.bind fun _ => (Lim.to _ _).bind fun _ => .ret _
      · exact .fail
    split
    · split
      · exact Lim.here.bind fun _ => (Lim.expr hc V _).bind fun r => Lim.here.bind fun z => (Lim.put _).bind fun _ => hb.bind fun _ => (Lim.put _).bind fun _ => Lim.here.bind fun _ => (Lim.to _ _).bind fun _ => .ret _
      · exact .fail
    split
    · exact (Lim.put _).bind fun _ => hb.bind fun _ => (Lim.put _).bind fun _ => .ret _
    split
    · exact (Lim.expr hc V _).bind fun _ => (Lim.put _).bind fun _ => .ret _
    · exact .fail
theorem Lim.stmts (hc : ∀ s rs, Lim (cl s rs)) : ∀ (l : List St) (V : LV), Lim (lstmts P cl l V)
  | [], V => .ret V
  | s :: r, V => (Lim.stmt hc s V).bind fun V' => Lim.stmts hc r V'
end
theorem Lim.moves : ∀ l : List Int, Lim (lmoves l)
  | [] => .ret []
  | a :: r => (Lim.move a).bind fun _ => (Lim.moves r).bind fun _ => .ret _
theorem Lim.call : ∀ (f : Nat) (s : List UInt8) (rs : List Int), Lim (lcall P f s rs)
  | 0, s, rs => .fail
  | f + 1, s, rs => (Lim.moves rs).bind fun _ => (Lim.stmts (Lim.call f) _ _).bind fun _ => Lim.expr (Lim.call f) _ _
end
theorem Lim.lend (tr : Int) : Lim (lend tr) where
  len := fun L s y s' h => by
    simp only [Go.Ab.lend] at h
    split at h
    · have := (Lim.put _).len _ _ _ _ h
      simpa using this
    · cases h; exact Nat.le_refl _
  up := fun L s y s' h => by
    simp only [Go.Ab.lend] at h ⊢
    split at h
    · rename_i hc
      rw [if_pos hc]
      exact (Lim.put _).up _ _ _ _ h
    · rename_i hc
      rw [if_neg hc]
      exact h
  dn := fun L s y s' h hl => by
    simp only [Go.Ab.lend] at h ⊢
    split at h
    · rename_i hc
      rw [if_pos hc]
      exact (Lim.put _).dn _ _ _ _ h hl
    · rename_i hc
      rw [if_neg hc]
      exact h
theorem Lim.thread (P : Prg) (b : List St) : Lim (lthread P b) := (Lim.stmts (Lim.call 17) b []).bind fun _ => (Lim.put _).bind fun _ => (Lim.lend 1).bind fun _ => Lim.lend 2
end Go.Ab

/- Plain laws of the lowering: where instructions go to. -/
namespace Go.Ab
open Go.Proofs

/-- Who goes below 0 goes to a trap. -/
def Tos (c : List Ins) : Prop := ∀ x ∈ c, 0 ≤ x.to ∨ x.led 1 = true ∨ x.led 2 = true
def TT {α : Type} (m : LM α) : Prop := ∀ L s x s', Tos s.c → m L s = some (x, s') → Tos s'.c
theorem TT.ret {α : Type} (x : α) : TT (LM.ret x) := fun L s y s' ht h => by simp [LM.ret] at h; rw [← h.2]; exact ht
theorem TT.bind {α β : Type} {m : LM α} {f : α → LM β} (h : TT m) (hf : ∀ x, TT (f x)) : TT (m.bind f) := fun L s y s' ht e => by
  simp only [LM.bind] at e
  split at e
  · rename_i x s1 h1
    exact hf x L s1 y s' (h L s x s1 ht h1) e
  · cases e
theorem TT.fail {α : Type} : TT (lfail : LM α) := fun L s x s' _ h => by cases h
theorem TT.put {x : Ins} (hx : 0 ≤ x.to ∨ x.led 1 = true ∨ x.led 2 = true) : TT (lput x) := fun L s y s' ht h => by
  simp only [lput] at h
  split at h
  · cases h
    intro y hy
    rcases List.mem_append.1 hy with hy | hy
    · exact ht y hy
    · simp at hy; rw [hy]; exact hx
  · cases h
theorem TT.fresh : TT lfresh := fun L s y s' ht h => by cases h; exact ht
theorem TT.here : TT lhere := fun L s y s' ht h => by cases h; exact ht
theorem TT.to (k n : Nat) : TT (lto k n) := fun L s y s' ht h => by
  cases h
  intro y hy
  obtain ⟨j, hj⟩ := List.mem_iff_getElem?.1 hy
  simp only [List.getElem?_modify] at hj
  cases hc : s.c[j]? with
  | none => rw [hc] at hj; simp at hj
  | some z =>
    rw [hc] at hj
    by_cases e : k = j
    · simp [e] at hj
      rw [← hj]
      exact .inl (by simp)
    · simp [e] at hj
      rw [← hj]
      exact ht z (List.mem_of_getElem? hc)
theorem TT.into {f : Int → Ins} (hf : ∀ k, (f k).to = 0) : TT (linto f) := TT.fresh.bind fun k => (TT.put (.inl (by rw [hf k]; exact Int.le_refl 0))).bind fun _ => .ret _
theorem TT.set (n : Int) : TT (lset n) := .into fun _ => rfl
theorem TT.move (n : Int) : TT (lmove n) := .into fun _ => rfl
theorem TT.calc (a b c : Int) : TT (lcalc a b c) := .into fun _ => rfl
theorem TT.load (a b : Int) : TT (lload a b) := .into fun _ => rfl
theorem TT.trap1 (a : Int) : TT (ltrap a 1) := .put (.inr (.inl rfl))
theorem TT.trap2 (a : Int) : TT (ltrap a 2) := .put (.inr (.inr rfl))
theorem TT.below (a b : Int) : TT (lbelow a b) := (TT.set _).bind fun _ => .calc _ _ _
theorem TT.look (a b : Int) : TT (llook a b) := (TT.below _ _).bind fun _ => .trap2 _
theorem TT.masked (a b : Int) : TT (lmasked a b) := (TT.set _).bind fun _ => .calc _ _ _
section
variable {P : Prg} {cl : List UInt8 → List Int → LM Int}
theorem TT.fin (hc : ∀ s rs, TT (cl s rs)) (V : LV) (k o n : Int) (s : List UInt8) (rs : List Int) : TT (lfin P cl V k o n s rs) := by
  unfold lfin
  split
  · exact .set _
  split
  · split
    · exact .ret _
    · exact .load _ _
  split
  · split
    · split
      · exact (TT.look _ _).bind fun _ => (TT.masked _ _).bind fun _ => .load _ _
      · exact (TT.move _).bind fun _ => (TT.look _ _).bind fun _ => .load _ _
    · exact .fail
  split
  · split
    · exact (TT.set _).bind fun _ => .calc _ _ _
    · exact .fail
  split
  · split
    · split
      · exact (TT.trap1 _).bind fun _ => .calc _ _ _
      · exact .calc _ _ _
    · exact .fail
  · exact hc _ _
mutual
theorem TT.expr (hc : ∀ s rs, TT (cl s rs)) (V : LV) : ∀ e : Ex, TT (lexpr P cl V e)
  | .mk k o n s ks a => (TT.exprs hc V ks).bind fun rs => .fin hc V k o n s rs
theorem TT.exprs (hc : ∀ s rs, TT (cl s rs)) (V : LV) : ∀ l : List Ex, TT (lexprs P cl V l)
  | [] => .ret []
  | e :: r => (TT.expr hc V e).bind fun _ => (TT.exprs hc V r).bind fun _ => .ret _
end
theorem TT.array (hc : ∀ s rs, TT (cl s rs)) (V : LV) (s : List UInt8) (y x : Ex) : TT (larray P cl V s y x) := by
  unfold larray
  refine (TT.expr hc V y).bind fun _ => (TT.look _ _).bind fun _ => (TT.expr hc V x).bind fun _ => TT.bind ?_ fun _ => .put (.inl (by simp))
  split
  · exact .masked _ _
  · exact (TT.move _).bind fun _ => (TT.below _ _).bind fun _ => (TT.set _).bind fun _ => (TT.put (.inl (by simp))).bind fun _ => .ret _
theorem TT.assign (hc : ∀ s rs, TT (cl s rs)) (V : LV) (s : List UInt8) (i e : List Ex) : TT (lassign P cl V s i e) := by
  unfold lassign
  split
  · split
    · exact .array hc V s _ _
    · refine (TT.expr hc V _).bind fun r => ?_
      split
      · exact .put (.inl (by simp))
      · exact .put (.inl (by simp))
  · exact .fail
mutual
theorem TT.stmt (hc : ∀ s rs, TT (cl s rs)) : ∀ (x : St) (V : LV), TT (lstmt P cl x V)
  | .mk k a t u s i e b l, V => by
    have hb := TT.stmts hc b V
    have hl := TT.stmts hc l V
    simp only [lstmt]
    split
    · split
      · exact (TT.expr hc V _).bind fun _ => (TT.move _).bind fun _ => .ret _
      · exact .fail
    split
    · exact (TT.assign hc V s i e).bind fun _ => .ret _
    split
    · split
      · refine (TT.expr hc V _).bind fun r => TT.here.bind fun z => (TT.put (.inl (by simp))).bind fun _ => hb.bind fun _ => ?_
        split
        · exact TT.here.bind fun _ => (TT.to _ _).bind fun _ => .ret _
        · exact TT.here.bind fun _ => (TT.put (.inl (by simp))).bind fun _ => TT.here.bind fun _ => (TT.to _ _).bind fun _ => hl.bind fun _ => TT.here.bind fun _ => (TT.to _ _).bind fun _ => .ret _
      · exact .fail
    split
    · split
      · exact TT.here.bind fun _ => (TT.expr hc V _).bind fun r => TT.here.bind fun z => (TT.put (.inl (by simp))).bind fun _ => hb.bind fun _ => (TT.put (.inl (by simp))).bind fun _ => TT.here.bind fun _ => (TT.to _ _).bind fun _ => .ret _
      · exact .fail
    split
    · exact (TT.put (.inl (by simp))).bind fun _ => hb.bind fun _ => (TT.put (.inl (by simp))).bind fun _ => .ret _
    split
    · exact (TT.expr hc V _).bind fun _ => (TT.put (.inl (by simp))).bind fun _ => .ret _
    · exact .fail
theorem TT.stmts (hc : ∀ s rs, TT (cl s rs)) : ∀ (l : List St) (V : LV), TT (lstmts P cl l V)
  | [], V => .ret V
  | s :: r, V => (TT.stmt hc s V).bind fun V' => TT.stmts hc r V'
end
theorem TT.moves : ∀ l : List Int, TT (lmoves l)
  | [] => .ret []
  | a :: r => (TT.move a).bind fun _ => (TT.moves r).bind fun _ => .ret _
theorem TT.call : ∀ (f : Nat) (s : List UInt8) (rs : List Int), TT (lcall P f s rs)
  | 0, s, rs => .fail
  | f + 1, s, rs => (TT.moves rs).bind fun _ => (TT.stmts (TT.call f) _ _).bind fun _ => TT.expr (TT.call f) _ _
end
end Go.Ab

/- lower.Thread -/
namespace Go.Ab
open Go.Proofs

set_option maxRecDepth 100000
set_option maxHeartbeats 8000000
attribute [local simp] c5_1 c5_2 c5_3 c5_4 c5_5 c5_6 c5_7 c5_8 c10_4
def lrest : Nat → LM Unit
  | 0 => (lend 1).bind fun _ => lend 2
  | 1 => lend 2
  | _ => .ret ()
structure Ph (o : Nat) (σ : Lp) (s0 : LS) (H0 : List AObj) (ph : Nat) (s : LS) (cv : AV) (M : List AObj) : Prop where
  spec : lrest 0 4096 s0 = lrest ph 4096 s
  E : LoE o (s.c.map Ins.un) (.map σ.ig) (.map σ.ifn) (.map σ.ik) (.int .i64 s0.r) (.map σ.m) (.map σ.it) cv M
  K : Kp o σ.cv H0 cv M
  p : ∀ k : Nat, ph ≤ k → k ≤ 1 → posL (k + 1 : Nat) s.c = posL (k + 1 : Nat) s0.c
  t : ∀ x ∈ s.c, 0 ≤ x.to ∨ ∃ k : Nat, ph ≤ k ∧ k ≤ 1 ∧ x.led (k + 1 : Nat) = true
theorem led_res {x : Ins} {tr t : Int} {m : Nat} (h : t ≠ tr) (h0 : 0 < t) : (if x.led tr = true then { x with to := (m : Int) } else x).led t = x.led t := by
  split
  · rename_i hl
    simp only [Ins.led, Bool.and_eq_true, beq_iff_eq] at hl
    have h1 : Ins.led t { x with to := (m : Int) } = false := by
      simp [Ins.led]
      intro _
      omega
    have h2 : x.led t = false := by
      simp [Ins.led]
      intro _
      omega
    rw [h1, h2]
  · rfl
theorem posL_res {c : List Ins} {tr t : Int} {m : Nat} (h : t ≠ tr) (h0 : 0 < t) : posL t (c.map (fun x => if x.led tr = true then { x with to := (m : Int) } else x) ++ [⟨12, 0, 0, 0, 0, tr, 0⟩]) = posL t c := by
  rw [posL_append]
  have : Ins.led t ⟨12, 0, 0, 0, 0, tr, 0⟩ = false := rfl
  rw [this]
  simp only [Bool.false_eq_true, if_false, List.append_nil]
  unfold posL
  rw [List.length_map]
  refine List.filter_congr fun j hj => ?_
  rw [List.getElem?_map]
  cases c[j]? with
  | none => rfl
  | some x => simp only [Option.map_some]; exact led_res h h0
def I10 (o c4 c5 j : Nat) (σ : Lp) (s0 : LS) (H0 : List AObj) (m : Nat) (τ : Env) (S : AS) : Prop :=
  ∃ (ph : Nat) (s : LS) (cv : AV) (M : List AObj), m + ph = 2 ∧ Ph o σ s0 H0 ph s cv M ∧
    τ = [(4, .ptr c4 0), (5, .ptr c5 0), (6, .ptr o 0), (33, .hs j 1 0 2), (34, .int .i64 2), (35, .int .i64 ph)] ∧ S = ⟨[], M, [(25, [.ptr c4 0, .ptr c5 0])]⟩
def I10i (o c4 c5 j ph : Nat) (σ : Lp) (s0 s : LS) (H0 : List AObj) (cv tv : AV) (fs : List AV) (m : Nat) (τ : Env) (S : AS) : Prop :=
  ∃ (i : Nat) (M : List AObj), m + i = fs.length ∧
    LoE o (((posL (ph + 1 : Nat) s.c).take i).foldl (fun d k => d.modify k (Ins.goto s.c.length)) (s.c.map Ins.un)) (.map σ.ig) (.map σ.ifn) (.map σ.ik) (.int .i64 s0.r) (.map σ.m) (.map σ.it) cv M ∧ Kp o σ.cv H0 cv M ∧
    τ = [(4, .ptr c4 0), (5, .ptr c5 0), (6, .ptr o 0), (8, .int .i64 ((ph : Int) + 1)), (33, .hs j 1 0 2), (34, .int .i64 2), (35, .int .i64 ph), (44, tv), (45, .int .i64 fs.length), (46, .int .i64 i)] ∧ S = ⟨[], M, [(25, [.ptr c4 0, .ptr c5 0])]⟩
theorem Clo.get {H : List AObj} {o : Nat} : ∀ {ps : List Nat} {fs : List AV} {i p : Nat}, Clo H o ps fs → ps[i]? = some p → ∃ a b, fs[i]? = some (.func (.func 55) [] [.ptr a 0, .ptr b 0]) ∧ getH H a = some (.cells [.ptr o 0]) ∧ getH H b = some (.cells [.int .i64 p])
  | [], fs, i, p, h, hp => by simp at hp
  | q :: ps, fs, i, p, h, hp => by
    obtain ⟨a, b, r, rfl, h0, h1, h2, h3⟩ := h
    cases i with
    | zero => simp at hp; subst hp; exact ⟨a, b, rfl, h1, h2⟩
    | succ i => simp at hp; obtain ⟨a', b', k1, k2⟩ := h3.get hp; exact ⟨a', b', by simpa using k1, k2⟩
theorem Kp.one {o : Nat} {cv cv' : AV} {H K : List AObj} (k : Kp o cv H cv' K) {c : List Ins} (hc : CV cv c H) {y : List AV} (ho : getH H o = some (.cells y)) (hy : 2 ≤ y.length) {r : Nat} {x : AV} (hr : getH H r = some (.cells [x])) : getH K r = some (.cells [x]) := by
  rw [k.keep r (getH_lt (by simp [hr])) (fun e => ?_) (fun hm => ?_), hr]
  · subst e
    rw [hr] at ho
    simp at ho
    subst ho
    simp at hy
  · rcases hc with ⟨-, e⟩ | ⟨i, hne, e, hi⟩
    · rw [e] at hm; simp [hid] at hm
    · rw [e] at hm
      simp [hid] at hm
      subst hm
      rw [hr] at hi
      simp at hi
      have := congrArg List.length hi
      rw [Ins.flat_len] at this
      cases c with
      | nil => exact hne rfl
      | cons z zs => simp at this; omega
/-- What a thread's instructions are, told as lower.Thread tells it. -/
def thR (P : Prg) (i : Int) (L : Nat) : Option (List Ins) := if 0 ≤ i ∧ i < P.threads.length then (lthread P ((P.threads[i.toNat]?).getD []) L ⟨[], 0⟩).map fun p => p.2.c else none
def ThP (P : Prg) (i : Int) (H : List AObj) : AEnd → List AObj → Prop := fun r K => FrN (lenH H) H K ∧ match thR P i 4096 with
  | some c => c.length ≤ 4096 ∧ ∃ cv, r = .ret (.tuple [cv, .bool true]) ∧ CV cv c K ∧ ∀ i ∈ hid cv, lenH H ≤ i
  | none => r = .ret (.tuple [.nils, .bool false])
section
variable {H : List AObj} {P : Prg}
theorem Thread_c (hw : PW P) {i : Int} (hi : -2 ^ 59 ≤ i ∧ i ≤ 2 ^ 59) : SCalls Tryz.prog 10 [P.av, .int .i64 i] H (ThP P i H) := by
  refine fn_goD k10 rfl ?_
  intro Q hQ
  have hnt := hw.pv.nt
  by_cases h0 : 0 ≤ i ∧ i < P.threads.length
  · have hth : thR P i 4096 = (lthread P ((P.threads[i.toNat]?).getD []) 4096 ⟨[], 0⟩).map fun p => p.2.c := if_pos h0
    obtain ⟨t, ht⟩ : ∃ t, P.threads[i.toNat]? = some t := ⟨_, List.getElem?_eq_getElem (by omega)⟩
    rw [ht] at hth
    simp only [Option.getD_some] at hth
    have htm := List.mem_of_getElem? ht
    have hbeg := fun M => begin_c hw (H := M)
    simp only [Prg.av] at hbeg
    simp [c10, Prg.av, h0.1, h0.2, Int.not_lt.2 h0.1, Int.not_le.2 h0.2, c10_6]
    refine (hbeg _).mono ?_
    rintro r K ⟨o, σ, rfl, hLo, g⟩
    have hg2 : (P.threads.map Thr.av)[i.toNat]? = some (Thr.av t) := by simp [ht]
    have hn2 := hLo.lo.2.2.2.1
    obtain ⟨H1, hH1⟩ : ∃ H1, addH (addH H (.cells [.nils])) (.cells [.bool false]) = H1 := ⟨_, rfl⟩
    rw [hH1] at hLo g hn2
    have hH1l : lenH H1 = lenH H + 1 + 1 := by rw [← hH1]; simp
    have hH1o : ∀ r, r < lenH H → getH H1 r = getH H r := fun r hr => by rw [← hH1, getH_add_old (getH_isSome.2 (by simp; omega)), getH_add_old (getH_isSome.2 hr)]
    have hH14 : getH H1 (lenH H) = some (.cells [.nils]) := by rw [← hH1, getH_add_old (getH_isSome.2 (by simp))]; simp
    have hH15 : getH H1 (lenH H + 1) = some (.cells [.bool false]) := by rw [← hH1]; exact getH_add_at (by simp)
    have hK4 : getH K (lenH H) = some (.cells [.nils]) := by rw [g.old _ (by simp [hH14]), hH14]
    have hK5 : getH K (lenH H + 1) = some (.cells [.bool false]) := by rw [g.old _ (by simp [hH15]), hH15]
    -- what is left where there was too much
    have bad : ∀ (M : List AObj) (τ : Env) (S : AS), thR P i 4096 = none → getH M (lenH H) = some (.cells [.nils]) → getH M (lenH H + 1) = some (.cells [.bool false]) → FrN (lenH H) H M → look τ 4 = some (.ptr (lenH H) 0) → look τ 5 = some (.ptr (lenH H + 1) 0) →
        DCalls Tryz.prog 25 [.ptr (lenH H) 0, .ptr (lenH H + 1) 0] (some tooMany) M fun m' H' => endK [.cell 4 false 1, .cell 5 false 1] τ S Q m' H' := by
      intro M τ S hno h4 h5 hfr l4 l5
      refine (rec_some h4 h5 (by omega)).mono ?_
      rintro m' K' ⟨rfl, rfl⟩
      simp [ress, res1, l4, l5, h4, h5, getH_set_ne (show lenH H ≠ lenH H + 1 by omega), resV]
      refine hQ _ _ ⟨(hfr.trans (FrN.set (Nat.le_refl _))).trans (FrN.set (by omega)), ?_⟩
      rw [hno]
    have hsc := hw.th t htm
    simp [ixaA_sl, h0.1, hg2, Thr.av]
    have oldS : ∀ {M : List AObj}, PKS o σ K M → FrN (lenH H) H M ∧ getH M (lenH H) = some (.cells [.nils]) ∧ getH M (lenH H + 1) = some (.cells [.bool false]) := by
      intro M pk
      have hge : ∀ r ∈ σ.m :: σ.own o, lenH H1 ≤ r := fun r hr => by
        rcases List.mem_cons.1 hr with rfl | hr
        · exact hLo.lo.2.1
        · exact (hLo.own_ge hr).1
      refine ⟨⟨by have := pk.len; omega, fun r hr => ?_⟩, ?_, ?_⟩
      · rw [pk.keep r (by omega) (fun hm => by have := hge r hm; omega), g.old _ (by rw [hH1o r hr]; exact getH_isSome.2 hr), hH1o r hr]
      · rw [pk.keep _ (by omega) (fun hm => by have := hge _ hm; omega), hK4]
      · rw [pk.keep _ (by omega) (fun hm => by have := hge _ hm; omega), hK5]
    refine (block2_c (F := -1) (thread_s hw htm) hLo (by simp) hsc).mono ?_
    rintro r K1 (⟨hm1, rfl, pk1⟩ | ⟨V1, s1, σ1, hm1, rfl, h1, lk1, hr1⟩)
    · have hno : thR P i 4096 = none := by rw [hth, lthread, LM.bind_none hm1]; rfl
      obtain ⟨w1, w2, w3⟩ := oldS pk1
      simp
      exact bad _ _ _ hno w2 w3 w1 rfl rfl
    simp
    refine (put_c (x := ⟨13, 0, 0, 0, 0, 0, 0⟩) (y := ⟨13, 0, 0, 0, 0, 0, 0⟩) h1 (un0 (by simp)) (tz rfl)).mono ?_
    rintro r K2 hlp2
    rcases hlp2.c2 with ⟨hm2, rfl, pk2⟩ | ⟨x2, s2, v2, σ2, hm2, rfl, ⟨ca2, cb2, rfl, hca2, hcb2⟩, h2, lk2, hr2⟩
    · have hno : thR P i 4096 = none := by rw [hth, lthread, LM.bind_some hm1, LM.bind_none hm2]; rfl
      obtain ⟨w1, w2, w3⟩ := oldS (lk1.pre pk2.s)
      simp
      exact bad _ _ _ hno w2 w3 w1 rfl rfl
    have hth2 : thR P i 4096 = (lrest 0 4096 s2).map fun p => p.2.c := by rw [hth, lthread, LM.bind_some hm1, LM.bind_some hm2]; rfl
    have lk12 := lk1.trans lk2.s
    have htos : Tos s2.c := TT.put (.inl (by simp)) 4096 s1 _ s2 (TT.stmts (TT.call 17) t [] 4096 ⟨[], 0⟩ _ s1 (fun x hx => by simp at hx) hm1) hm2
    obtain ⟨w1, w2, w3⟩ := oldS ⟨lk12.len, lk12.keep, _, _, _, _, _, _, _, h2.ho⟩
    obtain ⟨es, hes, hki, ht1, ht2⟩ := h2.ht
    obtain ⟨fs1, tip1, clo1⟩ := h2.h1
    obtain ⟨fs2, tip2, clo2⟩ := h2.h2
    have hH0l : lenH K2 = lenH (addH K2 (.cells [.int .i64 1, .int .i64 2])) - 1 := by simp
    have gz : Gr K2 (addH K2 (.cells [.int .i64 1, .int .i64 2])) := (Gr.refl K2).add
    simp
    obtain ⟨H0, hH0⟩ : ∃ H0, addH K2 (.cells [.int .i64 1, .int .i64 2]) = H0 := ⟨_, rfl⟩
    have hj0 : getH H0 (lenH K2) = some (.cells [.int .i64 1, .int .i64 2]) := by rw [← hH0]; simp
    rw [hH0] at gz
    have h3 := h2.gr gz
    rw [hH0]
    refine loop_keep (n := 2) (I10 o (lenH H) (lenH H + 1) (lenH K2) σ2 s2 H0) ?_ ⟨0, s2, σ2.cv, H0, by simp, ⟨rfl, ⟨h3.ho, h3.hc, by simpa using h3.cl⟩, .refl _ _ _, fun _ _ _ => rfl, fun x hx => (htos x hx).imp id (fun h => h.elim (fun h => ⟨0, by omega, by omega, h⟩) (fun h => ⟨1, by omega, by omega, h⟩))⟩, by simp, by simp⟩
    rintro m τ S ⟨ph, s, cv, M, hm, hP, rfl, rfl⟩
    have one : ∀ r x, getH H0 r = some (.cells [x]) → getH M r = some (.cells [x]) := fun r x hr => hP.K.one h3.hc h3.ho (by simp) hr
    have hH02 : ∀ r, r < lenH K2 → getH H0 r = getH K2 r := fun r hr => gz.old r (getH_isSome.2 hr)
    have m4 : getH M (lenH H) = some (.cells [.nils]) := one _ _ (by rw [hH02 _ (getH_lt (by simp [w2])), w2])
    have m5 : getH M (lenH H + 1) = some (.cells [.bool false]) := one _ _ (by rw [hH02 _ (getH_lt (by simp [w3])), w3])
    have hcvlt : ∀ r ∈ hid σ2.cv, lenH H1 ≤ r ∧ r < lenH K2 := fun r hr => ⟨(h2.own_ge (by simp [Lp.own, hr])).1, (h2.own_ge (by simp [Lp.own, hr])).2⟩
    have hol := h2.old
    have keepM : ∀ {cv' : AV} {M' : List AObj}, Kp o σ2.cv H0 cv' M' → getH M' σ2.it = some (.map es) ∧ FrN (lenH H) H M' ∧ getH M' (lenH H) = some (.cells [.nils]) ∧ getH M' (lenH H + 1) = some (.cells [.bool false]) := by
      intro cv' M' hPK
      have one' : ∀ r x, getH H0 r = some (.cells [x]) → getH M' r = some (.cells [x]) := fun r x hr => hPK.one h3.hc h3.ho (by simp) hr
      refine ⟨?_, ⟨by have := hPK.len; have := gz.len; have := w1.1; omega, fun r hr => ?_⟩, one' _ _ (by rw [hH02 _ (getH_lt (by simp [w2])), w2]), one' _ _ (by rw [hH02 _ (getH_lt (by simp [w3])), w3])⟩
      · rw [hPK.keep σ2.it (by have := gz.len; omega) (fun e => ?_) (fun hm => ?_), hH02 _ hol.1, hes]
        · rw [e, h2.ho] at hes; simp at hes
        · rcases h2.hc with ⟨-, e⟩ | ⟨q, -, e, hq⟩
          · rw [e] at hm; simp [hid] at hm
          · rw [e] at hm
            simp [hid] at hm
            rw [hm, hq] at hes
            simp at hes
      · rw [hPK.keep r (by have := gz.len; have := w1.1; omega) (by have := hLo.lo.1; omega) (fun hm => by have := (hcvlt r hm).1; omega), hH02 r (by have := w1.1; omega), w1.2 r hr]
    have hit0 : getH M σ2.it = some (.map es) := by
      rw [hP.K.keep σ2.it (by have := gz.len; omega) (fun e => ?_) (fun hm => ?_), hH02 _ hol.1, hes]
      · rw [e, h2.ho] at hes; simp at hes
      · rcases h2.hc with ⟨-, e⟩ | ⟨q, -, e, hq⟩
        · rw [e] at hm; simp [hid] at hm
        · rw [e] at hm
          simp [hid] at hm
          rw [hm, hq] at hes
          simp at hes
    have hfrM : FrN (lenH H) H M := by
      refine ⟨by have := hP.K.len; have := gz.len; have := w1.1; omega, fun r hr => ?_⟩
      rw [hP.K.keep r (by have := gz.len; have := w1.1; omega) (by have := hLo.lo.1; omega) (fun hm => by have := (hcvlt r hm).1; omega), hH02 r (by have := w1.1; omega), w1.2 r hr]
    have hjM : getH M (lenH K2) = some (.cells [.int .i64 1, .int .i64 2]) := by
      rw [hP.K.keep _ (getH_lt (by simp [hj0])) (by omega) (fun hm => by have := (hcvlt _ hm).2; omega), hj0]
    by_cases hph : ph < 2
    · obtain ⟨tv, fs, ht, htv, hclo⟩ : ∃ tv fs, (fI es (ph + 1 : Nat)).getD .nils = tv ∧ ((fs = [] ∧ tv = .nils) ∨ ∃ t, fs ≠ [] ∧ tv = .vs t fs) ∧ Clo H0 o (posL (ph + 1 : Nat) s.c) fs := by
        rw [hP.p ph (Nat.le_refl _) (by omega)]
        rcases (show ph = 0 ∨ ph = 1 by omega) with rfl | rfl
        · refine ⟨_, fs1, ht1, ?_, clo1.keep fun r x hr => by rw [gz.old r (by simp [hr]), hr]⟩
          rcases tip1 with h | ⟨t, h0, h, -, -⟩
          · exact .inl h
          · exact .inr ⟨_, h0, h⟩
        · refine ⟨_, fs2, ht2, ?_, clo2.keep fun r x hr => by rw [gz.old r (by simp [hr]), hr]⟩
          rcases tip2 with h | ⟨t, h0, h, -, -⟩
          · exact .inl h
          · exact .inr ⟨_, h0, h⟩
      have hfl := hclo.len
      have hpl : (posL (ph + 1 : Nat) s.c).length ≤ s.c.length := by
        unfold posL
        exact Nat.le_trans (List.length_filter_le _ _) (by simp)
      have hcl : s.c.length ≤ 4096 := by have := hP.E.cl; simpa using this
      have hcel : [AV.int .i64 1, AV.int .i64 2][ph]? = some (.int .i64 (ph + 1 : Nat)) := by
        rcases (show ph = 0 ∨ ph = 1 by omega) with rfl | rfl <;> rfl
      have htk : List.take 1 (List.drop ph [AV.int .i64 1, AV.int .i64 2]) = [.int .i64 (ph + 1 : Nat)] := by
        rcases (show ph = 0 ∨ ph = 1 by omega) with rfl | rfl <;> rfl
      have hfa := findA_I hki (ph + 1 : Nat)
      have ecast : ((ph + 1 : Nat) : Int) = (ph : Int) + 1 := by omega
      rw [ecast] at hfa
      have hlkv : (fI es (ph + 1 : Nat) = none ∧ tv = .nils) ∨ fI es (ph + 1 : Nat) = some tv := by
        cases hfi : fI es (ph + 1 : Nat) with
        | none => rw [hfi] at ht; exact .inl ⟨rfl, ht.symm⟩
        | some v => rw [hfi] at ht; simp only [Option.getD_some] at ht; exact .inr (by rw [ht])
      have hrest : lrest ph 4096 s = ((lend (ph + 1 : Nat)).bind fun _ => lrest (ph + 1)) 4096 s := by
        rcases (show ph = 0 ∨ ph = 1 by omega) with rfl | rfl
        · rfl
        · simp only [lrest, LM.bind, LM.ret]
          cases lend 2 4096 s with
          | none => rfl
          | some p => obtain ⟨u, s'⟩ := p; rfl
      have none' : tv = .nils → fs = [] → ∃ m_1, m_1 < m ∧ I10 o (lenH H) (lenH H + 1) (lenH K2) σ2 s2 H0 m_1 [(4, .ptr (lenH H) 0), (5, .ptr (lenH H + 1) 0), (6, .ptr o 0), (33, .hs (lenH K2) 1 0 2), (34, .int .i64 2), (35, .int .i64 ((ph : Int) + 1))] ⟨[], M, [(25, [.ptr (lenH H) 0, .ptr (lenH H + 1) 0])]⟩ := by
        intro e1 e2
        have hpe : posL (ph + 1 : Nat) s.c = [] := by
          rw [e2] at hfl
          exact List.eq_nil_of_length_eq_zero (by simpa using hfl.symm)
        have hsk : lend (ph + 1 : Nat) 4096 s = some ((), s) := by
          unfold lend
          rw [if_neg]
          intro h
          exact any_posL.1 h hpe
        refine ⟨m - 1, by omega, ph + 1, s, cv, M, by omega, ⟨by rw [hP.spec, hrest, LM.bind_some hsk], hP.E, hP.K, fun k h1 h2 => hP.p k (by omega) h2, fun x hx => ?_⟩, by simp, rfl⟩
        rcases hP.t x hx with h | ⟨k, k1, k2, k3⟩
        · exact .inl h
        · refine .inr ⟨k, ?_, k2, k3⟩
          rcases Nat.lt_or_ge ph k with h | h
          · omega
          · exfalso
            have : k = ph := by omega
            subst this
            obtain ⟨j, hj⟩ := List.mem_iff_getElem?.1 hx
            have := mem_posL.2 ⟨x, hj, k3⟩
            rw [hpe] at this
            cases this
      rcases hlkv with ⟨hfi, rfl⟩ | hfi
      · have hfs : fs = [] := by
          rcases htv with ⟨h, -⟩ | ⟨t, -, h⟩
          · exact h
          · cases h
        rw [ecast] at hfi
        rw [hfi] at hfa
        simp [hph, show (ph : Int) < 2 by omega, hjM, htk, show ph + 1 ≤ 2 by omega, hP.E.ho, hit0, hfa]
        refine loop_keep (n := 0) (fun m τ S => m = 0 ∧ τ = [(4, .ptr (lenH H) 0), (5, .ptr (lenH H + 1) 0), (6, .ptr o 0), (8, .int .i64 ((ph : Int) + 1)), (33, .hs (lenH K2) 1 0 2), (34, .int .i64 2), (35, .int .i64 ph), (44, .nils), (45, .int .i64 0), (46, .int .i64 0)] ∧ S = ⟨[], M, [(25, [.ptr (lenH H) 0, .ptr (lenH H + 1) 0])]⟩) ?_ ⟨rfl, rfl, rfl⟩
        rintro m2 τ S ⟨rfl, rfl, rfl⟩
        simp [c10_2, c10_3, hP.E.ho, hit0, hfa, wrap_s (n := (ph : Int) + 1) (by omega)]
        exact none' rfl hfs
      · rw [ecast] at hfi
        rw [hfi] at hfa
        rcases htv with ⟨hfs, rfl⟩ | ⟨tk, hfne, rfl⟩
        · simp [hph, show (ph : Int) < 2 by omega, hjM, htk, show ph + 1 ≤ 2 by omega, hP.E.ho, hit0, hfa]
          refine loop_keep (n := 0) (fun m τ S => m = 0 ∧ τ = [(4, .ptr (lenH H) 0), (5, .ptr (lenH H + 1) 0), (6, .ptr o 0), (8, .int .i64 ((ph : Int) + 1)), (33, .hs (lenH K2) 1 0 2), (34, .int .i64 2), (35, .int .i64 ph), (44, .nils), (45, .int .i64 0), (46, .int .i64 0)] ∧ S = ⟨[], M, [(25, [.ptr (lenH H) 0, .ptr (lenH H + 1) 0])]⟩) ?_ ⟨rfl, rfl, rfl⟩
          rintro m2 τ S ⟨rfl, rfl, rfl⟩
          simp [c10_2, c10_3, hP.E.ho, hit0, hfa, wrap_s (n := (ph : Int) + 1) (by omega)]
          exact none' rfl hfs
        · simp [hph, show (ph : Int) < 2 by omega, hjM, htk, show ph + 1 ≤ 2 by omega, hP.E.ho, hit0, hfa]
          refine loop_keep (n := fs.length) (I10i o (lenH H) (lenH H + 1) (lenH K2) ph σ2 s2 s H0 cv (.vs tk fs) fs) ?_ ⟨0, M, by simp, by simpa using hP.E, hP.K, by simp, rfl⟩
          rintro m2 τ S ⟨q, M2, hm2', hE2, hK2, rfl, rfl⟩
          have one2 : ∀ r x, getH H0 r = some (.cells [x]) → getH M2 r = some (.cells [x]) := fun r x hr => hK2.one h3.hc h3.ho (by simp) hr
          have clo2' := hclo.keep one2
          obtain ⟨n1, n2, n3, n4⟩ := keepM hK2
          have hfoldl : (((posL (ph + 1 : Nat) s.c).take q).foldl (fun d k => d.modify k (Ins.goto s.c.length)) (s.c.map Ins.un)).length = s.c.length := by rw [fold_len]; simp
          by_cases hlt : q < fs.length
          · obtain ⟨p, hp⟩ : ∃ p, (posL (ph + 1 : Nat) s.c)[q]? = some p := ⟨_, List.getElem?_eq_getElem (by omega)⟩
            obtain ⟨ca, cb, hget, hca, hcb⟩ := clo2'.get hp
            obtain ⟨px, hpx, -⟩ := mem_posL.1 (List.mem_of_getElem? hp)
            have hplt := (List.getElem?_eq_some_iff.1 hpx).1
            have htake : (posL (ph + 1 : Nat) s.c).take (q + 1) = (posL (ph + 1 : Nat) s.c).take q ++ [p] := by rw [List.take_add_one, hp]; rfl
            have hgel : fs[q] = .func (.func 55) [] [.ptr ca 0, .ptr cb 0] := by
              rw [List.getElem?_eq_getElem hlt] at hget
              simpa using hget
            simp [hlt, c10_1, hgel]
            refine (here_e hE2).mono ?_
            rintro r K' ⟨rfl, rfl⟩
            rw [hfoldl]
            simp
            refine (to_e hE2 hca hcb (m := s.c.length) (by rw [hfoldl]; exact hplt)).mono ?_
            rintro r M3 ⟨rfl, hE3, hK3⟩
            simp [wrap_s (n := (q : Int) + 1) (by omega)]
            refine ⟨m2 - 1, by omega, q + 1, M3, by omega, ?_, hK2.trans hK3, by simp, rfl⟩
            rw [htake, List.foldl_append]
            exact hE3
          · have hq : q = fs.length := by omega
            have htk2 : (posL (ph + 1 : Nat) s.c).take q = posL (ph + 1 : Nat) s.c := List.take_of_length_le (by omega)
            rw [htk2, fold_posL] at hE2
            have hany : s.c.any (Ins.led (ph + 1 : Nat)) = true := any_posL.2 (fun e => by rw [e] at hfl; exact hfne (List.eq_nil_of_length_eq_zero (by simpa using hfl)))
            have hlend : lend (ph + 1 : Nat) 4096 s = lput ⟨12, 0, 0, 0, 0, (ph + 1 : Nat), 0⟩ 4096 ⟨s.c.map fun x => if x.led (ph + 1 : Nat) = true then { x with to := s.c.length } else x, s.r⟩ := by
              unfold lend
              rw [if_pos hany]
            have hpos : ¬ fs = [] := hfne
            have hfl0 : 0 < fs.length := List.length_pos_iff.2 hfne
            simp [hlt, c10_2, hE2.ho, n1, hfa, hfl0]
            refine (put_e (y := ⟨12, 0, 0, 0, 0, (ph : Int) + 1, 0⟩) hE2 (by simp)).mono ?_
            rintro r M3 (⟨hl3, v3, cv3, rfl, hv3, hE3, hK3⟩ | ⟨hl3, rfl, hK3⟩)
            · simp at hl3
              simp [c10_3, wrap_s (n := (ph : Int) + 1) (by omega), okD_proper hv3]
              refine ⟨m - 1, by omega, ph + 1, ⟨(s.c.map fun x => if x.led (ph + 1 : Nat) = true then { x with to := (s.c.length : Int) } else x) ++ [⟨12, 0, 0, 0, 0, ((ph + 1 : Nat) : Int), 0⟩], s.r⟩, cv3, M3, by omega, ⟨?_, ?_, hK2.trans hK3, ?_, ?_⟩, by simp, rfl⟩
              · rw [hP.spec, hrest, LM.bind_some (x := ()) (s' := ⟨(s.c.map fun x => if x.led (ph + 1 : Nat) = true then { x with to := (s.c.length : Int) } else x) ++ [⟨12, 0, 0, 0, 0, ((ph + 1 : Nat) : Int), 0⟩], s.r⟩)]
                rw [hlend]
                simp only [lput, List.length_map, hl3, if_true]
              · have e12 : ((s.c.map fun x => if x.led (ph + 1 : Nat) = true then { x with to := (s.c.length : Int) } else x) ++ [(⟨12, 0, 0, 0, 0, ((ph + 1 : Nat) : Int), 0⟩ : Ins)]).map Ins.un = (s.c.map fun x => if x.led (ph + 1 : Nat) = true then { x with to := (s.c.length : Int) } else x).map Ins.un ++ [(⟨12, 0, 0, 0, 0, (ph : Int) + 1, 0⟩ : Ins)] := by
                  rw [List.map_append, List.map_singleton, un0 (by simp), ecast]
                show LoE o (((s.c.map fun x => if x.led (ph + 1 : Nat) = true then { x with to := (s.c.length : Int) } else x) ++ [(⟨12, 0, 0, 0, 0, ((ph + 1 : Nat) : Int), 0⟩ : Ins)]).map Ins.un) _ _ _ _ _ _ cv3 M3
                rw [e12]
                exact hE3
              · intro k k1 k2
                rw [posL_res (by omega) (by omega)]
                exact hP.p k (by omega) k2
              · intro x hx
                rcases List.mem_append.1 hx with hx | hx
                · obtain ⟨y, hy, rfl⟩ := List.mem_map.1 hx
                  by_cases hl : y.led (ph + 1 : Nat) = true
                  · rw [if_pos hl]
                    exact .inl (by simp)
                  · rw [if_neg hl]
                    rcases hP.t y hy with h | ⟨k, k1, k2, k3⟩
                    · exact .inl h
                    · refine .inr ⟨k, ?_, k2, k3⟩
                      rcases Nat.lt_or_ge ph k with h | h
                      · omega
                      · exfalso
                        have : k = ph := by omega
                        subst this
                        exact hl k3
                · simp at hx
                  subst hx
                  exact .inl (by simp)
            · have hno : thR P i 4096 = none := by
                rw [hth2, hP.spec, hrest, LM.bind_none]
                · rfl
                · rw [hlend]
                  simp at hl3
                  simp only [lput, List.length_map]
                  rw [if_neg (by omega)]
              obtain ⟨p1, p2, p3, p4⟩ := keepM (hK2.trans hK3)
              simp
              exact bad _ _ _ hno p3 p4 p2 rfl rfl
    · have hph2 : ph = 2 := by omega
      subst hph2
      have hun : s.c.map Ins.un = s.c := by
        rw [List.map_congr_left (g := id) (fun x hx => ?_), List.map_id]
        rcases hP.t x hx with h | ⟨k, k1, k2, -⟩
        · exact un0 h
        · omega
      have hthF : thR P i 4096 = some s.c := by rw [hth2, hP.spec]; rfl
      have hcv := hP.E.hc
      rw [hun] at hcv
      have hoM := hP.E.ho
      have hne45 : lenH H ≠ lenH H + 1 := by omega
      simp [show ¬ ((2 : Nat) : Int) < 2 by omega]
      have fin : ∀ v : AV, FrN (lenH H) H (setH (setH M (lenH H) (.cells [v])) (lenH H + 1) (.cells [.bool true])) := fun v => (hfrM.trans (FrN.set (Nat.le_refl _))).trans (FrN.set (by omega))
      rcases hcv with ⟨h1, h2'⟩ | ⟨q, h1, h2', h3'⟩
      · rw [h2'] at hoM
        simp [c10_5, hoM, m4, m5, getH_set_ne hne45]
        refine rec_none.mono ?_
        rintro m' K' ⟨rfl, rfl⟩
        simp [ress, res1, getH_set_ne hne45, m4, m5, resV, getH_set_ne hne45.symm]
        refine hQ _ _ ⟨fin _, ?_⟩
        rw [hthF]
        exact ⟨by have := hP.E.cl; simpa using this, .nils, rfl, .inl ⟨h1, rfl⟩, by simp [hid]⟩
      · have hq2 : lenH H1 ≤ q := by
          rcases hP.K.sub q (by rw [h2']; simp [hid]) with h | h
          · exact (hcvlt q h).1
          · have := gz.len; have := lk12.len; omega
        rw [h2'] at hoM
        simp [c10_5, hoM, m4, m5, getH_set_ne hne45]
        refine rec_none.mono ?_
        rintro m' K' ⟨rfl, rfl⟩
        simp [ress, res1, getH_set_ne hne45, m4, m5, resV, getH_set_ne hne45.symm]
        refine hQ _ _ ⟨fin _, ?_⟩
        rw [hthF]
        refine ⟨by have := hP.E.cl; simpa using this, .hs q 7 0 s.c.length, rfl, .inr ⟨q, h1, rfl, ?_⟩, ?_⟩
        · rw [getH_set_ne (by omega), getH_set_ne (by omega), h3']
        · intro j hj
          simp [hid] at hj
          omega
  · have hth : thR P i 4096 = none := if_neg h0
    have hQ' := hQ (.ret (.tuple [.nils, .bool false])) 
    unfold ThP at hQ'
    rw [hth] at hQ'
    have hfr : FrN (lenH H) H (setH (setH (addH (addH H (.cells [.nils])) (.cells [.bool false])) (lenH H) (.cells [.nils])) (lenH H + 1) (.cells [.bool false])) :=
      (((FrN.add (Nat.le_refl _)).trans (FrN.add (by simp))).trans (FrN.set (Nat.le_refl _))).trans (FrN.set (by omega))
    by_cases hn : i < 0
    · simp [c10, Prg.av, hn]
      exact hQ' _ ⟨hfr, rfl⟩
    · have hge : (P.threads.length : Int) ≤ i := by omega
      simp [c10, Prg.av, hn, hge]
      exact hQ' _ ⟨hfr, rfl⟩
end
end Go.Ab
