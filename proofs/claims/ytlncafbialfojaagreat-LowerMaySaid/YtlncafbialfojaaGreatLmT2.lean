/- What the functions come to (part 9). No conditions. -/
import Derived.Shelf.SlMaps.Clone
import Derived.Test.YtlncafbialfojaaGreatLmT1
set_option linter.unusedVariables false
set_option linter.unusedSimpArgs false
namespace Go.Ab
open Go.Proofs

set_option maxRecDepth 100000
set_option maxHeartbeats 8000000
def Bad (c : Nat) (E : Int) (M : List AObj) : Prop := ∃ (x0 x1 x2 x3 x4 x5 x6 x7 x8 x9 : AV) (A : Int), getH M c = some (.cells [x0, x1, x2, x3, x4, x5, x6, x7, x8, x9, .int .i64 E, .int .i64 A])
def ASt (n c : Nat) (P : Prg) (F Who E : Int) (M : List AObj) : Prop := E ≠ 0 ∧ Bad c E M ∧ n ≤ c ∧ n ≤ lenH M ∨ Ck n c ⟨P, 0, []⟩ F Who [] E M
section
variable {n c : Nat} {P : Prg} {F Who E : Int} {H M : List AObj}
theorem Ck.bad {σ : Sc} {held : List (List UInt8)} (h : Ck n c σ F Who held E M) : Bad c E M := by
  obtain ⟨A, hv, U, us, hc, -⟩ := h.st
  exact ⟨_, _, _, _, _, _, _, _, _, _, A, by rw [hc]; rfl⟩
theorem ASt.bad (h : ASt n c P F Who E M) : Bad c E M := by
  rcases h with h | h
  · exact h.2.1
  · exact h.bad
theorem ASt.nc (h : ASt n c P F Who E M) : n ≤ c := by
  rcases h with h | h
  · exact h.2.2.1
  · exact h.nc
theorem ASt.ck (h : ASt n c P F Who 0 M) : Ck n c ⟨P, 0, []⟩ F Who [] 0 M := by
  rcases h with h | h
  · exact absurd rfl h.1
  · exact h
/-- A program that the checker takes. -/
structure PW (P : Prg) : Prop where
  pv : PV P
  nd : P.names.Nodup
  by' : ∀ g ∈ P.globals, g.by' = [] ∨ 0 ≤ P.lidx g.by'
  fn : ∀ (i : Nat) (f : Func), P.funcs[i]? = some f → f.sc P i
  th : ∀ t ∈ P.threads, St.scs P (-1) [] t
def A1 (P : Prg) (j : Nat) : Prop := ∀ (t : Nat) (g : Glob), t < j → P.globals[t]? = some g → g.by' = [] ∨ 0 ≤ P.lidx g.by'
def A2 (P : Prg) (j : Nat) : Prop := ∀ (i : Nat) (f : Func), i < j → P.funcs[i]? = some f → f.sc P i
def A3 (P : Prg) (j : Nat) : Prop := ∀ (i : Nat) (t : List St), i < j → P.threads[i]? = some t → St.scs P (-1) [] t
def I51 (n c : Nat) (P : Prg) (F Who : Int) (H : List AObj) (Φ : Nat → Prop) (l : Nat) (mk : Int → Env) (lo : List (Nat × List AV)) (m : Nat) (τ : Env) (S : AS) : Prop :=
  ∃ (j : Nat) (E : Int) (M : List AObj), m + j = l ∧ (E = 0 → Φ j) ∧ ASt n c P F Who E M ∧ FrN n H M ∧ τ = mk j ∧ S = ⟨lo, M, []⟩
def I51b (n c : Nat) (P : Prg) (H : List AObj) (Φ : Nat → Prop) (l : Nat) (mk : Int → Env) (lo : List (Nat × List AV)) (m : Nat) (τ : Env) (S : AS) : Prop :=
  ∃ (j : Nat) (Who E : Int) (M : List AObj), m + j = l ∧ (E = 0 → Φ j) ∧ ASt n c P (-1) Who E M ∧ FrN n H M ∧ τ = mk j ∧ S = ⟨lo, M, []⟩
def I51c (n c : Nat) (P : Prg) (H : List AObj) (Φ : Nat → Prop) (l : Nat) (mk : Int → Env) (lo : List (Nat × List AV)) (m : Nat) (τ : Env) (S : AS) : Prop :=
  ∃ (j : Nat) (F E : Int) (M : List AObj), m + j = l ∧ (E = 0 → Φ j) ∧ ASt n c P F 0 E M ∧ FrN n H M ∧ τ = mk j ∧ S = ⟨lo, M, []⟩
theorem sum_mem {l : List Nat} {x : Nat} (h : x ∈ l) : x ≤ l.sum := by
  induction l with
  | nil => simp at h
  | cons y r ih =>
    rcases List.mem_cons.1 h with rfl | h
    · simp
    · have := ih h; simp; omega
def AllP (P : Prg) (H : List AObj) : AEnd → List AObj → Prop := fun r K => ∃ (c : Nat) (E : Int), r = .ret (.ptr c 0) ∧ Bad c E K ∧ FrN (lenH H) H K ∧ (E = 0 → PW P)
def ulen : Option (Nat × List Int) → Nat
  | none => 0
  | some (_, l) => l.length
@[simp] theorem lenA_uv (S : AS) (u : Option (Nat × List Int)) : lenA S .l (uv u) = some (ulen u) := by rcases u with _ | ⟨i, l⟩ <;> simp [uv, ulen]
theorem all8_c (hP : PV P) : SCalls Tryz.prog 51 [P.av] H (AllP P H) := by
  refine fn_go k51 rfl ?_
  intro Q hQ
  have hsz := hP.size
  have e : (AV.agg [sl (P.globals.map Glob.av), sl (P.locks.map Lok.av), sl (P.funcs.map Func.av), sl (P.threads.map Thr.av)]) = P.av := rfl
  have hok : (Sc.mk P 0 []).Ok := ⟨hP, by simp, by simp, by simp⟩
  have p8 : ∀ (n c : Nat) (K : List AObj) (F Who E : Int) (M : List AObj) (τ : Env), lenH H ≤ n → FrN (lenH H) H K → FrN n K M → ASt n c P F Who E M → (E = 0 → PW P) → look τ 1 = some (.lref 1 0) → look τ 6 = some (.ptr c 0) →
      go (SCalls Tryz.prog) c51_8 [] τ ⟨[(1, P.cells)], M, []⟩ (aendR [.tmp 2] Q) := by
    intro n c K F Who E M τ hn hK frM hA hw t1 t6
    simp [c51_8, t1, t6]
    refine loop_keep (n := P.globals.length) (I51 n c P F Who M (fun _ => PW P) P.globals.length (fun i => [(1, .lref 1 0), (6, .ptr c 0), (10, .int .i64 i)]) [(1, P.cells)]) ?_ ⟨0, E, M, by simp, hw, hA, .refl _ _, rfl, rfl⟩
    clear hw hA
    rintro m τ S ⟨j, E, M2, hj, hw, hA, fr2, rfl, rfl⟩
    have c7 : ∀ τ, look τ 6 = some (.ptr c 0) → go (SCalls Tryz.prog) c51_7 [] τ ⟨[], M2, []⟩ (aendR [.tmp 2] Q) := fun τ t6 => by
      simp [c51_7, t6]
      exact hQ _ _ ⟨c, E, rfl, hA.bad, hK.trans ((frM.trans fr2).le hn), hw⟩
    by_cases hlt : j < P.globals.length
    · by_cases hE : E = 0
      · subst hE
        have hc := hA.ck
        obtain ⟨A, hv, U, us, hcc, hhv, hu, hul, hnU, hUc⟩ := hc.st
        simp at hul
        have hw' := hw rfl
        have hwr : IntKind.i64.wrap ((j : Int) + 1) = j + 1 := wrap_s (by have := hP.ng; omega)
        by_cases hb : (P.globals[j]).by' = []
        · obtain ⟨u0, hu0⟩ : ∃ u, us[j * 2]? = some u := ⟨_, List.getElem?_eq_getElem (by omega)⟩
          obtain ⟨u1, hu1⟩ : ∃ u, us[j * 2 + 1]? = some u := ⟨_, List.getElem?_eq_getElem (by omega)⟩
          have ht0 := take1_map (f := uv) hu0
          have ht1 := take1_map (f := uv) hu1
          have hb0 : j * 2 + 1 ≤ us.length := by omega
          have hb1 : j * 2 + 1 + 1 ≤ us.length := by omega
          by_cases hl1 : 0 < ulen u1
          · by_cases hl0 : 1 < ulen u0
            · simp [hlt, hcc, Sc.cells, Prg.cells, c51_6, Glob.av, hb, hu.hU, hb1, hb0, ht0, ht1, hl1, hl0, show (1 : Int) < ulen u0 by omega]
              refine (cfail_c hc).mono ?_
              rintro r K2 ⟨rfl, E2, q1, q2, q3⟩
              simp [c51_5, hwr]
              exact ⟨m - 1, by omega, j + 1, E2, K2, by omega, fun h => absurd (q1 h).2 (by decide), .inr q2, fr2.trans q3, by simp, by simp [Prg.cells]⟩
            · simp [hlt, hcc, Sc.cells, Prg.cells, c51_6, Glob.av, hb, hu.hU, hb1, hb0, ht0, ht1, hl1, hl0, show ¬ (1 : Int) < ulen u0 by omega, c51_5, hwr]
              exact ⟨m - 1, by omega, j + 1, 0, M2, by omega, fun _ => hw', hA, fr2, by simp, by simp [Prg.cells]⟩
          · simp [hlt, hcc, Sc.cells, Prg.cells, c51_6, Glob.av, hb, hu.hU, hb1, hb0, ht0, ht1, hl1, c51_5, hwr]
            exact ⟨m - 1, by omega, j + 1, 0, M2, by omega, fun _ => hw', hA, fr2, by simp, by simp [Prg.cells]⟩
        · simp [hlt, hcc, Sc.cells, Prg.cells, c51_6, Glob.av, hb, c51_5, hwr]
          exact ⟨m - 1, by omega, j + 1, 0, M2, by omega, fun _ => hw', hA, fr2, by simp, by simp [Prg.cells]⟩
      · obtain ⟨x0, x1, x2, x3, x4, x5, x6, x7, x8, x9, A, hb⟩ := hA.bad
        simp [hlt, hb, hE, Prg.cells]
        exact c7 _ rfl
    · simp [hlt, Prg.cells]
      exact c7 _ rfl
  have p9 : ∀ (n c : Nat) (K : List AObj) (F E : Int) (M : List AObj) (τ : Env), lenH H ≤ n → FrN (lenH H) H K → FrN n K M → ASt n c P F 0 E M → (E = 0 → P.names.Nodup ∧ A1 P P.globals.length ∧ A2 P P.funcs.length) → look τ 1 = some (.lref 1 0) → look τ 6 = some (.ptr c 0) →
      go (SCalls Tryz.prog) c51_9 [] τ ⟨[(1, P.cells)], M, []⟩ (aendR [.tmp 2] Q) := by
    intro n c K F E M τ hn hK frM hA hw t1 t6
    have hst : ASt n c P (-1) 0 E (match getH M c with | some (.cells l) => setH M c (.cells (l.set 6 (.int .i64 (-1)))) | _ => M) := by
      rcases hA with ⟨h1, ⟨x0, x1, x2, x3, x4, x5, x6, x7, x8, x9, A, hb⟩, h3, h4⟩ | h
      · rw [hb]
        exact .inl ⟨h1, ⟨x0, x1, x2, x3, x4, x5, .int .i64 (-1), x7, x8, x9, A, getH_set_self (by simp [hb])⟩, h3, by simpa using h4⟩
      · obtain ⟨A, hv, U, us, hcc, hhv, hu, hul, hnU, hUc⟩ := h.st
        rw [hcc]
        exact .inr (h.upd (σ' := ⟨P, 0, []⟩) (F' := -1) (Who' := 0) (E' := E) (A := A) (held' := []) hhv hu hul hnU hUc h.ok h.who h.hl)
    obtain ⟨x0, x1, x2, x3, x4, x5, x6, x7, x8, x9, A, hb⟩ := hA.bad
    rw [hb] at hst
    simp at hst
    have frS : FrN n M (setH M c (.cells [x0, x1, x2, x3, x4, x5, .int .i64 (-1), x7, x8, x9, .int .i64 E, .int .i64 A])) := .set hA.nc
    simp [c51_9, t1, t6, hb]
    refine loop_keep (n := P.threads.length) (I51b n c P M (fun j => P.names.Nodup ∧ A1 P P.globals.length ∧ A2 P P.funcs.length ∧ A3 P j) P.threads.length (fun i => [(1, .lref 1 0), (6, .ptr c 0), (9, .int .i64 i)]) [(1, P.cells)]) ?_
      ⟨0, 0, E, _, by simp, fun h => ⟨(hw h).1, (hw h).2.1, (hw h).2.2, fun i t hi => absurd hi (by omega)⟩, hst, frS, rfl, rfl⟩
    clear hw hA hst hb frS
    rintro m τ S ⟨j, Who, E, M2, hj, hw, hA, fr2, rfl, rfl⟩
    have hwr : IntKind.i64.wrap ((j : Int) + 1) = j + 1 := wrap_s (by have := hP.nt; omega)
    by_cases hlt : j < P.threads.length
    · by_cases hE : E = 0
      · subst hE
        have hc := hA.ck
        obtain ⟨A, hv, U, us, hcc, hhv, hu, hul, hnU, hUc⟩ := hc.st
        have hto := hP.t _ (List.getElem_mem hlt)
        have hsz1 : St.sizes P.threads[j] ≤ 2 ^ 30 := by
          have h1 : St.sizes P.threads[j] ≤ (P.threads.map St.sizes).sum := sum_mem (List.mem_map.2 ⟨_, List.getElem_mem hlt, rfl⟩)
          simp only [Prg.size] at hsz
          omega
        have hbk : BlkC n c (-1) j P.threads[j] := blk8 _ _ (Nat.le_refl _) hto
        have hup := hc.upd (σ' := ⟨P, 0, []⟩) (F' := -1) (Who' := j) (E' := 0) (A := A) (held' := []) hhv hu hul hnU hUc hc.ok (by have := hP.nt; omega) (by simp)
        simp [Sc.cells] at hup hcc
        simp [hlt, hcc, Sc.cells, Prg.cells, c51_4, Thr.av]
        have frS : FrN n M2 (setH M2 c (.cells [sl (P.globals.map Glob.av), sl (P.locks.map Lok.av), sl (P.funcs.map Func.av), sl (P.threads.map Thr.av), .int .i64 0, .nils, .int .i64 (-1), .int .i64 j, hv, .hs U 2 0 P.globals.length, .int .i64 0, .int .i64 A])) := .set hc.nc
        refine (hbk hup (by simp [Sc.deeps]) (by simp; omega) (by simp; omega) (by simp; omega)).mono ?_
        rintro r K2 ⟨rfl, E2, q1, q2, q3⟩
        simp [hwr]
        refine ⟨m - 1, by omega, j + 1, j, E2, K2, by omega, fun h => ?_, .inr q2, (fr2.trans frS).trans q3, by simp, by simp [Prg.cells]⟩
        obtain ⟨w1, w2, w3, w4⟩ := hw rfl
        refine ⟨w1, w2, w3, fun i t hi ht => ?_⟩
        rcases Nat.lt_or_ge i j with h5 | h5
        · exact w4 i t h5 ht
        · have : i = j := by omega
          subst this
          rw [List.getElem?_eq_getElem hlt] at ht
          cases ht
          exact (q1 h).2
      · obtain ⟨x0, x1, x2, x3, x4, x5, x6, x7, x8, x9, A, hb⟩ := hA.bad
        simp [hlt, hb, hE, Prg.cells]
        exact p8 n c K (-1) Who E M2 _ hn hK (frM.trans fr2) hA (fun h => absurd h hE) rfl rfl
    · simp [hlt, Prg.cells]
      refine p8 n c K (-1) Who E M2 _ hn hK (frM.trans fr2) hA (fun h => ?_) rfl rfl
      obtain ⟨w1, w2, w3, w4⟩ := hw h
      refine ⟨hP, w1, fun g hg => ?_, fun i f hf => w3 i f (List.getElem?_eq_some_iff.1 hf).1 hf, fun t ht => ?_⟩
      · obtain ⟨i, hi, rfl⟩ := List.mem_iff_getElem.1 hg
        exact w2 i _ hi (List.getElem?_eq_getElem hi)
      · obtain ⟨i, hi, rfl⟩ := List.mem_iff_getElem.1 ht
        exact w4 i _ (by omega) (List.getElem?_eq_getElem hi)
  have p10 : ∀ (n c : Nat) (K : List AObj) (E : Int) (M : List AObj) (τ : Env), lenH H ≤ n → FrN (lenH H) H K → FrN n K M → ASt n c P 0 0 E M → (E = 0 → P.names.Nodup ∧ A1 P P.globals.length) → look τ 1 = some (.lref 1 0) → look τ 6 = some (.ptr c 0) →
      go (SCalls Tryz.prog) c51_10 [] τ ⟨[(1, P.cells)], M, []⟩ (aendR [.tmp 2] Q) := by
    intro n c K E M τ hn hK frM hA hw t1 t6
    simp [c51_10, t1, t6]
    refine loop_keep (n := P.funcs.length) (I51c n c P M (fun j => P.names.Nodup ∧ A1 P P.globals.length ∧ A2 P j) P.funcs.length (fun i => [(1, .lref 1 0), (6, .ptr c 0), (8, .int .i64 i)]) [(1, P.cells)]) ?_
      ⟨0, 0, E, _, by simp, fun h => ⟨(hw h).1, (hw h).2, fun i f hi => absurd hi (by omega)⟩, hA, .refl _ _, rfl, rfl⟩
    clear hw hA
    rintro m τ S ⟨j, F, E, M2, hj, hw, hA, fr2, rfl, rfl⟩
    have hwr : IntKind.i64.wrap ((j : Int) + 1) = j + 1 := wrap_s (by have := hP.nf; omega)
    by_cases hlt : j < P.funcs.length
    · by_cases hE : E = 0
      · subst hE
        have hc := hA.ck
        obtain ⟨A, hv, U, us, hcc, hhv, hu, hul, hnU, hUc⟩ := hc.st
        obtain ⟨hf1, hf2, hf3⟩ := hP.f _ (List.getElem_mem hlt)
        have hsz1 : St.sizes (P.funcs[j]).body + (P.funcs[j]).ret.size ≤ 2 ^ 30 := by
          have h1 : St.sizes (P.funcs[j]).body + (P.funcs[j]).ret.size ≤ (P.funcs.map fun f => St.sizes f.body + f.ret.size).sum := sum_mem (List.mem_map.2 ⟨_, List.getElem_mem hlt, rfl⟩)
          simp only [Prg.size] at hsz
          omega
        have hup := hc.upd (σ' := ⟨P, 0, []⟩) (F' := j) (Who' := 0) (E' := 0) (A := A) (held' := []) hhv hu hul hnU hUc hc.ok (by omega) (by simp)
        simp [Sc.cells] at hup hcc
        have hag : ∀ f : Func, (.agg f.av.cells : AV) = f.av := fun f => by obtain ⟨fa, fn, ps, ft, fs, b, ⟨rk, ro, rn, rs, rks, ra⟩⟩ := f; simp [Func.av, Ex.av]
        have htk : ∀ f : Func, f.av.cells.take 12 = f.av.cells := fun f => by obtain ⟨fa, fn, ps, ft, fs, b, ⟨rk, ro, rn, rs, rks, ra⟩⟩ := f; simp [Func.av, Ex.av]
        have hd1 : ∀ f : Func, f.av.cells.map AV.drop1 = f.av.cells := fun f => by obtain ⟨fa, fn, ps, ft, fs, b, ⟨rk, ro, rn, rs, rks, ra⟩⟩ := f; simp [Func.av, Ex.av]
        have hln : ∀ f : Func, f.av.cells.length = 12 := fun f => by obtain ⟨fa, fn, ps, ft, fs, b, ⟨rk, ro, rn, rs, rks, ra⟩⟩ := f; simp [Func.av, Ex.av]
        have hokv : ∀ f : Func, f.av.okv = true := fun f => rfl
        have hpr : ∀ f : Func, f.av.proper = true := fun f => rfl
        have her : ∀ f : Func, f.av.erase = f.av := fun f => by obtain ⟨fa, fn, ps, ft, fs, b, ⟨rk, ro, rn, rs, rks, ra⟩⟩ := f; simp [Func.av, Ex.av]
        have hod : ∀ (q : AOper) (os : List AOper) (τ : Env) (f : Func), okD q os f.av τ = true := fun q os τ f => okD_proper (hpr f)
        simp [hlt, hcc, Sc.cells, Prg.cells, c51_3, hln, hokv, htk, hag, hd1, hpr, her, hod]
        have frS : FrN n M2 (setH M2 c (.cells [sl (P.globals.map Glob.av), sl (P.locks.map Lok.av), sl (P.funcs.map Func.av), sl (P.threads.map Thr.av), .int .i64 0, .nils, .int .i64 j, .int .i64 0, hv, .hs U 2 0 P.globals.length, .int .i64 0, .int .i64 A])) := .set hc.nc
        refine (function8_c hup hf1 hf2 hf3 hsz1).mono ?_
        rintro r K2 ⟨rfl, E2, q1, q2, q3⟩
        simp [hwr]
        refine ⟨m - 1, by omega, j + 1, j, E2, K2, by omega, fun h => ?_, .inr q2, (fr2.trans frS).trans q3, by simp, by simp [Prg.cells]⟩
        obtain ⟨w1, w2, w3⟩ := hw rfl
        refine ⟨w1, w2, fun i f hi hf => ?_⟩
        rcases Nat.lt_or_ge i j with h5 | h5
        · exact w3 i f h5 hf
        · have : i = j := by omega
          subst this
          rw [List.getElem?_eq_getElem hlt] at hf
          cases hf
          exact (q1 h).2
      · obtain ⟨x0, x1, x2, x3, x4, x5, x6, x7, x8, x9, A, hb⟩ := hA.bad
        simp [hlt, hb, hE, Prg.cells]
        exact p9 n c K F E M2 _ hn hK (frM.trans fr2) hA (fun h => absurd h hE) rfl rfl
    · simp [hlt, Prg.cells]
      refine p9 n c K F E M2 _ hn hK (frM.trans fr2) hA (fun h => ?_) rfl rfl
      obtain ⟨w1, w2, w3⟩ := hw h
      have : j = P.funcs.length := by omega
      subst this
      exact ⟨w1, w2, w3⟩
  simp [c51, Prg.av]
  rw [e]
  refine (New_c hP).mono ?_
  rintro r K ⟨frK, hres⟩
  have pG : ((P.globals.length : Nat) : Int) * 48 ≤ 35184372088832 := by have := hP.ng; omega
  have pG2 : ((P.globals.length : Nat) : Int) < 4611686018427387904 := by have := hP.ng; omega
  have hK1 : ∀ (a b : AObj), getH (addH (addH K a) b) (lenH K) = some a := fun a b => by rw [getH_add_old (by simp)]; simp
  have hK2 : ∀ (a b : AObj), getH (addH (addH K a) b) (lenH K + 1) = some b := fun a b => getH_add_at (by simp)
  have frA : ∀ (a b : AObj), FrN (lenH K) K (addH (addH K a) b) := fun a b => (FrN.add (Nat.le_refl _)).trans (.add (by simp))
  rcases hres with ⟨hnd, rfl⟩ | ⟨hnd, a, rfl⟩
  · have hu : ∀ C, UI (lenH K) (lenH K) (lenH K + 1) (List.replicate (2 * P.globals.length) none) (addH (addH K (.cells ((List.replicate P.globals.length (AV.agg [.nils, .nils])).flatMap AV.cells))) C) := fun C => by
      refine ⟨?_, fun k i l hk => ?_, fun k k' i l l' hk => ?_⟩
      · rw [hK1]
        congr 2
        generalize P.globals.length = g
        induction g with
        | zero => rfl
        | succ g ih => rw [List.replicate_succ, List.flatMap_cons, ih, show 2 * (g + 1) = 2 * g + 1 + 1 by omega, List.replicate_succ, List.replicate_succ]; rfl
      · rw [List.getElem?_replicate] at hk; split at hk <;> simp at hk
      · rw [List.getElem?_replicate] at hk; split at hk <;> simp at hk
    have hC : Ck (lenH K) (lenH K + 1) ⟨P, 0, []⟩ 0 0 [] 0 (addH (addH K (.cells ((List.replicate P.globals.length (AV.agg [.nils, .nils])).flatMap AV.cells))) (.cells ((Sc.mk P 0 []).cells ++ [.int .i64 0, .int .i64 0, .nils, .hs (lenH K) 2 0 P.globals.length, .int .i64 0, .int .i64 0]))) :=
      ⟨⟨0, .nils, lenH K, _, hK2 _ _, .inl ⟨rfl, rfl⟩, hu _, by simp, Nat.le_refl _, by omega⟩, by omega, by simp; omega, hok, by omega, by simp⟩
    simp [Sc.av, Sc.cells, Prg.cells, Prg.av, roomA_eq, pG, pG2]
    simp [Sc.cells] at hC
    refine loop_keep (n := P.globals.length) (I51 (lenH K) (lenH K + 1) P 0 0 K (fun j => P.names.Nodup ∧ A1 P j) P.globals.length (fun i => [(1, .lref 1 0), (3, .lref 3 0), (6, .ptr (lenH K + 1) 0), (7, .int .i64 i)]) [(1, P.cells), (3, (Sc.mk P 0 []).cells)]) ?_
      ⟨0, 0, _, by simp, fun _ => ⟨hnd, fun t g ht => absurd ht (by omega)⟩, .inr hC, frA _ _, rfl, by simp [Prg.cells, Sc.cells]⟩
    clear hC hu
    rintro m τ S ⟨j, E, M2, hj, hw, hA, fr2, rfl, rfl⟩
    have hwr : IntKind.i64.wrap ((j : Int) + 1) = j + 1 := wrap_s (by have := hP.ng; omega)
    by_cases hlt : j < P.globals.length
    · by_cases hE : E = 0
      · subst hE
        have hc := hA.ck
        obtain ⟨A, hv, U, us, hcc, hhv, hu, hul, hnU, hUc⟩ := hc.st
        have hstep : ∀ {E2 : Int} {M3 : List AObj}, (E2 = 0 → (P.globals[j]).by' = [] ∨ 0 ≤ P.lidx (P.globals[j]).by') → (E2 = 0 → P.names.Nodup ∧ A1 P (j + 1)) := fun {E2 M3} h1 h2 => by
          obtain ⟨w1, w2⟩ := hw rfl
          refine ⟨w1, fun t g ht hg => ?_⟩
          rcases Nat.lt_or_ge t j with h5 | h5
          · exact w2 t g h5 hg
          · have : t = j := by omega
            subst this
            rw [List.getElem?_eq_getElem hlt] at hg
            cases hg
            exact h1 h2
        by_cases hb : (P.globals[j]).by' = []
        · simp [hlt, hcc, Sc.cells, Prg.cells, c51_2, Glob.av, hb, c51_1, hwr]
          exact ⟨m - 1, by omega, j + 1, 0, M2, by omega, hstep (M3 := M2) (fun _ => .inl hb), hA, fr2, by simp, by simp [Prg.cells, Sc.cells]⟩
        · simp [hlt, hcc, Sc.cells, Prg.cells, c51_2, Glob.av, hb]
          refine (lock_c hok).mono ?_
          rintro r K2 ⟨rfl, rfl⟩
          by_cases hneg : P.lidx (P.globals[j]).by' < 0
          · simp [hlt, hneg, Glob.av, hb]
            refine (cfail_c hc).mono ?_
            rintro r K3 ⟨rfl, E2, q1, q2, q3⟩
            simp [c51_1, hwr]
            exact ⟨m - 1, by omega, j + 1, E2, K3, by omega, hstep (M3 := K2) (fun h => absurd (q1 h).2 (by decide)), .inr q2, fr2.trans q3, by simp, by simp [Prg.cells, Sc.cells]⟩
          · have hnn : 0 ≤ P.lidx (P.globals[j]).by' := by omega
            simp [hlt, hneg, hnn, hb, c51_1, hwr]
            exact ⟨m - 1, by omega, j + 1, 0, _, by omega, hstep (M3 := K2) (fun _ => .inr hnn), hA, fr2, by simp, by simp [Prg.cells, Sc.cells]⟩
      · obtain ⟨x0, x1, x2, x3, x4, x5, x6, x7, x8, x9, A, hb⟩ := hA.bad
        simp [hlt, hb, hE, Prg.cells]
        exact p10 (lenH K) (lenH K + 1) K E M2 _ frK.1 frK fr2 hA (fun h => absurd h hE) rfl rfl
    · simp [hlt, Prg.cells]
      refine p10 (lenH K) (lenH K + 1) K E M2 _ frK.1 frK fr2 hA (fun h => ?_) rfl rfl
      obtain ⟨w1, w2⟩ := hw h
      have : j = P.globals.length := by omega
      subst this
      exact ⟨w1, w2⟩
  · have hA : ∀ X, ASt (lenH K) (lenH K + 1) P 0 0 12 (addH (addH K X) (.cells [.nils, .nils, .nils, .nils, .int .i64 0, .nils, .int .i64 0, .int .i64 0, .nils, .hs (lenH K) 2 0 P.globals.length, .int .i64 12, .int .i64 a])) := fun X =>
      .inl ⟨by decide, ⟨_, _, _, _, _, _, _, _, _, _, a, hK2 _ _⟩, by omega, by simp; omega⟩
    simp [Sc.av, Sc.cells, Prg.cells, Prg.av, Prg.zero, roomA_eq, pG, pG2]
    refine loop_keep (n := 0) (fun m τ S => τ = [(1, .lref 1 0), (3, .lref 3 0), (6, .ptr (lenH K + 1) 0), (7, .int .i64 0)] ∧ S = ⟨_, _, _⟩) ?_ ⟨rfl, rfl⟩
    rintro m τ S ⟨rfl, rfl⟩
    by_cases hlt : 0 < P.globals.length
    · simp [hlt, hK2]
      exact p10 (lenH K) (lenH K + 1) K 12 _ _ frK.1 frK (frA _ _) (hA _) (fun h => absurd h (by decide)) rfl rfl
    · simp [hlt]
      exact p10 (lenH K) (lenH K + 1) K 12 _ _ frK.1 frK (frA _ _) (hA _) (fun h => absurd h (by decide)) rfl rfl
/-- The checker's word on a program. -/
theorem Program8_c (hP : PV P) : SCalls Tryz.prog 24 [P.av] H (fun r K => ∃ (e a : Int), r = .ret (.tuple [.int .i64 e, .int .i64 a]) ∧ FrN (lenH H) H K ∧ (e = 0 → PW P)) := by
  refine fn_go k24 rfl ?_
  intro Q hQ
  have e : (AV.agg [sl (P.globals.map Glob.av), sl (P.locks.map Lok.av), sl (P.funcs.map Func.av), sl (P.threads.map Thr.av)]) = P.av := rfl
  simp [c24, Prg.av]
  rw [e]
  refine (all8_c hP).mono ?_
  rintro r K ⟨c, E, rfl, ⟨x0, x1, x2, x3, x4, x5, x6, x7, x8, x9, A, hb⟩, fr, hw⟩
  simp [hb]
  exact hQ _ _ ⟨E, A, rfl, fr, hw⟩
theorem Text_c {s : List UInt8} (hs : s.length ≤ 2 ^ 59) : SCalls Tryz.prog 9 [.str s] H (fun r K => ∃ (P : Prg) (e a : Int), r = .ret (.tuple [P.av, .int .i64 e, .int .i64 a]) ∧ FrN (lenH H) H K ∧ (e = 0 → PW P) ∧ (e ≠ 0 → P = .zero)) := by
  refine fn_go k9 rfl ?_
  intro Q hQ
  simp [c9]
  refine (Parse_c hs).mono ?_
  rintro r K ⟨P, e, a, rfl, fr, hv⟩
  have eP : (AV.agg [sl (P.globals.map Glob.av), sl (P.locks.map Lok.av), sl (P.funcs.map Func.av), sl (P.threads.map Thr.av)]) = P.av := rfl
  by_cases he : e = 0
  · simp [Prg.av, he]
    rw [eP]
    refine (Program8_c (hv he)).mono ?_
    rintro r K2 ⟨e2, a2, rfl, fr2, hw⟩
    by_cases he2 : e2 = 0
    · simp [Prg.av, he2, c9_2, c9_1]
      exact hQ _ _ ⟨P, 0, 0, rfl, fr.trans (fr2.le fr.1), fun _ => hw he2, by simp⟩
    · simp [Prg.av, he2, c9_2]
      exact hQ _ _ ⟨.zero, e2, a2, rfl, fr.trans (fr2.le fr.1), fun h => absurd h he2, fun _ => rfl⟩
  · simp [Prg.av, he, c9_2]
    exact hQ _ _ ⟨.zero, e, a, rfl, fr, fun h => absurd h he, fun _ => rfl⟩
end
end Go.Ab

/- Closed runs: the document's example. -/
namespace Go.Ab
open Go.Proofs
attribute [local simp] c9_1 c9_2 c23_1 c23_2 c23_3 c23_4 c30_1 c30_2 c30_3 c30_4 c30_5 c30_6 c45_1 c45_2 c45_3 c46_1 c46_2 c46_3 c47_1 c47_2 c47_3 c47_4 c47_5 c47_6 c47_7 c47_8 c47_9 c47_10 c47_11 c47_12 c50_1 c51_1 c51_2 c51_3 c51_4 c51_5 c51_6 c51_7 c51_8 c51_9 c51_10 c56_1 c56_2 c56_3 c56_4 c56_5 c56_6 c58_1 c58_2 c58_3 c73_1 c74_1 c74_2 c74_3 c77_1 c77_2 c77_3 c77_4 c77_5 c78_1 c78_2 c78_3 c78_4 c81_1 c81_2 c83_1 c84_1 c85_1 c85_2 c85_3 c85_4 c88_1 c88_2 c88_3 c88_4 c88_5 c89_1 c89_2 c94_1 c94_2 c94_3 c96_1 c96_2 c96_3 c99_1 c99_2 c99_3 c100_1 c101_1 c101_2 c101_3 c101_4 c103_1 c103_2 c104_1 c106_1 c106_2 c108_1 c108_2 c109_1 c109_2 c109_3 c109_4 c127_1 c128_1 c128_2 c128_3 c129_1 c129_2 c129_3 c130_1 c131_1 c131_2 c131_3 c131_4 c131_5 c132_1 c133_1 c133_2 c133_3 c133_4 c133_5 c133_6 c133_7 c134_1 c134_2 c134_3 c134_4 c135_1 c135_2 c136_1 c136_2 c155_1 c155_2 c155_3 c155_4 c155_5 c155_6 c156_1 c156_2 c156_3 c157_1 c158_1 c159_1 c159_2 c160_1 c160_2 c160_3 c160_4 c160_5 c160_6 c161_1 c161_2 c161_3 c161_4 c161_5 c161_6 c161_7 c163_1 c163_2 c163_3 c163_4 c163_5 c163_6 c163_7 c164_1 c164_2 c164_3 c164_4 c164_5 c164_6 c171_1 c172_1 c172_2 c172_3 c172_4 c173_1 c173_2 c173_3 c174_1 c174_2 c174_3 c176_1 c176_2 c176_3
set_option maxRecDepth 100000
def tb9 : List (Nat × AFn) := [(9, c9), (23, c23), (24, c24), (30, c30), (45, c45), (46, c46), (47, c47), (48, c48), (49, c49), (50, c50), (51, c51), (56, c56), (58, c58), (72, c72), (73, c73), (74, c74), (75, c75), (76, c76), (77, c77), (78, c78), (79, c79), (80, c80), (81, c81), (82, c82), (83, c83), (84, c84), (85, c85), (86, c86), (87, c87), (88, c88), (89, c89), (94, c94), (96, c96), (98, c98), (99, c99), (100, c100), (101, c101), (102, c102), (103, c103), (104, c104), (105, c105), (106, c106), (107, c107), (108, c108), (109, c109), (126, c126), (127, c127), (128, c128), (129, c129), (130, c130), (131, c131), (132, c132), (133, c133), (134, c134), (135, c135), (136, c136), (154, c154), (155, c155), (156, c156), (157, c157), (158, c158), (159, c159), (160, c160), (161, c161), (162, c162), (163, c163), (164, c164), (171, c171), (172, c172), (173, c173), (174, c174), (176, c176)]
theorem tb9_ok : ∀ f F, look tb9 f = some F → chkFn Tryz.prog f F = true := by
  have h : tb9.all (fun p => chkFn Tryz.prog p.1 p.2) = true := by
    simp only [tb9, List.all_cons, List.all_nil, k9, k23, k24, k30, k45, k46, k47, k48, k49, k50, k51, k56, k58, k72, k73, k74, k75, k76, k77, k78, k79, k80, k81, k82, k83, k84, k85, k86, k87, k88, k89, k94, k96, k98, k99, k100, k101, k102, k103, k104, k105, k106, k107, k108, k109, k126, k127, k128, k129, k130, k131, k132, k133, k134, k135, k136, k154, k155, k156, k157, k158, k159, k160, k161, k162, k163, k164, k171, k172, k173, k174, k176, Bool.and_self]
  intro f F hl
  exact List.all_eq_true.1 h _ (look_mem hl)
def isV (v : AV) : Option (AEnd × List AObj) → Bool
  | some (.ret w, _) => eqv w v
  | _ => false
theorem run_c {f n k : Nat} {args : List AV} {H : List AObj} {v : AV} (h : isV v (evF (look tb9) n k f args H) = true) : SCalls Tryz.prog f args H (fun r _ => r = .ret v) := by
  cases hr : evF (look tb9) n k f args H with
  | none => rw [hr] at h; cases h
  | some p =>
    obtain ⟨r, K⟩ := p
    rw [hr] at h
    refine evF_ok tb9_ok k _ _ _ _ _ _ hr ?_
    cases r with
    | ret w => simp only [isV] at h; rw [eqv_eq _ _ h]
    | pan w => cases h
def ex9 : List UInt8 := [116,104,114,101,97,100,32,123,32,111,117,116,32,49,32,47,32,50,59,32,125,32,116,104,114,101,97,100,32,123,32,125]
def P9 : Prg := ⟨[], [], [], [[.mk 5 9 false false [] [] [.mk 6 3 0 [] [.mk 0 0 1 [] [] 13, .mk 0 0 2 [] [] 17] 13] [] []], []]⟩
def v9 : AV := .tuple [.agg [.nils, .nils, .nils, .vs none [.vs none [.agg [.int .i64 5, .int .i64 9, .bool false, .bool false, .str [], .nils, .vs none [.agg [.int .i64 6, .int .i64 3, .int .i64 0, .str [], .vs none [.agg [.int .i64 0, .int .i64 0, .int .i64 1, .str [], .nils, .int .i64 13], .agg [.int .i64 0, .int .i64 0, .int .i64 2, .str [], .nils, .int .i64 17]], .int .i64 13]], .nils, .nils]], .nils]], .int .i64 0, .int .i64 0]
theorem v9_eq : v9 = .tuple [P9.av, .int .i64 0, .int .i64 0] := by
  simp [v9, P9, Prg.av, Thr.av, St.avs, St.av, Ex.avs, Ex.av, sl]
theorem run9 : isV v9 (evF (look tb9) 10000 100 9 [.str ex9] []) = true := by kernel_rfl
/-- The example's text is a program. -/
theorem ex_c : SCalls Tryz.prog 9 [.str ex9] [] (fun r _ => r = .ret (.tuple [P9.av, .int .i64 0, .int .i64 0])) := by
  have := run_c run9
  rwa [v9_eq] at this
theorem P9_pv : PV P9 where
  g := by simp [P9]
  f := by simp [P9]
  t := by simp [P9, St.oks, St.ok, Ex.oks, Ex.ok]
  ng := by simp [P9]
  nl := by simp [P9]
  nf := by simp [P9]
  nt := by simp [P9]
  ats := by simp [P9, Prg.ats]
  pos := by simp [P9, Prg.ats]
  size := by simp [P9, Prg.size, St.sizes, St.size, Ex.sizes, Ex.size]
theorem P9_pw : PW P9 where
  pv := P9_pv
  nd := by simp [P9, Prg.names]
  by' := by simp [P9]
  fn := by simp [P9]
  th := by simp [P9, St.scs, St.sc, Ex.gd, Ex.sc, Ex.scs, Ex.cl, Ex.cls]
end Go.Ab

/- The instructions of a thread, as the document says them: a function of the program's data. -/
namespace Go.Ab
open Go.Proofs

structure Ins where
  kind : Int
  op : Int
  d : Int
  a : Int
  b : Int
  n : Int
  to : Int
def Ins.cells (x : Ins) : List AV := [.int .i64 x.kind, .int .i64 x.op, .int .i64 x.d, .int .i64 x.a, .int .i64 x.b, .int .i64 x.n, .int .i64 x.to]
def Ins.av (x : Ins) : AV := .agg x.cells
/-- What is put, and how many registers there are. -/
structure LS where
  c : List Ins
  r : Nat
/-- A step of the work, where so many instructions may be: none: too many. -/
abbrev LM (α : Type) := Nat → LS → Option (α × LS)
def LM.ret {α : Type} (x : α) : LM α := fun _ s => some (x, s)
def LM.bind {α β : Type} (m : LM α) (f : α → LM β) : LM β := fun L s => match m L s with
  | some (x, s') => f x L s'
  | none => none
def lput (x : Ins) : LM Unit := fun L s => if s.c.length < L then some ((), ⟨s.c ++ [x], s.r⟩) else none
def lfresh : LM Int := fun _ s => some (s.r, ⟨s.c, s.r + 1⟩)
def lhere : LM Nat := fun _ s => some (s.c.length, s)
/-- An instruction that writes a new register. -/
def linto (f : Int → Ins) : LM Int := lfresh.bind fun k => (lput (f k)).bind fun _ => .ret k
def lset (n : Int) : LM Int := linto fun k => ⟨0, 0, k, 0, 0, n, 0⟩
def lmove (a : Int) : LM Int := linto fun k => ⟨1, 0, k, a, 0, 0, 0⟩
def lcalc (op a b : Int) : LM Int := linto fun k => ⟨2, op, k, a, b, 0, 0⟩
def lload (a base : Int) : LM Int := linto fun k => ⟨4, 0, k, a, 0, base, 0⟩
def ltrap (a n : Int) : LM Unit := lput ⟨7, 0, 0, a, 0, 0, -n⟩
def lbelow (t size : Int) : LM Int := (lset size).bind fun b => lcalc 16 t b
def llook (t size : Int) : LM Unit := (lbelow t size).bind fun c => ltrap c 2
def lmasked (t size : Int) : LM Int := (lset (size - 1)).bind fun k => lcalc 5 t k
/-- Where an instruction goes to is told. -/
def lto (k : Nat) (n : Nat) : LM Unit := fun _ s => some ((), ⟨s.c.modify k fun x => { x with to := n }, s.r⟩)
/-- Is a number a power of 2 (from 1 to 64)? -/
def pow2 (n : Int) : Bool := n == 1 || n == 2 || n == 4 || n == 8 || n == 16 || n == 32 || n == 64
abbrev LV := List (List UInt8 × Int)
/-- A local's register. -/
def lreg (V : LV) (s : List UInt8) : Option Int := (V.reverse.find? fun p => p.1 == s).map Prod.snd
/-- Where a global stands. -/
structure Plc where
  base : Int
  len : Int
  truth : Bool
  secret : Bool
def Plc.cells (p : Plc) : List AV := [.int .i64 p.base, .int .i64 p.len, .bool p.truth, .bool p.secret]
def Plc.av (p : Plc) : AV := .agg p.cells
def Glob.words (g : Glob) : Int := max g.len 1
/-- How many words the globals of a secrecy take. -/
def words (gs : List Glob) (b : Bool) : Int := (gs.map fun g => if g.secret = b then g.words else 0).sum
def Prg.plc (P : Prg) (i : Nat) : Plc := match P.globals[i]? with
  | some g => ⟨(if g.secret then words P.globals false else 0) + words (P.globals.take i) g.secret, g.words, g.truth, g.secret⟩
  | none => ⟨0, 0, false, false⟩
def Prg.plcs (P : Prg) : List Plc := (List.range P.globals.length).map P.plc
def Prg.pl (P : Prg) (s : List UInt8) : Plc := P.plc (P.gidx s).toNat
def lfail {α : Type} : LM α := fun _ _ => none
/-- What an expression comes to, behind what it has in it. -/
def lfin (P : Prg) (call : List UInt8 → List Int → LM Int) (V : LV) (k o n : Int) (s : List UInt8) (rs : List Int) : LM Int :=
  if k = 0 ∨ k = 1 then lset n
  else if k = 2 then match lreg V s with
    | some r => .ret r
    | none => lload (-1) (P.pl s).base
  else if k = 3 then match rs with
    | t :: _ => if pow2 (P.pl s).len = true then (llook t (P.pl s).len).bind fun _ => (lmasked t (P.pl s).len).bind fun m => lload m (P.pl s).base
      else (lmove t).bind fun u => (llook u (P.pl s).len).bind fun _ => lload u (P.pl s).base
    | [] => lfail
  else if k = 4 ∨ k = 5 then match rs with
    | a :: _ => (lset (k - 4)).bind fun z => lcalc 1 z a
    | [] => lfail
  else if k = 6 then match rs with
    | a :: b :: _ => if o = 3 ∨ o = 4 then (ltrap b 1).bind fun _ => lcalc o a b else lcalc o a b
    | _ => lfail
  else call s rs
mutual
def lexpr (P : Prg) (call : List UInt8 → List Int → LM Int) (V : LV) : Ex → LM Int
  | .mk k o n s ks _ => (lexprs P call V ks).bind fun rs => lfin P call V k o n s rs
def lexprs (P : Prg) (call : List UInt8 → List Int → LM Int) (V : LV) : List Ex → LM (List Int)
  | [] => .ret []
  | e :: r => (lexpr P call V e).bind fun x => (lexprs P call V r).bind fun xs => .ret (x :: xs)
end
def larray (P : Prg) (call : List UInt8 → List Int → LM Int) (V : LV) (s : List UInt8) (y x : Ex) : LM Unit :=
  (lexpr P call V y).bind fun t => (llook t (P.pl s).len).bind fun _ => (lexpr P call V x).bind fun e =>
    (if pow2 (P.pl s).len = true then lmasked t (P.pl s).len
      else (lmove t).bind fun u => (lbelow u (P.pl s).len).bind fun c => (lset 0).bind fun m => (lput ⟨3, 0, m, c, u, 0, 0⟩).bind fun _ => .ret m).bind fun m =>
    lput ⟨5, 0, 0, m, e, (P.pl s).base, 0⟩
def lassign (P : Prg) (call : List UInt8 → List Int → LM Int) (V : LV) (s : List UInt8) (i e : List Ex) : LM Unit :=
  match e with
  | x :: _ => match i with
    | y :: _ => larray P call V s y x
    | [] => (lexpr P call V x).bind fun r => match lreg V s with
      | some d => lput ⟨1, 0, d, r, 0, 0, 0⟩
      | none => lput ⟨5, 0, 0, -1, r, (P.pl s).base, 0⟩
  | [] => lfail
mutual
def lstmt (P : Prg) (call : List UInt8 → List Int → LM Int) : St → LV → LM LV
  | .mk k _ _ _ s i e b l, V =>
    if k = 0 then match e with
      | x :: _ => (lexpr P call V x).bind fun r => (lmove r).bind fun m => .ret (V ++ [(s, m)])
      | [] => lfail
    else if k = 1 then (lassign P call V s i e).bind fun _ => .ret V
    else if k = 2 then match e with
      | x :: _ => (lexpr P call V x).bind fun r => lhere.bind fun zr => (lput ⟨7, 0, 0, r, 0, 0, 0⟩).bind fun _ => (lstmts P call b V).bind fun _ =>
        if l.isEmpty = true then lhere.bind fun h => (lto zr h).bind fun _ => .ret V
        else lhere.bind fun jump => (lput ⟨6, 0, 0, 0, 0, 0, 0⟩).bind fun _ => lhere.bind fun h => (lto zr h).bind fun _ => (lstmts P call l V).bind fun _ => lhere.bind fun h => (lto jump h).bind fun _ => .ret V
      | [] => lfail
    else if k = 3 then match e with
      | x :: _ => lhere.bind fun from' => (lexpr P call V x).bind fun r => lhere.bind fun zr => (lput ⟨7, 0, 0, r, 0, 0, 0⟩).bind fun _ => (lstmts P call b V).bind fun _ =>
        (lput ⟨6, 0, 0, 0, 0, 0, from'⟩).bind fun _ => lhere.bind fun h => (lto zr h).bind fun _ => .ret V
      | [] => lfail
    else if k = 4 then (lput ⟨9, 0, 0, 0, 0, P.lidx s, 0⟩).bind fun _ => (lstmts P call b V).bind fun _ => (lput ⟨10, 0, 0, 0, 0, P.lidx s, 0⟩).bind fun _ => .ret V
    else match e with
      | x :: _ => (lexpr P call V x).bind fun r => (lput ⟨11, 0, 0, r, 0, 0, 0⟩).bind fun _ => .ret V
      | [] => lfail
def lstmts (P : Prg) (call : List UInt8 → List Int → LM Int) : List St → LV → LM LV
  | [], V => .ret V
  | s :: r, V => (lstmt P call s V).bind fun V' => lstmts P call r V'
end
def lmoves : List Int → LM (List Int)
  | [] => .ret []
  | a :: r => (lmove a).bind fun m => (lmoves r).bind fun ms => .ret (m :: ms)
/-- A call, of functions not deeper than so. -/
def lcall (P : Prg) : Nat → List UInt8 → List Int → LM Int
  | 0, _, _ => lfail
  | f + 1, s, rs => (lmoves rs).bind fun ms => (lstmts P (lcall P f) (P.fat s).body (((P.fat s).params.map Para.name).zip ms)).bind fun V => lexpr P (lcall P f) V (P.fat s).ret
def Ins.led (tr : Int) (x : Ins) : Bool := x.kind == 7 && x.to == -tr
def lend (tr : Int) : LM Unit := fun L s =>
  if s.c.any (Ins.led tr) = true then lput ⟨12, 0, 0, 0, 0, tr, 0⟩ L ⟨s.c.map fun x => if x.led tr = true then { x with to := s.c.length } else x, s.r⟩
  else some ((), s)
/-- A thread's instructions. -/
def lthread (P : Prg) (b : List St) : LM Unit :=
  (lstmts P (lcall P 17) b []).bind fun _ => (lput ⟨13, 0, 0, 0, 0, 0, 0⟩).bind fun _ => (lend 1).bind fun _ => lend 2
end Go.Ab

namespace Go.Ab
open Go.Proofs

set_option maxRecDepth 100000
set_option maxHeartbeats 8000000
def Ins.un (x : Ins) : Ins := if x.to < 0 then { x with to := 0 } else x
abbrev Es := List (AV × AV)
/-- All keys are texts. -/
def KS (es : Es) : Prop := ∀ p ∈ es, ∃ s, p.1 = .str s
def KI (es : Es) : Prop := ∀ p ∈ es, ∃ n, p.1 = .int .i64 n
def fS (es : Es) (s : List UInt8) : Option AV := (es.find? fun p => match p.1 with | .str t => s == t | _ => false).map Prod.snd
def fI (es : Es) (n : Int) : Option AV := (es.find? fun p => match p.1 with | .int _ t => n == t | _ => false).map Prod.snd
theorem findA_S {es : Es} (h : KS es) (s : List UInt8) : findA .s (.str s) es = some (fS es s) := by
  induction es with
  | nil => rfl
  | cons p r ih =>
    obtain ⟨k, v⟩ := p
    obtain ⟨t, rfl⟩ := h (k, v) (by simp)
    have ih := ih fun p hp => h p (by simp [hp])
    simp only [findA, sq, fS, List.find?_cons] at ih ⊢
    by_cases e : s = t
    · simp [e]
    · have e' : (s == t) = false := by simp [e]
      simp only [e', ih]
theorem findA_I {es : Es} (h : KI es) (n : Int) : findA .i (.int .i64 n) es = some (fI es n) := by
  induction es with
  | nil => rfl
  | cons p r ih =>
    obtain ⟨k, v⟩ := p
    obtain ⟨t, rfl⟩ := h (k, v) (by simp)
    have ih := ih fun p hp => h p (by simp [hp])
    simp only [findA, sq, fI, List.find?_cons, if_true] at ih ⊢
    by_cases e : n = t
    · simp [e]
    · have e' : (n == t) = false := by simp [e]
      simp only [e', ih]
theorem setA_S {es : Es} (h : KS es) (s : List UInt8) (v : AV) : ∃ es', setA .s (.str s) v es = some es' ∧ KS es' ∧ ∀ t, fS es' t = if t = s then some v else fS es t := by
  induction es with
  | nil =>
    refine ⟨[(.str s, v)], rfl, by simp [KS], fun t => ?_⟩
    by_cases e : t = s <;> simp [fS, e]
  | cons p r ih =>
    obtain ⟨k, x⟩ := p
    obtain ⟨t, rfl⟩ := h (k, x) (by simp)
    obtain ⟨es', h1, h2, h3⟩ := ih fun p hp => h p (by simp [hp])
    by_cases e : s = t
    · subst e
      refine ⟨(.str s, v) :: r, by simp [setA, sq], fun p hp => (List.mem_cons.1 hp).elim (fun e => e ▸ ⟨s, rfl⟩) (fun hp => h p (by simp [hp])), fun u => ?_⟩
      · by_cases e2 : u = s
        · simp [fS, e2]
        · have : (u == s) = false := by simp [e2]
          simp [fS, e2, this]
    · have e' : (s == t) = false := by simp [e]
      refine ⟨(.str t, x) :: es', by simp [setA, sq, e', h1], fun p hp => ?_, fun u => ?_⟩
      · rcases List.mem_cons.1 hp with rfl | hp
        · exact ⟨t, rfl⟩
        · exact h2 p hp
      · have h3 := h3 u
        by_cases e2 : u = t
        · subst e2
          have : ¬ u = s := fun e3 => e e3.symm
          simp [fS, this]
        · have : (u == t) = false := by simp [e2]
          simp only [fS, List.find?_cons, this] at h3 ⊢
          exact h3
theorem setA_I {es : Es} (h : KI es) (s : Int) (v : AV) : ∃ es', setA .i (.int .i64 s) v es = some es' ∧ KI es' ∧ ∀ t, fI es' t = if t = s then some v else fI es t := by
  induction es with
  | nil =>
    refine ⟨[(.int .i64 s, v)], rfl, by simp [KI], fun t => ?_⟩
    by_cases e : t = s <;> simp [fI, e]
  | cons p r ih =>
    obtain ⟨k, x⟩ := p
    obtain ⟨t, rfl⟩ := h (k, x) (by simp)
    obtain ⟨es', h1, h2, h3⟩ := ih fun p hp => h p (by simp [hp])
    by_cases e : s = t
    · subst e
      refine ⟨(.int .i64 s, v) :: r, by simp [setA, sq], fun p hp => (List.mem_cons.1 hp).elim (fun e => e ▸ ⟨s, rfl⟩) (fun hp => h p (by simp [hp])), fun u => ?_⟩
      · by_cases e2 : u = s
        · simp [fI, e2]
        · have : (u == s) = false := by simp [e2]
          simp [fI, e2, this]
    · have e' : (s == t) = false := by simp [e]
      refine ⟨(.int .i64 t, x) :: es', by simp [setA, sq, e', h1], fun p hp => ?_, fun u => ?_⟩
      · rcases List.mem_cons.1 hp with rfl | hp
        · exact ⟨t, rfl⟩
        · exact h2 p hp
      · have h3 := h3 u
        by_cases e2 : u = t
        · subst e2
          have : ¬ u = s := fun e3 => e e3.symm
          simp [fI, this]
        · have : (u == t) = false := by simp [e2]
          simp only [fI, List.find?_cons, this] at h3 ⊢
          exact h3
theorem KS.set {es es' : Es} {s : List UInt8} {v : AV} (h : KS es) (e : setA .s (.str s) v es = some es') : KS es' ∧ ∀ t, fS es' t = if t = s then some v else fS es t := by
  obtain ⟨es1, h1, h2⟩ := setA_S h s v
  rw [h1] at e
  cases e
  exact h2
theorem KI.set {es es' : Es} {s : Int} {v : AV} (h : KI es) (e : setA .i (.int .i64 s) v es = some es') : KI es' ∧ ∀ t, fI es' t = if t = s then some v else fI es t := by
  obtain ⟨es1, h1, h2⟩ := setA_I h s v
  rw [h1] at e
  cases e
  exact h2
/-- Which instructions go to a trap. -/
def posL (tr : Int) (c : List Ins) : List Nat := (List.range c.length).filter fun k => match c[k]? with
  | some x => x.led tr
  | none => false
theorem posL_append {tr : Int} {c : List Ins} {x : Ins} : posL tr (c ++ [x]) = posL tr c ++ if x.led tr = true then [c.length] else [] := by
  unfold posL
  rw [List.length_append, List.length_singleton, List.range_succ, List.filter_append]
  congr 1
  · refine List.filter_congr fun k hk => ?_
    rw [List.mem_range] at hk
    rw [List.getElem?_append_left hk]
  · by_cases h : x.led tr = true <;> simp [h]
theorem posL_modify {tr : Int} {c : List Ins} {k n : Nat} (h0 : 0 < tr) (hk : ∀ x, c[k]? = some x → x.led tr = false) : posL tr (c.modify k fun x => { x with to := n }) = posL tr c := by
  unfold posL
  rw [List.length_modify]
  refine List.filter_congr fun j hj => ?_
  rw [List.getElem?_modify]
  by_cases e : k = j
  · subst e
    cases hx : c[k]? with
    | none => simp
    | some x =>
      have h1 := hk x hx
      simp [h1]
      simp [Ins.led]
      intro _
      omega
  · cases hx : c[j]? <;> simp [e]
/-- Closures that tell where these instructions go to. -/
def Clo (H : List AObj) (o : Nat) : List Nat → List AV → Prop
  | [], fs => fs = []
  | p :: ps, fs => ∃ a b r, fs = .func (.func 55) [] [.ptr a 0, .ptr b 0] :: r ∧ b = a + 1 ∧ getH H a = some (.cells [.ptr o 0]) ∧ getH H b = some (.cells [.int .i64 p]) ∧ Clo H o ps r
theorem Clo.append {H : List AObj} {o a b : Nat} {p : Nat} (hab : b = a + 1) (ha : getH H a = some (.cells [.ptr o 0])) (hb : getH H b = some (.cells [.int .i64 p])) : ∀ {ps : List Nat} {fs : List AV}, Clo H o ps fs → Clo H o (ps ++ [p]) (fs ++ [.func (.func 55) [] [.ptr a 0, .ptr b 0]])
  | [], fs, h => by
    simp only [Clo] at h
    subst h
    exact ⟨a, b, [], rfl, hab, ha, hb, rfl⟩
  | q :: ps, fs, h => by
    obtain ⟨a', b', r, rfl, h0, h1, h2, h3⟩ := h
    exact ⟨a', b', _, rfl, h0, h1, h2, Clo.append hab ha hb h3⟩
theorem Clo.keep {H K : List AObj} {o : Nat} (hk : ∀ r x, getH H r = some (.cells [x]) → getH K r = some (.cells [x])) : ∀ {ps : List Nat} {fs : List AV}, Clo H o ps fs → Clo K o ps fs
  | [], fs, h => h
  | q :: ps, fs, h => by
    obtain ⟨a', b', r, rfl, h0, h1, h2, h3⟩ := h
    exact ⟨a', b', r, rfl, h0, hk _ _ h1, hk _ _ h2, Clo.keep hk h3⟩
theorem Clo.len {H : List AObj} {o : Nat} : ∀ {ps : List Nat} {fs : List AV}, Clo H o ps fs → fs.length = ps.length
  | [], fs, h => by simp only [Clo] at h; subst h; rfl
  | q :: ps, fs, h => by
    obtain ⟨a', b', r, rfl, h0, h1, h2, h3⟩ := h
    simp [h3.len]
theorem Clo.wid {H : List AObj} {o : Nat} : ∀ {ps : List Nat} {fs : List AV}, Clo H o ps fs → wid 1 fs = true
  | [], fs, h => by simp only [Clo] at h; subst h; rfl
  | q :: ps, fs, h => by
    obtain ⟨a', b', r, rfl, h0, h1, h2, h3⟩ := h
    have := h3.wid
    simp [wid] at this ⊢
    exact this
/-- The code, as it is on the heap. -/
def CV (cv : AV) (c : List Ins) (H : List AObj) : Prop := c = [] ∧ cv = .nils ∨ ∃ i, c ≠ [] ∧ cv = .hs i 7 0 c.length ∧ getH H i = some (.cells (c.flatMap Ins.cells))
def hid : AV → List Nat
  | .hs i _ _ _ => [i]
  | _ => []
def Prg.gmap (P : Prg) : Es := (List.range P.globals.length).map fun i => (.str ((P.globals[i]?).getD gz).name, (P.plc i).av)
def Prg.fmap (P : Prg) : Es := P.funcs.map fun f => (.str f.name, f.av)
def Prg.kmap (P : Prg) : Es := (List.range P.locks.length).map fun (i : Nat) => (.str ((P.locks[i]?).getD ⟨0, []⟩).name, .int .i64 i)
/-- The places of the lowerer's parts. -/
structure Lp where
  ig : Nat
  ifn : Nat
  ik : Nat
  it : Nat
  m : Nat
  cv : AV
  t1 : AV
  t2 : AV
/-- What may be changed, but for the locals. -/
def Lp.own (σ : Lp) (o : Nat) : List Nat := o :: σ.it :: (hid σ.cv ++ tokOf σ.t1 ++ tokOf σ.t2)
def VR (es : Es) (V : LV) : Prop := KS es ∧ ∀ s, fS es s = (lreg V s).map fun r => .int .i64 r
/-- The lowerer on the heap. -/
structure Lo (n o : Nat) (P : Prg) (s : LS) (V : LV) (σ : Lp) (H : List AObj) : Prop where
  ho : getH H o = some (.cells [.map σ.ig, .map σ.ifn, .map σ.ik, σ.cv, .int .i64 s.r, .map σ.m, .map σ.it])
  hg : getH H σ.ig = some (.map P.gmap)
  hf : getH H σ.ifn = some (.map P.fmap)
  hk : getH H σ.ik = some (.map P.kmap)
  hm : ∃ es, getH H σ.m = some (.map es) ∧ VR es V
  ht : ∃ es, getH H σ.it = some (.map es) ∧ KI es ∧ (fI es 1).getD .nils = σ.t1 ∧ (fI es 2).getD .nils = σ.t2
  hc : CV σ.cv (s.c.map Ins.un) H
  h1 : ∃ fs, TipN n H σ.t1 fs ∧ Clo H o (posL 1 s.c) fs
  h2 : ∃ fs, TipN n H σ.t2 fs ∧ Clo H o (posL 2 s.c) fs
  nd : (tokOf σ.t1 ++ tokOf σ.t2).Nodup
  ne : σ.m ≠ σ.it ∧ σ.m ≠ σ.ig ∧ σ.m ≠ σ.ifn ∧ σ.m ≠ σ.ik ∧ σ.it ≠ σ.ig ∧ σ.it ≠ σ.ifn ∧ σ.it ≠ σ.ik
  lo : n ≤ o ∧ n ≤ σ.m ∧ n ≤ σ.it ∧ n ≤ lenH H ∧ ∀ i ∈ hid σ.cv, n ≤ i
  cl : s.c.length ≤ 4096
  rl : s.r ≤ s.c.length + 1
end Go.Ab

namespace Go.Ab
open Go.Proofs

set_option maxRecDepth 100000
set_option maxHeartbeats 8000000
structure LKeep (o : Nat) (σ : Lp) (H : List AObj) (σ' : Lp) (K : List AObj) : Prop where
  len : lenH H ≤ lenH K
  keep : ∀ r, r < lenH H → r ∉ σ.own o → getH K r = getH H r
  sub : ∀ r, r ∈ σ'.own o → r < lenH H → r ∈ σ.own o
  eqs : σ'.ig = σ.ig ∧ σ'.ifn = σ.ifn ∧ σ'.ik = σ.ik ∧ σ'.it = σ.it ∧ σ'.m = σ.m
theorem LKeep.refl (o : Nat) (σ : Lp) (H : List AObj) : LKeep o σ H σ H := ⟨Nat.le_refl _, fun _ _ _ => rfl, fun _ h _ => h, rfl, rfl, rfl, rfl, rfl⟩
theorem LKeep.trans {o : Nat} {σ σ' σ'' : Lp} {H K M : List AObj} (a : LKeep o σ H σ' K) (b : LKeep o σ' K σ'' M) : LKeep o σ H σ'' M where
  len := Nat.le_trans a.len b.len
  keep := fun r hr hn => by rw [b.keep r (by have := a.len; omega) (fun h => hn (a.sub r h hr)), a.keep r hr hn]
  sub := fun r h hr => a.sub r (b.sub r h (by have := a.len; omega)) hr
  eqs := ⟨b.eqs.1.trans a.eqs.1, b.eqs.2.1.trans a.eqs.2.1, b.eqs.2.2.1.trans a.eqs.2.2.1, b.eqs.2.2.2.1.trans a.eqs.2.2.2.1, b.eqs.2.2.2.2.trans a.eqs.2.2.2.2⟩
/-- It was too much: what is left of the heap. -/
structure PKeep (o : Nat) (σ : Lp) (H K : List AObj) : Prop where
  len : lenH H ≤ lenH K
  keep : ∀ r, r < lenH H → r ∉ σ.own o → getH K r = getH H r
  ho : ∃ x0 x1 x2 x3 x4 x5 x6, getH K o = some (.cells [x0, x1, x2, x3, x4, x5, x6])
def tooMany : AV := .iface 75 (.agg [])
/-- What a step of the lowerer comes to. -/
def LP {α : Type} (n o : Nat) (P : Prg) (V : LV) (σ : Lp) (H : List AObj) (res : Option (α × LS)) (val : α → AV → List AObj → Prop) : AEnd → List AObj → Prop := fun r K =>
  match res with
  | some (x, s') => ∃ v σ', r = .ret v ∧ val x v K ∧ Lo n o P s' V σ' K ∧ LKeep o σ H σ' K ∧ s'.r ≤ s'.c.length
  | none => r = .pan tooMany ∧ PKeep o σ H K
theorem LP.cases {α : Type} {n o : Nat} {P : Prg} {V : LV} {σ : Lp} {H K : List AObj} {res : Option (α × LS)} {val : α → AV → List AObj → Prop} {r : AEnd} (h : LP n o P V σ H res val r K) :
    (∃ x s' v σ', res = some (x, s') ∧ r = .ret v ∧ val x v K ∧ Lo n o P s' V σ' K ∧ LKeep o σ H σ' K ∧ s'.r ≤ s'.c.length) ∨ (res = none ∧ r = .pan tooMany ∧ PKeep o σ H K) := by
  cases res with
  | none => exact .inr ⟨rfl, h⟩
  | some p =>
    obtain ⟨x, s'⟩ := p
    obtain ⟨v, σ', h1, h2⟩ := h
    exact .inl ⟨x, s', v, σ', rfl, h1, h2⟩
theorem LKeep.pre {o : Nat} {σ σ' : Lp} {H K M : List AObj} (a : LKeep o σ H σ' K) (b : PKeep o σ' K M) : PKeep o σ H M where
  len := Nat.le_trans a.len b.len
  keep := fun r hr hn => by rw [b.keep r (by have := a.len; omega) (fun h => hn (a.sub r h hr)), a.keep r hr hn]
  ho := b.ho
theorem LM.bind_some {α β : Type} {m : LM α} {f : α → LM β} {L : Nat} {s s' : LS} {x : α} (h : m L s = some (x, s')) : m.bind f L s = f x L s' := by simp [LM.bind, h]
theorem LM.bind_none {α β : Type} {m : LM α} {f : α → LM β} {L : Nat} {s : LS} (h : m L s = none) : m.bind f L s = none := by simp [LM.bind, h]
section
variable {n o : Nat} {P : Prg} {s : LS} {V : LV} {σ : Lp} {H : List AObj}
theorem Lo.ones (h : Lo n o P s V σ H) {r : Nat} {x : AV} (hr : getH H r = some (.cells [x])) : r ∉ σ.own o := by
  intro hm
  obtain ⟨es, ht, -⟩ := h.ht
  obtain ⟨fs1, t1, -⟩ := h.h1
  obtain ⟨fs2, t2, -⟩ := h.h2
  simp only [Lp.own, List.mem_cons, List.mem_append] at hm
  rcases hm with rfl | rfl | ((hm | hm) | hm)
  · rw [h.ho] at hr; simp at hr
  · rw [ht] at hr; simp at hr
  · rcases h.hc with ⟨-, e⟩ | ⟨i, hne, e, hi⟩
    · rw [e] at hm; simp [hid] at hm
    · rw [e] at hm
      simp [hid] at hm
      subst hm
      rw [hi] at hr
      simp at hr
      have hl := congrArg List.length hr
      cases hcc : s.c.map Ins.un with
      | nil => exact hne hcc
      | cons y ys => rw [hcc] at hl; simp [Ins.cells] at hl
  · rw [(t1.lt r hm).2] at hr; simp at hr
  · rw [(t2.lt r hm).2] at hr; simp at hr
theorem Lo.map_own (h : Lo n o P s V σ H) {r : Nat} {es : Es} (hr : getH H r = some (.map es)) (hne : r ≠ σ.it) : r ∉ σ.own o := by
  intro hm
  obtain ⟨fs1, t1, -⟩ := h.h1
  obtain ⟨fs2, t2, -⟩ := h.h2
  simp only [Lp.own, List.mem_cons, List.mem_append] at hm
  rcases hm with rfl | rfl | ((hm | hm) | hm)
  · rw [h.ho] at hr; simp at hr
  · exact hne rfl
  · rcases h.hc with ⟨-, e⟩ | ⟨i, hne, e, hi⟩
    · rw [e] at hm; simp [hid] at hm
    · rw [e] at hm
      simp [hid] at hm
      subst hm
      rw [hi] at hr
      simp at hr
  · rw [(t1.lt r hm).2] at hr; simp at hr
  · rw [(t2.lt r hm).2] at hr; simp at hr
theorem Lo.own_ge (h : Lo n o P s V σ H) {r : Nat} (hm : r ∈ σ.own o) : n ≤ r ∧ r < lenH H := by
  obtain ⟨es, ht, -⟩ := h.ht
  obtain ⟨fs1, t1, -⟩ := h.h1
  obtain ⟨fs2, t2, -⟩ := h.h2
  simp only [Lp.own, List.mem_cons, List.mem_append] at hm
  rcases hm with rfl | rfl | ((hm | hm) | hm)
  · exact ⟨h.lo.1, getH_lt (by simp [h.ho])⟩
  · exact ⟨h.lo.2.2.1, getH_lt (by simp [ht])⟩
  · refine ⟨h.lo.2.2.2.2 r hm, ?_⟩
    rcases h.hc with ⟨-, e⟩ | ⟨i, hne, e, hi⟩
    · rw [e] at hm; simp [hid] at hm
    · rw [e] at hm
      simp [hid] at hm
      subst hm
      exact getH_lt (by simp [hi])
  · refine ⟨?_, (t1.lt r hm).1⟩
    rcases t1 with ⟨-, e⟩ | ⟨t, -, e, -, hn⟩
    · rw [e] at hm; simp at hm
    · rw [e] at hm; simp at hm; omega
  · refine ⟨?_, (t2.lt r hm).1⟩
    rcases t2 with ⟨-, e⟩ | ⟨t, -, e, -, hn⟩
    · rw [e] at hm; simp at hm
    · rw [e] at hm; simp at hm; omega
/-- The heap is another one, but for the code and the count of registers as before; the code is longer. -/
theorem Lo.put (h : Lo n o P s V σ H) {x : Ins} {K : List AObj} {cv' : AV} (hx : ∀ tr, 0 < tr → x.led tr = false) (hl : s.c.length < 4096) (hlen : lenH H ≤ lenH K)
    (ho : getH K o = some (.cells [.map σ.ig, .map σ.ifn, .map σ.ik, cv', .int .i64 s.r, .map σ.m, .map σ.it]))
    (hc : CV cv' ((s.c ++ [x]).map Ins.un) K) (hnew : ∀ i ∈ hid cv', lenH H ≤ i)
    (hk : ∀ r, r < lenH H → r ≠ o → r ∉ hid σ.cv → getH K r = getH H r) : Lo n o P ⟨s.c ++ [x], s.r⟩ V { σ with cv := cv' } K ∧ LKeep o σ H { σ with cv := cv' } K ∧ ∀ r es, getH H r = some (.map es) → getH K r = some (.map es) := by
  obtain ⟨es, ht, ht'⟩ := h.ht
  obtain ⟨em, hm, hm'⟩ := h.hm
  obtain ⟨fs1, t1, q1⟩ := h.h1
  obtain ⟨fs2, t2, q2⟩ := h.h2
  have hmp : ∀ r es, getH H r = some (.map es) → getH K r = some (.map es) := fun r es hr => by
    rw [hk r (getH_lt (by simp [hr])) (fun e => by subst e; rw [h.ho] at hr; simp at hr) (fun hm => ?_), hr]
    rcases h.hc with ⟨-, e⟩ | ⟨i, hne, e, hi⟩
    · rw [e] at hm; simp [hid] at hm
    · rw [e] at hm
      simp [hid] at hm
      subst hm
      rw [hi] at hr
      simp at hr
  have hon : ∀ r x, getH H r = some (.cells [x]) → getH K r = some (.cells [x]) := fun r x hr => by
    have := h.ones hr
    simp only [Lp.own, List.mem_cons, List.mem_append, not_or] at this
    rw [hk r (getH_lt (by simp [hr])) this.1 this.2.2.1.1, hr]
  have htp : ∀ t, getH H t = some .tip → getH K t = some .tip := fun r hr => by
    rw [hk r (getH_lt (by simp [hr])) (fun e => by subst e; rw [h.ho] at hr; simp at hr) (fun hm => ?_), hr]
    rcases h.hc with ⟨-, e⟩ | ⟨i, hne, e, hi⟩
    · rw [e] at hm; simp [hid] at hm
    · rw [e] at hm
      simp [hid] at hm
      subst hm
      rw [hi] at hr
      simp at hr
  have p1 : posL 1 (s.c ++ [x]) = posL 1 s.c := by rw [posL_append, hx 1 (by omega)]; simp
  have p2 : posL 2 (s.c ++ [x]) = posL 2 s.c := by rw [posL_append, hx 2 (by omega)]; simp
  refine ⟨⟨ho, hmp _ _ h.hg, hmp _ _ h.hf, hmp _ _ h.hk, ⟨em, hmp _ _ hm, hm'⟩, ⟨es, hmp _ _ ht, ht'⟩, hc, ⟨fs1, t1.keep fun t _ => htp t, by rw [p1]; exact q1.keep hon⟩, ⟨fs2, t2.keep fun t _ => htp t, by rw [p2]; exact q2.keep hon⟩,
    h.nd, h.ne, ⟨h.lo.1, h.lo.2.1, h.lo.2.2.1, by have := h.lo.2.2.2.1; omega, fun i hi => by have := hnew i hi; have := h.lo.2.2.2.1; omega⟩, by simp; omega, by have := h.rl; simp; omega⟩, ⟨hlen, fun r hr hn => ?_, fun r hm hr => ?_, rfl, rfl, rfl, rfl, rfl⟩, hmp⟩
  · simp only [Lp.own, List.mem_cons, List.mem_append, not_or] at hn
    exact hk r hr hn.1 hn.2.2.1.1
  · simp only [Lp.own, List.mem_cons, List.mem_append] at hm ⊢
    rcases hm with hm | hm | ((hm | hm) | hm)
    · exact .inl hm
    · exact .inr (.inl hm)
    · have := hnew r hm; omega
    · exact .inr (.inr (.inl (.inr hm)))
    · exact .inr (.inr (.inr hm))
theorem Ins.flat_len (c : List Ins) : (c.flatMap Ins.cells).length = c.length * 7 := by
  induction c with
  | nil => rfl
  | cons x r ih => simp only [List.flatMap_cons, List.length_append, ih, List.length_cons]; simp [Ins.cells]; omega
theorem put_r (h : Lo n o P s V σ H) {x y : Ins} (hxy : x.un = y) (hx : ∀ tr, 0 < tr → x.led tr = false) :
    SCalls Tryz.prog 28 [.ptr o 0, y.av] H (fun r K => s.c.length < 4096 ∧ (∃ a b cv', r = .ret (.func (.func 55) [] [.ptr a 0, .ptr b 0]) ∧ b = a + 1 ∧ getH K a = some (.cells [.ptr o 0]) ∧ getH K b = some (.cells [.int .i64 s.c.length]) ∧
      Lo n o P ⟨s.c ++ [x], s.r⟩ V { σ with cv := cv' } K ∧ LKeep o σ H { σ with cv := cv' } K ∧ (∀ r es, getH H r = some (.map es) → getH K r = some (.map es)) ∧ s.r ≤ s.c.length + 1) ∨ ¬ s.c.length < 4096 ∧ r = .pan tooMany ∧ PKeep o σ H K) := by
  have hcl := h.cl
  have ho := h.ho
  have holt := getH_lt (H := H) (i := o) (by simp [ho])
  refine fn_go k28 rfl ?_
  intro Q hQ
  rcases h.hc with ⟨hc0, hcv⟩ | ⟨i, hne, hcv, hci⟩
  · have hs0 : s.c = [] := by simpa using hc0
    have hl : s.c.length < 4096 := by rw [hs0]; decide
    have e1 : lenH H + 1 ≠ o := by omega
    simp [c28, ho, hcv, c28_1, Ins.av, Ins.cells, roomA_eq, e1]
    generalize hKd : setH _ o _ = K
    have hyc : [AV.int .i64 y.kind, .int .i64 y.op, .int .i64 y.d, .int .i64 y.a, .int .i64 y.b, .int .i64 y.n, .int .i64 y.to] = y.cells := rfl
    rw [hyc] at hKd
    have hKo : getH K o = some (.cells [.map σ.ig, .map σ.ifn, .map σ.ik, .hs (lenH H + 3) 7 0 1, .int .i64 s.r, .map σ.m, .map σ.it]) := by
      rw [← hKd]; simp (maxDischargeDepth := 9) [e1, ho]
    have hKi : getH K (lenH H + 3) = some (.cells y.cells) := by
      rw [← hKd, getH_set_ne (by omega)]
      exact getH_add_at (by simp)
    have hKk : ∀ r, r < lenH H → r ≠ o → getH K r = getH H r := fun r hr hne => by
      have hs : (getH H r).isSome = true := getH_isSome.2 hr
      have e2 : lenH H + 1 ≠ r := by omega
      rw [← hKd, getH_set_ne (Ne.symm hne)]
      simp (maxDischargeDepth := 9) [e2, hs]
    have hKl : lenH H ≤ lenH K := by rw [← hKd]; simp; omega
    have hKa : getH K (lenH H) = some (.cells [.ptr o 0]) := by
      rw [← hKd, getH_set_ne (by omega)]
      simp (maxDischargeDepth := 9)
    have hKb : getH K (lenH H + 1) = some (.cells [.int .i64 0]) := by
      rw [← hKd, getH_set_ne (by omega)]
      simp (maxDischargeDepth := 9)
    obtain ⟨q1, q2, q3⟩ := h.put hx hl hKl hKo (cv' := .hs (lenH H + 3) 7 0 1) (.inr ⟨lenH H + 3, by simp, by simp [hs0], by rw [hs0, hKi]; simp [hxy]⟩) (by simp [hid]) (fun r hr hne _ => hKk r hr hne)
    exact hQ _ _ (.inl ⟨hl, lenH H, lenH H + 1, _, rfl, rfl, hKa, by rw [hKb, hs0]; rfl, q1, q2, q3, h.rl⟩)
  · have hil := getH_lt (H := H) (i := i) (by simp [hci])
    have e3 : o ≠ i := fun e => by
      subst e
      rw [ho] at hci
      cases hcc : s.c.map Ins.un with
      | nil => exact hne hcc
      | cons z zs => rw [hcc] at hci; simp [Ins.cells] at hci
    have hLl := Ins.flat_len (s.c.map Ins.un)
    have hLe : (s.c.map Ins.un ++ [y]).flatMap Ins.cells = (s.c.map Ins.un).flatMap Ins.cells ++ y.cells := by simp
    generalize (s.c.map Ins.un).flatMap Ins.cells = L at hci hLl hLe
    by_cases hl : s.c.length < 4096
    · have hl2 : ¬ s.c.length = 4096 := by omega
      have hl3 : ¬ (s.c.length : Int) = 4096 := by omega
      have e1 : lenH H + 1 ≠ o := by omega
      have e2 : lenH H + 1 ≠ i := by omega
      have e5 : (s.c.length + 1) * 56 ≤ 35184372088832 := by omega
      rw [List.length_map] at hLl hcv
      have e6 : L.take (s.c.length * 7) = L := List.take_of_length_le (by omega)
      have e7 : s.c.length * 7 ≤ L.length := by omega
      simp (maxDischargeDepth := 9) [c28, ho, hcv, c28_1, Ins.av, Ins.cells, hci, hl2, hl3, roomA_eq, e1, e2, e3, e3.symm, e5, e6, e7]
      generalize hKd : setH _ o _ = K
      have hyc : [AV.int .i64 y.kind, .int .i64 y.op, .int .i64 y.d, .int .i64 y.a, .int .i64 y.b, .int .i64 y.n, .int .i64 y.to] = y.cells := rfl
      rw [hyc] at hKd
      have hKo : getH K o = some (.cells [.map σ.ig, .map σ.ifn, .map σ.ik, .hs (lenH H + 3) 7 0 (s.c.length + 1), .int .i64 s.r, .map σ.m, .map σ.it]) := by
        rw [← hKd]; simp (maxDischargeDepth := 9) [e1, e3, e3.symm, ho]
      have hKi : getH K (lenH H + 3) = some (.cells (L ++ y.cells)) := by
        rw [← hKd, getH_set_ne (by omega)]
        exact getH_add_at (by simp)
      have hKk : ∀ r, r < lenH H → r ≠ o → r ≠ i → getH K r = getH H r := fun r hr hne hne2 => by
        have hs : (getH H r).isSome = true := getH_isSome.2 hr
        have e2 : lenH H + 1 ≠ r := by omega
        rw [← hKd, getH_set_ne (Ne.symm hne)]
        simp (maxDischargeDepth := 9) [e2, hs, Ne.symm hne2]
      have hKl : lenH H ≤ lenH K := by rw [← hKd]; simp; omega
      have e8 : i ≠ lenH H := by omega
      have e9 : i ≠ lenH H + 1 := by omega
      have hKa : getH K (lenH H) = some (.cells [.ptr o 0]) := by
        rw [← hKd, getH_set_ne (by omega)]
        simp (maxDischargeDepth := 9) [e8]
      have hKb : getH K (lenH H + 1) = some (.cells [.int .i64 s.c.length]) := by
        rw [← hKd, getH_set_ne (by omega)]
        simp (maxDischargeDepth := 9) [e9]
      obtain ⟨q1, q2, q3⟩ := h.put hx hl hKl hKo (cv' := .hs (lenH H + 3) 7 0 (s.c.length + 1)) (.inr ⟨lenH H + 3, by simp, by simp, by
        rw [hKi, List.map_append, List.map_cons, List.map_nil, hxy, hLe]⟩) (by simp [hid]) (fun r hr hne hne2 => hKk r hr hne (fun e => hne2 (by rw [hcv]; simp [hid, e])))
      exact hQ _ _ (.inl ⟨hl, lenH H, lenH H + 1, _, rfl, rfl, hKa, hKb, q1, q2, q3, h.rl⟩)
    · have hl2 : s.c.length = 4096 := by omega
      rw [List.length_map] at hcv
      simp [c28, ho, hcv, hl2, Ins.av, Ins.cells]
      exact hQ (.pan tooMany) (addH H (.cells [.ptr o 0])) (.inr ⟨hl, rfl, by simp, fun r hr _ => getH_add_old (getH_isSome.2 hr), _, _, _, _, _, _, _, by rw [getH_add_old (by simp [ho]), ho]⟩)
theorem put_c (h : Lo n o P s V σ H) {x y : Ins} (hxy : x.un = y) (hx : ∀ tr, 0 < tr → x.led tr = false) :
    SCalls Tryz.prog 28 [.ptr o 0, y.av] H (LP n o P V σ H (lput x 4096 s) fun _ v K => ∃ a b, v = .func (.func 55) [] [.ptr a 0, .ptr b 0] ∧ getH K a = some (.cells [.ptr o 0]) ∧ getH K b = some (.cells [.int .i64 s.c.length])) := by
  refine (put_r h hxy hx).mono ?_
  rintro r K (⟨hl, a, b, cv', rfl, hab, ha, hb, q1, q2, q3, q4⟩ | ⟨hl, rfl, pk⟩)
  · rw [lput, if_pos hl]
    exact ⟨_, _, rfl, ⟨a, b, rfl, ha, hb⟩, q1, q2, by simp; omega⟩
  · rw [lput, if_neg hl]
    exact ⟨rfl, pk⟩
end
end Go.Ab

namespace Go.Ab
open Go.Proofs

set_option maxRecDepth 100000
set_option maxHeartbeats 8000000
section
variable {n o : Nat} {P : Prg} {s : LS} {V : LV} {σ : Lp} {H : List AObj}
/-- The count of registers is stored. -/
theorem Lo.reg (h : Lo n o P s V σ H) (hr : s.r ≤ s.c.length) :
    Lo n o P ⟨s.c, s.r + 1⟩ V σ (setH H o (.cells [.map σ.ig, .map σ.ifn, .map σ.ik, σ.cv, .int .i64 (s.r + 1 : Nat), .map σ.m, .map σ.it])) ∧
    LKeep o σ H σ (setH H o (.cells [.map σ.ig, .map σ.ifn, .map σ.ik, σ.cv, .int .i64 (s.r + 1 : Nat), .map σ.m, .map σ.it])) := by
  generalize hK : setH H o _ = K
  have hko : getH K o = some (.cells [.map σ.ig, .map σ.ifn, .map σ.ik, σ.cv, .int .i64 (s.r + 1 : Nat), .map σ.m, .map σ.it]) := by rw [← hK]; exact getH_set_self (by simp [h.ho])
  have hk : ∀ r, r ≠ o → getH K r = getH H r := fun r hne => by rw [← hK, getH_set_ne (Ne.symm hne)]
  have hkl : lenH K = lenH H := by rw [← hK]; simp
  have hmp : ∀ r es, getH H r = some (.map es) → getH K r = some (.map es) := fun r es hr => by
    rw [hk r (fun e => by subst e; rw [h.ho] at hr; simp at hr), hr]
  have hon : ∀ r x, getH H r = some (.cells [x]) → getH K r = some (.cells [x]) := fun r x hr => by
    rw [hk r (fun e => by subst e; rw [h.ho] at hr; simp at hr), hr]
  have htp : ∀ t, getH H t = some .tip → getH K t = some .tip := fun r hr => by
    rw [hk r (fun e => by subst e; rw [h.ho] at hr; simp at hr), hr]
  obtain ⟨es, ht, ht'⟩ := h.ht
  obtain ⟨em, hm, hm'⟩ := h.hm
  obtain ⟨fs1, t1, q1⟩ := h.h1
  obtain ⟨fs2, t2, q2⟩ := h.h2
  have hcv : CV σ.cv (s.c.map Ins.un) K := by
    rcases h.hc with hc | ⟨i, hne, e, hi⟩
    · exact .inl hc
    · refine .inr ⟨i, hne, e, ?_⟩
      rw [hk i (fun e => ?_), hi]
      subst e
      rw [h.ho] at hi
      cases hcc : s.c.map Ins.un with
      | nil => exact hne hcc
      | cons z zs => rw [hcc] at hi; simp [Ins.cells] at hi
  exact ⟨⟨hko, hmp _ _ h.hg, hmp _ _ h.hf, hmp _ _ h.hk, ⟨em, hmp _ _ hm, hm'⟩, ⟨es, hmp _ _ ht, ht'⟩, hcv, ⟨fs1, t1.keep fun t _ => htp t, q1.keep hon⟩, ⟨fs2, t2.keep fun t _ => htp t, q2.keep hon⟩,
    h.nd, h.ne, ⟨h.lo.1, h.lo.2.1, h.lo.2.2.1, by rw [hkl]; exact h.lo.2.2.2.1, h.lo.2.2.2.2⟩, h.cl, by simp; omega⟩, by omega, fun r hr hn => hk r (fun e => hn (by simp [Lp.own, e])), fun r hm _ => hm, rfl, rfl, rfl, rfl, rfl⟩
theorem fresh_c (h : Lo n o P s V σ H) (hr : s.r ≤ s.c.length) : SCalls Tryz.prog 169 [.ptr o 0] H (fun r K => ∃ σ', r = .ret (.int .i64 s.r) ∧ Lo n o P ⟨s.c, s.r + 1⟩ V σ' K ∧ LKeep o σ H σ' K) := by
  have ho := h.ho
  have hcl := h.cl
  refine fn_go k169 rfl ?_
  intro Q hQ
  obtain ⟨q1, q2⟩ := h.reg hr
  have hcv : (σ.cv).okv = true ∧ σ.cv.cells = [σ.cv] := by
    rcases h.hc with ⟨-, e⟩ | ⟨i, -, e, -⟩ <;> rw [e] <;> simp
  simp [c169, ho, wrap_s (n := (s.r : Int) + 1) (by omega), wrap_s (n := (s.r : Int)) (by omega)]
  exact hQ _ _ ⟨σ, rfl, by simpa using q1, by simpa using q2⟩
theorem into_c (h : Lo n o P s V σ H) (hr : s.r ≤ s.c.length) {f : Int → Ins} {y : Ins} (hf : ∀ k, f k = { y with d := k }) (h0 : y.to = 0) :
    SCalls Tryz.prog 143 [.ptr o 0, y.av] H (LP n o P V σ H (linto f 4096 s) fun x v K => v = .int .i64 x) := by
  refine fn_go k143 rfl ?_
  intro Q hQ
  simp [c143, Ins.av, Ins.cells]
  refine (fresh_c h hr).mono ?_
  rintro r K ⟨σ1, rfl, h1, lk1⟩
  simp
  have hun : (f s.r).un = { y with d := s.r } := by rw [hf]; simp [Ins.un, h0]
  refine (put_c h1 hun (fun tr htr => by rw [hf]; simp [Ins.led, h0]; intro _; omega)).mono ?_
  rintro r K2 hr2
  have hbind : linto f 4096 s = ((lput (f s.r)).bind fun _ => LM.ret (s.r : Int)) 4096 ⟨s.c, s.r + 1⟩ := rfl
  rcases hr2.cases with ⟨x, s', v, σ', hm, rfl, hv, h', lk, hr'⟩ | ⟨hm, rfl, pk⟩
  · rw [hbind, LM.bind_some hm] at hQ
    obtain ⟨ca, cb, rfl, -, -⟩ := hv
    simp
    exact hQ _ _ ⟨_, σ', rfl, rfl, h', lk1.trans lk, hr'⟩
  · rw [hbind, LM.bind_none hm] at hQ
    simp
    exact hQ _ _ ⟨rfl, lk1.pre pk⟩
theorem set_c (h : Lo n o P s V σ H) (hr : s.r ≤ s.c.length) {k : Int} : SCalls Tryz.prog 140 [.ptr o 0, .int .i64 k] H (LP n o P V σ H (lset k 4096 s) fun x v K => v = .int .i64 x) := by
  refine fn_go k140 rfl ?_
  intro Q hQ
  simp [c140]
  refine (into_c (f := fun d => ⟨0, 0, d, 0, 0, k, 0⟩) (y := ⟨0, 0, 0, 0, 0, k, 0⟩) h hr (fun _ => rfl) rfl).mono ?_
  rintro r K hr2
  rcases hr2.cases with ⟨x, s', v, σ', hm, rfl, rfl, h', lk, hr'⟩ | ⟨hm, rfl, pk⟩
  · simp
    exact hQ _ _ (by unfold lset; rw [hm]; exact ⟨_, σ', rfl, rfl, h', lk, hr'⟩)
  · simp
    exact hQ _ _ (by unfold lset; rw [hm]; exact ⟨rfl, pk⟩)
theorem calc_c (h : Lo n o P s V σ H) (hr : s.r ≤ s.c.length) {op a b : Int} : SCalls Tryz.prog 139 [.ptr o 0, .int .i64 op, .int .i64 a, .int .i64 b] H (LP n o P V σ H (lcalc op a b 4096 s) fun x v K => v = .int .i64 x) := by
  refine fn_go k139 rfl ?_
  intro Q hQ
  simp [c139]
  refine (into_c (f := fun d => ⟨2, op, d, a, b, 0, 0⟩) (y := ⟨2, op, 0, a, b, 0, 0⟩) h hr (fun _ => rfl) rfl).mono ?_
  rintro r K hr2
  rcases hr2.cases with ⟨x, s', v, σ', hm, rfl, rfl, h', lk, hr'⟩ | ⟨hm, rfl, pk⟩
  · simp
    exact hQ _ _ (by unfold lcalc; rw [hm]; exact ⟨_, σ', rfl, rfl, h', lk, hr'⟩)
  · simp
    exact hQ _ _ (by unfold lcalc; rw [hm]; exact ⟨rfl, pk⟩)
theorem load_c (h : Lo n o P s V σ H) (hr : s.r ≤ s.c.length) {a b : Int} : SCalls Tryz.prog 137 [.ptr o 0, .int .i64 a, .int .i64 b] H (LP n o P V σ H (lload a b 4096 s) fun x v K => v = .int .i64 x) := by
  refine fn_go k137 rfl ?_
  intro Q hQ
  simp [c137]
  refine (into_c (f := fun d => ⟨4, 0, d, a, 0, b, 0⟩) (y := ⟨4, 0, 0, a, 0, b, 0⟩) h hr (fun _ => rfl) rfl).mono ?_
  rintro r K hr2
  rcases hr2.cases with ⟨x, s', v, σ', hm, rfl, rfl, h', lk, hr'⟩ | ⟨hm, rfl, pk⟩
  · simp
    exact hQ _ _ (by unfold lload; rw [hm]; exact ⟨_, σ', rfl, rfl, h', lk, hr'⟩)
  · simp
    exact hQ _ _ (by unfold lload; rw [hm]; exact ⟨rfl, pk⟩)
theorem move_c (h : Lo n o P s V σ H) (hr : s.r ≤ s.c.length) {a : Int} : SCalls Tryz.prog 112 [.ptr o 0, .int .i64 a] H (LP n o P V σ H (lmove a 4096 s) fun x v K => v = .int .i64 x) := by
  refine fn_go k112 rfl ?_
  intro Q hQ
  simp [c112]
  refine (into_c (f := fun d => ⟨1, 0, d, a, 0, 0, 0⟩) (y := ⟨1, 0, 0, a, 0, 0, 0⟩) h hr (fun _ => rfl) rfl).mono ?_
  rintro r K hr2
  rcases hr2.cases with ⟨x, s', v, σ', hm, rfl, rfl, h', lk, hr'⟩ | ⟨hm, rfl, pk⟩
  · simp
    exact hQ _ _ (by unfold lmove; rw [hm]; exact ⟨_, σ', rfl, rfl, h', lk, hr'⟩)
  · simp
    exact hQ _ _ (by unfold lmove; rw [hm]; exact ⟨rfl, pk⟩)
end
end Go.Ab

namespace Go.Ab
open Go.Proofs

set_option maxRecDepth 100000
set_option maxHeartbeats 8000000
section
variable {n o : Nat} {P : Prg} {s : LS} {V : LV} {σ : Lp} {H : List AObj}
theorem posL_last {tr : Int} (h0 : 0 < tr) {c : List Ins} {x y : Ins} (hxy : x.un = y) (hy : y.led tr = false) (hyt : y.to = 0) (t : Int) (ht : 0 < t) : posL t (c ++ [{ y with to := -tr }]) = if t = tr ∧ y.kind = 7 then posL t (c ++ [y]) ++ [c.length] else posL t (c ++ [y]) := by
  have e0 : y.led t = false := by simp [Ins.led, hyt]; intro _; omega
  rw [posL_append, posL_append, e0]
  by_cases e : t = tr ∧ y.kind = 7
  · have : ({ y with to := -tr } : Ins).led t = true := by simp [Ins.led, e.1, e.2]
    rw [this, if_pos e]
    simp
  · have : ({ y with to := -tr } : Ins).led t = false := by
      simp [Ins.led]
      intro hk
      have : ¬ t = tr := fun h => e ⟨h, hk⟩
      omega
    simp [this, e]
theorem Lo.trap1 {a b : Nat} {x : Int} {es es' : Es} {fs : List AV} {M K : List AObj} {tok : Nat} (h : Lo n o P ⟨s.c ++ [⟨7, 0, 0, x, 0, 0, 0⟩], s.r⟩ V σ H) (hab : b = a + 1) (ha : getH H a = some (.cells [.ptr o 0])) (hb : getH H b = some (.cells [.int .i64 s.c.length]))
    (hit : getH H σ.it = some (.map es)) (ht : TipN n H σ.t1 fs) (hq : Clo H o (posL 1 (s.c ++ [⟨7, 0, 0, x, 0, 0, 0⟩])) fs)
    (ht' : TipN n M (.vs (some tok) (fs ++ [.func (.func 55) [] [.ptr a 0, .ptr b 0]])) (fs ++ [.func (.func 55) [] [.ptr a 0, .ptr b 0]])) (htk : lenH H ≤ tok) (hM : lenH H ≤ lenH M) (hk : ∀ r, r < lenH H → r ∉ tokOf σ.t1 → getH M r = getH H r)
    (hes : setA .i (.int .i64 1) (.vs (some tok) (fs ++ [.func (.func 55) [] [.ptr a 0, .ptr b 0]])) es = some es') (hK : K = setH M σ.it (.map es')) :
    Lo n o P ⟨s.c ++ [⟨7, 0, 0, x, 0, 0, -1⟩], s.r⟩ V { σ with t1 := .vs (some tok) (fs ++ [.func (.func 55) [] [.ptr a 0, .ptr b 0]]) } K ∧ LKeep o σ H { σ with t1 := .vs (some tok) (fs ++ [.func (.func 55) [] [.ptr a 0, .ptr b 0]]) } K := by
  obtain ⟨es0, hit0, hki, hx1, hx2⟩ := h.ht
  rw [hit] at hit0
  cases hit0
  obtain ⟨hki', hfi⟩ := hki.set hes
  obtain ⟨em, hm, hm'⟩ := h.hm
  obtain ⟨fo, to, qo⟩ := h.h2
  have hlt := ht.lt
  have hd : ∀ r, getH H r ≠ some .tip → r ∉ tokOf σ.t1 := fun r hr hm => hr (hlt r hm).2
  have hkk : ∀ r, r < lenH H → r ≠ σ.it → r ∉ tokOf σ.t1 → getH K r = getH H r := fun r hr hne hn => by rw [hK, getH_set_ne (Ne.symm hne), hk r hr hn]
  have hmp : ∀ r es, r ≠ σ.it → getH H r = some (.map es) → getH K r = some (.map es) := fun r es hne hr => by
    rw [hkk r (getH_lt (by simp [hr])) hne (hd r (by simp [hr])), hr]
  have hcl : ∀ r cs, getH H r = some (.cells cs) → getH K r = some (.cells cs) := fun r cs hr => by
    rw [hkk r (getH_lt (by simp [hr])) (fun e => by subst e; rw [hit] at hr; simp at hr) (hd r (by simp [hr])), hr]
  have hMl : getH M σ.it = some (.map es) := by rw [hk σ.it (getH_lt (by simp [hit])) (hd _ (by simp [hit])), hit]
  have hKit : getH K σ.it = some (.map es') := by rw [hK]; exact getH_set_self (by simp [hMl])
  have htl := ht'.lt tok (by simp)
  have htokK : TipN n K (.vs (some tok) (fs ++ [.func (.func 55) [] [.ptr a 0, .ptr b 0]])) (fs ++ [.func (.func 55) [] [.ptr a 0, .ptr b 0]]) := by
    refine ht'.keep fun t hm ht => ?_
    rw [hK, getH_set_ne (fun e => ?_), ht]
    subst e
    rw [hMl] at ht
    simp at ht
  have hon : ∀ r x, getH H r = some (.cells [x]) → getH K r = some (.cells [x]) := fun r x hr => hcl _ _ hr
  have hp : ∀ t : Int, 0 < t → posL t (s.c ++ [(⟨7, 0, 0, x, 0, 0, -1⟩ : Ins)]) = if t = 1 then posL t (s.c ++ [⟨7, 0, 0, x, 0, 0, 0⟩]) ++ [s.c.length] else posL t (s.c ++ [⟨7, 0, 0, x, 0, 0, 0⟩]) := fun t ht0 => by
    have := posL_last (tr := 1) (by omega) (c := s.c) (x := ⟨7, 0, 0, x, 0, 0, 0⟩) (y := ⟨7, 0, 0, x, 0, 0, 0⟩) (by simp [Ins.un]) (by simp [Ins.led]) rfl t ht0
    simpa using this
  have hp1 := hp 1 (by omega)
  have hp2 := hp 2 (by omega)
  simp at hp1 hp2
  have hnd := h.nd
  have hKl : lenH K = lenH M := by rw [hK]; simp
  refine ⟨⟨hcl _ _ h.ho, hmp _ _ h.ne.2.2.2.2.1.symm h.hg, hmp _ _ h.ne.2.2.2.2.2.1.symm h.hf, hmp _ _ h.ne.2.2.2.2.2.2.symm h.hk, ⟨em, hmp _ _ h.ne.1 hm, hm'⟩, ⟨es', hKit, hki', ?_, ?_⟩, ?_,
    ⟨_, htokK, by rw [hp1]; exact Clo.append hab (hon _ _ ha) (hon _ _ hb) (hq.keep hon)⟩, ⟨fo, to.keep fun t hm2 ht2 => ?_, by rw [hp2]; exact qo.keep hon⟩,
    ?_, h.ne, ⟨h.lo.1, h.lo.2.1, h.lo.2.2.1, by have := h.lo.2.2.2.1; omega, h.lo.2.2.2.2⟩, by simpa using h.cl, by simpa using h.rl⟩, ⟨by omega, fun r hr hn => ?_, fun r hm2 hr => ?_, rfl, rfl, rfl, rfl, rfl⟩⟩
  · rw [hfi]; simp 
  · rw [hfi]; simp [hx2]
  · rcases h.hc with ⟨hc0, -⟩ | ⟨i, hne, e, hi⟩
    · simp at hc0
    · refine .inr ⟨i, by simp, ?_, ?_⟩
      · rw [e]; simp
      · rw [hcl _ _ hi]; simp [Ins.un]
  · rw [hkk t (getH_lt (by simp [ht2])) (fun e => by subst e; rw [hit] at ht2; simp at ht2) (fun hm3 => ?_), ht2]
    exact (List.nodup_append.1 hnd).2.2 t hm3 t hm2 rfl
  · refine List.nodup_append.2 ⟨by simp, (List.nodup_append.1 hnd).2.1, fun y hy z hz => ?_⟩
    simp at hy
    have := (to.lt z hz).1
    omega
  · simp only [Lp.own, List.mem_cons, List.mem_append, not_or] at hn
    exact hkk r hr hn.2.1 hn.2.2.1.2
  · simp only [Lp.own, List.mem_cons, List.mem_append, tokOf_vs, List.not_mem_nil, or_false] at hm2 ⊢
    rcases hm2 with hm2 | hm2 | ((hm2 | hm2) | hm2)
    · exact .inl hm2
    · exact .inr (.inl hm2)
    · exact .inr (.inr (.inl (.inl hm2)))
    · omega
    · exact .inr (.inr (.inr hm2))
theorem Lo.trap2 {a b : Nat} {x : Int} {es es' : Es} {fs : List AV} {M K : List AObj} {tok : Nat} (h : Lo n o P ⟨s.c ++ [⟨7, 0, 0, x, 0, 0, 0⟩], s.r⟩ V σ H) (hab : b = a + 1) (ha : getH H a = some (.cells [.ptr o 0])) (hb : getH H b = some (.cells [.int .i64 s.c.length]))
    (hit : getH H σ.it = some (.map es)) (ht : TipN n H σ.t2 fs) (hq : Clo H o (posL 2 (s.c ++ [⟨7, 0, 0, x, 0, 0, 0⟩])) fs)
    (ht' : TipN n M (.vs (some tok) (fs ++ [.func (.func 55) [] [.ptr a 0, .ptr b 0]])) (fs ++ [.func (.func 55) [] [.ptr a 0, .ptr b 0]])) (htk : lenH H ≤ tok) (hM : lenH H ≤ lenH M) (hk : ∀ r, r < lenH H → r ∉ tokOf σ.t2 → getH M r = getH H r)
    (hes : setA .i (.int .i64 2) (.vs (some tok) (fs ++ [.func (.func 55) [] [.ptr a 0, .ptr b 0]])) es = some es') (hK : K = setH M σ.it (.map es')) :
    Lo n o P ⟨s.c ++ [⟨7, 0, 0, x, 0, 0, -2⟩], s.r⟩ V { σ with t2 := .vs (some tok) (fs ++ [.func (.func 55) [] [.ptr a 0, .ptr b 0]]) } K ∧ LKeep o σ H { σ with t2 := .vs (some tok) (fs ++ [.func (.func 55) [] [.ptr a 0, .ptr b 0]]) } K := by
  obtain ⟨es0, hit0, hki, hx1, hx2⟩ := h.ht
  rw [hit] at hit0
  cases hit0
  obtain ⟨hki', hfi⟩ := hki.set hes
  obtain ⟨em, hm, hm'⟩ := h.hm
  obtain ⟨fo, to, qo⟩ := h.h1
  have hlt := ht.lt
  have hd : ∀ r, getH H r ≠ some .tip → r ∉ tokOf σ.t2 := fun r hr hm => hr (hlt r hm).2
  have hkk : ∀ r, r < lenH H → r ≠ σ.it → r ∉ tokOf σ.t2 → getH K r = getH H r := fun r hr hne hn => by rw [hK, getH_set_ne (Ne.symm hne), hk r hr hn]
  have hmp : ∀ r es, r ≠ σ.it → getH H r = some (.map es) → getH K r = some (.map es) := fun r es hne hr => by
    rw [hkk r (getH_lt (by simp [hr])) hne (hd r (by simp [hr])), hr]
  have hcl : ∀ r cs, getH H r = some (.cells cs) → getH K r = some (.cells cs) := fun r cs hr => by
    rw [hkk r (getH_lt (by simp [hr])) (fun e => by subst e; rw [hit] at hr; simp at hr) (hd r (by simp [hr])), hr]
  have hMl : getH M σ.it = some (.map es) := by rw [hk σ.it (getH_lt (by simp [hit])) (hd _ (by simp [hit])), hit]
  have hKit : getH K σ.it = some (.map es') := by rw [hK]; exact getH_set_self (by simp [hMl])
  have htl := ht'.lt tok (by simp)
  have htokK : TipN n K (.vs (some tok) (fs ++ [.func (.func 55) [] [.ptr a 0, .ptr b 0]])) (fs ++ [.func (.func 55) [] [.ptr a 0, .ptr b 0]]) := by
    refine ht'.keep fun t hm ht => ?_
    rw [hK, getH_set_ne (fun e => ?_), ht]
    subst e
    rw [hMl] at ht
    simp at ht
  have hon : ∀ r x, getH H r = some (.cells [x]) → getH K r = some (.cells [x]) := fun r x hr => hcl _ _ hr
  have hp : ∀ t : Int, 0 < t → posL t (s.c ++ [(⟨7, 0, 0, x, 0, 0, -2⟩ : Ins)]) = if t = 2 then posL t (s.c ++ [⟨7, 0, 0, x, 0, 0, 0⟩]) ++ [s.c.length] else posL t (s.c ++ [⟨7, 0, 0, x, 0, 0, 0⟩]) := fun t ht0 => by
    have := posL_last (tr := 2) (by omega) (c := s.c) (x := ⟨7, 0, 0, x, 0, 0, 0⟩) (y := ⟨7, 0, 0, x, 0, 0, 0⟩) (by simp [Ins.un]) (by simp [Ins.led]) rfl t ht0
    simpa using this
  have hp2 := hp 2 (by omega)
  have hp1 := hp 1 (by omega)
  simp at hp1 hp2
  have hnd := h.nd
  have hKl : lenH K = lenH M := by rw [hK]; simp
  refine ⟨⟨hcl _ _ h.ho, hmp _ _ h.ne.2.2.2.2.1.symm h.hg, hmp _ _ h.ne.2.2.2.2.2.1.symm h.hf, hmp _ _ h.ne.2.2.2.2.2.2.symm h.hk, ⟨em, hmp _ _ h.ne.1 hm, hm'⟩, ⟨es', hKit, hki', ?_, ?_⟩, ?_,
    ⟨fo, to.keep fun t hm2 ht2 => ?_, by rw [hp1]; exact qo.keep hon⟩, ⟨_, htokK, by rw [hp2]; exact Clo.append hab (hon _ _ ha) (hon _ _ hb) (hq.keep hon)⟩,
    ?_, h.ne, ⟨h.lo.1, h.lo.2.1, h.lo.2.2.1, by have := h.lo.2.2.2.1; omega, h.lo.2.2.2.2⟩, by simpa using h.cl, by simpa using h.rl⟩, ⟨by omega, fun r hr hn => ?_, fun r hm2 hr => ?_, rfl, rfl, rfl, rfl, rfl⟩⟩
  · rw [hfi]; simp [hx1]
  · rw [hfi]; simp 
  · rcases h.hc with ⟨hc0, -⟩ | ⟨i, hne, e, hi⟩
    · simp at hc0
    · refine .inr ⟨i, by simp, ?_, ?_⟩
      · rw [e]; simp
      · rw [hcl _ _ hi]; simp [Ins.un]
  · rw [hkk t (getH_lt (by simp [ht2])) (fun e => by subst e; rw [hit] at ht2; simp at ht2) (fun hm3 => ?_), ht2]
    exact (List.nodup_append.1 hnd).2.2 t hm2 t hm3 rfl
  · refine List.nodup_append.2 ⟨(List.nodup_append.1 hnd).1, by simp, fun z hz y hy => ?_⟩
    simp at hy
    have := (to.lt z hz).1
    omega
  · simp only [Lp.own, List.mem_cons, List.mem_append, not_or] at hn
    exact hkk r hr hn.2.1 hn.2.2.2
  · simp only [Lp.own, List.mem_cons, List.mem_append, tokOf_vs, List.not_mem_nil, or_false] at hm2 ⊢
    rcases hm2 with hm2 | hm2 | ((hm2 | hm2) | hm2)
    · exact .inl hm2
    · exact .inr (.inl hm2)
    · exact .inr (.inr (.inl (.inl hm2)))
    · exact .inr (.inr (.inl (.inr hm2)))
    · omega
end
end Go.Ab

namespace Go.Ab
open Go.Proofs

set_option maxRecDepth 100000
set_option maxHeartbeats 8000000
section
variable {n o : Nat} {P : Prg} {s : LS} {V : LV} {σ : Lp} {H : List AObj}
theorem posL_len (tr : Int) (c : List Ins) : (posL tr c).length ≤ c.length := by
  unfold posL
  exact Nat.le_trans (List.length_filter_le _ _) (by simp)
theorem trap1_c (h : Lo n o P s V σ H) (hr : s.r ≤ s.c.length) {a : Int} : SCalls Tryz.prog 141 [.ptr o 0, .int .i64 a, .int .i64 1] H (LP n o P V σ H (ltrap a 1 4096 s) fun _ v _ => v = .tuple []) := by
  obtain ⟨es, hit, hki, hx1, hx2⟩ := h.ht
  have ho := h.ho
  have hcl := h.cl
  obtain ⟨fs, ht, hq⟩ := h.h1
  refine fn_go k141 rfl ?_
  intro Q hQ
  have hff := findA_I hki 1
  simp [c141, ho, hit, hff, hx1, okD_proper ht.proper]
  refine (put_r (x := ⟨7, 0, 0, a, 0, 0, 0⟩) (y := ⟨7, 0, 0, a, 0, 0, 0⟩) h (by simp [Ins.un]) (fun tr htr => by simp [Ins.led]; omega)).mono ?_
  rintro r K (⟨hl, ca, cb, cv', rfl, hab, hca, hcb, h1, lk1, hmp, -⟩ | ⟨hl, rfl, pk⟩)
  · have hit1 := hmp _ _ hit
    have ho1 := h1.ho
    obtain ⟨fs1, ht1, hq1⟩ := h1.h1
    have hfs : fs1 = fs := by
      rcases ht1 with ⟨e1, e2⟩ | ⟨t, e1, e2, -⟩ <;> rcases ht with ⟨e3, e4⟩ | ⟨t', e3, e4, -⟩
      · rw [e1, e3]
      · simp only at e2; rw [e2] at e4; cases e4
      · simp only at e2; rw [e2] at e4; cases e4
      · simp only at e2; rw [e2] at e4; cases e4; rfl
    subst hfs
    have ht2 := ht1.gr ((Gr.refl K).add (o := .tip))
    have hll : fs1.length ≤ 4096 := by rw [hq.len]; exact Nat.le_trans (posL_len _ _) hcl
    have hnK : n ≤ lenH (addH K .tip) := by have := h1.lo.2.2.2.1; simp; omega
    obtain ⟨M, happ, ht3, fr3, hk3⟩ := ht2.app (lo := []) (df := []) (e := 1) (b := 8) (x := .func (.func 55) [] [.ptr ca 0, .ptr cb 0]) hnK hq1.wid (by simp only [roomA_eq]; omega)
    simp at happ ht3
    obtain ⟨es', hes, -⟩ := setA_I hki 1 (.vs (some (lenH K + 1)) (fs1 ++ [.func (.func 55) [] [.ptr ca 0, .ptr cb 0]]))
    have hM : getH M σ.it = some (.map es) := by
      rw [hk3 σ.it (by have := getH_lt (H := K) (i := σ.it) (by simp [hit1]); simp; omega) (fun hm => ?_), getH_add_old (by simp [hit1]), hit1]
      have := (ht1.lt _ hm).2
      rw [hit1] at this
      simp at this
    have hMo : getH M o = getH K o := by
      rw [hk3 o (by have := getH_lt (H := K) (i := o) (by simp [ho1]); simp; omega) (fun hm => ?_), getH_add_old (by simp [ho1])]
      have := (ht1.lt _ hm).2
      rw [ho1] at this
      simp at this
    obtain ⟨q1, q2⟩ := Lo.trap1 (M := M) (K := setH M σ.it (.map es')) (tok := lenH K + 1) h1 hab hca hcb hit1 ht1 hq1 ht3 (by omega) (by have := fr3.1; simp at this; omega) (fun r hr hn => by
      rw [hk3 r (by simp; omega) hn, getH_add_old (getH_isSome.2 hr)]) hes rfl
    simp [ho1, hit1, hff, hx1, happ, hes, hM, hMo, okD_proper ht.proper]
    exact hQ (.ret (.tuple [])) _ (by rw [ltrap, lput, if_pos hl]; exact ⟨_, _, rfl, rfl, q1, lk1.trans q2, by simp; omega⟩)
  · simp
    exact hQ _ _ (by rw [ltrap, lput, if_neg hl]; exact ⟨rfl, pk⟩)
theorem trap2_c (h : Lo n o P s V σ H) (hr : s.r ≤ s.c.length) {a : Int} : SCalls Tryz.prog 141 [.ptr o 0, .int .i64 a, .int .i64 2] H (LP n o P V σ H (ltrap a 2 4096 s) fun _ v _ => v = .tuple []) := by
  obtain ⟨es, hit, hki, hx1, hx2⟩ := h.ht
  have ho := h.ho
  have hcl := h.cl
  obtain ⟨fs, ht, hq⟩ := h.h2
  refine fn_go k141 rfl ?_
  intro Q hQ
  have hff := findA_I hki 2
  simp [c141, ho, hit, hff, hx2, okD_proper ht.proper]
  refine (put_r (x := ⟨7, 0, 0, a, 0, 0, 0⟩) (y := ⟨7, 0, 0, a, 0, 0, 0⟩) h (by simp [Ins.un]) (fun tr htr => by simp [Ins.led]; omega)).mono ?_
  rintro r K (⟨hl, ca, cb, cv', rfl, hab, hca, hcb, h1, lk1, hmp, -⟩ | ⟨hl, rfl, pk⟩)
  · have hit1 := hmp _ _ hit
    have ho1 := h1.ho
    obtain ⟨fs1, ht1, hq1⟩ := h1.h2
    have hfs : fs1 = fs := by
      rcases ht1 with ⟨e1, e2⟩ | ⟨t, e1, e2, -⟩ <;> rcases ht with ⟨e3, e4⟩ | ⟨t', e3, e4, -⟩
      · rw [e1, e3]
      · simp only at e2; rw [e2] at e4; cases e4
      · simp only at e2; rw [e2] at e4; cases e4
      · simp only at e2; rw [e2] at e4; cases e4; rfl
    subst hfs
    have ht2 := ht1.gr ((Gr.refl K).add (o := .tip))
    have hll : fs1.length ≤ 4096 := by rw [hq.len]; exact Nat.le_trans (posL_len _ _) hcl
    have hnK : n ≤ lenH (addH K .tip) := by have := h1.lo.2.2.2.1; simp; omega
    obtain ⟨M, happ, ht3, fr3, hk3⟩ := ht2.app (lo := []) (df := []) (e := 1) (b := 8) (x := .func (.func 55) [] [.ptr ca 0, .ptr cb 0]) hnK hq1.wid (by simp only [roomA_eq]; omega)
    simp at happ ht3
    obtain ⟨es', hes, -⟩ := setA_I hki 2 (.vs (some (lenH K + 1)) (fs1 ++ [.func (.func 55) [] [.ptr ca 0, .ptr cb 0]]))
    have hM : getH M σ.it = some (.map es) := by
      rw [hk3 σ.it (by have := getH_lt (H := K) (i := σ.it) (by simp [hit1]); simp; omega) (fun hm => ?_), getH_add_old (by simp [hit1]), hit1]
      have := (ht1.lt _ hm).2
      rw [hit1] at this
      simp at this
    have hMo : getH M o = getH K o := by
      rw [hk3 o (by have := getH_lt (H := K) (i := o) (by simp [ho1]); simp; omega) (fun hm => ?_), getH_add_old (by simp [ho1])]
      have := (ht1.lt _ hm).2
      rw [ho1] at this
      simp at this
    obtain ⟨q1, q2⟩ := Lo.trap2 (M := M) (K := setH M σ.it (.map es')) (tok := lenH K + 1) h1 hab hca hcb hit1 ht1 hq1 ht3 (by omega) (by have := fr3.1; simp at this; omega) (fun r hr hn => by
      rw [hk3 r (by simp; omega) hn, getH_add_old (getH_isSome.2 hr)]) hes rfl
    simp [ho1, hit1, hff, hx2, happ, hes, hM, hMo, okD_proper ht.proper]
    exact hQ (.ret (.tuple [])) _ (by rw [ltrap, lput, if_pos hl]; exact ⟨_, _, rfl, rfl, q1, lk1.trans q2, by simp; omega⟩)
  · simp
    exact hQ _ _ (by rw [ltrap, lput, if_neg hl]; exact ⟨rfl, pk⟩)
end
end Go.Ab

namespace Go.Ab
open Go.Proofs

set_option maxRecDepth 100000
set_option maxHeartbeats 8000000
def andU (a b : Int) : Int := IntKind.u64.wrap (BitVec.ofInt 64 a &&& BitVec.ofInt 64 b).toNat
def shrU (a : Int) (b : Nat) : Int := a.fdiv (2 ^ b)
def addU (a b : Int) : Int := IntKind.u64.wrap (a + b)
def onesF (x : Int) : Int :=
  let x := addU (andU (shrU x 1) 6148914691236517205) (andU x 6148914691236517205)
  let x := addU (andU (shrU x 2) 3689348814741910323) (andU x 3689348814741910323)
  let x := andU (addU (shrU x 4) x) 1085102592571150095
  let x := addU x (shrU x 8)
  let x := addU x (shrU x 16)
  let x := addU x (shrU x 32)
  IntKind.i64.wrap (BitVec.ofInt 64 (IntKind.i64.wrap x) &&& BitVec.ofInt 64 127).toNat
section
variable {n o : Nat} {P : Prg} {s : LS} {V : LV} {σ : Lp} {H : List AObj}
theorem ones_c {x : Int} : SCalls Tryz.prog 178 [.int .u64 x] H (fun r K => r = .ret (.int .i64 (onesF x)) ∧ K = H) := by
  refine fn_go k178 rfl ?_
  intro Q hQ
  simp [c178]
  exact hQ _ _ ⟨rfl, rfl⟩
theorem onesc_c {x : Int} : SCalls Tryz.prog 175 [.int .u64 x] H (fun r K => r = .ret (.int .i64 (onesF x)) ∧ K = H) := by
  refine fn_go k175 rfl ?_
  intro Q hQ
  simp [c175, c175_1]
  refine ones_c.mono ?_
  rintro r K ⟨rfl, rfl⟩
  simp
  exact hQ _ _ ⟨rfl, rfl⟩
theorem ones_pow : ∀ k : Fin 65, 1 ≤ k.val → (onesF k.val == 1) = pow2 k.val := by decide +kernel
theorem power_c {k : Int} (h1 : 1 ≤ k) (h2 : k ≤ 64) : SCalls Tryz.prog 165 [.int .i64 k] H (fun r K => r = .ret (.bool (pow2 k)) ∧ K = H) := by
  refine fn_go k165 rfl ?_
  intro Q hQ
  have hw : IntKind.u64.wrap k = k := by apply IntWalk.u64_in <;> omega
  simp [c165, hw]
  refine onesc_c.mono ?_
  rintro r K ⟨rfl, rfl⟩
  simp
  have hp := ones_pow ⟨k.toNat, by omega⟩ (by simp; omega)
  have hk : ((k.toNat : Nat) : Int) = k := by omega
  simp only [hk] at hp
  rw [hp]
  exact hQ _ _ ⟨rfl, rfl⟩
theorem below_c (h : Lo n o P s V σ H) (hr : s.r ≤ s.c.length) {t k : Int} : SCalls Tryz.prog 170 [.ptr o 0, .int .i64 t, .int .i64 k] H (LP n o P V σ H (lbelow t k 4096 s) fun x v K => v = .int .i64 x) := by
  refine fn_go k170 rfl ?_
  intro Q hQ
  simp [c170]
  refine (set_c h hr).mono ?_
  rintro r K hr2
  rcases hr2.cases with ⟨x, s', v, σ', hm, rfl, rfl, h', lk, hr'⟩ | ⟨hm, rfl, pk⟩
  · rw [lbelow, LM.bind_some hm] at hQ
    simp
    refine (calc_c h' hr').mono ?_
    rintro r K2 hr3
    rcases hr3.cases with ⟨x2, s2, v2, σ2, hm2, rfl, rfl, h2, lk2, hr2⟩ | ⟨hm2, rfl, pk2⟩
    · rw [hm2] at hQ
      simp
      exact hQ _ _ ⟨_, σ2, rfl, rfl, h2, lk.trans lk2, hr2⟩
    · rw [hm2] at hQ
      simp
      exact hQ _ _ ⟨rfl, lk.pre pk2⟩
  · rw [lbelow, LM.bind_none hm] at hQ
    simp
    exact hQ _ _ ⟨rfl, pk⟩
theorem look_c' (h : Lo n o P s V σ H) (hr : s.r ≤ s.c.length) {t k : Int} : SCalls Tryz.prog 166 [.ptr o 0, .int .i64 t, .int .i64 k] H (LP n o P V σ H (llook t k 4096 s) fun x v K => v = .tuple []) := by
  refine fn_go k166 rfl ?_
  intro Q hQ
  simp [c166]
  refine (below_c h hr).mono ?_
  rintro r K hr2
  rcases hr2.cases with ⟨x, s', v, σ', hm, rfl, rfl, h', lk, hr'⟩ | ⟨hm, rfl, pk⟩
  · rw [llook, LM.bind_some hm] at hQ
    simp
    refine (trap2_c h' hr').mono ?_
    rintro r K2 hr3
    rcases hr3.cases with ⟨x2, s2, v2, σ2, hm2, rfl, rfl, h2, lk2, hr2⟩ | ⟨hm2, rfl, pk2⟩
    · rw [hm2] at hQ
      simp
      exact hQ _ _ ⟨_, σ2, rfl, rfl, h2, lk.trans lk2, hr2⟩
    · rw [hm2] at hQ
      simp
      exact hQ _ _ ⟨rfl, lk.pre pk2⟩
  · rw [llook, LM.bind_none hm] at hQ
    simp
    exact hQ _ _ ⟨rfl, pk⟩
theorem masked_c (h : Lo n o P s V σ H) (hr : s.r ≤ s.c.length) {t k : Int} (hk : -2 ^ 59 ≤ k ∧ k ≤ 2 ^ 59) : SCalls Tryz.prog 167 [.ptr o 0, .int .i64 t, .int .i64 k] H (LP n o P V σ H (lmasked t k 4096 s) fun x v K => v = .int .i64 x) := by
  refine fn_go k167 rfl ?_
  intro Q hQ
  simp [c167, wrap_s (n := k - 1) (by omega)]
  refine (set_c h hr).mono ?_
  rintro r K hr2
  rcases hr2.cases with ⟨x, s', v, σ', hm, rfl, rfl, h', lk, hr'⟩ | ⟨hm, rfl, pk⟩
  · rw [lmasked, LM.bind_some hm] at hQ
    simp
    refine (calc_c h' hr').mono ?_
    rintro r K2 hr3
    rcases hr3.cases with ⟨x2, s2, v2, σ2, hm2, rfl, rfl, h2, lk2, hr2⟩ | ⟨hm2, rfl, pk2⟩
    · rw [hm2] at hQ
      simp
      exact hQ _ _ ⟨_, σ2, rfl, rfl, h2, lk.trans lk2, hr2⟩
    · rw [hm2] at hQ
      simp
      exact hQ _ _ ⟨rfl, lk.pre pk2⟩
  · rw [lmasked, LM.bind_none hm] at hQ
    simp
    exact hQ _ _ ⟨rfl, pk⟩
end
end Go.Ab

namespace Go.Ab
open Go.Proofs

set_option maxRecDepth 100000
set_option maxHeartbeats 8000000
theorem LP.c2 {α : Type} {n o : Nat} {P : Prg} {V : LV} {σ : Lp} {H K : List AObj} {res : Option (α × LS)} {val : α → AV → List AObj → Prop} {r : AEnd} (h : LP n o P V σ H res val r K) :
    (res = none ∧ r = .pan tooMany ∧ PKeep o σ H K) ∨ (∃ x s' v σ', res = some (x, s') ∧ r = .ret v ∧ val x v K ∧ Lo n o P s' V σ' K ∧ LKeep o σ H σ' K ∧ s'.r ≤ s'.c.length) := h.cases.symm
theorem fS_map {α : Type} {nm : α → List UInt8} {vl : α → AV} {s : List UInt8} : ∀ {l : List α} {i : Nat}, (l.map nm)[i]? = some s → (∀ j, j < i → (l.map nm)[j]? ≠ some s) → fS (l.map fun x => (.str (nm x), vl x)) s = (l[i]?).map vl
  | [], i, h, _ => by simp at h
  | x :: r, i, h, h' => by
    rcases i with _ | i
    · simp at h
      simp [fS, h]
    · have h0 := h' 0 (by omega)
      simp at h0 h
      have e : (s == nm x) = false := by simp [Ne.symm h0]
      have ih := fS_map (nm := nm) (vl := vl) (l := r) (i := i) (by simpa using h) (fun j hj => by have := h' (j + 1) (by omega); simpa using this)
      simp only [fS, List.map_cons, List.find?_cons, e] at ih ⊢
      simpa using ih
theorem Prg.fS_g {P : Prg} {s : List UInt8} (h : 0 ≤ P.gidx s) : fS P.gmap s = some (P.pl s).av := by
  rcases fidx_cases (P.globals.map Glob.name) s with ⟨i, h1, h2, h3⟩ | ⟨h1, -⟩
  · have hi : P.gidx s = i := h1
    have hlt := (List.getElem?_eq_some_iff.1 h2).1
    simp at hlt
    have hm : (List.range P.globals.length).map (fun i => ((P.globals[i]?).getD gz).name) = P.globals.map Glob.name := by
      apply List.ext_getElem?
      intro k
      simp
      by_cases hk : k < P.globals.length
      · simp [hk]
      · simp [List.getElem?_eq_none (Nat.le_of_not_lt hk), List.getElem?_eq_none (show (List.range P.globals.length).length ≤ k by simp; omega)]
    have := fS_map (nm := fun i => ((P.globals[i]?).getD gz).name) (vl := fun i => (P.plc i).av) (s := s) (l := List.range P.globals.length) (i := i) (by rw [hm]; exact h2) (by rw [hm]; exact h3)
    rw [Prg.gmap, this, List.getElem?_range hlt]
    simp [Prg.pl, hi]
  · have : P.gidx s = -1 := h1
    omega
theorem Prg.fS_k {P : Prg} {s : List UInt8} (h : 0 ≤ P.lidx s) : fS P.kmap s = some (.int .i64 (P.lidx s)) := by
  rcases fidx_cases (P.locks.map Lok.name) s with ⟨i, h1, h2, h3⟩ | ⟨h1, -⟩
  · have hi : P.lidx s = i := h1
    have hlt := (List.getElem?_eq_some_iff.1 h2).1
    simp at hlt
    have hm : (List.range P.locks.length).map (fun i => ((P.locks[i]?).getD ⟨0, []⟩).name) = P.locks.map Lok.name := by
      apply List.ext_getElem?
      intro k
      simp
      by_cases hk : k < P.locks.length
      · simp [hk]
      · simp [List.getElem?_eq_none (Nat.le_of_not_lt hk), List.getElem?_eq_none (show (List.range P.locks.length).length ≤ k by simp; omega)]
    have := fS_map (nm := fun i => ((P.locks[i]?).getD ⟨0, []⟩).name) (vl := fun (i : Nat) => .int .i64 i) (s := s) (l := List.range P.locks.length) (i := i) (by rw [hm]; exact h2) (by rw [hm]; exact h3)
    rw [Prg.kmap, this, List.getElem?_range hlt]
    simp [hi]
  · have : P.lidx s = -1 := h1
    omega
theorem Prg.fS_f {P : Prg} {s : List UInt8} (h : 0 ≤ P.fix s) : fS P.fmap s = some (P.fat s).av := by
  rcases fidx_cases (P.funcs.map Func.name) s with ⟨i, h1, h2, h3⟩ | ⟨h1, -⟩
  · have hi : P.fix s = i := h1
    have hlt := (List.getElem?_eq_some_iff.1 h2).1
    simp at hlt
    have := fS_map (nm := Func.name) (vl := Func.av) (s := s) (l := P.funcs) (i := i) h2 h3
    rw [Prg.fmap, this]
    simp [Prg.fat, hi, hlt]
  · have : P.fix s = -1 := h1
    omega
theorem KS_g (P : Prg) : KS P.gmap := fun p hp => by simp [Prg.gmap] at hp; obtain ⟨a, -, rfl⟩ := hp; exact ⟨_, rfl⟩
theorem KS_f (P : Prg) : KS P.fmap := fun p hp => by simp [Prg.fmap] at hp; obtain ⟨a, -, rfl⟩ := hp; exact ⟨_, rfl⟩
theorem KS_k (P : Prg) : KS P.kmap := fun p hp => by simp [Prg.kmap] at hp; obtain ⟨a, -, rfl⟩ := hp; exact ⟨_, rfl⟩
theorem Prg.pl_len {P : Prg} (hv : PV P) {s : List UInt8} (h : 0 ≤ P.gidx s) : 1 ≤ (P.pl s).len ∧ (P.pl s).len ≤ 64 := by
  rcases fidx_cases (P.globals.map Glob.name) s with ⟨i, h1, h2, h3⟩ | ⟨h1, -⟩
  · have hi : P.gidx s = i := h1
    have hlt := (List.getElem?_eq_some_iff.1 h2).1
    simp at hlt
    have hg : P.globals[i]? = some P.globals[i] := List.getElem?_eq_getElem hlt
    have := hv.g _ (List.getElem_mem hlt)
    simp [Prg.pl, Prg.plc, hi, hg, Glob.words]
    omega
  · have : P.gidx s = -1 := h1
    omega
theorem lreg_some {V : LV} {s : List UInt8} (h : s ∈ V.map Prod.fst) : ∃ r, lreg V s = some r := by
  unfold lreg
  obtain ⟨p, hp, rfl⟩ := List.mem_map.1 h
  cases hf : V.reverse.find? fun q => q.1 == p.1 with
  | none =>
    rw [List.find?_eq_none] at hf
    have := hf p (by simpa using hp)
    simp at this
  | some q => exact ⟨q.2, rfl⟩
def EC (n o : Nat) (P : Prg) (cl : List UInt8 → List Int → LM Int) (e : Ex) : Prop := ∀ {s : LS} {V : LV} {σ : Lp} {H : List AObj}, Lo n o P s V σ H → s.r ≤ s.c.length → e.sc P (V.map Prod.fst) →
  SCalls Tryz.prog 111 [.ptr o 0, e.av] H (LP n o P V σ H (lexpr P cl V e 4096 s) fun x v _ => v = .int .i64 x)
section
variable {n o : Nat} {P : Prg} {cl : List UInt8 → List Int → LM Int} {s : LS} {V : LV} {σ : Lp} {H : List AObj}
theorem elem_c (hv : PV P) {oo nn a : Int} {nm : List UInt8} {x : Ex} (h : Lo n o P s V σ H) (hr : s.r ≤ s.c.length) (hsc : (Ex.mk 3 oo nn nm [x] a).sc P (V.map Prod.fst)) (ih : EC n o P cl x) :
    SCalls Tryz.prog 138 [.ptr o 0, (Ex.mk 3 oo nn nm [x] a).av] H (LP n o P V σ H (lexpr P cl V (.mk 3 oo nn nm [x] a) 4096 s) fun x v _ => v = .int .i64 x) := by
  have hsc' := hsc
  simp [Ex.sc, Ex.scs] at hsc'
  obtain ⟨hx, hg, -⟩ := hsc'
  obtain ⟨hpl1, hpl2⟩ := P.pl_len hv hg
  have hfg := findA_S (KS_g P) nm
  rw [Prg.fS_g hg] at hfg
  have ihx := ih h hr hx
  have hspec : lexpr P cl V (.mk 3 oo nn nm [x] a) 4096 s = ((lexpr P cl V x).bind fun t => if pow2 (P.pl nm).len = true then (llook t (P.pl nm).len).bind fun _ => (lmasked t (P.pl nm).len).bind fun m => lload m (P.pl nm).base
      else (lmove t).bind fun u => (llook u (P.pl nm).len).bind fun _ => lload u (P.pl nm).base) 4096 s := by
    simp only [lexpr, lexprs, LM.bind, LM.ret]
    cases lexpr P cl V x 4096 s with
    | none => rfl
    | some p => obtain ⟨t, s'⟩ := p; simp [lfin, LM.bind]
  rw [hspec]
  obtain ⟨xk, xo, xn, xs, xks, xa⟩ := x
  refine fn_go k138 rfl ?_
  intro Q hQ
  simp [c138, Ex.av, Ex.avs, h.ho, h.hg, hfg, Plc.av, Plc.cells]
  refine ihx.mono ?_
  rintro r K hlp1
  rcases hlp1.c2 with ⟨hm1, rfl, pk⟩ | ⟨t, s1, v, σ1, hm1, rfl, rfl, h1, lk1, hr1⟩
  · rw [LM.bind_none hm1] at hQ
    simp
    exact hQ _ _ ⟨rfl, pk⟩
  rw [LM.bind_some hm1] at hQ
  simp
  refine (power_c hpl1 hpl2).mono ?_
  rintro r K2 ⟨rfl, rfl⟩
  by_cases hp : pow2 (P.pl nm).len = true
  · rw [if_pos hp] at hQ
    simp [hp]
    refine (look_c' h1 hr1).mono ?_
    rintro r K3 hlp2
    rcases hlp2.c2 with ⟨hm2, rfl, pk⟩ | ⟨u, s2, v, σ2, hm2, rfl, rfl, h2, lk2, hr2⟩
    · rw [LM.bind_none hm2] at hQ
      simp
      exact hQ _ _ ⟨rfl, lk1.pre pk⟩
    rw [LM.bind_some hm2] at hQ
    simp
    refine (masked_c h2 hr2 (by omega)).mono ?_
    rintro r K4 hlp3
    rcases hlp3.c2 with ⟨hm3, rfl, pk⟩ | ⟨m, s3, v, σ3, hm3, rfl, rfl, h3, lk3, hr3⟩
    · rw [LM.bind_none hm3] at hQ
      simp
      exact hQ _ _ ⟨rfl, (lk1.trans lk2).pre pk⟩
    rw [LM.bind_some hm3] at hQ
    simp
    refine (load_c h3 hr3).mono ?_
    rintro r K5 hlp4
    rcases hlp4.cases with ⟨d, s4, v, σ4, hm4, rfl, rfl, h4, lk4, hr4⟩ | ⟨hm4, rfl, pk⟩
    · rw [hm4] at hQ
      simp
      exact hQ _ _ ⟨_, σ4, rfl, rfl, h4, ((lk1.trans lk2).trans lk3).trans lk4, hr4⟩
    · rw [hm4] at hQ
      simp
      exact hQ _ _ ⟨rfl, ((lk1.trans lk2).trans lk3).pre pk⟩
  · rw [if_neg hp] at hQ
    simp [hp, c138_1]
    refine (move_c h1 hr1).mono ?_
    rintro r K3 hlp2
    rcases hlp2.c2 with ⟨hm2, rfl, pk⟩ | ⟨u, s2, v, σ2, hm2, rfl, rfl, h2, lk2, hr2⟩
    · rw [LM.bind_none hm2] at hQ
      simp
      exact hQ _ _ ⟨rfl, lk1.pre pk⟩
    rw [LM.bind_some hm2] at hQ
    simp
    refine (look_c' h2 hr2).mono ?_
    rintro r K4 hlp3
    rcases hlp3.c2 with ⟨hm3, rfl, pk⟩ | ⟨m, s3, v, σ3, hm3, rfl, rfl, h3, lk3, hr3⟩
    · rw [LM.bind_none hm3] at hQ
      simp
      exact hQ _ _ ⟨rfl, (lk1.trans lk2).pre pk⟩
    rw [LM.bind_some hm3] at hQ
    simp
    refine (load_c h3 hr3).mono ?_
    rintro r K5 hlp4
    rcases hlp4.cases with ⟨d, s4, v, σ4, hm4, rfl, rfl, h4, lk4, hr4⟩ | ⟨hm4, rfl, pk⟩
    · rw [hm4] at hQ
      simp
      exact hQ _ _ ⟨_, σ4, rfl, rfl, h4, ((lk1.trans lk2).trans lk3).trans lk4, hr4⟩
    · rw [hm4] at hQ
      simp
      exact hQ _ _ ⟨rfl, ((lk1.trans lk2).trans lk3).pre pk⟩
end
end Go.Ab

namespace Go.Ab
open Go.Proofs

set_option maxRecDepth 100000
set_option maxHeartbeats 8000000
def CC (n o : Nat) (P : Prg) (cl : List UInt8 → List Int → LM Int) (e : Ex) : Prop := ∀ {s : LS} {V : LV} {σ : Lp} {H : List AObj}, Lo n o P s V σ H → s.r ≤ s.c.length → e.sc P (V.map Prod.fst) →
  SCalls Tryz.prog 142 [.ptr o 0, e.av] H (LP n o P V σ H (lexpr P cl V e 4096 s) fun x v _ => v = .int .i64 x)
section
variable {n o : Nat} {P : Prg} {cl : List UInt8 → List Int → LM Int} {s : LS} {V : LV} {σ : Lp} {H : List AObj}
theorem lexpr_0 {k o nn : Int} {nm : List UInt8} {a : Int} (h : k = 0 ∨ k = 1) : lexpr P cl V (.mk k o nn nm [] a) 4096 s = lset nn 4096 s := by
  simp [lexpr, lexprs, LM.bind, LM.ret, lfin, h]
theorem lexpr_2s {o nn : Int} {nm : List UInt8} {a r : Int} (h : lreg V nm = some r) : lexpr P cl V (.mk 2 o nn nm [] a) 4096 s = some (r, s) := by
  simp [lexpr, lexprs, LM.bind, LM.ret, lfin, h]
theorem lexpr_2n {o nn : Int} {nm : List UInt8} {a : Int} (h : lreg V nm = none) : lexpr P cl V (.mk 2 o nn nm [] a) 4096 s = lload (-1) (P.pl nm).base 4096 s := by
  simp [lexpr, lexprs, LM.bind, LM.ret, lfin, h]
theorem lexpr_45 {k o nn : Int} {nm : List UInt8} {a : Int} {x : Ex} (h : k = 4 ∨ k = 5) : lexpr P cl V (.mk k o nn nm [x] a) 4096 s = ((lexpr P cl V x).bind fun a => (lset (k - 4)).bind fun z => lcalc 1 z a) 4096 s := by
  simp only [lexpr, lexprs, LM.bind, LM.ret]
  cases lexpr P cl V x 4096 s with
  | none => rfl
  | some p => obtain ⟨t, s'⟩ := p; rcases h with rfl | rfl <;> simp [lfin, LM.bind]
theorem lexpr_6 {o nn : Int} {nm : List UInt8} {a : Int} {x y : Ex} : lexpr P cl V (.mk 6 o nn nm [x, y] a) 4096 s = ((lexpr P cl V x).bind fun a => (lexpr P cl V y).bind fun b =>
    if o = 3 ∨ o = 4 then (ltrap b 1).bind fun _ => lcalc o a b else lcalc o a b) 4096 s := by
  simp only [lexpr, lexprs, LM.bind, LM.ret]
  cases lexpr P cl V x 4096 s with
  | none => rfl
  | some p =>
    obtain ⟨t, s'⟩ := p
    simp only
    cases lexpr P cl V y 4096 s' with
    | none => rfl
    | some p => obtain ⟨t, s'⟩ := p; simp [lfin, LM.bind]
theorem expr_step (hv : PV P) {e : Ex} (hok : e.ok) (hk : ∀ k oo nn nm ks a, e = .mk k oo nn nm ks a → (∀ x ∈ ks, EC n o P cl x) ∧ (k = 7 → CC n o P cl e)) : EC n o P cl e := by
  intro s V σ H h hr hsc
  obtain ⟨k, oo, nn, nm, ks, a⟩ := e
  obtain ⟨hkids, hcall⟩ := hk _ _ _ _ _ _ rfl
  have hcase := hok
  simp only [Ex.ok] at hcase
  obtain ⟨-, hcase⟩ := hcase
  have hsc' := hsc
  simp only [Ex.sc] at hsc'
  obtain ⟨hscs, hs2, hs3, hs6, hs7⟩ := hsc'
  have hcl := h.cl
  refine fn_go k111 rfl ?_
  intro Q hQ
  rcases hcase with ⟨h012, rfl⟩ | ⟨h345, hks⟩ | ⟨rfl, hks⟩ | rfl
  · rcases h012 with rfl | rfl | rfl
    · rw [lexpr_0 (.inl rfl)] at hQ
      simp [c111, Ex.av, c111_3, c111_4]
      refine (set_c h hr).mono ?_
      rintro r K hlp
      rcases hlp.cases with ⟨x, s1, v, σ1, hm, rfl, rfl, h1, lk, hr1⟩ | ⟨hm, rfl, pk⟩
      · rw [hm] at hQ; simp; exact hQ _ _ ⟨_, σ1, rfl, rfl, h1, lk, hr1⟩
      · rw [hm] at hQ; simp; exact hQ _ _ ⟨rfl, pk⟩
    · rw [lexpr_0 (.inr rfl)] at hQ
      simp [c111, Ex.av, c111_3, c111_4]
      refine (set_c h hr).mono ?_
      rintro r K hlp
      rcases hlp.cases with ⟨x, s1, v, σ1, hm, rfl, rfl, h1, lk, hr1⟩ | ⟨hm, rfl, pk⟩
      · rw [hm] at hQ; simp; exact hQ _ _ ⟨_, σ1, rfl, rfl, h1, lk, hr1⟩
      · rw [hm] at hQ; simp; exact hQ _ _ ⟨rfl, pk⟩
    · obtain ⟨em, hm, hks, hvr⟩ := h.hm
      have hf := findA_S hks nm
      rw [hvr nm] at hf
      cases hl : lreg V nm with
      | some r0 =>
        rw [hl] at hf
        rw [lexpr_2s hl] at hQ
        simp [c111, Ex.av, h.ho, hm, hf]
        exact hQ _ _ ⟨_, σ, rfl, rfl, h, .refl _ _ _, hr⟩
      | none =>
        rw [hl] at hf
        rw [lexpr_2n hl] at hQ
        have hg : 0 ≤ P.gidx nm := by
          rcases hs2 rfl with hs | hs
          · obtain ⟨r0, h0⟩ := lreg_some hs
            rw [hl] at h0; cases h0
          · exact hs.1
        have hfg := findA_S (KS_g P) nm
        rw [Prg.fS_g hg] at hfg
        simp [c111, Ex.av, h.ho, hm, hf, c111_1, h.hg, hfg, Plc.av, Plc.cells]
        refine (load_c h hr).mono ?_
        rintro r K hlp
        rcases hlp.cases with ⟨x, s1, v, σ1, hm, rfl, rfl, h1, lk, hr1⟩ | ⟨hm, rfl, pk⟩
        · rw [hm] at hQ; simp; exact hQ _ _ ⟨_, σ1, rfl, rfl, h1, lk, hr1⟩
        · rw [hm] at hQ; simp; exact hQ _ _ ⟨rfl, pk⟩
  · obtain ⟨x, rfl⟩ := List.length_eq_one_iff.1 hks
    have hkx : EC n o P cl x := hkids x (by simp)
    rcases h345 with rfl | h45
    · simp [c111, Ex.av]
      refine (elem_c hv h hr hsc hkx).mono ?_
      rintro r K hlp
      rcases hlp.cases with ⟨x, s1, v, σ1, hm, rfl, rfl, h1, lk, hr1⟩ | ⟨hm, rfl, pk⟩
      · rw [hm] at hQ; simp; exact hQ _ _ ⟨_, σ1, rfl, rfl, h1, lk, hr1⟩
      · rw [hm] at hQ; simp; exact hQ _ _ ⟨rfl, pk⟩
    · rw [lexpr_45 h45] at hQ
      have hx := hkx h hr (by simpa [Ex.scs] using hscs)
      obtain ⟨xk, xo, xn, xs, xks, xa⟩ := x
      rcases h45 with rfl | rfl
      all_goals
        simp [c111, Ex.av, Ex.avs, c111_3]
        refine hx.mono ?_
        rintro r K hlp
        rcases hlp.c2 with ⟨hm, rfl, pk⟩ | ⟨x, s1, v, σ1, hm, rfl, rfl, h1, lk, hr1⟩
        · rw [LM.bind_none hm] at hQ; simp; exact hQ _ _ ⟨rfl, pk⟩
        rw [LM.bind_some hm] at hQ
        simp [show IntKind.i64.wrap 0 = 0 from rfl, show IntKind.i64.wrap 1 = 1 from rfl]
        refine (set_c h1 hr1).mono ?_
        rintro r K2 hlp2
        rcases hlp2.c2 with ⟨hm2, rfl, pk2⟩ | ⟨x2, s2, v2, σ2, hm2, rfl, rfl, h2, lk2, hr2⟩
        · simp at hQ; rw [LM.bind_none hm2] at hQ; simp; exact hQ _ _ ⟨rfl, lk.pre pk2⟩
        simp at hQ
        rw [LM.bind_some hm2] at hQ
        simp
        refine (calc_c h2 hr2).mono ?_
        rintro r K3 hlp3
        rcases hlp3.c2 with ⟨hm3, rfl, pk3⟩ | ⟨x3, s3, v3, σ3, hm3, rfl, rfl, h3, lk3, hr3⟩
        · rw [hm3] at hQ; simp; exact hQ _ _ ⟨rfl, (lk.trans lk2).pre pk3⟩
        · rw [hm3] at hQ; simp; exact hQ _ _ ⟨_, σ3, rfl, rfl, h3, (lk.trans lk2).trans lk3, hr3⟩
  · obtain ⟨x, y, rfl⟩ : ∃ x y, ks = [x, y] := by
      rcases ks with _ | ⟨x, _ | ⟨y, _ | _⟩⟩ <;> simp at hks
      exact ⟨x, y, rfl⟩
    have hkx : EC n o P cl x := hkids x (by simp)
    have hky : EC n o P cl y := hkids y (by simp)
    simp only [Ex.scs] at hscs
    rw [lexpr_6] at hQ
    have hx := hkx h hr hscs.1
    have hy : ∀ {s1 σ1 K}, Lo n o P s1 V σ1 K → s1.r ≤ s1.c.length → SCalls Tryz.prog 111 [.ptr o 0, y.av] K (LP n o P V σ1 K (lexpr P cl V y 4096 s1) fun x v _ => v = .int .i64 x) := fun {s1 σ1 K} h1 hr1 => hky h1 hr1 hscs.2.1
    have c2 : ∀ {s1 : LS} {σ1 : Lp} {K : List AObj} {τ : Env} {xa xb : Int} {ya : Ex} , Lo n o P s1 V σ1 K → LKeep o σ H σ1 K → s1.r ≤ s1.c.length → look τ 0 = some (.ptr o 0) → look τ 3 = some (.lref 3 0) → look τ 8 = some (.int .i64 xa) → look τ 9 = some (.int .i64 xb) →
        (∀ r K', LP n o P V σ H (lcalc oo xa xb 4096 s1) (fun x v _ => v = .int .i64 x) r K' → Q r K') → go (SCalls Tryz.prog) c111_2 [] τ ⟨[(3, (Ex.mk 6 oo nn nm [x, y] a).av.cells)], K, []⟩ (aendR [.tmp 4] Q) := by
      intro s1 σ1 K τ xa xb ya h1 lk1 hr1 t0 t3 t8 t9 hQ'
      simp [c111_2, t0, t3, t8, t9, Ex.av]
      refine (calc_c h1 hr1).mono ?_
      rintro r K3 hlp3
      rcases hlp3.c2 with ⟨hm3, rfl, pk3⟩ | ⟨x3, s3, v3, σ3, hm3, rfl, rfl, h3, lk3, hr3⟩
      · rw [hm3] at hQ'; simp; exact hQ' _ _ ⟨rfl, lk1.pre pk3⟩
      · rw [hm3] at hQ'; simp; exact hQ' _ _ ⟨_, σ3, rfl, rfl, h3, lk1.trans lk3, hr3⟩
    obtain ⟨xk, xo, xn, xs, xks, xa⟩ := x
    obtain ⟨yk, yo, yn, ys, yks, ya⟩ := y
    simp [c111, Ex.av, Ex.avs, c111_3]
    refine hx.mono ?_
    rintro r K hlp
    rcases hlp.c2 with ⟨hm, rfl, pk⟩ | ⟨x, s1, v, σ1, hm, rfl, rfl, h1, lk, hr1⟩
    · rw [LM.bind_none hm] at hQ; simp; exact hQ _ _ ⟨rfl, pk⟩
    rw [LM.bind_some hm] at hQ
    simp
    refine (hy h1 hr1).mono ?_
    rintro r K2 hlp2
    rcases hlp2.c2 with ⟨hm2, rfl, pk2⟩ | ⟨x2, s2, v2, σ2, hm2, rfl, rfl, h2, lk2, hr2⟩
    · rw [LM.bind_none hm2] at hQ; simp; exact hQ _ _ ⟨rfl, lk.pre pk2⟩
    rw [LM.bind_some hm2] at hQ
    by_cases h34 : oo = 3 ∨ oo = 4
    · rw [if_pos h34] at hQ
      have hgo : SCalls Tryz.prog 141 [.ptr o 0, .int .i64 x2, .int .i64 1] K2 (LP n o P V σ2 K2 (ltrap x2 1 4096 s2) fun _ v _ => v = .tuple []) := trap1_c h2 hr2
      rcases h34 with rfl | rfl
      all_goals
        simp
        refine hgo.mono ?_
        rintro r K3 hlp3
        rcases hlp3.c2 with ⟨hm3, rfl, pk3⟩ | ⟨x3, s3, v3, σ3, hm3, rfl, rfl, h3, lk3, hr3⟩
        · rw [LM.bind_none hm3] at hQ; simp; exact hQ _ _ ⟨rfl, (lk.trans lk2).pre pk3⟩
        rw [LM.bind_some hm3] at hQ
        simp
        exact c2 (ya := .mk 0 0 0 [] [] 0) h3 ((lk.trans lk2).trans lk3) hr3 rfl rfl rfl rfl hQ
    · rw [if_neg h34] at hQ
      have h3 : ¬ oo = 3 := fun e => h34 (.inl e)
      have h4 : ¬ oo = 4 := fun e => h34 (.inr e)
      simp [h3, h4]
      exact c2 (ya := .mk 0 0 0 [] [] 0) h2 (lk.trans lk2) hr2 rfl rfl rfl rfl hQ
  · simp [c111, Ex.av, c111_3]
    refine (hcall rfl h hr hsc).mono ?_
    rintro r K hlp
    rcases hlp.cases with ⟨x, s1, v, σ1, hm, rfl, rfl, h1, lk, hr1⟩ | ⟨hm, rfl, pk⟩
    · rw [hm] at hQ; simp; exact hQ _ _ ⟨_, σ1, rfl, rfl, h1, lk, hr1⟩
    · rw [hm] at hQ; simp; exact hQ _ _ ⟨rfl, pk⟩
end
end Go.Ab

namespace Go.Ab
open Go.Proofs

def cren : Shelf.Ren := ⟨fun f => match f with | 5 => 53 | 7 => 91 | _ => f, fun t => match t with | 23 => 85 | 25 => 9 | _ => t, fun g => g⟩
theorem cloneLay : SlLaysW.n5 Tryz.prog cren where
  mixed := by kernel_rfl
  f5 := ⟨ "maps.Clone[map[string]int,string,int]", by kernel_rfl, by kernel_rfl⟩
  f7 := by kernel_rfl
  t4 := by kernel_rfl
  a4 := fun w => run_agg (by kernel_rfl) w
  z4 := fun w => run_size (by kernel_rfl) w
  v4 := fun w => run_zero (by kernel_rfl) w
  t20 := by kernel_rfl
  a20 := fun w => run_agg (by kernel_rfl) w
  z20 := fun w => run_size (by kernel_rfl) w
  v20 := fun w => run_zero (by kernel_rfl) w
  t23 := by kernel_rfl
  a23 := fun w => run_agg (by kernel_rfl) w
  z23 := fun w => run_size (by kernel_rfl) w
  v23 := fun w => run_zero (by kernel_rfl) w
theorem clone_c {H : List AObj} {m : Nat} {es : Es} (hm : getH H m = some (.map es)) : SCalls Tryz.prog 53 [.map m] H (fun r K => r = .ret (.map (lenH H)) ∧ K = addH H (.map es)) := by
  refine ⟨by kernel_rfl, fun g w xs hW hr => ?_⟩
  obtain ⟨x, r, rfl, hx, hr⟩ := hr
  simp only [rels] at hr
  subst hr
  simp only [rel] at hx
  obtain ⟨l, hl, rfl⟩ := hx
  have ho := hW.obj m (.map es) l hm hl
  obtain ⟨hi, c, k, hb, hmr⟩ := ho
  refine (AnyW.maps_Clone cloneLay l.b c k w hb).mono ?_
  rintro e w' ⟨rfl, rfl⟩
  have W1 := hW.push (.map c k)
  have fr := hW.fresh (.map c k)
  have le := le_addObj g ⟨w.heap.size, 0, 0⟩
  have W2 := W1.adopt (o := .map es) (l := ⟨w.heap.size, 0, 0⟩) (by simp) ⟨fr.imm, c, k, by simp, mrel_le le hmr⟩ (fun j o' l' _ _ h3 => fr.obj l' (List.mem_of_getElem? h3))
  have st : Step w.heap.size g w.heap { g with obj := g.obj ++ [⟨w.heap.size, 0, 0⟩] } (w.heap.push (.map c k)) := by
    refine Step.of le (by simp) (fun l hl' => ?_) (fun b hb => .inl hb) (fun b hb _ => push_old hb)
    rcases List.mem_append.1 hl' with h1 | h1
    · exact .inl h1
    · simp at h1; subst h1; exact .inr (.inl (Nat.le_refl _))
  refine ⟨.ret (.map (lenH H)), addH H (.map es), _, ⟨rfl, rfl⟩, W2, st.w rfl rfl, ?_⟩
  simp only [erel, rel]
  refine ⟨⟨w.heap.size, 0, 0⟩, ?_, rfl⟩
  show (g.obj ++ [_])[H.length]? = _
  rw [← hW.len]; simp
end Go.Ab

namespace Go.Ab
open Go.Proofs

set_option maxRecDepth 100000
set_option maxHeartbeats 8000000
theorem LM.bind_assoc {α β γ : Type} (m : LM α) (f : α → LM β) (g : β → LM γ) : (m.bind f).bind g = m.bind fun x => (f x).bind g := by
  funext L s
  simp only [LM.bind]
  cases m L s with
  | none => rfl
  | some p => rfl
theorem LM.ret_bind {α β : Type} (x : α) (f : α → LM β) : (LM.ret x).bind f = f x := rfl
theorem tz {x : Ins} (h : x.to = 0) (tr : Int) (ht : 0 < tr) : x.led tr = false := by simp [Ins.led, h]; intro _; omega
theorem tz' {x : Ins} (h : 0 ≤ x.to) (tr : Int) (ht : 0 < tr) : x.led tr = false := by simp [Ins.led]; intro _; omega
theorem un0 {x : Ins} (h : 0 ≤ x.to) : x.un = x := by simp [Ins.un]; omega
section
variable {n o : Nat} {P : Prg} {cl : List UInt8 → List Int → LM Int} {s : LS} {V : LV} {σ : Lp} {H : List AObj}
theorem array_c (hv : PV P) {k a : Int} {t u : Bool} {nm : List UInt8} {y x : Ex} {b l : List St} (h : Lo n o P s V σ H) (hr : s.r ≤ s.c.length) (hg : 0 ≤ P.gidx nm) (hy : y.sc P (V.map Prod.fst)) (hx : x.sc P (V.map Prod.fst))
    (ihy : EC n o P cl y) (ihx : EC n o P cl x) :
    SCalls Tryz.prog 144 [.ptr o 0, (St.mk k a t u nm [y] [x] b l).av] H (LP n o P V σ H (larray P cl V nm y x 4096 s) fun _ v _ => v = .tuple []) := by
  obtain ⟨hpl1, hpl2⟩ := P.pl_len hv hg
  have hfg := findA_S (KS_g P) nm
  rw [Prg.fS_g hg] at hfg
  have iy : SCalls Tryz.prog 111 [.ptr o 0, y.av] H (LP n o P V σ H (lexpr P cl V y 4096 s) fun x v _ => v = .int .i64 x) := ihy h hr hy
  have ix : ∀ {s1 σ1 K}, Lo n o P s1 V σ1 K → s1.r ≤ s1.c.length → SCalls Tryz.prog 111 [.ptr o 0, x.av] K (LP n o P V σ1 K (lexpr P cl V x 4096 s1) fun x v _ => v = .int .i64 x) := fun {s1 σ1 K} h1 hr1 => ihx h1 hr1 hx
  obtain ⟨yk, yo, yn, ys, yks, ya⟩ := y
  obtain ⟨xk, xo, xn, xs, xks, xa⟩ := x
  refine fn_go k144 rfl ?_
  intro Q hQ
  unfold larray at hQ
  simp [c144, St.av, Ex.av, Ex.avs, h.ho, h.hg, hfg, Plc.av, Plc.cells]
  refine (iy).mono ?_
  rintro r K1 hlp1
  rcases hlp1.c2 with ⟨hm1, rfl, pk1⟩ | ⟨x1, s1, v1, σ1, hm1, rfl, rfl, h1, lk1, hr1⟩
  · rw [LM.bind_none hm1] at hQ; simp; exact hQ _ _ ⟨rfl, pk1⟩
  rw [LM.bind_some hm1] at hQ
  simp
  refine (look_c' h1 hr1).mono ?_
  rintro r K2 hlp2
  rcases hlp2.c2 with ⟨hm2, rfl, pk2⟩ | ⟨x2, s2, v2, σ2, hm2, rfl, rfl, h2, lk2, hr2⟩
  · rw [LM.bind_none hm2] at hQ; simp; exact hQ _ _ ⟨rfl, (lk1).pre pk2⟩
  rw [LM.bind_some hm2] at hQ
  simp
  refine (ix h2 hr2).mono ?_
  rintro r K3 hlp3
  rcases hlp3.c2 with ⟨hm3, rfl, pk3⟩ | ⟨x3, s3, v3, σ3, hm3, rfl, rfl, h3, lk3, hr3⟩
  · rw [LM.bind_none hm3] at hQ; simp; exact hQ _ _ ⟨rfl, ((lk1).trans lk2).pre pk3⟩
  rw [LM.bind_some hm3] at hQ
  simp
  refine (power_c hpl1 hpl2).mono ?_
  rintro r K4 ⟨rfl, rfl⟩
  by_cases hp : pow2 (P.pl nm).len = true
  · rw [if_pos hp] at hQ
    simp [hp]
    refine (masked_c h3 hr3 (by omega)).mono ?_
    rintro r K4 hlp4
    rcases hlp4.c2 with ⟨hm4, rfl, pk4⟩ | ⟨x4, s4, v4, σ4, hm4, rfl, rfl, h4, lk4, hr4⟩
    · rw [LM.bind_none hm4] at hQ; simp; exact hQ _ _ ⟨rfl, (((lk1).trans lk2).trans lk3).pre pk4⟩
    rw [LM.bind_some hm4] at hQ
    simp [c144_1]
    refine (put_c (x := ⟨5, 0, 0, x4, x3, (P.pl nm).base, 0⟩) (y := ⟨5, 0, 0, x4, x3, (P.pl nm).base, 0⟩) h4 (un0 (by simp)) (tz rfl)).mono ?_
    rintro r K5 hlp5
    rcases hlp5.c2 with ⟨hm5, rfl, pk5⟩ | ⟨x5, s5, v5, σ5, hm5, rfl, ⟨ca5, cb5, rfl, hca5, hcb5⟩, h5, lk5, hr5⟩
    · rw [hm5] at hQ; simp; exact hQ _ _ ⟨rfl, ((((lk1).trans lk2).trans lk3).trans lk4).pre pk5⟩
    · rw [hm5] at hQ; simp; exact hQ _ _ ⟨_, σ5, rfl, rfl, h5, ((((lk1).trans lk2).trans lk3).trans lk4).trans lk5, hr5⟩
  · rw [if_neg hp] at hQ
    simp only [LM.bind_assoc, LM.ret_bind] at hQ
    simp [hp]
    refine (move_c h3 hr3).mono ?_
    rintro r K4 hlp4
    rcases hlp4.c2 with ⟨hm4, rfl, pk4⟩ | ⟨x4, s4, v4, σ4, hm4, rfl, rfl, h4, lk4, hr4⟩
    · rw [LM.bind_none hm4] at hQ; simp; exact hQ _ _ ⟨rfl, (((lk1).trans lk2).trans lk3).pre pk4⟩
    rw [LM.bind_some hm4] at hQ
    simp
    refine (below_c h4 hr4).mono ?_
    rintro r K5 hlp5
    rcases hlp5.c2 with ⟨hm5, rfl, pk5⟩ | ⟨x5, s5, v5, σ5, hm5, rfl, rfl, h5, lk5, hr5⟩
    · rw [LM.bind_none hm5] at hQ; simp; exact hQ _ _ ⟨rfl, ((((lk1).trans lk2).trans lk3).trans lk4).pre pk5⟩
    rw [LM.bind_some hm5] at hQ
    simp
    refine (set_c h5 hr5).mono ?_
    rintro r K6 hlp6
    rcases hlp6.c2 with ⟨hm6, rfl, pk6⟩ | ⟨x6, s6, v6, σ6, hm6, rfl, rfl, h6, lk6, hr6⟩
    · rw [LM.bind_none hm6] at hQ; simp; exact hQ _ _ ⟨rfl, (((((lk1).trans lk2).trans lk3).trans lk4).trans lk5).pre pk6⟩
    rw [LM.bind_some hm6] at hQ
    simp
    refine (put_c (x := ⟨3, 0, x6, x5, x4, 0, 0⟩) (y := ⟨3, 0, x6, x5, x4, 0, 0⟩) h6 (un0 (by simp)) (tz rfl)).mono ?_
    rintro r K7 hlp7
    rcases hlp7.c2 with ⟨hm7, rfl, pk7⟩ | ⟨x7, s7, v7, σ7, hm7, rfl, ⟨ca7, cb7, rfl, hca7, hcb7⟩, h7, lk7, hr7⟩
    · rw [LM.bind_none hm7] at hQ; simp; exact hQ _ _ ⟨rfl, ((((((lk1).trans lk2).trans lk3).trans lk4).trans lk5).trans lk6).pre pk7⟩
    rw [LM.bind_some hm7] at hQ
    simp [c144_1]
    refine (put_c (x := ⟨5, 0, 0, x6, x3, (P.pl nm).base, 0⟩) (y := ⟨5, 0, 0, x6, x3, (P.pl nm).base, 0⟩) h7 (un0 (by simp)) (tz rfl)).mono ?_
    rintro r K8 hlp8
    rcases hlp8.c2 with ⟨hm8, rfl, pk8⟩ | ⟨x8, s8, v8, σ8, hm8, rfl, ⟨ca8, cb8, rfl, hca8, hcb8⟩, h8, lk8, hr8⟩
    · rw [hm8] at hQ; simp; exact hQ _ _ ⟨rfl, (((((((lk1).trans lk2).trans lk3).trans lk4).trans lk5).trans lk6).trans lk7).pre pk8⟩
    · rw [hm8] at hQ; simp; exact hQ _ _ ⟨_, σ8, rfl, rfl, h8, (((((((lk1).trans lk2).trans lk3).trans lk4).trans lk5).trans lk6).trans lk7).trans lk8, hr8⟩
theorem assignl_c (hv : PV P) {k a : Int} {t u : Bool} {nm : List UInt8} {i e : List Ex} {b l : List St} (h : Lo n o P s V σ H) (hr : s.r ≤ s.c.length) (he : ∃ x, e = [x]) (hi : i = [] ∨ ∃ y, i = [y])
    (hig : i ≠ [] → 0 ≤ P.gidx nm) (hin : i = [] → nm ∈ V.map Prod.fst ∨ 0 ≤ P.gidx nm) (hsi : ∀ y ∈ i, y.sc P (V.map Prod.fst)) (hse : ∀ x ∈ e, x.sc P (V.map Prod.fst)) (ihi : ∀ y ∈ i, EC n o P cl y) (ihe : ∀ x ∈ e, EC n o P cl x) :
    SCalls Tryz.prog 113 [.ptr o 0, (St.mk k a t u nm i e b l).av] H (LP n o P V σ H (lassign P cl V nm i e 4096 s) fun _ v _ => v = .tuple []) := by
  obtain ⟨x, rfl⟩ := he
  refine fn_go k113 rfl ?_
  intro Q hQ
  rcases hi with rfl | ⟨y, rfl⟩
  · have ix : SCalls Tryz.prog 111 [.ptr o 0, x.av] H (LP n o P V σ H (lexpr P cl V x 4096 s) fun x v _ => v = .int .i64 x) := ihe x (by simp) h hr (hse x (by simp))
    obtain ⟨xk, xo, xn, xs, xks, xa⟩ := x
    simp only [lassign] at hQ
    simp [c113, St.av, Ex.av, Ex.avs, c113_1]
    refine (ix).mono ?_
    rintro r K1 hlp1
    rcases hlp1.c2 with ⟨hm1, rfl, pk1⟩ | ⟨x1, s1, v1, σ1, hm1, rfl, rfl, h1, lk1, hr1⟩
    · rw [LM.bind_none hm1] at hQ; simp; exact hQ _ _ ⟨rfl, pk1⟩
    rw [LM.bind_some hm1] at hQ
    simp
    obtain ⟨em, hem, hks, hvr⟩ := h1.hm
    have hf := findA_S hks nm
    rw [hvr nm] at hf
    cases hl : lreg V nm with
    | some r0 =>
      rw [hl] at hf
      simp only [hl] at hQ
      simp [h1.ho, hem, hf]
      refine (put_c (x := ⟨1, 0, r0, x1, 0, 0, 0⟩) (y := ⟨1, 0, r0, x1, 0, 0, 0⟩) h1 (un0 (by simp)) (tz rfl)).mono ?_
      rintro r K2 hlp2
      rcases hlp2.c2 with ⟨hm2, rfl, pk2⟩ | ⟨x2, s2, v2, σ2, hm2, rfl, ⟨ca2, cb2, rfl, hca2, hcb2⟩, h2, lk2, hr2⟩
      · rw [hm2] at hQ; simp; exact hQ _ _ ⟨rfl, (lk1).pre pk2⟩
      · rw [hm2] at hQ; simp; exact hQ _ _ ⟨_, σ2, rfl, rfl, h2, (lk1).trans lk2, hr2⟩
    | none =>
      rw [hl] at hf
      simp only [hl] at hQ
      have hg : 0 ≤ P.gidx nm := by
        rcases hin rfl with hs | hs
        · obtain ⟨r0, h0⟩ := lreg_some hs
          rw [hl] at h0; cases h0
        · exact hs
      have hfg := findA_S (KS_g P) nm
      rw [Prg.fS_g hg] at hfg
      simp [h1.ho, hem, hf, h1.hg, hfg, Plc.av, Plc.cells]
      refine (put_c (x := ⟨5, 0, 0, -1, x1, (P.pl nm).base, 0⟩) (y := ⟨5, 0, 0, -1, x1, (P.pl nm).base, 0⟩) h1 (un0 (by simp)) (tz rfl)).mono ?_
      rintro r K2 hlp2
      rcases hlp2.c2 with ⟨hm2, rfl, pk2⟩ | ⟨x2, s2, v2, σ2, hm2, rfl, ⟨ca2, cb2, rfl, hca2, hcb2⟩, h2, lk2, hr2⟩
      · rw [hm2] at hQ; simp; exact hQ _ _ ⟨rfl, (lk1).pre pk2⟩
      · rw [hm2] at hQ; simp; exact hQ _ _ ⟨_, σ2, rfl, rfl, h2, (lk1).trans lk2, hr2⟩
  · simp only [lassign] at hQ
    simp [c113, St.av, Ex.avs]
    refine (array_c (k := k) (a := a) (t := t) (u := u) (b := b) (l := l) hv h hr (hig (by simp)) (hsi y (by simp)) (hse x (by simp)) (ihi y (by simp)) (ihe x (by simp))).mono ?_
    rintro r K hlp
    rcases hlp.c2 with ⟨hm, rfl, pk⟩ | ⟨x1, s1, v1, σ1, hm, rfl, rfl, h1, lk1, hr1⟩
    · rw [hm] at hQ; simp; exact hQ _ _ ⟨rfl, pk⟩
    · rw [hm] at hQ; simp; exact hQ _ _ ⟨_, σ1, rfl, rfl, h1, lk1, hr1⟩
end
end Go.Ab

/- Plain laws of the lowering: what was put stays. -/
namespace Go.Ab
open Go.Proofs

/-- What was put stays. -/
def Pre {α : Type} (m : LM α) : Prop := ∀ L s x s', m L s = some (x, s') → s.c <+: s'.c
theorem Pre.ret {α : Type} (x : α) : Pre (LM.ret x) := fun L s y s' h => by
  simp only [LM.ret, Option.some.injEq, Prod.mk.injEq] at h
  rw [h.2]
  exact List.prefix_refl _
theorem Pre.bind {α β : Type} {m : LM α} {f : α → LM β} (h : Pre m) (hf : ∀ x, Pre (f x)) : Pre (m.bind f) := fun L s y s' e => by
  simp only [LM.bind] at e
  split at e
  · rename_i x s1 h1
    exact (h L s x s1 h1).trans (hf x L s1 y s' e)
  · cases e
theorem Pre.fail {α : Type} : Pre (lfail : LM α) := fun L s x s' h => by cases h
theorem Pre.put (x : Ins) : Pre (lput x) := fun L s y s' h => by
  simp only [lput] at h
  split at h
  · cases h; exact List.prefix_append _ _
  · cases h
theorem Pre.fresh : Pre lfresh := fun L s y s' h => by cases h; exact List.prefix_refl _
theorem Pre.here : Pre lhere := fun L s y s' h => by cases h; exact List.prefix_refl _
theorem Pre.into (f : Int → Ins) : Pre (linto f) := Pre.fresh.bind fun _ => (Pre.put _).bind fun _ => .ret _
theorem Pre.set (n : Int) : Pre (lset n) := .into _
theorem Pre.move (n : Int) : Pre (lmove n) := .into _
theorem Pre.calc (a b c : Int) : Pre (lcalc a b c) := .into _
theorem Pre.load (a b : Int) : Pre (lload a b) := .into _
theorem Pre.trap (a b : Int) : Pre (ltrap a b) := .put _
theorem Pre.below (a b : Int) : Pre (lbelow a b) := (Pre.set _).bind fun _ => .calc _ _ _
theorem Pre.look (a b : Int) : Pre (llook a b) := (Pre.below _ _).bind fun _ => .trap _ _
theorem Pre.masked (a b : Int) : Pre (lmasked a b) := (Pre.set _).bind fun _ => .calc _ _ _
section
variable {P : Prg} {cl : List UInt8 → List Int → LM Int}
theorem Pre.fin (hc : ∀ s rs, Pre (cl s rs)) (V : LV) (k o n : Int) (s : List UInt8) (rs : List Int) : Pre (lfin P cl V k o n s rs) := by
  unfold lfin
  split
  · exact .set _
  split
  · split
    · exact .ret _
    · exact .load _ _
  split
  · split
    · split
      · exact (Pre.look _ _).bind fun _ => (Pre.masked _ _).bind fun _ => .load _ _
      · exact (Pre.move _).bind fun _ => (Pre.look _ _).bind fun _ => .load _ _
    · exact .fail
  split
  · split
    · exact (Pre.set _).bind fun _ => .calc _ _ _
    · exact .fail
  split
  · split
    · split
      · exact (Pre.trap _ _).bind fun _ => .calc _ _ _
      · exact .calc _ _ _
    · exact .fail
  · exact hc _ _
mutual
theorem Pre.expr (hc : ∀ s rs, Pre (cl s rs)) (V : LV) : ∀ e : Ex, Pre (lexpr P cl V e)
  | .mk k o n s ks a => (Pre.exprs hc V ks).bind fun rs => .fin hc V k o n s rs
theorem Pre.exprs (hc : ∀ s rs, Pre (cl s rs)) (V : LV) : ∀ l : List Ex, Pre (lexprs P cl V l)
  | [] => .ret []
  | e :: r => (Pre.expr hc V e).bind fun _ => (Pre.exprs hc V r).bind fun _ => .ret _
end
theorem Pre.array (hc : ∀ s rs, Pre (cl s rs)) (V : LV) (s : List UInt8) (y x : Ex) : Pre (larray P cl V s y x) := by
  unfold larray
  refine (Pre.expr hc V y).bind fun _ => (Pre.look _ _).bind fun _ => (Pre.expr hc V x).bind fun _ => Pre.bind ?_ fun _ => .put _
  split
  · exact .masked _ _
  · exact (Pre.move _).bind fun _ => (Pre.below _ _).bind fun _ => (Pre.set _).bind fun _ => (Pre.put _).bind fun _ => .ret _
theorem Pre.assign (hc : ∀ s rs, Pre (cl s rs)) (V : LV) (s : List UInt8) (i e : List Ex) : Pre (lassign P cl V s i e) := by
  unfold lassign
  split
  · split
    · exact .array hc V s _ _
    · refine (Pre.expr hc V _).bind fun r => ?_
      split
      · exact .put _
      · exact .put _
  · exact .fail
theorem prefix_modify {c c' : List Ins} {z : Nat} {f : Ins → Ins} (h : c <+: c') (hz : c.length ≤ z) : c <+: c'.modify z f := by
  obtain ⟨r, rfl⟩ := h
  refine ⟨r.modify (z - c.length) f, ?_⟩
  apply List.ext_getElem?
  intro k
  rw [List.getElem?_modify]
  by_cases hk : k < c.length
  · rw [List.getElem?_append_left hk, List.getElem?_append_left hk]
    have : ¬ z = k := by omega
    simp [this]
  · rw [List.getElem?_append_right (by omega), List.getElem?_append_right (by omega), List.getElem?_modify]
    by_cases e : z = k
    · subst e; simp
    · have : ¬ z - c.length = k - c.length := by omega
      simp [e, this]
mutual
theorem Pre.stmt (hc : ∀ s rs, Pre (cl s rs)) : ∀ (x : St) (V : LV), Pre (lstmt P cl x V)
  | .mk k a t u s i e b l, V => by
    have hb := Pre.stmts hc b V
    have hl := Pre.stmts hc l V
    simp only [lstmt]
    split
    · split
      · exact (Pre.expr hc V _).bind fun _ => (Pre.move _).bind fun _ => .ret _
      · exact .fail
    split
    · exact (Pre.assign hc V s i e).bind fun _ => .ret _
    split
    · split
      · refine (Pre.expr hc V _).bind fun r => ?_
        intro L s0 x s' h
        simp only [LM.bind, lhere] at h
        split at h <;> try cases h
        rename_i u1 s1 h1
        have p1 := Pre.put _ L s0 u1 s1 h1
        split at h <;> try cases h
        rename_i u2 s2 h2
        have p2 := hb L s1 u2 s2 h2
        split at h
        · simp [LM.bind, lto, LM.ret] at h
          obtain ⟨-, rfl⟩ := h
          exact prefix_modify (p1.trans p2) (Nat.le_refl _)
        · simp only [LM.bind, lhere] at h
          split at h <;> try cases h
          rename_i u3 s3 h3
          have p3 := Pre.put _ L s2 u3 s3 h3
          simp only [lto] at h
          split at h <;> try cases h
          rename_i u4 s4 h4
          have p4 := hl L _ u4 s4 h4
          simp only at p4
          have p5 : s0.c <+: s4.c := (prefix_modify ((p1.trans p2).trans p3) (Nat.le_refl _)).trans p4
          have hlen : s0.c.length ≤ s2.c.length := (p1.trans p2).length_le
          exact prefix_modify p5 hlen
      · exact .fail
    split
    · split
      · intro L s0 x s' h
        simp only [LM.bind, lhere] at h
        split at h <;> try cases h
        rename_i u0 s0' h0
        have p0 := Pre.expr hc V _ L s0 u0 s0' h0
        split at h <;> try cases h
        rename_i u1 s1 h1
        have p1 := Pre.put _ L s0' u1 s1 h1
        split at h <;> try cases h
        rename_i u2 s2 h2
        have p2 := hb L s1 u2 s2 h2
        split at h <;> try cases h
        rename_i u3 s3 h3
        have p3 := Pre.put _ L s2 u3 s3 h3
        exact prefix_modify (((p0.trans p1).trans p2).trans p3) p0.length_le
      · exact .fail
    split
    · exact (Pre.put _).bind fun _ => hb.bind fun _ => (Pre.put _).bind fun _ => .ret _
    split
    · exact (Pre.expr hc V _).bind fun _ => (Pre.put _).bind fun _ => .ret _
    · exact .fail
theorem Pre.stmts (hc : ∀ s rs, Pre (cl s rs)) : ∀ (l : List St) (V : LV), Pre (lstmts P cl l V)
  | [], V => .ret V
  | s :: r, V => (Pre.stmt hc s V).bind fun V' => Pre.stmts hc r V'
end
theorem Pre.moves : ∀ l : List Int, Pre (lmoves l)
  | [] => .ret []
  | a :: r => (Pre.move a).bind fun _ => (Pre.moves r).bind fun _ => .ret _
theorem Pre.call : ∀ (f : Nat) (s : List UInt8) (rs : List Int), Pre (lcall P f s rs)
  | 0, s, rs => .fail
  | f + 1, s, rs => (Pre.moves rs).bind fun _ => (Pre.stmts (Pre.call f) _ _).bind fun _ => Pre.expr (Pre.call f) _ _
end
end Go.Ab

namespace Go.Ab
open Go.Proofs

set_option maxRecDepth 100000
set_option maxHeartbeats 8000000
def Ins.goto (n : Nat) (x : Ins) : Ins := { x with to := n }
theorem flat_modify {n : Nat} : ∀ {c : List Ins} {k : Nat}, k < c.length → (c.flatMap Ins.cells).take (k * 7 + 6) ++ .int .i64 n :: (c.flatMap Ins.cells).drop (k * 7 + 6 + 1) = (c.modify k (Ins.goto n)).flatMap Ins.cells
  | [], k, h => by simp at h
  | x :: r, 0, h => by simp [Ins.cells, Ins.goto]
  | x :: r, k + 1, h => by
    have ih := flat_modify (n := n) (c := r) (k := k) (by simpa using h)
    have hl : x.cells.length = 7 := rfl
    rw [List.flatMap_cons, List.modify_succ_cons, List.flatMap_cons, ← ih]
    rw [show (k + 1) * 7 + 6 = x.cells.length + (k * 7 + 6) by rw [hl]; omega, List.take_length_add_append]
    rw [show x.cells.length + (k * 7 + 6) + 1 = x.cells.length + (k * 7 + 6 + 1) by omega, List.drop_length_add_append]
    simp
theorem map_modify_un {c : List Ins} {k n : Nat} : (c.modify k (Ins.goto n)).map Ins.un = (c.map Ins.un).modify k (Ins.goto n) := by
  apply List.ext_getElem?
  intro j
  simp only [List.getElem?_map, List.getElem?_modify]
  by_cases e : k = j
  · subst e
    cases c[k]? with
    | none => simp
    | some x =>
      have hn : ¬ (n : Int) < 0 := by omega
      by_cases hx : x.to < 0 <;> simp [Ins.un, Ins.goto, hx, hn]
  · cases c[j]? <;> simp [e]
structure LKS (o : Nat) (σ : Lp) (H : List AObj) (σ' : Lp) (K : List AObj) : Prop where
  len : lenH H ≤ lenH K
  keep : ∀ r, r < lenH H → r ∉ σ.m :: σ.own o → getH K r = getH H r
  sub : ∀ r, r ∈ σ'.m :: σ'.own o → r < lenH H → r ∈ σ.m :: σ.own o
  eqs : σ'.ig = σ.ig ∧ σ'.ifn = σ.ifn ∧ σ'.ik = σ.ik ∧ σ'.it = σ.it
structure PKS (o : Nat) (σ : Lp) (H K : List AObj) : Prop where
  len : lenH H ≤ lenH K
  keep : ∀ r, r < lenH H → r ∉ σ.m :: σ.own o → getH K r = getH H r
  ho : ∃ x0 x1 x2 x3 x4 x5 x6, getH K o = some (.cells [x0, x1, x2, x3, x4, x5, x6])
theorem LKS.refl (o : Nat) (σ : Lp) (H : List AObj) : LKS o σ H σ H := ⟨Nat.le_refl _, fun _ _ _ => rfl, fun _ h _ => h, rfl, rfl, rfl, rfl⟩
theorem LKS.trans {o : Nat} {σ σ' σ'' : Lp} {H K M : List AObj} (a : LKS o σ H σ' K) (b : LKS o σ' K σ'' M) : LKS o σ H σ'' M where
  len := Nat.le_trans a.len b.len
  keep := fun r hr hn => by rw [b.keep r (by have := a.len; omega) (fun h => hn (a.sub r h hr)), a.keep r hr hn]
  sub := fun r h hr => a.sub r (b.sub r h (by have := a.len; omega)) hr
  eqs := ⟨b.eqs.1.trans a.eqs.1, b.eqs.2.1.trans a.eqs.2.1, b.eqs.2.2.1.trans a.eqs.2.2.1, b.eqs.2.2.2.trans a.eqs.2.2.2⟩
theorem LKS.pre {o : Nat} {σ σ' : Lp} {H K M : List AObj} (a : LKS o σ H σ' K) (b : PKS o σ' K M) : PKS o σ H M where
  len := Nat.le_trans a.len b.len
  keep := fun r hr hn => by rw [b.keep r (by have := a.len; omega) (fun h => hn (a.sub r h hr)), a.keep r hr hn]
  ho := b.ho
theorem LKeep.s {o : Nat} {σ σ' : Lp} {H K : List AObj} (a : LKeep o σ H σ' K) : LKS o σ H σ' K where
  len := a.len
  keep := fun r hr hn => a.keep r hr (fun h => hn (by simp [h]))
  sub := fun r h hr => by
    rcases List.mem_cons.1 h with rfl | h
    · rw [a.eqs.2.2.2.2]; simp
    · exact List.mem_cons_of_mem _ (a.sub r h hr)
  eqs := ⟨a.eqs.1, a.eqs.2.1, a.eqs.2.2.1, a.eqs.2.2.2.1⟩
theorem PKeep.s {o : Nat} {σ : Lp} {H K : List AObj} (a : PKeep o σ H K) : PKS o σ H K :=
  ⟨a.len, fun r hr hn => a.keep r hr (fun h => hn (by simp [h])), a.ho⟩
/-- What a row of statements comes to. -/
def SP (n o : Nat) (P : Prg) (σ : Lp) (H : List AObj) (res : Option (LV × LS)) : AEnd → List AObj → Prop := fun r K =>
  match res with
  | some (V', s') => r = .ret (.tuple []) ∧ ∃ σ', Lo n o P s' V' σ' K ∧ LKS o σ H σ' K ∧ s'.r ≤ s'.c.length
  | none => r = .pan tooMany ∧ PKS o σ H K
theorem SP.c2 {n o : Nat} {P : Prg} {σ : Lp} {H K : List AObj} {res : Option (LV × LS)} {r : AEnd} (h : SP n o P σ H res r K) :
    (res = none ∧ r = .pan tooMany ∧ PKS o σ H K) ∨ (∃ V' s' σ', res = some (V', s') ∧ r = .ret (.tuple []) ∧ Lo n o P s' V' σ' K ∧ LKS o σ H σ' K ∧ s'.r ≤ s'.c.length) := by
  cases res with
  | none => exact .inl ⟨rfl, h⟩
  | some p =>
    obtain ⟨V', s'⟩ := p
    obtain ⟨h1, σ', h2⟩ := h
    exact .inr ⟨V', s', σ', rfl, h1, h2⟩
def SC (n o : Nat) (P : Prg) (cl : List UInt8 → List Int → LM Int) (F : Int) (l : List St) : Prop := ∀ {s : LS} {V : LV} {σ : Lp} {H : List AObj}, Lo n o P s V σ H → s.r ≤ s.c.length → St.scs P F (V.map Prod.fst) l →
  SCalls Tryz.prog 54 [.ptr o 0, sl (St.avs l)] H (SP n o P σ H (lstmts P cl l V 4096 s))
def S1 (n o : Nat) (P : Prg) (cl : List UInt8 → List Int → LM Int) (F : Int) (x : St) : Prop := ∀ {s : LS} {V : LV} {σ : Lp} {H : List AObj}, Lo n o P s V σ H → s.r ≤ s.c.length → x.sc P F (V.map Prod.fst) →
  SCalls Tryz.prog 92 [.ptr o 0, x.av] H (SP n o P σ H (lstmt P cl x V 4096 s))
section
variable {n o : Nat} {P : Prg} {cl : List UInt8 → List Int → LM Int} {s : LS} {V : LV} {σ : Lp} {H : List AObj} {F : Int}
theorem here_c (h : Lo n o P s V σ H) : SCalls Tryz.prog 29 [.ptr o 0] H (fun r K => r = .ret (.int .i64 s.c.length) ∧ K = H) := by
  refine fn_go k29 rfl ?_
  intro Q hQ
  rcases h.hc with ⟨hc0, hcv⟩ | ⟨i, hne, hcv, hci⟩
  · have hs0 : s.c = [] := by simpa using hc0
    simp [c29, h.ho, hcv]
    have := hQ _ _ ⟨rfl, rfl⟩
    simpa [hs0] using this
  · simp [c29, h.ho, hcv]
    have := hQ _ _ ⟨rfl, rfl⟩
    simpa using this
/-- Where an instruction goes to is told. -/
theorem to_c (h : Lo n o P s V σ H) {a b k m : Nat} (ha : getH H a = some (.cells [.ptr o 0])) (hb : getH H b = some (.cells [.int .i64 k])) (hk : k < s.c.length) (hl : ∀ x, s.c[k]? = some x → ∀ tr, 0 < tr → x.led tr = false) :
    SCalls Tryz.prog 55 [.int .i64 m, .ptr a 0, .ptr b 0] H (fun r K => r = .ret (.tuple []) ∧ Lo n o P ⟨s.c.modify k (Ins.goto m), s.r⟩ V σ K ∧ LKeep o σ H σ K) := by
  rcases h.hc with ⟨hc0, hcv⟩ | ⟨i, hne, hcv, hci⟩
  · have hs0 : s.c = [] := by simpa using hc0
    rw [hs0] at hk; simp at hk
  have hil := getH_lt (H := H) (i := i) (by simp [hci])
  have hfl := Ins.flat_len (s.c.map Ins.un)
  have hfm := flat_modify (n := m) (c := s.c.map Ins.un) (k := k) (by simpa using hk)
  rw [← map_modify_un] at hfm
  have hoi : o ≠ i := fun e => by
    subst e
    rw [h.ho] at hci
    cases hcc : s.c.map Ins.un with
    | nil => exact hne hcc
    | cons z zs => rw [hcc] at hci; simp [Ins.cells] at hci
  refine fn_go k55 rfl ?_
  intro Q hQ
  rw [List.length_map] at hfl hcv
  have hci' := hci
  generalize (s.c.map Ins.un).flatMap Ins.cells = L at hci hfl hfm
  simp [c55, ha, hb, h.ho, hcv, hk, hci, show k * 7 + 6 + 1 ≤ L.length by omega]
  generalize hK : setH H i _ = K
  have hKi : getH K i = some (.cells (((s.c.modify k (Ins.goto m)).map Ins.un).flatMap Ins.cells)) := by
    rw [← hK, getH_set_self (by simp [hci]), ← hfm]
  have hKk : ∀ r, r ≠ i → getH K r = getH H r := fun r hne => by rw [← hK, getH_set_ne (Ne.symm hne)]
  have hKl : lenH K = lenH H := by rw [← hK]; simp
  have hmp : ∀ r es, getH H r = some (.map es) → getH K r = some (.map es) := fun r es hr => by
    rw [hKk r (fun e => by subst e; rw [hci] at hr; simp at hr), hr]
  have hon : ∀ r x, getH H r = some (.cells [x]) → getH K r = some (.cells [x]) := fun r x hr => by
    rw [hKk r (fun e => ?_), hr]
    subst e
    rw [hci] at hr
    simp at hr
    rw [hr] at hfl
    simp at hfl
    omega
  have htp : ∀ t, getH H t = some .tip → getH K t = some .tip := fun r hr => by
    rw [hKk r (fun e => by subst e; rw [hci] at hr; simp at hr), hr]
  obtain ⟨es, ht, ht'⟩ := h.ht
  obtain ⟨em, hm, hm'⟩ := h.hm
  obtain ⟨fs1, t1, q1⟩ := h.h1
  obtain ⟨fs2, t2, q2⟩ := h.h2
  have hin : i ∈ σ.own o := by simp [Lp.own, hcv, hid]
  have p1 : posL 1 (s.c.modify k (Ins.goto m)) = posL 1 s.c := posL_modify (by omega) fun x hx => hl x hx 1 (by omega)
  have p2 : posL 2 (s.c.modify k (Ins.goto m)) = posL 2 s.c := posL_modify (by omega) fun x hx => hl x hx 2 (by omega)
  refine hQ _ _ ⟨rfl, ⟨by rw [hKk o hoi, h.ho], hmp _ _ h.hg, hmp _ _ h.hf, hmp _ _ h.hk, ⟨em, hmp _ _ hm, hm'⟩, ⟨es, hmp _ _ ht, ht'⟩, .inr ⟨i, ?_, ?_, hKi⟩,
    ⟨fs1, t1.keep fun t _ => htp t, by rw [p1]; exact q1.keep hon⟩, ⟨fs2, t2.keep fun t _ => htp t, by rw [p2]; exact q2.keep hon⟩, h.nd, h.ne, ⟨h.lo.1, h.lo.2.1, h.lo.2.2.1, by rw [hKl]; exact h.lo.2.2.2.1, h.lo.2.2.2.2⟩,
    by simpa using h.cl, by simpa using h.rl⟩, by omega, fun r hr hn => hKk r (fun e => hn (e ▸ hin)), fun r hr _ => hr, rfl, rfl, rfl, rfl, rfl⟩
  · intro e
    have := congrArg List.length e
    simp at this
    rw [this] at hk
    simp at hk
  · rw [hcv]; simp
end
end Go.Ab

namespace Go.Ab
open Go.Proofs

set_option maxRecDepth 100000
set_option maxHeartbeats 8000000
section
variable {n o : Nat} {P : Prg} {cl : List UInt8 → List Int → LM Int} {s : LS} {V V1 : LV} {σ : Lp} {H K : List AObj} {F : Int}
theorem Lo.gr (h : Lo n o P s V σ H) (g : Gr H K) : Lo n o P s V σ K := by
  have hk : ∀ r x, getH H r = some x → getH K r = some x := fun r x hr => by rw [g.old r (by simp [hr]), hr]
  obtain ⟨es, ht, ht'⟩ := h.ht
  obtain ⟨em, hm, hm'⟩ := h.hm
  obtain ⟨fs1, t1, q1⟩ := h.h1
  obtain ⟨fs2, t2, q2⟩ := h.h2
  refine ⟨hk _ _ h.ho, hk _ _ h.hg, hk _ _ h.hf, hk _ _ h.hk, ⟨em, hk _ _ hm, hm'⟩, ⟨es, hk _ _ ht, ht'⟩, ?_, ⟨fs1, t1.gr g, q1.keep fun r x => hk r _⟩, ⟨fs2, t2.gr g, q2.keep fun r x => hk r _⟩,
    h.nd, h.ne, ⟨h.lo.1, h.lo.2.1, h.lo.2.2.1, by have := h.lo.2.2.2.1; have := g.len; omega, h.lo.2.2.2.2⟩, h.cl, h.rl⟩
  rcases h.hc with hc | ⟨i, hne, e, hi⟩
  · exact .inl hc
  · exact .inr ⟨i, hne, e, hk _ _ hi⟩
theorem LKeep.gr {σ : Lp} (g : Gr H K) (h : Lo n o P s V σ H) : LKeep o σ H σ K := ⟨g.len, fun r hr _ => g.old r (getH_isSome.2 hr), fun r hr _ => hr, rfl, rfl, rfl, rfl, rfl⟩
/-- Other locals are laid. -/
theorem Lo.setm (h : Lo n o P s V1 σ H) {m' : Nat} {em : Es} (hm : getH H m' = some (.map em)) (hvr : VR em V) (hne : m' ≠ σ.it ∧ m' ≠ σ.ig ∧ m' ≠ σ.ifn ∧ m' ≠ σ.ik) (hn : n ≤ m') {K : List AObj}
    (hK : setH H o (.cells [.map σ.ig, .map σ.ifn, .map σ.ik, σ.cv, .int .i64 s.r, .map m', .map σ.it]) = K) : Lo n o P s V { σ with m := m' } K ∧ lenH K = lenH H ∧ (∀ r, r ≠ o → getH K r = getH H r) := by
  have hko : getH K o = some (.cells [.map σ.ig, .map σ.ifn, .map σ.ik, σ.cv, .int .i64 s.r, .map m', .map σ.it]) := by rw [← hK]; exact getH_set_self (by simp [h.ho])
  have hk : ∀ r, r ≠ o → getH K r = getH H r := fun r hne => by rw [← hK, getH_set_ne (Ne.symm hne)]
  have hkl : lenH K = lenH H := by rw [← hK]; simp
  have hmp : ∀ r es, getH H r = some (.map es) → getH K r = some (.map es) := fun r es hr => by
    rw [hk r (fun e => by subst e; rw [h.ho] at hr; simp at hr), hr]
  have hon : ∀ r x, getH H r = some (.cells [x]) → getH K r = some (.cells [x]) := fun r x hr => by
    rw [hk r (fun e => by subst e; rw [h.ho] at hr; simp at hr), hr]
  have htp : ∀ t, getH H t = some .tip → getH K t = some .tip := fun r hr => by
    rw [hk r (fun e => by subst e; rw [h.ho] at hr; simp at hr), hr]
  obtain ⟨es, ht, ht'⟩ := h.ht
  obtain ⟨fs1, t1, q1⟩ := h.h1
  obtain ⟨fs2, t2, q2⟩ := h.h2
  have hcv : CV σ.cv (s.c.map Ins.un) K := by
    rcases h.hc with hc | ⟨i, hne, e, hi⟩
    · exact .inl hc
    · refine .inr ⟨i, hne, e, ?_⟩
      rw [hk i (fun e => ?_), hi]
      subst e
      rw [h.ho] at hi
      cases hcc : s.c.map Ins.un with
      | nil => exact hne hcc
      | cons z zs => rw [hcc] at hi; simp [Ins.cells] at hi
  exact ⟨⟨hko, hmp _ _ h.hg, hmp _ _ h.hf, hmp _ _ h.hk, ⟨em, hmp _ _ hm, hvr⟩, ⟨es, hmp _ _ ht, ht'⟩, hcv, ⟨fs1, t1.keep fun t _ => htp t, q1.keep hon⟩, ⟨fs2, t2.keep fun t _ => htp t, q2.keep hon⟩,
    h.nd, ⟨hne.1, hne.2.1, hne.2.2.1, hne.2.2.2, h.ne.2.2.2.2⟩, ⟨h.lo.1, hn, h.lo.2.2.1, by rw [hkl]; exact h.lo.2.2.2.1, h.lo.2.2.2.2⟩, h.cl, h.rl⟩, hkl, hk⟩
theorem Lo.old (h : Lo n o P s V σ H) : σ.it < lenH H ∧ σ.ig < lenH H ∧ σ.ifn < lenH H ∧ σ.ik < lenH H ∧ o < lenH H ∧ σ.m < lenH H := by
  obtain ⟨es, ht, -⟩ := h.ht
  obtain ⟨em, hm, -⟩ := h.hm
  exact ⟨getH_lt (by simp [ht]), getH_lt (by simp [h.hg]), getH_lt (by simp [h.hf]), getH_lt (by simp [h.hk]), getH_lt (by simp [h.ho]), getH_lt (by simp [hm])⟩
theorem blockl_c {b : List St} (ih : SC n o P cl F b) (h : Lo n o P s V σ H) (hr : s.r ≤ s.c.length) (hsc : St.scs P F (V.map Prod.fst) b) :
    SCalls Tryz.prog 27 [.ptr o 0, sl (St.avs b)] H (SP n o P σ H (((lstmts P cl b V).bind fun _ => LM.ret V) 4096 s)) := by
  obtain ⟨em, hm, hvr⟩ := h.hm
  obtain ⟨o1, o2, o3, o4, o5, o6⟩ := h.old
  refine fn_go k27 rfl ?_
  intro Q hQ
  simp [c27, h.ho]
  refine (clone_c hm).mono ?_
  rintro r K ⟨rfl, rfl⟩
  have g : Gr H (addH H (.map em)) := (Gr.refl H).add
  have h1 := h.gr g
  simp
  refine (ih h1 hr hsc).mono ?_
  rintro r K2 hsp
  rcases hsp.c2 with ⟨hm1, rfl, pk⟩ | ⟨V1, s1, σ1, hm1, rfl, h2, lk, hr2⟩
  · rw [LM.bind_none hm1] at hQ
    simp
    exact hQ _ _ ⟨rfl, (LKeep.gr g h).s.pre pk⟩
  · rw [LM.bind_some hm1] at hQ
    have hnew : lenH H ∉ σ.m :: σ.own o := fun hm2 => by
      rcases List.mem_cons.1 hm2 with e | hm2
      · omega
      · have := (h.own_ge hm2).2; omega
    have hm2 : getH K2 (lenH H) = some (.map em) := by rw [lk.keep (lenH H) (by simp) hnew]; simp
    obtain ⟨e1, e2, e3, e4⟩ := lk.eqs
    simp [h2.ho]
    generalize hK : setH K2 o _ = K3
    obtain ⟨q1, q2, q3⟩ := h2.setm (V := V) (m' := lenH H) hm2 hvr ⟨by omega, by omega, by omega, by omega⟩ h.lo.2.2.2.1 hK
    have lk' := (LKeep.gr g h).s.trans lk
    refine hQ _ _ ⟨rfl, _, q1, ⟨by have := lk'.len; omega, fun r hr hn => ?_, fun r hm3 hr => ?_, lk'.eqs⟩, hr2⟩
    · rw [q3 r (fun e => hn (by simp [Lp.own, e])), lk'.keep r hr hn]
    · rcases List.mem_cons.1 hm3 with e | hm3
      · simp only at e; omega
      · exact lk'.sub r (List.mem_cons_of_mem _ hm3) hr
def I54 (n o : Nat) (P : Prg) (cl : List UInt8 → List Int → LM Int) (F : Int) (l : List St) (s : LS) (V : LV) (σ : Lp) (H : List AObj) (m : Nat) (τ : Env) (S : AS) : Prop :=
  ∃ (j : Nat) (s' : LS) (V' : LV) (σ' : Lp) (M : List AObj), m + j = l.length ∧ lstmts P cl l V 4096 s = lstmts P cl (l.drop j) V' 4096 s' ∧ Lo n o P s' V' σ' M ∧ LKS o σ H σ' M ∧ s'.r ≤ s'.c.length ∧ St.scs P F (V'.map Prod.fst) (l.drop j) ∧
    τ = [(0, .ptr o 0), (6, sl (St.avs l)), (7, .int .i64 l.length), (8, .int .i64 j)] ∧ S = ⟨[], M, []⟩
theorem lstmt_names {P : Prg} {cl : List UInt8 → List Int → LM Int} {L : Nat} : ∀ (x : St) (V : LV) (s s' : LS) (V' : LV), lstmt P cl x V L s = some (V', s') → V'.map Prod.fst = V.map Prod.fst ++ x.adds := by
  rintro ⟨k, a, t, u, nm, i, e, b, l⟩ V s s' V' h
  have rb : ∀ {α : Type} {m : LM α} {f : α → LM LV}, (∀ x s s' V', f x L s = some (V', s') → V' = V) → ∀ s s' V', m.bind f L s = some (V', s') → V' = V := by
    intro α m f hf s s' V' h
    simp only [LM.bind] at h
    split at h
    · exact hf _ _ _ _ h
    · cases h
  have rr : ∀ s s' V', (LM.ret V : LM LV) L s = some (V', s') → V' = V := fun s s' V' h => by
    simp [LM.ret] at h; exact h.1.symm
  simp only [lstmt] at h
  simp only [St.adds]
  split at h
  · rename_i hk
    rw [if_pos hk]
    split at h
    · simp only [LM.bind] at h
      split at h
      · split at h
        · simp [LM.ret] at h
          rw [← h.1]; simp
        · cases h
      · cases h
    · cases h
  · rename_i hk
    rw [if_neg hk]
    have : V' = V := by
      split at h
      · exact rb (fun _ => rr) _ _ _ h
      split at h
      · split at h
        · refine rb (fun _ => rb fun _ => rb fun _ => rb fun _ => ?_) _ _ _ h
          intro s s' V' h
          split at h
          · exact rb (fun _ => rb fun _ => rr) _ _ _ h
          · exact rb (fun _ => rb fun _ => rb fun _ => rb fun _ => rb fun _ => rb fun _ => rb fun _ => rr) _ _ _ h
        · cases h
      split at h
      · split at h
        · exact rb (fun _ => rb fun _ => rb fun _ => rb fun _ => rb fun _ => rb fun _ => rb fun _ => rb fun _ => rr) _ _ _ h
        · cases h
      split at h
      · exact rb (fun _ => rb fun _ => rb fun _ => rr) _ _ _ h
      split at h
      · exact rb (fun _ => rb fun _ => rr) _ _ _ h
      · cases h
    rw [this]; simp
theorem stmtsl_c {l : List St} (hbig : l.length ≤ 2 ^ 40) (ih : ∀ x ∈ l, S1 n o P cl F x) : SC n o P cl F l := by
  intro s V σ H h hr hsc
  refine fn_go k54 rfl ?_
  intro Q hQ
  have e : (St.avs l).length = l.length := by simp [St.avs_eq]
  simp [c54, e]
  refine loop_keep (n := l.length) (I54 n o P cl F l s V σ H) ?_ ⟨0, s, V, σ, H, by simp, rfl, h, .refl _ _ _, hr, hsc, rfl, rfl⟩
  rintro m τ S ⟨j, s1, V1, σ1, M, hj, hspec, h1, lk1, hr1, hsc1, rfl, rfl⟩
  by_cases hlt : j < l.length
  · have hg : (St.avs l)[j]? = some (l[j]).av := by simp [St.avs_eq, hlt]
    have hd : l.drop j = l[j] :: l.drop (j + 1) := List.drop_eq_getElem_cons hlt
    rw [hd] at hspec hsc1
    have hx : S1 n o P cl F l[j] := ih _ (List.getElem_mem hlt)
    rw [St.scs_cons] at hsc1
    simp only [lstmts] at hspec
    have hstep : SCalls Tryz.prog 92 [.ptr o 0, (l[j]).av] M (SP n o P σ1 M (lstmt P cl l[j] V1 4096 s1)) := hx h1 hr1 hsc1.1
    have hnm := fun s' V' => lstmt_names (P := P) (cl := cl) (L := 4096) l[j] V1 s1 s' V'
    generalize (l[j]) = x at *
    simp [hlt, c54_1, hg]
    refine hstep.mono ?_
    rintro r K hsp
    rcases hsp.c2 with ⟨hm1, rfl, pk⟩ | ⟨V2, s2, σ2, hm1, rfl, h2, lk, hr2⟩
    · rw [hspec, LM.bind_none hm1] at hQ
      simp
      exact hQ _ _ ⟨rfl, lk1.pre pk⟩
    · rw [LM.bind_some hm1] at hspec
      simp [wrap_s (n := (j : Int) + 1) (by omega)]
      exact ⟨m - 1, by omega, j + 1, s2, V2, σ2, K, by omega, hspec, h2, lk1.trans lk, hr2, by rw [hnm _ _ hm1]; exact hsc1.2, by simp, rfl⟩
  · have hd : l.drop j = [] := List.drop_eq_nil_of_le (by omega)
    rw [hspec, hd] at hQ
    simp [hlt]
    exact hQ _ _ ⟨rfl, σ1, h1, lk1, hr1⟩
end
end Go.Ab
