/- What the functions come to (part 8). No conditions. -/
import Derived.Test.YtlncafbialfojaaGreatLmT0
set_option linter.unusedVariables false
set_option linter.unusedSimpArgs false
namespace Go.Ab
open Go.Proofs

set_option maxRecDepth 100000
set_option maxHeartbeats 8000000
def Prg.ats (P : Prg) : List Int := P.globals.map Glob.at' ++ P.locks.map Lok.at' ++ P.funcs.map Func.at'
def Prg.size (P : Prg) : Nat := (P.funcs.map fun f => St.sizes f.body + f.ret.size).sum + (P.threads.map St.sizes).sum
def Prg.av (P : Prg) : AV := .agg [sl (P.globals.map Glob.av), sl (P.locks.map Lok.av), sl (P.funcs.map Func.av), sl (P.threads.map Thr.av)]
/-- A program that was read. -/
structure PV (P : Prg) : Prop where
  g : ∀ x ∈ P.globals, 0 ≤ x.len ∧ x.len ≤ 64
  f : ∀ x ∈ P.funcs, x.params.length ≤ 6 ∧ St.oks x.body ∧ x.ret.ok
  t : ∀ b ∈ P.threads, St.oks b
  ng : P.globals.length ≤ 32
  nl : P.locks.length ≤ 8
  nf : P.funcs.length ≤ 16
  nt : P.threads.length ≤ 4
  ats : P.ats.Nodup
  pos : ∀ a ∈ P.ats, 0 ≤ a
  size : P.size ≤ 2 ^ 30
structure PVI (ws : List W) (I : Nat) (P : Prg) : Prop where
  g : ∀ x ∈ P.globals, 0 ≤ x.len ∧ x.len ≤ 64
  f : ∀ x ∈ P.funcs, x.params.length ≤ 6 ∧ St.oks x.body ∧ x.ret.ok
  t : ∀ b ∈ P.threads, St.oks b
  ng : P.globals.length ≤ 32
  nl : P.locks.length ≤ 8
  nf : P.funcs.length ≤ 16
  nt : P.threads.length ≤ 4
  ats : P.ats.Nodup
  lt : ∀ a ∈ P.ats, ∃ (J : Nat) (w : W), ws[J]? = some w ∧ w.at' = a ∧ J < I
  size : P.size ≤ I
theorem Inc.lt {ws : List W} (h : Inc ws) {I J : Nat} {a b : W} (ha : ws[I]? = some a) (hb : ws[J]? = some b) (hIJ : I < J) : a.at' < b.at' := by
  obtain ⟨h1, rfl⟩ := List.getElem?_eq_some_iff.1 ha
  obtain ⟨h2, rfl⟩ := List.getElem?_eq_some_iff.1 hb
  exact List.pairwise_iff_getElem.1 h _ _ _ _ hIJ
theorem PVI.fresh {ws : List W} {I J : Nat} {P : Prg} (h : PVI ws I P) (hi : Inc ws) {w : W} (hw : ws[J]? = some w) (hJ : I ≤ J) : w.at' ∉ P.ats := by
  intro hm
  obtain ⟨J', w', hw', e, hlt⟩ := h.lt _ hm
  have := hi.lt hw' hw (by omega)
  omega
theorem ats_g (P : Prg) (x : Glob) : ({ P with globals := P.globals ++ [x] } : Prg).ats.Perm (x.at' :: P.ats) := by
  simp only [Prg.ats, List.map_append, List.map_cons, List.map_nil, List.append_assoc, List.singleton_append]
  exact List.perm_middle
theorem ats_l (P : Prg) (x : Lok) : ({ P with locks := P.locks ++ [x] } : Prg).ats.Perm (x.at' :: P.ats) := by
  simp only [Prg.ats, List.map_append, List.map_cons, List.map_nil, List.append_assoc, List.singleton_append]
  rw [← List.append_assoc, ← List.append_assoc]
  exact List.perm_middle
theorem ats_f (P : Prg) (x : Func) : ({ P with funcs := P.funcs ++ [x] } : Prg).ats.Perm (x.at' :: P.ats) := by
  simp only [Prg.ats, List.map_append, List.map_cons, List.map_nil]
  rw [← List.append_assoc]
  exact List.perm_append_comm
theorem PVI.add {ws : List W} {I I' : Nat} {P P' : Prg} {w : W} {J : Nat} (h : PVI ws I P) (hi : Inc ws) (hw : ws[J]? = some w) (hJ : I ≤ J) (hI : J < I') {a : Int} (ha : a = w.at') (hp : P'.ats.Perm (a :: P.ats)) :
    P'.ats.Nodup ∧ ∀ a ∈ P'.ats, ∃ (J : Nat) (w : W), ws[J]? = some w ∧ w.at' = a ∧ J < I' := by
  subst ha
  refine ⟨hp.nodup_iff.2 (List.nodup_cons.2 ⟨h.fresh hi hw hJ, h.ats⟩), fun b hb => ?_⟩
  rcases List.mem_cons.1 (hp.mem_iff.1 hb) with rfl | hb
  · exact ⟨J, w, hw, rfl, hI⟩
  · obtain ⟨J', w', h1, h2, h3⟩ := h.lt b hb
    exact ⟨J', w', h1, h2, by omega⟩
theorem PVI.ext {ws : List W} {I I' : Nat} {P P' : Prg} (h : PVI ws I P) (hi : Inc ws) (e : Ext ws I I' P P') : PVI ws I' P' := by
  have hsz := h.size
  rcases e with ⟨x, rfl, hI, hn, h0, h64, w, hw, ha, -⟩ | ⟨x, rfl, hI, hn, w, hw, ha, -⟩ | ⟨x, rfl, hI, hn, hp, hb, hr, hs, w, hw, ha, -⟩ | ⟨b, rfl, hI, hn, hb, hs⟩
  · obtain ⟨a1, a2⟩ := h.add (I' := I') hi hw (by omega) (by omega) ha (ats_g P x)
    refine ⟨?_, h.f, h.t, by simp; omega, h.nl, h.nf, h.nt, a1, a2, by simp only [Prg.size] at hsz ⊢; omega⟩
    intro y hy
    rw [List.mem_append] at hy
    rcases hy with hy | hy
    · exact h.g y hy
    · simp at hy; subst hy; exact ⟨h0, h64⟩
  · obtain ⟨a1, a2⟩ := h.add (I' := I') hi hw (by omega) (by omega) ha (ats_l P x)
    exact ⟨h.g, h.f, h.t, h.ng, by simp; omega, h.nf, h.nt, a1, a2, by simp only [Prg.size] at hsz ⊢; omega⟩
  · obtain ⟨a1, a2⟩ := h.add (I' := I') hi hw (by omega) (by omega) ha (ats_f P x)
    refine ⟨h.g, ?_, h.t, h.ng, h.nl, by simp; omega, h.nt, a1, a2, by simp [Prg.size] at hsz ⊢; omega⟩
    intro y hy
    rw [List.mem_append] at hy
    rcases hy with hy | hy
    · exact h.f y hy
    · simp at hy; subst hy; exact ⟨hp, hb, hr⟩
  · refine ⟨h.g, h.f, ?_, h.ng, h.nl, h.nf, by simp; omega, h.ats, fun a ha => ?_, by simp [Prg.size] at hsz ⊢; omega⟩
    · intro y hy
      rw [List.mem_append] at hy
      rcases hy with hy | hy
      · exact h.t y hy
      · simp at hy; subst hy; exact hb
    · obtain ⟨J, w, h1, h2, h3⟩ := h.lt a ha
      exact ⟨J, w, h1, h2, by omega⟩
theorem FrN.le {n m : Nat} {M M' : List AObj} (h : FrN n M M') (hm : m ≤ n) : FrN m M M' := ⟨h.1, fun r hr => h.2 r (by omega)⟩
def I23 (ws : List W) (n p q : Nat) (H : List AObj) (m : Nat) (τ : Env) (S : AS) : Prop :=
  ∃ (P : Prg) (I : Nat) (E : Int) (M : List AObj), m + I = ws.length + (if E = 0 then 1 else 0) ∧ Rdr n ws p q 0 0 P I E M ∧ FrN n H M ∧ (E = 0 → PVI ws I P) ∧ τ = [(2, .lref 2 0), (8, .ptr q 0)] ∧ S = ⟨[(2, [.nils, .nils, .nils, .nils])], M, []⟩
theorem Parse_c {H : List AObj} {s : List UInt8} (hs : s.length ≤ 2 ^ 59) : SCalls Tryz.prog 23 [.str s] H (fun r K => ∃ (P : Prg) (e at' : Int), r = .ret (.tuple [P.av, .int .i64 e, .int .i64 at']) ∧ FrN (lenH H) H K ∧ (e = 0 → PV P)) := by
  refine fn_go k23 rfl ?_
  intro Q hQ
  simp [c23]
  refine (words_c hs).mono ?_
  rintro r K ⟨ws, e, at', rfl, fr, hg⟩
  by_cases he : e = 0
  · obtain ⟨gd, hi, hpos, hat⟩ := hg he
    have hl := gd.1
    have hwsl : sl (ws.map W.av) = .vs none (ws.map W.av) := sl_ne (by simpa using List.length_pos_iff.1 hpos)
    simp [he, c23_4, hwsl]
    have hK1 : ∀ (a b : AObj), getH (addH (addH K a) b) (lenH K) = some a := fun a b => by rw [getH_add_old (by simp)]; simp
    have hK2 : ∀ (a b : AObj), getH (addH (addH K a) b) (lenH K + 1) = some b := fun a b => getH_add_at (by simp)
    have hR : Rdr (lenH K) ws (lenH K) (lenH K + 1) 0 0 ⟨[], [], [], []⟩ 0 0 (addH (addH K (rst ws 0 0 0 0)) (qst (lenH K) 0 .nils .nils .nils .nils)) :=
      ⟨⟨_, _, _, _, ⟨⟨0, hK1 _ _⟩, hK2 _ _, hpos, gd, by omega⟩, ⟨.inl ⟨rfl, rfl⟩, .inl ⟨rfl, rfl⟩, .inl ⟨rfl, rfl⟩, .inl ⟨rfl, rfl⟩, by simp⟩⟩, by omega, by omega, by simp; omega⟩
    refine loop_keep (n := ws.length + 1) (I23 ws (lenH K) (lenH K) (lenH K + 1) K) ?_ ⟨⟨[], [], [], []⟩, 0, 0, _, by simp, hR, (FrN.add (Nat.le_refl _)).trans (.add (by simp)), fun _ => ?_, rfl, rfl⟩
    · rintro m τ S ⟨P, I, E, M, hm, R, fr', hv, rfl, rfl⟩
      have c3 : ∀ (τ : Env) (lo : List (Nat × List AV)), look τ 2 = some (.lref 2 0) → look τ 8 = some (.ptr (lenH K + 1) 0) → look lo 2 = some [.nils, .nils, .nils, .nils] → look lo 8 = none →
          go (SCalls Tryz.prog) c23_3 [] τ ⟨lo, M, []⟩ (aendR [.cell 2 true 4, .tmp 3, .tmp 4] Q) := by
        intro τ lo t2 t8 l2 l8
        obtain ⟨g, l, f, t, a, ps⟩ := R.here
        simp [c23_3, t2, t8, l2, l8]
        refine a.cok.mono ?_
        rintro r K2 ⟨rfl, rfl⟩
        obtain ⟨B, hp⟩ := a.hp
        by_cases hE : E = 0
        · subst hE
          simp [c23_2, a.hq, qst, ps.hg.okv, ps.hl.okv, ps.hf.okv, ps.ht.okv]
          have v := hv rfl
          rw [ps.hg.drop1, ps.hl.drop1, ps.hf.drop1, ps.ht.drop1]
          exact hQ _ _ ⟨P, 0, 0, rfl, fr.trans (fr'.le (by have := fr.1; omega)), fun _ => ⟨v.g, v.f, v.t, v.ng, v.nl, v.nf, v.nt, v.ats, fun a ha => by
            obtain ⟨J, w, h1, h2, -⟩ := v.lt a ha
            exact h2 ▸ hat w (List.mem_of_getElem? h1), by have := v.size; have := a.hI; omega⟩⟩
        · simp [hE, a.hq, hp, qst, rst]
          exact hQ _ _ ⟨⟨[], [], [], []⟩, E, B, rfl, fr.trans (fr'.le (by have := fr.1; omega)), fun h => absurd h hE⟩
      obtain ⟨g, l, f, t, a, ps⟩ := R.here
      simp
      refine a.cok.mono ?_
      rintro r K2 ⟨rfl, rfl⟩
      by_cases hE : E = 0
      · subst hE
        obtain ⟨w, hw⟩ := a.word
        simp
        refine (a.cword hw).mono ?_
        rintro r K3 ⟨rfl, rfl⟩
        by_cases hk : w.kind = 3
        · simp [W.av, hk]
          exact c3 _ _ rfl rfl rfl rfl
        · have v := hv rfl
          simp [W.av, hk, c23_1]
          refine (thing4_c R v.ng v.nl v.nf v.nt).mono ?_
          rintro r K4 ⟨P', I', E', rfl, R', fr4, hI', hE'⟩
          simp
          refine ⟨ws.length + (if E' = 0 then 1 else 0) - I', ?_, P', I', E', K4, ?_, R', fr'.trans fr4, fun h => v.ext hi (hE' h), rfl, rfl⟩
          · have h1 := R'.here
            obtain ⟨g', l', f', t', a', -⟩ := h1
            have h2 := a'.hI
            have h3 : E' = 0 → I + 1 ≤ I' := fun h => by
              rcases hE' h with ⟨_, _, h, -⟩ | ⟨_, _, h, -⟩ | ⟨_, _, h, -⟩ | ⟨_, _, h, -⟩ <;> omega
            simp at hm
            split
            · have := h3 (by assumption); omega
            · omega
          · have h1 := R'.here
            obtain ⟨g', l', f', t', a', -⟩ := h1
            have h2 := a'.hI
            omega
      · simp [hE]
        exact c3 _ _ rfl rfl rfl rfl
    · exact ⟨by simp, by simp, by simp, by simp, by simp, by simp, by simp, by simp [Prg.ats], by simp [Prg.ats], by simp [Prg.size]⟩
  · simp [he]
    exact hQ _ _ ⟨⟨[], [], [], []⟩, e, at', rfl, fr, fun h => absurd h he⟩
end Go.Ab

namespace Go.Ab
open Go.Proofs

set_option maxRecDepth 100000
set_option maxHeartbeats 8000000
/-- A local of a scope. -/
structure Lv where
  name : List UInt8
  truth : Bool
  secret : Bool
  deep : Int
def Lv.av (l : Lv) : AV := .agg [.str l.name, .bool l.truth, .bool l.secret, .int .i64 l.deep]
theorem Lv.wid (l : List Lv) : wid 4 (l.map Lv.av) = true := wid_map 4 Lv.av l fun e => ⟨rfl, rfl⟩
/-- A scope. -/
structure Sc where
  P : Prg
  deep : Int
  L : List Lv
def Sc.cells (σ : Sc) : List AV := [sl (σ.P.globals.map Glob.av), sl (σ.P.locks.map Lok.av), sl (σ.P.funcs.map Func.av), sl (σ.P.threads.map Thr.av), .int .i64 σ.deep, sl (σ.L.map Lv.av)]
def Sc.av (σ : Sc) : AV := .agg σ.cells
structure Sc.Ok (σ : Sc) : Prop where
  pv : PV σ.P
  d0 : 0 ≤ σ.deep
  d1 : σ.deep ≤ 2 ^ 32
  l1 : σ.L.length ≤ 2 ^ 32
/-- Where a name stands first. -/
def fidx (l : List (List UInt8)) (s : List UInt8) : Int := match l.findIdx? (· == s) with
  | some i => i
  | none => -1
theorem fidx_some {l : List (List UInt8)} {s : List UInt8} {i : Nat} (h : l[i]? = some s) (h' : ∀ j, j < i → l[j]? ≠ some s) : fidx l s = i := by
  unfold fidx
  obtain ⟨h1, h2⟩ := List.getElem?_eq_some_iff.1 h
  have : l.findIdx? (· == s) = some i := by
    rw [List.findIdx?_eq_some_iff_getElem]
    exact ⟨h1, by simp [h2], fun j hj => by have := h' j hj; simp [List.getElem?_eq_getElem (show j < l.length by omega)] at this ⊢; exact this⟩
  rw [this]
theorem fidx_none {l : List (List UInt8)} {s : List UInt8} {i : Nat} (h : ¬ i < l.length) (h' : ∀ j, j < i → l[j]? ≠ some s) : fidx l s = -1 := by
  unfold fidx
  have : l.findIdx? (· == s) = none := by
    rw [List.findIdx?_eq_none_iff]
    intro x hx
    obtain ⟨j, hj, rfl⟩ := List.mem_iff_getElem.1 hx
    have := h' j (by omega)
    simp [List.getElem?_eq_getElem hj] at this ⊢
    exact this
  rw [this]
theorem fidx_cases (l : List (List UInt8)) (s : List UInt8) : (∃ i : Nat, fidx l s = i ∧ l[i]? = some s ∧ ∀ j, j < i → l[j]? ≠ some s) ∨ (fidx l s = -1 ∧ s ∉ l) := by
  unfold fidx
  cases h : l.findIdx? (· == s) with
  | none =>
    right
    rw [List.findIdx?_eq_none_iff] at h
    exact ⟨rfl, fun hm => by have := h s hm; simp at this⟩
  | some i =>
    left
    rw [List.findIdx?_eq_some_iff_getElem] at h
    obtain ⟨h1, h2, h3⟩ := h
    refine ⟨i, rfl, by simp [List.getElem?_eq_getElem h1]; simpa using h2, fun j hj => ?_⟩
    have := h3 j hj
    simp [List.getElem?_eq_getElem (show j < l.length by omega)] at this ⊢
    exact this
def gz : Glob := ⟨0, [], false, false, 0, []⟩
def fz : Func := ⟨0, [], [], false, false, [], .mk 0 0 0 [] [] 0⟩
def Prg.gidx (P : Prg) (s : List UInt8) : Int := fidx (P.globals.map Glob.name) s
def Prg.lidx (P : Prg) (s : List UInt8) : Int := fidx (P.locks.map Lok.name) s
def Prg.fix (P : Prg) (s : List UInt8) : Int := fidx (P.funcs.map Func.name) s
def Sc.vidx (σ : Sc) (s : List UInt8) : Int := fidx (σ.L.map Lv.name) s
/-- The global of a name; else none. -/
def Prg.gat (P : Prg) (s : List UInt8) : Glob := if 0 ≤ P.gidx s then (P.globals[(P.gidx s).toNat]?).getD gz else gz
def Prg.fat (P : Prg) (s : List UInt8) : Func := if 0 ≤ P.fix s then (P.funcs[(P.fix s).toNat]?).getD fz else fz
def I94 (l : List (List UInt8)) (s : List UInt8) (mk : Int → Env) (S0 : AS) (m : Nat) (τ : Env) (S : AS) : Prop := ∃ i : Nat, i + m = l.length ∧ (∀ j, j < i → l[j]? ≠ some s) ∧ τ = mk i ∧ S = S0
@[simp] theorem ixaA_sl (e : Nat) (xs : List AV) (k : IntKind) (n : Int) : ixaA e (sl xs) (.int k n) = if 0 ≤ n then ixC e xs[n.toNat]? else none := by
  cases xs with
  | nil => simp [ixaA, ixC]
  | cons x xs => simp
attribute [simp] Ex.cells_drop1
@[simp] theorem Ex.cells_take (e : Ex) : e.av.cells.take 6 = e.av.cells := List.take_of_length_le (by simp)
section
variable {σ : Sc} {H : List AObj} {s : List UInt8}
theorem glob_c (h : σ.Ok) : SCalls Tryz.prog 94 [σ.av, .str s] H (fun r K => r = .ret (.tuple [(σ.P.gat s).av, .int .i64 (σ.P.gidx s)]) ∧ K = H) := by
  refine fn_go k94 rfl ?_
  intro Q hQ
  have hl := h.pv.ng
  simp [c94, Sc.av, Sc.cells]
  refine loop_keep (n := (σ.P.globals.map Glob.name).length) (I94 (σ.P.globals.map Glob.name) s (fun i => [(1, .str s), (2, .lref 2 0), (4, .lref 4 0), (6, .int .i64 i)]) ⟨[(2, σ.cells), (4, gz.av.cells)], H, []⟩) ?_ ⟨0, by simp, by simp, rfl, rfl⟩
  rintro m τ S ⟨i, hi, hno, rfl, rfl⟩
  have hi' : i + m = σ.P.globals.length := by simpa using hi
  by_cases hlt : i < σ.P.globals.length
  · by_cases he : (σ.P.globals[i]).name = s
    · have hidx : σ.P.gidx s = i := fidx_some (by simp [hlt, he]) hno
      have hat : σ.P.gat s = σ.P.globals[i] := by simp [Prg.gat, hidx, hlt]
      rw [hidx, hat] at hQ
      simp [hlt, c94_2, Sc.cells, gz, Glob.av, he]
      skip
      simpa [gz, Glob.av, he] using hQ _ _ ⟨rfl, rfl⟩
    · simp [hlt, c94_2, c94_1, Sc.cells, gz, Glob.av, he, wrap_s (n := (i : Int) + 1) (by omega)]
      refine ⟨m - 1, by omega, i + 1, by simp; omega, fun j hj => ?_, by simp, by simp [Sc.cells, gz, Glob.av]⟩
      rcases Nat.lt_or_ge j i with h | h
      · exact hno j h
      · have : j = i := by omega
        subst this
        simp [hlt, he]
  · have hidx : σ.P.gidx s = -1 := fidx_none (by simpa using hlt) hno
    have hat : σ.P.gat s = gz := by simp [Prg.gat, hidx]
    rw [hidx, hat] at hQ
    simp [hlt, c94_3, Sc.cells, gz, Glob.av]
    simpa [gz, Glob.av] using hQ _ _ ⟨rfl, rfl⟩
theorem lock_c (h : σ.Ok) : SCalls Tryz.prog 58 [σ.av, .str s] H (fun r K => r = .ret (.int .i64 (σ.P.lidx s)) ∧ K = H) := by
  refine fn_go k58 rfl ?_
  intro Q hQ
  have hl := h.pv.nl
  simp [c58, Sc.av, Sc.cells]
  refine loop_keep (n := (σ.P.locks.map Lok.name).length) (I94 (σ.P.locks.map Lok.name) s (fun i => [(1, .str s), (2, .lref 2 0), (5, .int .i64 i)]) ⟨[(2, σ.cells)], H, []⟩) ?_ ⟨0, by simp, by simp, rfl, rfl⟩
  rintro m τ S ⟨i, hi, hno, rfl, rfl⟩
  have hi' : i + m = σ.P.locks.length := by simpa using hi
  by_cases hlt : i < σ.P.locks.length
  · by_cases he : (σ.P.locks[i]).name = s
    · have hidx : σ.P.lidx s = i := fidx_some (by simp [hlt, he]) hno
      skip
      rw [hidx] at hQ
      simp [hlt, c58_2, Sc.cells, Lok.av, he]
      skip
      simpa [Lok.av, he] using hQ _ _ ⟨rfl, rfl⟩
    · simp [hlt, c58_2, c58_1, Sc.cells, Lok.av, he, wrap_s (n := (i : Int) + 1) (by omega)]
      refine ⟨m - 1, by omega, i + 1, by simp; omega, fun j hj => ?_, by simp, by simp [Sc.cells, Lok.av]⟩
      rcases Nat.lt_or_ge j i with h | h
      · exact hno j h
      · have : j = i := by omega
        subst this
        simp [hlt, he]
  · have hidx : σ.P.lidx s = -1 := fidx_none (by simpa using hlt) hno
    skip
    rw [hidx] at hQ
    simp [hlt, c58_3, Sc.cells, Lok.av]
    simpa [Lok.av] using hQ _ _ ⟨rfl, rfl⟩
theorem func_c (h : σ.Ok) : SCalls Tryz.prog 96 [σ.av, .str s] H (fun r K => r = .ret (.tuple [(σ.P.fat s).av, .int .i64 (σ.P.fix s)]) ∧ K = H) := by
  refine fn_go k96 rfl ?_
  intro Q hQ
  have hl := h.pv.nf
  simp [c96, Sc.av, Sc.cells]
  refine loop_keep (n := (σ.P.funcs.map Func.name).length) (I94 (σ.P.funcs.map Func.name) s (fun i => [(1, .str s), (2, .lref 2 0), (4, .lref 4 0), (6, .int .i64 i)]) ⟨[(2, σ.cells), (4, fz.av.cells)], H, []⟩) ?_ ⟨0, by simp, by simp, rfl, rfl⟩
  rintro m τ S ⟨i, hi, hno, rfl, rfl⟩
  have hi' : i + m = σ.P.funcs.length := by simpa using hi
  by_cases hlt : i < σ.P.funcs.length
  · by_cases he : (σ.P.funcs[i]).name = s
    · have hidx : σ.P.fix s = i := fidx_some (by simp [hlt, he]) hno
      have hat : σ.P.fat s = σ.P.funcs[i] := by simp [Prg.fat, hidx, hlt]
      rw [hidx, hat] at hQ
      simp [hlt, c96_2, Sc.cells, fz, Func.av, Ex.av, Ex.avs, St.avs, he]
      skip
      simpa [fz, Func.av, Ex.av, Ex.avs, St.avs, he] using hQ _ _ ⟨rfl, rfl⟩
    · simp [hlt, c96_2, c96_1, Sc.cells, fz, Func.av, Ex.av, Ex.avs, St.avs, he, wrap_s (n := (i : Int) + 1) (by omega)]
      refine ⟨m - 1, by omega, i + 1, by simp; omega, fun j hj => ?_, by simp, by simp [Sc.cells, fz, Func.av, Ex.av, Ex.avs, St.avs]⟩
      rcases Nat.lt_or_ge j i with h | h
      · exact hno j h
      · have : j = i := by omega
        subst this
        simp [hlt, he]
  · have hidx : σ.P.fix s = -1 := fidx_none (by simpa using hlt) hno
    have hat : σ.P.fat s = fz := by simp [Prg.fat, hidx]
    rw [hidx, hat] at hQ
    simp [hlt, c96_3, Sc.cells, fz, Func.av, Ex.av, Ex.avs, St.avs]
    simpa [fz, Func.av, Ex.av, Ex.avs, St.avs] using hQ _ _ ⟨rfl, rfl⟩
theorem local_c (h : σ.Ok) : SCalls Tryz.prog 173 [σ.av, .str s] H (fun r K => r = .ret (.int .i64 (σ.vidx s)) ∧ K = H) := by
  refine fn_go k173 rfl ?_
  intro Q hQ
  have hl := h.l1
  simp [c173, Sc.av, Sc.cells]
  refine loop_keep (n := (σ.L.map Lv.name).length) (I94 (σ.L.map Lv.name) s (fun i => [(1, .str s), (2, .lref 2 0), (5, .int .i64 i)]) ⟨[(2, σ.cells)], H, []⟩) ?_ ⟨0, by simp, by simp, rfl, rfl⟩
  rintro m τ S ⟨i, hi, hno, rfl, rfl⟩
  have hi' : i + m = σ.L.length := by simpa using hi
  by_cases hlt : i < σ.L.length
  · by_cases he : (σ.L[i]).name = s
    · have hidx : σ.vidx s = i := fidx_some (by simp [hlt, he]) hno
      skip
      rw [hidx] at hQ
      simp [hlt, c173_2, Sc.cells, Lv.av, he]
      skip
      simpa [Lv.av, he] using hQ _ _ ⟨rfl, rfl⟩
    · simp [hlt, c173_2, c173_1, Sc.cells, Lv.av, he, wrap_s (n := (i : Int) + 1) (by omega)]
      refine ⟨m - 1, by omega, i + 1, by simp; omega, fun j hj => ?_, by simp, by simp [Sc.cells, Lv.av]⟩
      rcases Nat.lt_or_ge j i with h | h
      · exact hno j h
      · have : j = i := by omega
        subst this
        simp [hlt, he]
  · have hidx : σ.vidx s = -1 := fidx_none (by simpa using hlt) hno
    skip
    rw [hidx] at hQ
    simp [hlt, c173_3, Sc.cells, Lv.av]
    simpa [Lv.av] using hQ _ _ ⟨rfl, rfl⟩
/-- What a name is. -/
def Sc.kind (σ : Sc) (s : List UInt8) : Int := if 0 ≤ σ.P.gidx s then 1 else if 0 ≤ σ.P.lidx s then 2 else if 0 ≤ σ.P.fix s then 3 else if 0 ≤ σ.vidx s then 4 else 0
def Sc.type (σ : Sc) (s : List UInt8) : Bool × Bool := if 0 ≤ σ.P.gidx s then ((σ.P.gat s).truth, (σ.P.gat s).secret) else
  if σ.kind s = 4 then match σ.L[(σ.vidx s).toNat]? with
    | some l => (l.truth, l.secret)
    | none => (false, false)
  else (false, false)
def tyv (t : Bool × Bool) : AV := .agg [.bool t.1, .bool t.2]
theorem kind_c (h : σ.Ok) : SCalls Tryz.prog 158 [σ.av, .str s] H (fun r K => r = .ret (.int .i64 (σ.kind s)) ∧ K = H) := by
  refine fn_go k158 rfl ?_
  intro Q hQ
  have e : (.agg σ.cells : AV) = σ.av := rfl
  simp [c158, Sc.av, Sc.cells]
  refine (glob_c h).mono ?_
  rintro r K ⟨rfl, rfl⟩
  simp [Glob.av]
  refine (func_c h).mono ?_
  rintro r K ⟨rfl, rfl⟩
  simp [Func.av]
  by_cases hg : 0 ≤ σ.P.gidx s
  · simp [hg]
    simpa [Sc.kind, hg] using hQ _ _ ⟨rfl, rfl⟩
  · simp [hg]
    refine (lock_c h).mono ?_
    rintro r K ⟨rfl, rfl⟩
    by_cases hl : 0 ≤ σ.P.lidx s
    · simp [hl]
      simpa [Sc.kind, hg, hl] using hQ _ _ ⟨rfl, rfl⟩
    · by_cases hf : 0 ≤ σ.P.fix s
      · simp [hl, hf]
        simpa [Sc.kind, hg, hl, hf] using hQ _ _ ⟨rfl, rfl⟩
      · simp [hl, hf]
        refine (local_c h).mono ?_
        rintro r K ⟨rfl, rfl⟩
        by_cases hv : 0 ≤ σ.vidx s
        · simp [hv]
          simpa [Sc.kind, hg, hl, hf, hv] using hQ _ _ ⟨rfl, rfl⟩
        · simp [hv, c158_1]
          simpa [Sc.kind, hg, hl, hf, hv] using hQ _ _ ⟨rfl, rfl⟩
theorem type_c (h : σ.Ok) : SCalls Tryz.prog 159 [σ.av, .str s] H (fun r K => r = .ret (tyv (σ.type s)) ∧ K = H) := by
  refine fn_go k159 rfl ?_
  intro Q hQ
  simp [c159, Sc.av, Sc.cells]
  refine (glob_c h).mono ?_
  rintro r K ⟨rfl, rfl⟩
  simp [Glob.av]
  by_cases hg : 0 ≤ σ.P.gidx s
  · simp [hg]
    simpa [Sc.type, hg, tyv] using hQ _ _ ⟨rfl, rfl⟩
  · simp [hg, c159_2]
    refine (kind_c h).mono ?_
    rintro r K ⟨rfl, rfl⟩
    by_cases hk : σ.kind s = 4
    · simp [hk]
      refine (local_c h).mono ?_
      rintro r K ⟨rfl, rfl⟩
      have hv : 0 ≤ σ.vidx s := by
        unfold Sc.kind at hk
        by_cases h1 : 0 ≤ σ.P.lidx s <;> by_cases h2 : 0 ≤ σ.P.fix s <;> by_cases h3 : 0 ≤ σ.vidx s <;> simp [hg, h1, h2, h3] at hk ⊢
      obtain ⟨l, hl⟩ : ∃ l, σ.L[(σ.vidx s).toNat]? = some l := by
        rcases fidx_cases (σ.L.map Lv.name) s with ⟨i, h1, h2, -⟩ | ⟨h1, -⟩
        · have hi : σ.vidx s = i := h1
          rw [hi]
          simp at h2
          obtain ⟨l, hl, -⟩ := h2
          exact ⟨l, by simpa using hl⟩
        · have hi : σ.vidx s = -1 := h1
          omega
      simp [hv, hl, Lv.av]
      simpa [Sc.type, hg, hk, hl, tyv] using hQ _ _ ⟨rfl, rfl⟩
    · simp [hk, c159_1]
      simpa [Sc.type, hg, hk, tyv] using hQ _ _ ⟨rfl, rfl⟩
end
end Go.Ab

namespace Go.Ab
open Go.Proofs

set_option maxRecDepth 100000
set_option maxHeartbeats 8000000
def Sc.leave (σ : Sc) : Sc := if σ.deep = 0 then σ else ⟨σ.P, σ.deep - 1, σ.L.filter fun l => decide (l.deep < σ.deep)⟩
def Sc.add (σ : Sc) (s : List UInt8) (t : Bool × Bool) : Sc := ⟨σ.P, σ.deep, σ.L ++ [⟨s, t.1, t.2, σ.deep⟩]⟩
theorem elemsA_sl {S : AS} {e : Nat} {xs : List AV} (hw : wid e xs = true) : elemsA S e (sl xs) = some xs := by
  cases xs with
  | nil => rfl
  | cons x xs => simp [elemsA, hw]
theorem TipN.nils_app {n : Nat} {M : List AObj} {lo df : List (Nat × List AV)} {e b : Nat} {xs : List AV} (hM : n ≤ lenH M) (hr : xs.length * b ≤ roomA) :
    ∃ M' v', apV ⟨lo, M, df⟩ e b .nils (some xs) = some (v', ⟨lo, M', df⟩) ∧ TipN n M' v' (xs.map AV.erase) ∧ FrN n M M' := by
  by_cases h : xs = []
  · exact ⟨M, .nils, by simp [h], .inl ⟨by simp [h], rfl⟩, .refl _ _⟩
  · exact ⟨addH M .tip, _, by simp [h, hr], .inr ⟨_, by simpa using h, rfl, by simp, hM⟩, .add hM⟩
theorem Lv.erase (l : List Lv) : (l.map Lv.av).map AV.erase = l.map Lv.av := by simp [Lv.av]
section
variable {σ : Sc} {H : List AObj} {s : List UInt8}
def I109 (σ : Sc) (H : List AObj) (m : Nat) (τ : Env) (S : AS) : Prop := ∃ (i : Nat) (v : AV) (M : List AObj), i + m = σ.L.length ∧ TipN (lenH H) M v (((σ.L.take i).filter fun l => decide (l.deep < σ.deep)).map Lv.av) ∧ FrN (lenH H) H M ∧
  τ = [(1, .lref 1 0), (2, .lref 2 0), (3, v), (4, .int .i64 i)] ∧ S = ⟨[(1, σ.cells), (2, [.nils, .nils, .nils, .nils, .int .i64 0, .nils])], M, []⟩
theorem take_succ_filter {α : Type} {l : List α} {p : α → Bool} {i : Nat} (h : i < l.length) : (l.take (i + 1)).filter p = (l.take i).filter p ++ if p l[i] then [l[i]] else [] := by
  rw [List.take_succ_eq_append_getElem h, List.filter_append]
  by_cases hp : p l[i] <;> simp [hp]
theorem leave_c (h : σ.Ok) : SCalls Tryz.prog 109 [σ.av] H (fun r K => r = .ret σ.leave.av ∧ FrN (lenH H) H K) := by
  have hl := h.l1
  have hd0 := h.d0
  have hd1 := h.d1
  refine fn_go k109 rfl ?_
  intro Q hQ
  by_cases hd : σ.deep = 0
  · simp [c109, Sc.av, Sc.cells, hd]
    simpa [Sc.leave, hd, Sc.av, Sc.cells] using hQ _ _ ⟨rfl, .refl _ _⟩
  · simp [c109, Sc.av, Sc.cells, hd, c109_4]
    refine loop_keep (n := σ.L.length) (I109 σ H) ?_ ⟨0, _, H, by simp, .inl ⟨by simp, rfl⟩, .refl _ _, rfl, rfl⟩
    rintro m τ S ⟨i, v, M, hi, ht, fr, rfl, rfl⟩
    by_cases hlt : i < σ.L.length
    · have hflen : (((σ.L.take i).filter fun l => decide (l.deep < σ.deep)).map Lv.av).length ≤ 2 ^ 32 := by
        have := List.length_filter_le (fun l : Lv => decide (l.deep < σ.deep)) (σ.L.take i)
        simp at this ⊢
        omega
      by_cases hdp : (σ.L[i]).deep < σ.deep
      · have ht2 := ht.gr ((Gr.refl M).add (o := .tip))
        have fr2 : FrN (lenH H) H (addH M .tip) := fr.trans (.add fr.1)
        obtain ⟨M2, happ, ht3, fr3, -⟩ := ht2.app (lo := [(1, σ.cells), (2, [.nils, .nils, .nils, .nils, .int .i64 0, .nils])]) (df := []) (e := 4) (b := 32) (x := (σ.L[i]).av) fr2.1 (Lv.wid _) (by simp only [roomA_eq]; omega)
        simp [Lv.av, Sc.cells] at happ
        simp [hlt, c109_2, Sc.cells, Lv.av, hdp, ht.lref, okD_proper ht.proper, ht.okv, happ, c109_1, wrap_s (n := (i : Int) + 1) (by omega)]
        refine ⟨m - 1, by omega, i + 1, _, M2, by omega, ?_, fr2.trans fr3, by simp; rfl, by simp [Sc.cells]⟩
        rw [take_succ_filter hlt]
        simpa [hdp, Lv.av] using ht3
      · simp [hlt, c109_2, Sc.cells, Lv.av, hdp, ht.lref, okD_proper ht.proper, ht.okv, c109_1, wrap_s (n := (i : Int) + 1) (by omega)]
        refine ⟨m - 1, by omega, i + 1, v, M, by omega, ?_, fr, by simp, by simp [Sc.cells]⟩
        rw [take_succ_filter hlt]
        simpa [hdp] using ht
    · simp [hlt, c109_3, Sc.cells, ht.lref, okD_proper ht.proper, ht.okv, wrap_s (n := σ.deep - 1) (by omega), ht.drop1, ht.cells]
      have : σ.L.take i = σ.L := List.take_of_length_le (by omega)
      have hQ' := hQ _ _ ⟨rfl, fr⟩
      rw [this]
      simpa [Sc.leave, hd, Sc.av, Sc.cells] using hQ'
theorem let_c {t : Bool × Bool} (h : σ.Ok) : SCalls Tryz.prog 130 [σ.av, .str s, tyv t] H (fun r K => ∃ (σ' : Sc) (e : Int), r = .ret (.tuple [σ'.av, .int .i64 e]) ∧ FrN (lenH H) H K ∧
    (e ≠ 0 ∧ σ' = σ ∨ e = 0 ∧ σ' = σ.add s t ∧ σ.deep ≠ 0 ∧ s ≠ [] ∧ σ.kind s = 0)) := by
  have hl := h.l1
  refine fn_go k130 rfl ?_
  intro Q hQ
  by_cases hd : σ.deep = 0
  · simp [c130, Sc.av, Sc.cells, hd, tyv]
    simpa [Sc.av, Sc.cells, hd] using hQ _ _ ⟨σ, 12, rfl, .refl _ _, .inl ⟨by decide, rfl⟩⟩
  by_cases hs : s = []
  · simp [c130, Sc.av, Sc.cells, hd, tyv, hs]
    simpa [Sc.av, Sc.cells, hd] using hQ _ _ ⟨σ, 12, rfl, .refl _ _, .inl ⟨by decide, rfl⟩⟩
  simp [c130, Sc.av, Sc.cells, hd, tyv, hs]
  refine (kind_c h).mono ?_
  rintro r K ⟨rfl, rfl⟩
  by_cases hk : σ.kind s = 0
  · obtain ⟨M1, v1, happ1, ht1, fr1⟩ := TipN.nils_app (n := lenH K) (M := K) (lo := [(3, σ.cells), (5, [.bool t.1, .bool t.2]), (6, [.nils, .nils, .nils, .nils, .int .i64 0, .nils])]) (df := []) (e := 4) (b := 32) (xs := σ.L.map Lv.av) (Nat.le_refl _) (by simp [roomA_eq]; omega)
    rw [Lv.erase] at ht1
    simp [Sc.cells] at happ1
    have ht2 := ht1.gr ((Gr.refl M1).add (o := .tip))
    have fr2 : FrN (lenH K) K (addH M1 .tip) := fr1.trans (.add fr1.1)
    obtain ⟨M2, happ, ht3, fr3, -⟩ := ht2.app (lo := [(3, σ.cells), (5, [.bool t.1, .bool t.2]), (6, [.nils, .nils, .nils, .nils, .int .i64 0, .nils])]) (df := []) (e := 4) (b := 32) (x := Lv.av ⟨s, t.1, t.2, σ.deep⟩) fr2.1 (Lv.wid _) (by simp [roomA_eq]; omega)
    simp [Lv.av, Sc.cells] at happ
    simp [hk, hd, hs, c130_1, elemsA_sl (Lv.wid _), happ1, ht1.lref, okD_proper ht1.proper, ht1.okv, happ]
    have hQ' := hQ _ _ ⟨σ.add s t, 0, rfl, fr2.trans fr3, .inr ⟨rfl, rfl, hd, hs, hk⟩⟩
    rw [← sl_ne (by simp)]
    simpa [Sc.av, Sc.cells, Sc.add, Lv.av] using hQ'
  · simp [hk, hd, hs]
    simpa [Sc.av, Sc.cells] using hQ _ _ ⟨σ, 12, rfl, .refl _ _, .inl ⟨by decide, rfl⟩⟩
end
abbrev Tn := List UInt8 × Int
def tav (t : Tn) : AV := .agg [.str t.1, .int .i64 t.2]
theorem tav_wid (l : List Tn) : wid 2 (l.map tav) = true := wid_map 2 tav l fun e => ⟨rfl, rfl⟩
def Prg.tns (P : Prg) : List Tn := P.globals.map (fun x => (x.name, x.at')) ++ P.locks.map (fun x => (x.name, x.at')) ++ P.funcs.map (fun x => (x.name, x.at'))
def Prg.names (P : Prg) : List (List UInt8) := P.globals.map Glob.name ++ P.locks.map Lok.name ++ P.funcs.map Func.name
def Prg.cells (P : Prg) : List AV := [sl (P.globals.map Glob.av), sl (P.locks.map Lok.av), sl (P.funcs.map Func.av), sl (P.threads.map Thr.av)]
section
variable {P : Prg} {H : List AObj}
def I56 (P : Prg) (H : List AObj) (pre : List Tn) (l : List Tn) (k : Nat) (m : Nat) (τ : Env) (S : AS) : Prop := ∃ (i : Nat) (v : AV) (M : List AObj), i + m = l.length ∧ TipN (lenH H) M v ((pre ++ l.take i).map tav) ∧ FrN (lenH H) H M ∧
  τ = [(1, .lref 1 0), (3, v), (k, .int .i64 i)] ∧ S = ⟨[(1, P.cells)], M, []⟩
theorem TipN.push {n : Nat} {H M : List AObj} {v : AV} {l : List Tn} {x : Tn} {lo : List (Nat × List AV)} (ht : TipN n M v (l.map tav)) (fr : FrN n H M) (hM : n ≤ lenH H) (hl : l.length ≤ 2 ^ 32) :
    ∃ M2, apV ⟨lo, addH M .tip, []⟩ 2 24 v (some [.agg [.str x.1, .int .i64 x.2]]) = some (.vs (some (lenH M + 1)) (l.map tav ++ [.agg [.str x.1, .int .i64 x.2]]), ⟨lo, M2, []⟩) ∧
      TipN n M2 (.vs (some (lenH M + 1)) (l.map tav ++ [.agg [.str x.1, .int .i64 x.2]])) ((l ++ [x]).map tav) ∧ FrN n H M2 := by
  have ht2 := ht.gr ((Gr.refl M).add (o := .tip))
  have h1 : n ≤ lenH M := by have := fr.1; omega
  have fr2 : FrN n H (addH M .tip) := fr.trans (.add h1)
  obtain ⟨M2, happ, ht3, fr3, -⟩ := ht2.app (lo := lo) (df := []) (e := 2) (b := 24) (x := tav x) (by simp; omega) (tav_wid _) (by simp [roomA_eq]; omega)
  simp [tav] at happ ht3
  exact ⟨M2, happ, by simpa [tav] using ht3, fr2.trans fr3⟩
theorem all_c (h : PV P) : SCalls Tryz.prog 56 [P.av] H (fun r K => r = .ret (sl (P.tns.map tav)) ∧ FrN (lenH H) H K) := by
  have hg := h.ng
  have hlk := h.nl
  have hf := h.nf
  refine fn_go k56 rfl ?_
  intro Q hQ
  simp [c56, Prg.av]
  refine loop_keep (n := P.globals.length) (I56 P H [] (P.globals.map (fun x => (x.name, x.at'))) 4) ?_ ⟨0, .nils, H, by simp, .inl ⟨by simp, rfl⟩, .refl _ _, rfl, rfl⟩
  rintro m τ S ⟨i, v, M, hi, ht, fr, rfl, rfl⟩
  simp at hi
  by_cases hlt : i < P.globals.length
  · obtain ⟨M2, happ, ht2, fr2⟩ := ht.push (x := ((P.globals[i]).name, (P.globals[i]).at')) (lo := [(1, P.cells)]) fr (Nat.le_refl _) (by simp; omega)
    simp [Prg.cells] at happ
    simp [hlt, c56_1, Prg.cells, Glob.av, ht.lref, okD_proper ht.proper, ht.okv, happ, wrap_s (n := (i : Int) + 1) (by omega)]
    refine ⟨m - 1, by omega, i + 1, _, M2, by simp; omega, ?_, fr2, by simp; rfl, by simp [Prg.cells]⟩
    rw [List.take_succ_eq_append_getElem (by simpa using hlt)]
    simpa using ht2
  have ei : (P.globals.map (fun x => (x.name, x.at'))).take i = P.globals.map (fun x => (x.name, x.at')) := List.take_of_length_le (by simp; omega)
  rw [ei] at ht
  simp [hlt, c56_6, Prg.cells, ht.lref, okD_proper ht.proper, ht.okv]
  refine loop_keep (n := P.locks.length) (I56 P H (P.globals.map (fun x => (x.name, x.at'))) (P.locks.map (fun x => (x.name, x.at'))) 5) ?_ ⟨0, v, M, by simp, by simpa using ht, fr, rfl, rfl⟩
  clear hi hlt ei ht fr
  rintro m τ S ⟨i, v, M, hi, ht, fr, rfl, rfl⟩
  simp at hi
  by_cases hlt : i < P.locks.length
  · obtain ⟨M2, happ, ht2, fr2⟩ := ht.push (x := ((P.locks[i]).name, (P.locks[i]).at')) (lo := [(1, P.cells)]) fr (Nat.le_refl _) (by simp; omega)
    simp [Prg.cells] at happ
    simp [hlt, c56_2, Prg.cells, Lok.av, ht.lref, okD_proper ht.proper, ht.okv, happ, wrap_s (n := (i : Int) + 1) (by omega)]
    refine ⟨m - 1, by omega, i + 1, _, M2, by simp; omega, ?_, fr2, by simp; rfl, by simp [Prg.cells]⟩
    rw [List.take_succ_eq_append_getElem (by simpa using hlt)]
    simpa using ht2
  have ei : (P.locks.map (fun x => (x.name, x.at'))).take i = P.locks.map (fun x => (x.name, x.at')) := List.take_of_length_le (by simp; omega)
  rw [ei] at ht
  simp [hlt, c56_5, Prg.cells, ht.lref, okD_proper ht.proper, ht.okv]
  refine loop_keep (n := P.funcs.length) (I56 P H (P.globals.map (fun x => (x.name, x.at')) ++ P.locks.map (fun x => (x.name, x.at'))) (P.funcs.map (fun x => (x.name, x.at'))) 6) ?_ ⟨0, v, M, by simp, by simpa using ht, fr, rfl, rfl⟩
  clear hi hlt ei ht fr
  rintro m τ S ⟨i, v, M, hi, ht, fr, rfl, rfl⟩
  simp at hi
  by_cases hlt : i < P.funcs.length
  · obtain ⟨M2, happ, ht2, fr2⟩ := ht.push (x := ((P.funcs[i]).name, (P.funcs[i]).at')) (lo := [(1, P.cells)]) fr (Nat.le_refl _) (by simp; omega)
    simp [Prg.cells] at happ
    simp [hlt, c56_3, Prg.cells, Func.av, ht.lref, okD_proper ht.proper, ht.okv, happ, wrap_s (n := (i : Int) + 1) (by omega)]
    refine ⟨m - 1, by omega, i + 1, _, M2, by simp; omega, ?_, fr2, by simp; rfl, by simp [Prg.cells]⟩
    rw [List.take_succ_eq_append_getElem (by simpa using hlt)]
    simpa using ht2
  have ei : (P.funcs.map (fun x => (x.name, x.at'))).take i = P.funcs.map (fun x => (x.name, x.at')) := List.take_of_length_le (by simp; omega)
  rw [ei] at ht
  simp [hlt, c56_4, Prg.cells, ht.lref, okD_proper ht.proper, ht.okv, ht.proper, ht.erase]
  have hQ' := hQ _ _ ⟨rfl, fr⟩
  simpa [Prg.tns] using hQ'
end
end Go.Ab

namespace Go.Ab
open Go.Proofs

set_option maxRecDepth 100000
set_option maxHeartbeats 8000000
def Dup (T : List Tn) (i k : Nat) : Prop := ∃ a b, T[i]? = some a ∧ T[k]? = some b ∧ a.1 = b.1 ∧ b.2 < a.2
def NF (T : List Tn) (i k : Nat) (a : Int) : Prop := (a = -1 ∧ ∀ i' k', (i' < i ∨ i' = i ∧ k' < k) → ¬ Dup T i' k') ∨ (0 ≤ a ∧ ∃ i k, Dup T i k)
def Prg.zero : Prg := ⟨[], [], [], []⟩
theorem Prg.tns_names (P : Prg) : P.tns.map Prod.fst = P.names := by simp [Prg.tns, Prg.names, Function.comp_def]
theorem Prg.tns_ats (P : Prg) : P.tns.map Prod.snd = P.ats := by simp [Prg.tns, Prg.ats, Function.comp_def]
theorem dup_not {P : Prg} {i k : Nat} (h : Dup P.tns i k) : ¬ P.names.Nodup := by
  obtain ⟨a, b, ha, hb, h1, h2⟩ := h
  intro hn
  rw [← P.tns_names, List.nodup_iff_pairwise_ne, List.pairwise_iff_getElem] at hn
  obtain ⟨hi, rfl⟩ := List.getElem?_eq_some_iff.1 ha
  obtain ⟨hk, rfl⟩ := List.getElem?_eq_some_iff.1 hb
  rcases Nat.lt_trichotomy i k with h | h | h
  · exact hn i k (by simpa using hi) (by simpa using hk) h (by simpa using h1)
  · subst h; omega
  · exact hn k i (by simpa using hk) (by simpa using hi) h (by simpa using h1.symm)
theorem nodup_of {P : Prg} (h : PV P) (hn : ∀ i k, ¬ Dup P.tns i k) : P.names.Nodup := by
  rw [← P.tns_names, List.nodup_iff_pairwise_ne, List.pairwise_iff_getElem]
  intro i k hi hk hik he
  have hat := h.ats
  rw [← P.tns_ats, List.nodup_iff_pairwise_ne, List.pairwise_iff_getElem] at hat
  simp at hi hk he
  have := hat i k (by simpa using hi) (by simpa using hk) hik
  simp at this
  rcases Int.lt_or_gt_of_ne this with h | h
  · exact hn k i ⟨_, _, List.getElem?_eq_getElem hk, List.getElem?_eq_getElem hi, he.symm, h⟩
  · exact hn i k ⟨_, _, List.getElem?_eq_getElem hi, List.getElem?_eq_getElem hk, he, h⟩
section
variable {P : Prg} {H K : List AObj}
def I30 (P : Prg) (K : List AObj) (m : Nat) (τ : Env) (S : AS) : Prop := ∃ (i : Nat) (a : Int), i + m = P.tns.length ∧ NF P.tns i 0 a ∧
  τ = [(1, .lref 1 0), (2, .lref 2 0), (5, sl (P.tns.map tav)), (6, .int .i64 a), (7, .int .i64 i)] ∧ S = ⟨[(1, P.cells), (2, [.nils, .nils, .nils, .nils, .int .i64 0, .nils])], K, []⟩
def I30b (P : Prg) (K : List AObj) (i : Nat) (m : Nat) (τ : Env) (S : AS) : Prop := ∃ (k : Nat) (a : Int), k + m = P.tns.length ∧ NF P.tns i k a ∧
  τ = [(1, .lref 1 0), (2, .lref 2 0), (5, sl (P.tns.map tav)), (6, .int .i64 a), (7, .int .i64 i), (8, .int .i64 k)] ∧ S = ⟨[(1, P.cells), (2, [.nils, .nils, .nils, .nils, .int .i64 0, .nils])], K, []⟩
theorem NF.step {T : List Tn} {i k : Nat} {a : Int} (h : NF T i k a) (hd : ¬ Dup T i k) : NF T i (k + 1) a := by
  rcases h with ⟨rfl, h⟩ | h
  · refine .inl ⟨rfl, fun i' k' h' => ?_⟩
    rcases h' with h' | ⟨rfl, h'⟩
    · exact h _ _ (.inl h')
    · rcases Nat.lt_or_ge k' k with h2 | h2
      · exact h _ _ (.inr ⟨rfl, h2⟩)
      · have : k' = k := by omega
        subst this
        exact hd
  · exact .inr h
theorem NF.out {T : List Tn} {i k : Nat} {a : Int} (h : NF T i k a) (hk : T.length ≤ k) : NF T (i + 1) 0 a := by
  rcases h with ⟨rfl, h⟩ | h
  · refine .inl ⟨rfl, fun i' k' h' => ?_⟩
    intro hd
    have hlt : k' < T.length := by obtain ⟨_, _, -, h2, -⟩ := hd; exact (List.getElem?_eq_some_iff.1 h2).1
    refine h i' k' ?_ hd
    omega
  · exact .inr h
theorem New_c (h : PV P) : SCalls Tryz.prog 30 [P.av] H (fun r K => FrN (lenH H) H K ∧ (P.names.Nodup ∧ r = .ret (.tuple [Sc.av ⟨P, 0, []⟩, .int .i64 0, .int .i64 0]) ∨
    ¬ P.names.Nodup ∧ ∃ a : Int, r = .ret (.tuple [Sc.av ⟨.zero, 0, []⟩, .int .i64 12, .int .i64 a]))) := by
  have hlen : P.tns.length ≤ 56 := by have := h.ng; have := h.nl; have := h.nf; simp [Prg.tns]; omega
  have hpos : ∀ i (hi : i < P.tns.length), 0 ≤ (P.tns[i]).2 := fun i hi => h.pos _ (by rw [← P.tns_ats]; exact List.mem_map.2 ⟨_, List.getElem_mem hi, rfl⟩)
  refine fn_go k30 rfl ?_
  intro Q hQ
  have e : (AV.agg [sl (P.globals.map Glob.av), sl (P.locks.map Lok.av), sl (P.funcs.map Func.av), sl (P.threads.map Thr.av)]) = P.av := rfl
  simp [c30, Prg.av]
  rw [e]
  refine (all_c h).mono ?_
  rintro r K ⟨rfl, fr⟩
  simp
  refine loop_keep (n := P.tns.length) (I30 P K) ?_ ⟨0, -1, by simp, .inl ⟨rfl, by simp⟩, rfl, rfl⟩
  rintro m τ S ⟨i, a, hi, hnf, rfl, rfl⟩
  by_cases hlt : i < P.tns.length
  · simp [hlt, c30_4]
    refine loop_keep (n := P.tns.length) (I30b P K i) ?_ ⟨0, a, by simp, hnf, rfl, rfl⟩
    clear hnf
    rintro m' τ S ⟨k, a, hk, hnf, rfl, rfl⟩
    by_cases hlt' : k < P.tns.length
    · have hg : P.tns[i]? = some P.tns[i] := List.getElem?_eq_getElem hlt
      have hg' : P.tns[k]? = some P.tns[k] := List.getElem?_eq_getElem hlt'
      by_cases he : (P.tns[i]).1 = (P.tns[k]).1
      · by_cases hl : (P.tns[k]).2 < (P.tns[i]).2
        · have hd : ∃ i k, Dup P.tns i k := ⟨i, k, _, _, hg, hg', he, hl⟩
          by_cases ha : a < 0
          · simp [hlt, hlt', c30_2, tav, he, hl, ha, c30_1, wrap_s (n := (k : Int) + 1) (by omega)]
            exact ⟨m' - 1, by omega, k + 1, _, by omega, .inr ⟨hpos i hlt, hd⟩, by simp [tav], by simp⟩
          · by_cases hb : (P.tns[i]).2 < a
            · simp [hlt, hlt', c30_2, tav, he, hl, ha, hb, c30_1, wrap_s (n := (k : Int) + 1) (by omega)]
              exact ⟨m' - 1, by omega, k + 1, _, by omega, .inr ⟨hpos i hlt, hd⟩, by simp [tav], by simp⟩
            · simp [hlt, hlt', c30_2, tav, he, hl, ha, hb, c30_1, wrap_s (n := (k : Int) + 1) (by omega)]
              exact ⟨m' - 1, by omega, k + 1, a, by omega, .inr ⟨by omega, hd⟩, by simp [tav], by simp⟩
        · have hnd : ¬ Dup P.tns i k := by
            rintro ⟨x, y, hx, hy, h1, h2⟩
            rw [hg] at hx; rw [hg'] at hy
            cases hx; cases hy
            exact hl h2
          simp [hlt, hlt', c30_2, tav, he, hl, c30_1, wrap_s (n := (k : Int) + 1) (by omega)]
          exact ⟨m' - 1, by omega, k + 1, a, by omega, hnf.step hnd, by simp [tav], by simp⟩
      · have hnd : ¬ Dup P.tns i k := by
          rintro ⟨x, y, hx, hy, h1, h2⟩
          rw [hg] at hx; rw [hg'] at hy
          cases hx; cases hy
          exact he h1
        simp [hlt, hlt', c30_2, tav, he, c30_1, wrap_s (n := (k : Int) + 1) (by omega)]
        exact ⟨m' - 1, by omega, k + 1, a, by omega, hnf.step hnd, by simp [tav], by simp⟩
    · simp [hlt', c30_3, wrap_s (n := (i : Int) + 1) (by omega)]
      exact ⟨m - 1, by omega, i + 1, a, by omega, hnf.out (by omega), by simp, rfl⟩
  · simp [hlt, c30_6]
    rcases hnf with ⟨rfl, hno⟩ | ⟨ha, hd⟩
    · have hnd : P.names.Nodup := nodup_of h fun i' k' hd => by
        have hlt2 : i' < P.tns.length := by obtain ⟨_, _, h1, -⟩ := hd; exact (List.getElem?_eq_some_iff.1 h1).1
        exact hno i' k' (.inl (by omega)) hd
      simp [c30_5, Prg.cells]
      have hQ' := hQ _ _ ⟨fr, .inl ⟨hnd, rfl⟩⟩
      simpa [Sc.av, Sc.cells] using hQ'
    · simp [ha]
      obtain ⟨i', k', hd⟩ := hd
      have hQ' := hQ _ _ ⟨fr, .inr ⟨dup_not hd, a, rfl⟩⟩
      simpa [Sc.av, Sc.cells, Prg.zero] using hQ'
end
end Go.Ab

namespace Go.Ab
open Go.Proofs

set_option maxRecDepth 100000
set_option maxHeartbeats 8000000
mutual
/-- What an expression names is there. -/
def Ex.sc (P : Prg) (V : List (List UInt8)) : Ex → Prop
  | .mk k o n s ks a => Ex.scs P V ks ∧ (k = 2 → s ∈ V ∨ 0 ≤ P.gidx s ∧ (P.gat s).len = 0) ∧ (k = 3 → 0 ≤ P.gidx s ∧ (P.gat s).len ≠ 0) ∧
      (k = 6 → 0 ≤ o ∧ o ≤ 18 ∧ o ≠ 16) ∧ (k = 7 → 0 ≤ P.fix s ∧ (P.fat s).params.length = ks.length)
def Ex.scs (P : Prg) (V : List (List UInt8)) : List Ex → Prop
  | [] => True
  | e :: r => e.sc P V ∧ Ex.scs P V r
end
theorem Ex.scs_iff {P : Prg} {V : List (List UInt8)} {l : List Ex} : Ex.scs P V l ↔ ∀ e ∈ l, e.sc P V := by
  induction l with
  | nil => simp [Ex.scs]
  | cons e r ih => simp [Ex.scs, ih]
theorem Ex.oks_iff {l : List Ex} : Ex.oks l ↔ ∀ e ∈ l, e.ok := by
  induction l with
  | nil => simp [Ex.oks]
  | cons e r ih => simp [Ex.oks, ih]
theorem Ex.size_mem {l : List Ex} {e : Ex} (h : e ∈ l) : e.size ≤ Ex.sizes l := by
  induction l with
  | nil => simp at h
  | cons x r ih =>
    rcases List.mem_cons.1 h with rfl | h
    · simp [Ex.sizes]
    · have := ih h; simp [Ex.sizes]; omega
@[simp] theorem Ex.agg_cells (e : Ex) : (.agg e.av.cells : AV) = e.av := by cases e; simp [Ex.av]
def Sc.V (σ : Sc) : List (List UInt8) := σ.L.map Lv.name
def OfP (σ : Sc) (e : Ex) (H : List AObj) : AEnd → List AObj → Prop := fun r K => K = H ∧ ∃ (t u : Bool) (E A : Int), r = .ret (.agg [.bool t, .bool u, .int .i64 E, .int .i64 A]) ∧ (E = 0 → e.sc σ.P σ.V)
def OfC (σ : Sc) (e : Ex) : Prop := ∀ H, SCalls Tryz.prog 134 [σ.av, e.av] H (OfP σ e H)
section
variable {σ : Sc} {H : List AObj} {s : List UInt8}
theorem fits_c {t u : Bool × Bool} : SCalls Tryz.prog 108 [tyv t, tyv u] H (fun r K => K = H ∧ ∃ x : Int, r = .ret (.int .i64 x)) := by
  refine fn_go k108 rfl ?_
  intro Q hQ
  obtain ⟨t1, t2⟩ := t
  obtain ⟨u1, u2⟩ := u
  cases t1 <;> cases t2 <;> cases u1 <;> cases u2 <;> simp [c108, tyv, c108_1, c108_2] <;> exact hQ _ _ ⟨rfl, _, rfl⟩
theorem bad_c {e a : Int} : SCalls Tryz.prog 162 [.int .i64 e, .int .i64 a] H (fun r K => K = H ∧ r = .ret (.agg [.bool false, .bool false, .int .i64 e, .int .i64 a])) := by
  refine fn_go k162 rfl ?_
  intro Q hQ
  simp [c162]
  exact hQ _ _ ⟨rfl, rfl⟩
theorem Sc.kind4 {σ : Sc} {s : List UInt8} (h : σ.kind s = 4) : s ∈ σ.V := by
  unfold Sc.kind at h
  rcases fidx_cases σ.V s with ⟨i, h1, h2, -⟩ | ⟨h1, h2⟩
  · exact List.mem_of_getElem? h2
  · have : σ.vidx s = -1 := h1
    rw [this] at h
    by_cases h3 : 0 ≤ σ.P.gidx s <;> by_cases h4 : 0 ≤ σ.P.lidx s <;> by_cases h5 : 0 ≤ σ.P.fix s <;> simp [h3, h4, h5] at h
theorem Sc.kind1 {σ : Sc} {s : List UInt8} (h : σ.kind s = 1) : 0 ≤ σ.P.gidx s := by
  unfold Sc.kind at h
  by_cases h3 : 0 ≤ σ.P.gidx s <;> by_cases h4 : 0 ≤ σ.P.lidx s <;> by_cases h5 : 0 ≤ σ.P.fix s <;> by_cases h6 : 0 ≤ σ.vidx s <;> simp [h3, h4, h5, h6] at h ⊢
theorem name7_c (h : σ.Ok) {k o n a : Int} {ks : List Ex} (hok : (Ex.mk k o n s ks a).ok) (hk : k = 2 ∨ k = 3) (ih : ∀ e ∈ ks, OfC σ e) : SCalls Tryz.prog 161 [σ.av, (Ex.mk k o n s ks a).av] H (OfP σ (.mk k o n s ks a) H) := by
  refine fn_go k161 rfl ?_
  intro Q hQ
  simp [c161, Sc.av, Sc.cells, Ex.av]
  refine (kind_c h).mono ?_
  rintro r K ⟨rfl, rfl⟩
  simp
  refine (glob_c h).mono ?_
  rintro r K ⟨rfl, rfl⟩
  simp [Glob.av]
  by_cases h0 : σ.kind s = 0
  · simp [h0]
    refine bad_c.mono ?_
    rintro r K ⟨rfl, rfl⟩
    simp
    exact hQ _ _ ⟨rfl, _, _, _, _, rfl, by simp⟩
  by_cases h2 : k = 2
  · subst h2
    have hks : ks = [] := by simp [Ex.ok] at hok; exact hok.2
    by_cases h4 : σ.kind s = 4
    · simp [h0, c161_7, h4]
      refine (type_c h).mono ?_
      rintro r K ⟨rfl, rfl⟩
      simp [tyv]
      exact hQ _ _ ⟨rfl, _, _, _, _, rfl, fun _ => by simp [Ex.sc, hks, Ex.scs, Sc.kind4 h4]⟩
    · by_cases h1 : σ.kind s = 1
      · by_cases hl : (σ.P.gat s).len = 0
        · simp [h0, c161_7, h4, h1, hl]
          refine (type_c h).mono ?_
          rintro r K ⟨rfl, rfl⟩
          simp [tyv]
          exact hQ _ _ ⟨rfl, _, _, _, _, rfl, fun _ => by simp [Ex.sc, hks, Ex.scs, Sc.kind1 h1, hl]⟩
        · simp [h0, c161_7, h4, h1, hl, c161_1]
          refine bad_c.mono ?_
          rintro r K ⟨rfl, rfl⟩
          simp
          exact hQ _ _ ⟨rfl, _, _, _, _, rfl, by simp⟩
      · simp [h0, c161_7, h4, h1, c161_1]
        refine bad_c.mono ?_
        rintro r K ⟨rfl, rfl⟩
        simp
        exact hQ _ _ ⟨rfl, _, _, _, _, rfl, by simp⟩
  · have h3 : k = 3 := by omega
    subst h3
    obtain ⟨x, rfl⟩ : ∃ x, ks = [x] := by simp [Ex.ok] at hok; exact List.length_eq_one_iff.1 hok.2
    have hbad : ∀ (e a : Int) (Q' : AEnd → List AObj → Prop), e ≠ 0 → True := fun _ _ _ _ => trivial
    by_cases h1 : σ.kind s = 1 ∧ (σ.P.gat s).len ≠ 0
    · obtain ⟨h1, hl⟩ := h1
      obtain ⟨xk, xo, xn, xs, xks, xa⟩ := x
      simp [h0, c161_7, c161_6, h1, hl, c161_5, Ex.avs, Ex.av]
      refine (ih (.mk xk xo xn xs xks xa) (by simp) K).mono ?_
      rintro r K ⟨rfl, t, u, E, A, rfl, hE⟩
      by_cases hE0 : E = 0
      · have hs : (Ex.mk 3 o n s [.mk xk xo xn xs xks xa] a).sc σ.P σ.V := by simp [Ex.sc, Ex.scs, Sc.kind1 h1, hl]; simpa [Ex.sc] using hE hE0
        cases t <;> cases u <;> simp [hE0, c161_4, c161_3, c161_2]
        · exact hQ _ _ ⟨rfl, _, _, _, _, rfl, fun _ => hs⟩
        all_goals
          refine bad_c.mono ?_
          rintro r K ⟨rfl, rfl⟩
          simp
          exact hQ _ _ ⟨rfl, _, _, _, _, rfl, by simp⟩
      · simp [hE0]
        exact hQ _ _ ⟨rfl, _, _, _, _, rfl, fun h => absurd h hE0⟩
    · by_cases h1' : σ.kind s = 1
      · have hl : (σ.P.gat s).len = 0 := by simpa [h1'] using h1
        simp [h0, c161_7, c161_6, h1', hl]
        refine bad_c.mono ?_
        rintro r K ⟨rfl, rfl⟩
        simp
        exact hQ _ _ ⟨rfl, _, _, _, _, rfl, by simp⟩
      · simp [h0, c161_7, c161_6, h1']
        refine bad_c.mono ?_
        rintro r K ⟨rfl, rfl⟩
        simp
        exact hQ _ _ ⟨rfl, _, _, _, _, rfl, by simp⟩
end
end Go.Ab

namespace Go.Ab
open Go.Proofs

set_option maxRecDepth 100000
set_option maxHeartbeats 8000000
section
variable {σ : Sc} {H : List AObj} {s : List UInt8}
theorem two7_c (h : σ.Ok) {o n a : Int} {x y : Ex} (ihx : OfC σ x) (ihy : OfC σ y) : SCalls Tryz.prog 163 [σ.av, (Ex.mk 6 o n s [x, y] a).av] H (OfP σ (.mk 6 o n s [x, y] a) H) := by
  refine fn_go k163 rfl ?_
  intro Q hQ
  obtain ⟨xk, xo, xn, xs, xks, xa⟩ := x
  obtain ⟨yk, yo, yn, ys, yks, ya⟩ := y
  simp [c163, Sc.av, Sc.cells, Ex.av, Ex.avs]
  refine (ihx H).mono ?_
  rintro r K ⟨rfl, t, u, E, A, rfl, hE⟩
  by_cases hE0 : E = 0
  · have hx := hE hE0
    simp [hE0, c163_7]
    refine (ihy K).mono ?_
    rintro r K ⟨rfl, t', u', E', A', rfl, hE'⟩
    by_cases hE0' : E' = 0
    · have hy := hE' hE0'
      by_cases hr : o < 0 ∨ 18 < o ∨ o = 16
      · have q17 : o ≠ 17 := by omega
        have q18 : o ≠ 18 := by omega
        have q10 : o ≠ 10 := by omega
        have q11 : o ≠ 11 := by omega
        rcases (show o < 0 ∨ ¬ o < 0 ∧ 18 < o ∨ ¬ o < 0 ∧ ¬ 18 < o ∧ o = 16 by omega) with h1 | ⟨h1, h2⟩ | ⟨h1, h2, h3⟩
        · simp [hE0', c163_6, c163_5, q17, q18, q10, q11, h1]
          refine bad_c.mono ?_
          rintro r K ⟨rfl, rfl⟩
          simp
          exact hQ _ _ ⟨rfl, _, _, _, _, rfl, by simp⟩
        · simp [hE0', c163_6, c163_5, q17, q18, q10, q11, h1, h2]
          refine bad_c.mono ?_
          rintro r K ⟨rfl, rfl⟩
          simp
          exact hQ _ _ ⟨rfl, _, _, _, _, rfl, by simp⟩
        · simp [hE0', c163_6, c163_5, h3]
          refine bad_c.mono ?_
          rintro r K ⟨rfl, rfl⟩
          simp
          exact hQ _ _ ⟨rfl, _, _, _, _, rfl, by simp⟩
      · have h16 : o ≠ 16 := by omega
        have h1 : ¬ o < 0 := by omega
        have h2 : ¬ 18 < o := by omega
        have hs : (Ex.mk 6 o n s [.mk xk xo xn xs xks xa, .mk yk yo yn ys yks ya] a).sc σ.P σ.V := by
          simp only [Ex.sc, Ex.scs] at hx hy ⊢
          exact ⟨⟨hx, hy, trivial⟩, by simp, by simp, by omega, by simp⟩
        have hbad : ∀ {A : Int} {e : Int} {K : List AObj} {τ : Env} {S : AS}, e ≠ 0 → Q (.ret (.agg [.bool false, .bool false, .int .i64 e, .int .i64 A])) K → True := fun _ _ => trivial
        by_cases h17 : o = 17 <;> by_cases h18 : o = 18 <;> by_cases h10 : o = 10 <;> by_cases h11 : o = 11 <;> by_cases h3 : o = 3 <;> by_cases h4 : o = 4 <;> (first | (exfalso; omega) | skip) <;> cases t <;> cases t' <;> cases u <;> cases u'
        all_goals
          simp [hE0', c163_6, c163_5, h1, h2, h16, h17, h18, h10, h11, h3, h4, c163_4, c163_3, c163_2, c163_1]
          first
            | exact hQ _ _ ⟨rfl, _, _, _, _, rfl, fun _ => hs⟩
            | (refine bad_c.mono ?_
               rintro r K ⟨rfl, rfl⟩
               simp
               exact hQ _ _ ⟨rfl, _, _, _, _, rfl, by simp⟩)
    · simp [hE0']
      exact hQ _ _ ⟨rfl, _, _, _, _, rfl, fun h => absurd h hE0'⟩
  · simp [hE0]
    exact hQ _ _ ⟨rfl, _, _, _, _, rfl, fun h => absurd h hE0⟩
end
end Go.Ab

namespace Go.Ab
open Go.Proofs

set_option maxRecDepth 100000
set_option maxHeartbeats 8000000
section
variable {σ : Sc} {H : List AObj} {s : List UInt8}
def I164 (σ : Sc) (ks : List Ex) (S0 : AS) (m : Nat) (τ : Env) (S : AS) : Prop := ∃ i : Nat, i + m = ks.length ∧ (∀ (j : Nat) (x : Ex), j < i → ks[j]? = some x → x.sc σ.P σ.V) ∧
  τ = [(2, .lref 2 0), (3, .lref 3 0), (4, .lref 4 0), (6, .lref 6 0), (8, .int .i64 i)] ∧ S = S0
theorem call7_c (h : σ.Ok) {o n a : Int} {ks : List Ex} (hok : (Ex.mk 7 o n s ks a).ok) (hsz : Ex.sizes ks ≤ 2 ^ 31) (ih : ∀ e ∈ ks, OfC σ e) : SCalls Tryz.prog 164 [σ.av, (Ex.mk 7 o n s ks a).av] H (OfP σ (.mk 7 o n s ks a) H) := by
  refine fn_go k164 rfl ?_
  intro Q hQ
  have hln := Ex.length_le ks
  simp [c164, Sc.av, Sc.cells, Ex.av]
  refine (kind_c h).mono ?_
  rintro r K ⟨rfl, rfl⟩
  simp
  refine (func_c h).mono ?_
  rintro r K ⟨rfl, rfl⟩
  generalize hf : σ.P.fat s = f
  obtain ⟨fa, fn, fp, ft, fs, fb, ⟨fk, fo, fnn, fns, fks, fat⟩⟩ := f
  simp [Func.av, Ex.av]
  by_cases h0 : σ.kind s = 0
  · simp [h0]
    refine bad_c.mono ?_
    rintro r K ⟨rfl, rfl⟩
    simp
    exact hQ _ _ ⟨rfl, _, _, _, _, rfl, by simp⟩
  by_cases hn : σ.P.fix s < 0
  · simp [h0, c164_6, hn]
    refine bad_c.mono ?_
    rintro r K ⟨rfl, rfl⟩
    simp
    exact hQ _ _ ⟨rfl, _, _, _, _, rfl, by simp⟩
  by_cases hl : fp.length = ks.length
  · simp [h0, c164_6, hn, hl, Ex.avs_eq, c164_5]
    refine loop_keep (n := ks.length) (I164 σ ks _) ?_ ⟨0, by simp, by simp, rfl, rfl⟩
    rintro m τ S ⟨i, hi, hp, rfl, rfl⟩
    by_cases hlt : i < ks.length
    · have hg : ks[i]? = some ks[i] := List.getElem?_eq_getElem hlt
      have hg2 : (ks.map Ex.av)[i]? = some (ks[i]).av := by simp [hlt]
      have hpl : fp[i]? = some (fp[i]'(by omega)) := List.getElem?_eq_getElem (by omega)
      have hpl2 : (fp.map Para.av)[i]? = some (fp[i]'(by omega)).av := by simp [hl, hlt]
      have hlI : (i : Int) < ((ks.map Ex.av).length : Int) := by simp; omega
      have hih := ih ks[i] (List.getElem_mem hlt) K
      have hsc : ∀ t, (ks[i].sc σ.P σ.V) → t < i + 1 → ∀ x, ks[t]? = some x → x.sc σ.P σ.V := by
        intro t ht hlt x hx
        rcases Nat.lt_or_ge t i with h | h
        · exact hp t x h hx
        · have : t = i := by omega
          subst this
          rw [hg] at hx; cases hx; exact ht
      generalize ks.map Ex.av = kav at hg2 hlI ⊢
      generalize fp.map Para.av = pav at hpl2 ⊢
      generalize fp[i]'(by omega) = pp at hpl2
      obtain ⟨pn, pt, ps⟩ := pp
      generalize ks[i] = x at hg hg2 hih hsc
      obtain ⟨xk, xo, xn, xs, xks, xa⟩ := x
      simp [hlI, c164_3, hg2, Ex.av]
      refine hih.mono ?_
      rintro r K ⟨rfl, t, u, E, A, rfl, hE⟩
      by_cases hE0 : E = 0
      · simp [hE0, c164_1, hpl2, Para.av]
        refine (fits_c (t := (t, u)) (u := (pt, ps))).mono ?_
        rintro r K ⟨rfl, x, rfl⟩
        by_cases hx : x = 0
        · simp [hx, c164_2, wrap_s (n := (i : Int) + 1) (by omega)]
          exact ⟨m - 1, by omega, i + 1, by omega, fun t x ht hx => hsc t (hE hE0) ht x hx, by simp, rfl⟩
        · simp [hx, hg2, Ex.av]
          refine bad_c.mono ?_
          rintro r K ⟨rfl, rfl⟩
          simp
          exact hQ _ _ ⟨rfl, _, _, _, _, rfl, fun h => absurd h hx⟩
      · simp [hE0]
        exact hQ _ _ ⟨rfl, _, _, _, _, rfl, fun h => absurd h hE0⟩
    · simp [hlt, c164_4]
      refine hQ _ _ ⟨rfl, _, _, _, _, rfl, fun _ => ?_⟩
      simp only [Ex.sc]
      refine ⟨Ex.scs_iff.2 fun e he => ?_, by simp, by simp, by simp, fun _ => ⟨by omega, by rw [hf]; exact hl⟩⟩
      obtain ⟨j, hj, rfl⟩ := List.mem_iff_getElem.1 he
      exact hp j _ (by omega) (List.getElem?_eq_getElem hj)
  · have hl' : ¬ (fp.length : Int) = ks.length := by omega
    simp [h0, c164_6, hn, hl', Ex.avs_eq]
    refine bad_c.mono ?_
    rintro r K ⟨rfl, rfl⟩
    simp
    exact hQ _ _ ⟨rfl, _, _, _, _, rfl, by simp⟩
end
end Go.Ab

namespace Go.Ab
open Go.Proofs

set_option maxRecDepth 100000
set_option maxHeartbeats 8000000
section
variable {σ : Sc} {s : List UInt8}
theorem Of_c (h : σ.Ok) : ∀ (n : Nat) (e : Ex), e.size ≤ n → e.ok → e.size ≤ 2 ^ 31 → OfC σ e := by
  intro n
  induction n with
  | zero => intro e hn; cases e; simp [Ex.size] at hn
  | succ m ihm =>
    rintro ⟨k, o, n, s, ks, a⟩ hsz hok hbig H
    simp only [Ex.size] at hsz hbig
    have ihk : ∀ e ∈ ks, OfC σ e := fun e he => by
      have h1 := Ex.size_mem he
      have h2 : Ex.oks ks := by simp only [Ex.ok] at hok; exact hok.1
      exact ihm e (by omega) (Ex.oks_iff.1 h2 e he) (by omega)
    refine fn_go k134 rfl ?_
    intro Q hQ
    have hcase := hok
    simp only [Ex.ok] at hcase
    obtain ⟨hoks, hcase⟩ := hcase
    rcases hcase with ⟨h012, hks⟩ | ⟨h345, hks⟩ | ⟨h6, hks⟩ | h7
    · rcases h012 with rfl | rfl | rfl
      · simp [c134, Sc.av, Sc.cells, Ex.av]
        exact hQ _ _ ⟨rfl, _, _, _, _, rfl, fun _ => by simp [Ex.sc, hks, Ex.scs]⟩
      · simp [c134, Sc.av, Sc.cells, Ex.av]
        exact hQ _ _ ⟨rfl, _, _, _, _, rfl, fun _ => by simp [Ex.sc, hks, Ex.scs]⟩
      · simp [c134, Sc.av, Sc.cells, Ex.av, c134_3]
        refine (name7_c h hok (.inl rfl) ihk).mono ?_
        rintro r K ⟨rfl, t, u, E, A, rfl, hE⟩
        simp
        exact hQ _ _ ⟨rfl, _, _, _, _, rfl, hE⟩
    · rcases h345 with rfl | h45
      · simp [c134, Sc.av, Sc.cells, Ex.av, c134_3]
        refine (name7_c h hok (.inr rfl) ihk).mono ?_
        rintro r K ⟨rfl, t, u, E, A, rfl, hE⟩
        simp
        exact hQ _ _ ⟨rfl, _, _, _, _, rfl, hE⟩
      · obtain ⟨x, rfl⟩ := List.length_eq_one_iff.1 hks
        have hx := ihk x (by simp) H
        have hs : x.sc σ.P σ.V → (Ex.mk k o n s [x] a).sc σ.P σ.V := fun h => by
          simp only [Ex.sc, Ex.scs]
          exact ⟨⟨h, trivial⟩, by omega, by omega, by omega, by omega⟩
        obtain ⟨xk, xo, xn, xs, xks, xa⟩ := x
        rcases h45 with rfl | rfl
        all_goals
          simp [c134, Sc.av, Sc.cells, Ex.av, Ex.avs, c134_3, c134_2]
          refine hx.mono ?_
          rintro r K ⟨rfl, t, u, E, A, rfl, hE⟩
          by_cases hE0 : E = 0
          · cases t <;> simp [hE0, c134_1]
            all_goals
              first
                | exact hQ _ _ ⟨rfl, _, _, _, _, rfl, fun _ => hs (hE hE0)⟩
                | (refine bad_c.mono ?_
                   rintro r K ⟨rfl, rfl⟩
                   simp
                   exact hQ _ _ ⟨rfl, _, _, _, _, rfl, by simp⟩)
          · simp [hE0, c134_1]
            exact hQ _ _ ⟨rfl, _, _, _, _, rfl, fun h => absurd h hE0⟩
    · subst h6
      obtain ⟨x, y, rfl⟩ : ∃ x y, ks = [x, y] := by
        rcases ks with _ | ⟨x, _ | ⟨y, _ | _⟩⟩ <;> simp at hks
        exact ⟨x, y, rfl⟩
      simp [c134, Sc.av, Sc.cells, Ex.av, c134_3, c134_2]
      refine (two7_c h (ihk x (by simp)) (ihk y (by simp))).mono ?_
      rintro r K ⟨rfl, t, u, E, A, rfl, hE⟩
      simp
      exact hQ _ _ ⟨rfl, _, _, _, _, rfl, hE⟩
    · subst h7
      simp [c134, Sc.av, Sc.cells, Ex.av, c134_3, c134_2]
      refine (call7_c h hok (by omega) ihk).mono ?_
      rintro r K ⟨rfl, t, u, E, A, rfl, hE⟩
      simp
      exact hQ _ _ ⟨rfl, _, _, _, _, rfl, hE⟩
end
end Go.Ab

namespace Go.Ab
open Go.Proofs

set_option maxRecDepth 100000
set_option maxHeartbeats 8000000
theorem take1_map {α β : Type} {l : List α} {f : α → β} {i : Nat} {x : α} (h : l[i]? = some x) : ((l.map f).drop i).take 1 = [f x] := by
  obtain ⟨hi, rfl⟩ := List.getElem?_eq_some_iff.1 h
  rw [List.drop_eq_getElem_cons (by simpa using hi)]
  simp
/-- Who uses a global, or changes it: nil, or a slice of one's own. -/
def uv : Option (Nat × List Int) → AV
  | none => .nils
  | some (i, l) => .hs i 1 0 l.length
def ints (l : List Int) : List AV := l.map fun x => .int .i64 x
structure UI (n U c : Nat) (us : List (Option (Nat × List Int))) (H : List AObj) : Prop where
  hU : getH H U = some (.cells (us.map uv))
  ids : ∀ (k i : Nat) (l : List Int), us[k]? = some (some (i, l)) → getH H i = some (.cells (ints l)) ∧ n ≤ i ∧ i ≠ U ∧ i ≠ c ∧ l.Nodup ∧ ∀ x ∈ l, 0 ≤ x ∧ x < 4
  dj : ∀ (k k' i : Nat) (l l' : List Int), us[k]? = some (some (i, l)) → us[k']? = some (some (i, l')) → k = k'
def HV (hv : AV) (held : List (List UInt8)) : Prop := hv = .nils ∧ held = [] ∨ ∃ t, hv = .vs t (held.map AV.str) ∧ held ≠ []
/-- The checker, and where it is. -/
structure Ck (n c : Nat) (σ : Sc) (F Who : Int) (held : List (List UInt8)) (E : Int) (H : List AObj) : Prop where
  st : ∃ (A : Int) (hv : AV) (U : Nat) (us : List (Option (Nat × List Int))), getH H c = some (.cells (σ.cells ++ [.int .i64 F, .int .i64 Who, hv, .hs U 2 0 σ.P.globals.length, .int .i64 E, .int .i64 A])) ∧ HV hv held ∧ UI n U c us H ∧
      us.length = 2 * σ.P.globals.length ∧ n ≤ U ∧ U ≠ c
  nc : n ≤ c
  nH : n ≤ lenH H
  ok : σ.Ok
  who : 0 ≤ Who ∧ Who < 4
  hl : held.length ≤ 2 ^ 32
theorem HV.len {hv : AV} {held : List (List UInt8)} (h : HV hv held) (S : AS) : lenA S .l hv = some held.length := by
  rcases h with ⟨rfl, rfl⟩ | ⟨t, rfl, -⟩ <;> simp
theorem HV.proper {hv : AV} {held : List (List UInt8)} (h : HV hv held) : hv.proper = true := by rcases h with ⟨rfl, rfl⟩ | ⟨t, rfl, -⟩ <;> rfl
theorem HV.okv {hv : AV} {held : List (List UInt8)} (h : HV hv held) : hv.okv = true := by rcases h with ⟨rfl, rfl⟩ | ⟨t, rfl, -⟩ <;> rfl
theorem HV.cells {hv : AV} {held : List (List UInt8)} (h : HV hv held) : hv.cells = [hv] := by rcases h with ⟨rfl, rfl⟩ | ⟨t, rfl, -⟩ <;> rfl
theorem HV.lref {hv : AV} {held : List (List UInt8)} (h : HV hv held) (m : Nat) : isLref m hv = false := by rcases h with ⟨rfl, rfl⟩ | ⟨t, rfl, -⟩ <;> rfl
theorem UI.set {n U c : Nat} {us : List (Option (Nat × List Int))} {H : List AObj} {o : AObj} (h : UI n U c us H) (hU : U ≠ c) : UI n U c us (setH H c o) :=
  ⟨by rw [getH_set_ne hU.symm, h.hU], fun k i l hk => by
    obtain ⟨h1, h2, h3, h4, h5⟩ := h.ids k i l hk
    exact ⟨by rw [getH_set_ne h4.symm, h1], h2, h3, h4, h5⟩, h.dj⟩
section
variable {n c : Nat} {σ : Sc} {F Who E : Int} {held : List (List UInt8)} {H : List AObj} {s : List UInt8}
/-- The checker's own cells are stored again. -/
theorem Ck.upd {σ' : Sc} {F' Who' E' A : Int} {held' : List (List UInt8)} {hv : AV} {U : Nat} {us : List (Option (Nat × List Int))} (h : Ck n c σ F Who held E H) (hh : HV hv held') (hu : UI n U c us H) (hul : us.length = 2 * σ'.P.globals.length)
    (hnU : n ≤ U) (hUc : U ≠ c) (ok : σ'.Ok) (who : 0 ≤ Who' ∧ Who' < 4) (hl : held'.length ≤ 2 ^ 32) :
    Ck n c σ' F' Who' held' E' (setH H c (.cells (σ'.cells ++ [.int .i64 F', .int .i64 Who', hv, .hs U 2 0 σ'.P.globals.length, .int .i64 E', .int .i64 A]))) := by
  obtain ⟨A0, hv0, U0, us0, hc, -⟩ := h.st
  exact ⟨⟨A, hv, U, us, getH_set_self (by simp [hc]), hh, hu.set hUc, hul, hnU, hUc⟩, h.nc, by simpa using h.nH, ok, who, hl⟩
theorem cfail_c (h : Ck n c σ F Who held E H) {e a : Int} : SCalls Tryz.prog 87 [.ptr c 0, .int .i64 e, .int .i64 a] H
    (fun r K => r = .ret (.tuple []) ∧ ∃ E', (E' = 0 → E = 0 ∧ e = 0) ∧ Ck n c σ F Who held E' K ∧ FrN n H K) := by
  obtain ⟨A, hv, U, us, hc, hh, hu, hul, hnU, hUc⟩ := h.st
  refine fn_go k87 rfl ?_
  intro Q hQ
  by_cases hE : E = 0
  · by_cases he : e = 0
    · simp [c87, hc, Sc.cells, hE, he]
      exact hQ _ _ ⟨rfl, 0, fun _ => ⟨hE, he⟩, ⟨⟨A, hv, U, us, by rw [hc, hE], hh, hu, hul, hnU, hUc⟩, h.nc, h.nH, h.ok, h.who, h.hl⟩, .refl _ _⟩
    · simp [c87, hc, Sc.cells, hE, he]
      exact hQ _ _ ⟨rfl, e, fun h => absurd h he, h.upd hh hu hul hnU hUc h.ok h.who h.hl, .set h.nc⟩
  · simp [c87, hc, Sc.cells, hE]
    exact hQ _ _ ⟨rfl, E, fun h => absurd h hE, h, .refl _ _⟩
def I174 (x : Int) (v : AV) (l : List Int) (H : List AObj) (m : Nat) (τ : Env) (S : AS) : Prop := ∃ i : Nat, i + m = l.length ∧ (∀ j, j < i → l[j]? ≠ some x) ∧ τ = [(0, v), (1, .int .i64 x), (5, .int .i64 i)] ∧ S = ⟨[], H, []⟩
theorem has_c {u : Option (Nat × List Int)} {x : Int} (hu : ∀ i l, u = some (i, l) → getH H i = some (.cells (ints l)) ∧ l.length ≤ 2 ^ 32) :
    SCalls Tryz.prog 174 [uv u, .int .i64 x] H (fun r K => K = H ∧ r = .ret (.bool (match u with | none => false | some (_, l) => decide (x ∈ l)))) := by
  refine fn_go k174 rfl ?_
  intro Q hQ
  rcases u with _ | ⟨i0, l⟩
  · simp [c174, uv]
    refine loop_keep (n := 0) (I174 x .nils [] H) ?_ ⟨0, by simp, by simp, rfl, rfl⟩
    rintro m τ S ⟨i, hi, hno, rfl, rfl⟩
    simp [c174_3, show ¬ (i : Int) < 0 by omega]
    exact hQ _ _ ⟨rfl, rfl⟩
  · obtain ⟨hg, hl⟩ := hu i0 l rfl
    have ht1 := fun (i : Nat) (h : i < l.length) => take1_map (f := fun x => AV.int .i64 x) (List.getElem?_eq_getElem h)
    simp [c174, uv]
    refine loop_keep (n := l.length) (I174 x (.hs i0 1 0 l.length) l H) ?_ ⟨0, by simp, by simp, rfl, rfl⟩
    rintro m τ S ⟨i, hi, hno, rfl, rfl⟩
    by_cases hlt : i < l.length
    · by_cases he : l[i] = x
      · simp [hlt, c174_2, hg, ints, he, ht1 i hlt, Nat.succ_le_of_lt hlt]
        have hm : x ∈ l := he ▸ List.getElem_mem hlt
        have := hQ _ _ ⟨rfl, rfl⟩
        simpa [hm] using this
      · simp [hlt, c174_2, hg, ints, he, ht1 i hlt, Nat.succ_le_of_lt hlt, c174_1, wrap_s (n := (i : Int) + 1) (by omega)]
        refine ⟨m - 1, by omega, i + 1, by omega, fun j hj => ?_, by simp, rfl⟩
        rcases Nat.lt_or_ge j i with h | h
        · exact hno j h
        · have : j = i := by omega
          subst this
          simp [hlt, he]
    · have hm : x ∉ l := fun hm => by
        obtain ⟨j, hj, rfl⟩ := List.mem_iff_getElem.1 hm
        exact hno j (by omega) (List.getElem?_eq_getElem hj)
      simp [hlt, c174_3]
      have := hQ _ _ ⟨rfl, rfl⟩
      simpa [hm] using this
end
end Go.Ab

namespace Go.Ab
open Go.Proofs

set_option maxRecDepth 100000
set_option maxHeartbeats 8000000
@[simp] theorem uv_okv (u : Option (Nat × List Int)) : (uv u).okv = true := by rcases u with _ | ⟨i, l⟩ <;> rfl
@[simp] theorem uv_proper (u : Option (Nat × List Int)) : (uv u).proper = true := by rcases u with _ | ⟨i, l⟩ <;> rfl
@[simp] theorem uv_erase (u : Option (Nat × List Int)) : (uv u).erase = uv u := by rcases u with _ | ⟨i, l⟩ <;> rfl
@[simp] theorem uv_cells (u : Option (Nat × List Int)) : (uv u).cells = [uv u] := by rcases u with _ | ⟨i, l⟩ <;> rfl
@[simp] theorem uv_drop1 (u : Option (Nat × List Int)) : (uv u).drop1 = uv u := by rcases u with _ | ⟨i, l⟩ <;> rfl
@[simp] theorem uv_lref (q : Nat) (u : Option (Nat × List Int)) : isLref q (uv u) = false := by rcases u with _ | ⟨i, l⟩ <;> rfl
@[simp] theorem uv_okD (q : AOper) (os : List AOper) (τ : Env) (u : Option (Nat × List Int)) : okD q os (uv u) τ = true := okD_proper (uv_proper u)
section
variable {n c : Nat} {σ : Sc} {F Who E : Int} {held : List (List UInt8)} {H : List AObj} {s : List UInt8}
def I160 (c n0 : Nat) (at' : Int) (ch : Bool) (gi : Int) (S0 : AS) (L : Nat) (m : Nat) (τ : Env) (S : AS) : Prop :=
  ∃ (i : Nat) (b : Bool), i + m = L ∧ τ = [(0, .ptr c 0), (2, .int .i64 at'), (3, .bool ch), (8, .lref 8 0), (9, .int .i64 gi), (10, .bool b), (11, .int .i64 i)] ∧ S = S0
def UseP (n c : Nat) (σ : Sc) (F Who : Int) (held : List (List UInt8)) (E : Int) (H : List AObj) : AEnd → List AObj → Prop := fun r K =>
  r = .ret (.tuple []) ∧ ∃ E', (E' = 0 → E = 0) ∧ Ck n c σ F Who held E' K ∧ FrN n H K
theorem nodup_len : ∀ (l S : List Int), l.Nodup → (∀ x ∈ l, x ∈ S) → l.length ≤ S.length := by
  intro l
  induction l with
  | nil => simp
  | cons x r ih =>
    intro S hn hs
    obtain ⟨h1, h2⟩ := List.nodup_cons.1 hn
    have hx : x ∈ S := hs x (by simp)
    have := ih (S.erase x) h2 fun y hy => (List.mem_erase_of_ne (fun e => h1 (by subst e; exact hy))).2 (hs y (by simp [hy]))
    rw [List.length_erase_of_mem hx] at this
    have hp := List.length_pos_of_mem hx
    simp; omega
theorem four_len {l : List Int} (h : l.Nodup) (hr : ∀ x ∈ l, 0 ≤ x ∧ x < 4) : l.length ≤ 4 :=
  nodup_len l [0, 1, 2, 3] h fun x hx => by
    have := hr x hx
    simp
    omega
theorem Ck.push {A : Int} {hv : AV} {U : Nat} {us : List (Option (Nat × List Int))} {j : Nat} {l' : List Int} {K' : List AObj} (h : Ck n c σ F Who held E H)
    (hc : getH H c = some (.cells (σ.cells ++ [.int .i64 F, .int .i64 Who, hv, .hs U 2 0 σ.P.globals.length, .int .i64 E, .int .i64 A]))) (hh : HV hv held) (hu : UI n U c us H)
    (hul : us.length = 2 * σ.P.globals.length) (hnU : n ≤ U) (hUc : U ≠ c) (hj : j < us.length) (hn : l'.Nodup) (hr : ∀ x ∈ l', 0 ≤ x ∧ x < 4) (hlen : lenH H ≤ lenH K')
    (hU' : getH K' U = some (.cells ((us.map uv).take j ++ .hs (lenH H + 1) 1 0 l'.length :: (us.map uv).drop (j + 1)))) (hid : getH K' (lenH H + 1) = some (.cells (ints l')))
    (hold : ∀ i, i < lenH H → i ≠ U → (∀ l, us[j]? ≠ some (some (i, l))) → getH K' i = getH H i) : Ck n c σ F Who held E K' ∧ FrN n H K' := by
  have hUlt := getH_lt (H := H) (i := U) (by simp [hu.hU])
  have hclt := getH_lt (H := H) (i := c) (by simp [hc])
  have hset : ((us.map uv).take j ++ .hs (lenH H + 1) 1 0 l'.length :: (us.map uv).drop (j + 1)) = (us.set j (some (lenH H + 1, l'))).map uv := by
    rw [List.map_set, List.set_eq_take_append_cons_drop, if_pos (by simpa using hj)]; rfl
  rw [hset] at hU'
  have hidlt : ∀ (k i : Nat) (l : List Int), us[k]? = some (some (i, l)) → i < lenH H := fun k i l hk => getH_lt (by simp [(hu.ids k i l hk).1])
  have hget : ∀ (k i : Nat) (l : List Int), (us.set j (some (lenH H + 1, l')))[k]? = some (some (i, l)) → k = j ∧ i = lenH H + 1 ∧ l = l' ∨ k ≠ j ∧ us[k]? = some (some (i, l)) := fun k i l hk => by
    rw [List.getElem?_set] at hk
    by_cases hkj : j = k
    · subst hkj
      simp [hj] at hk
      exact .inl ⟨rfl, hk.1.symm, hk.2.symm⟩
    · simp [hkj] at hk
      exact .inr ⟨fun e => hkj e.symm, hk⟩
  refine ⟨⟨⟨A, hv, U, _, ?_, hh, ⟨hU', ?_, ?_⟩, by simpa using hul, hnU, hUc⟩, h.nc, by have := h.nH; omega, h.ok, h.who, h.hl⟩, ⟨hlen, fun r hr => ?_⟩⟩
  · rw [hold c hclt hUc.symm fun l hl => (hu.ids _ _ _ hl).2.2.2.1 rfl, hc]
  · intro k i l hk
    rcases hget k i l hk with ⟨rfl, rfl, rfl⟩ | ⟨hkj, hk⟩
    · exact ⟨hid, by have := h.nH; omega, by omega, by omega, hn, hr⟩
    · obtain ⟨h1, h2, h3, h4, h5, h6⟩ := hu.ids k i l hk
      refine ⟨?_, h2, h3, h4, h5, h6⟩
      rw [hold i (hidlt _ _ _ hk) h3 fun l0 hl0 => hkj (hu.dj _ _ _ _ _ hk hl0), h1]
  · intro k k' i l l0 hk hk'
    rcases hget k i l hk with ⟨rfl, rfl, rfl⟩ | ⟨hkj, hk⟩
    · rcases hget k' _ l0 hk' with ⟨rfl, -, -⟩ | ⟨-, hk'⟩
      · rfl
      · have := hidlt _ _ _ hk'; omega
    · rcases hget k' _ l0 hk' with ⟨rfl, h2, h3⟩ | ⟨-, hk'⟩
      · have := hidlt _ _ _ ‹us[k]? = some (some (i, l))›; omega
      · exact hu.dj _ _ _ _ _ ‹us[k]? = some (some (i, l))› hk'
  · exact hold r (by have := h.nH; omega) (by omega) fun l hl => by have := (hu.ids _ _ _ hl).2.1; omega
/-- One use is noted: what the code does to a slice of users. -/
theorem Ck.push0 {A : Int} {hv : AV} {U : Nat} {us : List (Option (Nat × List Int))} {j : Nat} (h : Ck n c σ F Who held E H)
    (hc : getH H c = some (.cells (σ.cells ++ [.int .i64 F, .int .i64 Who, hv, .hs U 2 0 σ.P.globals.length, .int .i64 E, .int .i64 A]))) (hh : HV hv held) (hu : UI n U c us H)
    (hul : us.length = 2 * σ.P.globals.length) (hnU : n ≤ U) (hUc : U ≠ c) (hj : us[j]? = some none) :
    Ck n c σ F Who held E (setH (addH (addH H (.cells [.int .i64 Who])) (.cells [.int .i64 Who])) U (.cells ((us.map uv).take j ++ .hs (lenH H + 1) 1 0 1 :: (us.map uv).drop (j + 1)))) ∧
    FrN n H (setH (addH (addH H (.cells [.int .i64 Who])) (.cells [.int .i64 Who])) U (.cells ((us.map uv).take j ++ .hs (lenH H + 1) 1 0 1 :: (us.map uv).drop (j + 1)))) := by
  have hUlt := getH_lt (H := H) (i := U) (by simp [hu.hU])
  refine h.push hc hh hu hul hnU hUc (List.getElem?_eq_some_iff.1 hj).1 (l' := [Who]) (by simp) (by simpa using h.who) (by simp; omega) ?_ ?_ ?_
  · rw [getH_set_self]
    · rfl
    · rw [getH_add_old] <;> rw [getH_add_old] <;> simp [hu.hU]
  · rw [getH_set_ne (by omega)]
    exact getH_add_at (by simp)
  · intro i hi hne _
    have hs : (getH H i).isSome = true := getH_isSome.2 hi
    rw [getH_set_ne (Ne.symm hne), getH_add_old (by rw [getH_add_old hs]; exact hs), getH_add_old hs]
theorem Ck.push1 {A : Int} {hv : AV} {U : Nat} {us : List (Option (Nat × List Int))} {j i0 : Nat} {l0 : List Int} (h : Ck n c σ F Who held E H)
    (hc : getH H c = some (.cells (σ.cells ++ [.int .i64 F, .int .i64 Who, hv, .hs U 2 0 σ.P.globals.length, .int .i64 E, .int .i64 A]))) (hh : HV hv held) (hu : UI n U c us H)
    (hul : us.length = 2 * σ.P.globals.length) (hnU : n ≤ U) (hUc : U ≠ c) (hj : us[j]? = some (some (i0, l0))) (hw : Who ∉ l0) {K' : List AObj}
    (hK : K' = setH (addH (setH (addH H (.cells [.int .i64 Who])) i0 .dead) (.cells (ints l0 ++ [.int .i64 Who]))) U (.cells ((us.map uv).take j ++ .hs (lenH H + 1) 1 0 (l0.length + 1) :: (us.map uv).drop (j + 1)))) :
    Ck n c σ F Who held E K' ∧ FrN n H K' := by
  subst hK
  have hUlt := getH_lt (H := H) (i := U) (by simp [hu.hU])
  obtain ⟨h1, h2, h3, h4, h5, h6⟩ := hu.ids _ _ _ hj
  refine h.push hc hh hu hul hnU hUc (List.getElem?_eq_some_iff.1 hj).1 (l' := l0 ++ [Who]) ?_ ?_ (by simp; omega) ?_ ?_ ?_
  · rw [List.nodup_append]
    exact ⟨h5, by simp, fun a ha b hb => by simp at hb; subst hb; exact fun e => hw (e ▸ ha)⟩
  · intro x hx
    rw [List.mem_append] at hx
    rcases hx with hx | hx
    · exact h6 x hx
    · simp at hx; subst hx; exact h.who
  · rw [getH_set_self]
    · simp
    · rw [getH_add_old] <;> rw [getH_set_ne h3, getH_add_old] <;> simp [hu.hU]
  · rw [getH_set_ne (by omega)]
    simp [ints]
  · intro i hi hne hni
    have hs : (getH H i).isSome = true := getH_isSome.2 hi
    have hi0 : i0 ≠ i := fun e => hni l0 (e ▸ hj)
    rw [getH_set_ne (Ne.symm hne), getH_add_old (by rw [getH_set_ne hi0, getH_add_old hs]; exact hs), getH_set_ne hi0, getH_add_old hs]
theorem use_c (h : Ck n c σ F Who held E H) {a : Int} {ch : Bool} : SCalls Tryz.prog 160 [.ptr c 0, .str s, .int .i64 a, .bool ch] H (UseP n c σ F Who held E H) := by
  obtain ⟨A, hv, U, us, hc, hh, hu, hul, hnU, hUc⟩ := h.st
  have hhl := h.hl
  refine fn_go k160 rfl ?_
  intro Q hQ
  simp [c160, hc, Sc.cells]
  refine (glob_c h.ok).mono ?_
  rintro r K ⟨rfl, rfl⟩
  simp [Glob.av]
  by_cases hg : σ.P.gidx s < 0
  · simp [hg, show ¬ 0 ≤ σ.P.gidx s by omega]
    exact hQ _ _ ⟨rfl, E, id, h, .refl _ _⟩
  have hg2 : 0 ≤ σ.P.gidx s := by omega
  by_cases hE : E = 0
  · by_cases hF : 0 ≤ F
    · simp [hg, hg2, hc, Sc.cells, hE, c160_6, hF]
      refine (cfail_c h).mono ?_
      rintro r K2 ⟨rfl, E', h1, h2, h3⟩
      simp
      exact hQ _ _ ⟨rfl, E', fun h => (h1 h).1, h2, h3⟩
    · simp [hg, hg2, hc, Sc.cells, hE, c160_6, hF, c160_5]
      refine loop_keep (n := held.length) (I160 c n a ch (σ.P.gidx s) _ held.length) ?_ ⟨0, _, by simp, rfl, rfl⟩
      rintro m τ S ⟨i, b, hi, rfl, rfl⟩
      by_cases hlt : i < held.length
      · have hhv : ∃ t, hv = .vs t (held.map AV.str) := by
          rcases hh with ⟨rfl, rfl⟩ | ⟨t, rfl, -⟩
          · simp at hlt
          · exact ⟨t, rfl⟩
        obtain ⟨t, rfl⟩ := hhv
        cases b <;> simp [hc, Sc.cells, hlt, c160_1, wrap_s (n := (i : Int) + 1) (by omega)]
        all_goals exact ⟨m - 1, by omega, i + 1, _, by omega, by simp; rfl, rfl⟩
      · cases b
        · simp [hc, Sc.cells, hh.len, hh.proper, hh.okv, okD_proper hh.proper, hh.lref, hlt, c160_4]
          refine (cfail_c h).mono ?_
          rintro r K2 ⟨rfl, E', h1, h2, h3⟩
          simp
          exact hQ _ _ ⟨rfl, E', fun h => (h1 h).1, h2, h3⟩
        · simp [hc, Sc.cells, hh.len, hh.proper, hh.okv, okD_proper hh.proper, hh.lref, hlt, c160_4]
          obtain ⟨k, hk, hkG⟩ : ∃ k : Nat, σ.P.gidx s = k ∧ k < σ.P.globals.length := by
            rcases fidx_cases (σ.P.globals.map Glob.name) s with ⟨k, h1, h2, -⟩ | ⟨h1, -⟩
            · have := (List.getElem?_eq_some_iff.1 h2).1
              exact ⟨k, h1, by simpa using this⟩
            · have : σ.P.gidx s = -1 := h1
              omega
          have tail : ∀ (M : List AObj) (τ : Env), Ck n c σ F Who held E M → FrN n K M → look τ 0 = some (.ptr c 0) → look τ 3 = some (.bool ch) → look τ 9 = some (.int .i64 k) → go (SCalls Tryz.prog) c160_2 [] τ ⟨[], M, []⟩ (aendR [] Q) := by
            intro M τ hM frM t0 t3 t9
            obtain ⟨A, hv, U, us, hc, hh, hu, hul, hnU, hUc⟩ := hM.st
            cases ch
            · simp [c160_2, t0, t3, t9]
              exact hQ _ _ ⟨rfl, E, id, hM, frM⟩
            · obtain ⟨u0, hu0⟩ : ∃ u, us[k * 2 + 1]? = some u := ⟨_, List.getElem?_eq_getElem (by omega)⟩
              have ht0 := take1_map (f := uv) hu0
              have hb0 : k * 2 + 1 + 1 ≤ us.length := by omega
              have hUlt := getH_lt (H := M) (i := U) (by simp [hu.hU])
              have hUl : ∀ (i : Nat) (l : List Int), us[k * 2 + 1]? = some (some (i, l)) → i ≠ U ∧ i < lenH M ∧ i ≠ c ∧ l.length ≤ 4 := fun i l h => by
                obtain ⟨h1, h2, h3, h4, h5, h6⟩ := hu.ids _ _ _ h
                exact ⟨h3, getH_lt (by simp [h1]), h4, four_len h5 h6⟩
              simp [c160_2, t0, t3, t9, hc, Sc.cells, hu.hU, hkG, hb0, ht0]
              refine (has_c (u := u0) ?_).mono ?_
              · rintro i l rfl
                obtain ⟨h1, h2, h3, h4, h5, h6⟩ := hu.ids _ _ _ hu0
                exact ⟨h1, by have := four_len h5 h6; omega⟩
              rintro r K2 ⟨rfl, rfl⟩
              rcases u0 with _ | ⟨i0, l0⟩
              · simp [hk, hc, Sc.cells, hu.hU, hkG, hb0, ht0, uv, roomA_eq]
                obtain ⟨q1, q2⟩ := hM.push0 hc hh hu hul hnU hUc hu0
                exact hQ _ _ ⟨rfl, E, id, q1, frM.trans q2⟩
              · by_cases hm : Who ∈ l0
                · simp [hm]
                  exact hQ _ _ ⟨rfl, E, id, hM, frM⟩
                · obtain ⟨h3, h2, h4, h5⟩ := hUl _ _ hu0
                  have hi0 := (hu.ids _ _ _ hu0).1
                  simp [hm, hk, hc, Sc.cells, hu.hU, hkG, hb0, ht0, uv, hi0, ints, roomA_eq, show (l0.length + 1) * 8 ≤ 35184372088832 by omega, h3, h4, h3.symm, h4.symm]
                  rw [show (l0.map (fun x => AV.int .i64 x)).take l0.length = l0.map (fun x => AV.int .i64 x) from List.take_of_length_le (by simp)]
                  obtain ⟨q1, q2⟩ := hM.push1 hc hh hu hul hnU hUc hu0 hm (K' := _) rfl
                  exact hQ _ _ ⟨rfl, E, id, q1, frM.trans q2⟩
          have hUl : (us.map uv).length = 2 * σ.P.globals.length := by simpa using hul
          obtain ⟨u0, hu0⟩ : ∃ u, us[k * 2]? = some u := ⟨_, List.getElem?_eq_getElem (by omega)⟩
          have ht0 := take1_map (f := uv) hu0
          have hb0 : k * 2 + 1 ≤ us.length := by omega
          simp [hk, c160_3, hc, Sc.cells, hu.hU, hkG, hb0, ht0]
          refine (has_c (u := u0) ?_).mono ?_
          · rintro i l rfl
            obtain ⟨h1, h2, h3, h4, h5, h6⟩ := hu.ids _ _ _ hu0
            exact ⟨h1, by have := four_len h5 h6; omega⟩
          rintro r K2 ⟨rfl, rfl⟩
          have hUlt := getH_lt (H := K2) (i := U) (by simp [hu.hU])
          rcases u0 with _ | ⟨i0, l0⟩
          · simp [hk, hc, Sc.cells, hu.hU, hkG, hb0, ht0, uv, roomA_eq]
            obtain ⟨q1, q2⟩ := h.push0 hc hh hu hul hnU hUc hu0
            exact tail _ _ q1 q2 rfl rfl rfl
          · by_cases hm : Who ∈ l0
            · simp [hm]
              exact tail _ _ h (.refl _ _) rfl rfl rfl
            · obtain ⟨h1, h2, h3, h4, h5, h6⟩ := hu.ids _ _ _ hu0
              have h7 := getH_lt (H := K2) (i := i0) (by simp [h1])
              have h8 := four_len h5 h6
              simp [hm, hk, hc, Sc.cells, hu.hU, hkG, hb0, ht0, uv, h1, ints, roomA_eq, show (l0.length + 1) * 8 ≤ 35184372088832 by omega, h3, h4, h3.symm, h4.symm]
              rw [show (l0.map (fun x => AV.int .i64 x)).take l0.length = l0.map (fun x => AV.int .i64 x) from List.take_of_length_le (by simp)]
              obtain ⟨q1, q2⟩ := h.push1 hc hh hu hul hnU hUc hu0 hm (K' := _) rfl
              exact tail _ _ q1 q2 rfl rfl rfl
  · simp [hg, hg2, hc, Sc.cells, hE]
    exact hQ _ _ ⟨rfl, E, id, h, .refl _ _⟩
end
end Go.Ab

namespace Go.Ab
open Go.Proofs

set_option maxRecDepth 100000
set_option maxHeartbeats 8000000
mutual
/-- In a function, calls are of functions ahead. -/
def Ex.cl (P : Prg) (F : Int) : Ex → Prop
  | .mk k o n s ks a => (k = 7 → 0 ≤ F → P.fix s < F) ∧ Ex.cls P F ks
def Ex.cls (P : Prg) (F : Int) : List Ex → Prop
  | [] => True
  | e :: r => e.cl P F ∧ Ex.cls P F r
end
theorem Ex.cls_iff {P : Prg} {F : Int} {l : List Ex} : Ex.cls P F l ↔ ∀ e ∈ l, e.cl P F := by
  induction l with
  | nil => simp [Ex.cls]
  | cons e r ih => simp [Ex.cls, ih]
section
variable {n c : Nat} {σ : Sc} {F Who E : Int} {held : List (List UInt8)} {H : List AObj} {s : List UInt8}
theorem Ck.cells (h : Ck n c σ F Who held E H) : ∃ (l : List AV) (A : Int) (hv Uv : AV), getH H c = some (.cells (σ.cells ++ [.int .i64 F, .int .i64 Who, hv, Uv, .int .i64 E, .int .i64 A])) := by
  obtain ⟨A, hv, U, us, hc, -⟩ := h.st
  exact ⟨[], A, hv, _, hc⟩
def ExP (Φ : Ex → Prop) (n c : Nat) (σ : Sc) (F Who : Int) (held : List (List UInt8)) (E : Int) (e : Ex) (H : List AObj) : AEnd → List AObj → Prop := fun r K =>
  r = .ret (.tuple []) ∧ ∃ E', (E' = 0 → E = 0 ∧ Φ e) ∧ Ck n c σ F Who held E' K ∧ FrN n H K
def KidsInv (Φ : Ex → Prop) (j : Nat) (n c : Nat) (σ : Sc) (F Who : Int) (held : List (List UInt8)) (E : Int) (ks : List Ex) (H : List AObj) (lo : List (Nat × List AV)) (m : Nat) (τ : Env) (S : AS) : Prop :=
  ∃ (i : Nat) (E' : Int) (M : List AObj), i + m = ks.length ∧ (E' = 0 → E = 0 ∧ ∀ (t : Nat) (x : Ex), t < i → ks[t]? = some x → Φ x) ∧ Ck n c σ F Who held E' M ∧ FrN n H M ∧
    τ = [(0, .ptr c 0), (3, .lref 3 0), (j, .int .i64 i)] ∧ S = ⟨lo, M, []⟩
theorem names_c : ∀ (m : Nat) (e : Ex), e.size ≤ m → e.size ≤ 2 ^ 31 → ∀ {E : Int} {H : List AObj}, Ck n c σ F Who held E H → SCalls Tryz.prog 136 [.ptr c 0, e.av] H (ExP (fun _ => True) n c σ F Who held E e H) := by
  intro m
  induction m with
  | zero => intro e hn; cases e; simp [Ex.size] at hn
  | succ m ihm =>
    rintro ⟨k, o, nn, s, ks, a⟩ hsz hbig E H h
    simp only [Ex.size] at hsz hbig
    have hln := Ex.length_le ks
    refine fn_go k136 rfl ?_
    intro Q hQ
    have tail : ∀ (E' : Int) (M : List AObj) (τ : Env), Ck n c σ F Who held E' M → FrN n H M → (E' = 0 → E = 0) → look τ 0 = some (.ptr c 0) → look τ 3 = some (.lref 3 0) →
        go (SCalls Tryz.prog) c136_2 [] τ ⟨[(3, (Ex.mk k o nn s ks a).av.cells)], M, []⟩ (aendR [] Q) := by
      intro E' M τ hM frM hE t0 t3
      simp [c136_2, t0, t3, Ex.av]
      refine loop_keep (n := ks.length) (KidsInv (fun _ => True) 4 n c σ F Who held E ks H (lo := _)) ?_ ⟨0, E', M, by simp, fun h => ⟨hE h, by simp⟩, hM, frM, rfl, rfl⟩
      rintro m' τ S ⟨i, E2, M2, hi, hE2, hM2, fr2, rfl, rfl⟩
      by_cases hlt : i < ks.length
      · have hg : (Ex.avs ks)[i]? = some (ks[i]).av := by simp [Ex.avs_eq, hlt]
        have hil : (i : Int) < (Ex.avs ks).length := by simp [Ex.avs_eq]; omega
        have hin := Ex.size_mem (List.getElem_mem hlt)
        simp [hil, c136_1, hg]
        refine (ihm (ks[i]) (by omega) (by omega) hM2).mono ?_
        rintro r K ⟨rfl, E3, h1, h2, h3⟩
        simp [wrap_s (n := (i : Int) + 1) (by omega)]
        exact ⟨m' - 1, by omega, i + 1, E3, K, by omega, fun h => ⟨(hE2 (h1 h).1).1, fun _ _ _ _ => trivial⟩, h2, fr2.trans h3, by simp, rfl⟩
      · have hil : ¬ (i : Int) < (Ex.avs ks).length := by simp [Ex.avs_eq]; omega
        simp [hil]
        exact hQ _ _ ⟨rfl, E2, fun h => ⟨(hE2 h).1, trivial⟩, hM2, fr2⟩
    by_cases h2 : k = 2
    · simp [c136, h2, Ex.av]
      refine (use_c h).mono ?_
      rintro r K ⟨rfl, E', h1, h3, h4⟩
      subst h2
      simp
      exact tail E' K _ h3 h4 h1 rfl rfl
    · by_cases h3 : k = 3
      · simp [c136, h3, Ex.av]
        refine (use_c h).mono ?_
        rintro r K ⟨rfl, E', h1, h5, h4⟩
        subst h3
        simp
        exact tail E' K _ h5 h4 h1 rfl rfl
      · simp [c136, h2, h3, Ex.av]
        exact tail E H _ h (.refl _ _) id rfl rfl
theorem calls_c : ∀ (m : Nat) (e : Ex), e.size ≤ m → e.size ≤ 2 ^ 31 → ∀ {E : Int} {H : List AObj}, Ck n c σ F Who held E H → SCalls Tryz.prog 135 [.ptr c 0, e.av] H (ExP (fun e => e.cl σ.P F) n c σ F Who held E e H) := by
  intro m
  induction m with
  | zero => intro e hn; cases e; simp [Ex.size] at hn
  | succ m ihm =>
    rintro ⟨k, o, nn, s, ks, a⟩ hsz hbig E H h
    simp only [Ex.size] at hsz hbig
    have hln := Ex.length_le ks
    refine fn_go k135 rfl ?_
    intro Q hQ
    have tail : ∀ (E' : Int) (M : List AObj) (τ : Env), Ck n c σ F Who held E' M → FrN n H M → (E' = 0 → E = 0 ∧ (k = 7 → 0 ≤ F → σ.P.fix s < F)) → look τ 0 = some (.ptr c 0) → look τ 3 = some (.lref 3 0) →
        go (SCalls Tryz.prog) c135_2 [] τ ⟨[(3, (Ex.mk k o nn s ks a).av.cells)], M, []⟩ (aendR [] Q) := by
      intro E' M τ hM frM hE t0 t3
      simp [c135_2, t0, t3, Ex.av]
      refine loop_keep (n := ks.length) (KidsInv (fun e => e.cl σ.P F) 6 n c σ F Who held E' ks M (lo := _)) ?_ ⟨0, E', M, by simp, fun h => ⟨h, by simp⟩, hM, .refl _ _, rfl, rfl⟩
      rintro m' τ S ⟨i, E2, M2, hi, hE2, hM2, fr2, rfl, rfl⟩
      by_cases hlt : i < ks.length
      · have hg : (Ex.avs ks)[i]? = some (ks[i]).av := by simp [Ex.avs_eq, hlt]
        have hil : (i : Int) < (Ex.avs ks).length := by simp [Ex.avs_eq]; omega
        have hin := Ex.size_mem (List.getElem_mem hlt)
        simp [hil, c135_1, hg]
        refine (ihm (ks[i]) (by omega) (by omega) hM2).mono ?_
        rintro r K ⟨rfl, E3, h1, h2, h3⟩
        simp [wrap_s (n := (i : Int) + 1) (by omega)]
        refine ⟨m' - 1, by omega, i + 1, E3, K, by omega, fun h => ⟨(hE2 (h1 h).1).1, fun t x ht hx => ?_⟩, h2, fr2.trans h3, by simp, rfl⟩
        rcases Nat.lt_or_ge t i with h4 | h4
        · exact (hE2 (h1 h).1).2 t x h4 hx
        · have : t = i := by omega
          subst this
          rw [List.getElem?_eq_getElem hlt] at hx
          cases hx
          exact (h1 h).2
      · have hil : ¬ (i : Int) < (Ex.avs ks).length := by simp [Ex.avs_eq]; omega
        simp [hil]
        refine hQ _ _ ⟨rfl, E2, fun h => ?_, hM2, frM.trans fr2⟩
        obtain ⟨h1, h2⟩ := hE2 h
        obtain ⟨h3, h4⟩ := hE h1
        refine ⟨h3, ?_⟩
        simp only [Ex.cl]
        refine ⟨h4, Ex.cls_iff.2 fun e he => ?_⟩
        obtain ⟨j, hj, rfl⟩ := List.mem_iff_getElem.1 he
        exact h2 j (ks[j]) (by omega) (List.getElem?_eq_getElem hj)
    obtain ⟨-, A, hv, Uv, hc⟩ := h.cells
    have hok := h.ok
    simp [c135, Ex.av, hc, Sc.cells]
    refine (func_c hok).mono ?_
    rintro r K ⟨rfl, rfl⟩
    simp [Func.av]
    by_cases h7 : k = 7
    · by_cases hF : 0 ≤ F
      · by_cases hx : F ≤ σ.P.fix s
        · simp [h7, hc, Sc.cells, hF, hx]
          refine (cfail_c h).mono ?_
          rintro r K ⟨rfl, E', h1, h3, h4⟩
          simp
          subst h7
          exact tail E' K _ h3 h4 (fun h => absurd (h1 h).2 (by decide)) rfl rfl
        · simp [h7, hc, Sc.cells, hF, hx]
          subst h7
          exact tail E K _ h (.refl _ _) (fun h => ⟨h, fun _ _ => by omega⟩) rfl rfl
      · simp [h7, hc, Sc.cells, hF]
        subst h7
        exact tail E K _ h (.refl _ _) (fun h => ⟨h, fun _ h => absurd h hF⟩) rfl rfl
    · simp [h7, hc, Sc.cells]
      exact tail E K _ h (.refl _ _) (fun h => ⟨h, fun h => absurd h h7⟩) rfl rfl
/-- What is known of an expression without an error. -/
def Ex.gd (P : Prg) (V : List (List UInt8)) (F : Int) (e : Ex) : Prop := e.sc P V ∧ e.cl P F
theorem look_c {e : Ex} (h : Ck n c σ F Who held E H) (hok : e.ok) (hbig : e.size ≤ 2 ^ 31) : SCalls Tryz.prog 107 [.ptr c 0, e.av] H (fun r K => ∃ t : Bool × Bool, r = .ret (tyv t) ∧
    ∃ E', (E' = 0 → E = 0 ∧ e.gd σ.P σ.V F) ∧ Ck n c σ F Who held E' K ∧ FrN n H K) := by
  obtain ⟨-, A, hv, Uv, hc⟩ := h.cells
  have hO := Of_c h.ok _ e (Nat.le_refl _) hok hbig
  obtain ⟨k, o, nn, s, ks, a⟩ := e
  refine fn_go k107 rfl ?_
  intro Q hQ
  simp [c107, Ex.av, hc, Sc.cells]
  refine (hO H).mono ?_
  rintro r K ⟨rfl, t, u, E1, A1, rfl, hE⟩
  simp
  refine (cfail_c h).mono ?_
  rintro r K1 ⟨rfl, E2, h1, h2, fr1⟩
  simp
  refine (calls_c _ _ (Nat.le_refl _) hbig h2).mono ?_
  rintro r K2 ⟨rfl, E3, h3, h4, fr2⟩
  simp
  refine (names_c _ _ (Nat.le_refl _) hbig h4).mono ?_
  rintro r K3 ⟨rfl, E4, h5, h6, fr3⟩
  simp
  refine hQ _ _ ⟨(t, u), rfl, E4, fun h => ?_, h6, (fr1.trans fr2).trans fr3⟩
  obtain ⟨q1, -⟩ := h5 h
  obtain ⟨q2, q3⟩ := h3 q1
  obtain ⟨q4, q5⟩ := h1 q2
  exact ⟨q4, hE q5, q3⟩
theorem public_c {e : Ex} {b : Bool} (h : Ck n c σ F Who held E H) (hok : e.ok) (hbig : e.size ≤ 2 ^ 31) : SCalls Tryz.prog 132 [.ptr c 0, e.av, .bool b] H (fun r K => r = .ret (.tuple []) ∧
    ∃ E', (E' = 0 → E = 0 ∧ e.gd σ.P σ.V F) ∧ Ck n c σ F Who held E' K ∧ FrN n H K) := by
  refine fn_go k132 rfl ?_
  intro Q hQ
  have hl := look_c h hok hbig
  obtain ⟨k, o, nn, s, ks, a⟩ := e
  simp [c132, Ex.av]
  refine hl.mono ?_
  rintro r K ⟨⟨t, u⟩, rfl, E1, h1, h2, fr1⟩
  have tail : ∀ (E' : Int) (M : List AObj) (τ : Env), Ck n c σ F Who held E' M → FrN n H M → (E' = 0 → E1 = 0) → look τ 0 = some (.ptr c 0) → look τ 4 = some (.lref 4 0) → look τ 6 = some (.lref 6 0) →
      go (SCalls Tryz.prog) c132_1 [] τ ⟨[(4, (Ex.mk k o nn s ks a).av.cells), (6, [.bool t, .bool u])], M, []⟩ (aendR [] Q) := by
    intro E' M τ hM frM hE t0 t4 t6
    cases u
    · simp [c132_1, t0, t4, t6]
      exact hQ _ _ ⟨rfl, E', fun h => h1 (hE h), hM, frM⟩
    · simp [c132_1, t0, t4, t6, Ex.av]
      refine (cfail_c hM).mono ?_
      rintro r K2 ⟨rfl, E2, h3, h4, fr2⟩
      simp
      exact hQ _ _ ⟨rfl, E2, fun h => h1 (hE (h3 h).1), h4, frM.trans fr2⟩
  by_cases htb : t = b
  · simp [tyv, htb]
    subst htb
    exact tail E1 K _ h2 fr1 id rfl rfl rfl
  · simp [tyv, htb]
    refine (cfail_c h2).mono ?_
    rintro r K2 ⟨rfl, E2, h3, h4, fr2⟩
    simp
    exact tail E2 K2 _ h4 (fr1.trans fr2) (fun h => (h3 h).1) rfl rfl rfl
end
end Go.Ab

namespace Go.Ab
open Go.Proofs

set_option maxRecDepth 100000
set_option maxHeartbeats 8000000
attribute [local simp] c5_1 c5_2 c5_3 c5_4 c5_5 c5_6 c5_7 c5_8
section
variable {n c : Nat} {σ : Sc} {F Who E : Int} {held : List (List UInt8)} {H : List AObj} {s : List UInt8}
theorem Ck.fr {K : List AObj} (h : Ck n c σ F Who held E H) (fr : FrN (lenH H) H K) : Ck n c σ F Who held E K := by
  obtain ⟨A, hv, U, us, hc, hh, hu, hul, hnU, hUc⟩ := h.st
  have hk : ∀ r, (getH H r).isSome = true → getH K r = getH H r := fun r hr => fr.2 r (getH_lt hr)
  refine ⟨⟨A, hv, U, us, by rw [hk c (by simp [hc]), hc], hh, ⟨by rw [hk U (by simp [hu.hU]), hu.hU], fun k i l hkl => ?_, hu.dj⟩, hul, hnU, hUc⟩, h.nc, by have := h.nH; have := fr.1; omega, h.ok, h.who, h.hl⟩
  obtain ⟨h1, h2⟩ := hu.ids k i l hkl
  exact ⟨by rw [hk i (by simp [h1]), h1], h2⟩
theorem Sc.add_ok {σ : Sc} {s : List UInt8} {t : Bool × Bool} (h : σ.Ok) (hL : σ.L.length < 2 ^ 32) : (σ.add s t).Ok := ⟨h.pv, h.d0, h.d1, by simp [Sc.add]; omega⟩
theorem clet_c {t : Bool × Bool} {a : Int} (h : Ck n c σ F Who held E H) (hL : σ.L.length < 2 ^ 32) : SCalls Tryz.prog 105 [.ptr c 0, .str s, tyv t, .int .i64 a] H (fun r K => r = .ret (.tuple []) ∧
    ∃ (E' : Int) (σ' : Sc), (σ' = σ ∨ σ' = σ.add s t) ∧ (E' = 0 → E = 0 ∧ σ' = σ.add s t) ∧ Ck n c σ' F Who held E' K ∧ FrN n H K) := by
  obtain ⟨-, A, hv, Uv, hc⟩ := h.cells
  refine fn_go k105 rfl ?_
  intro Q hQ
  simp [c105, tyv, hc, Sc.cells]
  refine (let_c h.ok).mono ?_
  rintro r K ⟨σ', e, rfl, fr, hcase⟩
  have hK := h.fr fr
  have frn : FrN n H K := fr.le (by have := h.nH; omega)
  simp [Sc.av, Sc.cells]
  refine (cfail_c hK).mono ?_
  rintro r K2 ⟨rfl, E2, h1, h2, fr2⟩
  obtain ⟨A2, hv2, U2, us2, hc2, hh2, hu2, hul2, hnU2, hUc2⟩ := h2.st
  have hP : σ'.P = σ.P ∧ σ'.Ok ∧ (σ' = σ ∨ σ' = σ.add s t) := by
    rcases hcase with ⟨-, rfl⟩ | ⟨-, rfl, -⟩
    · exact ⟨rfl, h.ok, .inl rfl⟩
    · exact ⟨rfl, Sc.add_ok h.ok hL, .inr rfl⟩
  simp [hc2, Sc.cells]
  have hup := h2.upd (σ' := σ') (F' := F) (Who' := Who) (E' := E2) (A := A2) hh2 hu2 (by rw [hP.1]; exact hul2) hnU2 hUc2 hP.2.1 h2.who h2.hl
  have hQ' := hQ (.ret (.tuple [])) _ ⟨rfl, E2, σ', hP.2.2, fun h0 => by
    obtain ⟨q1, q2⟩ := h1 h0
    rcases hcase with ⟨q3, -⟩ | ⟨-, q3, -⟩
    · exact absurd q2 q3
    · exact ⟨q1, q3⟩, hup, (frn.trans fr2).trans (.set h.nc)⟩
  simpa [Sc.cells, hP.1] using hQ'
mutual
/-- A statement's names are there, and its calls are of functions ahead. -/
def St.sc (P : Prg) (F : Int) (V : List (List UInt8)) : St → Prop
  | .mk k a t u s i e b l => (k ≠ 4 → ∀ x ∈ e, x.gd P V F) ∧
      (k = 1 → (∀ x ∈ i, x.gd P V F) ∧ (i ≠ [] → 0 ≤ P.gidx s ∧ (P.gat s).len ≠ 0) ∧ (i = [] → s ∈ V ∨ 0 ≤ P.gidx s ∧ (P.gat s).len = 0)) ∧ (k = 4 → 0 ≤ P.lidx s) ∧
      (k = 2 ∨ k = 3 ∨ k = 4 → St.scs P F V b) ∧ (k = 2 → St.scs P F V l)
def St.scs (P : Prg) (F : Int) (V : List (List UInt8)) : List St → Prop
  | [] => True
  | s :: r => s.sc P F V ∧ St.scs P F (V ++ match s with
    | .mk k _ _ _ n _ _ _ _ => if k = 0 then [n] else []) r
end
def St.adds : St → List (List UInt8)
  | .mk k _ _ _ n _ _ _ _ => if k = 0 then [n] else []
def St.addsL (l : List St) : List (List UInt8) := l.flatMap St.adds
theorem St.scs_cons {P : Prg} {F : Int} {V : List (List UInt8)} {s : St} {r : List St} : St.scs P F V (s :: r) ↔ s.sc P F V ∧ St.scs P F (V ++ s.adds) r := by
  cases s; simp [St.scs, St.adds]
theorem St.scs_append {P : Prg} {F : Int} : ∀ {V : List (List UInt8)} {l m : List St}, St.scs P F V (l ++ m) ↔ St.scs P F V l ∧ St.scs P F (V ++ St.addsL l) m
  | V, [], m => by simp [St.scs, St.addsL]
  | V, s :: r, m => by simp only [List.cons_append, St.scs_cons, St.scs_append (l := r), St.addsL, List.flatMap_cons, List.append_assoc, and_assoc]
def I131 (n c : Nat) (σ : Sc) (F Who : Int) (held : List (List UInt8)) (E1 : Int) (i : List Ex) (M : List AObj) (lo : List (Nat × List AV)) (m : Nat) (τ : Env) (S : AS) : Prop :=
  ∃ (j : Nat) (E2 : Int) (M2 : List AObj), m + j = 2 ∧ j ≤ i.length ∧ (E2 = 0 → E1 = 0 ∧ (j = i.length → ∀ y ∈ i, y.gd σ.P σ.V F)) ∧ Ck n c σ F Who held E2 M2 ∧ FrN n M M2 ∧
      τ = [(0, .ptr c 0), (3, .lref 3 0), (7, .int .i64 j)] ∧ S = ⟨lo, M2, []⟩
theorem assign_c {k a : Int} {t u : Bool} {i e : List Ex} {b l : List St} (h : Ck n c σ F Who held E H) (hi : i = [] ∨ ∃ y, i = [y]) (he : ∃ x, e = [x]) (hio : Ex.oks i) (heo : Ex.oks e) (hsz : Ex.sizes i + Ex.sizes e ≤ 2 ^ 31) :
    SCalls Tryz.prog 131 [.ptr c 0, (St.mk k a t u s i e b l).av] H (fun r K => r = .ret (.tuple []) ∧
    ∃ E' : Int, (E' = 0 → E = 0 ∧ (∀ x ∈ i, x.gd σ.P σ.V F) ∧ (∀ x ∈ e, x.gd σ.P σ.V F) ∧ (i ≠ [] → 0 ≤ σ.P.gidx s ∧ (σ.P.gat s).len ≠ 0) ∧ (i = [] → s ∈ σ.V ∨ 0 ≤ σ.P.gidx s ∧ (σ.P.gat s).len = 0)) ∧ Ck n c σ F Who held E' K ∧ FrN n H K) := by
  obtain ⟨x, rfl⟩ := he
  have hxo : x.ok := by simpa [Ex.oks] using heo
  have hxs : x.size ≤ 2 ^ 31 := by simp [Ex.sizes] at hsz; omega
  obtain ⟨-, A, hv, Uv, hc⟩ := h.cells
  have hok := h.ok
  refine fn_go k131 rfl ?_
  intro Q hQ
  have c2 : ∀ (E1 : Int) (M : List AObj) (τ : Env), Ck n c σ F Who held E1 M → FrN n H M → E1 = 0 → (E = 0 ∧ (∀ x ∈ i, x.gd σ.P σ.V F) ∧ (i ≠ [] → 0 ≤ σ.P.gidx s ∧ (σ.P.gat s).len ≠ 0) ∧ (i = [] → s ∈ σ.V ∨ 0 ≤ σ.P.gidx s ∧ (σ.P.gat s).len = 0)) →
      look τ 0 = some (.ptr c 0) → look τ 3 = some (.lref 3 0) → go (SCalls Tryz.prog) c131_2 [] τ ⟨[(3, (St.mk k a t u s i [x] b l).av.cells)], M, []⟩ (aendR [] Q) := by
    intro E1 M τ hM frM hE1 hfacts t0 t3
    have hl := look_c (e := x) hM hxo hxs
    obtain ⟨xk, xo, xn, xs, xks, xa⟩ := x
    simp [c131_2, t0, t3, St.av, Ex.avs, Ex.av]
    refine hl.mono ?_
    rintro r K ⟨t1, rfl, E2, h1, h2, fr2⟩
    obtain ⟨-, A2, hv2, Uv2, hc2⟩ := h2.cells
    simp [tyv, hc2, Sc.cells]
    refine (type_c h2.ok).mono ?_
    rintro r K2 ⟨rfl, rfl⟩
    simp [tyv]
    refine (fits_c (t := t1) (u := σ.type s)).mono ?_
    rintro r K3 ⟨rfl, z, rfl⟩
    simp
    refine (cfail_c h2).mono ?_
    rintro r K4 ⟨rfl, E3, h3, h4, fr3⟩
    simp
    refine (use_c h4).mono ?_
    rintro r K5 ⟨rfl, E4, h5, h6, fr4⟩
    simp
    refine hQ _ _ ⟨rfl, E4, fun h => ?_, h6, ((frM.trans fr2).trans fr3).trans fr4⟩
    have q1 := (h1 (h3 (h5 h)).1).2
    exact ⟨hfacts.1, hfacts.2.1, by simpa using q1, hfacts.2.2⟩
  have c3 : ∀ (E1 : Int) (M : List AObj) (τ : Env), Ck n c σ F Who held E1 M → FrN n H M → (E1 = 0 → (E = 0 ∧ (∀ x ∈ i, x.gd σ.P σ.V F) ∧ (i ≠ [] → 0 ≤ σ.P.gidx s ∧ (σ.P.gat s).len ≠ 0) ∧ (i = [] → s ∈ σ.V ∨ 0 ≤ σ.P.gidx s ∧ (σ.P.gat s).len = 0))) →
      look τ 0 = some (.ptr c 0) → look τ 3 = some (.lref 3 0) → go (SCalls Tryz.prog) c131_3 [] τ ⟨[(3, (St.mk k a t u s i [x] b l).av.cells)], M, []⟩ (aendR [] Q) := by
    intro E1 M τ hM frM hf t0 t3
    obtain ⟨-, A2, hv2, Uv2, hc2⟩ := hM.cells
    by_cases hE1 : E1 = 0
    · simp [c131_3, t0, t3, hc2, Sc.cells, hE1]
      exact c2 E1 M _ hM frM hE1 (hf hE1) rfl rfl
    · simp [c131_3, t0, t3, hc2, Sc.cells, hE1]
      exact hQ _ _ ⟨rfl, E1, fun h => absurd h hE1, hM, frM⟩
  have c4 : ∀ (E1 : Int) (M : List AObj) (τ : Env), Ck n c σ F Who held E1 M → FrN n H M → (E1 = 0 → (E = 0 ∧ (i ≠ [] → 0 ≤ σ.P.gidx s ∧ (σ.P.gat s).len ≠ 0) ∧ (i = [] → s ∈ σ.V ∨ 0 ≤ σ.P.gidx s ∧ (σ.P.gat s).len = 0))) →
      look τ 0 = some (.ptr c 0) → look τ 3 = some (.lref 3 0) → go (SCalls Tryz.prog) c131_4 [] τ ⟨[(3, (St.mk k a t u s i [x] b l).av.cells)], M, []⟩ (aendR [] Q) := by
    intro E1 M τ hM frM hf t0 t3
    simp [c131_4, t0, t3, St.av]
    refine loop_keep (n := 2) (I131 n c σ F Who held E1 i M _) ?_
      ⟨0, E1, M, by simp, by simp, fun h => ⟨h, fun h2 => by rw [List.length_eq_zero_iff.1 h2.symm]; simp⟩, hM, .refl _ _, rfl, rfl⟩
    rintro m τ S ⟨j, E2, M2, hj, hji, hE2, hM2, fr2, rfl, rfl⟩
    have fin : ∀ τ, look τ 0 = some (.ptr c 0) → look τ 3 = some (.lref 3 0) → (E2 = 0 → j = i.length) → go (SCalls Tryz.prog) c131_3 [] τ ⟨[(3, (St.mk k a t u s i [x] b l).av.cells)], M2, []⟩ (aendR [] Q) := by
      intro τ t0 t3 hx
      refine c3 E2 M2 τ hM2 (frM.trans fr2) (fun h => ?_) t0 t3
      obtain ⟨q1, q2⟩ := hE2 h
      obtain ⟨q3, q4⟩ := hf q1
      exact ⟨q3, q2 (hx h), q4⟩
    rcases hi with rfl | ⟨y, rfl⟩
    · simp at hji
      subst hji
      simp [Ex.avs]
      exact fin _ rfl rfl (fun _ => rfl)
    · rcases j with _ | j
      · obtain ⟨-, A2, hv2, Uv2, hc2⟩ := hM2.cells
        by_cases hE20 : E2 = 0
        · have hyo : y.ok := by simpa [Ex.oks] using hio
          have hys : y.size ≤ 2 ^ 31 := by simp [Ex.sizes] at hsz; omega
          have hp := public_c (b := false) hM2 hyo hys
          simp [Ex.avs, hc2, Sc.cells, hE20, c131_1]
          rw [hE20] at hp
          refine hp.mono ?_
          rintro r K ⟨rfl, E3, h1, h2, fr3⟩
          simp [show IntKind.i64.wrap 1 = 1 from rfl]
          exact ⟨1, by omega, 1, E3, K, by omega, by simp, fun h => ⟨(hE2 hE20).1, fun _ z hz => by simp at hz; subst hz; exact (h1 h).2⟩, h2, fr2.trans fr3, by simp, by simp⟩
        · simp [Ex.avs, hc2, Sc.cells, hE20]
          exact fin _ rfl rfl (fun h => absurd h hE20)
      · simp at hji
        subst hji
        simp [Ex.avs]
        exact fin _ rfl rfl (fun _ => rfl)
  have c5 : ∀ (E1 : Int) (M : List AObj) (τ : Env) (lo : List (Nat × List AV)), Ck n c σ F Who held E1 M → FrN n H M → (E1 = 0 → E = 0 ∧ σ.kind s ≠ 0) → look lo 0 = none →
      look τ 0 = some (.ptr c 0) → look τ 3 = some (.lref 3 0) → look τ 4 = some (.int .i64 (σ.kind s)) → look τ 5 = some (.lref 5 0) → look lo 3 = some (St.mk k a t u s i [x] b l).av.cells → look lo 5 = some (σ.P.gat s).av.cells → look lo 4 = none →
      go (SCalls Tryz.prog) c131_5 [] τ ⟨lo, M, []⟩ (aendR [] Q) := by
    intro E1 M τ lo hM frM hf l0 t0 t3 t4 t5 l3 l5 l4
    have hbad : ∀ (M : List AObj) (E2 : Int) (τ : Env), Ck n c σ F Who held E2 M → FrN n H M → (E2 = 0 → False) → look τ 0 = some (.ptr c 0) → look τ 3 = some (.lref 3 0) → go (SCalls Tryz.prog) c131_4 [] τ ⟨[(3, (St.mk k a t u s i [x] b l).av.cells)], M, []⟩ (aendR [] Q) :=
      fun M E2 τ hM fr hf t0 t3 => c4 E2 M τ hM fr (fun h => (hf h).elim) t0 t3
    have hfail : ∀ {τ : Env} {a : Int}, True := trivial
    rcases hi with rfl | ⟨y, rfl⟩
    · by_cases h4 : σ.kind s = 4
      · simp [c131_5, l0, t0, t3, t4, t5, l3, l5, l4, St.av, Ex.avs, Glob.av, h4]
        exact c4 E1 M _ hM frM (fun h => ⟨(hf h).1, by simp, fun _ => .inl (Sc.kind4 h4)⟩) rfl rfl
      · by_cases h1 : σ.kind s = 1
        · by_cases hl : 0 < (σ.P.gat s).len
          · simp [c131_5, l0, t0, t3, t4, t5, l3, l5, l4, St.av, Ex.avs, Glob.av, h4, h1, hl]
            refine (cfail_c hM).mono ?_
            rintro r K ⟨rfl, E2, q1, q2, q3⟩
            simp
            exact hbad K E2 _ q2 (frM.trans q3) (fun h => absurd (q1 h).2 (by decide)) rfl rfl
          · simp [c131_5, l0, t0, t3, t4, t5, l3, l5, l4, St.av, Ex.avs, Glob.av, h4, h1, hl]
            refine c4 E1 M _ hM frM (fun h => ⟨(hf h).1, by simp, fun _ => .inr ⟨Sc.kind1 h1, ?_⟩⟩) rfl rfl
            have hg : (σ.P.gat s) ∈ σ.P.globals ∨ σ.P.gat s = gz := by
              unfold Prg.gat
              split
              · cases hx : σ.P.globals[(σ.P.gidx s).toNat]? with
                | none => right; rfl
                | some g => left; simpa using List.mem_of_getElem? hx
              · right; rfl
            rcases hg with hg | hg
            · have := (hM.ok.pv.g _ hg).1; omega
            · rw [hg]; rfl
        · simp [c131_5, l0, t0, t3, t4, t5, l3, l5, l4, St.av, Ex.avs, Glob.av, h4, h1]
          refine (cfail_c hM).mono ?_
          rintro r K ⟨rfl, E2, q1, q2, q3⟩
          simp
          exact hbad K E2 _ q2 (frM.trans q3) (fun h => absurd (q1 h).2 (by decide)) rfl rfl
    · by_cases h1 : σ.kind s = 1
      · by_cases hl : (σ.P.gat s).len = 0
        · simp [c131_5, l0, t0, t3, t4, t5, l3, l5, l4, St.av, Ex.avs, Glob.av, h1, hl]
          refine (cfail_c hM).mono ?_
          rintro r K ⟨rfl, E2, q1, q2, q3⟩
          simp
          exact hbad K E2 _ q2 (frM.trans q3) (fun h => absurd (q1 h).2 (by decide)) rfl rfl
        · simp [c131_5, l0, t0, t3, t4, t5, l3, l5, l4, St.av, Ex.avs, Glob.av, h1, hl]
          exact c4 E1 M _ hM frM (fun h => ⟨(hf h).1, fun _ => ⟨Sc.kind1 h1, hl⟩, by simp⟩) rfl rfl
      · simp [c131_5, l0, t0, t3, t4, t5, l3, l5, l4, St.av, Ex.avs, Glob.av, h1]
        refine (cfail_c hM).mono ?_
        rintro r K ⟨rfl, E2, q1, q2, q3⟩
        simp
        exact hbad K E2 _ q2 (frM.trans q3) (fun h => absurd (q1 h).2 (by decide)) rfl rfl
  simp [c131, St.av, hc, Sc.cells]
  refine (kind_c hok).mono ?_
  rintro r K ⟨rfl, rfl⟩
  simp [hc, Sc.cells]
  refine (glob_c hok).mono ?_
  rintro r K ⟨rfl, rfl⟩
  by_cases h0 : σ.kind s = 0
  · simp [Glob.av, h0]
    refine (cfail_c h).mono ?_
    rintro r K2 ⟨rfl, E2, q1, q2, q3⟩
    simp
    exact c5 E2 K2 _ _ q2 q3 (fun h => absurd (q1 h).2 (by decide)) rfl rfl rfl (by simp [h0]) rfl (by simp [St.av]) (by simp [Glob.av]) rfl
  · simp [Glob.av, h0]
    exact c5 E K _ _ h (.refl _ _) (fun h => ⟨h, h0⟩) rfl rfl rfl rfl rfl (by simp [St.av]) (by simp [Glob.av]) rfl
end
end Go.Ab

namespace Go.Ab
open Go.Proofs

set_option maxRecDepth 100000
set_option maxHeartbeats 8000000
def Sc.deeps (σ : Sc) : Prop := ∀ l ∈ σ.L, l.deep ≤ σ.deep
def Sc.ext (σ : Sc) (A : List Lv) : Sc := ⟨σ.P, σ.deep, σ.L ++ A⟩
def BlkC (n c : Nat) (F Who : Int) (l : List St) : Prop := ∀ {σ : Sc} {held : List (List UInt8)} {E : Int} {H : List AObj}, Ck n c σ F Who held E H → σ.deeps → σ.deep + St.sizes l + 1 ≤ 2 ^ 31 → σ.L.length + St.sizes l ≤ 2 ^ 31 → held.length + St.sizes l ≤ 2 ^ 31 →
  SCalls Tryz.prog 89 [.ptr c 0, sl (St.avs l)] H (fun r K => r = .ret (.tuple []) ∧ ∃ E' : Int, (E' = 0 → E = 0 ∧ St.scs σ.P F σ.V l) ∧ Ck n c σ F Who held E' K ∧ FrN n H K)
def StC (n c : Nat) (F Who : Int) (s : St) : Prop := ∀ {σ : Sc} {held : List (List UInt8)} {E : Int} {H : List AObj}, Ck n c σ F Who held E H → σ.deeps → σ.deep + s.size ≤ 2 ^ 31 → σ.L.length + s.size ≤ 2 ^ 31 → held.length + s.size ≤ 2 ^ 31 →
  SCalls Tryz.prog 106 [.ptr c 0, s.av] H (fun r K => r = .ret (.tuple []) ∧ ∃ (E' : Int) (A : List Lv), (E' = 0 → E = 0 ∧ s.sc σ.P F σ.V ∧ A.map Lv.name = s.adds) ∧ Ck n c (σ.ext A) F Who held E' K ∧ FrN n H K ∧ (∀ l ∈ A, l.deep = σ.deep) ∧ A.length ≤ 1)
theorem Sc.lidx_kind {σ : Sc} {s : List UInt8} (h : σ.kind s = 2) : 0 ≤ σ.P.lidx s := by
  unfold Sc.kind at h
  by_cases h3 : 0 ≤ σ.P.gidx s <;> by_cases h4 : 0 ≤ σ.P.lidx s <;> by_cases h5 : 0 ≤ σ.P.fix s <;> by_cases h6 : 0 ≤ σ.vidx s <;> simp [h3, h4, h5, h6] at h ⊢
section
variable {n c : Nat} {σ : Sc} {F Who E : Int} {held : List (List UInt8)} {H : List AObj} {s : List UInt8}
def I133 (n c : Nat) (σ : Sc) (F Who : Int) (held : List (List UInt8)) (E1 : Int) (M : List AObj) (lo : List (Nat × List AV)) (m : Nat) (τ : Env) (S : AS) : Prop :=
  ∃ (j : Nat) (E2 : Int) (M2 : List AObj), m + j = held.length ∧ (E2 = 0 → E1 = 0) ∧ Ck n c σ F Who held E2 M2 ∧ FrN n M M2 ∧ τ = [(0, .ptr c 0), (3, .lref 3 0), (5, .int .i64 j)] ∧ S = ⟨lo, M2, []⟩
theorem hold_c {k a : Int} {t u : Bool} {i e : List Ex} {b l : List St} (h : Ck n c σ F Who held E H) (hd : σ.deeps) (h1 : σ.deep + St.sizes b + 1 ≤ 2 ^ 31) (h2 : σ.L.length + St.sizes b ≤ 2 ^ 31) (h3 : held.length + St.sizes b + 1 ≤ 2 ^ 31) (hB : BlkC n c F Who b) :
    SCalls Tryz.prog 133 [.ptr c 0, (St.mk k a t u s i e b l).av] H (fun r K => r = .ret (.tuple []) ∧
    ∃ E' : Int, (E' = 0 → E = 0 ∧ 0 ≤ σ.P.lidx s ∧ St.scs σ.P F σ.V b) ∧ Ck n c σ F Who held E' K ∧ FrN n H K) := by
  obtain ⟨-, A, hv, Uv, hc⟩ := h.cells
  have hok := h.ok
  refine fn_go k133 rfl ?_
  intro Q hQ
  have p3 : ∀ (E1 : Int) (M : List AObj) (τ : Env), Ck n c σ F Who held E1 M → FrN n H M → E1 = 0 → (E = 0 ∧ 0 ≤ σ.P.lidx s) → look τ 0 = some (.ptr c 0) → look τ 3 = some (.lref 3 0) →
      go (SCalls Tryz.prog) c133_3 [] τ ⟨[(3, (St.mk k a t u s i e b l).av.cells)], M, []⟩ (aendR [] Q) := by
    intro E1 M τ hM frM hE1 hf t0 t3
    obtain ⟨A2, hv, U, us, hc2, hh, hu, hul, hnU, hUc⟩ := hM.st
    have hhl := hM.hl
    obtain ⟨M1, v1, happ1, ht1, fr1⟩ := TipN.nils_app (n := lenH M) (M := M) (lo := [(3, (St.mk k a t u s i e b l).av.cells)]) (df := []) (e := 1) (b := 16) (xs := held.map AV.str) (Nat.le_refl _) (by simp [roomA_eq]; omega)
    have her : (held.map AV.str).map AV.erase = held.map AV.str := by simp
    rw [her] at ht1
    simp [St.av] at happ1
    have hwid : wid 1 (held.map AV.str) = true := by rw [wid_map 1 AV.str held fun e => ⟨rfl, rfl⟩]
    have ht2 := ht1.gr ((Gr.refl M1).add (o := .tip))
    have fr2 : FrN (lenH M) M (addH M1 .tip) := fr1.trans (.add fr1.1)
    obtain ⟨M2, happ, ht3, fr3, -⟩ := ht2.app (lo := [(3, (St.mk k a t u s i e b l).av.cells)]) (df := []) (e := 1) (b := 16) (x := .str s) fr2.1 hwid (by simp [roomA_eq]; omega)
    simp [St.av] at happ
    have hel : ∀ S : AS, elemsA S 1 hv = some (held.map AV.str) := fun S => by
      rcases hh with ⟨rfl, rfl⟩ | ⟨t, rfl, -⟩
      · rfl
      · simp [hwid]
    have hM2 := hM.fr (fr2.trans fr3)
    obtain ⟨A3, hv3, U3, us3, hc3, hh3, hu3, hul3, hnU3, hUc3⟩ := hM2.st
    simp [c133_3, t0, t3, St.av, hc2, Sc.cells, hh.okv, hh.proper, okD_proper hh.proper, hh.lref, hh.cells, hel, happ1, ht1.lref, okD_proper ht1.proper, ht1.okv, ht1.proper, happ, hc3]
    have hup := hM2.upd (σ' := σ) (F' := F) (Who' := Who) (E' := E1) (A := A3) (held' := held ++ [s]) (hv := .vs (some (lenH M1 + 1)) (held.map AV.str ++ [.str s])) (.inr ⟨some (lenH M1 + 1), by simp, by simp⟩) hu3 hul3 hnU3 hUc3 hM2.ok hM2.who (by simp; omega)
    simp [Sc.cells] at hup
    refine (hB hup hd (by omega) (by omega) (by simp; omega)).mono ?_
    rintro r K ⟨rfl, E2, h4, h5, h6⟩
    obtain ⟨A4, hv4, U4, us4, hc4, hh4, hu4, hul4, hnU4, hUc4⟩ := h5.st
    simp [hc4, Sc.cells, hh.okv, hh.proper, okD_proper hh.proper, hh.lref, hh.cells]
    have hup2 := h5.upd (σ' := σ) (F' := F) (Who' := Who) (E' := E2) (A := A4) (held' := held) (hv := hv) hh hu4 hul4 hnU4 hUc4 h5.ok h5.who (by omega)
    simp [Sc.cells] at hup2
    have frM2 : FrN n M M2 := (fr2.trans fr3).le (by have := hM.nH; omega)
    exact hQ _ _ ⟨rfl, E2, fun h => ⟨hf.1, hf.2, (h4 h).2⟩, hup2, (((frM.trans frM2).trans (.set hM.nc)).trans h6).trans (.set hM.nc)⟩
  have p4 : ∀ (E1 : Int) (M : List AObj) (τ : Env), Ck n c σ F Who held E1 M → FrN n H M → (E1 = 0 → (E = 0 ∧ 0 ≤ σ.P.lidx s)) → look τ 0 = some (.ptr c 0) → look τ 3 = some (.lref 3 0) →
      go (SCalls Tryz.prog) c133_4 [] τ ⟨[(3, (St.mk k a t u s i e b l).av.cells)], M, []⟩ (aendR [] Q) := by
    intro E1 M τ hM frM hf t0 t3
    obtain ⟨-, A2, hv2, Uv2, hc2⟩ := hM.cells
    by_cases hE1 : E1 = 0
    · simp [c133_4, t0, t3, hc2, Sc.cells, hE1]
      exact p3 E1 M _ hM frM hE1 (hf hE1) rfl rfl
    · simp [c133_4, t0, t3, hc2, Sc.cells, hE1]
      exact hQ _ _ ⟨rfl, E1, fun h => absurd h hE1, hM, frM⟩
  have p5 : ∀ (E1 : Int) (M : List AObj) (τ : Env), Ck n c σ F Who held E1 M → FrN n H M → (E1 = 0 → (E = 0 ∧ 0 ≤ σ.P.lidx s)) → look τ 0 = some (.ptr c 0) → look τ 3 = some (.lref 3 0) →
      go (SCalls Tryz.prog) c133_5 [] τ ⟨[(3, (St.mk k a t u s i e b l).av.cells)], M, []⟩ (aendR [] Q) := by
    intro E1 M τ hM frM hf t0 t3
    simp [c133_5, t0, t3]
    refine loop_keep (n := held.length) (I133 n c σ F Who held E1 M _) ?_ ⟨0, E1, M, by simp, id, hM, .refl _ _, rfl, rfl⟩
    rintro m τ S ⟨j, E2, M2, hj, hE2, hM2, fr2, rfl, rfl⟩
    obtain ⟨A2, hv, U, us, hc2, hh, hu, hul, hnU, hUc⟩ := hM2.st
    have hhl := hM.hl
    by_cases hlt : j < held.length
    · have hhv : ∃ t, hv = .vs t (held.map AV.str) := by
        rcases hh with ⟨rfl, rfl⟩ | ⟨t, rfl, -⟩
        · simp at hlt
        · exact ⟨t, rfl⟩
      obtain ⟨t', rfl⟩ := hhv
      by_cases heq : held[j] = s
      · simp [hc2, Sc.cells, hlt, c133_2, St.av, heq]
        refine (cfail_c hM2).mono ?_
        rintro r K ⟨rfl, E3, q1, q2, q3⟩
        simp [c133_1, wrap_s (n := (j : Int) + 1) (by omega)]
        exact ⟨m - 1, by omega, j + 1, E3, K, by omega, fun h => hE2 (q1 h).1, q2, fr2.trans q3, by simp, by simp [St.av]⟩
      · simp [hc2, Sc.cells, hlt, c133_2, St.av, heq, c133_1, wrap_s (n := (j : Int) + 1) (by omega)]
        exact ⟨m - 1, by omega, j + 1, E2, M2, by omega, hE2, hM2, fr2, by simp, by simp [St.av]⟩
    · simp [hc2, Sc.cells, hh.len, hh.proper, hh.okv, okD_proper hh.proper, hh.lref, hlt]
      exact p4 E2 M2 _ hM2 (frM.trans fr2) (fun h => hf (hE2 h)) rfl rfl
  have p6 : ∀ (E1 : Int) (M : List AObj) (τ : Env), Ck n c σ F Who held E1 M → FrN n H M → (E1 = 0 → (E = 0 ∧ 0 ≤ σ.P.lidx s)) → look τ 0 = some (.ptr c 0) → look τ 3 = some (.lref 3 0) →
      go (SCalls Tryz.prog) c133_6 [] τ ⟨[(3, (St.mk k a t u s i e b l).av.cells)], M, []⟩ (aendR [] Q) := by
    intro E1 M τ hM frM hf t0 t3
    obtain ⟨-, A2, hv2, Uv2, hc2⟩ := hM.cells
    by_cases hF : 0 ≤ F
    · simp [c133_6, t0, t3, hc2, Sc.cells, hF, St.av]
      refine (cfail_c hM).mono ?_
      rintro r K ⟨rfl, E3, q1, q2, q3⟩
      simp
      exact p5 E3 K _ q2 (frM.trans q3) (fun h => absurd (q1 h).2 (by decide)) rfl rfl
    · simp [c133_6, t0, t3, hc2, Sc.cells, hF]
      exact p5 E1 M _ hM frM hf rfl rfl
  have p7 : ∀ (E1 : Int) (M : List AObj) (τ : Env), Ck n c σ F Who held E1 M → FrN n H M → (E1 = 0 → E = 0) → look τ 0 = some (.ptr c 0) → look τ 3 = some (.lref 3 0) → look τ 4 = some (.int .i64 (σ.kind s)) →
      go (SCalls Tryz.prog) c133_7 [] τ ⟨[(3, (St.mk k a t u s i e b l).av.cells)], M, []⟩ (aendR [] Q) := by
    intro E1 M τ hM frM hf t0 t3 t4
    by_cases h2 : σ.kind s = 2
    · simp [c133_7, t0, t3, t4, h2]
      exact p6 E1 M _ hM frM (fun h => ⟨hf h, Sc.lidx_kind h2⟩) rfl rfl
    · simp [c133_7, t0, t3, t4, h2, St.av]
      refine (cfail_c hM).mono ?_
      rintro r K ⟨rfl, E3, q1, q2, q3⟩
      simp
      exact p6 E3 K _ q2 (frM.trans q3) (fun h => absurd (q1 h).2 (by decide)) rfl rfl
  simp [c133, St.av, hc, Sc.cells]
  refine (kind_c hok).mono ?_
  rintro r K ⟨rfl, rfl⟩
  by_cases h0 : σ.kind s = 0
  · simp [h0]
    refine (cfail_c h).mono ?_
    rintro r K2 ⟨rfl, E2, q1, q2, q3⟩
    simp
    exact p7 E2 K2 _ q2 q3 (fun h => (q1 h).1) rfl rfl (by simp [h0])
  · simp [h0]
    exact p7 E K _ h (.refl _ _) id rfl rfl rfl
theorem Sc.ext_ext (σ : Sc) (A B : List Lv) : (σ.ext A).ext B = σ.ext (A ++ B) := by simp [Sc.ext]
theorem Sc.ext_nil (σ : Sc) : σ.ext [] = σ := by simp [Sc.ext]
theorem Sc.ext_V (σ : Sc) (A : List Lv) : (σ.ext A).V = σ.V ++ A.map Lv.name := by simp [Sc.ext, Sc.V]
theorem Sc.ext_deeps {σ : Sc} {A : List Lv} (h : σ.deeps) (hA : ∀ l ∈ A, l.deep = σ.deep) : (σ.ext A).deeps := fun l hl => by
  simp only [Sc.ext, List.mem_append] at hl
  rcases hl with hl | hl
  · exact h l hl
  · exact Int.le_of_eq (hA l hl)
def Sc.inn (σ : Sc) : Sc := ⟨σ.P, σ.deep + 1, σ.L⟩
theorem Sc.leave_inn {σ : Sc} {A : List Lv} (h : σ.deeps) (h0 : 0 ≤ σ.deep) (hA : ∀ l ∈ A, l.deep = σ.deep + 1) : ((σ.inn).ext A).leave = σ := by
  have h1 : σ.deep + 1 ≠ 0 := by omega
  have h2 : σ.L.filter (fun l => decide (l.deep < σ.deep + 1)) = σ.L := List.filter_eq_self.2 fun l hl => by have := h l hl; simp; omega
  have h3 : A.filter (fun l => decide (l.deep < σ.deep + 1)) = [] := List.filter_eq_nil_iff.2 fun l hl => by have := hA l hl; simp; omega
  have h4 : ((σ.inn).ext A).leave = ⟨σ.P, σ.deep + 1 - 1, (σ.L ++ A).filter (fun l => decide (l.deep < σ.deep + 1))⟩ := if_neg h1
  rw [h4, List.filter_append, h2, h3, List.append_nil]
  cases σ
  simp
theorem St.size_mem {l : List St} {e : St} (h : e ∈ l) : e.size ≤ St.sizes l := by
  induction l with
  | nil => simp at h
  | cons x r ih =>
    rcases List.mem_cons.1 h with rfl | h
    · simp [St.sizes]
    · have := ih h; simp [St.sizes]; omega
theorem St.sizes_take (l : List St) (i : Nat) : St.sizes (l.take i) ≤ St.sizes l := by
  have h := St.sizes_append (l.take i) (l.drop i)
  rw [List.take_append_drop] at h
  omega
theorem St.oks_iff {l : List St} : St.oks l ↔ ∀ e ∈ l, e.ok := by
  induction l with
  | nil => simp [St.oks]
  | cons e r ih => simp [St.oks, ih]
@[simp] theorem St.cells_drop1 (e : St) : e.av.cells.map AV.drop1 = e.av.cells := by cases e; simp [St.av]
@[simp] theorem St.cells_take (e : St) : e.av.cells.take 9 = e.av.cells := by cases e; simp [St.av]
@[simp] theorem St.agg_cells (e : St) : (.agg e.av.cells : AV) = e.av := by cases e; simp [St.av]
def I89 (n c : Nat) (σ : Sc) (F Who : Int) (held : List (List UInt8)) (E : Int) (l : List St) (H : List AObj) (m : Nat) (τ : Env) (S : AS) : Prop :=
  ∃ (j : Nat) (E2 : Int) (A : List Lv) (M2 : List AObj), m + j = l.length ∧ (E2 = 0 → E = 0 ∧ St.scs σ.P F σ.V (l.take j) ∧ A.map Lv.name = St.addsL (l.take j)) ∧ Ck n c (σ.ext A) F Who held E2 M2 ∧ FrN n H M2 ∧ (∀ x ∈ A, x.deep = σ.deep) ∧ A.length ≤ j ∧
    τ = [(0, .ptr c 0), (1, sl (St.avs l)), (4, .int .i64 j)] ∧ S = ⟨[], M2, []⟩
theorem block8_c {l : List St} (hS : ∀ s ∈ l, StC n c F Who s) : BlkC n c F Who l := by
  intro σ held E H h hd hdd hL hh
  obtain ⟨A, hv, U, us, hc, hhv, hu, hul, hnU, hUc⟩ := h.st
  have hok := h.ok
  have hln := St.length_le l
  have hd0 := h.ok.d0
  refine fn_go k89 rfl ?_
  intro Q hQ
  have hinn : σ.inn.Ok := ⟨hok.pv, by simp [Sc.inn]; omega, by simp [Sc.inn]; omega, hok.l1⟩
  have hup := h.upd (σ' := σ.inn) (F' := F) (Who' := Who) (E' := E) (A := A) (held' := held) hhv hu (by simpa [Sc.inn] using hul) hnU hUc hinn h.who h.hl
  simp [Sc.inn, Sc.cells] at hup
  simp [c89, hc, Sc.cells, wrap_s (n := σ.deep + 1) (by omega)]
  refine loop_keep (n := l.length) (I89 n c σ.inn F Who held E l H) ?_ ⟨0, E, [], _, by simp, fun h => ⟨h, by simp [St.scs], by simp [St.addsL]⟩, by rw [Sc.ext_nil]; exact hup, .set h.nc, by simp, by simp, rfl, rfl⟩
  rintro m τ S ⟨j, E2, A2, M2, hj, hE2, hM2, fr2, hA2, hAl, rfl, rfl⟩
  obtain ⟨A3, hv3, U3, us3, hc3, hhv3, hu3, hul3, hnU3, hUc3⟩ := hM2.st
  have fin : ∀ τ, look τ 0 = some (.ptr c 0) → (E2 = 0 → ¬ j < l.length) → go (SCalls Tryz.prog) c89_2 [] τ ⟨[], M2, []⟩ (aendR [] Q) := by
    intro τ t0 hx
    simp [c89_2, t0, hc3, Sc.cells]
    refine (leave_c hM2.ok).mono ?_
    rintro r K ⟨rfl, fr3⟩
    have hK := hM2.fr fr3
    obtain ⟨A4, hv4, U4, us4, hc4, hhv4, hu4, hul4, hnU4, hUc4⟩ := hK.st
    have hlv : (σ.inn.ext A2).leave = σ := Sc.leave_inn hd hd0 (by simpa [Sc.inn] using hA2)
    rw [hlv]
    have hup2 := hK.upd (σ' := σ) (F' := F) (Who' := Who) (E' := E2) (A := A4) (held' := held) hhv4 hu4 (by simpa [Sc.inn, Sc.ext] using hul4) hnU4 hUc4 hok h.who h.hl
    simp [Sc.cells] at hup2
    simp [hc4, Sc.cells, Sc.av]
    have hQ' := hQ (.ret (.tuple [])) _ ⟨rfl, E2, fun h => ⟨(hE2 h).1, by
      have h1 := (hE2 h).2.1
      rw [List.take_of_length_le (by have := hx h; omega)] at h1
      exact h1⟩, hup2, (fr2.trans (fr3.le (by have := hM2.nH; omega))).trans (.set h.nc)⟩
    simpa [Sc.ext, Sc.inn] using hQ'
  by_cases hE20 : E2 = 0
  · by_cases hlt : j < l.length
    · have hg : (St.avs l)[j]? = some (l[j]).av := by simp [St.avs_eq, hlt]
      have hjl : (j : Int) < (St.avs l).length := by simp [St.avs_eq]; omega
      have hsz := St.size_mem (List.getElem_mem hlt)
      have hszt : St.sizes (l.take j) + (l[j]).size ≤ St.sizes l := by
        have h1 := St.sizes_take l (j + 1)
        rw [List.take_succ_eq_append_getElem hlt, St.sizes_append] at h1
        simpa [St.sizes] using h1
      have hjs : j ≤ St.sizes (l.take j) := by
        have := St.length_le (l.take j)
        simp at this
        omega
      have hst := hS _ (List.getElem_mem hlt) hM2 (Sc.ext_deeps (σ := σ.inn) (by intro x hx; have := hd x hx; simp [Sc.inn]; omega) hA2) (by simp [Sc.ext, Sc.inn]; omega) (by simp [Sc.ext, Sc.inn]; omega) (by omega)
      obtain ⟨e1, e2⟩ := (hE2 hE20).2
      have htk : l.take (j + 1) = l.take j ++ [l[j]] := List.take_succ_eq_append_getElem hlt
      generalize (l[j]) = x at *
      simp [hc3, Sc.cells, hE20, hjl, c89_1, hg]
      refine hst.mono ?_
      rintro r K ⟨rfl, E3, A4, q1, q2, q3, q4, q5⟩
      simp [wrap_s (n := (j : Int) + 1) (by omega)]
      refine ⟨m - 1, by omega, j + 1, E3, A2 ++ A4, K, by omega, fun h => ?_, by rw [← Sc.ext_ext]; exact q2, fr2.trans q3, fun y hy => ?_, by simp; omega, by simp, rfl⟩
      · obtain ⟨r1, r2, r3⟩ := q1 h
        refine ⟨(hE2 hE20).1, ?_, ?_⟩
        · rw [htk, St.scs_append, St.scs_cons]
          refine ⟨e1, ?_, by simp [St.scs]⟩
          rw [Sc.ext_V, e2] at r2
          exact r2
        · rw [htk, List.map_append, e2, r3]
          simp [St.addsL]
      · rw [List.mem_append] at hy
        rcases hy with hy | hy
        · exact hA2 y hy
        · exact q4 y hy
    · have hjl : ¬ (j : Int) < (St.avs l).length := by simp [St.avs_eq]; omega
      simp [hc3, Sc.cells, hE20, hjl]
      exact fin _ rfl (fun _ => hlt)
  · by_cases hlt : (j : Int) < (St.avs l).length
    · simp [hc3, Sc.cells, hE20, hlt]
      exact fin _ rfl (fun h => absurd h hE20)
    · simp [hc3, Sc.cells, hE20, hlt]
      exact fin _ rfl (fun h => absurd h hE20)
end
end Go.Ab

namespace Go.Ab
open Go.Proofs

set_option maxRecDepth 100000
set_option maxHeartbeats 8000000
section
variable {n c : Nat} {F Who : Int}
theorem stmt8_c {s : St} (hs : s.ok) (hB : ∀ k a t u nm i e b l, s = .mk k a t u nm i e b l → BlkC n c F Who b ∧ BlkC n c F Who l) : StC n c F Who s := by
  intro σ held E H h hd hdd hL hh
  obtain ⟨k, a, t, u, s, i, e, b, l⟩ := s
  obtain ⟨hBb, hBl⟩ := hB _ _ _ _ _ _ _ _ _ rfl
  simp only [St.size] at hdd hL hh
  simp only [St.ok] at hs
  obtain ⟨hio, heo, hbo, hlo, hs⟩ := hs
  refine fn_go k106 rfl ?_
  intro Q hQ
  have noA : ∀ {K : List AObj} {E' : Int}, (E' = 0 → E = 0 ∧ (St.mk k a t u s i e b l).sc σ.P F σ.V) → k ≠ 0 → Ck n c σ F Who held E' K → FrN n H K → Q (.ret (.tuple [])) K := fun {K E'} h1 hk h2 h3 =>
    hQ _ _ ⟨rfl, E', [], fun h => ⟨(h1 h).1, (h1 h).2, by simp [St.adds, hk]⟩, by rw [Sc.ext_nil]; exact h2, h3, by simp, by simp⟩
  have hsz1 : ∀ {x}, e = [x] → x.size ≤ 2 ^ 31 := fun {x} hx => by subst hx; simp [Ex.sizes] at hdd; have := h.ok.d0; omega
  rcases hs with ⟨rfl, he⟩ | ⟨rfl, he, hi⟩ | h23 | ⟨rfl, he⟩ | he | hlast
  · obtain ⟨x, rfl⟩ := List.length_eq_one_iff.1 he
    have hxo : x.ok := by simpa [Ex.oks] using heo
    have hl := look_c (e := x) h hxo (hsz1 rfl)
    obtain ⟨xk, xo, xn, xs, xks, xa⟩ := x
    simp [c106, St.av, Ex.avs, Ex.av]
    refine hl.mono ?_
    rintro r K ⟨t1, rfl, E1, q1, q2, q3⟩
    simp [tyv]
    refine (fits_c (t := t1) (u := (t, u))).mono ?_
    rintro r K2 ⟨rfl, z, rfl⟩
    simp
    refine (cfail_c q2).mono ?_
    rintro r K3 ⟨rfl, E2, q4, q5, q6⟩
    simp
    refine (clet_c (t := (t, u)) q5 (by omega)).mono ?_
    rintro r K4 ⟨rfl, E3, σ', q7, q8, q9, q10⟩
    simp
    rcases q7 with rfl | rfl
    · refine hQ _ _ ⟨rfl, E3, [], fun h0 => ?_, by rw [Sc.ext_nil]; exact q9, (q3.trans q6).trans q10, by simp, by simp⟩
      have := (q8 h0).2
      have := congrArg (fun σ : Sc => σ.L.length) this
      simp [Sc.add] at this
    · refine hQ _ _ ⟨rfl, E3, [⟨s, t, u, σ.deep⟩], fun h0 => ?_, q9, (q3.trans q6).trans q10, by simp, by simp⟩
      obtain ⟨r1, -⟩ := q8 h0
      obtain ⟨r2, -⟩ := q4 r1
      obtain ⟨r3, r4⟩ := q1 r2
      exact ⟨r3, by simp only [St.sc]; exact ⟨fun _ => by simpa using r4, by simp, by simp, by simp, by simp⟩, by simp [St.adds]⟩
  · have hi' : i = [] ∨ ∃ y, i = [y] := by
      rcases i with _ | ⟨y, _ | ⟨z, i⟩⟩
      · exact .inl rfl
      · exact .inr ⟨y, rfl⟩
      · simp at hi
    simp [c106, St.av]
    refine (assign_c h hi' (List.length_eq_one_iff.1 he) hio heo (by have := h.ok.d0; omega)).mono ?_
    rintro r K ⟨rfl, E1, q1, q2, q3⟩
    simp
    refine noA (fun h0 => ?_) (by decide) q2 q3
    obtain ⟨r1, r2, r3, r4, r5⟩ := q1 h0
    exact ⟨r1, by simp only [St.sc]; exact ⟨fun _ => r3, fun _ => ⟨r2, r4, r5⟩, by simp, by simp, by simp⟩⟩
  · obtain ⟨x, rfl⟩ := List.length_eq_one_iff.1 h23.2
    have hxo : x.ok := by simpa [Ex.oks] using heo
    obtain ⟨rfl, -⟩ := h23
    simp only [Ex.sizes] at hdd hL hh
    have hp := public_c (e := x) (b := true) h hxo (hsz1 rfl)
    obtain ⟨xk, xo, xn, xs, xks, xa⟩ := x
    simp [c106, St.av, c106_2, Ex.avs, Ex.av]
    refine hp.mono ?_
    rintro r K ⟨rfl, E1, q1, q2, q3⟩
    obtain ⟨-, A2, hv2, Uv2, hc2⟩ := q2.cells
    by_cases hE1 : E1 = 0
    · simp [hc2, Sc.cells, hE1]
      refine (hBb q2 hd (by omega) (by omega) (by omega)).mono ?_
      rintro r K2 ⟨rfl, E2, q4, q5, q6⟩
      simp
      refine (hBl q5 hd (by omega) (by omega) (by omega)).mono ?_
      rintro r K3 ⟨rfl, E3, q7, q8, q9⟩
      simp
      refine noA (fun h0 => ?_) (by decide) q8 ((q3.trans q6).trans q9)
      obtain ⟨r1, r2⟩ := q7 h0
      obtain ⟨r3, r4⟩ := q4 r1
      obtain ⟨r5, r6⟩ := q1 r3
      exact ⟨r5, by simp only [St.sc]; exact ⟨fun _ => by simpa using r6, by simp, by simp, fun _ => r4, fun _ => r2⟩⟩
    · simp [hc2, Sc.cells, hE1]
      exact noA (fun h => absurd h hE1) (by decide) q2 q3
  · obtain ⟨x, rfl⟩ := List.length_eq_one_iff.1 he.1
    have hxo : x.ok := by simpa [Ex.oks] using heo
    simp only [Ex.sizes] at hdd hL hh
    have hp := public_c (e := x) (b := true) h hxo (hsz1 rfl)
    obtain ⟨xk, xo, xn, xs, xks, xa⟩ := x
    simp [c106, St.av, c106_2, Ex.avs, Ex.av]
    refine hp.mono ?_
    rintro r K ⟨rfl, E1, q1, q2, q3⟩
    obtain ⟨-, A2, hv2, Uv2, hc2⟩ := q2.cells
    by_cases hE1 : E1 = 0
    · simp [hc2, Sc.cells, hE1]
      refine (hBb q2 hd (by omega) (by omega) (by omega)).mono ?_
      rintro r K2 ⟨rfl, E2, q4, q5, q6⟩
      simp
      refine (hBl q5 hd (by omega) (by omega) (by omega)).mono ?_
      rintro r K3 ⟨rfl, E3, q7, q8, q9⟩
      simp
      refine noA (fun h0 => ?_) (by decide) q8 ((q3.trans q6).trans q9)
      obtain ⟨r1, r2⟩ := q7 h0
      obtain ⟨r3, r4⟩ := q4 r1
      obtain ⟨r5, r6⟩ := q1 r3
      exact ⟨r5, by simp only [St.sc]; exact ⟨fun _ => by simpa using r6, by simp, by simp, fun _ => r4, by simp⟩⟩
    · simp [hc2, Sc.cells, hE1]
      exact noA (fun h => absurd h hE1) (by decide) q2 q3
  · rcases he with rfl
    simp [c106, St.av, c106_2]
    refine (hold_c h hd (by omega) (by omega) (by omega) hBb).mono ?_
    rintro r K ⟨rfl, E1, q1, q2, q3⟩
    simp
    refine noA (fun h0 => ?_) (by decide) q2 q3
    obtain ⟨r1, r2, r3⟩ := q1 h0
    exact ⟨r1, by simp only [St.sc]; exact ⟨by simp, by simp, fun _ => r2, fun _ => r3, by simp⟩⟩
  · obtain ⟨x, rfl⟩ := List.length_eq_one_iff.1 hlast.2
    obtain ⟨rfl, -⟩ := hlast
    have hxo : x.ok := by simpa [Ex.oks] using heo
    obtain ⟨-, A2, hv2, Uv2, hc2⟩ := h.cells
    by_cases hF : 0 ≤ F
    · simp [c106, St.av, c106_2, hc2, Sc.cells, hF]
      refine (cfail_c h).mono ?_
      rintro r K ⟨rfl, E1, q1, q2, q3⟩
      simp
      exact noA (fun h => absurd (q1 h).2 (by decide)) (by decide) q2 q3
    · have hl := look_c (e := x) h hxo (hsz1 rfl)
      obtain ⟨xk, xo, xn, xs, xks, xa⟩ := x
      simp [c106, St.av, c106_2, hc2, Sc.cells, hF, c106_1, Ex.avs, Ex.av]
      refine hl.mono ?_
      rintro r K ⟨⟨t1, t2⟩, rfl, E1, q1, q2, q3⟩
      have hfin : ∀ {E2 : Int}, (E2 = 0 → E1 = 0) → E2 = 0 → E = 0 ∧ (St.mk 5 a t u s i [.mk xk xo xn xs xks xa] b l).sc σ.P F σ.V := fun h1 h2 => by
        obtain ⟨r1, r2⟩ := q1 (h1 h2)
        exact ⟨r1, by simp only [St.sc]; exact ⟨fun _ => by simpa using r2, by simp, by simp, by simp, by simp⟩⟩
      cases t2
      · simp [tyv]
        exact noA (hfin id) (by decide) q2 q3
      · simp [tyv]
        refine (cfail_c q2).mono ?_
        rintro r K2 ⟨rfl, E2, q4, q5, q6⟩
        simp
        exact noA (hfin fun h => (q4 h).1) (by decide) q5 (q3.trans q6)
theorem blk8 : ∀ (m : Nat) (l : List St), St.sizes l ≤ m → St.oks l → BlkC n c F Who l := by
  intro m
  induction m with
  | zero =>
    intro l hl ho
    refine block8_c fun s hs => ?_
    have := St.size_mem hs
    cases s; simp [St.size] at this; omega
  | succ m ih =>
    intro l hl ho
    refine block8_c fun s hs => stmt8_c (St.oks_iff.1 ho s hs) ?_
    rintro k a t u nm i e b l' rfl
    have h1 := St.size_mem hs
    have h2 := St.oks_iff.1 ho _ hs
    simp only [St.size] at h1
    simp only [St.ok] at h2
    exact ⟨ih b (by omega) h2.2.2.1, ih l' (by omega) h2.2.2.2.1⟩
theorem st8 {s : St} (ho : s.ok) : StC n c F Who s := by
  refine stmt8_c ho ?_
  rintro k a t u nm i e b l' rfl
  simp only [St.ok] at ho
  exact ⟨blk8 _ _ (Nat.le_refl _) ho.2.2.1, blk8 _ _ (Nat.le_refl _) ho.2.2.2.1⟩
end
end Go.Ab

namespace Go.Ab
open Go.Proofs

set_option maxRecDepth 100000
set_option maxHeartbeats 8000000
attribute [local simp] c5_1 c5_2 c5_3 c5_4 c5_5 c5_6 c5_7 c5_8
def Func.sc (P : Prg) (F : Int) (f : Func) : Prop := St.scs P F (f.params.map Para.name) f.body ∧ f.ret.gd P (f.params.map Para.name ++ St.addsL f.body) F
section
variable {n c : Nat} {σ : Sc} {F Who E : Int} {held : List (List UInt8)} {H : List AObj}
def I88 (n c : Nat) (σ : Sc) (F Who : Int) (E : Int) (ps : List Para) (H : List AObj) (lo : List (Nat × List AV)) (m : Nat) (τ : Env) (S : AS) : Prop :=
  ∃ (j : Nat) (E2 : Int) (A : List Lv) (M2 : List AObj), m + j = ps.length ∧ (E2 = 0 → E = 0 ∧ A.map Lv.name = (ps.take j).map Para.name) ∧ Ck n c (σ.ext A) F Who [] E2 M2 ∧ FrN n H M2 ∧ (∀ x ∈ A, x.deep = σ.deep) ∧ A.length ≤ j ∧
    τ = [(0, .ptr c 0), (3, .lref 3 0), (4, .int .i64 j)] ∧ S = ⟨lo, M2, []⟩
def I88b (n c : Nat) (σ : Sc) (F Who : Int) (E : Int) (l : List St) (H : List AObj) (lo : List (Nat × List AV)) (m : Nat) (τ : Env) (S : AS) : Prop :=
  ∃ (j : Nat) (E2 : Int) (A : List Lv) (M2 : List AObj), m + j = l.length ∧ (E2 = 0 → E = 0 ∧ St.scs σ.P F σ.V (l.take j) ∧ A.map Lv.name = St.addsL (l.take j)) ∧ Ck n c (σ.ext A) F Who [] E2 M2 ∧ FrN n H M2 ∧ (∀ x ∈ A, x.deep = σ.deep) ∧ A.length ≤ j ∧
    τ = [(0, .ptr c 0), (3, .lref 3 0), (5, .int .i64 j)] ∧ S = ⟨lo, M2, []⟩
theorem function8_c {P : Prg} {f : Func} (h : Ck n c ⟨P, 0, []⟩ F Who [] E H) (hp : f.params.length ≤ 6) (hb : St.oks f.body) (hr : f.ret.ok) (hsz : St.sizes f.body + f.ret.size ≤ 2 ^ 30) :
    SCalls Tryz.prog 88 [.ptr c 0, f.av] H (fun r K => r = .ret (.tuple []) ∧ ∃ E' : Int, (E' = 0 → E = 0 ∧ f.sc P F) ∧ Ck n c ⟨P, 0, []⟩ F Who [] E' K ∧ FrN n H K) := by
  obtain ⟨fa, fn, ps, ft, fs, b, ⟨rk, ro, rn, rs, rks, ra⟩⟩ := f
  simp only at hp hb hr hsz
  obtain ⟨A, hv, U, us, hc, hhv, hu, hul, hnU, hUc⟩ := h.st
  have hok := h.ok
  have hln := St.length_le b
  generalize hfc : (Func.mk fa fn ps ft fs b (.mk rk ro rn rs rks ra)).av.cells = fc
  have hfc' := hfc
  simp [Func.av, Ex.av] at hfc'
  refine fn_go k88 rfl ?_
  intro Q hQ
  have c3 : ∀ (E1 : Int) (M : List AObj) (τ : Env) (B : List Lv), Ck n c ((Sc.inn ⟨P, 0, []⟩).ext B) F Who [] E1 M → FrN n H M → (∀ x ∈ B, x.deep = 1) → (E1 = 0 → E = 0 ∧ (Func.mk fa fn ps ft fs b (.mk rk ro rn rs rks ra)).sc P F) → look τ 0 = some (.ptr c 0) →
      go (SCalls Tryz.prog) c88_3 [] τ ⟨[], M, []⟩ (aendR [] Q) := by
    intro E1 M τ B hM frM hB hf t0
    obtain ⟨A3, hv3, U3, us3, hc3, hhv3, hu3, hul3, hnU3, hUc3⟩ := hM.st
    simp [c88_3, t0, hc3, Sc.cells]
    refine (leave_c hM.ok).mono ?_
    rintro r K ⟨rfl, fr3⟩
    have hK := hM.fr fr3
    obtain ⟨A4, hv4, U4, us4, hc4, hhv4, hu4, hul4, hnU4, hUc4⟩ := hK.st
    have hlv : ((Sc.inn ⟨P, 0, []⟩).ext B).leave = ⟨P, 0, []⟩ := Sc.leave_inn (by simp [Sc.deeps]) (by simp) (by simpa using hB)
    rw [hlv]
    have hup2 := hK.upd (σ' := ⟨P, 0, []⟩) (F' := F) (Who' := Who) (E' := E1) (A := A4) (held' := []) hhv4 hu4 (by simpa [Sc.inn, Sc.ext] using hul4) hnU4 hUc4 hok h.who h.hl
    simp [Sc.cells] at hup2
    simp [hc4, Sc.cells, Sc.av]
    have hQ' := hQ (.ret (.tuple [])) _ ⟨rfl, E1, hf, hup2, (frM.trans (fr3.le (by have := hM.nH; omega))).trans (.set h.nc)⟩
    simpa [Sc.ext, Sc.inn] using hQ'
  have c4 : ∀ (E1 : Int) (M : List AObj) (τ : Env) (B : List Lv), Ck n c ((Sc.inn ⟨P, 0, []⟩).ext B) F Who [] E1 M → FrN n H M → (∀ x ∈ B, x.deep = 1) → (E1 = 0 → E = 0 ∧ St.scs P F (ps.map Para.name) b ∧ B.map Lv.name = ps.map Para.name ++ St.addsL b) → look τ 0 = some (.ptr c 0) → look τ 3 = some (.lref 3 0) →
      go (SCalls Tryz.prog) c88_4 [] τ ⟨[(3, fc)], M, []⟩ (aendR [] Q) := by
    intro E1 M τ B hM frM hB hf t0 t3
    obtain ⟨A3, hv3, U3, us3, hc3, hhv3, hu3, hul3, hnU3, hUc3⟩ := hM.st
    by_cases hE1 : E1 = 0
    · have hl := look_c (e := .mk rk ro rn rs rks ra) hM hr (by omega)
      simp [c88_4, t0, t3, hc3, Sc.cells, hE1, ← hfc']
      refine hl.mono ?_
      rintro r K ⟨⟨t1, t2⟩, rfl, E2, q1, q2, q3⟩
      simp [tyv]
      refine (fits_c (t := (t1, t2)) (u := (ft, fs))).mono ?_
      rintro r K2 ⟨rfl, z, rfl⟩
      simp
      refine (cfail_c q2).mono ?_
      rintro r K3 ⟨rfl, E3, q4, q5, q6⟩
      simp
      refine c3 E3 K3 _ B q5 ((frM.trans q3).trans q6) hB (fun h0 => ?_) rfl
      obtain ⟨r1, r2⟩ := q1 (q4 h0).1
      obtain ⟨r3, r4, r5⟩ := hf hE1
      refine ⟨r3, r4, ?_⟩
      have hV : ((Sc.inn ⟨P, 0, []⟩).ext B).V = ps.map Para.name ++ St.addsL b := by rw [Sc.ext_V, r5]; simp [Sc.inn, Sc.V]
      rw [hV] at r2
      exact r2
    · simp [c88_4, t0, t3, hc3, Sc.cells, hE1]
      exact c3 E1 M _ B hM frM hB (fun h => absurd h hE1) rfl
  have c5 : ∀ (E1 : Int) (M : List AObj) (τ : Env) (B : List Lv), Ck n c ((Sc.inn ⟨P, 0, []⟩).ext B) F Who [] E1 M → FrN n H M → (∀ x ∈ B, x.deep = 1) → B.length ≤ 6 → (E1 = 0 → E = 0 ∧ B.map Lv.name = ps.map Para.name) → look τ 0 = some (.ptr c 0) → look τ 3 = some (.lref 3 0) →
      go (SCalls Tryz.prog) c88_5 [] τ ⟨[(3, fc)], M, []⟩ (aendR [] Q) := by
    intro E1 M τ B hM frM hB hBl hf t0 t3
    simp [c88_5, t0, t3]
    refine loop_keep (n := b.length) (I88b n c ((Sc.inn ⟨P, 0, []⟩).ext B) F Who E1 b M [(3, fc)]) ?_ ⟨0, E1, [], M, by simp, fun h => ⟨h, by simp [St.scs], by simp [St.addsL]⟩, by rw [Sc.ext_nil]; exact hM, .refl _ _, by simp, by simp, rfl, rfl⟩
    rintro m τ S ⟨j, E2, A2, M2, hj, hE2, hM2, fr2, hA2, hAl, rfl, rfl⟩
    obtain ⟨A3, hv3, U3, us3, hc3, hhv3, hu3, hul3, hnU3, hUc3⟩ := hM2.st
    have fin : ∀ τ, look τ 0 = some (.ptr c 0) → look τ 3 = some (.lref 3 0) → (E2 = 0 → ¬ j < b.length) → go (SCalls Tryz.prog) c88_4 [] τ ⟨[(3, fc)], M2, []⟩ (aendR [] Q) := by
      intro τ t0 t3 hx
      refine c4 E2 M2 τ (B ++ A2) (by rw [← Sc.ext_ext]; exact hM2) (frM.trans fr2) (fun x hx => ?_) (fun h0 => ?_) t0 t3
      · rw [List.mem_append] at hx
        rcases hx with hx | hx
        · exact hB x hx
        · exact hA2 x hx
      · obtain ⟨r1, r2, r3⟩ := hE2 h0
        obtain ⟨r4, r5⟩ := hf r1
        rw [List.take_of_length_le (by have := hx h0; omega)] at r2 r3
        have hV : ((Sc.inn ⟨P, 0, []⟩).ext B).V = ps.map Para.name := by rw [Sc.ext_V, r5]; simp [Sc.inn, Sc.V]
        rw [hV] at r2
        exact ⟨r4, r2, by rw [List.map_append, r5, r3]⟩
    by_cases hE20 : E2 = 0
    · by_cases hlt : j < b.length
      · have hg : (St.avs b)[j]? = some (b[j]).av := by simp [St.avs_eq, hlt]
        have hjl : (j : Int) < (St.avs b).length := by simp [St.avs_eq]; omega
        have hsz1 := St.size_mem (List.getElem_mem hlt)
        have hszt : St.sizes (b.take j) + (b[j]).size ≤ St.sizes b := by
          have h1 := St.sizes_take b (j + 1)
          rw [List.take_succ_eq_append_getElem hlt, St.sizes_append] at h1
          simpa [St.sizes] using h1
        have hjs : j ≤ St.sizes (b.take j) := by
          have := St.length_le (b.take j)
          simp at this
          omega
        have hst := st8 (n := n) (c := c) (F := F) (Who := Who) (St.oks_iff.1 hb _ (List.getElem_mem hlt)) hM2 (Sc.ext_deeps (Sc.ext_deeps (by simp [Sc.deeps, Sc.inn]) (by simpa [Sc.inn] using hB)) hA2) (by simp [Sc.ext, Sc.inn]; omega) (by simp [Sc.ext, Sc.inn]; omega) (by simp; omega)
        obtain ⟨e1, e2⟩ := (hE2 hE20).2
        have htk : b.take (j + 1) = b.take j ++ [b[j]] := List.take_succ_eq_append_getElem hlt
        generalize (b[j]) = x at *
        simp [hc3, Sc.cells, hE20, hjl, c88_2, hg, ← hfc']
        refine hst.mono ?_
        rintro r K ⟨rfl, E3, A4, q1, q2, q3, q4, q5⟩
        simp [wrap_s (n := (j : Int) + 1) (by omega)]
        refine ⟨m - 1, by omega, j + 1, E3, A2 ++ A4, K, by omega, fun h => ?_, by rw [← Sc.ext_ext]; exact q2, fr2.trans q3, fun y hy => ?_, by simp; omega, by simp, by simp [← hfc']⟩
        · obtain ⟨r1, r2, r3⟩ := q1 h
          refine ⟨(hE2 hE20).1, ?_, ?_⟩
          · rw [htk, St.scs_append, St.scs_cons]
            refine ⟨e1, ?_, by simp [St.scs]⟩
            rw [Sc.ext_V, e2] at r2
            exact r2
          · rw [htk, List.map_append, e2, r3]
            simp [St.addsL]
        · rw [List.mem_append] at hy
          rcases hy with hy | hy
          · exact hA2 y hy
          · exact q4 y hy
      · have hjl : ¬ (j : Int) < (St.avs b).length := by simp [St.avs_eq]; omega
        simp [hc3, Sc.cells, hE20, hjl, ← hfc']
        rw [hfc']
        exact fin _ rfl rfl (fun _ => hlt)
    · by_cases hlt : (j : Int) < (St.avs b).length
      · simp [hc3, Sc.cells, hE20, hlt, ← hfc']
        rw [hfc']
        exact fin _ rfl rfl (fun h => absurd h hE20)
      · simp [hc3, Sc.cells, hE20, hlt, ← hfc']
        rw [hfc']
        exact fin _ rfl rfl (fun h => absurd h hE20)
  have hinn : (Sc.inn ⟨P, 0, []⟩).Ok := ⟨hok.pv, by simp [Sc.inn], by simp [Sc.inn], by simp [Sc.inn]⟩
  have hup := h.upd (σ' := Sc.inn ⟨P, 0, []⟩) (F' := F) (Who' := Who) (E' := E) (A := A) (held' := []) hhv hu (by simpa [Sc.inn] using hul) hnU hUc hinn h.who h.hl
  simp [Sc.inn, Sc.cells] at hup
  have hcells : (Func.mk fa fn ps ft fs b (.mk rk ro rn rs rks ra)).av = .agg fc := by rw [← hfc']; simp [Func.av, Ex.av]
  rw [hcells]
  simp [c88, hc, Sc.cells, show IntKind.i64.wrap 1 = 1 from rfl]
  refine loop_keep (n := ps.length) (I88 n c (Sc.inn ⟨P, 0, []⟩) F Who E ps H [(3, fc)]) ?_ ⟨0, E, [], _, by simp, fun h => ⟨h, by simp⟩, by rw [Sc.ext_nil]; exact hup, .set h.nc, by simp, by simp, rfl, rfl⟩
  rintro m τ S ⟨j, E2, A2, M2, hj, hE2, hM2, fr2, hA2, hAl, rfl, rfl⟩
  by_cases hlt : j < ps.length
  · have hg : (ps.map Para.av)[j]? = some (ps[j]).av := by simp [hlt]
    have hjl : (j : Int) < (ps.map Para.av).length := by simp; omega
    have htk : ps.take (j + 1) = ps.take j ++ [ps[j]] := List.take_succ_eq_append_getElem hlt
    generalize ps[j] = x at *
    obtain ⟨xn, xt, xs⟩ := x
    generalize hpav : ps.map Para.av = pav at *
    simp [← hfc', hjl, c88_1, hg, Para.av]
    refine (clet_c (t := (xt, xs)) hM2 (by simp [Sc.ext, Sc.inn]; omega)).mono ?_
    rintro r K ⟨rfl, E3, σ', q1, q2, q3, q4⟩
    simp [wrap_s (n := (j : Int) + 1) (by omega)]
    rcases q1 with rfl | rfl
    · refine ⟨m - 1, by omega, j + 1, E3, A2, K, by omega, fun h0 => ?_, q3, fr2.trans q4, hA2, by omega, by simp, by simp [← hfc']⟩
      have h9 := congrArg (fun σ : Sc => σ.L.length) (q2 h0).2
      simp [Sc.add] at h9
    · refine ⟨m - 1, by omega, j + 1, E3, A2 ++ [⟨xn, xt, xs, 1⟩], K, by omega, fun h0 => ?_, ?_, fr2.trans q4, fun y hy => ?_, by simp; omega, by simp, by simp [← hfc']⟩
      · obtain ⟨r1, -⟩ := q2 h0
        obtain ⟨r2, r3⟩ := hE2 r1
        exact ⟨r2, by rw [htk, List.map_append, List.map_append, r3]; rfl⟩
      · rw [← Sc.ext_ext]; exact q3
      · rw [List.mem_append] at hy
        rcases hy with hy | hy
        · exact hA2 y hy
        · simp at hy; subst hy; rfl
  · have hjl : ¬ (j : Int) < (ps.map Para.av).length := by simp; omega
    generalize hpav : ps.map Para.av = pav at *
    simp [← hfc', hjl]
    rw [hfc']
    refine c5 E2 M2 _ A2 hM2 fr2 hA2 (by omega) (fun h0 => ?_) rfl rfl
    obtain ⟨r1, r2⟩ := hE2 h0
    rw [List.take_of_length_le (by omega)] at r2
    exact ⟨r1, r2⟩
end
end Go.Ab
