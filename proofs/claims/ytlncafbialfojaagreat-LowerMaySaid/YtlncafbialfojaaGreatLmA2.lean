/- The abstract machine, what it tells of the model (part 2). No conditions. -/
import Derived.RangeFuncIn
import Derived.RangeFuncRecord
import Derived.OrdersIn
import Derived.LoopNIn
import Derived.OwnWalkIn
import Derived.Test.YtlncafbialfojaaGreatLmA1
set_option linter.unusedVariables false
set_option linter.unusedSimpArgs false
/- Regions, joined. -/
namespace Go.Ab
section
variable {P : Program} {B N : Nat} {L : List AOper} {ops : Array Oper} {τ0 τ : Env} {Kn : Env → AS → Prop} {KP : AV → AS → Prop} {p : Nat} {S Sp : AS} {listed : Array Bool} {g g0 : Gh} {blk : Nat → Option Nat} {a : Act} {w w0 : World}
  {Q : Exit → Act → World → Prop}

theorem recheck_mem {R : List AOper} {k : Nat} {o : AOper} : ∀ {ks : List Nat}, recheck R τ S ks → k ∈ ks → R[k]? = some o → rechk1 τ S o
  | [], _, h, _ => by cases h
  | x :: ks, h, hk, ho => by
    obtain ⟨h1, h2⟩ := h
    rcases List.mem_cons.1 hk with rfl | hk
    · rw [ho] at h1; exact h1
    · exact recheck_mem h2 hk ho

theorem getO_get (hl : L.length = ops.size) {k : Nat} (hk : k < ops.size) : L[k]? = some (getO L k) := by
  have hlt : k < L.length := by omega
  unfold getO
  rw [List.getD_eq_getElem?_getD, List.getElem?_eq_getElem hlt]
  rfl

/-- What a region's end must bring. -/
def EndK (B N : Nat) (g0 : Gh) (w0 : World) (Kn : Env → AS → Prop) (Q : Exit → Act → World → Prop) : Prop :=
  ∀ (τ' : Env) (S' : AS) (g' : Gh) (blk' : Nat → Option Nat) (a' : Act) (w' : World), Kn τ' S' → FRel B N g' blk' τ' S' a' w' → WStep B g0 w0 g' w' → Q .normal a' w'
def EndP (B N : Nat) (L : List AOper) (τ0 : Env) (g0 : Gh) (w0 : World) (KP : AV → AS → Prop) (Q : Exit → Act → World → Prop) : Prop :=
  ∀ (v : AV) (S' : AS) (e : PanicEntry) (g' : Gh) (blk' : Nat → Option Nat) (a' : Act) (w' : World), KP v S' → FRel B N g' blk' (dropD (dsts L) τ0) S' a' w' → WStep B g0 w0 g' w' →
    erel g' (.pan v) (.panicked [e]) → Q (.panic [e]) a' w'

theorem open_dsts (C : Chk P N L ops) (Q : Pos L ops p listed) {t : Nat} (h : Open L p listed t) : t ∈ dsts L := by
  obtain ⟨k, h1, _, h3⟩ := h
  exact mem_dsts C.len (by have := Q.hp; omega) h3

theorem Inv.finish (C : Chk P N L ops) (I : Inv P B N L ops τ0 Kn KP p τ S Sp listed g blk a w) (hw : p < ops.size → wr L p = true ∧ (isF (getO L p) = true → listed.getD (getO L p).i false = false))
    (hr : Region.ready .any ops listed = []) (st : WStep B g0 w0 g w) (hK : EndK B N g0 w0 Kn Q) : Q .normal a w := by
  have hall := ready_some C I.pos.len hr
  have hp : p = ops.size := by
    rcases Nat.lt_or_ge p ops.size with h | h
    · exfalso
      have h0 := hall p h
      cases hF : isF (getO L p) with
      | true => rw [(hw h).2 hF] at h0; cases h0
      | false => rw [I.pos.U p (Nat.le_refl _) h hF] at h0; cases h0
    · have := I.pos.hp; omega
  have hc := I.cont
  rw [hp, List.drop_eq_nil_of_le (by rw [C.len]; exact Nat.le_refl _)] at hc
  refine hK τ S g blk a w hc ⟨I.sr.less I.ext, I.size, fun t v hl => I.T t v hl ?_, I.D⟩ st
  rintro (⟨k, h1, h2, _⟩ | ⟨k, h1, h2, _⟩)
  · rw [hall k (by omega)] at h2
    cases h2
  · omega

theorem pos_set (Q : Pos L ops p listed) {i p' : Nat} (hi : i < ops.size) (hp' : p' ≤ ops.size) (hE : Edges ops listed i) (hW : ∀ k, k < p' → wr L k = true → k < p ∨ (getO L k).i = i)
    (hU : ∀ k, p' ≤ k → k < ops.size → isF (getO L k) = false → p ≤ k ∧ (getO L k).i ≠ i) : Pos L ops p' (listed.setIfInBounds i true) := by
  have hs : i < listed.size := by rw [Q.len]; exact hi
  refine ⟨hp', by simp [Q.len], fun k hk hw => ?_, fun k hk hkn hF => ?_, fun j c hc hj e he hb => ?_⟩
  · rw [getD_set hs]
    split
    · rfl
    · rename_i hne
      rcases hW k hk hw with h | h
      · exact Q.W k h hw
      · exact absurd h hne
  · obtain ⟨h1, h2⟩ := hU k hk hkn hF
    rw [getD_set hs, if_neg h2]
    exact Q.U k h1 hkn hF
  · rw [getD_set hs] at hj ⊢
    split
    · rfl
    · split at hj
      · rename_i hji; subst hji; exact hE c hc e he hb
      · exact Q.down j c hc hj e he hb

theorem draw_sound (C : Chk P N L ops) (hK : EndK B N g0 w0 Kn Q) (hP : EndP B N L τ0 g0 w0 KP Q) : ∀ (fuel : Nat) (listed : Array Bool) (p : Nat) (τ : Env) (S Sp : AS) (g : Gh) (blk : Nat → Option Nat) (a : Act) (w : World),
    left listed ≤ fuel → Inv P B N L ops τ0 Kn KP p τ S Sp listed g blk a w → (p < ops.size → wr L p = true ∧ (isF (getO L p) = true → listed.getD (getO L p).i false = false)) → WStep B g0 w0 g w → wpAny P .any ops Q fuel listed a w := by
  intro fuel
  induction fuel with
  | zero =>
    intro listed p τ S Sp g blk a w hl I hw st
    have hr : Region.ready .any ops listed = [] := by
      cases hr : Region.ready .any ops listed with
      | nil => rfl
      | cons i r =>
        have hi : i ∈ Region.ready .any ops listed := by rw [hr]; simp
        rw [ready_iff] at hi
        obtain ⟨h1, h2, _⟩ := hi
        have hs : i < listed.size := by rw [I.pos.len]; exact h1
        have := left_zero (by omega) hs
        rw [Array.getD_eq_getD_getElem?] at this h2
        simp [hs] at this h2
        rw [this] at h2; cases h2
    exact ⟨hr, I.finish C hw hr st hK⟩
  | succ fuel ih =>
    intro listed p τ S Sp g blk a w hl I hw st
    refine ⟨fun hr => I.finish C hw hr st hK, fun i hi => ?_⟩
    rw [ready_iff] at hi
    obtain ⟨hin, hun, c, hc, hE0⟩ := hi
    have hE : Edges ops listed i := fun c' hc' => by rw [hc] at hc'; cases hc'; exact hE0
    have hs : i < listed.size := by rw [I.pos.len]; exact hin
    have hunf : listed.getD i false = false := by
      rw [Array.getD_eq_getD_getElem?] at hun ⊢
      simp [hs] at hun ⊢
      exact hun
    obtain ⟨k, hkn, rfl⟩ := C.surj i hin
    have hleft : left (listed.setIfInBounds (getO L k).i true) ≤ fuel := by have := left_set hs hunf; omega
    have hne : ∀ k', k' < ops.size → k' ≠ k → (getO L k').i ≠ (getO L k).i := by
      intro k' hk' hn
      rcases Nat.lt_or_gt_of_ne hn with h | h
      · exact C.inj k' k h hkn
      · exact fun e => C.inj k k' h hk' e.symm
    have hmono : ∀ k', k' < ops.size → k' ≠ k → (listed.setIfInBounds (getO L k).i true).getD (getO L k').i false = listed.getD (getO L k').i false := by
      intro k' hk' hn
      rw [getD_set hs, if_neg (hne k' hk' hn)]
    -- what must be listed ahead of what is listed already
    have preF : ∀ k', k' < ops.size → listed.getD (getO L k').i false = true → pre (Region.before ops) (getO L k).i (getO L k').i = false := by
      intro k' _ hli
      cases hp : pre (Region.before ops) (getO L k).i (getO L k').i with
      | false => rfl
      | true =>
        have := pre_listed I.pos.down (getO L k').i (getO L k).i (fun c' hc' => I.pos.down _ c' hc' hli) hp
        rw [this] at hunf; cases hunf
    have aheadNe : ∀ k', k ≠ k' → k' < ops.size → isF (getO L k') = true → ∀ d, (getO L k').d = some d → (getO L k).d ≠ some d := by
      intro k' hn hk'n hF d hd' hdk
      rcases Nat.lt_or_gt_of_ne hn with h | h
      · exact pairF C h hk'n (.inr hF) hdk hd'
      · exact pairF C h hkn (.inl hF) hd' hdk
    have hcases : k < p ∨ (k = p ∧ isF (getO L k) = false) ∨ (p < k ∧ isF (getO L k) = false) ∨ (p ≤ k ∧ isF (getO L k) = true) := by
      cases isF (getO L k) <;> simp <;> omega
    rcases hcases with hkp | ⟨hkp, hnF⟩ | ⟨hkp, hnF⟩ | ⟨hkp, hFk⟩
    · -- it is past: a reader
      have hnw : wr L k = false := by
        cases hwk : wr L k with
        | false => rfl
        | true => rw [I.pos.W k hkp hwk] at hunf; cases hunf
      have hlooks := looks_known C I.pos (Nat.le_of_lt hkp) hkn hunf hE (fun _ => hnw)
      obtain ⟨ao, d, v, ha, hd, hlv, hf⟩ := I.facts k hkp hunf
      obtain ⟨c', hc', h1, h2, h3, h4⟩ := chkOper_get (C.op k hkn)
      rw [hc] at hc'; cases hc'
      have hdn : d < a.tmps.size := by rw [I.size]; exact h4 d hd
      have next : ∀ (y : Value) (g' : Gh) (w' : World), relT g' blk v y → SRel B g' blk w'.heap Sp → WStep B g w g' w' → wpAny P .any ops Q fuel (listed.setIfInBounds (getO L k).i true) (a.put c.dst y) w' := by
        intro y g' w' hr hS' st'
        have hUi : ∀ k', p ≤ k' → k' < ops.size → (listed.setIfInBounds (getO L k).i true).getD (getO L k').i false = listed.getD (getO L k').i false := fun k' hk' hk'n => hmono k' hk'n (by omega)
        refine ih _ p τ S Sp g' blk _ w' hleft ?_ (fun hp => ⟨(hw hp).1, fun hF => by rw [hUi p (Nat.le_refl _) hp]; exact (hw hp).2 hF⟩) (st.trans st')
        refine ⟨pos_set I.pos hin I.pos.hp hE (fun k' hk' _ => .inl hk') (fun k' hk' hk'n _ => ⟨hk', hne k' hk'n (by omega)⟩), I.cont, hS', I.ext, by rw [size_put, I.size], by rw [put_defers]; exact drel_le st'.le I.D, ?_, ?_, I.old, ?_⟩
        · intro t v' hl' hu
          rw [put_tmps, h2, hd]
          simp only [putT]
          rw [getD_put hdn]
          split
          · rename_i e
            subst e
            rw [hlv] at hl'; cases hl'
            exact hr
          · rename_i e
            refine relT_step (d := none) (v := .undef) (I.T t v' hl' ?_) st'.le (.inl rfl) (fun s e => by cases e)
            rintro (⟨k', h5, h6, h7⟩ | ⟨k', h5, h6, h7, h8, h9⟩)
            · have hk'n : k' < ops.size := by have := I.pos.hp; omega
              have : k' ≠ k := by
                rintro rfl
                rw [hd] at h7; cases h7
                exact e rfl
              exact hu (.inl ⟨k', h5, by rw [hmono k' hk'n this]; exact h6, h7⟩)
            · exact hu (.inr ⟨k', h5, h6, h7, by rw [hUi k' h5 h6]; exact h8, h9⟩)
        · intro k' hk' hu
          have hk'n : k' < ops.size := by have := I.pos.hp; omega
          by_cases e : k' = k
          · subst e
            rw [getD_set hs, if_pos rfl] at hu; cases hu
          · rw [hmono k' hk'n e] at hu
            exact I.facts k' hk' hu
        · intro k' hk' hk'n hF d' hd'
          obtain ⟨g1, g2, g3⟩ := I.fr k' hk' hk'n hF d' hd'
          refine ⟨g1, g2, fun hli => ?_⟩
          rw [hUi k' hk' hk'n] at hli
          obtain ⟨z, q1, q2, q3⟩ := g3 hli
          refine ⟨z, q1, q2, ?_⟩
          have hdd : d ≠ d' := by
            rintro rfl
            exact aheadNe k' (by omega) hk'n hF d hd' hd
          rw [put_tmps, h2, hd]
          simp only [putT]
          rw [getD_put hdn, if_neg (Ne.symm hdd)]
          exact relT_step (d := none) (v := .undef) q3 st'.le (.inl rfl) (fun s e => by cases e)
      unfold wpOp
      rw [hc]
      rcases hf with ⟨hf, rfl⟩ | ⟨hf, hst0, hnl⟩
      · have hwant := want_sound h3 I.T hlooks hf
        simp only [hwant, Bool.false_eq_true, if_false]
        exact next Go.undef g w rfl I.sr (WStep.refl _ _ _)
      · have hwant := want_sound h3 I.T hlooks hf
        simp only [hwant, if_true]
        rw [ha] at h1
        have hrd : ao.reads = true := by
          have : (getO L k).a.reads = true := by
            cases hr : (getO L k).a.reads with
            | true => rfl
            | false => unfold wr at hnw; rw [hr] at hnw; simp at hnw
          rw [ha] at this
          exact this
        obtain ⟨Sq, hst, _⟩ := astep_ext I.ext hst0
        have hSq := reads_same hrd hst
        subst hSq
        obtain ⟨n, y, w', g', blk', hrun, hn, hS', st', hr, hb⟩ := op_sound (ρ' := a.eval) h1 I.sr (fun x y hx hok => opds_ev (o := getO L k) (by rw [ha]; exact hx) hok I.T hlooks) hst
        have hbb : blk' = blk := by
          rcases hb with hb | ⟨s, h5, h6, _⟩
          · exact hb
          · cases h5
            rw [h6] at hnl
            simp [isLref] at hnl
        subst hbb
        refine .inl ?_
        unfold Oper.wp
        rw [hrun]
        rcases hn with rfl | ⟨rfl, rfl⟩
        · rw [Oper.upon_value]
          exact next y g' w' hr hS' st'
        · rw [Oper.upon_skip]
          exact next _ g' w' hr hS' st'
    · -- it stands at the head
      subst hkp
      have hlooks := looks_known C I.pos (Nat.le_refl _) hkn hunf hE (fun h => absurd h (Nat.lt_irrefl _))
      have hcont := I.cont
      rw [getO_drop C.len hkn] at hcont
      have unl : ∀ k', k' < k → listed.getD (getO L k').i false = false → pre (Region.before ops) (getO L k').i (getO L k).i = false := by
        intro k' _ hu
        cases hp : pre (Region.before ops) (getO L k').i (getO L k).i with
        | false => rfl
        | true =>
          rw [pre_listed I.pos.down _ _ hE hp] at hu
          cases hu
      refine one_sound (C.op k hkn) I.sr I.ext I.size I.T I.D hlooks hcont ?_ ?_
      · intro v y S' Sp' g' blk' a' w' hre hc' hS' hlo htm hok hbr T' hD' st'
        have hlk : ∀ t, (getO L k).d ≠ some t → look (putD τ (getO L k).d v) t = look τ t := by
          intro t ht
          unfold putD
          split
          · rename_i d hd
            rw [look_put, if_neg (by rintro rfl; exact ht hd)]
          · rfl
        have hsz : a'.tmps.size = N := by
          rw [htm]
          unfold putT
          split
          · simp [I.size]
          · exact I.size
        have I' : Inv P B N L ops τ0 Kn KP (k + 1) (putD τ (getO L k).d v) S' Sp' (listed.setIfInBounds (getO L k).i true) g' blk' a' w' := by
          refine ⟨pos_set I.pos hin (by omega) hE (fun k' hk' _ => ?_) (fun k' hk' hk'n _ => ⟨by omega, hne k' hk'n (by omega)⟩), hc', hS', hlo.ext, hsz, hD', ?_, ?_, ?_, ?_⟩
          · rcases Nat.lt_succ_iff_lt_or_eq.1 hk' with h | h
            · exact .inl h
            · exact .inr (by rw [h])
          · intro t v' hl' hu
            refine T' t v' hl' ?_
            rintro ⟨⟨k', h5, h6, h7⟩ | ⟨k', h5, h6, h7, h8, h9⟩, h10⟩
            · exact hu (.inl ⟨k', by omega, by rw [hmono k' (by omega) (by omega)]; exact h6, h7⟩)
            · have hkk : k' ≠ k := by
                rintro rfl
                rw [hunf] at h8; cases h8
              exact hu (.inr ⟨k', by omega, h6, h7, by rw [hmono k' h6 hkk]; exact h8, h9⟩)
          · intro k' hk' hu
            rcases Nat.lt_succ_iff_lt_or_eq.1 hk' with h | h
            · rw [hmono k' (by omega) (by omega)] at hu
              have hnp := unl k' h hu
              have hpair := C.pair k' k h hkn
              unfold pairOk at hpair
              simp only [Bool.and_eq_true, Bool.or_eq_true, Bool.not_eq_true', hnp, Bool.false_eq_true, false_or, Bool.or_eq_false_iff] at hpair
              obtain ⟨⟨⟨⟨q1, q2⟩, _⟩, q3⟩, _⟩ := hpair
              have hrd : (getO L k').a.reads = true := by
                cases hr : (getO L k').a.reads with
                | true => rfl
                | false =>
                  have : wr L k' = true := by unfold wr; rw [hr]; rfl
                  rw [I.pos.W k' h this] at hu; cases hu
              refine (I.facts k' h hu).keep (fun t ht => hlk t ?_) (fun d hd => hlk d ?_) ?_
              · intro hd
                unfold meets at q2
                rw [hd] at q2
                simp [ht] at q2
              · intro hd'
                unfold meets at q2
                rw [hd', hd] at q2
                simp at q2
              · rcases hre with rfl | hre
                · exact .inl rfl
                · by_cases hq : (getO L k').a.quiet = true
                  · exact .inr (.inl hq)
                  · rcases q3 with (((q3 | q3) | q3) | q3) | q3
                    · rw [I.pos.W k' h q3] at hu; cases hu
                    · exact absurd q3 hq
                    · rw [(hw hkn).1] at q3; cases q3
                    · rw [hnF] at q3; cases q3
                    · exact .inr (.inr (.inl (recheck_mem hre (by simpa using q3) (getO_get C.len (by omega)))))
            · subst h
              rw [getD_set hs, if_pos rfl] at hu; cases hu
          · intro t ht
            rw [hlk t (fun hd => ht (mem_dsts C.len hkn hd))]
            exact I.old t ht
          · intro k' hk' hk'n hF d' hd'
            obtain ⟨g1, g2, g3⟩ := I.fr k' (by omega) hk'n hF d' hd'
            have hdd := aheadNe k' (by omega) hk'n hF d' hd'
            obtain ⟨m1, m2⟩ := hlo.none d' g1 hdd
            refine ⟨m1, fun t v' hl' => ?_, fun hli => ?_⟩
            · by_cases ht : (getO L k).d = some t
              · have : look (putD τ (getO L k).d v) t = some v := by
                  unfold putD
                  rw [ht]
                  simp [look_put]
                rw [this] at hl'
                cases hl'
                cases v <;> first | rfl | skip
                have := okD_F hok (mem_drop C.len (by omega : k + 1 ≤ k') hk'n) hF
                rw [hd'] at this
                simp only [isLref, beq_eq_false_iff_ne]
                intro e
                exact this (by rw [e])
              · rw [hlk t ht] at hl'
                exact g2 t v' hl'
            · rw [hmono k' hk'n (by omega)] at hli
              obtain ⟨z, q1, q2, q3⟩ := g3 hli
              refine ⟨z, q1, by rw [m2]; exact q2, ?_⟩
              have htd : a'.tmps.getD d' Go.undef = a.tmps.getD d' Go.undef := by
                rw [htm]
                unfold putT
                split
                · rename_i q hq
                  have hqn : q < a.tmps.size := by
                    obtain ⟨_, _, _, _, _, h4⟩ := chkOper_get (C.op k hkn)
                    rw [I.size]; exact h4 q hq
                  rw [getD_put hqn, if_neg]
                  rintro rfl
                  exact hdd hq
                · rfl
              rw [htd]
              refine relT_step (d := (getO L k).d) (v := v) q3 st'.le hbr (fun s hs' hv => ?_)
              simp only [isLref, beq_eq_false_iff_ne]
              rintro rfl
              exact hdd hs'
        obtain ⟨p', τ', S2, I2, hw2⟩ := advance C _ (k + 1) _ _ rfl I'
        exact ih _ p' τ' S2 Sp' g' blk' a' w' hleft I2 hw2 (st.trans st')
      · intro v S' e g' w' hk hS' T' hD' st' er
        refine hP v S' e g' blk a w' hk ⟨hS', I.size, fun t v0 hl' => ?_, hD'⟩ (st.trans st') er
        obtain ⟨h5, h6⟩ := look_dropD hl'
        refine T' t v0 ?_ ?_
        · rw [I.old t h6]
          exact h5
        · rintro (ho | ⟨k', _, h7, _, _, h9⟩)
          · exact h6 (open_dsts C I.pos ho)
          · exact h6 (mem_dsts C.len h7 h9)
    · -- it stands behind the head: it cannot be ready
      exfalso
      have hpn : p < ops.size := by omega
      have hpair := C.pair p k hkp hkn
      unfold pairOk at hpair
      simp only [(hw hpn).1, hnF, Bool.not_false, Bool.and_true, Bool.true_or, Bool.not_true, Bool.or_false, Bool.and_eq_true] at hpair
      have h1 := pre_listed I.pos.down _ _ hE hpair.1.1
      cases hFp : isF (getO L p) with
      | true => rw [(hw hpn).2 hFp] at h1; cases h1
      | false => rw [I.pos.U p (Nat.le_refl _) hpn hFp] at h1; cases h1
    · -- a local is made, ahead of its place
      obtain ⟨z, d, ha, hg, hd⟩ := isF_get hFk
      obtain ⟨f1, f2, _⟩ := I.fr k hkp hkn hFk d hd
      obtain ⟨c', hc', h1, h2, h3, h4⟩ := chkOper_get (C.op k hkn)
      rw [hc] at hc'; cases hc'
      have hdn : d < a.tmps.size := by rw [I.size]; exact h4 d hd
      have hwant := want_sound h3 I.T (by rw [isF_looks hFk]; intro t ht; cases ht) (by rw [hg]; rfl : wantA (getO L k).g τ = some true)
      rw [ha] at h1
      have h1' : chkOp P (.allocL z) c = true := h1
      have hst : astep (Opd.ev τ) (some d) Sp (.allocL z) = some (.lref d 0, { Sp with lo := put Sp.lo d z }) := rfl
      obtain ⟨n, y, w', g', blk', hrun, hn, hS', st', hr, hb⟩ := op_sound (ρ' := a.eval) h1' I.sr (fun x y hx => by cases hx) hst
      have hbl : ∀ s, s ≠ d → blk' s = blk s := by
        intro s hsd
        rcases hb with hb | ⟨s', h5, _, h6⟩
        · rw [hb]
        · cases h5
          exact h6 s hsd
      have keepR : ∀ (v0 : AV) (x : Value), relT g blk v0 x → isLref d v0 = false → relT g' blk' v0 x := by
        intro v0 x hr0 hn0
        cases v0 <;> try exact rel_le st'.le _ _ hr0
        case undef => trivial
        case skip => exact hr0
        case lref s q =>
          obtain ⟨b, h5, h6⟩ := hr0
          refine ⟨b, ?_, h6⟩
          rw [hbl s (by simpa [isLref] using hn0)]
          exact h5
      have next : wpAny P .any ops Q fuel (listed.setIfInBounds (getO L k).i true) (a.put c.dst y) w' := by
        have I' : Inv P B N L ops τ0 Kn KP p τ S { Sp with lo := put Sp.lo d z } (listed.setIfInBounds (getO L k).i true) g' blk' (a.put c.dst y) w' := ?_
        · obtain ⟨p', τ', S2, I2, hw2⟩ := advance C _ p _ _ rfl I'
          exact ih _ p' τ' S2 _ g' blk' _ w' hleft I2 hw2 (st.trans st')
        refine ⟨pos_set I.pos hin I.pos.hp hE (fun k' hk' _ => .inl hk') (fun k' hk' hk'n hF => ⟨hk', hne k' hk'n (by rintro rfl; rw [hFk] at hF; cases hF)⟩), I.cont, hS', ?_, by rw [size_put, I.size], by rw [put_defers]; exact drel_le st'.le I.D, ?_, ?_, I.old, ?_⟩
        · refine ⟨I.ext.hp, I.ext.df, fun s cs hs' => ?_⟩
          simp only [look_put]
          rw [if_neg (by rintro rfl; rw [f1] at hs'; cases hs')]
          exact I.ext.lo s cs hs'
        · intro t v' hl' hu
          have htd : t ≠ d := by
            rintro rfl
            exact hu (.inr ⟨k, hkp, hkn, hFk, by rw [getD_set hs, if_pos rfl], hd⟩)
          rw [put_tmps, h2, hd]
          simp only [putT]
          rw [getD_put hdn, if_neg htd]
          refine keepR v' _ (I.T t v' hl' ?_) (f2 t v' hl')
          rintro (⟨k', h5, h6, h7⟩ | ⟨k', h5, h6, h7, h8, h9⟩)
          · exact hu (.inl ⟨k', h5, by rw [hmono k' (by omega) (by omega)]; exact h6, h7⟩)
          · have hkk : k' ≠ k := by
              rintro rfl
              rw [hunf] at h8; cases h8
            exact hu (.inr ⟨k', h5, h6, h7, by rw [hmono k' h6 hkk]; exact h8, h9⟩)
        · intro k' hk' hu
          rw [hmono k' (by omega) (by omega)] at hu
          exact I.facts k' hk' hu
        · intro k' hk' hk'n hF d' hd'
          obtain ⟨g1, g2, g3⟩ := I.fr k' hk' hk'n hF d' hd'
          refine ⟨g1, g2, fun hli => ?_⟩
          by_cases hkk : k' = k
          · subst hkk
            rw [hd] at hd'; cases hd'
            refine ⟨z, ha, by simp [look_put], ?_⟩
            rw [put_tmps, h2, hd]
            simp only [putT]
            rw [getD_put hdn, if_pos rfl]
            exact hr
          · rw [hmono k' hk'n hkk] at hli
            obtain ⟨z', q1, q2, q3⟩ := g3 hli
            have hdd : d ≠ d' := by
              rintro rfl
              exact aheadNe k' (Ne.symm hkk) hk'n hF d hd' hd
            refine ⟨z', q1, by simp only [look_put, if_neg hdd]; exact q2, ?_⟩
            rw [put_tmps, h2, hd]
            simp only [putT]
            rw [getD_put hdn, if_neg (Ne.symm hdd)]
            exact keepR _ _ q3 (by simp [isLref, Ne.symm hdd])
      unfold wpOp
      rw [hc]
      simp only [hwant, if_true]
      refine .inl ?_
      unfold Oper.wp
      rw [hrun]
      rcases hn with rfl | ⟨rfl, rfl⟩
      · rw [Oper.upon_value]
        exact next
      · rw [Oper.upon_skip]
        exact next

/-- In the order of the text. -/
theorem text_sound (hop : ∀ o ∈ L, chkOper P N ops o = true) (hK : EndK B N g0 w0 Kn Q) (hP : EndP B N L τ0 g0 w0 KP Q) : ∀ (os : List AOper) (τ : Env) (S : AS) (g : Gh) (blk : Nat → Option Nat) (a : Act) (w : World), (∀ o ∈ os, o ∈ L) →
    aops (SCalls P) L os τ S Kn KP → FRel B N g blk τ S a w → WStep B g0 w0 g w → (∀ t, t ∉ dsts L → look τ t = look τ0 t) → wpOps P ops Q (os.map (·.i)) a w := by
  intro os
  induction os with
  | nil => intro τ S g blk a w _ hc F st _; exact hK τ S g blk a w hc F st
  | cons o os ih =>
    intro τ S g blk a w hmem hc F st hold
    rw [List.map_cons, wpOps_cons]
    refine one_sound (U := fun _ => False) (hop o (hmem o (by simp))) F.sr (LExt.refl _) F.size (fun t v hl _ => F.T t v hl) F.D (fun t _ h => h) hc ?_ ?_
    · intro v y S' Sp' g' blk' a' w' _ hc' hS' hlo htm _ _ T' hD' st'
      have hsz : a'.tmps.size = N := by
        rw [htm]
        unfold putT
        split
        · simp [F.size]
        · exact F.size
      refine ih _ S' g' blk' a' w' (fun x hx => hmem x (List.mem_cons_of_mem _ hx)) hc' ⟨hS'.less hlo.ext, hsz, fun t v hl => T' t v hl (fun h => h.1), hD'⟩ (st.trans st') (fun t ht => ?_)
      have : look (putD τ o.d v) t = look τ t := by
        unfold putD
        split
        · rename_i d hd
          rw [look_put, if_neg]
          rintro rfl
          exact ht (List.mem_filterMap.2 ⟨o, hmem o (by simp), hd⟩)
        · rfl
      rw [this]
      exact hold t ht
    · intro v S' e g' w' hk hS' T' hD' st' er
      refine hP v S' e g' blk a w' hk ⟨hS', F.size, fun t v0 hl' => ?_, hD'⟩ (st.trans st') er
      obtain ⟨h5, h6⟩ := look_dropD hl'
      refine T' t v0 ?_ (fun h => h)
      rw [hold t h6]
      exact h5

def chkReg (P : Program) (N : Nat) (draw : Bool) (L : List AOper) (ops : Array Oper) : Bool :=
  L.all (chkOper P N ops) && if draw then chkDraw ops L else L.map (·.i) == List.range ops.size

/-- Is nothing there yet of the locals that are made? -/
def fok (L : List AOper) (τ : Env) (S : AS) : Bool := L.all fun o => !(isF o) || match o.d with
  | some d => (look S.lo d).isNone && τ.all fun p => !(isLref d p.2)
  | none => true

theorem look_mem {β : Type} {t : Nat} {v : β} : ∀ {e : List (Nat × β)}, look e t = some v → (t, v) ∈ e
  | [], h => by simp [look] at h
  | (k, x) :: r, h => by
    simp only [look] at h
    split at h
    · rename_i e; cases h; subst e; simp
    · exact List.mem_cons_of_mem _ (look_mem h)

theorem reg_sound {id : Nat} {draw : Bool} (hm : P.follows .mixedOrders = true) (h : chkReg P N draw L ops = true) (F : FRel B N g blk τ S a w) (hf : (!draw || fok L τ S) = true) (hc : aops (SCalls P) L L τ S Kn KP) (hK : EndK B N g w Kn Q)
    (hP : EndP B N L τ g w KP Q) : (Code.region id ops draw).wp P Q a w := by
  unfold chkReg at h
  simp only [Bool.and_eq_true] at h
  obtain ⟨h1, h2⟩ := h
  cases draw with
  | false =>
    simp only [Bool.false_eq_true, if_false, beq_iff_eq] at h2
    refine wp_region ?_
    rw [← h2]
    rw [List.all_eq_true] at h1
    exact text_sound h1 hK hP L τ S g blk a w (fun _ h => h) hc F (WStep.refl _ _ _) (fun _ _ => rfl)
  | true =>
    simp only [if_true] at h2
    have C := chk_of h2 h1
    refine wp_region_any hm ?_
    have hsz : (Array.replicate ops.size false).size = ops.size := by simp
    have hall : ∀ i, (Array.replicate ops.size false).getD i false = false := by
      intro i
      rw [Array.getD_eq_getD_getElem?, Array.getElem?_replicate]
      split <;> rfl
    have I : Inv P B N L ops τ Kn KP 0 τ S S (Array.replicate ops.size false) g blk a { w with drawn := w.drawn + 1 } := by
      refine ⟨⟨Nat.zero_le _, hsz, fun k hk => absurd hk (Nat.not_lt_zero _), fun k _ _ _ => hall _, fun j c _ hj => ?_⟩, by simpa using hc, F.sr, LExt.refl _, F.size, F.D, fun t v hl _ => F.T t v hl, fun k hk => absurd hk (Nat.not_lt_zero _), fun _ _ => rfl,
        fun k _ hkn hF d hd => ?_⟩
      · rw [hall] at hj; cases hj
      · have hf' : fok L τ S = true := by simpa using hf
        unfold fok at hf'
        rw [List.all_eq_true] at hf'
        have := hf' (getO L k) (by have := mem_drop (p := 0) C.len (Nat.zero_le k) hkn; simpa using this)
        rw [hF, hd] at this
        simp only [Bool.not_true, Bool.false_or, Bool.and_eq_true, Option.isNone_iff_eq_none] at this
        refine ⟨this.1, fun t v hl => ?_, fun hli => by rw [hall] at hli; cases hli⟩
        have h2 := this.2
        rw [List.all_eq_true] at h2
        have := h2 _ (look_mem hl)
        simpa using this
    obtain ⟨p', τ', S2, I2, hw2⟩ := advance C _ 0 τ S rfl I
    refine draw_sound (g0 := g) (w0 := w) C hK hP ops.size _ p' τ' S2 S g blk a _ ?_ I2 hw2 ⟨Step.refl _ _ _, rfl, rfl⟩
    unfold left
    exact Nat.le_trans (List.length_filter_le _ _) (by simp)

end
end Go.Ab

/- Code: one behind the other, branches, blocks, loops. -/
namespace Go.Ab

inductive ACode where
  | skip
  | reg (draw : Bool) (L : List AOper)
  | seq (a b : ACode)
  | cond (c : Opd) (a b : ACode)
  | block (id : Nat) (c : ACode)
  | loop (c : ACode)
  | exit (id : Nat)
  | ret
  | keep (l : List Nat) (c : ACode)

inductive AExit where
  | normal
  | exit (id : Nat)
  | ret
  | pan (v : AV)

abbrev CPostA := AExit → Env → AS → Prop

def thenA (next : Env → AS → Prop) (Q : CPostA) : CPostA
  | .normal, τ, S => next τ S
  | e, τ, S => Q e τ S
def blockA (id : Nat) (Q : CPostA) : CPostA
  | .exit j, τ, S => if j = id then Q .normal τ S else Q (.exit j) τ S
  | e, τ, S => Q e τ S

def aiter (B : Env → AS → CPostA → Prop) (Q : CPostA) : Nat → Env → AS → Prop
  | 0, _, _ => False
  | n + 1, τ, S => B τ S (thenA (aiter B Q n) Q)

/-- A loop: it comes to an end. -/
def ALoop (B : Env → AS → CPostA → Prop) (τ : Env) (S : AS) (Q : CPostA) : Prop := ∃ n, aiter B Q n τ S

def keepS (l : List Nat) (S : AS) : AS := { S with lo := keep l S.lo }

def acode (C : Spec) : ACode → Env → AS → CPostA → Prop
  | .skip, τ, S, Q => Q .normal τ S
  | .reg d L, τ, S, Q => (!d || fok L τ S) = true ∧ aops C L L τ S (Q .normal) (fun v S' => Q (.pan v) (dropD (dsts L) τ) S')
  | .seq a b, τ, S, Q => acode C a τ S (thenA (fun τ' S' => acode C b τ' S' Q) Q)
  | .cond c a b, τ, S, Q => match c.ev τ with
    | .bool t => if t = true then acode C a τ S Q else acode C b τ S Q
    | _ => False
  | .block id c, τ, S, Q => acode C c τ S (blockA id Q)
  | .loop c, τ, S, Q => ALoop (acode C c) τ S Q
  | .exit id, τ, S, Q => Q (.exit id) τ S
  | .ret, τ, S, Q => Q .ret τ S
  | .keep l c, τ, S, Q => acode C c (keep l τ) (keepS l S) Q

def chkCode (P : Program) (N : Nat) : ACode → Code → Bool
  | .keep _ a, c => chkCode P N a c
  | .skip, .skip => true
  | .reg d L, .region _ ops d' => d == d' && chkReg P N d L ops
  | .seq a b, .seq c d => chkCode P N a c && chkCode P N b d
  | .cond x a b, .cond y c d => x.ok y && chkCode P N a c && chkCode P N b d
  | .block i a, .block j c => i == j && chkCode P N a c
  | .loop a, .loop c => chkCode P N a c
  | .exit i, .exit j => i == j
  | .ret, .ret => true
  | _, _ => false

def exrel (g : Gh) : AExit → Exit → Prop
  | .normal, .normal => True
  | .exit i, .exit j => i = j
  | .ret, .ret => True
  | .pan v, .panic ch => ∃ e, ch = [e] ∧ erel g (.pan v) (.panicked [e])
  | _, _ => False

def CP (B N : Nat) (g : Gh) (w : World) (Q : CPostA) : Exit → Act → World → Prop := fun e a' w' =>
  ∃ e' τ' S' g' blk', Q e' τ' S' ∧ FRel B N g' blk' τ' S' a' w' ∧ WStep B g w g' w' ∧ exrel g' e' e

section
variable {P : Program} {B N : Nat} {g : Gh} {blk : Nat → Option Nat} {τ : Env} {S : AS} {a : Act} {w : World}

theorem FRel.keep (l : List Nat) (F : FRel B N g blk τ S a w) : FRel B N g blk (Ab.keep l τ) (keepS l S) a w :=
  ⟨⟨F.sr.base, F.sr.W, fun s cs e => F.sr.loc s cs (look_keep s cs _ l e), fun s s' b h1 h2 => by
    obtain ⟨x, hx⟩ := Option.isSome_iff_exists.1 h1
    obtain ⟨y, hy⟩ := Option.isSome_iff_exists.1 h2
    exact F.sr.inj s s' b (by simp [look_keep s x _ l hx]) (by simp [look_keep s' y _ l hy])⟩, F.size, fun t v hl => F.T t v (look_keep t v _ l hl), F.D⟩

theorem CP.from {g1 : Gh} {w1 : World} {Q : CPostA} {e : Exit} {a' : Act} {w' : World} (h : CP B N g1 w1 Q e a' w') (st : WStep B g w g1 w1) : CP B N g w Q e a' w' := by
  obtain ⟨e', τ', S', g', blk', h1, h2, h3, h4⟩ := h
  exact ⟨e', τ', S', g', blk', h1, h2, st.trans h3, h4⟩

theorem cond_rel {c : Opd} {y : Operand} {t : Bool} (h : c.ok y = true) (F : FRel B N g blk τ S a w) (hv : c.ev τ = .bool t) : a.eval y = .bool t := by
  have := opds_ev (o := ⟨0, none, none, .op (.mv c), []⟩) (x := c) (y := y) (a := a) (U := fun _ => False) (by simp [AIns.opds, AOp.opds]) h (fun t v hl _ => F.T t v hl) (fun _ _ h => h)
  rw [hv] at this
  simpa [relT, rel] using this

theorem code_sound (hm : P.follows .mixedOrders = true) : ∀ (ac : ACode) (c : Code), chkCode P N ac c = true → ∀ (τ : Env) (S : AS) (Q : CPostA) (g : Gh) (blk : Nat → Option Nat) (a : Act) (w : World),
    acode (SCalls P) ac τ S Q → FRel B N g blk τ S a w → c.wp P (CP B N g w Q) a w := by
  intro ac
  induction ac with
  | keep l ac ih =>
    intro c hc τ S Q g blk a w h F
    exact ih c hc _ _ Q g blk a w h (F.keep l)
  | skip =>
    intro c hc τ S Q g blk a w h F
    cases c <;> simp only [chkCode] at hc <;> (try cases hc)
    exact wp_skip ⟨.normal, τ, S, g, blk, h, F, WStep.refl _ _ _, trivial⟩
  | reg d L =>
    intro c hc τ S Q g blk a w h F
    cases c <;> simp only [chkCode] at hc <;> (try cases hc)
    simp only [Bool.and_eq_true, beq_iff_eq] at hc
    obtain ⟨rfl, hc⟩ := hc
    refine reg_sound hm hc F h.1 h.2 ?_ ?_
    · intro τ' S' g' blk' a' w' hk F' st
      exact ⟨.normal, τ', S', g', blk', hk, F', st, trivial⟩
    · intro v S' e g' blk' a' w' hk F' st er
      exact ⟨.pan v, _, S', g', blk', hk, F', st, e, rfl, er⟩
  | seq x y ihx ihy =>
    intro c hc τ S Q g blk a w h F
    cases c <;> simp only [chkCode] at hc <;> (try cases hc)
    simp only [Bool.and_eq_true] at hc
    refine wp_seq (wp_mono (ihx _ hc.1 τ S _ g blk a w h F) ?_)
    rintro e a' w' ⟨e', τ', S', g', blk', h1, h2, h3, h4⟩
    cases e' <;> cases e <;> simp only [exrel] at h4
    · exact wp_mono (ihy _ hc.2 τ' S' Q g' blk' a' w' h1 h2) fun _ _ _ hh => hh.from h3
    · exact ⟨_, τ', S', g', blk', h1, h2, h3, h4⟩
    · exact ⟨_, τ', S', g', blk', h1, h2, h3, h4⟩
    · exact ⟨_, τ', S', g', blk', h1, h2, h3, h4⟩
  | cond x y z ihy ihz =>
    intro c hc τ S Q g blk a w h F
    cases c <;> simp only [chkCode] at hc <;> (try cases hc)
    simp only [Bool.and_eq_true] at hc
    simp only [acode] at h
    split at h
    · rename_i t hv
      have hcv := cond_rel hc.1.1 F hv
      split at h
      · rename_i ht
        subst ht
        exact wp_cond_true hcv (ihy _ hc.1.2 τ S Q g blk a w h F)
      · rename_i ht
        have : t = false := by simpa using ht
        subst this
        exact wp_cond_false hcv (ihz _ hc.2 τ S Q g blk a w h F)
    · exact h.elim
  | block id x ih =>
    intro c hc τ S Q g blk a w h F
    cases c <;> simp only [chkCode] at hc <;> (try cases hc)
    simp only [Bool.and_eq_true, beq_iff_eq] at hc
    obtain ⟨rfl, hc⟩ := hc
    refine wp_block (wp_mono (ih _ hc τ S _ g blk a w h F) ?_)
    rintro e a' w' ⟨e', τ', S', g', blk', h1, h2, h3, h4⟩
    cases e' <;> cases e <;> simp only [exrel] at h4
    · exact ⟨.normal, τ', S', g', blk', h1, h2, h3, trivial⟩
    · rename_i i j
      subst h4
      simp only [blockA] at h1
      simp only [Exit.inBlock]
      split
      · rename_i hij
        rw [if_pos hij] at h1
        exact ⟨.normal, τ', S', g', blk', h1, h2, h3, trivial⟩
      · rename_i hij
        rw [if_neg hij] at h1
        exact ⟨.exit i, τ', S', g', blk', h1, h2, h3, rfl⟩
    · exact ⟨.ret, τ', S', g', blk', h1, h2, h3, trivial⟩
    · exact ⟨.pan _, τ', S', g', blk', h1, h2, h3, h4⟩
  | loop x ih =>
    intro c hc τ S Q g blk a w h F
    cases c <;> simp only [chkCode] at hc <;> (try cases hc)
    rename_i body
    obtain ⟨n, h⟩ := h
    refine wp_loop_rounds n ?_
    have key : ∀ (n : Nat) (τ : Env) (S : AS) (g1 : Gh) (blk : Nat → Option Nat) (a1 : Act) (w1 : World), aiter (acode (SCalls P) x) Q n τ S → FRel B N g1 blk τ S a1 w1 → WStep B g w g1 w1 →
        Code.rounds P body (CP B N g w Q) n a1 w1 := by
      intro n
      induction n with
      | zero => intro τ S g1 blk a1 w1 h _ _; exact h.elim
      | succ n ihn =>
        intro τ S g1 blk a1 w1 h F st
        rw [rounds_succ]
        refine wp_mono (ih _ hc τ S _ g1 blk a1 w1 h F) ?_
        rintro e a' w' ⟨e', τ', S', g', blk', h1, h2, h3, h4⟩
        cases e' <;> cases e <;> simp only [exrel] at h4
        · exact ihn τ' S' g' blk' a' w' h1 h2 (st.trans h3)
        · exact ⟨_, τ', S', g', blk', h1, h2, st.trans h3, h4⟩
        · exact ⟨_, τ', S', g', blk', h1, h2, st.trans h3, h4⟩
        · exact ⟨_, τ', S', g', blk', h1, h2, st.trans h3, h4⟩
    exact key n τ S g blk a w h F (WStep.refl _ _ _)
  | exit id =>
    intro c hc τ S Q g blk a w h F
    cases c <;> simp only [chkCode] at hc <;> (try cases hc)
    simp only [beq_iff_eq] at hc
    subst hc
    exact wp_exit ⟨.exit id, τ, S, g, blk, h, F, WStep.refl _ _ _, rfl⟩
  | ret =>
    intro c hc τ S Q g blk a w h F
    cases c <;> simp only [chkCode] at hc <;> (try cases hc)
    exact wp_ret ⟨.ret, τ, S, g, blk, h, F, WStep.refl _ _ _, trivial⟩

end

/-- Where a function's results stand. -/
inductive ARes where
  | tmp (t : Nat)
  | cell (t : Nat) (ag : Bool) (n : Nat)

structure AFn where
  np : Nat
  nt : Nat
  code : ACode
  res : List ARes

def res1 (τ : Env) (S : AS) : ARes → Option AV
  | .tmp t => match look τ t with
    | some v => if v.proper = true then some v else none
    | none => none
  | .cell t ag n => match look τ t with
    | some p => match loadA S n p with
      | some cs => joinA ag cs
      | none => none
    | none => none
def ress (τ : Env) (S : AS) : List ARes → Option (List AV)
  | [] => some []
  | r :: rs => match res1 τ S r with
    | some v => match ress τ S rs with
      | some vs => some (v :: vs)
      | none => none
    | none => none
def resV (vs : List AV) : AV :=
  match vs with
  | [v] => v.erase
  | vs => (AV.tuple vs).erase

def chkRes (P : Program) : List ARes → List ResultVar → Bool
  | [], [] => true
  | .tmp t :: r, .tmp t' :: s => t == t' && chkRes P r s
  | .cell t ag n :: r, .cell t' ty :: s => t == t' && aggB P ty == some ag && sizeB P ty == some n && chkRes P r s
  | _, _ => false

def chkFn (P : Program) (f : Nat) (F : AFn) : Bool :=
  match P.funcs[f]? with
  | some fn => decide (f < 100000) && (match fn.body with
    | some c => chkCode P F.nt F.code c
    | none => false) && fn.ntmps == F.nt && decide (F.np ≤ F.nt) && chkRes P F.res fn.results.toList && fn.name != "runtime.NumGoroutine" && P.follows .mixedOrders
  | none => false

def argEnv : Nat → List AV → Env
  | _, [] => []
  | i, v :: r => (i, v) :: argEnv (i + 1) r

/-- The end of a function that defers nothing. -/
def aend (F : AFn) (Q : AEnd → List AObj → Prop) : CPostA
  | .normal, τ, S => S.df = [] ∧ ∃ vs, ress τ S F.res = some vs ∧ Q (.ret (resV vs)) S.hp
  | .ret, τ, S => S.df = [] ∧ ∃ vs, ress τ S F.res = some vs ∧ Q (.ret (resV vs)) S.hp
  | .pan v, _, S => S.df = [] ∧ Q (.pan v) S.hp
  | _, _, _ => False

section
variable {P : Program} {B N : Nat} {g : Gh} {blk : Nat → Option Nat} {τ : Env} {S : AS} {a : Act} {w : World}

def resF (tm : Array Value) : ResultVar → Sem Value
  | .tmp t => pure (tm.getD t Go.undef)
  | .cell q t => do loadVar t (← asAddr (tm.getD q Go.undef))

theorem res1_sound {r : ARes} {rv : ResultVar} {rs : List ARes} {rvs : List ResultVar} {v : AV} (hc : chkRes P (r :: rs) (rv :: rvs) = true) (F : FRel B N g blk τ S a w) (h : res1 τ S r = some v) :
    ∃ x, (resF a.tmps rv).run P w = .ok x w ∧ rel g v x := by
  cases r with
  | tmp t =>
    cases rv <;> simp only [chkRes] at hc <;> (try cases hc)
    simp only [Bool.and_eq_true, beq_iff_eq] at hc
    obtain ⟨rfl, _⟩ := hc
    simp only [res1] at h
    split at h
    · rename_i u hl
      split at h
      · rename_i hp
        cases h
        exact ⟨_, rfl, relT_proper (F.T t v hl) hp⟩
      · cases h
    · cases h
  | cell t ag n =>
    cases rv <;> simp only [chkRes] at hc <;> (try cases hc)
    simp only [Bool.and_eq_true, beq_iff_eq] at hc
    obtain ⟨⟨⟨rfl, h1⟩, h2⟩, _⟩ := hc
    simp only [res1] at h
    split at h
    · rename_i p hl
      split at h
      · rename_i cs hcs
        obtain ⟨ad, y, hx, hrun, hr⟩ := run_loadVar (P := P) (v := v) F.sr (F.T t p hl) hcs h h1 h2
        refine ⟨y, ?_, hr⟩
        simp only [resF, hx, asAddr, Sem.run_bind, Sem.run_pure, Result.andThen_ok, hrun]
      · cases h
    · cases h

theorem ress_sound : ∀ {rs : List ARes} {rvs : List ResultVar} {vs : List AV}, chkRes P rs rvs = true → FRel B N g blk τ S a w → ress τ S rs = some vs →
    ∃ xs, (rvs.mapM (resF a.tmps)).run P w = .ok xs w ∧ rels g vs xs
  | [], [], vs, _, _, h => by
    simp only [ress] at h
    cases h
    exact ⟨[], by simp, by simp⟩
  | r :: rs, rv :: rvs, vs, hc, F, h => by
    simp only [ress] at h
    split at h
    · rename_i v hv
      split at h
      · rename_i us hus
        cases h
        obtain ⟨x, h1, h2⟩ := res1_sound hc F hv
        have hc' : chkRes P rs rvs = true := by
          cases r <;> cases rv <;> simp only [chkRes] at hc <;> (try cases hc)
          · simp only [Bool.and_eq_true] at hc; exact hc.2
          · simp only [Bool.and_eq_true] at hc; exact hc.2
        obtain ⟨xs, h3, h4⟩ := ress_sound hc' F hus
        refine ⟨x :: xs, ?_, rels_cons_cons.2 ⟨h2, h4⟩⟩
        rw [List.mapM_cons]
        simp only [Sem.run_bind, h1, Result.andThen_ok, h3, Sem.run_pure]
      · cases h
    · cases h
  | [], _ :: _, _, hc, _, _ => by simp [chkRes] at hc
  | r :: _, [], _, hc, _, _ => by cases r <;> simp [chkRes] at hc

theorem results_sound {fn : Func} {F : AFn} {vs : List AV} (hc : chkRes P F.res fn.results.toList = true) (hF : FRel B N g blk τ S a w) (h : ress τ S F.res = some vs) :
    ∃ x, (results fn a.tmps).run P w = .ok x w ∧ rel g (resV vs) x := by
  obtain ⟨xs, h1, h2⟩ := ress_sound hc hF h
  have hrun : (results fn a.tmps).run P w = .ok (if h : xs.toArray.size = 1 then xs.toArray[0] else .tuple xs.toArray) w := by
    have : results fn a.tmps = (do
        let vs ← fn.results.mapM (resF a.tmps)
        pure (if h : vs.size = 1 then vs[0] else .tuple vs)) := rfl
    rw [this, Array.mapM_eq_mapM_toList]
    simp only [Sem.run_bind, Sem.run_map, h1, Result.andThen_ok, Sem.run_pure]
  refine ⟨_, hrun, ?_⟩
  have hlen := rels_length h2
  match vs, xs, h2, hlen with
  | [v], [x], h2, _ =>
    simp only [resV]
    exact rel_erase (rels_cons_cons.1 h2).1
  | [], [], _, _ => simp [resV, AV.erase, rel]
  | v1 :: v2 :: vs, x1 :: x2 :: xs, h2, _ =>
    simp only [resV]
    have : ¬ (x1 :: x2 :: xs).toArray.size = 1 := by simp
    rw [dif_neg this]
    exact rel_erase (by simp only [rel]; exact ⟨_, rfl, h2⟩)

theorem argEnv_look : ∀ {args : List AV} {i t : Nat} {v : AV}, look (argEnv i args) t = some v → i ≤ t ∧ args[t - i]? = some v
  | [], i, t, v, h => by simp [argEnv, look] at h
  | a :: r, i, t, v, h => by
    simp only [argEnv, look] at h
    split at h
    · rename_i e
      subst e
      cases h
      exact ⟨Nat.le_refl _, by simp⟩
    · obtain ⟨h1, h2⟩ := argEnv_look h
      refine ⟨by omega, ?_⟩
      rw [show t - i = (t - (i + 1)) + 1 from by omega, List.getElem?_cons_succ]
      exact h2

theorem chkFn_get {f : Nat} {F : AFn} (h : chkFn P f F = true) : ∃ fn c, P.funcs[f]? = some fn ∧ fn.body = some c ∧ chkCode P F.nt F.code c = true ∧ fn.ntmps = F.nt ∧ F.np ≤ F.nt ∧ chkRes P F.res fn.results.toList = true ∧
    entB P f = true ∧ P.follows .mixedOrders = true := by
  unfold chkFn at h
  split at h
  · rename_i fn hf
    simp only [Bool.and_eq_true, beq_iff_eq, decide_eq_true_eq, bne_iff_ne] at h
    obtain ⟨⟨⟨⟨⟨⟨h0, h1⟩, h2⟩, h3⟩, h4⟩, h5⟩, h6⟩ := h
    split at h1
    · rename_i c hc
      exact ⟨fn, c, hf, hc, h1, h2, h3, h4, by unfold entB; rw [hf]; simp [hc, h5, h0], h6⟩
    · cases h1
  · cases h

/-- The frame as a function is entered. -/
theorem enter_rel {args : List AV} {xs : List Value} {n : Nat} {H : List AObj} (hW : WRel g H w.heap) (hr : rels g args xs) (hn : args.length ≤ n) :
    FRel w.heap.size n g (fun _ => none) (argEnv 0 args) ⟨[], H, []⟩ { tmps := xs.toArray ++ Array.replicate (n - xs.toArray.size) Go.undef, defers := [] } w := by
  have hl := rels_length hr
  refine ⟨⟨Nat.le_refl _, hW, fun s cs e => by simp [look] at e, fun s s' b h => by simp [look] at h⟩, by simp [hl]; omega, fun t v hlk => ?_, rfl⟩
  obtain ⟨_, h2⟩ := argEnv_look hlk
  rw [Nat.sub_zero] at h2
  obtain ⟨x, hx, hrx⟩ := rels_get hr h2
  have hlt : t < xs.length := (List.getElem?_eq_some_iff.1 hx).1
  have : (xs.toArray ++ Array.replicate (n - xs.toArray.size) Go.undef).getD t Go.undef = x := by
    rw [Array.getD_eq_getD_getElem?, Array.getElem?_append_left (by simpa using hlt)]
    simp [hx]
  rw [this]
  exact relT_of hrx

/-- A function that defers nothing: what its abstract code comes to, the function comes to. -/
theorem SCalls.of_fn {f : Nat} {F : AFn} {args : List AV} {H : List AObj} {Q : AEnd → List AObj → Prop} (hc : chkFn P f F = true) (hn : args.length = F.np)
    (h : acode (SCalls P) F.code (argEnv 0 args) ⟨[], H, []⟩ (aend F Q)) : SCalls P f args H Q := by
  obtain ⟨fn, c, h1, h2, h3, h4, h5, h6, h7, h8⟩ := chkFn_get hc
  refine ⟨h7, fun g w xs hW hr => calls_of_wp h1 h2 ?_⟩
  rw [h4]
  refine wp_mono (code_sound h8 F.code c h3 _ _ _ g _ _ w h (enter_rel hW hr (by omega))) ?_
  rintro e a' w' ⟨e', τ', S', g', blk', q1, q2, q3, q4⟩
  have fin : ∀ vs, ress τ' S' F.res = some vs → Q (.ret (resV vs)) S'.hp → ∃ v, (results fn a'.tmps).run P w' = .ok v w' ∧ ∃ r H' g', Q r H' ∧ WRel g' H' w'.heap ∧ WStep w.heap.size g w g' w' ∧ erel g' r (.returned v) := by
    intro vs hv hq
    obtain ⟨x, hx, hrx⟩ := results_sound h6 q2 hv
    exact ⟨x, hx, _, _, g', hq, q2.sr.W, q3, hrx⟩
  have dn : ∀ {l}, S'.df = [] → drel g' S'.df l → l = [] := by
    intro l h1 h2
    rw [h1] at h2
    exact h2
  cases e' <;> cases e <;> simp only [exrel] at q4 <;> simp only [aend] at q1
  · obtain ⟨hd, vs, hv, hq⟩ := q1
    exact ⟨dn hd q2.D, fin vs hv hq⟩
  · obtain ⟨hd, vs, hv, hq⟩ := q1
    exact ⟨dn hd q2.D, fin vs hv hq⟩
  · obtain ⟨hd, hq⟩ := q1
    obtain ⟨e, rfl, er⟩ := q4
    exact ⟨dn hd q2.D, _, _, g', hq, q2.sr.W, q3, er⟩

end
end Go.Ab

/- The abstract code's steps as equations, for simp: the rest of the code is data. -/
namespace Go.Ab

inductive KF where
  | seq (b : ACode)
  | blk (id : Nat)
  | inv (I : Env → AS → Prop)

def kpost (C : Spec) : List KF → CPostA → CPostA
  | [], Q => Q
  | .seq b :: ks, Q => thenA (fun τ S => acode C b τ S (kpost C ks Q)) (kpost C ks Q)
  | .blk id :: ks, Q => blockA id (kpost C ks Q)
  | .inv I :: ks, Q => thenA I (kpost C ks Q)

/-- Code to be done, with the rest behind it. -/
def go (C : Spec) (c : ACode) (ks : List KF) (τ : Env) (S : AS) (Q : CPostA) : Prop := acode C c τ S (kpost C ks Q)
/-- Code was left so. -/
def pop (C : Spec) (ks : List KF) (e : AExit) (τ : Env) (S : AS) (Q : CPostA) : Prop := kpost C ks Q e τ S
/-- What every step of a region hands on. -/
structure RK where
  R : List AOper
  ks : List KF
  t0 : Env
def gops (C : Spec) (r : RK) (os : List AOper) (τ : Env) (S : AS) (Q : CPostA) : Prop :=
  aops C r.R os τ S (kpost C r.ks Q .normal) (fun v S' => kpost C r.ks Q (.pan v) (dropD (dsts r.R) r.t0) S')
/-- A value has come. -/
def gput (C : Spec) (r : RK) (o : AOper) (os : List AOper) (τ : Env) (v : AV) (S : AS) (Q : CPostA) : Prop :=
  okD o os v τ = true ∧ recheck r.R (putD τ o.d v) S o.re ∧ gops C r os (putD τ o.d v) S Q
def gval (C : Spec) (r : RK) (o : AOper) (os : List AOper) (τ : Env) (Q : CPostA) : Option (AV × AS) → Prop
  | some (v, S) => gput C r o os τ v S Q
  | none => False
/-- A call has come back. -/
def gback (C : Spec) (r : RK) (o : AOper) (os : List AOper) (τ : Env) (S : AS) (Q : CPostA) (e : AEnd) (H : List AObj) : Prop :=
  match e with
  | .ret v => gput C r o os τ v { S with hp := H } Q
  | .pan v => pop C r.ks (.pan v) (dropD (dsts r.R) r.t0) { S with hp := H } Q
def gins (C : Spec) (r : RK) (o : AOper) (os : List AOper) (τ : Env) (S : AS) (Q : CPostA) : AIns → Prop
  | .op a => gval C r o os τ Q (astep (Opd.ev τ) o.d S a)
  | .call f args => (args.map (Opd.ev τ)).all AV.proper = true ∧ C f ((args.map (Opd.ev τ)).map AV.erase) S.hp (gback C r o os τ S Q)
  | .callv x args => match Opd.ev τ x with
    | .func (.func f) first caps => (args.map (Opd.ev τ)).all AV.proper = true ∧ C f (first ++ (args.map (Opd.ev τ)).map AV.erase ++ caps) S.hp (gback C r o os τ S Q)
    | .func (.yield l) first caps => (args.map (Opd.ev τ)).all AV.proper = true ∧ C (yid l) (.skip :: (first ++ (args.map (Opd.ev τ)).map AV.erase)) S.hp (gback C r o os τ S Q)
    | _ => False
  | .pan x => match Opd.ev τ x with
    | .iface t v => pop C r.ks (.pan (.iface t v)) (dropD (dsts r.R) r.t0) S Q
    | _ => False
  | .dfr x args => match Opd.ev τ x with
    | .func (.func f) first caps => (args.map (Opd.ev τ)).all AV.proper = true ∧ gput C r o os τ .skip { S with df := (f, first ++ (args.map (Opd.ev τ)).map AV.erase ++ caps) :: S.df } Q
    | _ => False
def gwant (C : Spec) (r : RK) (o : AOper) (os : List AOper) (τ : Env) (S : AS) (Q : CPostA) : Option Bool → Prop
  | some true => gins C r o os τ S Q o.a
  | some false => gops C r os (putD τ o.d .skip) S Q
  | none => False
def gcond (C : Spec) (a b : ACode) (ks : List KF) (τ : Env) (S : AS) (Q : CPostA) : AV → Prop
  | .bool t => if t = true then go C a ks τ S Q else go C b ks τ S Q
  | _ => False

section
variable {C : Spec} {ks : List KF} {τ : Env} {S : AS} {Q : CPostA} {r : RK} {o : AOper} {os : List AOper}

theorem go_skip : go C .skip ks τ S Q = pop C ks .normal τ S Q := rfl
theorem go_seq {a b : ACode} : go C (.seq a b) ks τ S Q = go C a (.seq b :: ks) τ S Q := rfl
theorem go_block {id : Nat} {c : ACode} : go C (.block id c) ks τ S Q = go C c (.blk id :: ks) τ S Q := rfl
theorem go_exit {id : Nat} : go C (.exit id) ks τ S Q = pop C ks (.exit id) τ S Q := rfl
theorem go_ret : go C .ret ks τ S Q = pop C ks .ret τ S Q := rfl
theorem go_keep {l : List Nat} {c : ACode} : go C (.keep l c) ks τ S Q = go C c ks (keep l τ) (keepS l S) Q := rfl
theorem go_cond {c : Opd} {a b : ACode} : go C (.cond c a b) ks τ S Q = gcond C a b ks τ S Q (c.ev τ) := by
  unfold go
  simp only [acode]
  generalize c.ev τ = v
  cases v <;> rfl
theorem go_reg {d : Bool} {L : List AOper} : go C (.reg d L) ks τ S Q = ((!d || fok L τ S) = true ∧ gops C ⟨L, ks, τ⟩ L τ S Q) := rfl
theorem pop_nil {e : AExit} : pop C [] e τ S Q = Q e τ S := rfl
theorem pop_seq {b : ACode} : pop C (.seq b :: ks) .normal τ S Q = go C b ks τ S Q := rfl
theorem pop_seq_exit {b : ACode} {i : Nat} : pop C (.seq b :: ks) (.exit i) τ S Q = pop C ks (.exit i) τ S Q := rfl
theorem pop_seq_ret {b : ACode} : pop C (.seq b :: ks) .ret τ S Q = pop C ks .ret τ S Q := rfl
theorem pop_seq_pan {b : ACode} {v : AV} : pop C (.seq b :: ks) (.pan v) τ S Q = pop C ks (.pan v) τ S Q := rfl
theorem pop_blk {id : Nat} : pop C (.blk id :: ks) .normal τ S Q = pop C ks .normal τ S Q := rfl
theorem pop_blk_exit {id j : Nat} : pop C (.blk id :: ks) (.exit j) τ S Q = if j = id then pop C ks .normal τ S Q else pop C ks (.exit j) τ S Q := rfl
theorem pop_blk_ret {id : Nat} : pop C (.blk id :: ks) .ret τ S Q = pop C ks .ret τ S Q := rfl
theorem pop_blk_pan {id : Nat} {v : AV} : pop C (.blk id :: ks) (.pan v) τ S Q = pop C ks (.pan v) τ S Q := rfl
theorem pop_inv {I : Env → AS → Prop} : pop C (.inv I :: ks) .normal τ S Q = I τ S := rfl
theorem pop_inv_exit {I : Env → AS → Prop} {i : Nat} : pop C (.inv I :: ks) (.exit i) τ S Q = pop C ks (.exit i) τ S Q := rfl
theorem pop_inv_ret {I : Env → AS → Prop} : pop C (.inv I :: ks) .ret τ S Q = pop C ks .ret τ S Q := rfl
theorem pop_inv_pan {I : Env → AS → Prop} {v : AV} : pop C (.inv I :: ks) (.pan v) τ S Q = pop C ks (.pan v) τ S Q := rfl
theorem kpost_pop {e : AExit} : kpost C ks Q e τ S = pop C ks e τ S Q := rfl
theorem gops_nil : gops C r [] τ S Q = pop C r.ks .normal τ S Q := rfl
theorem gops_cons : gops C r (o :: os) τ S Q = gwant C r o os τ S Q (wantA o.g τ) := by
  have back : (fun (e : AEnd) (H' : List AObj) => match e with
      | .ret v => (fun v S' => okD o os v τ = true ∧ recheck r.R (putD τ o.d v) S' o.re ∧ aops C r.R os (putD τ o.d v) S' (kpost C r.ks Q .normal) (fun v S' => kpost C r.ks Q (.pan v) (dropD (dsts r.R) r.t0) S')) v { S with hp := H' }
      | .pan v => (fun v S' => kpost C r.ks Q (.pan v) (dropD (dsts r.R) r.t0) S') v { S with hp := H' }) = gback C r o os τ S Q := by
    funext e H
    cases e <;> rfl
  unfold gops
  simp only [aops]
  generalize wantA o.g τ = b
  cases b with
  | none => rfl
  | some b =>
    cases b with
    | false => rfl
    | true =>
      simp only [gwant]
      cases o.a with
      | op a =>
        simp only [ains, gins]
        generalize astep (Opd.ev τ) o.d S a = x
        cases x with
        | none => rfl
        | some q => obtain ⟨v, S'⟩ := q; rfl
      | call f args =>
        simp only [ains, gins]
        rw [← back]
        rfl
      | callv x args =>
        simp only [ains, gins]
        rw [← back]
        rfl
      | pan x =>
        simp only [ains, gins]
        rfl
      | dfr x args =>
        simp only [ains, gins]
        rfl

end

/-- A function that defers nothing, by steps. -/
theorem SCalls.fn {P : Program} {f : Nat} {F : AFn} {args : List AV} {H : List AObj} {Q : AEnd → List AObj → Prop} (hc : chkFn P f F = true) (hn : args.length = F.np)
    (h : go (SCalls P) F.code [] (argEnv 0 args) ⟨[], H, []⟩ (aend F Q)) : SCalls P f args H Q := SCalls.of_fn hc hn h

end Go.Ab

/- The machine's equations, constructor by constructor, told to simp: printed by a program of this session's (wip/gen/a22.py). -/
namespace Go.Ab

@[simp] theorem okv_undef : AV.okv (.undef : AV) = false := rfl
@[simp] theorem proper_undef : AV.proper (.undef : AV) = false := rfl
@[simp] theorem scalar_undef : AV.scalar (.undef : AV) = true := rfl
@[simp] theorem cells_undef : AV.cells (.undef : AV) = [.undef] := rfl
@[simp] theorem drop1_undef : AV.drop1 (.undef : AV) = .undef := rfl
@[simp] theorem erase_undef : AV.erase (.undef : AV) = .undef := rfl
@[simp] theorem isLref_undef (q : Nat)  : isLref q (.undef : AV) = false := rfl
@[simp] theorem okD_undef (q : AOper) (os : List AOper) (τ : Env)  : okD q os .undef τ = true := rfl
@[simp] theorem okv_skip : AV.okv (.skip : AV) = false := rfl
@[simp] theorem proper_skip : AV.proper (.skip : AV) = false := rfl
@[simp] theorem scalar_skip : AV.scalar (.skip : AV) = true := rfl
@[simp] theorem cells_skip : AV.cells (.skip : AV) = [.skip] := rfl
@[simp] theorem drop1_skip : AV.drop1 (.skip : AV) = .skip := rfl
@[simp] theorem erase_skip : AV.erase (.skip : AV) = .skip := rfl
@[simp] theorem isLref_skip (q : Nat)  : isLref q (.skip : AV) = false := rfl
@[simp] theorem okD_skip (q : AOper) (os : List AOper) (τ : Env)  : okD q os .skip τ = true := rfl
@[simp] theorem okv_bool (b : Bool) : AV.okv (.bool b : AV) = true := rfl
@[simp] theorem proper_bool (b : Bool) : AV.proper (.bool b : AV) = true := rfl
@[simp] theorem scalar_bool (b : Bool) : AV.scalar (.bool b : AV) = true := rfl
@[simp] theorem cells_bool (b : Bool) : AV.cells (.bool b : AV) = [(.bool b)] := rfl
@[simp] theorem drop1_bool (b : Bool) : AV.drop1 (.bool b : AV) = (.bool b) := rfl
@[simp] theorem erase_bool (b : Bool) : AV.erase (.bool b : AV) = (.bool b) := rfl
@[simp] theorem isLref_bool (q : Nat) (b : Bool) : isLref q (.bool b) = false := rfl
@[simp] theorem okD_bool (q : AOper) (os : List AOper) (τ : Env) (b : Bool) : okD q os (.bool b) τ = true := rfl
@[simp] theorem okv_int (k : IntKind) (n : Int) : AV.okv (.int k n : AV) = true := rfl
@[simp] theorem proper_int (k : IntKind) (n : Int) : AV.proper (.int k n : AV) = true := rfl
@[simp] theorem scalar_int (k : IntKind) (n : Int) : AV.scalar (.int k n : AV) = true := rfl
@[simp] theorem cells_int (k : IntKind) (n : Int) : AV.cells (.int k n : AV) = [(.int k n)] := rfl
@[simp] theorem drop1_int (k : IntKind) (n : Int) : AV.drop1 (.int k n : AV) = (.int k n) := rfl
@[simp] theorem erase_int (k : IntKind) (n : Int) : AV.erase (.int k n : AV) = (.int k n) := rfl
@[simp] theorem isLref_int (q : Nat) (k : IntKind) (n : Int) : isLref q (.int k n) = false := rfl
@[simp] theorem okD_int (q : AOper) (os : List AOper) (τ : Env) (k : IntKind) (n : Int) : okD q os (.int k n) τ = true := rfl
@[simp] theorem okv_str (s : List UInt8) : AV.okv (.str s : AV) = true := rfl
@[simp] theorem proper_str (s : List UInt8) : AV.proper (.str s : AV) = true := rfl
@[simp] theorem scalar_str (s : List UInt8) : AV.scalar (.str s : AV) = true := rfl
@[simp] theorem cells_str (s : List UInt8) : AV.cells (.str s : AV) = [(.str s)] := rfl
@[simp] theorem drop1_str (s : List UInt8) : AV.drop1 (.str s : AV) = (.str s) := rfl
@[simp] theorem erase_str (s : List UInt8) : AV.erase (.str s : AV) = (.str s) := rfl
@[simp] theorem isLref_str (q : Nat) (s : List UInt8) : isLref q (.str s) = false := rfl
@[simp] theorem okD_str (q : AOper) (os : List AOper) (τ : Env) (s : List UInt8) : okD q os (.str s) τ = true := rfl
@[simp] theorem okv_nilp : AV.okv (.nilp : AV) = true := rfl
@[simp] theorem proper_nilp : AV.proper (.nilp : AV) = true := rfl
@[simp] theorem scalar_nilp : AV.scalar (.nilp : AV) = true := rfl
@[simp] theorem cells_nilp : AV.cells (.nilp : AV) = [.nilp] := rfl
@[simp] theorem drop1_nilp : AV.drop1 (.nilp : AV) = .nilp := rfl
@[simp] theorem erase_nilp : AV.erase (.nilp : AV) = .nilp := rfl
@[simp] theorem isLref_nilp (q : Nat)  : isLref q (.nilp : AV) = false := rfl
@[simp] theorem okD_nilp (q : AOper) (os : List AOper) (τ : Env)  : okD q os .nilp τ = true := rfl
@[simp] theorem okv_ptr (i o : Nat) : AV.okv (.ptr i o : AV) = true := rfl
@[simp] theorem proper_ptr (i o : Nat) : AV.proper (.ptr i o : AV) = true := rfl
@[simp] theorem scalar_ptr (i o : Nat) : AV.scalar (.ptr i o : AV) = true := rfl
@[simp] theorem cells_ptr (i o : Nat) : AV.cells (.ptr i o : AV) = [(.ptr i o)] := rfl
@[simp] theorem drop1_ptr (i o : Nat) : AV.drop1 (.ptr i o : AV) = (.ptr i o) := rfl
@[simp] theorem erase_ptr (i o : Nat) : AV.erase (.ptr i o : AV) = (.ptr i o) := rfl
@[simp] theorem isLref_ptr (q : Nat) (i o : Nat) : isLref q (.ptr i o) = false := rfl
@[simp] theorem okD_ptr (q : AOper) (os : List AOper) (τ : Env) (i o : Nat) : okD q os (.ptr i o) τ = true := rfl
@[simp] theorem okv_cp (cs : List AV) : AV.okv (.cp cs : AV) = true := rfl
@[simp] theorem proper_cp (cs : List AV) : AV.proper (.cp cs : AV) = true := rfl
@[simp] theorem scalar_cp (cs : List AV) : AV.scalar (.cp cs : AV) = true := rfl
@[simp] theorem cells_cp (cs : List AV) : AV.cells (.cp cs : AV) = [(.cp cs)] := rfl
@[simp] theorem drop1_cp (cs : List AV) : AV.drop1 (.cp cs : AV) = (.cp cs) := rfl
@[simp] theorem erase_cp (cs : List AV) : AV.erase (.cp cs : AV) = (.cp cs) := rfl
@[simp] theorem isLref_cp (q : Nat) (cs : List AV) : isLref q (.cp cs) = false := rfl
@[simp] theorem okD_cp (q : AOper) (os : List AOper) (τ : Env) (cs : List AV) : okD q os (.cp cs) τ = true := rfl
@[simp] theorem okv_lref (s o : Nat) : AV.okv (.lref s o : AV) = false := rfl
@[simp] theorem proper_lref (s o : Nat) : AV.proper (.lref s o : AV) = false := rfl
@[simp] theorem scalar_lref (s o : Nat) : AV.scalar (.lref s o : AV) = true := rfl
@[simp] theorem cells_lref (s o : Nat) : AV.cells (.lref s o : AV) = [(.lref s o)] := rfl
@[simp] theorem drop1_lref (s o : Nat) : AV.drop1 (.lref s o : AV) = (.lref s o) := rfl
@[simp] theorem erase_lref (s o : Nat) : AV.erase (.lref s o : AV) = (.lref s o) := rfl
@[simp] theorem isLref_lref (q : Nat) (s' o : Nat) : isLref q (.lref s' o) = (s' == q) := rfl
@[simp] theorem okv_nils : AV.okv (.nils : AV) = true := rfl
@[simp] theorem proper_nils : AV.proper (.nils : AV) = true := rfl
@[simp] theorem scalar_nils : AV.scalar (.nils : AV) = true := rfl
@[simp] theorem cells_nils : AV.cells (.nils : AV) = [.nils] := rfl
@[simp] theorem drop1_nils : AV.drop1 (.nils : AV) = .nils := rfl
@[simp] theorem erase_nils : AV.erase (.nils : AV) = .nils := rfl
@[simp] theorem isLref_nils (q : Nat)  : isLref q (.nils : AV) = false := rfl
@[simp] theorem okD_nils (q : AOper) (os : List AOper) (τ : Env)  : okD q os .nils τ = true := rfl
@[simp] theorem okv_vs (t : Option Nat) (xs : List AV) : AV.okv (.vs t xs : AV) = true := rfl
@[simp] theorem proper_vs (t : Option Nat) (xs : List AV) : AV.proper (.vs t xs : AV) = true := rfl
@[simp] theorem scalar_vs (t : Option Nat) (xs : List AV) : AV.scalar (.vs t xs : AV) = true := rfl
@[simp] theorem cells_vs (t : Option Nat) (xs : List AV) : AV.cells (.vs t xs : AV) = [(.vs t xs)] := rfl
@[simp] theorem drop1_vs (t : Option Nat) (xs : List AV) : AV.drop1 (.vs t xs : AV) = .vs none xs := rfl
@[simp] theorem erase_vs (t : Option Nat) (xs : List AV) : AV.erase (.vs t xs : AV) = .vs none xs := rfl
@[simp] theorem isLref_vs (q : Nat) (t : Option Nat) (xs : List AV) : isLref q (.vs t xs) = false := rfl
@[simp] theorem okD_vs (q : AOper) (os : List AOper) (τ : Env) (t : Option Nat) (xs : List AV) : okD q os (.vs t xs) τ = true := rfl
@[simp] theorem okv_hs (i e o n : Nat) : AV.okv (.hs i e o n : AV) = true := rfl
@[simp] theorem proper_hs (i e o n : Nat) : AV.proper (.hs i e o n : AV) = true := rfl
@[simp] theorem scalar_hs (i e o n : Nat) : AV.scalar (.hs i e o n : AV) = true := rfl
@[simp] theorem cells_hs (i e o n : Nat) : AV.cells (.hs i e o n : AV) = [(.hs i e o n)] := rfl
@[simp] theorem drop1_hs (i e o n : Nat) : AV.drop1 (.hs i e o n : AV) = (.hs i e o n) := rfl
@[simp] theorem erase_hs (i e o n : Nat) : AV.erase (.hs i e o n : AV) = (.hs i e o n) := rfl
@[simp] theorem isLref_hs (q : Nat) (i e o n : Nat) : isLref q (.hs i e o n) = false := rfl
@[simp] theorem okD_hs (q : AOper) (os : List AOper) (τ : Env) (i e o n : Nat) : okD q os (.hs i e o n) τ = true := rfl
@[simp] theorem okv_nilm : AV.okv (.nilm : AV) = true := rfl
@[simp] theorem proper_nilm : AV.proper (.nilm : AV) = true := rfl
@[simp] theorem scalar_nilm : AV.scalar (.nilm : AV) = true := rfl
@[simp] theorem cells_nilm : AV.cells (.nilm : AV) = [.nilm] := rfl
@[simp] theorem drop1_nilm : AV.drop1 (.nilm : AV) = .nilm := rfl
@[simp] theorem erase_nilm : AV.erase (.nilm : AV) = .nilm := rfl
@[simp] theorem isLref_nilm (q : Nat)  : isLref q (.nilm : AV) = false := rfl
@[simp] theorem okD_nilm (q : AOper) (os : List AOper) (τ : Env)  : okD q os .nilm τ = true := rfl
@[simp] theorem okv_map (i : Nat) : AV.okv (.map i : AV) = true := rfl
@[simp] theorem proper_map (i : Nat) : AV.proper (.map i : AV) = true := rfl
@[simp] theorem scalar_map (i : Nat) : AV.scalar (.map i : AV) = true := rfl
@[simp] theorem cells_map (i : Nat) : AV.cells (.map i : AV) = [(.map i)] := rfl
@[simp] theorem drop1_map (i : Nat) : AV.drop1 (.map i : AV) = (.map i) := rfl
@[simp] theorem erase_map (i : Nat) : AV.erase (.map i : AV) = (.map i) := rfl
@[simp] theorem isLref_map (q : Nat) (i : Nat) : isLref q (.map i) = false := rfl
@[simp] theorem okD_map (q : AOper) (os : List AOper) (τ : Env) (i : Nat) : okD q os (.map i) τ = true := rfl
@[simp] theorem okv_nilf : AV.okv (.nilf : AV) = true := rfl
@[simp] theorem proper_nilf : AV.proper (.nilf : AV) = true := rfl
@[simp] theorem scalar_nilf : AV.scalar (.nilf : AV) = true := rfl
@[simp] theorem cells_nilf : AV.cells (.nilf : AV) = [.nilf] := rfl
@[simp] theorem drop1_nilf : AV.drop1 (.nilf : AV) = .nilf := rfl
@[simp] theorem erase_nilf : AV.erase (.nilf : AV) = .nilf := rfl
@[simp] theorem isLref_nilf (q : Nat)  : isLref q (.nilf : AV) = false := rfl
@[simp] theorem okD_nilf (q : AOper) (os : List AOper) (τ : Env)  : okD q os .nilf τ = true := rfl
@[simp] theorem okv_func (fn : Fn) (a c : List AV) : AV.okv (.func fn a c : AV) = true := rfl
@[simp] theorem proper_func (fn : Fn) (a c : List AV) : AV.proper (.func fn a c : AV) = true := rfl
@[simp] theorem scalar_func (fn : Fn) (a c : List AV) : AV.scalar (.func fn a c : AV) = true := rfl
@[simp] theorem cells_func (fn : Fn) (a c : List AV) : AV.cells (.func fn a c : AV) = [(.func fn a c)] := rfl
@[simp] theorem drop1_func (fn : Fn) (a c : List AV) : AV.drop1 (.func fn a c : AV) = (.func fn a c) := rfl
@[simp] theorem erase_func (fn : Fn) (a c : List AV) : AV.erase (.func fn a c : AV) = (.func fn a c) := rfl
@[simp] theorem isLref_func (q : Nat) (fn : Fn) (a c : List AV) : isLref q (.func fn a c) = false := rfl
@[simp] theorem okD_func (q : AOper) (os : List AOper) (τ : Env) (fn : Fn) (a c : List AV) : okD q os (.func fn a c) τ = true := rfl
@[simp] theorem okv_nili : AV.okv (.nili : AV) = true := rfl
@[simp] theorem proper_nili : AV.proper (.nili : AV) = true := rfl
@[simp] theorem scalar_nili : AV.scalar (.nili : AV) = true := rfl
@[simp] theorem cells_nili : AV.cells (.nili : AV) = [.nili] := rfl
@[simp] theorem drop1_nili : AV.drop1 (.nili : AV) = .nili := rfl
@[simp] theorem erase_nili : AV.erase (.nili : AV) = .nili := rfl
@[simp] theorem isLref_nili (q : Nat)  : isLref q (.nili : AV) = false := rfl
@[simp] theorem okD_nili (q : AOper) (os : List AOper) (τ : Env)  : okD q os .nili τ = true := rfl
@[simp] theorem okv_iface (t : Nat) (v : AV) : AV.okv (.iface t v : AV) = true := rfl
@[simp] theorem proper_iface (t : Nat) (v : AV) : AV.proper (.iface t v : AV) = true := rfl
@[simp] theorem scalar_iface (t : Nat) (v : AV) : AV.scalar (.iface t v : AV) = true := rfl
@[simp] theorem cells_iface (t : Nat) (v : AV) : AV.cells (.iface t v : AV) = [(.iface t v)] := rfl
@[simp] theorem drop1_iface (t : Nat) (v : AV) : AV.drop1 (.iface t v : AV) = (.iface t v) := rfl
@[simp] theorem erase_iface (t : Nat) (v : AV) : AV.erase (.iface t v : AV) = (.iface t v) := rfl
@[simp] theorem isLref_iface (q : Nat) (t : Nat) (v : AV) : isLref q (.iface t v) = false := rfl
@[simp] theorem okD_iface (q : AOper) (os : List AOper) (τ : Env) (t : Nat) (v : AV) : okD q os (.iface t v) τ = true := rfl
@[simp] theorem okv_agg (cs : List AV) : AV.okv (.agg cs : AV) = true := rfl
@[simp] theorem proper_agg (cs : List AV) : AV.proper (.agg cs : AV) = true := rfl
@[simp] theorem scalar_agg (cs : List AV) : AV.scalar (.agg cs : AV) = false := rfl
@[simp] theorem cells_agg (cs : List AV) : AV.cells (.agg cs : AV) = cs := rfl
@[simp] theorem drop1_agg (cs : List AV) : AV.drop1 (.agg cs : AV) = (.agg cs) := rfl
@[simp] theorem isLref_agg (q : Nat) (cs : List AV) : isLref q (.agg cs) = false := rfl
@[simp] theorem okD_agg (q : AOper) (os : List AOper) (τ : Env) (cs : List AV) : okD q os (.agg cs) τ = true := rfl
@[simp] theorem okv_tuple (xs : List AV) : AV.okv (.tuple xs : AV) = false := rfl
@[simp] theorem proper_tuple (xs : List AV) : AV.proper (.tuple xs : AV) = true := rfl
@[simp] theorem scalar_tuple (xs : List AV) : AV.scalar (.tuple xs : AV) = false := rfl
@[simp] theorem cells_tuple (xs : List AV) : AV.cells (.tuple xs : AV) = [(.tuple xs)] := rfl
@[simp] theorem drop1_tuple (xs : List AV) : AV.drop1 (.tuple xs : AV) = (.tuple xs) := rfl
@[simp] theorem isLref_tuple (q : Nat) (xs : List AV) : isLref q (.tuple xs) = false := rfl
@[simp] theorem okD_tuple (q : AOper) (os : List AOper) (τ : Env) (xs : List AV) : okD q os (.tuple xs) τ = true := rfl
@[simp] theorem erase_agg (cs : List AV) : AV.erase (.agg cs) = .agg (cs.map AV.drop1) := rfl
@[simp] theorem erase_tuple (xs : List AV) : AV.erase (.tuple xs) = .tuple (xs.map fun x => match x with | .agg cs => .agg (cs.map AV.drop1) | x => x.drop1) := rfl
@[simp] theorem okD_lref (q : AOper) (os : List AOper) (τ : Env) (s o : Nat) : okD q os (.lref s o) τ = ((match q.d with | some d => s != d || (!q.a.reads && !(τ.any fun p => p.1 != d && isLref d p.2)) | none => true) && os.all fun x => !(isF x) || x.d != some s) := rfl
theorem okD_proper {q : AOper} {os : List AOper} {τ : Env} {v : AV} (h : v.proper = true) : okD q os v τ = true := by cases v <;> first | rfl | (simp at h)
@[simp] theorem look_nil {β : Type} (n : Nat) : look ([] : List (Nat × β)) n = none := rfl
@[simp] theorem look_cons {β : Type} (k : Nat) (v : β) (r : List (Nat × β)) (n : Nat) : look ((k, v) :: r) n = if k = n then some v else look r n := rfl
@[simp] theorem put_nil {β : Type} (n : Nat) (v : β) : put ([] : List (Nat × β)) n v = [(n, v)] := rfl
@[simp] theorem put_cons {β : Type} (k : Nat) (x v : β) (r : List (Nat × β)) (n : Nat) : put ((k, x) :: r) n v = if k = n then (n, v) :: r else (k, x) :: put r n v := rfl
def keepC {β : Type} (k : Nat) (r : List (Nat × β)) : Option β → List (Nat × β)
  | some v => (k, v) :: r
  | none => r
@[simp] theorem keepC_some {β : Type} (k : Nat) (r : List (Nat × β)) (v : β) : keepC k r (some v) = (k, v) :: r := rfl
@[simp] theorem keepC_none {β : Type} (k : Nat) (r : List (Nat × β)) : keepC k r (none : Option β) = r := rfl
@[simp] theorem keep_nil {β : Type} (e : List (Nat × β)) : keep [] e = [] := rfl
@[simp] theorem keep_cons {β : Type} (k : Nat) (l : List Nat) (e : List (Nat × β)) : keep (k :: l) e = keepC k (keep l e) (look e k) := by
  simp only [keep]; cases look e k <;> rfl
@[simp] theorem keepS_eq (l : List Nat) (lo : List (Nat × List AV)) (hp : List AObj) (df : List (Nat × List AV)) : keepS l ⟨lo, hp, df⟩ = ⟨keep l lo, hp, df⟩ := rfl
@[simp] theorem ev_t (τ : Env) (n : Nat) : Opd.ev τ (.t n) = (look τ n).getD .undef := rfl
@[simp] theorem ev_c (τ : Env) (v : AV) : Opd.ev τ (.c v) = v := rfl
@[simp] theorem argEnv_nil (i : Nat) : argEnv i [] = [] := rfl
@[simp] theorem argEnv_cons (i : Nat) (v : AV) (r : List AV) : argEnv i (v :: r) = (i, v) :: argEnv (i + 1) r := rfl
@[simp] theorem putD_some (τ : Env) (d : Nat) (v : AV) : putD τ (some d) v = put τ d v := rfl
@[simp] theorem putD_none (τ : Env) (v : AV) : putD τ none v = τ := rfl
def want1 (b : Bool) : Option AV → Option Bool
  | some (.bool c) => some (c == b)
  | some .skip => some false
  | _ => none
@[simp] theorem want1_bool (b c : Bool) : want1 b (some (.bool c)) = some (c == b) := rfl
@[simp] theorem want1_skip (b : Bool) : want1 b (some .skip) = some false := rfl
@[simp] theorem wantA_none (τ : Env) : wantA none τ = some true := rfl
@[simp] theorem wantA_some (τ : Env) (t : Nat) (b : Bool) : wantA (some (t, b)) τ = want1 b (look τ t) := rfl
@[simp] theorem recheck_nil (R : List AOper) (τ : Env) (S : AS) : recheck R τ S [] = True := rfl
attribute [simp] recheck rechk1 fok isF AIns.reads AOp.reads AOp.quiet AIns.quiet dropD dsts
/-! ### the heap -/
def getH (H : List AObj) (i : Nat) : Option AObj := H[i]?
def setH (H : List AObj) (i : Nat) (o : AObj) : List AObj := H.set i o
def addH (H : List AObj) (o : AObj) : List AObj := H ++ [o]
def lenH (H : List AObj) : Nat := H.length
theorem getH_lt {H : List AObj} {i : Nat} (h : (getH H i).isSome = true) : i < lenH H := by
  unfold getH at h; unfold lenH
  rcases Nat.lt_or_ge i H.length with h1 | h1
  · exact h1
  · rw [List.getElem?_eq_none h1] at h; cases h
theorem getH_isSome {H : List AObj} {i : Nat} : (getH H i).isSome = true ↔ i < lenH H := by
  refine ⟨getH_lt, fun h => ?_⟩
  unfold getH
  unfold lenH at h
  rw [List.getElem?_eq_getElem h]; rfl
@[simp] theorem getH_set_self {H : List AObj} {i : Nat} {o : AObj} (h : (getH H i).isSome = true) : getH (setH H i o) i = some o := by
  unfold getH setH; rw [List.getElem?_set_self (getH_lt h)]
@[simp] theorem getH_set_ne {H : List AObj} {i j : Nat} {o : AObj} (h : i ≠ j) : getH (setH H i o) j = getH H j := by
  unfold getH setH; rw [List.getElem?_set_ne h]
@[simp] theorem getH_add_old {H : List AObj} {j : Nat} {o : AObj} (h : (getH H j).isSome = true) : getH (addH H o) j = getH H j := by
  unfold getH addH; rw [List.getElem?_append_left (getH_lt h)]
@[simp] theorem getH_add_new {H : List AObj} {o : AObj} : getH (addH H o) (lenH H) = some o := by
  unfold getH addH lenH; simp
@[simp] theorem lenH_add {H : List AObj} {o : AObj} : lenH (addH H o) = lenH H + 1 := by simp [lenH, addH]
@[simp] theorem lenH_set {H : List AObj} {i : Nat} {o : AObj} : lenH (setH H i o) = lenH H := by simp [lenH, setH]
@[simp] theorem lenH_ne {H : List AObj} {i : Nat} (h : (getH H i).isSome = true) : (lenH H = i) = False := by
  have := getH_lt h; simp; omega
@[simp] theorem ne_lenH {H : List AObj} {i : Nat} (h : (getH H i).isSome = true) : (i = lenH H) = False := by
  have := getH_lt h; simp; omega
@[simp] theorem set_set {H : List AObj} {i : Nat} {o o' : AObj} : setH (setH H i o) i o' = setH H i o' := by simp [setH]
/-! ### operations -/
def valA (S : AS) : Option AV → Option (AV × AS)
  | some v => some (v, S)
  | none => none
@[simp] theorem valA_some (S : AS) (v : AV) : valA S (some v) = some (v, S) := rfl
def cutC (n o : Nat) : Option AObj → Option (List AV)
  | some (.cells cs) => if o + n ≤ cs.length then some ((cs.drop o).take n) else none
  | _ => none
@[simp] theorem cutC_cells (n o : Nat) (cs : List AV) : cutC n o (some (.cells cs)) = if o + n ≤ cs.length then some ((cs.drop o).take n) else none := rfl
def cutL (n o : Nat) : Option (List AV) → Option (List AV)
  | some cs => if o + n ≤ cs.length then some ((cs.drop o).take n) else none
  | none => none
@[simp] theorem cutL_some (n o : Nat) (cs : List AV) : cutL n o (some cs) = if o + n ≤ cs.length then some ((cs.drop o).take n) else none := rfl
@[simp] theorem loadA_ptr (S : AS) (n i o : Nat) : loadA S n (.ptr i o) = cutC n o (getH S.hp i) := rfl
@[simp] theorem loadA_cp (S : AS) (n : Nat) (cs : List AV) : loadA S n (.cp cs) = if n ≤ cs.length then some (cs.take n) else none := rfl
@[simp] theorem loadA_lref (S : AS) (n s o : Nat) : loadA S n (.lref s o) = cutL n o (look S.lo s) := rfl
@[simp] theorem joinA_true (cs : List AV) : joinA true cs = some (.agg cs) := rfl
@[simp] theorem joinA_one (v : AV) : joinA false [v] = some v := rfl
def ldA (S : AS) (ag : Bool) : Option (List AV) → Option (AV × AS)
  | some cs => valA S (joinA ag cs)
  | none => none
@[simp] theorem ldA_some (S : AS) (ag : Bool) (cs : List AV) : ldA S ag (some cs) = valA S (joinA ag cs) := rfl
def stC (S : AS) (i n o : Nat) (v : AV) : Option AObj → Option AS
  | some (.cells cs) => if o + n ≤ cs.length then some { S with hp := setH S.hp i (.cells (splice cs o v.cells)) } else none
  | _ => none
@[simp] theorem stC_cells (S : AS) (i n o : Nat) (v : AV) (cs : List AV) : stC S i n o v (some (.cells cs)) = if o + n ≤ cs.length then some { S with hp := setH S.hp i (.cells (splice cs o v.cells)) } else none := rfl
def stL (S : AS) (s n o : Nat) (v : AV) : Option (List AV) → Option AS
  | some cs => if o + n ≤ cs.length then some { S with lo := put S.lo s (splice cs o v.cells) } else none
  | none => none
@[simp] theorem stL_some (S : AS) (s n o : Nat) (v : AV) (cs : List AV) : stL S s n o v (some cs) = if o + n ≤ cs.length then some { S with lo := put S.lo s (splice cs o v.cells) } else none := rfl
@[simp] theorem storeA_ptr (S : AS) (n i o : Nat) (v : AV) : storeA S n (.ptr i o) v = if v.okv = true ∧ v.cells.length = n then stC S i n o v (getH S.hp i) else none := rfl
@[simp] theorem storeA_lref (S : AS) (n s o : Nat) (v : AV) : storeA S n (.lref s o) v = if v.okv = true ∧ v.cells.length = n then stL S s n o v (look S.lo s) else none := rfl
def skA : Option AS → Option (AV × AS)
  | some S => some (.skip, S)
  | none => none
@[simp] theorem skA_some (S : AS) : skA (some S) = some (.skip, S) := rfl
@[simp] theorem splice_eq (cs : List AV) (o : Nat) (vs : List AV) : splice cs o vs = cs.take o ++ vs ++ cs.drop (o + vs.length) := rfl
@[simp] theorem faA_ptr (off i o : Nat) : faA off (.ptr i o) = some (.ptr i (o + off)) := rfl
@[simp] theorem faA_cp (off : Nat) (cs : List AV) : faA off (.cp cs) = if off ≤ cs.length then some (.cp (cs.drop off)) else none := rfl
@[simp] theorem faA_lref (off s o : Nat) : faA off (.lref s o) = some (.lref s (o + off)) := rfl
def ixC (e : Nat) : Option AV → Option AV
  | some v => if v.okv = true ∧ v.cells.length = e then some (.cp v.cells) else none
  | none => none
@[simp] theorem ixC_some (e : Nat) (v : AV) : ixC e (some v) = if v.okv = true ∧ v.cells.length = e then some (.cp v.cells) else none := rfl
@[simp] theorem ixaA_vs (e : Nat) (t : Option Nat) (xs : List AV) (k : IntKind) (n : Int) : ixaA e (.vs t xs) (.int k n) = if 0 ≤ n then ixC e xs[n.toNat]? else none := rfl
@[simp] theorem ixaA_hs (e j e' o len : Nat) (k : IntKind) (n : Int) : ixaA e (.hs j e' o len) (.int k n) = if e' = e ∧ 0 ≤ n ∧ n < len then some (.ptr j (o + n.toNat * e)) else none := rfl
def byteC : Option UInt8 → Option AV
  | some b => some (.int .u8 b.toNat)
  | none => none
@[simp] theorem byteC_some (b : UInt8) : byteC (some b) = some (.int .u8 b.toNat) := rfl
@[simp] theorem ixsA_str (s : List UInt8) (k : IntKind) (n : Int) : ixsA (.str s) (.int k n) = if 0 ≤ n then byteC s[n.toNat]? else none := rfl
@[simp] theorem lenA_s (S : AS) (s : List UInt8) : lenA S .s (.str s) = some s.length := rfl
@[simp] theorem lenA_nils (S : AS) : lenA S .l .nils = some 0 := rfl
@[simp] theorem lenA_vs (S : AS) (t : Option Nat) (xs : List AV) : lenA S .l (.vs t xs) = some xs.length := rfl
@[simp] theorem lenA_hs (S : AS) (i e o n : Nat) : lenA S .l (.hs i e o n) = some n := rfl
@[simp] theorem lenA_nilm (S : AS) : lenA S .m .nilm = some 0 := rfl
def lenC : Option AObj → Option Nat
  | some (.map es) => some es.length
  | _ => none
@[simp] theorem lenC_map (es : List (AV × AV)) : lenC (some (.map es)) = some es.length := rfl
@[simp] theorem lenA_map (S : AS) (i : Nat) : lenA S .m (.map i) = lenC (getH S.hp i) := rfl
def lnA (S : AS) : Option Nat → Option (AV × AS)
  | some n => some (.int .i64 n, S)
  | none => none
@[simp] theorem lnA_some (S : AS) (n : Nat) : lnA S (some n) = some (.int .i64 n, S) := rfl
attribute [simp] bndA slsA slA sq sqs unA
@[simp] theorem elemsA_nils (S : AS) (e : Nat) : elemsA S e .nils = some [] := rfl
@[simp] theorem elemsA_vs (S : AS) (e : Nat) (t : Option Nat) (xs : List AV) : elemsA S e (.vs t xs) = if wid e xs = true then some xs else none := rfl
def elC (o n e : Nat) : Option AObj → Option (List AV)
  | some (.cells cs) => if o + n * e ≤ cs.length ∧ e = 1 then some ((cs.drop o).take n) else none
  | _ => none
@[simp] theorem elC_cells (o n e : Nat) (cs : List AV) : elC o n e (some (.cells cs)) = if o + n * e ≤ cs.length ∧ e = 1 then some ((cs.drop o).take n) else none := rfl
@[simp] theorem elemsA_hs (S : AS) (e i e' o n : Nat) : elemsA S e (.hs i e' o n) = if e' = e then elC o n e (getH S.hp i) else none := rfl
@[simp] theorem cellsA_nils (S : AS) (e : Nat) : cellsA S e .nils = some (0, []) := rfl
@[simp] theorem cellsA_vs (S : AS) (e : Nat) (t : Option Nat) (xs : List AV) : cellsA S e (.vs t xs) = if wid e xs = true then some (xs.length, xs.flatMap AV.cells) else none := rfl
def clC (o n e : Nat) : Option AObj → Option (Nat × List AV)
  | some (.cells cs) => if o + n * e ≤ cs.length then some (n, (cs.drop o).take (n * e)) else none
  | _ => none
@[simp] theorem clC_cells (o n e : Nat) (cs : List AV) : clC o n e (some (.cells cs)) = if o + n * e ≤ cs.length then some (n, (cs.drop o).take (n * e)) else none := rfl
@[simp] theorem cellsA_hs (S : AS) (e i e' o n : Nat) : cellsA S e (.hs i e' o n) = if e' = e then clC o n e (getH S.hp i) else none := rfl
@[simp] theorem wid_nil (e : Nat) : wid e [] = true := rfl
@[simp] theorem wid_cons (e : Nat) (v : AV) (xs : List AV) : wid e (v :: xs) = (v.okv && v.cells.length == e && wid e xs) := rfl
@[simp] theorem wid_append (e : Nat) (xs ys : List AV) : wid e (xs ++ ys) = (wid e xs && wid e ys) := by simp [wid]
theorem wid_map {α : Type} (e : Nat) (f : α → AV) (l : List α) (h : ∀ x, (f x).okv = true ∧ (f x).cells.length = e) : wid e (l.map f) = true := by
  unfold wid
  rw [List.all_eq_true]
  intro v hv
  obtain ⟨x, _, rfl⟩ := List.mem_map.1 hv
  simp [(h x).1, (h x).2]
/-- An append to an immutable slice. -/
def apV (S : AS) (e bytes : Nat) (x : AV) : Option (List AV) → Option (AV × AS)
  | none => none
  | some ys => match x with
    | .nils => if ys = [] then some (.nils, S) else if ys.length * bytes ≤ roomA then some (.vs (some (lenH S.hp)) (ys.map AV.erase), { S with hp := addH S.hp .tip }) else none
    | .vs (some t) xs => if (xs.length + ys.length) * bytes ≤ roomA ∧ wid e xs = true then match getH S.hp t with
      | some .tip => some (.vs (some (lenH S.hp)) (xs ++ ys.map AV.erase), { S with hp := addH (setH S.hp t .dead) .tip })
      | _ => none
      else none
    | _ => none
def apT (S : AS) (t : Nat) (v : AV) : Option AObj → Option (AV × AS)
  | some .tip => some (v, { S with hp := addH (setH S.hp t .dead) .tip })
  | _ => none
@[simp] theorem apT_tip (S : AS) (t : Nat) (v : AV) : apT S t v (some .tip) = some (v, { S with hp := addH (setH S.hp t .dead) .tip }) := rfl
@[simp] theorem apV_nils (S : AS) (e bytes : Nat) (ys : List AV) : apV S e bytes .nils (some ys) = if ys = [] then some (.nils, S) else if ys.length * bytes ≤ roomA then some (.vs (some (lenH S.hp)) (ys.map AV.erase), { S with hp := addH S.hp .tip }) else none := rfl
@[simp] theorem apV_vs (S : AS) (e bytes t : Nat) (xs ys : List AV) : apV S e bytes (.vs (some t) xs) (some ys) = if (xs.length + ys.length) * bytes ≤ roomA ∧ wid e xs = true then apT S t (.vs (some (lenH S.hp)) (xs ++ ys.map AV.erase)) (getH S.hp t) else none := by
  simp only [apV]
  split
  · generalize getH S.hp t = q
    cases q with
    | none => rfl
    | some q => cases q <;> rfl
  · rfl
def apH (S : AS) (e bytes : Nat) (x : AV) : Option (Nat × List AV) → Option (AV × AS)
  | none => none
  | some (m, cs) => match x with
    | .nils => if m = 0 then some (.nils, S) else if m * bytes ≤ roomA then some (.hs (lenH S.hp) e 0 m, { S with hp := addH S.hp (.cells (cs.map AV.drop1)) }) else none
    | .hs i e' o n => if e' = e ∧ (n + m) * bytes ≤ roomA then match getH S.hp i with
      | some (.cells old) => if o + n * e ≤ old.length ∧ o = 0 then
          some (.hs (lenH S.hp) e 0 (n + m), { S with hp := addH (setH S.hp i .dead) (.cells (old.take (n * e) ++ cs.map AV.drop1)) }) else none
      | _ => none
      else none
    | _ => none
def apC (S : AS) (e i o n m : Nat) (cs : List AV) : Option AObj → Option (AV × AS)
  | some (.cells old) => if o + n * e ≤ old.length ∧ o = 0 then some (.hs (lenH S.hp) e 0 (n + m), { S with hp := addH (setH S.hp i .dead) (.cells (old.take (n * e) ++ cs.map AV.drop1)) }) else none
  | _ => none
@[simp] theorem apC_cells (S : AS) (e i o n m : Nat) (cs old : List AV) : apC S e i o n m cs (some (.cells old)) = if o + n * e ≤ old.length ∧ o = 0 then some (.hs (lenH S.hp) e 0 (n + m), { S with hp := addH (setH S.hp i .dead) (.cells (old.take (n * e) ++ cs.map AV.drop1)) }) else none := rfl
@[simp] theorem apH_nils (S : AS) (e bytes m : Nat) (cs : List AV) : apH S e bytes .nils (some (m, cs)) = if m = 0 then some (.nils, S) else if m * bytes ≤ roomA then some (.hs (lenH S.hp) e 0 m, { S with hp := addH S.hp (.cells (cs.map AV.drop1)) }) else none := rfl
@[simp] theorem apH_hs (S : AS) (e bytes i e' o n m : Nat) (cs : List AV) : apH S e bytes (.hs i e' o n) (some (m, cs)) = if e' = e ∧ (n + m) * bytes ≤ roomA then apC S e i o n m cs (getH S.hp i) else none := by
  simp only [apH]
  split
  · generalize getH S.hp i = q
    cases q with
    | none => rfl
    | some q => cases q <;> rfl
  · rfl
theorem roomA_eq : roomA = 35184372088832 := rfl
def lkC (bk : BK) (k : AV) : Option AObj → Option (Option AV)
  | some (.map es) => findA bk k es
  | _ => none
@[simp] theorem lkC_map (bk : BK) (k : AV) (es : List (AV × AV)) : lkC bk k (some (.map es)) = findA bk k es := rfl
def lkM (S : AS) (bk : BK) (k : AV) : AV → Option (Option AV)
  | .nilm => some none
  | .map i => lkC bk k (getH S.hp i)
  | _ => none
@[simp] theorem lkM_nilm (S : AS) (bk : BK) (k : AV) : lkM S bk k .nilm = some none := rfl
@[simp] theorem lkM_map (S : AS) (bk : BK) (k : AV) (i : Nat) : lkM S bk k (.map i) = lkC bk k (getH S.hp i) := rfl
def lkV (S : AS) (z : AV) (ok : Bool) : Option (Option AV) → Option (AV × AS)
  | some r => some (if ok then .tuple [r.getD z, .bool r.isSome] else r.getD z, S)
  | none => none
@[simp] theorem lkV_some (S : AS) (z : AV) (ok : Bool) (r : Option AV) : lkV S z ok (some r) = some (if ok then .tuple [r.getD z, .bool r.isSome] else r.getD z, S) := rfl
def muS (S : AS) (i : Nat) : Option (List (AV × AV)) → Option (AV × AS)
  | some es => some (.skip, { S with hp := setH S.hp i (.map es) })
  | none => none
@[simp] theorem muS_some (S : AS) (i : Nat) (es : List (AV × AV)) : muS S i (some es) = some (.skip, { S with hp := setH S.hp i (.map es) }) := rfl
def muC (S : AS) (bk : BK) (k v : AV) (i : Nat) : Option AObj → Option (AV × AS)
  | some (.map es) => muS S i (setA bk k v es)
  | _ => none
@[simp] theorem muC_map (S : AS) (bk : BK) (k v : AV) (i : Nat) (es : List (AV × AV)) : muC S bk k v i (some (.map es)) = muS S i (setA bk k v es) := rfl
def muM (S : AS) (bk : BK) (k v : AV) : AV → Option (AV × AS)
  | .map i => muC S bk k v i (getH S.hp i)
  | _ => none
@[simp] theorem muM_map (S : AS) (bk : BK) (k v : AV) (i : Nat) : muM S bk k v (.map i) = muC S bk k v i (getH S.hp i) := rfl
@[simp] theorem key_int (k : IntKind) (n : Int) : AV.key .i (.int k n) = true := rfl
@[simp] theorem key_str (s : List UInt8) : AV.key .s (.str s) = true := rfl
@[simp] theorem key_bool (b : Bool) : AV.key .b (.bool b) = true := rfl

section
variable (ρ : Opd → AV) (d : Option Nat) (S : AS)
def pickA (S : AS) (a b : AV) : AV → Option (AV × AS)
  | .bool t => some (if t then a else b, S)
  | _ => none
@[simp] theorem pickA_bool (a b : AV) (t : Bool) : pickA S a b (.bool t) = some (if t = true then a else b, S) := rfl
def nckA (S : AS) : AV → Option (AV × AS)
  | .ptr i o => some (.ptr i o, S)
  | .cp cs => some (.cp cs, S)
  | .lref s o => some (.lref s o, S)
  | _ => none
@[simp] theorem nckA_ptr (i o : Nat) : nckA S (.ptr i o) = some (.ptr i o, S) := rfl
@[simp] theorem nckA_cp (cs : List AV) : nckA S (.cp cs) = some (.cp cs, S) := rfl
@[simp] theorem nckA_lref (s o : Nat) : nckA S (.lref s o) = some (.lref s o, S) := rfl
def cviA (S : AS) (k : IntKind) : AV → Option (AV × AS)
  | .int _ n => some (.int k (k.wrap n), S)
  | _ => none
@[simp] theorem cviA_int (k k' : IntKind) (n : Int) : cviA S k (.int k' n) = some (.int k (k.wrap n), S) := rfl
def fldA (S : AS) (ag : Bool) (off n : Nat) : AV → Option (AV × AS)
  | .agg cs => if off + n ≤ cs.length then valA S (joinA ag ((cs.drop off).take n)) else none
  | _ => none
@[simp] theorem fldA_agg (ag : Bool) (off n : Nat) (cs : List AV) : fldA S ag off n (.agg cs) = if off + n ≤ cs.length then valA S (joinA ag ((cs.drop off).take n)) else none := rfl
def extA (S : AS) (i : Nat) : AV → Option (AV × AS)
  | .tuple vs => valA S vs[i]?
  | _ => none
@[simp] theorem extA_tuple (i : Nat) (vs : List AV) : extA S i (.tuple vs) = valA S vs[i]? := rfl
def mxA (S : AS) (least : Bool) : AV → AV → Option (AV × AS)
  | .int k a, .int k' b => if k = k' then some (.int k (if least then min a b else max a b), S) else none
  | _, _ => none
@[simp] theorem mxA_int (least : Bool) (k k' : IntKind) (a b : Int) : mxA S least (.int k a) (.int k' b) = if k = k' then some (.int k (if least = true then min a b else max a b), S) else none := rfl
def tasA (S : AS) (t : Nat) (z : AV) (ok : Bool) : AV → Option (AV × AS)
  | .iface u v => if u = t then some (if ok then .tuple [v, .bool true] else v, S) else if ok then some (.tuple [z, .bool false], S) else none
  | .nili => if ok then some (.tuple [z, .bool false], S) else none
  | _ => none
@[simp] theorem tasA_iface (t u : Nat) (z v : AV) (ok : Bool) : tasA S t z ok (.iface u v) = if u = t then some (if ok = true then .tuple [v, .bool true] else v, S) else if ok = true then some (.tuple [z, .bool false], S) else none := rfl
@[simp] theorem tasA_nili (t : Nat) (z : AV) (ok : Bool) : tasA S t z ok .nili = if ok = true then some (.tuple [z, .bool false], S) else none := rfl
def mksA (S : AS) (e b : Nat) (hk : Bool) (z : AV) : AV → Option (AV × AS)
  | .int k m => if 0 ≤ m ∧ m * b ≤ (roomA : Int) ∧ k = .i64 ∧ m < 2 ^ 62 then
      if hk then some (.hs (lenH S.hp) e 0 m.toNat, { S with hp := addH S.hp (.cells ((List.replicate m.toNat z).flatMap AV.cells)) })
      else if m = 0 then some (.vs none [], S) else some (.vs (some (lenH S.hp)) (List.replicate m.toNat z), { S with hp := addH S.hp .tip })
    else none
  | _ => none
@[simp] theorem mksA_int (e b : Nat) (hk : Bool) (z : AV) (k : IntKind) (m : Int) : mksA S e b hk z (.int k m) = if 0 ≤ m ∧ m * b ≤ (roomA : Int) ∧ k = .i64 ∧ m < 2 ^ 62 then
      if hk = true then some (.hs (lenH S.hp) e 0 m.toNat, { S with hp := addH S.hp (.cells ((List.replicate m.toNat z).flatMap AV.cells)) })
      else if m = 0 then some (.vs none [], S) else some (.vs (some (lenH S.hp)) (List.replicate m.toNat z), { S with hp := addH S.hp .tip })
    else none := rfl
def aggA (S : AS) : Option (List AV) → Option (AV × AS)
  | some cs => some (.agg cs, S)
  | none => none
@[simp] theorem aggA_some (cs : List AV) : aggA S (some cs) = some (.agg cs, S) := rfl
@[simp] theorem st_mv (x : Opd) : astep ρ d S (.mv x) = some (ρ x, S) := rfl
@[simp] theorem st_pick (c a b : Opd) : astep ρ d S (.pick c a b) = pickA S (ρ a) (ρ b) (ρ c) := rfl
@[simp] theorem st_allocL (z : List AV) (s : Nat) : astep ρ (some s) S (.allocL z) = some (.lref s 0, { S with lo := put S.lo s z }) := rfl
@[simp] theorem st_allocH (z : List AV) : astep ρ d S (.allocH z) = some (.ptr (lenH S.hp) 0, { S with hp := addH S.hp (.cells z) }) := rfl
@[simp] theorem st_boxL (x : Opd) (s : Nat) : astep ρ (some s) S (.boxL x) = if (ρ x).okv = true then some (.lref s 0, { S with lo := put S.lo s (ρ x).cells }) else none := rfl
@[simp] theorem st_boxH (x : Opd) : astep ρ d S (.boxH x) = if (ρ x).okv = true then some (.ptr (lenH S.hp) 0, { S with hp := addH S.hp (.cells (ρ x).cells) }) else none := rfl
@[simp] theorem st_build (z : List AV) (ps : List (Nat × Nat × Opd)) : astep ρ d S (.build z ps) = aggA S (fillA z (ps.map fun (o, n, x) => (o, n, ρ x))) := by
  simp only [astep]; generalize fillA z _ = q; cases q <;> rfl
@[simp] theorem st_bslF (e : Nat) (ps : List Opd) : astep ρ d S (.bsl e false ps) = if wid e (ps.map ρ) = true then (if ps.map ρ = [] then some (.vs none [], S) else some (.vs (some (lenH S.hp)) ((ps.map ρ).map AV.erase), { S with hp := addH S.hp .tip })) else none := rfl
@[simp] theorem st_bslT (e : Nat) (ps : List Opd) : astep ρ d S (.bsl e true ps) = if wid e (ps.map ρ) = true then some (.hs (lenH S.hp) e 0 (ps.map ρ).length, { S with hp := addH S.hp (.cells (((ps.map ρ).flatMap AV.cells).map AV.drop1)) }) else none := rfl
@[simp] theorem st_ld (ag : Bool) (n : Nat) (x : Opd) : astep ρ d S (.ld ag n x) = ldA S ag (loadA S n (ρ x)) := rfl
@[simp] theorem st_st (n : Nat) (x v : Opd) : astep ρ d S (.st n x v) = skA (storeA S n (ρ x) (ρ v)) := rfl
@[simp] theorem st_nck (x : Opd) : astep ρ d S (.nck x) = nckA S (ρ x) := rfl
@[simp] theorem st_bin (op : BinOp) (tk : TK) (x y : Opd) : astep ρ d S (.bin op tk x y) = valA S (binA op tk (ρ x) (ρ y)) := rfl
@[simp] theorem st_un (op : UnOp) (x : Opd) : astep ρ d S (.un op x) = valA S (unA op (ρ x)) := rfl
@[simp] theorem st_cvi (k : IntKind) (x : Opd) : astep ρ d S (.cvi k x) = cviA S k (ρ x) := rfl
@[simp] theorem st_fld (ag : Bool) (off n : Nat) (x : Opd) : astep ρ d S (.fld ag off n x) = fldA S ag off n (ρ x) := rfl
@[simp] theorem st_fa (off : Nat) (x : Opd) : astep ρ d S (.fa off x) = valA S (faA off (ρ x)) := rfl
@[simp] theorem st_ixa (e : Nat) (x i : Opd) : astep ρ d S (.ixa e x i) = valA S (ixaA e (ρ x) (ρ i)) := rfl
@[simp] theorem st_ixs (x i : Opd) : astep ρ d S (.ixs x i) = valA S (ixsA (ρ x) (ρ i)) := rfl
@[simp] theorem st_sl (e : Nat) (x : Opd) (lo hi : Option Opd) : astep ρ d S (.sl e x lo hi) = valA S (slA e (ρ x) (lo.map ρ) (hi.map ρ)) := rfl
@[simp] theorem st_sls (x : Opd) (lo hi : Option Opd) : astep ρ d S (.sls x lo hi) = valA S (slsA (ρ x) (lo.map ρ) (hi.map ρ)) := rfl
@[simp] theorem st_appF (e b : Nat) (x y : Opd) : astep ρ d S (.app e b false x y) = apV S e b (ρ x) (elemsA S e (ρ y)) := by
  simp only [astep, appA, Bool.false_eq_true, if_false]; generalize elemsA S e (ρ y) = q; cases q <;> rfl
@[simp] theorem st_appT (e b : Nat) (x y : Opd) : astep ρ d S (.app e b true x y) = apH S e b (ρ x) (cellsA S e (ρ y)) := by
  simp only [astep, appA, if_true]; generalize cellsA S e (ρ y) = q; cases q <;> rfl
@[simp] theorem st_len (k : LK) (x : Opd) : astep ρ d S (.len k x) = lnA S (lenA S k (ρ x)) := rfl
@[simp] theorem st_mx (l : Bool) (x y : Opd) : astep ρ d S (.mx l x y) = mxA S l (ρ x) (ρ y) := rfl
@[simp] theorem st_mkmap : astep ρ d S .mkmap = some (.map (lenH S.hp), { S with hp := addH S.hp (.map []) }) := rfl
@[simp] theorem st_lkp (bk : BK) (z : AV) (ok : Bool) (m k : Opd) : astep ρ d S (.lkp bk z ok m k) = if AV.key bk (ρ k) = true then lkV S z ok (lkM S bk (ρ k) (ρ m)) else none := by
  simp only [astep]
  split
  · cases ρ m <;> rfl
  · rfl
@[simp] theorem st_mup (bk : BK) (m k v : Opd) : astep ρ d S (.mup bk m k v) = if AV.key bk (ρ k) = true ∧ (ρ v).proper = true then muM S bk (ρ k) (ρ v) (ρ m) else none := by
  simp only [astep]
  split
  · cases ρ m <;> rfl
  · rfl
@[simp] theorem st_mkf (fn : Fn) (a b : List Opd) : astep ρ d S (.mkf fn a b) = if (a.map ρ).all AV.proper = true ∧ (b.map ρ).all AV.proper = true then some (.func fn (a.map ρ) (b.map ρ), S) else none := rfl
@[simp] theorem st_mki (t : Nat) (x : Opd) : astep ρ d S (.mki t x) = if (ρ x).proper = true then some (.iface t (ρ x), S) else none := rfl
@[simp] theorem st_tas (t : Nat) (z : AV) (ok : Bool) (x : Opd) : astep ρ d S (.tas t z ok x) = tasA S t z ok (ρ x) := by
  simp only [astep]; cases ρ x <;> rfl
@[simp] theorem st_ext (x : Opd) (i : Nat) : astep ρ d S (.ext x i) = extA S i (ρ x) := by
  simp only [astep]; cases ρ x <;> rfl
@[simp] theorem st_mks (e b : Nat) (hk : Bool) (z : AV) (n : Opd) : astep ρ d S (.mks e b hk z n) = mksA S e b hk z (ρ n) := rfl
end

@[simp] theorem eqA_int (k k' : IntKind) (a b : Int) : eqA .num (.int k a) (.int k' b) = if k = k' then some (a == b) else none := rfl
@[simp] theorem eqA_str (a b : List UInt8) : eqA .num (.str a) (.str b) = some (a == b) := rfl
@[simp] theorem eqA_bool (a b : Bool) : eqA .bool (.bool a) (.bool b) = some (a == b) := rfl
@[simp] theorem eqA_ptr_nil : eqA .ptr .nilp .nilp = some true := rfl
@[simp] theorem eqA_ptr_nptr (i o : Nat) : eqA .ptr .nilp (.ptr i o) = some false := rfl
@[simp] theorem eqA_ptr_ptrn (i o : Nat) : eqA .ptr (.ptr i o) .nilp = some false := rfl
@[simp] theorem eqA_ptr_ncp (cs : List AV) : eqA .ptr .nilp (.cp cs) = some false := rfl
@[simp] theorem eqA_ptr_cpn (cs : List AV) : eqA .ptr (.cp cs) .nilp = some false := rfl
@[simp] theorem eqA_slice_nil : eqA .slice .nils .nils = some true := rfl
@[simp] theorem eqA_slice_nvs (t : Option Nat) (xs : List AV) : eqA .slice .nils (.vs t xs) = some false := rfl
@[simp] theorem eqA_slice_vsn (t : Option Nat) (xs : List AV) : eqA .slice (.vs t xs) .nils = some false := rfl
@[simp] theorem eqA_slice_nhs (i e o n : Nat) : eqA .slice .nils (.hs i e o n) = some false := rfl
@[simp] theorem eqA_slice_hsn (i e o n : Nat) : eqA .slice (.hs i e o n) .nils = some false := rfl
@[simp] theorem eqA_map_nil : eqA .map .nilm .nilm = some true := rfl
@[simp] theorem eqA_map_nmap (i : Nat) : eqA .map .nilm (.map i) = some false := rfl
@[simp] theorem eqA_map_mapn (i : Nat) : eqA .map (.map i) .nilm = some false := rfl
@[simp] theorem eqA_func_nil : eqA .func .nilf .nilf = some true := rfl
@[simp] theorem eqA_func_nfunc (fn : Fn) (a c : List AV) : eqA .func .nilf (.func fn a c) = some false := rfl
@[simp] theorem eqA_func_funcn (fn : Fn) (a c : List AV) : eqA .func (.func fn a c) .nilf = some false := rfl
@[simp] theorem eqA_iface_nn : eqA .iface .nili .nili = some true := rfl
@[simp] theorem eqA_iface_niface (t : Nat) (v : AV) : eqA .iface .nili (.iface t v) = some false := rfl
@[simp] theorem eqA_iface_ifacen (t : Nat) (v : AV) : eqA .iface (.iface t v) .nili = some false := rfl
@[simp] theorem eqA_flat (ks : List BK) (xs ys : List AV) : eqA (.flat ks) (.agg xs) (.agg ys) = if xs.length = ks.length ∧ ys.length = ks.length then sqs ks xs ys else none := rfl
@[simp] theorem binA_eql (tk : TK) (x y : AV) : binA .eql tk x y = (eqA tk x y).map .bool := rfl
@[simp] theorem binA_neq (tk : TK) (x y : AV) : binA .neq tk x y = (eqA tk x y).map fun b => .bool !b := rfl
@[simp] theorem binA_add (tk : TK) (k : IntKind) (a b : Int) : binA .add tk (.int k a) (.int k b) = some (.int k (k.wrap (a + b))) := by simp only [binA, if_true]
@[simp] theorem binA_sub (tk : TK) (k : IntKind) (a b : Int) : binA .sub tk (.int k a) (.int k b) = some (.int k (k.wrap (a - b))) := by simp only [binA, if_true]
@[simp] theorem binA_mul (tk : TK) (k : IntKind) (a b : Int) : binA .mul tk (.int k a) (.int k b) = some (.int k (k.wrap (a * b))) := by simp only [binA, if_true]
@[simp] theorem binA_lss (tk : TK) (k : IntKind) (a b : Int) : binA .lss tk (.int k a) (.int k b) = some (.bool (decide (a < b))) := by simp only [binA, if_true]
@[simp] theorem binA_leq (tk : TK) (k : IntKind) (a b : Int) : binA .leq tk (.int k a) (.int k b) = some (.bool (decide (a ≤ b))) := by simp only [binA, if_true]
@[simp] theorem binA_gtr (tk : TK) (k : IntKind) (a b : Int) : binA .gtr tk (.int k a) (.int k b) = some (.bool (decide (a > b))) := by simp only [binA, if_true]
@[simp] theorem binA_geq (tk : TK) (k : IntKind) (a b : Int) : binA .geq tk (.int k a) (.int k b) = some (.bool (decide (a ≥ b))) := by simp only [binA, if_true]
@[simp] theorem binA_quo (tk : TK) (k : IntKind) (a b : Int) : binA .quo tk (.int k a) (.int k b) = if b = 0 then none else some (.int k (k.wrap (a.tdiv b))) := by simp only [binA, if_true]
@[simp] theorem binA_rem (tk : TK) (k : IntKind) (a b : Int) : binA .rem tk (.int k a) (.int k b) = if b = 0 then none else some (.int k (a.tmod b)) := by simp only [binA, if_true]
@[simp] theorem binA_and (tk : TK) (k : IntKind) (a b : Int) : binA .and tk (.int k a) (.int k b) = some (.int k (k.wrap (BitVec.ofInt k.bits a &&& BitVec.ofInt k.bits b).toNat)) := by simp only [binA, if_true]
@[simp] theorem binA_or (tk : TK) (k : IntKind) (a b : Int) : binA .or tk (.int k a) (.int k b) = some (.int k (k.wrap (BitVec.ofInt k.bits a ||| BitVec.ofInt k.bits b).toNat)) := by simp only [binA, if_true]
@[simp] theorem binA_xor (tk : TK) (k : IntKind) (a b : Int) : binA .xor tk (.int k a) (.int k b) = some (.int k (k.wrap (BitVec.ofInt k.bits a ^^^ BitVec.ofInt k.bits b).toNat)) := by simp only [binA, if_true]
@[simp] theorem binA_shl (tk : TK) (k k' : IntKind) (a b : Int) : binA .shl tk (.int k a) (.int k' b) = if b < 0 then none else some (.int k (k.wrap (a * 2 ^ min b.toNat k.bits))) := rfl
@[simp] theorem binA_shr (tk : TK) (k k' : IntKind) (a b : Int) : binA .shr tk (.int k a) (.int k' b) = if b < 0 then none else some (.int k (a.fdiv (2 ^ min b.toNat k.bits))) := rfl
@[simp] theorem binA_cat (tk : TK) (a b : List UInt8) : binA .add tk (.str a) (.str b) = if a.length + b.length ≤ 2 ^ 62 then some (.str (a ++ b)) else none := rfl

/-! ### steps -/
theorem gwant_some {C : Spec} {r : RK} {o : AOper} {os : List AOper} {τ : Env} {S : AS} {Q : CPostA} {b : Bool} :
    gwant C r o os τ S Q (some b) = if b = true then gins C r o os τ S Q o.a else gops C r os (putD τ o.d .skip) S Q := by cases b <;> rfl
@[simp] theorem gval_some {C : Spec} {r : RK} {o : AOper} {os : List AOper} {τ : Env} {Q : CPostA} {v : AV} {S : AS} : gval C r o os τ Q (some (v, S)) = gput C r o os τ v S Q := rfl
@[simp] theorem gput_eq {C : Spec} {r : RK} {o : AOper} {os : List AOper} {τ : Env} {Q : CPostA} {v : AV} {S : AS} : gput C r o os τ v S Q = (okD o os v τ = true ∧ recheck r.R (putD τ o.d v) S o.re ∧ gops C r os (putD τ o.d v) S Q) := rfl
@[simp] theorem gback_ret {C : Spec} {r : RK} {o : AOper} {os : List AOper} {τ : Env} {S : AS} {Q : CPostA} {v : AV} {H : List AObj} : gback C r o os τ S Q (.ret v) H = gput C r o os τ v { S with hp := H } Q := rfl
@[simp] theorem gback_pan {C : Spec} {r : RK} {o : AOper} {os : List AOper} {τ : Env} {S : AS} {Q : CPostA} {v : AV} {H : List AObj} : gback C r o os τ S Q (.pan v) H = pop C r.ks (.pan v) (dropD (dsts r.R) r.t0) { S with hp := H } Q := rfl
@[simp] theorem gcond_bool {C : Spec} {a b : ACode} {ks : List KF} {τ : Env} {S : AS} {Q : CPostA} {t : Bool} : gcond C a b ks τ S Q (.bool t) = if t = true then go C a ks τ S Q else go C b ks τ S Q := rfl
attribute [simp] go_skip go_seq go_block go_exit go_ret go_keep go_cond go_reg pop_nil pop_seq pop_seq_exit pop_seq_ret pop_seq_pan pop_blk pop_blk_exit pop_blk_ret pop_blk_pan pop_inv pop_inv_exit pop_inv_ret pop_inv_pan kpost_pop gops_nil gops_cons gwant_some gins
attribute [simp] ress res1 fillA
@[simp] theorem resV_one (v : AV) : resV [v] = v.erase := rfl
@[simp] theorem resV_nil : resV [] = .tuple [] := rfl
@[simp] theorem resV_two (u v : AV) (vs : List AV) : resV (u :: v :: vs) = (AV.tuple (u :: v :: vs)).erase := rfl

/-- A heap of which one object was changed, and that has grown. -/
structure Up (H : List AObj) (p : Nat) (o : AObj) (K : List AObj) : Prop where
  at' : getH K p = some o
  len : lenH H ≤ lenH K
  old : ∀ q, q ≠ p → (getH H q).isSome = true → getH K q = getH H q

/-- A heap that has grown. -/
structure Gr (H K : List AObj) : Prop where
  len : lenH H ≤ lenH K
  old : ∀ q, (getH H q).isSome = true → getH K q = getH H q

theorem Gr.refl (H : List AObj) : Gr H H := ⟨Nat.le_refl _, fun _ _ => rfl⟩
theorem Gr.trans {H K M : List AObj} (a : Gr H K) (b : Gr K M) : Gr H M := ⟨Nat.le_trans a.len b.len, fun q h => by rw [b.old q (by rw [a.old q h]; exact h), a.old q h]⟩
theorem Gr.add {H K : List AObj} {o : AObj} (a : Gr H K) : Gr H (addH K o) := a.trans ⟨by simp, fun q h => getH_add_old h⟩
theorem Gr.new {H K : List AObj} {i : Nat} {o : AObj} (a : Gr H K) (h : lenH H ≤ i) : Gr H (setH K i o) := ⟨by simpa using a.len, fun q hq => by
  have := getH_lt hq
  rw [getH_set_ne (by omega), a.old q hq]⟩
theorem Up.refl {H : List AObj} {p : Nat} {o : AObj} (h : getH H p = some o) : Up H p o H := ⟨h, Nat.le_refl _, fun _ _ _ => rfl⟩
theorem Up.trans {H K M : List AObj} {p : Nat} {o o' : AObj} (a : Up H p o K) (b : Up K p o' M) : Up H p o' M :=
  ⟨b.at', Nat.le_trans a.len b.len, fun q hq h => by rw [b.old q hq (by rw [a.old q hq h]; exact h), a.old q hq h]⟩
theorem Up.set {H K : List AObj} {p : Nat} {o o' : AObj} (a : Up H p o K) : Up H p o' (setH K p o') :=
  ⟨getH_set_self (by rw [a.at']; rfl), by simpa using a.len, fun q hq h => by rw [getH_set_ne (Ne.symm hq), a.old q hq h]⟩
theorem Up.gr {H K M : List AObj} {p : Nat} {o : AObj} (a : Up H p o K) (b : Gr K M) : Up H p o M :=
  ⟨by rw [b.old p (by rw [a.at']; rfl)]; exact a.at', Nat.le_trans a.len b.len, fun q hq h => by rw [b.old q (by rw [a.old q hq h]; exact h), a.old q hq h]⟩
theorem Up.add {H K : List AObj} {p : Nat} {o x : AObj} (a : Up H p o K) : Up H p o (addH K x) := a.gr (Gr.refl _).add
theorem Up.new {H K : List AObj} {p i : Nat} {o x : AObj} (a : Up H p o K) (h : lenH H ≤ i) (hp : (getH H p).isSome = true) : Up H p o (setH K i x) :=
  ⟨by rw [getH_set_ne (by have := getH_lt hp; omega)]; exact a.at', by simpa using a.len, fun q hq hs => by
    have := getH_lt hs
    rw [getH_set_ne (by omega), a.old q hq hs]⟩

/-- The end of a function with such results. -/
def aendR (R : List ARes) (Q : AEnd → List AObj → Prop) : CPostA := aend ⟨0, 0, .skip, R⟩ Q
@[simp] theorem aendR_ret (R : List ARes) (Q : AEnd → List AObj → Prop) (τ : Env) (S : AS) : aendR R Q .ret τ S = (S.df = [] ∧ ∃ vs, ress τ S R = some vs ∧ Q (.ret (resV vs)) S.hp) := rfl
@[simp] theorem aendR_normal (R : List ARes) (Q : AEnd → List AObj → Prop) (τ : Env) (S : AS) : aendR R Q .normal τ S = (S.df = [] ∧ ∃ vs, ress τ S R = some vs ∧ Q (.ret (resV vs)) S.hp) := rfl
@[simp] theorem aendR_pan (R : List ARes) (Q : AEnd → List AObj → Prop) (v : AV) (τ : Env) (S : AS) : aendR R Q (.pan v) τ S = (S.df = [] ∧ Q (.pan v) S.hp) := rfl
theorem fn_start {P : Program} {f : Nat} {F : AFn} {args : List AV} {H : List AObj} {Q : AEnd → List AObj → Prop} (hc : chkFn P f F = true) (hn : args.length = F.np)
    (h : go (SCalls P) F.code [] (argEnv 0 args) ⟨[], H, []⟩ (aendR F.res Q)) : SCalls P f args H Q := SCalls.of_fn hc hn h

end Go.Ab

/- Loops: by a measure. -/
namespace Go.Ab

@[simp] theorem getH_add_at {H : List AObj} {o : AObj} {i : Nat} (h : lenH H = i) : getH (addH H o) i = some o := by subst h; exact getH_add_new

/-- What is said of calls may be said of less. -/
class MonoS (C : Spec) : Prop where
  mono : ∀ {f : Nat} {args : List AV} {H : List AObj} {Q Q' : AEnd → List AObj → Prop}, C f args H Q → (∀ r H', Q r H' → Q' r H') → C f args H Q'
instance (P : Program) : MonoS (SCalls P) := ⟨fun h hq => h.mono hq⟩
variable {P : Program} {C : Spec} [MonoS C]
theorem ains_mono {a : AIns} {d : Option Nat} {τ : Env} {S : AS} {K K' KP KP' : AV → AS → Prop} (h : ains C d τ S K KP a)
    (h1 : ∀ v S, K v S → K' v S) (h2 : ∀ v S, KP v S → KP' v S) : ains C d τ S K' KP' a := by
  cases a with
  | op a =>
    simp only [ains] at h ⊢
    split at h
    · exact h1 _ _ h
    · exact h
  | call f args =>
    simp only [ains] at h ⊢
    refine ⟨h.1, MonoS.mono h.2 ?_⟩
    intro r H hr
    cases r with
    | ret v => exact h1 _ _ hr
    | pan v => exact h2 _ _ hr
  | callv x args =>
    simp only [ains] at h ⊢
    split at h
    · refine ⟨h.1, MonoS.mono h.2 ?_⟩
      intro r H hr
      cases r with
      | ret v => exact h1 _ _ hr
      | pan v => exact h2 _ _ hr
    · refine ⟨h.1, MonoS.mono h.2 ?_⟩
      intro r H hr
      cases r with
      | ret v => exact h1 _ _ hr
      | pan v => exact h2 _ _ hr
    · exact h
  | pan x =>
    simp only [ains] at h ⊢
    split at h
    · exact h2 _ _ h
    · exact h
  | dfr x args =>
    simp only [ains] at h ⊢
    split at h
    · exact ⟨h.1, h1 _ _ h.2⟩
    · exact h

theorem aops_mono {R : List AOper} {K K' : Env → AS → Prop} {KP KP' : AV → AS → Prop} (h1 : ∀ τ S, K τ S → K' τ S) (h2 : ∀ v S, KP v S → KP' v S) :
    ∀ (os : List AOper) (τ : Env) (S : AS), aops C R os τ S K KP → aops C R os τ S K' KP'
  | [], τ, S, h => h1 _ _ h
  | o :: os, τ, S, h => by
    simp only [aops] at h ⊢
    split at h
    · exact ains_mono h (fun v S hh => ⟨hh.1, hh.2.1, aops_mono h1 h2 os _ _ hh.2.2⟩) h2
    · exact aops_mono h1 h2 os _ _ h
    · exact h

theorem aiter_mono {B : Env → AS → CPostA → Prop} (hB : ∀ τ S (Q Q' : CPostA), B τ S Q → (∀ e τ S, Q e τ S → Q' e τ S) → B τ S Q') :
    ∀ (n : Nat) (τ : Env) (S : AS) (Q Q' : CPostA), aiter B Q n τ S → (∀ e τ S, Q e τ S → Q' e τ S) → ∀ m, n ≤ m → aiter B Q' m τ S
  | 0, _, _, _, _, h, _, _, _ => h.elim
  | n + 1, τ, S, Q, Q', h, hq, m, hm => by
    obtain ⟨k, rfl⟩ : ∃ k, m = k + 1 := ⟨m - 1, by omega⟩
    refine hB _ _ _ _ h ?_
    intro e τ S he
    cases e with
    | normal => exact aiter_mono hB n τ S Q Q' he hq k (by omega)
    | _ => exact hq _ _ _ he

theorem acode_mono : ∀ (c : ACode) (τ : Env) (S : AS) (Q Q' : CPostA), acode C c τ S Q → (∀ e τ S, Q e τ S → Q' e τ S) → acode C c τ S Q'
  | .skip, τ, S, Q, Q', h, hq => hq _ _ _ h
  | .reg d L, τ, S, Q, Q', h, hq => by
    simp only [acode] at h ⊢
    exact ⟨h.1, aops_mono (fun _ _ => hq _ _ _) (fun _ _ => hq _ _ _) _ _ _ h.2⟩
  | .seq a b, τ, S, Q, Q', h, hq => by
    simp only [acode] at h ⊢
    refine acode_mono a _ _ _ _ h ?_
    intro e τ S he
    cases e with
    | normal => exact acode_mono b _ _ _ _ he hq
    | _ => exact hq _ _ _ he
  | .cond c a b, τ, S, Q, Q', h, hq => by
    simp only [acode] at h ⊢
    split at h
    · split at h <;> rename_i ht
      · rw [if_pos ht]; exact acode_mono a _ _ _ _ h hq
      · rw [if_neg ht]; exact acode_mono b _ _ _ _ h hq
    · exact h
  | .block id c, τ, S, Q, Q', h, hq => by
    simp only [acode] at h ⊢
    refine acode_mono c _ _ _ _ h ?_
    intro e τ S he
    cases e with
    | exit j =>
      simp only [blockA] at he ⊢
      split at he <;> rename_i ht
      · rw [if_pos ht]; exact hq _ _ _ he
      · rw [if_neg ht]; exact hq _ _ _ he
    | _ => exact hq _ _ _ he
  | .loop c, τ, S, Q, Q', h, hq => by
    simp only [acode] at h ⊢
    obtain ⟨n, hn⟩ := h
    exact ⟨n, aiter_mono (fun τ S Q Q' => acode_mono c τ S Q Q') n _ _ _ _ hn hq n (Nat.le_refl _)⟩
  | .exit id, τ, S, Q, Q', h, hq => hq _ _ _ h
  | .ret, τ, S, Q, Q', h, hq => hq _ _ _ h
  | .keep l c, τ, S, Q, Q', h, hq => acode_mono c _ _ _ _ h hq

/-- A function, by steps: what it must come to stays closed. -/
theorem fn_go {f : Nat} {F : AFn} {args : List AV} {H : List AObj} {Q : AEnd → List AObj → Prop} (hc : chkFn P f F = true) (hn : args.length = F.np)
    (h : ∀ Q' : AEnd → List AObj → Prop, (∀ r K, Q r K → Q' r K) → go (SCalls P) F.code [] (argEnv 0 args) ⟨[], H, []⟩ (aendR F.res Q')) : SCalls P f args H Q :=
  fn_start hc hn (h Q fun _ _ h => h)

/-- A loop, by a measure of its invariant. -/
theorem loop_rule {c : ACode} {ks : List KF} {Q : CPostA} (I : Nat → Env → AS → Prop)
    (h : ∀ n τ S, I n τ S → go C c (.inv (fun τ S => ∃ m, m < n ∧ I m τ S) :: ks) τ S Q) {n : Nat} {τ : Env} {S : AS} (h0 : I n τ S) :
    go C (.loop c) ks τ S Q := by
  have key : ∀ n τ S, I n τ S → aiter (acode C c) (kpost C ks Q) (n + 1) τ S := by
    intro n
    induction n using Nat.strongRecOn with
    | _ n ih =>
      intro τ S hi
      refine acode_mono c _ _ _ _ (h n τ S hi) ?_
      intro e τ' S' he
      cases e with
      | normal =>
        obtain ⟨m, hm, hi'⟩ := he
        exact aiter_mono (fun τ S Q Q' => acode_mono c τ S Q Q') (m + 1) _ _ _ _ (ih m hm τ' S' hi') (fun _ _ _ hh => hh) n (by omega)
      | _ => exact he
  exact ⟨n + 1, key n τ S h0⟩

theorem loop_keep {l : List Nat} {c : ACode} {ks : List KF} {Q : CPostA} (I : Nat → Env → AS → Prop)
    (h : ∀ n τ S, I n τ S → go C c (.inv (fun τ S => ∃ m, m < n ∧ I m (keep l τ) (keepS l S)) :: ks) τ S Q) {n : Nat} {τ : Env} {S : AS} (h0 : I n (keep l τ) (keepS l S)) :
    go C (.loop (.keep l c)) ks τ S Q :=
  loop_rule (fun n τ S => I n (keep l τ) (keepS l S)) (fun n τ S hi => by rw [go_keep]; exact h n _ _ hi) h0
end Go.Ab

/- Functions that defer: what is deferred is done behind the body. -/
namespace Go.Ab

/-- How a function is left: it returns, or it panics with a value. -/
def mdrel (g : Gh) : Option AV → FrameMode → Prop
  | none, u => u = .returning
  | some v, u => ∃ e, u = .panicking [e] ∧ e.recovered = false ∧ e.goexit = false ∧ rel g v e.v
/-- What is said of a deferred call. -/
def DCalls (P : Program) (f : Nat) (args : List AV) (m : Option AV) (H : List AObj) (Q : Option AV → List AObj → Prop) : Prop :=
  entB P f = true ∧ ∀ (g : Gh) (w : World) (xs : List Value) (u : FrameMode), WRel g H w.heap → rels g args xs → mdrel g m u →
    CallsD P f xs.toArray u w fun e u' w' => match e with
      | .returned _ => ∃ m' H' g', Q m' H' ∧ WRel g' H' w'.heap ∧ WStep w.heap.size g w g' w' ∧ mdrel g' m' (settle u')
      | _ => False
def aleave (P : Program) : List (Nat × List AV) → Option AV → List AObj → (Option AV → List AObj → Prop) → Prop
  | [], m, H, K => K m H
  | (f, args) :: ds, m, H, K => DCalls P f args m H fun m' H' => aleave P ds m' H' K
def endK (R : List ARes) (τ : Env) (S : AS) (Q : AEnd → List AObj → Prop) : Option AV → List AObj → Prop
  | none, H => ∃ vs, ress τ { S with hp := H, df := [] } R = some vs ∧ Q (.ret (resV vs)) H
  | some v, H => Q (.pan v) H
/-- The end of a function that defers. -/
def aendD (P : Program) (R : List ARes) (Q : AEnd → List AObj → Prop) : CPostA
  | .normal, τ, S => aleave P S.df none S.hp (endK R τ S Q)
  | .ret, τ, S => aleave P S.df none S.hp (endK R τ S Q)
  | .pan v, τ, S => aleave P S.df (some v) S.hp (endK R τ S Q)
  | _, _, _ => False
theorem DCalls.mono {P : Program} {f : Nat} {args : List AV} {m : Option AV} {H : List AObj} {Q Q' : Option AV → List AObj → Prop} (h : DCalls P f args m H Q) (hq : ∀ m' H', Q m' H' → Q' m' H') : DCalls P f args m H Q' :=
  ⟨h.1, fun g w xs u hW hr hm => (h.2 g w xs u hW hr hm).mono fun e u' w' hh => by
    cases e with
    | returned v =>
      obtain ⟨m', H', g', q, r⟩ := hh
      exact ⟨m', H', g', hq _ _ q, r⟩
    | _ => exact hh⟩

section
variable {P : Program} {B N : Nat} {g g' : Gh} {blk : Nat → Option Nat} {τ : Env} {S : AS} {a : Act} {w w' : World}

theorem relT_mono {v : AV} {x : Value} (h : relT g blk v x) (le : Le g g') : relT g' blk v x := by
  unfold relT at h ⊢
  split at h
  · trivial
  · exact h
  · exact h
  · exact rel_le le _ _ h

theorem leaves_sound {fn : Func} {tmps : Array Value} {R : Ending → World → Prop} : ∀ (ds : List (Nat × List AV)) (m : Option AV) (H : List AObj) (K : Option AV → List AObj → Prop) (g : Gh) (w : World) (l : List Deferred) (u : FrameMode),
    aleave P ds m H K → drel g ds l → WRel g H w.heap → mdrel g m u →
    (∀ m' H' g' w' u', K m' H' → WRel g' H' w'.heap → WStep w.heap.size g w g' w' → mdrel g' m' u' → Leaves P fn tmps R [] u' w') → Leaves P fn tmps R l u w
  | [], m, H, K, g, w, l, u, h, hd, hW, hm, hk => by
    simp only [drel] at hd
    subst hd
    exact hk m H g w u h hW (.refl _ _ _) hm
  | (f, args) :: ds, m, H, K, g, w, l, u, h, hd, hW, hm, hk => by
    obtain ⟨d, t, rfl, h23, h4⟩ := hd
    rcases h23 with ⟨caps, h2, h3⟩ | ⟨k, rfl, -⟩
    rotate_left
    · exact absurd (entB_lt h.1) (by simp [yid])
    obtain ⟨tgt, dargs⟩ := d
    simp only at h2 h3
    subst h2
    have hc := h.2 g w _ u hW h3 hm
    rw [Array.toArray_toList] at hc
    have hu : u ≠ .run := by
      cases m with
      | none => simp only [mdrel] at hm; rw [hm]; intro e; cases e
      | some v => obtain ⟨e, rfl, -⟩ := hm; intro e'; cases e'
    refine leaves_cons (args := dargs ++ caps) (f := f) hu ?_ (hc.mono ?_)
    · simp only [invoke]
      exact run_call h.1
    · intro e u' w1 hh
      cases e with
      | returned v =>
        obtain ⟨m', H', g1, q, W1, st1, hm1⟩ := hh
        exact leaves_sound ds m' H' K g1 w1 t (settle u') q (drel_le st1.le h4) W1 hm1 fun m2 H2 g2 w2 u2 k2 W2 st2 hm2 => hk m2 H2 g2 w2 u2 k2 W2 (st1.trans st2.all) hm2
      | panicked ch => exact hh.elim
      | outgrown => exact hh.elim

theorem SCalls.of_fnD {f : Nat} {F : AFn} {args : List AV} {H : List AObj} {Q : AEnd → List AObj → Prop} (hc : chkFn P f F = true) (hn : args.length = F.np)
    (h : acode (SCalls P) F.code (argEnv 0 args) ⟨[], H, []⟩ (aendD P F.res Q)) : SCalls P f args H Q := by
  obtain ⟨fn, c, h1, h2, h3, h4, h5, h6, h7, h8⟩ := chkFn_get hc
  refine ⟨h7, fun g w xs hW hr => calls_of_wp_defers h1 h2 ?_⟩
  rw [h4]
  refine wp_mono (code_sound h8 F.code c h3 _ _ _ g _ _ w h (enter_rel hW hr (by omega))) ?_
  rintro e a' w' ⟨e', τ', S', g', blk', q1, q2, q3, q4⟩
  have fin : ∀ (m : Option AV) (u : FrameMode), aleave P S'.df m S'.hp (endK F.res τ' S' Q) → mdrel g' m u →
      Leaves P fn a'.tmps (fun e w' => ∃ r H' g', Q r H' ∧ WRel g' H' w'.heap ∧ WStep w.heap.size g w g' w' ∧ erel g' r e) a'.defers u w' := by
    intro m u hl hm
    refine leaves_sound S'.df m S'.hp _ g' w' a'.defers u hl q2.D q2.sr.W hm ?_
    intro m2 H2 g2 w2 u2 k2 W2 st2 hm2
    cases m2 with
    | none =>
      simp only [mdrel] at hm2
      subst hm2
      obtain ⟨vs, hv, hq⟩ := k2
      have sr2 := q2.sr.step W2 st2
      have F2 : FRel w.heap.size F.nt g2 blk' τ' { S' with hp := H2, df := [] } { a' with defers := [] } w2 :=
        ⟨⟨sr2.base, sr2.W, sr2.loc, sr2.inj⟩, q2.size, fun t v hl => relT_mono (q2.T t v hl) st2.le, rfl⟩
      obtain ⟨x, hx, hrx⟩ := results_sound h6 F2 hv
      exact ⟨x, hx, _, _, g2, hq, W2, q3.trans st2.all, hrx⟩
    | some v =>
      obtain ⟨e, rfl, e1, e2, e3⟩ := hm2
      exact ⟨_, _, g2, k2, W2, q3.trans st2.all, e1, e2, e3⟩
  cases e' <;> cases e <;> simp only [exrel] at q4 <;> simp only [aendD] at q1
  · exact fin none .returning q1 rfl
  · exact fin none .returning q1 rfl
  · obtain ⟨e, rfl, e1, e2, e3⟩ := q4
    exact fin _ _ q1 ⟨e, rfl, e1, e2, e3⟩

/-- A deferred function that neither recovers nor panics. -/
theorem DCalls.of_fn {f : Nat} {F : AFn} {args : List AV} {H : List AObj} {m : Option AV} {Q : Option AV → List AObj → Prop} (hc : chkFn P f F = true) (hn : args.length = F.np)
    (h : acode (SCalls P) F.code (argEnv 0 args) ⟨[], H, []⟩ (aend F fun r H' => match r with | .ret _ => Q m H' | .pan _ => False)) : DCalls P f args m H Q := by
  obtain ⟨fn, c, h1, h2, h3, h4, h5, h6, h7, h8⟩ := chkFn_get hc
  refine ⟨h7, fun g w xs u hW hr hm => ?_⟩
  refine (callsD_of_wp (R := fun e w' => match e with | .returned _ => ∃ H' g', Q m H' ∧ WRel g' H' w'.heap ∧ WStep w.heap.size g w g' w' | _ => False) h1 h2 ?_).mono ?_
  · rw [h4]
    refine wp_mono (code_sound h8 F.code c h3 _ _ _ g _ _ w h (enter_rel hW hr (by omega))) ?_
    rintro e a' w' ⟨e', τ', S', g', blk', q1, q2, q3, q4⟩
    have fin : ∀ vs, ress τ' S' F.res = some vs → Q m S'.hp → ∃ v, (results fn a'.tmps).run P w' = .ok v w' ∧ ∃ H' g', Q m H' ∧ WRel g' H' w'.heap ∧ WStep w.heap.size g w g' w' := by
      intro vs hv hq
      obtain ⟨x, hx, hrx⟩ := results_sound h6 q2 hv
      exact ⟨x, hx, _, g', hq, q2.sr.W, q3⟩
    have dn : ∀ {l}, S'.df = [] → drel g' S'.df l → l = [] := by
      intro l h1 h2
      rw [h1] at h2
      exact h2
    cases e' <;> cases e <;> simp only [exrel] at q4 <;> simp only [aend] at q1
    · obtain ⟨hd, vs, hv, hq⟩ := q1
      exact ⟨dn hd q2.D, fin vs hv hq⟩
    · obtain ⟨hd, vs, hv, hq⟩ := q1
      exact ⟨dn hd q2.D, fin vs hv hq⟩
    · exact q1.2.elim
  · rintro e u' w' ⟨rfl, hh⟩
    cases e with
    | returned v =>
      obtain ⟨H', g', q, W', st⟩ := hh
      refine ⟨m, H', g', q, W', st, ?_⟩
      cases m with
      | none => simp only [mdrel] at hm ⊢; rw [hm]; rfl
      | some v =>
        obtain ⟨e, rfl, e1, e2, e3⟩ := hm
        refine ⟨e, ?_, e1, e2, rel_le st.le _ _ e3⟩
        obtain ⟨v, rec, ge⟩ := e
        simp only at e1
        subst e1
        rfl
    | panicked ch => exact hh.elim
    | outgrown => exact hh.elim
end
@[simp] theorem aendD_ret (P : Program) (R : List ARes) (Q : AEnd → List AObj → Prop) (τ : Env) (S : AS) : aendD P R Q .ret τ S = aleave P S.df none S.hp (endK R τ S Q) := rfl
@[simp] theorem aendD_normal (P : Program) (R : List ARes) (Q : AEnd → List AObj → Prop) (τ : Env) (S : AS) : aendD P R Q .normal τ S = aleave P S.df none S.hp (endK R τ S Q) := rfl
@[simp] theorem aendD_pan (P : Program) (R : List ARes) (Q : AEnd → List AObj → Prop) (v : AV) (τ : Env) (S : AS) : aendD P R Q (.pan v) τ S = aleave P S.df (some v) S.hp (endK R τ S Q) := rfl
@[simp] theorem aleave_nil (P : Program) (m : Option AV) (H : List AObj) (K : Option AV → List AObj → Prop) : aleave P [] m H K = K m H := rfl
@[simp] theorem aleave_cons (P : Program) (f : Nat) (args : List AV) (ds : List (Nat × List AV)) (m : Option AV) (H : List AObj) (K : Option AV → List AObj → Prop) :
    aleave P ((f, args) :: ds) m H K = DCalls P f args m H fun m' H' => aleave P ds m' H' K := rfl
@[simp] theorem endK_none (R : List ARes) (τ : Env) (S : AS) (Q : AEnd → List AObj → Prop) (H : List AObj) : endK R τ S Q none H = ∃ vs, ress τ { S with hp := H, df := [] } R = some vs ∧ Q (.ret (resV vs)) H := rfl
@[simp] theorem endK_some (R : List ARes) (τ : Env) (S : AS) (Q : AEnd → List AObj → Prop) (H : List AObj) (v : AV) : endK R τ S Q (some v) H = Q (.pan v) H := rfl
theorem fn_goD {P : Program} {f : Nat} {F : AFn} {args : List AV} {H : List AObj} {Q : AEnd → List AObj → Prop} (hc : chkFn P f F = true) (hn : args.length = F.np)
    (h : ∀ Q' : AEnd → List AObj → Prop, (∀ r K, Q r K → Q' r K) → go (SCalls P) F.code [] (argEnv 0 args) ⟨[], H, []⟩ (aendD P F.res Q')) : SCalls P f args H Q :=
  SCalls.of_fnD hc hn (h Q fun _ _ h => h)
theorem fn_goDef {P : Program} {f : Nat} {F : AFn} {args : List AV} {H : List AObj} {m : Option AV} {Q : Option AV → List AObj → Prop} (hc : chkFn P f F = true) (hn : args.length = F.np)
    (h : ∀ Q' : Option AV → List AObj → Prop, (∀ m K, Q m K → Q' m K) → go (SCalls P) F.code [] (argEnv 0 args) ⟨[], H, []⟩ (aendR F.res fun r H' => match r with | .ret _ => Q' m H' | .pan _ => False)) : DCalls P f args m H Q :=
  DCalls.of_fn hc hn (h Q fun _ _ h => h)
end Go.Ab

/- Code in a round of a range over a function. -/
namespace Go.Ab

def Fw (r : Option Nat) : Fence := { Fence.wide with round := r }
section
variable {P : Program} {r : Option Nat} {n : Nat} {a : Act} {w : World} {o : Oper} {ops : Array Oper} {Q : Exit → Act → World → Prop}

theorem callsIn_fw {f : FuncId} {args : Array Value} {R : Ending → World → Prop} : CallsIn (Fw r) n P f args w R ↔ Calls P f args w R := callsIn_wide (n := n)
theorem oper_in {next : Act → World → Prop} (hd : r = none ∨ ∀ c, o.op ≠ .defer c) (h : o.wp P a w next Q) : o.wpIn (Fw r) n P a w next Q := by
  refine ⟨fun _ _ => trivial, ?_⟩
  have e : o.semAt (Fw r).round a.eval = execOp a.eval o := by
    rcases hd with rfl | hd
    · rfl
    · exact Oper.semAt_eq r _ _ hd
  rw [e]
  unfold Oper.wp at h
  generalize (execOp a.eval o).run P w = res at h
  cases res with
  | ok x w' =>
    cases x with
    | value v => exact h
    | skip => exact h
    | defer d => exact h
    | enter f args =>
      rw [Oper.upon_enter] at h
      rw [Oper.uponIn_enter]
      refine ⟨(fun hh => by cases hh), (callsIn_fw.2 h).mono ?_⟩
      intro e w'' he
      cases e <;> exact he
    | row row args =>
      rw [Oper.upon_row] at h
      rw [Oper.uponIn_row]
      refine ⟨(fun hh => by cases hh), fun c cs _ => ?_⟩
      obtain ⟨v, w1, r, s⟩ := h c cs
      exact ⟨v, w1, r, stepsIn_wide.2 s⟩
    | _ => exact h.elim
  | halt x w' => cases x <;> exact h

theorem wpOp_in (hQ : ∀ a w, ¬ Q .outgrown a w) (hd : r = none ∨ ∀ o ∈ ops, ∀ c, o.op ≠ .defer c) {i : Nat} {K K' : Act → World → Prop} (hk : ∀ a w, K a w → K' a w) (h : wpOp P ops Q i K a w) : wpOpIn (Fw r) n P ops Q i K' a w := by
  unfold wpOp at h
  unfold wpOpIn
  cases ho : ops[i]? with
  | none => rw [ho] at h; exact hk _ _ h
  | some o =>
    rw [ho] at h
    simp only at h ⊢
    split at h
    · rename_i hw
      rw [if_pos hw]
      rcases h with h | ⟨-, a', w', h⟩
      · exact Oper.wpIn_mono hk (oper_in (hd.imp id fun hd => hd o (Array.mem_of_getElem? ho)) h)
      · exact (hQ _ _ h).elim
    · rename_i hw
      rw [if_neg hw]
      exact ⟨fun _ _ => trivial, hk _ _ h⟩

theorem wpOps_in (hQ : ∀ a w, ¬ Q .outgrown a w) (hd : r = none ∨ ∀ o ∈ ops, ∀ c, o.op ≠ .defer c) : ∀ (l : List Nat) (a : Act) (w : World), wpOps P ops Q l a w → wpOpsIn (Fw r) n P ops Q l a w
  | [], a, w, h => h
  | i :: l, a, w, h => by
    rw [wpOps_cons] at h
    rw [wpOpsIn_cons]
    exact wpOp_in hQ hd (fun a w => wpOps_in hQ hd l a w) h

theorem wpAny_in {md : Region.Mode} (hQ : ∀ a w, ¬ Q .outgrown a w) (hd : r = none ∨ ∀ o ∈ ops, ∀ c, o.op ≠ .defer c) : ∀ (fuel : Nat) (listed : Array Bool) (a : Act) (w : World), wpAny P md ops Q fuel listed a w → wpAnyIn (Fw r) n P md ops Q fuel listed a w
  | 0, listed, a, w, h => h
  | fuel + 1, listed, a, w, h => ⟨h.1, fun i hi => wpOp_in hQ hd (fun a w => wpAny_in hQ hd fuel _ a w) (h.2 i hi)⟩

/-- Nothing is deferred, and there is no loop. -/
def plainC : Code → Bool
  | .skip => true
  | .region _ ops _ => ops.all fun o => match o.op with | .defer _ => false | _ => true
  | .seq a b | .cond _ a b => plainC a && plainC b
  | .block _ c => plainC c
  | .exit _ | .ret => true
  | _ => false

variable {B N : Nat} {g : Gh} {blk : Nat → Option Nat} {τ : Env} {S : AS}
theorem reg_soundIn {id : Nat} {draw : Bool} {L : List AOper} {Kn : Env → AS → Prop} {KP : AV → AS → Prop} (hm : P.follows .mixedOrders = true) (h : chkReg P N draw L ops = true) (F : FRel B N g blk τ S a w) (hf : (!draw || fok L τ S) = true) (hc : aops (SCalls P) L L τ S Kn KP) (hK : EndK B N g w Kn Q)
    (hP : EndP B N L τ g w KP Q) (hQ : ∀ a w, ¬ Q .outgrown a w) (hd : r = none ∨ ∀ o ∈ ops, ∀ c, o.op ≠ .defer c) : (Code.region id ops draw).wpIn (Fw r) n P Q a w := by
  unfold chkReg at h
  simp only [Bool.and_eq_true] at h
  obtain ⟨h1, h2⟩ := h
  cases draw with
  | false =>
    simp only [Bool.false_eq_true, if_false, beq_iff_eq] at h2
    refine wpIn_region (wpOps_in hQ hd _ _ _ ?_)
    rw [← h2]
    rw [List.all_eq_true] at h1
    exact text_sound h1 hK hP L τ S g blk a w (fun _ h => h) hc F (WStep.refl _ _ _) (fun _ _ => rfl)
  | true =>
    simp only [if_true] at h2
    have C := chk_of h2 h1
    refine wpIn_region_any hm (wpAny_in hQ hd _ _ _ _ ?_)
    have hsz : (Array.replicate ops.size false).size = ops.size := by simp
    have hall : ∀ i, (Array.replicate ops.size false).getD i false = false := by
      intro i
      rw [Array.getD_eq_getD_getElem?, Array.getElem?_replicate]
      split <;> rfl
    have I : Inv P B N L ops τ Kn KP 0 τ S S (Array.replicate ops.size false) g blk a { w with drawn := w.drawn + 1 } := by
      refine ⟨⟨Nat.zero_le _, hsz, fun k hk => absurd hk (Nat.not_lt_zero _), fun k _ _ _ => hall _, fun j c _ hj => ?_⟩, by simpa using hc, F.sr, LExt.refl _, F.size, F.D, fun t v hl _ => F.T t v hl, fun k hk => absurd hk (Nat.not_lt_zero _), fun _ _ => rfl,
        fun k _ hkn hF d hd => ?_⟩
      · rw [hall] at hj; cases hj
      · have hf' : fok L τ S = true := by simpa using hf
        unfold fok at hf'
        rw [List.all_eq_true] at hf'
        have := hf' (getO L k) (by have := mem_drop (p := 0) C.len (Nat.zero_le k) hkn; simpa using this)
        rw [hF, hd] at this
        simp only [Bool.not_true, Bool.false_or, Bool.and_eq_true, Option.isNone_iff_eq_none] at this
        refine ⟨this.1, fun t v hl => ?_, fun hli => by rw [hall] at hli; cases hli⟩
        have h2 := this.2
        rw [List.all_eq_true] at h2
        have := h2 _ (look_mem hl)
        simpa using this
    obtain ⟨p', τ', S2, I2, hw2⟩ := advance C _ 0 τ S rfl I
    refine draw_sound (g0 := g) (w0 := w) C hK hP ops.size _ p' τ' S2 S g blk a _ ?_ I2 hw2 ⟨Step.refl _ _ _, rfl, rfl⟩
    unfold left
    exact Nat.le_trans (List.length_filter_le _ _) (by simp)

theorem CP_grown {Q : CPostA} {a' : Act} {w' : World} : ¬ CP B N g w Q .outgrown a' w' := by
  rintro ⟨e', τ', S', g', blk', h1, h2, h3, h4⟩
  cases e' <;> exact h4

theorem code_soundIn (hm : P.follows .mixedOrders = true) : ∀ (ac : ACode) (c : Code), chkCode P N ac c = true → plainC c = true → ∀ (τ : Env) (S : AS) (Q : CPostA) (g : Gh) (blk : Nat → Option Nat) (a : Act) (w : World),
    acode (SCalls P) ac τ S Q → FRel B N g blk τ S a w → c.wpIn (Fw r) n P (CP B N g w Q) a w := by
  intro ac
  induction ac with
  | keep l ac ih =>
    intro c hc hp τ S Q g blk a w h F
    exact ih c hc hp _ _ Q g blk a w h (F.keep l)
  | skip =>
    intro c hc hp τ S Q g blk a w h F
    cases c <;> simp only [chkCode] at hc <;> (try cases hc)
    exact wpIn_skip ⟨.normal, τ, S, g, blk, h, F, WStep.refl _ _ _, trivial⟩
  | reg d L =>
    intro c hc hp τ S Q g blk a w h F
    cases c <;> simp only [chkCode] at hc <;> (try cases hc)
    simp only [Bool.and_eq_true, beq_iff_eq] at hc
    obtain ⟨rfl, hc⟩ := hc
    refine reg_soundIn hm hc F h.1 h.2 ?_ ?_ (fun _ _ => CP_grown) (.inr fun o ho c hoc => ?_)
    · intro τ' S' g' blk' a' w' hk F' st
      exact ⟨.normal, τ', S', g', blk', hk, F', st, trivial⟩
    · intro v S' e g' blk' a' w' hk F' st er
      exact ⟨.pan v, _, S', g', blk', hk, F', st, e, rfl, er⟩
    · simp only [plainC, Array.all_eq_true_iff_forall_mem] at hp
      have := hp o ho
      rw [hoc] at this
      cases this
  | seq x y ihx ihy =>
    intro c hc hp τ S Q g blk a w h F
    cases c <;> simp only [chkCode] at hc <;> (try cases hc)
    simp only [Bool.and_eq_true, plainC] at hc hp
    refine wpIn_seq (wpIn_mono (ihx _ hc.1 hp.1 τ S _ g blk a w h F) ?_)
    rintro e a' w' ⟨e', τ', S', g', blk', h1, h2, h3, h4⟩
    cases e' <;> cases e <;> simp only [exrel] at h4
    · exact wpIn_mono (ihy _ hc.2 hp.2 τ' S' Q g' blk' a' w' h1 h2) fun _ _ _ hh => hh.from h3
    · exact ⟨_, τ', S', g', blk', h1, h2, h3, h4⟩
    · exact ⟨_, τ', S', g', blk', h1, h2, h3, h4⟩
    · exact ⟨_, τ', S', g', blk', h1, h2, h3, h4⟩
  | cond x y z ihy ihz =>
    intro c hc hp τ S Q g blk a w h F
    cases c <;> simp only [chkCode] at hc <;> (try cases hc)
    simp only [Bool.and_eq_true, plainC] at hc hp
    simp only [acode] at h
    split at h
    · rename_i t hv
      have hcv := cond_rel hc.1.1 F hv
      split at h
      · rename_i ht
        subst ht
        exact wpIn_cond_true hcv (ihy _ hc.1.2 hp.1 τ S Q g blk a w h F)
      · rename_i ht
        have : t = false := by simpa using ht
        subst this
        exact wpIn_cond_false hcv (ihz _ hc.2 hp.2 τ S Q g blk a w h F)
    · exact h.elim
  | block id x ih =>
    intro c hc hp τ S Q g blk a w h F
    cases c <;> simp only [chkCode] at hc <;> (try cases hc)
    simp only [Bool.and_eq_true, beq_iff_eq, plainC] at hc hp
    obtain ⟨rfl, hc⟩ := hc
    refine wpIn_block (wpIn_mono (ih _ hc hp τ S _ g blk a w h F) ?_)
    rintro e a' w' ⟨e', τ', S', g', blk', h1, h2, h3, h4⟩
    cases e' <;> cases e <;> simp only [exrel] at h4
    · exact ⟨.normal, τ', S', g', blk', h1, h2, h3, trivial⟩
    · rename_i i j
      subst h4
      simp only [blockA] at h1
      simp only [Exit.inBlock]
      split
      · rename_i hij
        rw [if_pos hij] at h1
        exact ⟨.normal, τ', S', g', blk', h1, h2, h3, trivial⟩
      · rename_i hij
        rw [if_neg hij] at h1
        exact ⟨.exit i, τ', S', g', blk', h1, h2, h3, rfl⟩
    · exact ⟨.ret, τ', S', g', blk', h1, h2, h3, trivial⟩
    · exact ⟨.pan _, τ', S', g', blk', h1, h2, h3, h4⟩
  | loop x ih =>
    intro c hc hp τ S Q g blk a w h F
    cases c <;> simp only [chkCode] at hc <;> (try cases hc)
    simp only [plainC] at hp
    cases hp
  | exit id =>
    intro c hc hp τ S Q g blk a w h F
    cases c <;> simp only [chkCode] at hc <;> (try cases hc)
    simp only [beq_iff_eq] at hc
    subst hc
    exact wpIn_exit ⟨.exit id, τ, S, g, blk, h, F, WStep.refl _ _ _, rfl⟩
  | ret =>
    intro c hc hp τ S Q g blk a w h F
    cases c <;> simp only [chkCode] at hc <;> (try cases hc)
    exact wpIn_ret ⟨.ret, τ, S, g, blk, h, F, WStep.refl _ _ _, trivial⟩
end
end Go.Ab

/- A deferred function that recovers. -/
namespace Go.Ab
def chkRec (P : Program) (f np nt d0 d1 : Nat) (ac : ACode) : Bool :=
  match P.funcs[f]? with
  | some fn => decide (f < 100000) && fn.name != "runtime.NumGoroutine" && fn.ntmps == nt && decide (np ≤ nt) && fn.results.size == 0 && P.follows .mixedOrders && decide (d0 < nt) && (match fn.body with
    | some (.seq (.region _ ops false) c2) => (match ops.toList with
      | [o0, _] => (match o0.op with
        | .call { callee := .builtin .recover, args := xs, .. } => xs.size == 0
        | _ => false) && o0.dst == some d0 && o0.guard.isNone && chkOper P nt ops ⟨1, some d1, none, .op (.mv (.t d0)), []⟩ && chkCode P nt ac c2
      | _ => false)
    | _ => false)
  | none => false
def aendRec (Q : List AObj → Prop) : CPostA
  | .normal, _, S => S.df = [] ∧ Q S.hp
  | .ret, _, S => S.df = [] ∧ Q S.hp
  | _, _, _ => False
theorem run_recover {P : Program} {ρ : Operand → Value} {o : Oper} {ts : Array TypeId} {w : World} (ho : o.op = .call { callee := .builtin .recover, args := #[], argTypes := ts }) : (execOp ρ o).run P w = .ok .recover w := by
  simp only [execOp, ho, resolve]
  simp [invoke, go_sem]
theorem wpOps1_S {P : Program} {ops : Array Oper} {Q : Exit → Act → List Frame → World → Prop} {i : Nat} {a : Act} {cs : List Frame} {w : World} (hQ : ∀ a w, ¬ Q .outgrown a cs w) (h : wpOps P ops (fun e a w => Q e a cs w) [i] a w) : wpOpsS P ops Q [i] a cs w := by
  rw [wpOps_cons] at h
  unfold wpOp at h
  simp only [wpOpsS]
  cases ho : ops[i]? with
  | none => rw [ho] at h; exact h
  | some o =>
    rw [ho] at h
    simp only at h ⊢
    split at h
    · rename_i hw
      rw [if_pos hw]
      rcases h with h | ⟨-, a', w', h⟩
      · unfold Oper.wp at h
        generalize (execOp a.eval o).run P w = res at h
        split
        · exact h.elim
        · exact h
      · exact (hQ _ _ h).elim
    · rename_i hw
      rw [if_neg hw]
      exact h
theorem wpOpsS_rec {P : Program} {ops : Array Oper} {Q : Exit → Act → List Frame → World → Prop} {i : Nat} {rest : List Nat} {o : Oper} {a : Act} {cs : List Frame} {w : World} (ho : ops[i]? = some o) (hw : Region.wanted o (yielded ops a.tmps) = true) (hr : (execOp a.eval o).run P w = .ok .recover w)
    (h : match recoverD cs with | some (y, cs') => wpOpsS P ops Q rest (a.put o.dst y) cs' w | none => wpOpsS P ops Q rest (a.put o.dst .nilIface) cs w) : wpOpsS P ops Q (i :: rest) a cs w := by
  simp only [wpOpsS, ho, hw, if_true, hr]
  exact h
theorem DCalls.of_rec {P : Program} {f np nt d0 d1 : Nat} {ac : ACode} {args : List AV} {H : List AObj} {m : Option AV} {Q : Option AV → List AObj → Prop} (hc : chkRec P f np nt d0 d1 ac = true) (hn : args.length = np)
    (h : acode (SCalls P) ac (put (put (argEnv 0 args) d0 (m.getD .nili)) d1 (m.getD .nili)) ⟨[], H, []⟩ (aendRec (Q none))) (hp : ∀ v, m = some v → v.proper = true) : DCalls P f args m H Q := by
  unfold chkRec at hc
  split at hc
  rotate_left
  · cases hc
  rename_i fn hf
  simp only [Bool.and_eq_true, beq_iff_eq, decide_eq_true_eq, bne_iff_ne] at hc
  obtain ⟨⟨⟨⟨⟨⟨⟨k1, k2⟩, k3⟩, k4⟩, k5⟩, k6⟩, k7⟩, hc⟩ := hc
  split at hc
  rotate_left
  · cases hc
  rename_i id ops c2 hb
  split at hc
  rotate_left
  · cases hc
  rename_i o0 o1 hops
  simp only [Bool.and_eq_true, beq_iff_eq] at hc
  obtain ⟨⟨⟨⟨e1, e2⟩, e3⟩, e4⟩, e5⟩ := hc
  split at e1
  rotate_left
  · cases e1
  rename_i xs ts ho0
  simp only [beq_iff_eq, Array.size_eq_zero_iff] at e1
  subst e1
  have hops' : ops = #[o0, o1] := by rw [← Array.toArray_toList (xs := ops), hops]
  subst hops'
  have hent : entB P f = true := by unfold entB; rw [hf]; simp [hb, k2, k1]
  refine ⟨hent, fun g w xs u hW hr hm => ?_⟩
  have hg0 : o0.guard = none := by simpa using e3
  obtain ⟨o1', g1, g2, g3, g4, g5⟩ := chkOper_get e4
  simp at g1
  subst g1
  have hE := enter_rel (n := nt) hW hr (by omega)
  refine callsD_of_wpS hf hb ?_
  intro c₀ cs hu
  rw [k3]
  -- what is recovered, and how the function goes on
  obtain ⟨v, u', hK, hrel, hset⟩ : ∃ (v : Value) (u' : FrameMode), (∀ K : Value → List Frame → Prop, K v ({ c₀ with mode := u' } :: cs) → match recoverD (c₀ :: cs) with | some (y, cs') => K y cs' | none => K .nilIface (c₀ :: cs)) ∧ rel g (m.getD .nili) v ∧ settle u' = .returning := by
    cases m with
    | none =>
      simp only [mdrel] at hm
      subst hm
      refine ⟨.nilIface, .returning, fun K hk => ?_, by simp [rel], rfl⟩
      have : recoverD (c₀ :: cs) = none := by simp [recoverD, hu]
      rw [this]
      simp only
      obtain ⟨a1, a2, a3, a4, a5, a6, a7⟩ := c₀
      simp only at hu
      subst hu
      exact hk
    | some x =>
      obtain ⟨e, rfl, h1, h2, h3⟩ := hm
      obtain ⟨ev, er, eg⟩ := e
      simp only at h1 h2 h3
      subst h1 h2
      refine ⟨ev, .panicking [{ v := ev, recovered := true }], fun K hk => ?_, h3, rfl⟩
      have : recoverD (c₀ :: cs) = some (ev, { c₀ with mode := .panicking [{ v := ev, recovered := true }] } :: cs) := by simp [recoverD, hu]
      rw [this]
      exact hk
  have hproper : (m.getD .nili).proper = true := by
    cases m with
    | none => rfl
    | some x => exact hp x rfl
  have hnl : ∀ s q, m.getD .nili ≠ .lref s q := by
    intro s q e
    rw [e] at hproper
    cases hproper
  refine wpS_seq (wpS_region ?_)
  show wpOpsS P #[o0, o1] _ [0, 1] _ _ _
  have hw0 : ∀ ys, Region.wanted o0 ys = true := fun ys => by simp [Region.wanted, hg0]
  refine wpOpsS_rec (o := o0) (by simp) (hw0 _) (run_recover ho0) ?_
  refine hK (fun y cs' => wpOpsS P #[o0, o1] _ [1] (Act.put _ o0.dst y) cs' w) ?_
  rw [e2]
  have F1 : FRel w.heap.size nt g (fun _ => none) (put (argEnv 0 args) d0 (m.getD .nili)) ⟨[], H, []⟩ (({ tmps := xs.toArray ++ Array.replicate (nt - xs.toArray.size) Go.undef, defers := [] } : Act).put (some d0) v) w := by
    refine ⟨hE.sr, by rw [size_put]; exact hE.size, fun t y hl => ?_, rfl⟩
    rw [look_put] at hl
    show relT g _ y ((Array.setIfInBounds _ d0 v).getD t Go.undef)
    rw [getD_put (Nat.lt_of_lt_of_eq k7 hE.size.symm)]
    split at hl
    · rename_i e
      subst e
      cases hl
      rw [if_pos rfl]
      exact relT_of hrel
    · rename_i e
      rw [if_neg (fun e' => e e'.symm)]
      exact hE.T t y hl
  refine wpOps1_S ?_ (text_sound (L := [⟨1, some d1, none, .op (.mv (.t d0)), []⟩]) (P := P) (N := nt) (B := w.heap.size) (τ0 := put (argEnv 0 args) d0 (m.getD .nili)) (Kn := fun τ' S' => τ' = put (put (argEnv 0 args) d0 (m.getD .nili)) d1 (m.getD .nili) ∧ S' = ⟨[], H, []⟩) (KP := fun _ _ => False)
    (fun o ho => by simp at ho; rw [ho]; exact e4) ?_ ?_ [⟨1, some d1, none, .op (.mv (.t d0)), []⟩] _ _ g _ _ w (fun _ h => h) ?_ F1 (WStep.refl _ _ _) (fun _ _ => rfl))
  · rintro a' w' ⟨u, hu⟩
    exact hu
  · rintro τ' S' g' blk' a' w' ⟨rfl, rfl⟩ F' st
    refine wpS_of_wp (wp_mono (code_sound k6 ac c2 e5 _ _ _ g' blk' a' w' h F') ?_)
    rintro e a2 w2 ⟨e', τ2, S2, g2', blk2, q1, F2, st2, q4⟩
    have dn : S2.df = [] → a2.defers = [] := fun hd => by have := F2.D; rw [hd] at this; exact this
    obtain ⟨rx, hres, -⟩ := results_sound (P := P) (fn := fn) (F := ⟨0, 0, .skip, []⟩) (vs := []) (by rw [Array.size_eq_zero_iff.1 k5]; rfl) F2 rfl
    have hfin : Q none S2.hp → ∃ m' H' g'', Q m' H' ∧ WRel g'' H' w2.heap ∧ WStep w.heap.size g w g'' w2 ∧ mdrel g'' m' (settle u') := fun hq => ⟨none, S2.hp, g2', hq, F2.sr.W, st.trans st2, hset⟩
    cases e' <;> cases e <;> simp only [exrel] at q4 <;> simp only [aendRec] at q1
    · exact ⟨dn q1.1, u', rfl, _, hres, hfin q1.2⟩
    · exact ⟨dn q1.1, u', rfl, _, hres, hfin q1.2⟩
  · intro v S' e g' blk' a' w' h0
    exact h0.elim
  · simp only [aops, wantA, ains, astep, Opd.ev, look_put, if_true, Option.getD_some]
    refine ⟨?_, trivial, rfl, trivial⟩
    unfold okD
    split
    · rename_i s q e
      exact absurd e (hnl s q)
    · rfl
end Go.Ab
