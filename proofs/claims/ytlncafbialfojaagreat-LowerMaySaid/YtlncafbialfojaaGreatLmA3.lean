/- The abstract machine, what it tells of the model (part 3). No conditions. -/
import Derived.RangeFuncLeaves
import Derived.Test.YtlncafbialfojaaGreatLmA2
set_option linter.unusedVariables false
set_option linter.unusedSimpArgs false
/- An evaluator: what closed code comes to, found by running it. -/
namespace Go.Ab

mutual
def eqv : AV → AV → Bool
  | .undef, .undef => true
  | .skip, .skip => true
  | .bool a, .bool b => a == b
  | .int k n, .int j m => decide (k = j) && decide (n = m)
  | .str s, .str t => decide (s = t)
  | .nilp, .nilp => true
  | .ptr i o, .ptr j p => i == j && o == p
  | .cp a, .cp b => eqvs a b
  | .lref i o, .lref j p => i == j && o == p
  | .nils, .nils => true
  | .vs t a, .vs u b => decide (t = u) && eqvs a b
  | .hs i e o n, .hs i' e' o' n' => i == i' && e == e' && o == o' && n == n'
  | .nilm, .nilm => true
  | .map i, .map j => i == j
  | .nilf, .nilf => true
  | .nili, .nili => true
  | .iface t v, .iface u w => t == u && eqv v w
  | .agg a, .agg b => eqvs a b
  | .tuple a, .tuple b => eqvs a b
  | _, _ => false
def eqvs : List AV → List AV → Bool
  | [], [] => true
  | a :: r, b :: s => eqv a b && eqvs r s
  | _, _ => false
end
mutual
theorem eqv_eq : ∀ a b : AV, eqv a b = true → a = b
  | .undef, b, h => by cases b <;> simp_all [eqv]
  | .skip, b, h => by cases b <;> simp_all [eqv]
  | .bool _, b, h => by cases b <;> simp_all [eqv]
  | .int _ _, b, h => by cases b <;> simp_all [eqv]
  | .str _, b, h => by cases b <;> simp_all [eqv]
  | .nilp, b, h => by cases b <;> simp_all [eqv]
  | .ptr _ _, b, h => by cases b <;> simp_all [eqv]
  | .cp x, b, h => by
    cases b <;> simp only [eqv] at h <;> first | (cases h; done) | rw [eqvs_eq x _ h]
  | .lref _ _, b, h => by cases b <;> simp_all [eqv]
  | .nils, b, h => by cases b <;> simp_all [eqv]
  | .vs _ x, b, h => by
    cases b <;> simp only [eqv, Bool.and_eq_true, decide_eq_true_eq] at h <;> first | (cases h; done) | rw [eqvs_eq x _ h.2, h.1]
  | .hs _ _ _ _, b, h => by cases b <;> simp_all [eqv]
  | .nilm, b, h => by cases b <;> simp_all [eqv]
  | .map _, b, h => by cases b <;> simp_all [eqv]
  | .nilf, b, h => by cases b <;> simp_all [eqv]
  | .func _ _ _, b, h => by cases b <;> simp_all [eqv]
  | .nili, b, h => by cases b <;> simp_all [eqv]
  | .iface _ x, b, h => by
    cases b <;> simp only [eqv, Bool.and_eq_true, beq_iff_eq] at h <;> first | (cases h; done) | rw [eqv_eq x _ h.2, h.1]
  | .agg x, b, h => by
    cases b <;> simp only [eqv] at h <;> first | (cases h; done) | rw [eqvs_eq x _ h]
  | .tuple x, b, h => by
    cases b <;> simp only [eqv] at h <;> first | (cases h; done) | rw [eqvs_eq x _ h]
theorem eqvs_eq : ∀ a b : List AV, eqvs a b = true → a = b
  | [], b, h => by cases b <;> simp_all [eqvs]
  | x :: r, b, h => by
    cases b with
    | nil => simp [eqvs] at h
    | cons y s =>
      simp only [eqvs, Bool.and_eq_true] at h
      rw [eqv_eq x y h.1, eqvs_eq r s h.2]
end
abbrev EvC := Nat → List AV → List AObj → Option (AEnd × List AObj)
def evIns (C : EvC) (d : Option Nat) (τ : Env) (S : AS) : AIns → Option (Bool × AV × AS)
  | .op a => match astep (Opd.ev τ) d S a with
    | some (v, S') => some (true, v, S')
    | none => none
  | .call f args => if (args.map (Opd.ev τ)).all AV.proper = true then match C f ((args.map (Opd.ev τ)).map AV.erase) S.hp with
    | some (.ret v, H) => some (true, v, { S with hp := H })
    | some (.pan v, H) => some (false, v, { S with hp := H })
    | none => none
    else none
  | _ => none
def rechk1B (τ : Env) (S : AS) (o : AOper) : Bool :=
  match wantA o.g τ with
  | some true => match o.a, o.d with
    | .op a, some d => a.reads && match look τ d, astep (Opd.ev τ) (some d) S a with
      | some v, some (v', _) => eqv v v'
      | _, _ => false
    | _, _ => false
  | some false => true
  | none => false
def recheckB (R : List AOper) (τ : Env) (S : AS) : List Nat → Bool
  | [] => true
  | k :: ks => (match R[k]? with
    | some o => rechk1B τ S o
    | none => false) && recheckB R τ S ks
def evOps (C : EvC) (R : List AOper) : List AOper → Env → AS → Option (Option AV × Env × AS)
  | [], τ, S => some (none, τ, S)
  | o :: os, τ, S => match wantA o.g τ with
    | some true => match evIns C o.d τ S o.a with
      | some (true, v, S') => if okD o os v τ && recheckB R (putD τ o.d v) S' o.re then evOps C R os (putD τ o.d v) S' else none
      | some (false, v, S') => some (some v, τ, S')
      | none => none
    | some false => evOps C R os (putD τ o.d .skip) S
    | none => none
def evLoop (B : Env → AS → Option (AExit × Env × AS)) : Nat → Env → AS → Option (AExit × Env × AS)
  | 0, _, _ => none
  | n + 1, τ, S => match B τ S with
    | some (.normal, τ', S') => evLoop B n τ' S'
    | r => r
def evCode (C : EvC) (n : Nat) : ACode → Env → AS → Option (AExit × Env × AS)
  | .skip, τ, S => some (.normal, τ, S)
  | .reg d L, τ, S => if (!d || fok L τ S) = true then match evOps C L L τ S with
    | some (none, τ', S') => some (.normal, τ', S')
    | some (some v, _, S') => some (.pan v, dropD (dsts L) τ, S')
    | none => none
    else none
  | .seq a b, τ, S => match evCode C n a τ S with
    | some (.normal, τ', S') => evCode C n b τ' S'
    | r => r
  | .cond c a b, τ, S => match c.ev τ with
    | .bool true => evCode C n a τ S
    | .bool false => evCode C n b τ S
    | _ => none
  | .block id c, τ, S => match evCode C n c τ S with
    | some (.exit j, τ', S') => if j = id then some (.normal, τ', S') else some (.exit j, τ', S')
    | r => r
  | .loop c, τ, S => evLoop (evCode C n c) n τ S
  | .exit id, τ, S => some (.exit id, τ, S)
  | .ret, τ, S => some (.ret, τ, S)
  | .keep l c, τ, S => evCode C n c (keep l τ) (keepS l S)
def evEnd (F : AFn) : AExit → Env → AS → Option (AEnd × List AObj)
  | .normal, τ, S => match S.df, ress τ S F.res with
    | [], some vs => some (.ret (resV vs), S.hp)
    | _, _ => none
  | .ret, τ, S => match S.df, ress τ S F.res with
    | [], some vs => some (.ret (resV vs), S.hp)
    | _, _ => none
  | .pan v, _, S => match S.df with
    | [] => some (.pan v, S.hp)
    | _ => none
  | _, _, _ => none
/-- What a function comes to, where so deep and so long. -/
def evF (T : Nat → Option AFn) (n : Nat) : Nat → EvC
  | 0, _, _, _ => none
  | k + 1, f, args, H => match T f with
    | some F => if args.length = F.np then match evCode (evF T n k) n F.code (argEnv 0 args) ⟨[], H, []⟩ with
      | some (e, τ, S) => evEnd F e τ S
      | none => none
      else none
    | none => none
def EvOk (Sp : Spec) (C : EvC) : Prop := ∀ f args H r H' Q, C f args H = some (r, H') → Q r H' → Sp f args H Q
section
variable {Sp : Spec} {C : EvC}
theorem rechk1B_ok {τ : Env} {S : AS} {o : AOper} (h : rechk1B τ S o = true) : rechk1 τ S o := by
  unfold rechk1B at h
  unfold rechk1
  cases hw : wantA o.g τ with
  | none => rw [hw] at h; cases h
  | some b =>
    rw [hw] at h
    cases b with
    | false => trivial
    | true =>
      simp only at h ⊢
      split at h
      · rename_i a d ha hd
        rw [ha, hd]
        simp only
        simp only [Bool.and_eq_true] at h
        obtain ⟨h1, h2⟩ := h
        split at h2
        · rename_i v v' S' hl hs
          have hS := reads_same h1 hs
          subst hS
          have := eqv_eq _ _ h2
          subst this
          exact ⟨v, hl, hs⟩
        · cases h2
      · cases h
theorem recheckB_ok {R : List AOper} {τ : Env} {S : AS} : ∀ {ks : List Nat}, recheckB R τ S ks = true → recheck R τ S ks
  | [], _ => trivial
  | k :: ks, h => by
    simp only [recheckB, Bool.and_eq_true] at h
    refine ⟨?_, recheckB_ok h.2⟩
    have h1 := h.1
    cases hk : R[k]? with
    | none => rw [hk] at h1; cases h1
    | some o => rw [hk] at h1; exact rechk1B_ok h1
theorem evOps_ok (hC : EvOk Sp C) {R : List AOper} {K : Env → AS → Prop} {KP : AV → AS → Prop} : ∀ {os : List AOper} {τ : Env} {S : AS} {r : Option AV} {τ' : Env} {S' : AS}, evOps C R os τ S = some (r, τ', S') →
    (r = none → K τ' S') → (∀ v, r = some v → KP v S') → aops Sp R os τ S K KP
  | [], τ, S, r, τ', S', h, h1, h2 => by
    simp only [evOps, Option.some.injEq, Prod.mk.injEq] at h
    obtain ⟨rfl, rfl, rfl⟩ := h
    exact h1 rfl
  | o :: os, τ, S, r, τ', S', h, h1, h2 => by
    simp only [evOps] at h
    simp only [aops]
    cases hw : wantA o.g τ with
    | none => rw [hw] at h; cases h
    | some b =>
    rw [hw] at h
    cases b with
    | false => exact evOps_ok hC h h1 h2
    | true =>
      simp only at h ⊢
      have fin : ∀ v S1, (if (okD o os v τ && recheckB R (putD τ o.d v) S1 o.re) = true then evOps C R os (putD τ o.d v) S1 else none) = some (r, τ', S') →
          okD o os v τ = true ∧ recheck R (putD τ o.d v) S1 o.re ∧ aops Sp R os (putD τ o.d v) S1 K KP := by
        intro v S1 hh
        split at hh
        · rename_i hk
          rw [Bool.and_eq_true] at hk
          exact ⟨hk.1, recheckB_ok hk.2, evOps_ok hC hh h1 h2⟩
        · cases hh
      cases ha : o.a with
      | op a =>
        rw [ha] at h
        simp only [evIns] at h
        simp only [ains]
        cases hs : astep (Opd.ev τ) o.d S a with
        | none => rw [hs] at h; cases h
        | some p =>
          obtain ⟨v, S1⟩ := p
          rw [hs] at h
          exact fin v S1 h
      | call f args =>
        rw [ha] at h
        simp only [evIns] at h
        simp only [ains]
        by_cases hp : (args.map (Opd.ev τ)).all AV.proper = true
        · rw [if_pos hp] at h
          refine ⟨hp, ?_⟩
          cases hc : C f ((args.map (Opd.ev τ)).map AV.erase) S.hp with
          | none => rw [hc] at h; cases h
          | some q =>
            obtain ⟨q, H1⟩ := q
            rw [hc] at h
            refine hC _ _ _ _ _ _ hc ?_
            cases q with
            | ret v => exact fin v _ h
            | pan v =>
              simp only [Option.some.injEq, Prod.mk.injEq] at h
              obtain ⟨rfl, rfl, rfl⟩ := h
              exact h2 _ rfl
        · rw [if_neg hp] at h; cases h
      | callv x args => rw [ha] at h; simp [evIns] at h
      | pan x => rw [ha] at h; simp [evIns] at h
      | dfr x args => rw [ha] at h; simp [evIns] at h
theorem evLoop_ok {B : Env → AS → CPostA → Prop} {E : Env → AS → Option (AExit × Env × AS)} (hB : ∀ τ S e τ' S' (Q : CPostA), E τ S = some (e, τ', S') → Q e τ' S' → B τ S Q) {Q : CPostA} :
    ∀ {n : Nat} {τ : Env} {S : AS} {e : AExit} {τ' : Env} {S' : AS}, evLoop E n τ S = some (e, τ', S') → Q e τ' S' → aiter B Q n τ S
  | 0, τ, S, e, τ', S', h, _ => by cases h
  | n + 1, τ, S, e, τ', S', h, hq => by
    simp only [evLoop] at h
    simp only [aiter]
    cases he : E τ S with
    | none => rw [he] at h; cases h
    | some p =>
      obtain ⟨e1, τ1, S1⟩ := p
      rw [he] at h
      refine hB _ _ _ _ _ _ he ?_
      cases e1 with
      | normal => exact evLoop_ok hB h hq
      | _ =>
        simp only [Option.some.injEq, Prod.mk.injEq] at h
        obtain ⟨rfl, rfl, rfl⟩ := h
        exact hq
theorem evCode_ok (hC : EvOk Sp C) {n : Nat} : ∀ (c : ACode) {τ : Env} {S : AS} {e : AExit} {τ' : Env} {S' : AS} {Q : CPostA}, evCode C n c τ S = some (e, τ', S') → Q e τ' S' → acode Sp c τ S Q
  | .skip, τ, S, e, τ', S', Q, h, hq => by
    simp only [evCode, Option.some.injEq, Prod.mk.injEq] at h
    obtain ⟨rfl, rfl, rfl⟩ := h
    exact hq
  | .reg d L, τ, S, e, τ', S', Q, h, hq => by
    simp only [evCode] at h
    split at h
    · rename_i hf
      refine ⟨hf, ?_⟩
      split at h
      · rename_i τ1 S1 ho
        simp only [Option.some.injEq, Prod.mk.injEq] at h
        obtain ⟨rfl, rfl, rfl⟩ := h
        exact evOps_ok hC ho (fun _ => hq) (fun v hv => by cases hv)
      · rename_i v τ1 S1 ho
        simp only [Option.some.injEq, Prod.mk.injEq] at h
        obtain ⟨rfl, rfl, rfl⟩ := h
        exact evOps_ok hC ho (fun hv => by cases hv) (fun v hv => by cases hv; exact hq)
      · cases h
    · cases h
  | .seq a b, τ, S, e, τ', S', Q, h, hq => by
    simp only [evCode] at h
    simp only [acode]
    cases ha : evCode C n a τ S with
    | none => rw [ha] at h; cases h
    | some p =>
      obtain ⟨e1, τ1, S1⟩ := p
      rw [ha] at h
      refine evCode_ok hC a ha ?_
      cases e1 with
      | normal => exact evCode_ok hC b h hq
      | _ =>
        simp only [Option.some.injEq, Prod.mk.injEq] at h
        obtain ⟨rfl, rfl, rfl⟩ := h
        exact hq
  | .cond c a b, τ, S, e, τ', S', Q, h, hq => by
    simp only [evCode] at h
    simp only [acode]
    split at h
    · rename_i hc
      rw [hc]
      exact evCode_ok hC a h hq
    · rename_i hc
      rw [hc]
      exact evCode_ok hC b h hq
    · cases h
  | .block id c, τ, S, e, τ', S', Q, h, hq => by
    simp only [evCode] at h
    simp only [acode]
    cases hc : evCode C n c τ S with
    | none => rw [hc] at h; cases h
    | some p =>
      obtain ⟨e1, τ1, S1⟩ := p
      rw [hc] at h
      refine evCode_ok hC c hc ?_
      cases e1 with
      | exit j =>
        simp only at h
        simp only [blockA]
        split at h
        · rename_i hj
          rw [if_pos hj]
          simp only [Option.some.injEq, Prod.mk.injEq] at h
          obtain ⟨rfl, rfl, rfl⟩ := h
          exact hq
        · rename_i hj
          rw [if_neg hj]
          simp only [Option.some.injEq, Prod.mk.injEq] at h
          obtain ⟨rfl, rfl, rfl⟩ := h
          exact hq
      | _ =>
        simp only [Option.some.injEq, Prod.mk.injEq] at h
        obtain ⟨rfl, rfl, rfl⟩ := h
        exact hq
  | .loop c, τ, S, e, τ', S', Q, h, hq => by
    simp only [evCode] at h
    exact ⟨n, evLoop_ok (B := acode Sp c) (fun τ S e τ' S' Q h hq => evCode_ok hC c h hq) h hq⟩
  | .exit id, τ, S, e, τ', S', Q, h, hq => by
    simp only [evCode, Option.some.injEq, Prod.mk.injEq] at h
    obtain ⟨rfl, rfl, rfl⟩ := h
    exact hq
  | .ret, τ, S, e, τ', S', Q, h, hq => by
    simp only [evCode, Option.some.injEq, Prod.mk.injEq] at h
    obtain ⟨rfl, rfl, rfl⟩ := h
    exact hq
  | .keep l c, τ, S, e, τ', S', Q, h, hq => by
    simp only [evCode] at h
    exact evCode_ok hC c h hq
end
theorem evF_ok {P : Program} {T : Nat → Option AFn} {n : Nat} (hT : ∀ f F, T f = some F → chkFn P f F = true) : ∀ k, EvOk (SCalls P) (evF T n k)
  | 0 => fun f args H r H' Q h _ => by cases h
  | k + 1 => fun f args H r H' Q h hq => by
    simp only [evF] at h
    split at h
    · rename_i F hF
      split at h
      · rename_i hn
        split at h
        · rename_i e τ S hc
          refine SCalls.of_fn (hT f F hF) hn (evCode_ok (evF_ok hT k) _ hc ?_)
          cases e with
          | normal =>
            simp only [evEnd] at h
            split at h
            · rename_i vs hd hr
              simp only [Option.some.injEq, Prod.mk.injEq] at h
              obtain ⟨rfl, rfl⟩ := h
              exact ⟨hd, vs, hr, hq⟩
            · cases h
          | ret =>
            simp only [evEnd] at h
            split at h
            · rename_i vs hd hr
              simp only [Option.some.injEq, Prod.mk.injEq] at h
              obtain ⟨rfl, rfl⟩ := h
              exact ⟨hd, vs, hr, hq⟩
            · cases h
          | pan v =>
            simp only [evEnd] at h
            split at h
            · rename_i hd
              simp only [Option.some.injEq, Prod.mk.injEq] at h
              obtain ⟨rfl, rfl⟩ := h
              exact ⟨hd, hq⟩
            · cases h
          | exit j => cases h
        · cases h
      · cases h
    · cases h
end Go.Ab

/- From the abstract machine to the model: a call on an empty heap. -/
namespace Go.Ab
def g0 : Gh := ⟨[], fun _ => none⟩
theorem wrel0 (h : Heap) : WRel g0 [] h where
  len := rfl
  bnd := fun l hl => by cases hl
  obj := fun i o l h1 _ => by cases h1
  sep := fun i j o o' l l' h1 _ _ _ _ _ _ => by cases h1
  imm := fun b L h1 => by cases h1
theorem SCalls.top {P : Program} {f : Nat} {args : List AV} {xs : List Value} {Q : AEnd → List AObj → Prop} (h : SCalls P f args [] Q) (hr : rels g0 args xs) (w : World) :
    Calls P f xs.toArray w fun e w' => ∃ r K g', Q r K ∧ erel g' r e ∧ w'.os = w.os ∧ w'.output = w.output ∧ ∀ i, i < w.heap.size → w'.heap[i]? = w.heap[i]? := by
  refine (h.2 g0 w xs (wrel0 _) hr).mono ?_
  rintro e w' ⟨r, K, g', hq, hW, st, he⟩
  exact ⟨r, K, g', hq, he, st.os, st.out, fun i hi => (st.priv i hi ⟨hi, rfl, fun l hl => by cases hl⟩).2⟩
theorem rel_str {g : Gh} (s : ByteArray) : rel g (.str s.data.toList) (.string s) := by
  simp only [rel]
end Go.Ab

/- An iterator: a function that is handed a loop's round, and calls it. -/
namespace Go.Ab

abbrev YSpec := List AV → List AObj → (AEnd → List AObj → Prop) → Prop
/-- Calls, where the round l may be called. -/
def SCallsY (P : Program) (l : Nat) (Y : YSpec) : Spec := fun f args H Q => if f < 100000 then SCalls P f args H Q else f = yid l ∧ ∃ as, args = .skip :: as ∧ Y as H Q
/-- What a round comes to. -/
def YOk (P : Program) (l : Nat) (rc : Loop) (g0 : Gh) (Y : YSpec) : Prop := ∀ (args : List AV) (H : List AObj) (K : AEnd → List AObj → Prop) (g : Gh) (w : World) (xs : List Value) (n : Nat), Y args H K → WRel g H w.heap → rels g args xs →
  w.heap[l]? = some (.loop rc) → Priv g w.heap l → Le g0 g → xs.length = rc.params.size ∧
    RoundIn Fence.wide n P l rc.fn ((rc.params.zip xs.toArray).foldl (fun tmps (t, a) => tmps.setIfInBounds t a) rc.tmps) rc.assign rc.body w fun e w' => ∃ r H' g', K r H' ∧ WRel g' H' w'.heap ∧ WStep w.heap.size g w g' w' ∧ erel g' r e
section
variable {P : Program} {l n : Nat} {rc : Loop} {gy : Gh} {Y : YSpec} {B N : Nat} {g : Gh} {blk : Nat → Option Nat} {a : Act} {w : World} {S : AS} {τ : Env} {o : Oper} {Q : Exit → Act → World → Prop}
theorem rels_noskip {g : Gh} : ∀ {as : List AV} {xs : List Value}, rels g as xs → .skip ∉ as
  | [], xs, h => by simp
  | v :: r, xs, h => by
    simp only [rels] at h
    obtain ⟨y, ys, rfl, h1, h2⟩ := h
    intro hm
    rcases List.mem_cons.1 hm with e | hm
    · rw [← e] at h1
      simp only [rel] at h1
    · exact rels_noskip h2 hm
theorem erase_noskip {as : List AV} (h : as.all AV.proper = true) : .skip ∉ as.map AV.erase := by
  intro hm
  obtain ⟨v, hv, e⟩ := List.mem_map.1 hm
  rw [List.all_eq_true] at h
  have := h v hv
  cases v <;> simp [AV.erase, AV.proper] at e this
theorem ins_soundY {ai : AIns} {d : Option Nat} {next : Act → World → Prop} {K : AV → AS → Prop} {KP : AV → AS → Prop} (hY : YOk P l rc gy Y) (hl : w.heap[l]? = some (.loop rc)) (hpl : Priv g w.heap l) (hle : Le gy g) (hc : chkIns P ai o = true) (hd : o.dst = d)
    {Sp : AS} (hS : SRel B g blk w.heap Sp) (he : LExt S Sp) (hD : drel g S.df a.defers) (hρ : ∀ (x : Opd) (y : Operand), x ∈ ai.opds → x.ok y = true → relT g blk (x.ev τ) (a.eval y))
    (h : ains (SCallsY P l Y) d τ S K KP ai)
    (hK : ∀ (v : AV) (S' Sp' : AS) (y : Value) (g' : Gh) (blk' : Nat → Option Nat) (w' : World) (a' : Act), K v S' → a'.tmps = a.tmps → drel g' S'.df a'.defers → SRel B g' blk' w'.heap Sp' → LoStep d S S' Sp Sp' → WStep B g w g' w' → relT g' blk' v y → BlkRel d v blk blk' → next (a'.put d y) w')
    (hP : ∀ (v : AV) (S' : AS) (e : PanicEntry) (g' : Gh) (w' : World), KP v S' → SRel B g' blk w'.heap S' → drel g' S'.df a.defers → WStep B g w g' w' → erel g' (.pan v) (.panicked [e]) → Q (.panic [e]) a w') :
    o.wpIn Fence.wide n P a w next Q := by
  have old : ains (SCalls P) d τ S K KP ai → o.wpIn Fence.wide n P a w next Q := fun h => oper_in (r := none) (.inl rfl) (ins_sound hc hd hS he hD hρ h hK hP)
  cases ai with
  | op ao => exact old h
  | pan x => exact old h
  | dfr x args => exact old h
  | call f args =>
    obtain ⟨hp, hcall⟩ := h
    unfold SCallsY at hcall
    split at hcall
    · exact old ⟨hp, hcall⟩
    · obtain ⟨-, as, e, -⟩ := hcall
      exact absurd (e ▸ List.mem_cons_self) (erase_noskip hp)
  | callv x args =>
    have hc0 := hc
    simp only [chkIns] at hc0
    split at hc0
    rotate_left
    · cases hc0
    rename_i y as ts ho
    simp only [Bool.and_eq_true] at hc0
    have hx := hρ x y (by simp [AIns.opds]) hc0.1
    have hh := h
    simp only [ains] at hh
    split at hh
    · rename_i f first caps ex
      obtain ⟨hp, hcall⟩ := hh
      unfold SCallsY at hcall
      split at hcall
      · refine old ?_
        simp only [ains, ex]
        exact ⟨hp, hcall⟩
      · obtain ⟨-, as', e, -⟩ := hcall
        rw [ex] at hx
        obtain ⟨ys, zs, hv, h1, h2⟩ := hx
        have hm : AV.skip ∈ first ++ (args.map (Opd.ev τ)).map AV.erase ++ caps := by rw [e]; exact List.mem_cons_self
        rcases List.mem_append.1 hm with hm | hm
        · rcases List.mem_append.1 hm with hm | hm
          · exact absurd hm (rels_noskip h1)
          · exact absurd hm (erase_noskip hp)
        · exact absurd hm (rels_noskip h2)
    · rename_i l' first caps ex
      obtain ⟨hp, hcall⟩ := hh
      unfold SCallsY at hcall
      rw [if_neg (by simp [yid])] at hcall
      obtain ⟨hl', as', e, hy⟩ := hcall
      have hll : l' = l := by simpa [yid] using hl'
      subst hll
      simp only [List.cons.injEq, true_and] at e
      subst e
      rw [ex] at hx
      obtain ⟨ys, zs, hv, h1, h2⟩ := hx
      have hr := relLs_proper (oks_rel (ρ := Opd.ev τ) (ρ' := a.eval) hc0.2 fun p y hp => hρ p y (List.mem_cons_of_mem _ hp)) hp
      have hW := hS.W
      rw [he.hp] at hW
      obtain ⟨hsz, hround⟩ := hY _ _ _ g w (ys.toArray ++ as.map a.eval).toList (n - 1) hy hW (by
        simp only [Array.toList_append, Array.toList_map]
        exact rels_append h1 hr) hl hpl hle
      refine ⟨fun _ _ => trivial, ?_⟩
      have e0 : (o.semAt Fence.wide.round a.eval) = execOp a.eval o := rfl
      have hrun : (execOp a.eval o).run P w = .ok (.round l' rc.fn ((rc.params.zip (ys.toArray ++ as.map a.eval)).foldl (fun tmps (t, a) => tmps.setIfInBounds t a) rc.tmps) rc.assign rc.body) w := by
        simp only [execOp, ho, resolve, hv, Deferred.ofValue, Sem.run_bind, Sem.run_pure, Result.andThen_ok, invoke]
        rw [run_yield hl (by simpa using hsz)]
      rw [e0, hrun, Oper.uponIn_round]
      refine ⟨(fun hh => by cases hh), ?_⟩
      rw [Array.toArray_toList] at hround
      refine hround.mono ?_
      rintro e w' ⟨r, H', g', q, W', st, er⟩
      have S' := hS.step W' st
      have hlo : LoStep d S { S with hp := H' } Sp { Sp with hp := H' } := .heap he
      cases r with
      | ret v =>
        cases e <;> simp only [erel] at er
        simp only
        rw [hd]
        exact hK v _ _ _ g' blk w' a q rfl (drel_le st.le hD) S' hlo st.all (relT_of er) (.inl rfl)
      | pan v =>
        cases e with
        | returned x => exact er.elim
        | outgrown => exact er.elim
        | panicked ch =>
          match ch, er with
          | [e], er => exact hP v _ e g' w' q (S'.less hlo.ext) (drel_le st.le hD) st.all er
    · exact hh.elim
/-- The loop's record lies where no other speaks of. -/
structure RecAt (l : Nat) (rc : Loop) (gy : Gh) (B : Nat) (g : Gh) (h : Heap) : Prop where
  le : Le gy g
  lt : l < B
  priv : Priv g h l
  at' : h[l]? = some (.loop rc)
theorem RecAt.step {h h' : Heap} {g' : Gh} (r : RecAt l rc gy B g h) (st : Step B g h g' h') : RecAt l rc gy B g' h' :=
  ⟨r.le.trans st.le, r.lt, (st.priv l r.lt r.priv).1, by rw [(st.priv l r.lt r.priv).2]; exact r.at'⟩
theorem text_soundY {ops : Array Oper} {L : List AOper} {Kn : Env → AS → Prop} {KP : AV → AS → Prop} {τ0 : Env} {g0 : Gh} {w0 : World} (hY : YOk P l rc gy Y) (hR : RecAt l rc gy B g0 w0.heap) (hop : ∀ o ∈ L, chkOper P N ops o = true) (hK : EndK B N g0 w0 Kn Q) (hP : EndP B N L τ0 g0 w0 KP Q) : ∀ (os : List AOper) (τ : Env) (S : AS) (g : Gh) (blk : Nat → Option Nat) (a : Act) (w : World), (∀ o ∈ os, o ∈ L) →
    aops (SCallsY P l Y) L os τ S Kn KP → FRel B N g blk τ S a w → WStep B g0 w0 g w → (∀ t, t ∉ dsts L → look τ t = look τ0 t) → wpOpsIn Fence.wide n P ops Q (os.map (·.i)) a w := by
  intro os
  induction os with
  | nil => intro τ S g blk a w _ hc F st _; exact hK τ S g blk a w hc F st
  | cons o os ih =>
    intro τ S g blk a w hmem hc F st hold
    rw [List.map_cons, wpOpsIn_cons]
    obtain ⟨c, hcc, h1, h2, h3, h4⟩ := chkOper_get (hop o (hmem o (by simp)))
    have hd : ∀ k, o.d = some k → k < a.tmps.size := fun k hk => by rw [F.size]; exact h4 k hk
    have hRw := hR.step st.toStep
    have T : TRel (fun _ => False) g blk τ a.tmps := fun t v hl _ => F.T t v hl
    have hU : ∀ t ∈ o.looks, ¬ (fun _ : Nat => False) t := fun t _ h => h
    have fin : ∀ (v : AV) (y : Value) (S' Sp' : AS) (g' : Gh) (blk' : Nat → Option Nat) (a' : Act) (w' : World), aops (SCallsY P l Y) L os (putD τ o.d v) S' Kn KP → SRel B g' blk' w'.heap Sp' → LoStep o.d S S' S Sp' →
        a'.tmps = putT a.tmps o.d y → TRel (fun t => False ∧ o.d ≠ some t) g' blk' (putD τ o.d v) a'.tmps → drel g' S'.df a'.defers → WStep B g w g' w' → wpOpsIn Fence.wide n P ops Q (os.map (·.i)) a' w' := by
      intro v y S' Sp' g' blk' a' w' hc' hS' hlo htm T' hD' st'
      have hsz : a'.tmps.size = N := by
        rw [htm]
        unfold putT
        split
        · simp [F.size]
        · exact F.size
      refine ih _ S' g' blk' a' w' (fun x hx => hmem x (List.mem_cons_of_mem _ hx)) hc' ⟨hS'.less hlo.ext, hsz, fun t v hl => T' t v hl (fun h => h.1), hD'⟩ (st.trans st') (fun t ht => ?_)
      have : look (putD τ o.d v) t = look τ t := by
        unfold putD
        split
        · rename_i d hd
          rw [look_put, if_neg]
          rintro rfl
          exact ht (List.mem_filterMap.2 ⟨o, hmem o (by simp), hd⟩)
        · rfl
      rw [this]
      exact hold t ht
    unfold wpOpIn
    rw [hcc]
    simp only [aops] at hc
    split at hc
    · rename_i hw
      have hwant := want_sound h3 T hU hw
      simp only [hwant, if_true]
      refine ins_soundY hY hRw.at' hRw.priv hRw.le h1 h2 F.sr (LExt.refl _) F.D (fun x y hx hok => opds_ev hx hok T hU) hc ?_ ?_
      · intro v S' Sp' y g' blk' w' a' hk htm hdr hS' hlo st hr hb
        obtain ⟨k1, k2, k3⟩ := hk
        refine fin v y S' Sp' g' blk' _ w' k3 hS' hlo ?_ ?_ (by rw [put_defers]; exact hdr) st
        · rw [put_tmps, htm]
        · exact TRel.put T st.le hb (okD_stale k1) hr hd (by rw [put_tmps, htm])
      · intro v S' e g' w' hk hS' hD' st' er
        refine hP v S' e g' blk a w' hk ⟨hS', F.size, fun t v0 hl' => ?_, hD'⟩ (st.trans st') er
        obtain ⟨h5, h6⟩ := look_dropD hl'
        have := hold t h6
        rw [← this] at h5
        exact relT_step (d := none) (v := .undef) (F.T t v0 h5) st'.le (.inl rfl) (fun s e => by cases e)
    · rename_i hw
      have hwant := want_sound h3 T hU hw
      simp only [hwant, Bool.false_eq_true, if_false]
      refine ⟨fun _ _ => trivial, ?_⟩
      rw [h2]
      refine fin .skip Go.undef S S g blk _ w hc F.sr (.same (LExt.refl _)) ?_ ?_ (by rw [put_defers]; exact F.D) (WStep.refl _ _ _)
      · rw [put_tmps]
      · exact TRel.put T (Le.refl _) (.inl rfl) (fun s _ e => by cases e) rfl hd (by rw [put_tmps])
    · exact hc.elim
/-- No region draws its order. -/
def undrawn : Code → Bool
  | .region _ _ d => !d
  | .seq a b | .cond _ a b => undrawn a && undrawn b
  | .block _ c | .loop c => undrawn c
  | _ => true
theorem code_soundY (hY : YOk P l rc gy Y) : ∀ (ac : ACode) (c : Code), chkCode P N ac c = true → undrawn c = true → ∀ (τ : Env) (S : AS) (Q : CPostA) (g : Gh) (blk : Nat → Option Nat) (a : Act) (w : World),
    acode (SCallsY P l Y) ac τ S Q → FRel B N g blk τ S a w → RecAt l rc gy B g w.heap → c.wpIn Fence.wide n P (CP B N g w Q) a w := by
  intro ac
  induction ac with
  | keep l ac ih =>
    intro c hc hp τ S Q g blk a w h F R
    exact ih c hc hp _ _ Q g blk a w h (F.keep l) R
  | skip =>
    intro c hc hp τ S Q g blk a w h F R
    cases c <;> simp only [chkCode] at hc <;> (try cases hc)
    exact wpIn_skip ⟨.normal, τ, S, g, blk, h, F, WStep.refl _ _ _, trivial⟩
  | reg d L =>
    intro c hc hp τ S Q g blk a w h F R
    cases c <;> simp only [chkCode] at hc <;> (try cases hc)
    simp only [Bool.and_eq_true, beq_iff_eq] at hc
    obtain ⟨rfl, hc⟩ := hc
    simp only [undrawn, Bool.not_eq_true'] at hp
    subst hp
    unfold chkReg at hc
    simp only [Bool.and_eq_true, Bool.false_eq_true, if_false, beq_iff_eq] at hc
    obtain ⟨h1, h2⟩ := hc
    refine wpIn_region ?_
    rw [← h2]
    rw [List.all_eq_true] at h1
    refine text_soundY hY R h1 ?_ ?_ L τ S g blk a w (fun _ h => h) h.2 F (WStep.refl _ _ _) (fun _ _ => rfl)
    · intro τ' S' g' blk' a' w' hk F' st
      exact ⟨.normal, τ', S', g', blk', hk, F', st, trivial⟩
    · intro v S' e g' blk' a' w' hk F' st er
      exact ⟨.pan v, _, S', g', blk', hk, F', st, e, rfl, er⟩
  | seq x y ihx ihy =>
    intro c hc hp τ S Q g blk a w h F R
    cases c <;> simp only [chkCode] at hc <;> (try cases hc)
    simp only [Bool.and_eq_true, undrawn] at hc hp
    refine wpIn_seq (wpIn_mono (ihx _ hc.1 hp.1 τ S _ g blk a w h F R) ?_)
    rintro e a' w' ⟨e', τ', S', g', blk', h1, h2, h3, h4⟩
    cases e' <;> cases e <;> simp only [exrel] at h4
    · exact wpIn_mono (ihy _ hc.2 hp.2 τ' S' Q g' blk' a' w' h1 h2 (R.step h3.toStep)) fun _ _ _ hh => hh.from h3
    · exact ⟨_, τ', S', g', blk', h1, h2, h3, h4⟩
    · exact ⟨_, τ', S', g', blk', h1, h2, h3, h4⟩
    · exact ⟨_, τ', S', g', blk', h1, h2, h3, h4⟩
  | cond x y z ihy ihz =>
    intro c hc hp τ S Q g blk a w h F R
    cases c <;> simp only [chkCode] at hc <;> (try cases hc)
    simp only [Bool.and_eq_true, undrawn] at hc hp
    simp only [acode] at h
    split at h
    · rename_i t hv
      have hcv := cond_rel hc.1.1 F hv
      split at h
      · rename_i ht
        subst ht
        exact wpIn_cond_true hcv (ihy _ hc.1.2 hp.1 τ S Q g blk a w h F R)
      · rename_i ht
        have : t = false := by simpa using ht
        subst this
        exact wpIn_cond_false hcv (ihz _ hc.2 hp.2 τ S Q g blk a w h F R)
    · exact h.elim
  | block id x ih =>
    intro c hc hp τ S Q g blk a w h F R
    cases c <;> simp only [chkCode] at hc <;> (try cases hc)
    simp only [Bool.and_eq_true, beq_iff_eq, undrawn] at hc hp
    obtain ⟨rfl, hc⟩ := hc
    refine wpIn_block (wpIn_mono (ih _ hc hp τ S _ g blk a w h F R) ?_)
    rintro e a' w' ⟨e', τ', S', g', blk', h1, h2, h3, h4⟩
    cases e' <;> cases e <;> simp only [exrel] at h4
    · exact ⟨.normal, τ', S', g', blk', h1, h2, h3, trivial⟩
    · rename_i i j
      subst h4
      simp only [blockA] at h1
      simp only [Exit.inBlock]
      split
      · rename_i hij
        rw [if_pos hij] at h1
        exact ⟨.normal, τ', S', g', blk', h1, h2, h3, trivial⟩
      · rename_i hij
        rw [if_neg hij] at h1
        exact ⟨.exit i, τ', S', g', blk', h1, h2, h3, rfl⟩
    · exact ⟨.ret, τ', S', g', blk', h1, h2, h3, trivial⟩
    · exact ⟨.pan _, τ', S', g', blk', h1, h2, h3, h4⟩
  | loop x ih =>
    intro c hc hp τ S Q g blk a w h F R
    cases c <;> simp only [chkCode] at hc <;> (try cases hc)
    rename_i body
    simp only [undrawn] at hp
    obtain ⟨n', h⟩ := h
    refine wpIn_loop_rounds n' ?_
    have key : ∀ (n' : Nat) (τ : Env) (S : AS) (g1 : Gh) (blk : Nat → Option Nat) (a1 : Act) (w1 : World), aiter (acode (SCallsY P l Y) x) Q n' τ S → FRel B N g1 blk τ S a1 w1 → WStep B g w g1 w1 →
        Code.roundsIn Fence.wide n P body (CP B N g w Q) n' a1 w1 := by
      intro n'
      induction n' with
      | zero => intro τ S g1 blk a1 w1 h _ _; exact h.elim
      | succ n' ihn =>
        intro τ S g1 blk a1 w1 h F st
        rw [roundsIn_succ]
        refine wpIn_mono (ih _ hc hp τ S _ g1 blk a1 w1 h F (R.step st.toStep)) ?_
        rintro e a' w' ⟨e', τ', S', g', blk', h1, h2, h3, h4⟩
        cases e' <;> cases e <;> simp only [exrel] at h4
        · exact ihn τ' S' g' blk' a' w' h1 h2 (st.trans h3)
        · exact ⟨_, τ', S', g', blk', h1, h2, st.trans h3, h4⟩
        · exact ⟨_, τ', S', g', blk', h1, h2, st.trans h3, h4⟩
        · exact ⟨_, τ', S', g', blk', h1, h2, st.trans h3, h4⟩
    exact key n' τ S g blk a w h F (WStep.refl _ _ _)
  | exit id =>
    intro c hc hp τ S Q g blk a w h F R
    cases c <;> simp only [chkCode] at hc <;> (try cases hc)
    simp only [beq_iff_eq] at hc
    subst hc
    exact wpIn_exit ⟨.exit id, τ, S, g, blk, h, F, WStep.refl _ _ _, rfl⟩
  | ret =>
    intro c hc hp τ S Q g blk a w h F R
    cases c <;> simp only [chkCode] at hc <;> (try cases hc)
    exact wpIn_ret ⟨.ret, τ, S, g, blk, h, F, WStep.refl _ _ _, trivial⟩

def undrawnF (P : Program) (f : Nat) : Bool := match P.funcs[f]? with
  | some fn => match fn.body with
    | some c => undrawn c
    | none => false
  | none => false
/-- What an iterator comes to, by its abstract code. -/
theorem iter_sound {f : Nat} {F : AFn} {args : List AV} {H : List AObj} {Q : AEnd → List AObj → Prop} (hc : chkFn P f F = true) (hu : undrawnF P f = true) (hn : args.length = F.np) (hY : YOk P l rc gy Y)
    (h : acode (SCallsY P l Y) F.code (argEnv 0 args) ⟨[], H, []⟩ (aend F Q)) {g : Gh} {w : World} {xs : List Value} (hW : WRel g H w.heap) (hr : rels g args xs) (hl : w.heap[l]? = some (.loop rc)) (hp : Priv g w.heap l) (hle : Le gy g) :
    CallsIn Fence.wide n P f xs.toArray w fun e w' => ∃ r H' g', Q r H' ∧ WRel g' H' w'.heap ∧ WStep w.heap.size g w g' w' ∧ erel g' r e := by
  obtain ⟨fn, c, h1, h2, h3, h4, h5, h6, h7, h8⟩ := chkFn_get hc
  have hud : undrawn c = true := by
    unfold undrawnF at hu
    rw [h1] at hu
    simp only [h2] at hu
    exact hu
  refine callsIn_of_wp h1 h2 trivial ?_ rfl
  rw [h4]
  refine wpIn_mono (code_soundY hY F.code c h3 hud _ _ _ g _ _ w h (enter_rel hW hr (by omega)) ⟨hle, hp.lt, hp, hl⟩) ?_
  rintro e a' w' ⟨e', τ', S', g', blk', q1, q2, q3, q4⟩
  have fin : ∀ vs, ress τ' S' F.res = some vs → Q (.ret (resV vs)) S'.hp → ∃ v, (results fn a'.tmps).run P w' = .ok v w' ∧ ∃ r H' g', Q r H' ∧ WRel g' H' w'.heap ∧ WStep w.heap.size g w g' w' ∧ erel g' r (.returned v) := by
    intro vs hv hq
    obtain ⟨x, hx, hrx⟩ := results_sound h6 q2 hv
    exact ⟨x, hx, _, _, g', hq, q2.sr.W, q3, hrx⟩
  have dn : ∀ {l}, S'.df = [] → drel g' S'.df l → l = [] := by
    intro l h1 h2
    rw [h1] at h2
    exact h2
  cases e' <;> cases e <;> simp only [exrel] at q4 <;> simp only [aend] at q1
  · obtain ⟨hd, vs, hv, hq⟩ := q1
    exact ⟨dn hd q2.D, fin vs hv hq⟩
  · obtain ⟨hd, vs, hv, hq⟩ := q1
    exact ⟨dn hd q2.D, fin vs hv hq⟩
  · obtain ⟨hd, hq⟩ := q1
    obtain ⟨e, rfl, er⟩ := q4
    exact ⟨dn hd q2.D, _, _, g', hq, q2.sr.W, q3, er⟩
end
end Go.Ab

/- A range over a function: its rounds, and the statement. -/
namespace Go.Ab
def bindT : List Nat → List AV → Env → Env
  | p :: ps, v :: vs, τ => bindT ps vs (put τ p v)
  | _, _, τ => τ
def noL (τ : Env) : Bool := τ.all fun p => match p.2 with | .lref .. => false | _ => true
def bodyK (P : Program) (A2 : ACode) (K : AEnd → List AObj → Prop) : CPostA
  | .normal, τ, S => S.df = [] ∧ acode (SCalls P) A2 τ S fun e _ S' => match e with
    | .normal => S'.df = [] ∧ K (.ret (.bool true)) S'.hp
    | _ => False
  | _, _, _ => False
/-- What a round comes to, by the abstract code of its assignment and its body. -/
def bodyY (P : Program) (ps : List Nat) (A1 A2 : ACode) (τ : Env) : YSpec := fun args H K =>
  args.length = ps.length ∧ args.all AV.proper = true ∧ acode (SCalls P) A1 (bindT ps args τ) ⟨[], H, []⟩ (bodyK P A2 K)
section
variable {P : Program} {l n : Nat} {rc : Loop} {gy : Gh} {B N : Nat} {g : Gh} {blk : Nat → Option Nat} {a : Act} {w : World} {S : AS} {τ : Env} {Q : Exit → Act → World → Prop}
theorem put_priv {h : Heap} {H : List AObj} {o : Obj} (W : WRel g H h) (p : Priv g h l) : WRel g H (h.setIfInBounds l o) := by
  refine W.heap (by simp) fun b m => ?_
  have : l ≠ b := by
    rintro rfl
    rcases m with m | ⟨i, x, q, _, _, h3, h4⟩
    · exact m p.imm
    · exact p.obj q (List.mem_of_getElem? h3) h4
  simp [Array.getElem?_setIfInBounds_ne this]
theorem Priv.put {h : Heap} {o : Obj} {b : Nat} (p : Priv g h b) : Priv g (h.setIfInBounds l o) b := ⟨by simpa using p.lt, p.imm, p.obj⟩
theorem FRel.putPriv {o : Obj} (F : FRel B N g blk τ S a w) (p : Priv g w.heap l) (hl : l < B) : FRel B N g blk τ S a (w.putObj l o) := by
  refine ⟨⟨by simpa [World.putObj] using F.sr.base, put_priv F.sr.W p, fun s cs e => ?_, F.sr.inj⟩, F.size, F.T, F.D⟩
  obtain ⟨h0, b, c, T, h1, h2, h3, h4, h5⟩ := F.sr.loc s cs e
  exact ⟨h0, b, c, T, h1, h2.put, by simp only [World.putObj]; rw [Array.getElem?_setIfInBounds_ne (by omega)]; exact h3, h4, h5⟩
theorem noL_get (h : noL τ = true) {t : Nat} {v : AV} (hl : look τ t = some v) (s o : Nat) : v ≠ .lref s o := by
  rintro rfl
  unfold noL at h
  rw [List.all_eq_true] at h
  exact absurd (h _ (look_mem hl)) (by simp)
theorem relT_noL {g' : Gh} {blk' : Nat → Option Nat} {v : AV} {x : Value} (h : relT g blk v x) (hv : ∀ s o, v ≠ .lref s o) (le : Le g g') : relT g' blk' v x := by
  have h := relT_mono h le
  cases v <;> first | exact h | exact absurd rfl (hv _ _)
theorem bindT_rel : ∀ (ps : List Nat) (args : List AV) (xs : List Value) (τ : Env) (tm : Array Value), args.length = ps.length → rels g args xs → (∀ p ∈ ps, p < tm.size) → (∀ t v, look τ t = some v → relT g blk v (tm.getD t Go.undef)) →
    ((ps.zip xs).foldl (fun tmps (t, a) => tmps.setIfInBounds t a) tm).size = tm.size ∧ ∀ t v, look (bindT ps args τ) t = some v → relT g blk v (((ps.zip xs).foldl (fun tmps (t, a) => tmps.setIfInBounds t a) tm).getD t Go.undef)
  | [], args, xs, τ, tm, hl, hr, hp, hT => by
    cases args with
    | nil => simpa [bindT] using hT
    | cons v vs => simp at hl
  | p :: ps, [], xs, τ, tm, hl, hr, hp, hT => by simp at hl
  | p :: ps, v :: vs, xs, τ, tm, hl, hr, hp, hT => by
    simp only [rels] at hr
    obtain ⟨y, ys, rfl, h1, h2⟩ := hr
    simp only [bindT, List.zip_cons_cons, List.foldl_cons]
    have hlt := hp p (by simp)
    obtain ⟨q1, q2⟩ := bindT_rel ps vs ys (Ab.put τ p v) (tm.setIfInBounds p y) (by simpa using hl) h2 (fun q hq => by simpa using hp q (by simp [hq])) (fun t u hlk => by
      rw [look_put] at hlk
      rw [getD_put hlt]
      split at hlk
      · rename_i e
        subst e
        cases hlk
        rw [if_pos rfl]
        exact relT_of h1
      · rename_i e
        rw [if_neg (fun e' => e e'.symm)]
        exact hT t u hlk)
    exact ⟨by rw [q1]; simp, q2⟩
theorem foldl_zip {tm : Array Value} {ps : Array Nat} {xs : List Value} : (ps.zip xs.toArray).foldl (fun tmps (t, a) => tmps.setIfInBounds t a) tm = (ps.toList.zip xs).foldl (fun tmps (t, a) => tmps.setIfInBounds t a) tm := by
  rw [← Array.foldl_toList]
  simp
theorem round_ok {A1 A2 : ACode} (hm : P.follows .mixedOrders = true) (hst : rc.state = .ready) (hpe : rc.pending = none) (hsz : rc.tmps.size = N) (hps : ∀ p ∈ rc.params.toList, p < N)
    (hc1 : chkCode P N A1 rc.assign = true) (hp1 : plainC rc.assign = true) (hc2 : chkCode P N A2 rc.body = true) (hp2 : plainC rc.body = true) (hnl : noL τ = true) (hT : ∀ t v, look τ t = some v → relT gy blk v (rc.tmps.getD t Go.undef)) :
    YOk P l rc gy (bodyY P rc.params.toList A1 A2 τ) := by
  rintro args H K g w xs n ⟨hlen, -, hy⟩ hW hr hl hp hle
  have hxl := rels_length hr
  refine ⟨by rw [hxl, hlen]; simp, ?_⟩
  rw [foldl_zip]
  obtain ⟨q1, q2⟩ := bindT_rel (g := g) (blk := fun _ => none) rc.params.toList args xs τ rc.tmps hlen hr (fun p hp => by rw [hsz]; exact hps p hp) (fun t v hlk => relT_noL (hT t v hlk) (noL_get hnl hlk) hle)
  have F0 : FRel w.heap.size N g (fun _ => none) (bindT rc.params.toList args τ) ⟨[], H, []⟩ { tmps := (rc.params.toList.zip xs).foldl (fun tmps (t, a) => tmps.setIfInBounds t a) rc.tmps, defers := [] } w :=
    ⟨⟨Nat.le_refl _, hW, fun s cs e => by simp [look] at e, fun s s' b h => by simp [look] at h⟩, by rw [q1, hsz], q2, rfl⟩
  refine roundIn_of_wpIn trivial ?_
  refine wpIn_mono (code_soundIn (r := some l) hm A1 rc.assign hc1 hp1 _ _ _ g (fun _ => none) _ w hy F0) ?_
  rintro e a1 w1 ⟨e', τ1, S1, g1, blk1, k1, F1, st1, er⟩
  cases e' <;> cases e <;> simp only [exrel] at er <;> simp only [bodyK] at k1
  obtain ⟨hd1, k1⟩ := k1
  obtain ⟨p1, at1⟩ := st1.priv l hp.lt hp
  rw [hl] at at1
  refine ⟨_, run_beginRound at1 hst, ?_⟩
  have F2 := F1.putPriv (o := .loop { rc with state := .busy }) p1 hp.lt
  refine wpIn_mono (code_soundIn (r := some l) hm A2 rc.body hc2 hp2 _ _ _ g1 blk1 a1 _ k1 F2) ?_
  rintro e a3 w3 ⟨e', τ3, S3, g3, blk3, k3, F3, st3, er⟩
  have p2 : Priv g1 (w1.putObj l (.loop { rc with state := .busy })).heap l := p1.put
  have at2 : (w1.putObj l (.loop { rc with state := .busy })).heap[l]? = some (.loop { rc with state := .busy }) := World.putObj_heap_same p1.lt
  obtain ⟨p3, at3⟩ := st3.priv l hp.lt p2
  rw [at2] at at3
  cases e' <;> cases e <;> simp only [exrel] at er <;> (try exact k3.elim)
  obtain ⟨hd3, k3⟩ := k3
  refine ⟨_, _, run_endRound none at3, .ret (.bool true), S3.hp, g3, k3, put_priv F3.sr.W p3, ⟨⟨st1.le.trans st3.le, ?_, fun b hb hpb => ?_⟩, st3.os.trans st1.os, st3.out.trans st1.out⟩, ?_⟩
  · have := st1.size
    have := st3.size
    simp only [World.putObj_size] at *
    omega
  · obtain ⟨pb1, ab1⟩ := st1.priv b hb hpb
    have pb2 : Priv g1 (w1.putObj l (.loop { rc with state := .busy })).heap b := pb1.put
    obtain ⟨pb3, ab3⟩ := st3.priv b hb pb2
    refine ⟨pb3.put, ?_⟩
    by_cases e : b = l
    · subst e
      rw [World.putObj_heap_same p3.lt, hl]
      obtain ⟨s, pe, fn, tm, pa, as, bo, de⟩ := rc
      simp only at hst hpe
      subst hst hpe
      rfl
    · rw [World.putObj_heap_other e, ab3, World.putObj_heap_other e, ab1]
  · simp only [erel, rel]
    rfl
/-- The statement. -/
theorem rf_sound {gop : Operand} {gx : Opd} {ps : Array Tmp} {A1 A2 : ACode} {assign body : Code} {f : Nat} {caps : List AV} {F : AFn} {R : List AObj → Prop} (hm : P.follows .mixedOrders = true) (hx : gx.ok gop = true) (hev : gx.ev τ = .func (.func f) [] caps)
    (hps : ∀ p ∈ ps.toList, p < N) (hc1 : chkCode P N A1 assign = true) (hp1 : plainC assign = true) (hc2 : chkCode P N A2 body = true) (hp2 : plainC body = true) (hnl : noL τ = true)
    (hcF : chkFn P f F = true) (hu : undrawnF P f = true) (hn : caps.length + 1 = F.np)
    (hit : ∀ l, acode (SCallsY P l (bodyY P ps.toList A1 A2 τ)) F.code (argEnv 0 (.func (.yield l) [] [] :: caps)) ⟨[], S.hp, []⟩ (aend F fun r H' => (∃ v, r = .ret v) ∧ R H'))
    (FR : FRel B N g blk τ S a w)
    (hQ : ∀ (k : Nat) (g' : Gh) (w' : World) (H' : List AObj), R H' → WRel g' H' w'.heap → WStep w.heap.size g w g' w' → Priv g' w'.heap k → w'.heap[k]? = some (.deferred (some [])) → w.heap.size ≤ k → Q .normal { a with defers := { target := .collected k, args := #[] } :: a.defers } w') :
    (Code.rangeFunc gop ps assign body).wp P Q a w := by
  rw [← wpIn_wide (n := 0)]
  refine wpIn_rangeFunc ?_
  intro fn _
  have hgv : rel g (.func (.func f) [] caps) (a.eval gop) := by
    have h := opds_ev (o := ⟨0, none, none, .op (.mv gx), []⟩) (x := gx) (y := gop) (a := a) (U := fun _ => False) (by simp [AIns.opds, AOp.opds]) hx (fun t v hl _ => FR.T t v hl) (fun _ _ h => h)
    rw [hev] at h
    exact h
  obtain ⟨ys, zs, hv, h1, h2⟩ := hgv
  simp only [rels] at h1
  subst h1
  obtain ⟨fn', c', hf1, -, -, -, -, -, hent, -⟩ := chkFn_get hcF
  obtain ⟨rc, hrc⟩ : ∃ rc : Loop, rc = { state := .ready, pending := none, fn, tmps := a.tmps, params := ps, assign, body, defers := w.heap.size } := ⟨_, rfl⟩
  have hW := FR.sr.W
  have hW1 := hW.push (.deferred (some []))
  have pr1 := hW.fresh (.deferred (some []))
  have hW2 := hW1.push (.loop rc)
  have pr2 := hW1.fresh (.loop rc)
  have hs1 : (w.heap.push (.deferred (some []))).size = w.heap.size + 1 := by simp
  rw [hs1] at pr2
  obtain ⟨W1, hW1d⟩ : ∃ W1, (w.alloc (.deferred (some []))).alloc (.loop rc) = W1 := ⟨_, rfl⟩
  have hW1h : W1.heap = (w.heap.push (.deferred (some []))).push (.loop rc) := by rw [← hW1d]; rfl
  have hl1 : W1.heap[w.heap.size + 1]? = some (.loop rc) := by rw [hW1h, ← hs1]; exact Array.getElem?_push_size
  have hd1 : W1.heap[w.heap.size]? = some (.deferred (some [])) := by
    rw [hW1h, push_old (by simp)]; exact Array.getElem?_push_size
  have pd1 : Priv g W1.heap w.heap.size := by rw [hW1h]; exact ⟨by simp; omega, pr1.imm, pr1.obj⟩
  have pl1 : Priv g W1.heap (w.heap.size + 1) := by rw [hW1h]; exact pr2
  refine ⟨w.heap.size + 1, [{ target := .collected w.heap.size, args := #[] }], W1, { target := .fn (.func f) zs.toArray, args := #[.func (.yield (w.heap.size + 1)) #[] #[]] }, W1, f,
    #[.func (.yield (w.heap.size + 1)) #[] #[]] ++ zs.toArray, W1, ?_, ?_, fun _ _ => trivial, ?_, (fun hh => by cases hh), ?_⟩
  · rw [← hW1d, hrc]; exact run_enterLoop_outer _ _ _ _ _
  · simp only [resolve, hv]
    simp [go_sem]
  · simp only [invoke]
    exact run_call hent
  · have hY : YOk P (w.heap.size + 1) rc g (bodyY P rc.params.toList A1 A2 τ) := round_ok (N := N) hm (by rw [hrc]) (by rw [hrc]) (by rw [hrc]; exact FR.size) (by rw [hrc]; exact hps) (by rw [hrc]; exact hc1) (by rw [hrc]; exact hp1) (by rw [hrc]; exact hc2) (by rw [hrc]; exact hp2) hnl (by rw [hrc]; exact FR.T)
    have hpa : rc.params = ps := by rw [hrc]
    rw [hpa] at hY
    have hci := iter_sound (n := 0 - 1) hcF hu (args := .func (.yield (w.heap.size + 1)) [] [] :: caps) (by simpa using hn) hY (hit _) (w := W1) (g := g) (xs := .func (.yield (w.heap.size + 1)) #[] #[] :: zs) (by rw [hW1h]; exact hW2)
      (by simp only [rels]; exact ⟨_, _, rfl, by simp only [rel]; exact ⟨[], [], rfl, rfl, rfl⟩, h2⟩) hl1 pl1 (Le.refl _)
    have e1 : #[Value.func (.yield (w.heap.size + 1)) #[] #[]] ++ zs.toArray = (Value.func (.yield (w.heap.size + 1)) #[] #[] :: zs).toArray := by simp
    rw [e1]
    refine hci.mono ?_
    rintro e w3 ⟨r, H', g', ⟨⟨v, rfl⟩, hR⟩, W3, st, er⟩
    cases e <;> simp only [erel] at er
    obtain ⟨pl3, al3⟩ := st.priv _ pl1.lt pl1
    obtain ⟨pd3, ad3⟩ := st.priv _ pd1.lt pd1
    rw [hl1] at al3
    rw [hd1] at ad3
    refine ⟨none, _, by have := run_endLoop (P := P) al3 (by rw [hrc]; simp); rw [this, hrc], ?_⟩
    refine hQ w.heap.size g' _ H' hR (put_priv W3 pl3) ⟨⟨st.le, ?_, fun b hb hpb => ?_⟩, st.os.trans (by rw [← hW1d]; rfl), st.out.trans (by rw [← hW1d]; rfl)⟩ pd3.put ?_ (Nat.le_refl _)
    · have h5 := st.size
      rw [hW1h] at h5
      simp at h5
      simp only [World.putObj_size]
      omega
    · have hb1 : Priv g W1.heap b := by rw [hW1h]; exact ⟨by simp; omega, hpb.imm, hpb.obj⟩
      have hb2 : W1.heap[b]? = w.heap[b]? := by rw [hW1h, push_old (by simp; omega), push_old hb]
      obtain ⟨pb3, ab3⟩ := st.priv b hb1.lt hb1
      exact ⟨pb3.put, by rw [World.putObj_heap_other (by omega), ab3, hb2]⟩
    · rw [World.putObj_heap_other (by omega), ad3]
end
end Go.Ab

/- Functions that hold a range over a function. -/
namespace Go.Ab
inductive XCode where
  | a (c : ACode)
  | seq (x y : XCode)
  | cond (c : Opd) (x y : XCode)
  | block (id : Nat) (x : XCode)
  | loop (x : XCode)
  | keep (l : List Nat) (x : XCode)
  | rf (g : Opd) (ps : List Nat) (A1 A2 : ACode) (f : Nat) (F : AFn)
def xpiece (d : List (Nat × List AV)) (Q : CPostA) : CPostA := fun e τ S => S.lo = [] ∧ S.df = d ∧ Q e τ S
def xcode (P : Program) : XCode → Env → AS → CPostA → Prop
  | .a c, τ, S, Q => acode (SCalls P) c τ S (xpiece S.df Q)
  | .seq x y, τ, S, Q => xcode P x τ S (thenA (fun τ' S' => xcode P y τ' S' Q) Q)
  | .cond c x y, τ, S, Q => match c.ev τ with
    | .bool t => if t = true then xcode P x τ S Q else xcode P y τ S Q
    | _ => False
  | .block id x, τ, S, Q => xcode P x τ S (blockA id Q)
  | .loop x, τ, S, Q => ALoop (xcode P x) τ S Q
  | .keep l x, τ, S, Q => xcode P x (keep l τ) S Q
  | .rf g ps A1 A2 f F, τ, S, Q => ∃ (caps : List AV) (R : List AObj → Prop), g.ev τ = .func (.func f) [] caps ∧ noL τ = true ∧ caps.length + 1 = F.np ∧
      (∀ l, acode (SCallsY P l (bodyY P ps A1 A2 τ)) F.code (argEnv 0 (.func (.yield l) [] [] :: caps)) ⟨[], S.hp, []⟩ (aend F fun r H' => (∃ v, r = .ret v) ∧ R H')) ∧
      ∀ k H', R H' → Q .normal τ { S with hp := H', df := (yid k, [.skip]) :: S.df }
def chkX (P : Program) (N : Nat) : XCode → Code → Bool
  | .keep _ x, c => chkX P N x c
  | .a a, c => chkCode P N a c
  | .seq x y, .seq c d => chkX P N x c && chkX P N y d
  | .cond x a b, .cond y c d => x.ok y && chkX P N a c && chkX P N b d
  | .block i a, .block j c => i == j && chkX P N a c
  | .loop a, .loop c => chkX P N a c
  | .rf g ps A1 A2 f F, .rangeFunc gop ps' as bo => g.ok gop && ps'.toList == ps && ps.all (fun p => decide (p < N)) && chkCode P N A1 as && plainC as && chkCode P N A2 bo && plainC bo && chkFn P f F && undrawnF P f
  | _, _ => false
structure MOk (B0 : Nat) (g : Gh) (h : Heap) (df : List (Nat × List AV)) : Prop where
  m : ∀ p ∈ df, ∃ k, p = (yid k, [.skip]) ∧ Priv g h k ∧ h[k]? = some (.deferred (some [])) ∧ B0 ≤ k
  nd : (df.map Prod.fst).Nodup
structure XRel (B0 N : Nat) (g : Gh) (τ : Env) (S : AS) (a : Act) (w : World) : Prop where
  b0 : B0 ≤ w.heap.size
  lo : S.lo = []
  F : ∃ blk, FRel w.heap.size N g blk τ S a w
  M : MOk B0 g w.heap S.df
def XP (B0 N : Nat) (g : Gh) (w : World) (Q : CPostA) : Exit → Act → World → Prop := fun e a' w' =>
  ∃ e' τ' S' g', Q e' τ' S' ∧ XRel B0 N g' τ' S' a' w' ∧ WStep w.heap.size g w g' w' ∧ exrel g' e' e
section
variable {P : Program} {B0 N : Nat} {g g' : Gh} {τ : Env} {S : AS} {a : Act} {w w' : World}
theorem MOk.step {h h' : Heap} {df : List (Nat × List AV)} (m : MOk B0 g h df) (st : Step h.size g h g' h') : MOk B0 g' h' df :=
  ⟨fun p hp => by
    obtain ⟨k, e, h1, h2, h0⟩ := m.m p hp
    obtain ⟨h3, h4⟩ := st.priv k h1.lt h1
    exact ⟨k, e, h3, h4.trans h2, h0⟩, m.nd⟩
theorem FRel.rebase {B : Nat} {blk : Nat → Option Nat} (F : FRel B N g blk τ S a w) (hl : S.lo = []) : FRel w.heap.size N g blk τ S a w :=
  ⟨⟨Nat.le_refl _, F.sr.W, fun s cs e => by rw [hl] at e; simp [look] at e, fun s s' b h => by rw [hl] at h; simp [look] at h⟩, F.size, F.T, F.D⟩
theorem XP.from {g1 : Gh} {w1 : World} {Q : CPostA} {e : Exit} {a' : Act} {w' : World} (h : XP B0 N g1 w1 Q e a' w') (st : WStep w.heap.size g w g1 w1) : XP B0 N g w Q e a' w' := by
  obtain ⟨e', τ', S', g', h1, h2, h3, h4⟩ := h
  exact ⟨e', τ', S', g', h1, h2, st.trans h3.all, h4⟩
theorem xcode_sound (hm : P.follows .mixedOrders = true) : ∀ (x : XCode) (c : Code), chkX P N x c = true → ∀ (τ : Env) (S : AS) (Q : CPostA) (g : Gh) (a : Act) (w : World),
    xcode P x τ S Q → XRel B0 N g τ S a w → c.wp P (XP B0 N g w Q) a w := by
  intro x
  induction x with
  | a ac =>
    intro c hc τ S Q g a w h X
    obtain ⟨blk, F⟩ := X.F
    simp only [chkX] at hc
    refine wp_mono (code_sound hm ac c hc τ S _ g blk a w h F) ?_
    rintro e a' w' ⟨e', τ', S', g', blk', ⟨l1, l2, h1⟩, h2, h3, h4⟩
    exact ⟨e', τ', S', g', h1, ⟨Nat.le_trans X.b0 h3.size, l1, ⟨blk', h2.rebase l1⟩, by rw [l2]; exact X.M.step h3.toStep⟩, h3, h4⟩
  | keep l x ih =>
    intro c hc τ S Q g a w h X
    obtain ⟨blk, F⟩ := X.F
    simp only [chkX] at hc
    refine ih c hc _ S Q g a w h ⟨X.b0, X.lo, ⟨blk, ?_⟩, X.M⟩
    exact ⟨F.sr, F.size, fun t v hl => F.T t v (look_keep t v _ l hl), F.D⟩
  | seq x y ihx ihy =>
    intro c hc τ S Q g a w h X
    cases c <;> simp only [chkX] at hc <;> (try cases hc)
    simp only [Bool.and_eq_true] at hc
    refine wp_seq (wp_mono (ihx _ hc.1 τ S _ g a w h X) ?_)
    rintro e a' w' ⟨e', τ', S', g', h1, h2, h3, h4⟩
    cases e' <;> cases e <;> simp only [exrel] at h4
    · exact wp_mono (ihy _ hc.2 τ' S' Q g' a' w' h1 h2) fun _ _ _ hh => hh.from h3
    · exact ⟨_, τ', S', g', h1, h2, h3, h4⟩
    · exact ⟨_, τ', S', g', h1, h2, h3, h4⟩
    · exact ⟨_, τ', S', g', h1, h2, h3, h4⟩
  | cond x y z ihy ihz =>
    intro c hc τ S Q g a w h X
    obtain ⟨blk, F⟩ := X.F
    cases c <;> simp only [chkX] at hc <;> (try cases hc)
    simp only [Bool.and_eq_true] at hc
    simp only [xcode] at h
    split at h
    · rename_i t hv
      have hcv := cond_rel hc.1.1 F hv
      split at h
      · rename_i ht
        subst ht
        exact wp_cond_true hcv (ihy _ hc.1.2 τ S Q g a w h X)
      · rename_i ht
        have : t = false := by simpa using ht
        subst this
        exact wp_cond_false hcv (ihz _ hc.2 τ S Q g a w h X)
    · exact h.elim
  | block id x ih =>
    intro c hc τ S Q g a w h X
    cases c <;> simp only [chkX] at hc <;> (try cases hc)
    simp only [Bool.and_eq_true, beq_iff_eq] at hc
    obtain ⟨rfl, hc⟩ := hc
    refine wp_block (wp_mono (ih _ hc τ S _ g a w h X) ?_)
    rintro e a' w' ⟨e', τ', S', g', h1, h2, h3, h4⟩
    cases e' <;> cases e <;> simp only [exrel] at h4
    · exact ⟨.normal, τ', S', g', h1, h2, h3, trivial⟩
    · rename_i i j
      subst h4
      simp only [blockA] at h1
      simp only [Exit.inBlock]
      split
      · rename_i hij
        rw [if_pos hij] at h1
        exact ⟨.normal, τ', S', g', h1, h2, h3, trivial⟩
      · rename_i hij
        rw [if_neg hij] at h1
        exact ⟨.exit i, τ', S', g', h1, h2, h3, rfl⟩
    · exact ⟨.ret, τ', S', g', h1, h2, h3, trivial⟩
    · exact ⟨.pan _, τ', S', g', h1, h2, h3, h4⟩
  | loop x ih =>
    intro c hc τ S Q g a w h X
    cases c <;> simp only [chkX] at hc <;> (try cases hc)
    rename_i body
    obtain ⟨n, h⟩ := h
    refine wp_loop_rounds n ?_
    have key : ∀ (n : Nat) (τ : Env) (S : AS) (g1 : Gh) (a1 : Act) (w1 : World), aiter (xcode P x) Q n τ S → XRel B0 N g1 τ S a1 w1 → WStep w.heap.size g w g1 w1 →
        Code.rounds P body (XP B0 N g w Q) n a1 w1 := by
      intro n
      induction n with
      | zero => intro τ S g1 a1 w1 h _ _; exact h.elim
      | succ n ihn =>
        intro τ S g1 a1 w1 h X st
        rw [rounds_succ]
        refine wp_mono (ih _ hc τ S _ g1 a1 w1 h X) ?_
        rintro e a' w' ⟨e', τ', S', g', h1, h2, h3, h4⟩
        cases e' <;> cases e <;> simp only [exrel] at h4
        · exact ihn τ' S' g' a' w' h1 h2 (st.trans h3.all)
        · exact ⟨_, τ', S', g', h1, h2, st.trans h3.all, h4⟩
        · exact ⟨_, τ', S', g', h1, h2, st.trans h3.all, h4⟩
        · exact ⟨_, τ', S', g', h1, h2, st.trans h3.all, h4⟩
    exact key n τ S g a w h X (WStep.refl _ _ _)
  | rf gx ps A1 A2 f AF =>
    intro c hc τ S Q g a w h X
    obtain ⟨blk, F⟩ := X.F
    cases c <;> simp only [chkX] at hc <;> (try cases hc)
    rename_i gop ps' as bo
    simp only [Bool.and_eq_true, beq_iff_eq] at hc
    obtain ⟨⟨⟨⟨⟨⟨⟨⟨c1, c2⟩, c3⟩, c4⟩, c5⟩, c6⟩, c7⟩, c8⟩, c9⟩ := hc
    subst c2
    obtain ⟨caps, R, hev, hnl, hn, hit, hQ⟩ := h
    refine rf_sound hm c1 hev (fun p hp => ?_) c4 c5 c6 c7 hnl c8 c9 hn hit F ?_
    · rw [List.all_eq_true] at c3
      simpa using c3 p hp
    · intro k g' w' H' hR W' st pk ak hk
      refine ⟨.normal, τ, { S with hp := H', df := (yid k, [.skip]) :: S.df }, g', hQ k H' hR, ⟨Nat.le_trans X.b0 st.size, X.lo, ⟨blk, ?_⟩, ⟨fun p hp => ?_, ?_⟩⟩, st, trivial⟩
      · refine ⟨⟨Nat.le_refl _, W', fun s cs e => by have := X.lo; simp only at e; rw [this] at e; simp [look] at e, fun s s' b h => by have := X.lo; simp only at h; rw [this] at h; simp [look] at h⟩, F.size, fun t v hl => relT_mono (F.T t v hl) st.le, ?_⟩
        exact ⟨_, _, rfl, .inr ⟨k, rfl, rfl⟩, drel_le st.le F.D⟩
      · rcases List.mem_cons.1 hp with rfl | hp
        · exact ⟨k, rfl, pk, ak, Nat.le_trans X.b0 hk⟩
        · exact (X.M.step st.toStep).m p hp
      · simp only [List.map_cons, List.nodup_cons]
        refine ⟨fun hm => ?_, X.M.nd⟩
        obtain ⟨p, hp, e⟩ := List.mem_map.1 hm
        obtain ⟨k', rfl, h1, -, -⟩ := X.M.m p hp
        have := h1.lt
        simp [yid] at e
        omega

structure XFn where
  np : Nat
  nt : Nat
  code : XCode
  res : List ARes
def chkFnX (P : Program) (f : Nat) (F : XFn) : Bool :=
  match P.funcs[f]? with
  | some fn => decide (f < 100000) && (match fn.body with
    | some c => chkX P F.nt F.code c
    | none => false) && fn.ntmps == F.nt && decide (F.np ≤ F.nt) && chkRes P F.res fn.results.toList && fn.name != "runtime.NumGoroutine" && P.follows .mixedOrders
  | none => false
def aendX (R : List ARes) (Q : AEnd → List AObj → Prop) : CPostA
  | .normal, τ, S => ∃ vs, ress τ S R = some vs ∧ Q (.ret (resV vs)) S.hp
  | .ret, τ, S => ∃ vs, ress τ S R = some vs ∧ Q (.ret (resV vs)) S.hp
  | _, _, _ => False
theorem leaves_marks {fn : Func} {n : Nat} {tmps : Array Value} {R : Ending → World → Prop} : ∀ (df : List (Nat × List AV)) (g : Gh) (w : World) (ds : List Deferred), drel g df ds → MOk B0 g w.heap df → ∀ {H : List AObj}, WRel g H w.heap →
    (∀ w', WRel g H w'.heap → w'.heap.size = w.heap.size ∧ w'.os = w.os ∧ w'.output = w.output → (∀ b, w'.heap[b]? ≠ w.heap[b]? → B0 ≤ b) → LeavesIn Fence.wide n P fn tmps R [] .returning w') → LeavesInM Fence.wide n P fn tmps R ds .returning w
  | [], g, w, ds, hd, hM, H, hW, hk => by
    simp only [drel] at hd
    subst hd
    exact hk w hW ⟨rfl, rfl, rfl⟩ (fun b hb => absurd rfl hb)
  | p :: df, g, w, ds, hd, hM, H, hW, hk => by
    obtain ⟨k, rfl, h1, h2, h0⟩ := hM.m p (by simp)
    obtain ⟨d, t, rfl, h3, h4⟩ := hd
    have hdt : d = { target := .collected k, args := #[] } := by
      rcases h3 with ⟨caps, e, e2⟩ | ⟨k', e, rfl⟩
      · simp only [rels] at e2
        obtain ⟨y, r, -, e2, -⟩ := e2
        simp only [rel] at e2
      · have : k = k' := by simpa [yid] using e
        rw [this]
    subst hdt
    refine ⟨by simp, .inl ⟨k, _, rfl, run_takeDeferred h2, ?_⟩⟩
    refine leaves_marks df g _ t h4 ⟨fun q hq => ?_, ?_⟩ (put_priv hW h1) ?_
    · obtain ⟨k2, rfl, h5, h6, h7⟩ := hM.m q (List.mem_cons_of_mem _ hq)
      refine ⟨k2, rfl, h5.put, ?_, h7⟩
      rw [World.putObj_heap_other, h6]
      rintro rfl
      have := hM.nd
      simp only [List.map_cons, List.nodup_cons] at this
      exact this.1 (List.mem_map.2 ⟨_, hq, rfl⟩)
    · have := hM.nd
      simp only [List.map_cons, List.nodup_cons] at this
      exact this.2
    · intro w' W' hsz hch
      refine hk w' W' ⟨by rw [hsz.1]; simp, hsz.2.1, hsz.2.2⟩ (fun b hb => ?_)
      by_cases e : b = k
      · omega
      · exact hch b (by rw [World.putObj_heap_other e]; exact hb)
theorem SCalls.of_fnX {f : Nat} {F : XFn} {args : List AV} {H : List AObj} {Q : AEnd → List AObj → Prop} (hc : chkFnX P f F = true) (hn : args.length = F.np)
    (h : xcode P F.code (argEnv 0 args) ⟨[], H, []⟩ (aendX F.res Q)) : SCalls P f args H Q := by
  unfold chkFnX at hc
  split at hc
  rotate_left
  · cases hc
  rename_i fn hf
  simp only [Bool.and_eq_true, beq_iff_eq, decide_eq_true_eq, bne_iff_ne] at hc
  obtain ⟨⟨⟨⟨⟨⟨h0, h1⟩, h2⟩, h3⟩, h4⟩, h5⟩, h6⟩ := hc
  split at h1
  rotate_left
  · cases h1
  rename_i c hb
  refine ⟨by unfold entB; rw [hf]; simp [hb, h5, h0], fun g w xs hW hr => (callsIn_wide (n := 0)).1 (callsIn_of_wp_marks hf hb trivial ?_ rfl)⟩
  rw [h2, wpIn_wide]
  have E := enter_rel (n := F.nt) hW hr (by omega)
  refine wp_mono (xcode_sound h6 F.code c h1 _ _ _ g _ w h ⟨Nat.le_refl _, rfl, ⟨_, E⟩, ⟨fun p hp => by simp at hp, by simp⟩⟩) ?_
  rintro e a' w' ⟨e', τ', S', g', q1, q2, q3, q4⟩
  have fin : ∀ vs, ress τ' S' F.res = some vs → Q (.ret (resV vs)) S'.hp → LeavesInM Fence.wide 0 P fn a'.tmps (fun e w'' => ∃ r H' g', Q r H' ∧ WRel g' H' w''.heap ∧ WStep w.heap.size g w g' w'' ∧ erel g' r e) a'.defers .returning w' := by
    intro vs hv hq
    obtain ⟨blk, FF⟩ := q2.F
    refine leaves_marks S'.df g' w' a'.defers FF.D q2.M FF.sr.W ?_
    intro w2 W2 hszo hch
    obtain ⟨hsz, hos, hout⟩ := hszo
    have F2 : FRel w2.heap.size F.nt g' blk τ' S' a' w2 := ⟨⟨Nat.le_refl _, W2, fun s cs e => by rw [q2.lo] at e; simp [look] at e, fun s s' b h => by rw [q2.lo] at h; simp [look] at h⟩, FF.size, FF.T, FF.D⟩
    obtain ⟨x, hx, hrx⟩ := results_sound (F := ⟨0, 0, .skip, F.res⟩) h4 F2 hv
    refine ⟨x, hx, _, _, g', hq, W2, ⟨⟨q3.le, by rw [hsz]; exact q3.size, fun b hb hpb => ?_⟩, hos.trans q3.os, hout.trans q3.out⟩, hrx⟩
    obtain ⟨p1, a1⟩ := q3.priv b hb hpb
    refine ⟨⟨by rw [hsz]; exact p1.lt, p1.imm, p1.obj⟩, ?_⟩
    rw [← a1]
    by_cases e : w2.heap[b]? = w'.heap[b]?
    · exact e
    · have := hch b e
      omega
  cases e' <;> cases e <;> simp only [exrel] at q4 <;> simp only [aendX] at q1
  · obtain ⟨vs, hv, hq⟩ := q1
    exact fin vs hv hq
  · obtain ⟨vs, hv, hq⟩ := q1
    exact fin vs hv hq
end
end Go.Ab
