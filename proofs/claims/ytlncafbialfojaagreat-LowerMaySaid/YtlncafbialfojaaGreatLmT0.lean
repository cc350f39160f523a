/- What the functions come to (part 7). No conditions. -/
import Derived.Test.YtlncafbialfojaaGreatLmK0
set_option linter.unusedVariables false
set_option linter.unusedSimpArgs false
namespace Go.Ab
open Go.Proofs
theorem Up.setr {H : List AObj} {p : Nat} {o o' : AObj} (h : getH H p = some o) : Up H p o' (setH H p o') := (Up.refl h).set

structure W where
  kind : Int
  text : List UInt8
  n : Int
  at' : Int
def W.av (w : W) : AV := .agg [.int .i64 w.kind, .str w.text, .int .i64 w.n, .int .i64 w.at']
abbrev i64 (n : Int) : AV := .int .i64 n
def rst (ws : List W) (I : Nat) (O E B : Int) : AObj := .cells [.vs none (ws.map W.av), i64 I, i64 O, i64 E, i64 B]

/-- Is a word such a sign, or name, and is there no error yet? -/
def isB (E : Int) (w : W) (s : List UInt8) : Bool := E == 0 && (w.kind == 2 || w.kind == 0) && w.text == s
theorem isB_iff {E : Int} {w : W} {s : List UInt8} : isB E w s = true ↔ E = 0 ∧ (w.kind = 2 ∨ w.kind = 0) ∧ w.text = s := by simp [isB, and_assoc]
set_option maxRecDepth 100000
set_option maxHeartbeats 2000000
theorem is_c {H : List AObj} {p I : Nat} {ws : List W} {w : W} {O E B : Int} {s : List UInt8} (hp : getH H p = some (rst ws I O E B)) (hw : ws[I]? = some w) :
    SCalls Tryz.prog 98 [.ptr p 0, .str s] H (fun r H' => r = .ret (.bool (isB E w s)) ∧ H' = H) := by
  refine fn_start k98 rfl ?_
  simp only [c98, rst] at *
  unfold isB
  by_cases hE : E = 0 <;> by_cases h2 : w.kind = 2 <;> by_cases h0 : w.kind = 0 <;> by_cases ht : w.text = s <;> simp [hp, hw, W.av, hE, h2, h0, ht]
end Go.Ab

namespace Go.Ab
open Go.Proofs
attribute [local simp] c100_1 c171_1

set_option maxRecDepth 100000
set_option maxHeartbeats 2000000
theorem fail_c {H : List AObj} {p I : Nat} {ws : List W} {w : W} {O E B e : Int} (hp : getH H p = some (rst ws I O E B)) (hw : ws[I]? = some w) :
    SCalls Tryz.prog 126 [.ptr p 0, i64 e] H (fun r K => r = .ret (.tuple []) ∧ Up H p (if E = 0 then rst ws I O e w.at' else rst ws I O E B) K) := by
  refine fn_start k126 rfl ?_
  simp only [c126, rst] at *
  by_cases hE : E = 0 <;> simp [hp, hw, W.av, hE]
  · exact Up.setr hp
  · exact Up.refl (by simp [hp])

theorem wrap_s {n : Int} (h : -2 ^ 60 ≤ n ∧ n ≤ 2 ^ 60) : IntKind.i64.wrap n = n := by
  apply IntWalk.i64_in <;> omega

theorem need_c {H : List AObj} {p I : Nat} {ws : List W} {w : W} {O E B : Int} {s : List UInt8} (hp : getH H p = some (rst ws I O E B)) (hw : ws[I]? = some w) (hI : I < 2 ^ 59) :
    SCalls Tryz.prog 100 [.ptr p 0, .str s] H (fun r K => r = .ret (.tuple []) ∧ 
      ((isB E w s = true ∧ Up H p (rst ws (I + 1) O E B) K) ∨ (∃ e b, e ≠ 0 ∧ Up H p (rst ws I O e b) K))) := by
  refine fn_start k100 rfl ?_
  simp [c100]
  refine (is_c hp hw).mono ?_
  rintro r K ⟨rfl, rfl⟩
  by_cases h : isB E w s = true
  · simp [h, hp, rst, wrap_s (n := (I : Int) + 1) (by omega)]
    exact Or.inl (Up.setr hp)
  · simp [h]
    refine (fail_c hp hw).mono ?_
    rintro r K ⟨rfl, hu⟩
    simp
    by_cases hE : E = 0
    · exact ⟨11, by decide, w.at', by simpa [hE] using hu⟩
    · exact ⟨E, hE, B, by simpa [hE] using hu⟩

theorem enter_c {H : List AObj} {p I : Nat} {ws : List W} {w : W} {O E B : Int} (hp : getH H p = some (rst ws I O E B)) (hw : ws[I]? = some w) (hI : I < 2 ^ 59) (hO : 0 ≤ O ∧ O ≤ 32) :
    SCalls Tryz.prog 171 [.ptr p 0] H (fun r K => 
      ((O < 32 ∧ r = .ret (.bool true) ∧ Up H p (rst ws (I + 1) (O + 1) E B) K) ∨ (∃ e b, e ≠ 0 ∧ r = .ret (.bool false) ∧ Up H p (rst ws I O e b) K))) := by
  refine fn_start k171 rfl ?_
  by_cases hO2 : O = 32
  · simp [c171, hp, rst, hO2]
    refine (fail_c hp hw).mono ?_
    rintro r K ⟨rfl, hu⟩
    simp
    by_cases hE : E = 0
    · exact ⟨2, by decide, w.at', by simpa [hE, rst, hO2] using hu⟩
    · exact ⟨E, hE, B, by simpa [hE, rst, hO2] using hu⟩
  · simp [c171, hp, rst, hO2, wrap_s (n := (I : Int) + 1) (by omega), wrap_s (n := O + 1) (by omega)]
    exact ⟨by omega, Up.setr hp⟩
end Go.Ab

namespace Go.Ab
open Go.Proofs
attribute [local simp] c73_1 c99_1 c99_2 c99_3 c156_1 c156_2 c156_3 c157_1

set_option maxRecDepth 100000
set_option maxHeartbeats 2000000

def keyL : List (List UInt8) := [[112,117,98,108,105,99],[115,101,99,114,101,116],[105,110,116],[98,111,111,108],[98,121],[108,111,99,107],[102,117,110,99],[114,101,116,117,114,110],[116,104,114,101,97,100],[118,97,114],[105,102],[101,108,115,101],[119,104,105,108,101],[111,117,116],[116,114,117,101],[102,97,108,115,101]]

theorem key_c {H : List AObj} {s : List UInt8} :
    SCalls Tryz.prog 99 [.str s] H (fun r K => ∃ b, r = .ret (.bool b) ∧ Gr H K) := by
  refine fn_start k99 rfl ?_
  simp [c99]
  refine loop_keep (n := 16) (fun n τ S => ∃ i : Nat, i + n = keyL.length ∧ τ = [(0, .str s), (3, .vs (some (lenH H)) (keyL.map .str)), (4, .int .i64 i)] ∧ S = ⟨[], addH H .tip, []⟩) ?_ ⟨0, rfl, rfl, rfl⟩
  rintro n τ S ⟨i, hi, rfl, rfl⟩
  have h16 : keyL.length = 16 := rfl
  by_cases hn : n = 0
  · have : i = 16 := by omega
    subst this
    simp [h16]
    exact (Gr.refl H).add
  · have hlt : i < keyL.length := by omega
    by_cases hs : keyL[i] = s
    · simp [hlt, hs]
      exact (Gr.refl H).add
    · simp [hlt, hs, wrap_s (n := (i : Int) + 1) (by omega)]
      exact ⟨n - 1, by omega, i + 1, by omega, by simp⟩

def signL : List (List UInt8) := [[43],[45],[42],[47],[37],[38],[124],[94],[60,60],[62,62],[61,61],[33,61],[60],[60,61],[62],[62,61],[],[38,38],[124,124]]
theorem sign_c {H : List AObj} {i : Int} :
    SCalls Tryz.prog 73 [.int .i64 i] H (fun r K => ∃ s, r = .ret (.str s) ∧ Gr H K) := by
  refine fn_start k73 rfl ?_
  by_cases h0 : i < 0
  · simp [c73, h0]
    exact (Gr.refl H).add
  by_cases h1 : 19 ≤ i
  · simp [c73, h0, h1]
    exact (Gr.refl H).add
  · have : i = 0 ∨ i = 1 ∨ i = 2 ∨ i = 3 ∨ i = 4 ∨ i = 5 ∨ i = 6 ∨ i = 7 ∨ i = 8 ∨ i = 9 ∨ i = 10 ∨ i = 11 ∨ i = 12 ∨ i = 13 ∨ i = 14 ∨ i = 15 ∨ i = 16 ∨ i = 17 ∨ i = 18 := by omega
    rcases this with rfl|rfl|rfl|rfl|rfl|rfl|rfl|rfl|rfl|rfl|rfl|rfl|rfl|rfl|rfl|rfl|rfl|rfl|rfl
    all_goals (simp [c73]; exact (Gr.refl H).add)

theorem rank_c {H : List AObj} {i : Int} :
    SCalls Tryz.prog 157 [.int .i64 i] H (fun r K => ∃ k, r = .ret (.int .i64 k) ∧ Gr H K) := by
  refine fn_start k157 rfl ?_
  by_cases h0 : i < 0
  · simp [c157, h0]
    exact (Gr.refl H).add
  by_cases h1 : 19 ≤ i
  · simp [c157, h0, h1]
    exact (Gr.refl H).add
  · have : i = 0 ∨ i = 1 ∨ i = 2 ∨ i = 3 ∨ i = 4 ∨ i = 5 ∨ i = 6 ∨ i = 7 ∨ i = 8 ∨ i = 9 ∨ i = 10 ∨ i = 11 ∨ i = 12 ∨ i = 13 ∨ i = 14 ∨ i = 15 ∨ i = 16 ∨ i = 17 ∨ i = 18 := by omega
    rcases this with rfl|rfl|rfl|rfl|rfl|rfl|rfl|rfl|rfl|rfl|rfl|rfl|rfl|rfl|rfl|rfl|rfl|rfl|rfl
    all_goals (simp [c157]; exact (Gr.refl H).add)

theorem op_c {H : List AObj} {s : List UInt8} :
    SCalls Tryz.prog 156 [.str s] H (fun r K => ∃ k, r = .ret (.int .i64 k) ∧ Gr H K) := by
  refine fn_start k156 rfl ?_
  simp [c156]
  refine loop_keep (n := 19) (fun n τ S => ∃ i : Nat, i + n = 19 ∧ τ = [(0, .str s), (3, .int .i64 i)] ∧ ∃ K, S = ⟨[], K, []⟩ ∧ Gr H K) ?_ ⟨0, rfl, rfl, H, rfl, Gr.refl H⟩
  rintro n τ S ⟨i, hi, rfl, K, rfl, hg⟩
  by_cases hn : n = 0
  · have : i = 19 := by omega
    subst this
    simp
    exact hg
  · have hlt : (i : Int) < 19 := by omega
    by_cases hs : s = []
    · simp [hlt, hs, wrap_s (n := (i : Int) + 1) (by omega)]
      exact ⟨n - 1, by omega, i + 1, by omega, by simp, hg⟩
    · simp [hlt, hs, wrap_s (n := (i : Int) + 1) (by omega)]
      refine sign_c.mono ?_
      rintro r K' ⟨x, rfl, hg'⟩
      by_cases hx : x = s
      · simp [hx, hs]
        exact hg.trans hg'
      · simp [hx, hs, wrap_s (n := (i : Int) + 1) (by omega)]
        exact ⟨n - 1, by omega, i + 1, by omega, by simp, hg.trans hg'⟩
end Go.Ab

namespace Go.Ab
open Go.Proofs

/-- A slice that can't be told from nil by its length alone: nil, where it is empty. -/
def sl (xs : List AV) : AV := if xs = [] then .nils else .vs none xs
@[simp] theorem sl_nil : sl [] = .nils := rfl
@[simp] theorem sl_cons (x : AV) (xs : List AV) : sl (x :: xs) = .vs none (x :: xs) := rfl
theorem sl_ne {xs : List AV} (h : xs ≠ []) : sl xs = .vs none xs := by simp [sl, h]
@[simp] theorem sl_okv (xs : List AV) : (sl xs).okv = true := by cases xs <;> rfl
@[simp] theorem sl_proper (xs : List AV) : (sl xs).proper = true := by cases xs <;> rfl
@[simp] theorem sl_scalar (xs : List AV) : (sl xs).scalar = true := by cases xs <;> rfl
@[simp] theorem sl_cells (xs : List AV) : (sl xs).cells = [sl xs] := by cases xs <;> rfl
@[simp] theorem sl_drop1 (xs : List AV) : (sl xs).drop1 = sl xs := by cases xs <;> rfl
@[simp] theorem sl_erase (xs : List AV) : (sl xs).erase = sl xs := by cases xs <;> rfl
@[simp] theorem sl_isLref (q : Nat) (xs : List AV) : isLref q (sl xs) = false := by cases xs <;> rfl
@[simp] theorem sl_okD (q : AOper) (os : List AOper) (τ : Env) (xs : List AV) : okD q os (sl xs) τ = true := okD_proper (sl_proper xs)
@[simp] theorem sl_len (S : AS) (xs : List AV) : lenA S .l (sl xs) = some xs.length := by cases xs <;> rfl

/-- An expression. -/
inductive Ex where
  | mk (kind op n : Int) (name : List UInt8) (kids : List Ex) (at' : Int)
mutual
def Ex.av : Ex → AV
  | .mk k o n s ks a => .agg [.int .i64 k, .int .i64 o, .int .i64 n, .str s, sl (Ex.avs ks), .int .i64 a]
def Ex.avs : List Ex → List AV
  | [] => []
  | e :: r => e.av :: Ex.avs r
end
mutual
def Ex.size : Ex → Nat
  | .mk _ _ _ _ ks _ => 1 + Ex.sizes ks
def Ex.sizes : List Ex → Nat
  | [] => 0
  | e :: r => e.size + Ex.sizes r
end
mutual
def Ex.ok : Ex → Prop
  | .mk k _ _ _ ks _ => Ex.oks ks ∧ ((k = 0 ∨ k = 1 ∨ k = 2) ∧ ks = [] ∨ (k = 3 ∨ k = 4 ∨ k = 5) ∧ ks.length = 1 ∨ k = 6 ∧ ks.length = 2 ∨ k = 7)
def Ex.oks : List Ex → Prop
  | [] => True
  | e :: r => e.ok ∧ Ex.oks r
end
theorem Ex.avs_eq (l : List Ex) : Ex.avs l = l.map Ex.av := by
  induction l with
  | nil => rfl
  | cons e r ih => simp [Ex.avs, ih]
theorem Ex.avs_append (l m : List Ex) : Ex.avs (l ++ m) = Ex.avs l ++ Ex.avs m := by simp [Ex.avs_eq]
theorem Ex.sizes_append (l m : List Ex) : Ex.sizes (l ++ m) = Ex.sizes l + Ex.sizes m := by
  induction l with
  | nil => simp [Ex.sizes]
  | cons e r ih => simp [Ex.sizes, ih]; omega
theorem Ex.oks_append (l m : List Ex) : Ex.oks (l ++ m) ↔ Ex.oks l ∧ Ex.oks m := by
  induction l with
  | nil => simp [Ex.oks]
  | cons e r ih => simp [Ex.oks, ih, and_assoc]
@[simp] theorem Ex.av_okv (e : Ex) : e.av.okv = true := by cases e; simp [Ex.av]
@[simp] theorem Ex.av_proper (e : Ex) : e.av.proper = true := by cases e; simp [Ex.av]
@[simp] theorem Ex.av_scalar (e : Ex) : e.av.scalar = false := by cases e; simp [Ex.av]
theorem Ex.av_cells (e : Ex) : e.av.cells.length = 6 := by cases e; simp [Ex.av]
@[simp] theorem Ex.av_erase (e : Ex) : e.av.erase = e.av := by cases e; simp [Ex.av]
@[simp] theorem Ex.av_isLref (q : Nat) (e : Ex) : isLref q e.av = false := by cases e; simp [Ex.av]
@[simp] theorem Ex.av_okD (q : AOper) (os : List AOper) (τ : Env) (e : Ex) : okD q os e.av τ = true := okD_proper e.av_proper
attribute [simp] Ex.av_cells
@[simp] theorem Ex.av_bool (e : Ex) (c : Bool) : want1 c (some e.av) = none := by cases e; rfl
theorem Ex.wid (l : List Ex) : wid 6 (Ex.avs l) = true := by
  rw [Ex.avs_eq]
  exact wid_map 6 Ex.av l fun e => ⟨e.av_okv, e.av_cells⟩
end Go.Ab

namespace Go.Ab
open Go.Proofs
attribute [local simp] c172_1 c172_2 c172_3 c172_4 c176_1 c176_2 c176_3

/-- Words: not too many, and the last one alone is the end. -/
def Good (ws : List W) : Prop := ws.length < 2 ^ 30 ∧ ∀ (I : Nat) (w : W), ws[I]? = some w → w.kind ≠ 3 → I + 1 < ws.length

def PostE (ws : List W) (p I : Nat) (O E : Int) (H : List AObj) : AEnd → List AObj → Prop := fun r K =>
  ∃ (e : Ex) (I' : Nat) (E' B' : Int), r = .ret e.av ∧ Up H p (rst ws I' O E' B') K ∧ I ≤ I' ∧ I' < ws.length ∧ (E' = 0 → E = 0 ∧ e.ok ∧ e.size + I ≤ I')
def ExprC (ws : List W) (p I : Nat) : Prop := I < ws.length → ∀ {H : List AObj} {O E B k : Int}, getH H p = some (rst ws I O E B) → 0 ≤ O → O ≤ 32 → SCalls Tryz.prog 129 [.ptr p 0, .int .i64 k] H (PostE ws p I O E H)
def ThingC (ws : List W) (p I : Nat) : Prop := I < ws.length → ∀ {H : List AObj} {O E B : Int}, getH H p = some (rst ws I O E B) → 0 ≤ O → O ≤ 32 → SCalls Tryz.prog 155 [.ptr p 0] H (PostE ws p I O E H)
def PostL (ws : List W) (p I : Nat) (O E : Int) (H : List AObj) : AEnd → List AObj → Prop := fun r K =>
  ∃ (l : List Ex) (I' : Nat) (E' B' : Int), r = .ret (sl (Ex.avs l)) ∧ Up H p (rst ws I' O E' B') K ∧ I ≤ I' ∧ I' < ws.length ∧ (E' = 0 → E = 0 ∧ Ex.oks l ∧ Ex.sizes l + I ≤ I')
def ListC (ws : List W) (p I : Nat) : Prop := I < ws.length → ∀ {H : List AObj} {O E B : Int}, getH H p = some (rst ws I O E B) → 0 ≤ O → O ≤ 32 → SCalls Tryz.prog 176 [.ptr p 0] H (PostL ws p I O E H)
def NameC (ws : List W) (p I : Nat) : Prop := ∀ {H : List AObj} {O B : Int}, getH H p = some (rst ws I O 0 B) → 0 ≤ O → O ≤ 32 → I + 1 < ws.length → SCalls Tryz.prog 172 [.ptr p 0] H (PostE ws p I O 0 H)

theorem get_of_lt {ws : List W} {I : Nat} (h : I < ws.length) : ∃ w, ws[I]? = some w := ⟨_, List.getElem?_eq_getElem h⟩
theorem isB_go {ws : List W} (g : Good ws) {I : Nat} {w : W} {E : Int} {s : List UInt8} (hw : ws[I]? = some w) (h : isB E w s = true) : I + 1 < ws.length ∧ E = 0 := by
  obtain ⟨h0, h1, _⟩ := isB_iff.1 h
  exact ⟨g.2 _ _ hw (by omega), h0⟩

set_option maxRecDepth 100000
set_option maxHeartbeats 4000000
theorem name_c {ws : List W} {p I : Nat} (g : Good ws) (ihE : ExprC ws p (I + 2)) (ihL : ListC ws p (I + 2)) : NameC ws p I := by
  intro H O B hp h0 h1 hI
  obtain ⟨w, hw⟩ := get_of_lt (show I < ws.length by omega)
  obtain ⟨w1, hw1⟩ := get_of_lt hI
  have hl := g.1
  refine fn_start k172 rfl ?_
  simp [c172, hp, rst, hw, W.av, wrap_s (n := (I : Int) + 1) (by omega)]
  generalize hK : setH H p _ = K
  have hu : Up H p (rst ws (I + 1) O 0 B) K := hK ▸ Up.setr hp
  refine (is_c hu.at' hw1).mono ?_
  rintro r K' ⟨rfl, rfl⟩
  by_cases hb : isB 0 w1 [91] = true
  · obtain ⟨hI2, -⟩ := isB_go g hw1 hb
    simp [hb]
    refine (enter_c hu.at' hw1 (by omega) ⟨h0, h1⟩).mono ?_
    rintro r K2 (⟨hO, rfl, hu2⟩ | ⟨e, b, he, rfl, hu2⟩)
    · simp
      refine (ihE hI2 hu2.at' (by omega) (by omega)).mono ?_
      rintro r K3 ⟨e, I', E', B', rfl, hu3, hI', hl', hok⟩
      simp [roomA_eq]
      obtain ⟨w3, hw3⟩ := get_of_lt hl'
      have hu3' := hu3.add (x := .tip) |>.add (x := .tip)
      have ht := (hu.trans hu2).trans hu3'
      refine (need_c hu3'.at' hw3 (by omega)).mono ?_
      rintro r K4 ⟨rfl, ⟨hb4, hu4⟩ | ⟨e4, b4, he4, hu4⟩⟩
      · obtain ⟨hI4, hE4⟩ := isB_go g hw3 hb4
        simp [hu4.at', rst, wrap_s (n := O) (by omega)]
        refine ⟨.mk 3 0 0 w.text [e] w.at', I' + 1, E', B', by simp [Ex.av, Ex.avs], (ht.trans hu4).set, by omega, by omega, ?_⟩
        intro hE
        obtain ⟨-, ho, hs⟩ := hok hE
        exact ⟨rfl, by simp [Ex.ok, Ex.oks, ho], by simp [Ex.size, Ex.sizes]; omega⟩
      · simp [hu4.at', rst, wrap_s (n := O) (by omega)]
        exact ⟨.mk 3 0 0 w.text [e] w.at', I', e4, b4, by simp [Ex.av, Ex.avs], (ht.trans hu4).set, by omega, by omega, fun h => absurd h he4⟩
    · simp
      exact ⟨.mk 2 0 0 w.text [] w.at', I + 1, e, b, by simp [Ex.av, Ex.avs], hu.trans hu2, by omega, by omega, fun h => absurd h he⟩
  · simp [hb]
    refine (is_c hu.at' hw1).mono ?_
    rintro r K' ⟨rfl, rfl⟩
    by_cases hb : isB 0 w1 [40] = true
    · obtain ⟨hI2, -⟩ := isB_go g hw1 hb
      simp [hb]
      refine (enter_c hu.at' hw1 (by omega) ⟨h0, h1⟩).mono ?_
      rintro r K2 (⟨hO, rfl, hu2⟩ | ⟨e, b, he, rfl, hu2⟩)
      · simp
        refine (ihL hI2 hu2.at' (by omega) (by omega)).mono ?_
        rintro r K3 ⟨l, I', E', B', rfl, hu3, hI', hl', hok⟩
        simp
        obtain ⟨w3, hw3⟩ := get_of_lt hl'
        have ht := (hu.trans hu2).trans hu3
        refine (need_c hu3.at' hw3 (by omega)).mono ?_
        rintro r K4 ⟨rfl, ⟨hb4, hu4⟩ | ⟨e4, b4, he4, hu4⟩⟩
        · obtain ⟨hI4, hE4⟩ := isB_go g hw3 hb4
          simp [hu4.at', rst, wrap_s (n := O) (by omega)]
          refine ⟨.mk 7 0 0 w.text l w.at', I' + 1, E', B', by simp [Ex.av], (ht.trans hu4).set, by omega, by omega, ?_⟩
          intro hE
          obtain ⟨-, ho, hs⟩ := hok hE
          exact ⟨rfl, by simp [Ex.ok, ho], by simp [Ex.size]; omega⟩
        · simp [hu4.at', rst, wrap_s (n := O) (by omega)]
          exact ⟨.mk 7 0 0 w.text l w.at', I', e4, b4, by simp [Ex.av], (ht.trans hu4).set, by omega, by omega, fun h => absurd h he4⟩
      · simp
        exact ⟨.mk 2 0 0 w.text [] w.at', I + 1, e, b, by simp [Ex.av, Ex.avs], hu.trans hu2, by omega, by omega, fun h => absurd h he⟩
    · simp [hb]
      exact ⟨.mk 2 0 0 w.text [] w.at', I + 1, 0, B, by simp [Ex.av, Ex.avs], hu, by omega, by omega, fun _ => ⟨rfl, by simp [Ex.ok, Ex.oks], by simp [Ex.size, Ex.sizes]; omega⟩⟩
theorem Ex.length_le (l : List Ex) : l.length ≤ Ex.sizes l := by
  induction l with
  | nil => simp
  | cons e r ih => cases e; simp [Ex.sizes, Ex.size]; omega

def ListInv (ws : List W) (p I : Nat) (O E : Int) (H : List AObj) (n : Nat) (τ : Env) (S : AS) : Prop :=
  ∃ (l : List Ex) (J : Nat) (F C : Int) (M : List AObj) (t : Nat), l ≠ [] ∧ n + J = ws.length ∧ τ = [(0, .ptr p 0), (3, .vs (some t) (Ex.avs l))] ∧ S = ⟨[], M, []⟩ ∧
      getH M t = some .tip ∧ lenH H ≤ t ∧ Up H p (rst ws J O F C) M ∧ I ≤ J ∧ J < ws.length ∧ (F = 0 → E = 0 ∧ Ex.oks l ∧ Ex.sizes l + I ≤ J)

theorem list_c {ws : List W} {p I : Nat} (g : Good ws) (ihE : ∀ J, I ≤ J → ExprC ws p J) : ListC ws p I := by
  intro hI H O E B hp h0 h1
  obtain ⟨w, hw⟩ := get_of_lt hI
  have hl := g.1
  refine fn_start k176 rfl ?_
  simp [c176]
  refine (is_c hp hw).mono ?_
  rintro r K ⟨rfl, rfl⟩
  by_cases hb : isB E w [41] = true
  · obtain ⟨-, rfl⟩ := isB_go g hw hb
    simp [hb]
    exact ⟨[], I, 0, B, by simp [Ex.avs], Up.refl hp, by omega, by omega, fun _ => ⟨rfl, trivial, by simp [Ex.sizes]⟩⟩
  · simp [hb]
    refine (ihE I (Nat.le_refl _) hI hp h0 h1).mono ?_
    rintro r K1 ⟨e, I', E', B', rfl, hu, hI', hl', hok⟩
    simp [roomA_eq]
    refine loop_keep (n := ws.length - I') (ListInv ws p I O E K) ?_ ?_
    · rintro n τ S ⟨l, J, F, C, M, t, hne, hn, rfl, rfl, ht, hkt, hm, hIJ, hJ, hF⟩
      obtain ⟨w1, hw1⟩ := get_of_lt hJ
      simp
      refine (is_c hm.at' hw1).mono ?_
      rintro r M' ⟨rfl, rfl⟩
      by_cases hb1 : isB F w1 [44] = true
      · obtain ⟨hJ1, rfl⟩ := isB_go g hw1 hb1
        obtain ⟨h01, h02, h03⟩ := hF rfl
        have hlen := Ex.length_le l
        simp [hb1, hm.at', rst, wrap_s (n := (J : Int) + 1) (by omega)]
        generalize hM2 : setH M' p _ = M2
        have htp : t ≠ p := by rintro rfl; rw [hm.at'] at ht; cases ht
        have hm2 : Up M' p (rst ws (J + 1) O 0 C) M2 := hM2 ▸ Up.setr hm.at'
        refine (ihE (J + 1) (by omega) hJ1 hm2.at' h0 h1).mono ?_
        rintro r M3 ⟨e2, J2, F2, C2, rfl, hm3, hJ2, hJ2', hok2⟩
        have ht3 : getH M3 t = some .tip := by
          rw [hm3.old t htp (by rw [hm2.old t htp (by simp [ht]), ht]; rfl), hm2.old t htp (by simp [ht]), ht]
        have hrm : ((Ex.avs l).length + 1) * 72 ≤ 35184372088832 := by simp [Ex.avs_eq]; omega
        have hp' : (getH K p).isSome = true := by simp [hp]
        have hgt := getH_lt (H := M3) (i := t) (by simp [ht3])
        simp [roomA_eq, Ex.wid, ht3, hrm]
        refine ⟨ws.length - J2, by omega, l ++ [e2], J2, F2, C2, _, _, by simp, by omega, by simp [Ex.avs_append, Ex.avs]; rfl, rfl, by simp, ?_, ?_, by omega, hJ2', ?_⟩
        · omega
        · exact (((hm.trans hm2).trans hm3).add.new hkt hp').add
        · intro hF2
          obtain ⟨-, ho, hs⟩ := hok2 hF2
          exact ⟨h01, (Ex.oks_append _ _).2 ⟨h02, ho, trivial⟩, by simp [Ex.sizes_append, Ex.sizes]; omega⟩
      · simp [hb1]
        have hne' : Ex.avs l ≠ [] := by simpa [Ex.avs_eq] using hne
        exact ⟨l, J, F, C, by rw [sl_ne hne'], hm, hIJ, hJ, hF⟩
    · have hle := hu.len
      refine ⟨[e], I', E', B', _, _, by simp, by omega, by simp [Ex.avs]; rfl, rfl, by simp, ?_, (hu.add (x := .tip)).add, hI', hl', ?_⟩
      · omega
      · intro hE
        obtain ⟨h0, ho, hs⟩ := hok hE
        exact ⟨h0, ⟨ho, trivial⟩, by simp [Ex.sizes]; omega⟩
end Go.Ab

namespace Go.Ab
open Go.Proofs
attribute [local simp] c129_1 c129_2 c129_3

set_option maxRecDepth 100000
set_option maxHeartbeats 4000000
abbrev zEx : List AV := [.int .i64 0, .int .i64 0, .int .i64 0, .str [], .nils, .int .i64 0]
def ExprInv (ws : List W) (p I : Nat) (O E k : Int) (H : List AObj) (n : Nat) (τ : Env) (S : AS) : Prop :=
  ∃ (ek eo en : Int) (es : List UInt8) (kv : AV) (ea : Int) (ks : List Ex) (J : Nat) (F C : Int) (M : List AObj), kv.drop1 = sl (Ex.avs ks) ∧ n + J = ws.length ∧
    τ = [(0, .ptr p 0), (1, .int .i64 k), (4, .lref 4 0), (5, .lref 5 0)] ∧ S = ⟨[(4, zEx), (5, [.int .i64 ek, .int .i64 eo, .int .i64 en, .str es, kv, .int .i64 ea])], M, []⟩ ∧
    Up H p (rst ws J O F C) M ∧ I ≤ J ∧ J < ws.length ∧ (F = 0 → E = 0 ∧ (Ex.mk ek eo en es ks ea).ok ∧ (Ex.mk ek eo en es ks ea).size + I ≤ J)

theorem expr_c {ws : List W} {p I : Nat} (g : Good ws) (ihT : ThingC ws p I) (ihE : ∀ J, I < J → ExprC ws p J) : ExprC ws p I := by
  intro hI H O E B k hp h0 h1
  have hl := g.1
  refine fn_start k129 rfl ?_
  simp [c129]
  refine (ihT hI hp h0 h1).mono ?_
  rintro r K1 ⟨⟨ek, eo, en, es, ks, ea⟩, I', E', B', rfl, hu, hI', hl', hok⟩
  simp [Ex.av]
  refine loop_keep (n := ws.length - I') (ExprInv ws p I O E k H) ?_ ?_
  · rintro n τ S ⟨ek, eo, en, es, kv, ea, ks, J, F, C, M, hkv, hn, rfl, rfl, hm, hIJ, hJ, hF⟩
    obtain ⟨w1, hw1⟩ := get_of_lt hJ
    by_cases hb : F = 0 ∧ w1.kind = 2
    · obtain ⟨rfl, h2⟩ := hb
      have hJ1 := g.2 _ _ hw1 (by omega)
      obtain ⟨h01, h02, h03⟩ := hF rfl
      simp [hm.at', rst, hw1, W.av, h2]
      refine op_c.mono ?_
      rintro r M1 ⟨op, rfl, hg1⟩
      simp
      refine rank_c.mono ?_
      rintro r M2 ⟨rk, rfl, hg2⟩
      have hm2 := (hm.gr hg1).gr hg2
      by_cases h : rk < k
      · simp [h, hkv]
        exact ⟨.mk ek eo en es ks ea, J, 0, C, by simp [Ex.av], hm2, hIJ, hJ, hF⟩
      by_cases h' : rk = 0
      · subst h'
        simp [h, hkv]
        exact ⟨.mk ek eo en es ks ea, J, 0, C, by simp [Ex.av], hm2, hIJ, hJ, hF⟩
      · have hr1 : k ≤ rk := by omega
        simp [h, h', hm2.at', rst, wrap_s (n := (J : Int) + 1) (by omega)]
        generalize hM3 : setH M2 p _ = M3
        have hm3 : Up M2 p (rst ws (J + 1) O 0 C) M3 := hM3 ▸ Up.setr hm2.at'
        refine (ihE (J + 1) (by omega) hJ1 hm3.at' h0 h1).mono ?_
        rintro r M4 ⟨⟨fk, fo, fn, fs, fks, fa⟩, J2, F2, C2, rfl, hm4, hJ2, hJ2', hok2⟩
        simp [Ex.av, hkv]
        refine ⟨ws.length - J2, by omega, 6, op, 0, [], _, ea, [.mk ek eo en es ks ea, .mk fk fo fn fs fks fa], J2, F2, C2, _, ?_, by omega, rfl, rfl, ((hm2.trans hm3).trans hm4).add, by omega, hJ2', ?_⟩
        · simp [Ex.avs, Ex.av]
        · intro hF2
          obtain ⟨-, ho, hs⟩ := hok2 hF2
          refine ⟨h01, ?_, ?_⟩
          · rw [Ex.ok]; exact ⟨⟨h02, ho, trivial⟩, by simp⟩
          · simp [Ex.size, Ex.sizes] at h03 hs ⊢; omega
    · by_cases hF0 : F = 0
      · have h2 : ¬ w1.kind = 2 := fun h => hb ⟨hF0, h⟩
        simp [hm.at', rst, hw1, W.av, hF0, h2, hkv]
        exact ⟨.mk ek eo en es ks ea, J, F, C, by simp [Ex.av], hm, hIJ, hJ, hF⟩
      · simp [hm.at', rst, hF0, hkv]
        exact ⟨.mk ek eo en es ks ea, J, F, C, by simp [Ex.av], hm, hIJ, hJ, hF⟩
  · exact ⟨ek, eo, en, es, _, ea, ks, I', E', B', K1, by simp, by omega, rfl, rfl, hu, hI', hl', hok⟩
end Go.Ab

namespace Go.Ab
open Go.Proofs
attribute [local simp] c155_1 c155_2 c155_3 c155_4 c155_5 c155_6

set_option maxRecDepth 100000
set_option maxHeartbeats 4000000
theorem thing_c {ws : List W} {p I : Nat} (g : Good ws) (ihT : ThingC ws p (I + 1)) (ihE : ∀ J, I < J → ExprC ws p J) (ihN : NameC ws p I) : ThingC ws p I := by
  intro hI H O E B hp h0 h1
  have hl := g.1
  refine fn_start k155 rfl ?_
  obtain ⟨w, hw⟩ := get_of_lt hI
  by_cases hE : E = 0
  · subst hE
    simp [c155, hp, rst, hw, W.av]
    refine (is_c hp hw).mono ?_
    rintro r K ⟨rfl, rfl⟩
    by_cases hb1 : isB 0 w [45] = true
    · obtain ⟨hI1, -⟩ := isB_go g hw hb1
      obtain ⟨-, -, htx⟩ := isB_iff.1 hb1
      simp [hb1]
      refine (enter_c hp hw (by omega) ⟨h0, h1⟩).mono ?_
      rintro r K2 (⟨hO, rfl, hu2⟩ | ⟨e, b, he, rfl, hu2⟩)
      · simp [htx]
        refine (ihT hI1 hu2.at' (by omega) (by omega)).mono ?_
        rintro r K3 ⟨e, I', E', B', rfl, hu3, hI', hl', hok⟩
        have hu3' := hu3.add (x := .tip) |>.add (x := .tip)
        simp [roomA_eq, hu3'.at', rst, wrap_s (n := O) (by omega)]
        refine ⟨.mk 4 0 0 [] [e] w.at', I', E', B', by simp [Ex.av, Ex.avs], (hu2.trans hu3').set, by omega, hl', ?_⟩
        intro hE
        obtain ⟨-, ho, hs⟩ := hok hE
        exact ⟨rfl, by simp [Ex.ok, Ex.oks, ho], by simp [Ex.size, Ex.sizes]; omega⟩
      · simp
        exact ⟨.mk 0 0 0 [] [] w.at', I, e, b, by simp [Ex.av, Ex.avs], hu2, by omega, hI, fun h => absurd h he⟩
    · simp [hb1]
      refine (is_c hp hw).mono ?_
      rintro r K ⟨rfl, rfl⟩
      by_cases hb2 : isB 0 w [33] = true
      · obtain ⟨hI1, -⟩ := isB_go g hw hb2
        obtain ⟨-, -, htx⟩ := isB_iff.1 hb2
        simp [hb2]
        refine (enter_c hp hw (by omega) ⟨h0, h1⟩).mono ?_
        rintro r K2 (⟨hO, rfl, hu2⟩ | ⟨e, b, he, rfl, hu2⟩)
        · simp [htx]
          refine (ihT hI1 hu2.at' (by omega) (by omega)).mono ?_
          rintro r K3 ⟨e, I', E', B', rfl, hu3, hI', hl', hok⟩
          have hu3' := hu3.add (x := .tip) |>.add (x := .tip)
          simp [roomA_eq, hu3'.at', rst, wrap_s (n := O) (by omega)]
          refine ⟨.mk 5 0 0 [] [e] w.at', I', E', B', by simp [Ex.av, Ex.avs], (hu2.trans hu3').set, by omega, hl', ?_⟩
          intro hE
          obtain ⟨-, ho, hs⟩ := hok hE
          exact ⟨rfl, by simp [Ex.ok, Ex.oks, ho], by simp [Ex.size, Ex.sizes]; omega⟩
        · simp
          exact ⟨.mk 0 0 0 [] [] w.at', I, e, b, by simp [Ex.av, Ex.avs], hu2, by omega, hI, fun h => absurd h he⟩
      · simp [hb2]
        refine (is_c hp hw).mono ?_
        rintro r K ⟨rfl, rfl⟩
        by_cases hb3 : isB 0 w [40] = true
        · obtain ⟨hI1, -⟩ := isB_go g hw hb3
          simp [hb3]
          refine (enter_c hp hw (by omega) ⟨h0, h1⟩).mono ?_
          rintro r K2 (⟨hO, rfl, hu2⟩ | ⟨e, b, he, rfl, hu2⟩)
          · simp
            refine (ihE (I + 1) (by omega) hI1 hu2.at' (by omega) (by omega)).mono ?_
            rintro r K3 ⟨⟨ek, eo, en, es, ks, ea⟩, I', E', B', rfl, hu3, hI', hl', hok⟩
            obtain ⟨w3, hw3⟩ := get_of_lt hl'
            have ht := hu2.trans hu3
            simp [Ex.av]
            refine (need_c hu3.at' hw3 (by omega)).mono ?_
            rintro r K4 ⟨rfl, ⟨hb4, hu4⟩ | ⟨e4, b4, he4, hu4⟩⟩
            · obtain ⟨hI4, hE4⟩ := isB_go g hw3 hb4
              simp [hu4.at', rst, wrap_s (n := O) (by omega)]
              refine ⟨.mk ek eo en es ks ea, I' + 1, E', B', by simp [Ex.av], (ht.trans hu4).set, by omega, by omega, ?_⟩
              intro hE
              obtain ⟨-, ho, hs⟩ := hok hE
              exact ⟨rfl, ho, by omega⟩
            · simp [hu4.at', rst, wrap_s (n := O) (by omega)]
              exact ⟨.mk ek eo en es ks ea, I', e4, b4, by simp [Ex.av], (ht.trans hu4).set, by omega, by omega, fun h => absurd h he4⟩
          · simp
            exact ⟨.mk 0 0 0 [] [] w.at', I, e, b, by simp [Ex.av, Ex.avs], hu2, by omega, hI, fun h => absurd h he⟩
        · simp [hb3]
          by_cases hk1 : w.kind = 1
          · have hI1 := g.2 _ _ hw (by omega)
            simp [hk1, hp, rst, wrap_s (n := (I : Int) + 1) (by omega)]
            exact ⟨.mk 0 0 w.n [] [] w.at', I + 1, 0, B, by simp [Ex.av, Ex.avs], Up.setr hp, by omega, by omega, fun _ => ⟨rfl, by simp [Ex.ok, Ex.oks], by simp [Ex.size, Ex.sizes]; omega⟩⟩
          · simp [hk1]
            refine (is_c hp hw).mono ?_
            rintro r K ⟨rfl, rfl⟩
            by_cases hb4 : isB 0 w [116,114,117,101] = true
            · obtain ⟨hI1, -⟩ := isB_go g hw hb4
              obtain ⟨-, -, ht⟩ := isB_iff.1 hb4
              simp [hb4, ht, hp, rst, wrap_s (n := (I : Int) + 1) (by omega)]
              exact ⟨.mk 1 0 1 [] [] w.at', I + 1, 0, B, by simp [Ex.av, Ex.avs], Up.setr hp, by omega, by omega, fun _ => ⟨rfl, by simp [Ex.ok, Ex.oks], by simp [Ex.size, Ex.sizes]; omega⟩⟩
            · simp [hb4]
              refine (is_c hp hw).mono ?_
              rintro r K ⟨rfl, rfl⟩
              by_cases hb5 : isB 0 w [102,97,108,115,101] = true
              · obtain ⟨hI1, -⟩ := isB_go g hw hb5
                obtain ⟨-, -, ht⟩ := isB_iff.1 hb5
                simp [hb5, ht, hp, rst, wrap_s (n := (I : Int) + 1) (by omega)]
                exact ⟨.mk 1 0 0 [] [] w.at', I + 1, 0, B, by simp [Ex.av, Ex.avs], Up.setr hp, by omega, by omega, fun _ => ⟨rfl, by simp [Ex.ok, Ex.oks], by simp [Ex.size, Ex.sizes]; omega⟩⟩
              · simp [hb5]
                by_cases hk0 : w.kind = 0
                · have hI1 := g.2 _ _ hw (by omega)
                  simp [hk0]
                  refine key_c.mono ?_
                  rintro r K1 ⟨b, rfl, hg⟩
                  have hu := (Up.refl hp).gr hg
                  cases b with
                  | false =>
                    simp
                    refine (ihN hu.at' h0 h1 hI1).mono ?_
                    rintro r K2 ⟨⟨ek, eo, en, es, ks, ea⟩, I', E', B', rfl, hu2, hI', hl', hok⟩
                    simp [Ex.av]
                    exact ⟨.mk ek eo en es ks ea, I', E', B', by simp [Ex.av], hu.trans hu2, hI', hl', hok⟩
                  | true =>
                    simp
                    refine (fail_c hu.at' hw).mono ?_
                    rintro r K2 ⟨rfl, hu2⟩
                    simp
                    exact ⟨.mk 0 0 0 [] [] w.at', I, 11, w.at', by simp [Ex.av, Ex.avs], hu.trans (by simpa using hu2), by omega, hI, by intro h; cases h⟩
                · simp [hk0]
                  refine (fail_c hp hw).mono ?_
                  rintro r K2 ⟨rfl, hu2⟩
                  simp
                  exact ⟨.mk 0 0 0 [] [] w.at', I, 11, w.at', by simp [Ex.av, Ex.avs], by simpa using hu2, by omega, hI, by intro h; cases h⟩
  · simp [c155, hp, rst, hE]
    exact ⟨.mk 0 0 0 [] [] 0, I, E, B, by simp [Ex.av, Ex.avs], Up.refl hp, by omega, hI, fun h => absurd h hE⟩

/-- Expressions are read, of any words. -/
theorem exprs_c {ws : List W} (g : Good ws) (p : Nat) : ∀ (n I : Nat), ws.length - I ≤ n → ThingC ws p I ∧ ExprC ws p I := by
  intro n
  induction n with
  | zero => exact fun I hn => ⟨fun h => absurd h (by omega), fun h => absurd h (by omega)⟩
  | succ n ih =>
    intro I hn
    by_cases hI : I < ws.length
    · have hE : ∀ J, I < J → ExprC ws p J := fun J hJ => (ih J (by omega)).2
      have hN : NameC ws p I := name_c g (hE (I + 2) (by omega)) (list_c g fun J hJ => hE J (by omega))
      have hT := thing_c g (ih (I + 1) (by omega)).1 hE hN
      exact ⟨hT, expr_c g hT hE⟩
    · exact ⟨fun h => absurd h hI, fun h => absurd h hI⟩
theorem Expr_c {ws : List W} (g : Good ws) (p I : Nat) : ExprC ws p I := (exprs_c g p _ I (Nat.le_refl _)).2
end Go.Ab

namespace Go.Ab
open Go.Proofs
attribute [local simp] c81_1 c81_2

set_option maxRecDepth 100000
set_option maxHeartbeats 4000000
/-- The program's reader: its words' reader, how deep it is, and what there is. -/
def qst (p : Nat) (D : Int) (g l f t : AV) : AObj := .cells [.ptr p 0, .int .i64 D, g, l, f, t]
theorem ne_qp {H : List AObj} {ws : List W} {p q I : Nat} {O E B D : Int} {g l f t : AV} (hp : getH H p = some (rst ws I O E B)) (hq : getH H q = some (qst p D g l f t)) : q ≠ p := by
  rintro rfl
  rw [hp] at hq
  simp [rst, qst] at hq
/-- The words' reader has gone on. -/
def RU (ws : List W) (p : Nat) (O : Int) (I : Nat) (E : Int) (H : List AObj) (I' : Nat) (E' : Int) (K : List AObj) : Prop :=
  (∃ B', Up H p (rst ws I' O E' B') K) ∧ I ≤ I' ∧ I' < ws.length ∧ (E' = 0 → E = 0)
theorem RU.trans {ws : List W} {p : Nat} {O : Int} {I I' I'' : Nat} {E E' E'' : Int} {H K M : List AObj} (a : RU ws p O I E H I' E' K) (b : RU ws p O I' E' K I'' E'' M) : RU ws p O I E H I'' E'' M := by
  obtain ⟨⟨B, u⟩, h1, h2, h3⟩ := a
  obtain ⟨⟨B', u'⟩, h1', h2', h3'⟩ := b
  exact ⟨⟨B', u.trans u'⟩, by omega, h2', fun h => h3 (h3' h)⟩

section
variable {ws : List W} {p q I : Nat} {w : W} {O E B D : Int} {g l f t : AV} {H : List AObj}

theorem ok_c (hp : getH H p = some (rst ws I O E B)) (hq : getH H q = some (qst p D g l f t)) :
    SCalls Tryz.prog 48 [.ptr q 0] H (fun r K => r = .ret (.bool (E == 0)) ∧ K = H) := by
  refine fn_start k48 rfl ?_
  simp [c48, hp, hq, rst, qst]
theorem is4_c (hp : getH H p = some (rst ws I O E B)) (hq : getH H q = some (qst p D g l f t)) (hw : ws[I]? = some w) {s : List UInt8} :
    SCalls Tryz.prog 79 [.ptr q 0, .str s] H (fun r K => r = .ret (.bool (isB E w s)) ∧ K = H) := by
  refine fn_start k79 rfl ?_
  simp [c79, hq, qst]
  refine (is_c hp hw).mono ?_
  rintro r K ⟨rfl, rfl⟩
  simp
theorem word_c (hp : getH H p = some (rst ws I O E B)) (hq : getH H q = some (qst p D g l f t)) (hw : ws[I]? = some w) :
    SCalls Tryz.prog 49 [.ptr q 0] H (fun r K => r = .ret w.av ∧ K = H) := by
  refine fn_start k49 rfl ?_
  simp [c49, hp, hq, rst, qst, hw, W.av]
theorem need4_c (hp : getH H p = some (rst ws I O E B)) (hq : getH H q = some (qst p D g l f t)) (hw : ws[I]? = some w) (gd : Good ws) {s : List UInt8} :
    SCalls Tryz.prog 82 [.ptr q 0, .str s] H (fun r K => r = .ret (.tuple []) ∧ ∃ I' E', RU ws p O I E H I' E' K ∧ (E' = 0 → I' = I + 1 ∧ isB E w s = true)) := by
  have hI := (List.getElem?_eq_some_iff.1 hw).1
  have hl := gd.1
  refine fn_start k82 rfl ?_
  simp [c82, hq, qst]
  refine (need_c hp hw (by omega)).mono ?_
  rintro r K ⟨rfl, ⟨hb, hu⟩ | ⟨e, b, he, hu⟩⟩
  · obtain ⟨h1, rfl⟩ := isB_go gd hw hb
    simp
    exact ⟨I + 1, 0, ⟨⟨_, hu⟩, by omega, h1, fun _ => rfl⟩, fun _ => ⟨rfl, hb⟩⟩
  · simp
    exact ⟨I, e, ⟨⟨_, hu⟩, by omega, hI, fun h => absurd h he⟩, fun h => absurd h he⟩
theorem fail4_c (hp : getH H p = some (rst ws I O E B)) (hq : getH H q = some (qst p D g l f t)) (hI : I < ws.length) {e at' : Int} (he : e ≠ 0) :
    SCalls Tryz.prog 86 [.ptr q 0, .int .i64 e, .int .i64 at'] H (fun r K => r = .ret (.tuple []) ∧ ∃ E', E' ≠ 0 ∧ RU ws p O I E H I E' K) := by
  have hqp := ne_qp hp hq
  refine fn_start k86 rfl ?_
  by_cases hE : E = 0
  · subst hE
    simp [c86, hp, hq, rst, qst, hqp.symm]
    exact ⟨e, he, ⟨at', Up.setr hp⟩, by omega, hI, fun h => absurd h he⟩
  · simp [c86, hp, hq, rst, qst, hE]
    exact ⟨E, hE, ⟨B, Up.refl hp⟩, by omega, hI, fun h => h⟩
theorem limit_c (hp : getH H p = some (rst ws I O E B)) (hq : getH H q = some (qst p D g l f t)) (hw : ws[I]? = some w) {n m : Int} :
    SCalls Tryz.prog 80 [.ptr q 0, .int .i64 n, .int .i64 m] H (fun r K => r = .ret (.tuple []) ∧ ∃ E', RU ws p O I E H I E' K ∧ (E' = 0 → n < m)) := by
  have hI := (List.getElem?_eq_some_iff.1 hw).1
  refine fn_start k80 rfl ?_
  by_cases h : n < m
  · simp [c80, Int.not_le.2 h]
    exact ⟨E, ⟨⟨B, Up.refl hp⟩, by omega, hI, fun h => h⟩, fun _ => h⟩
  · simp [c80, Int.not_lt.1 h]
    refine (word_c hp hq hw).mono ?_
    rintro r K ⟨rfl, rfl⟩
    simp [W.av]
    refine (fail4_c hp hq hI (by decide)).mono ?_
    rintro r K ⟨rfl, e', he', hru⟩
    simp
    exact ⟨e', hru, fun h => absurd h he'⟩
theorem name4_c (hp : getH H p = some (rst ws I O E B)) (hq : getH H q = some (qst p D g l f t)) (hw : ws[I]? = some w) (gd : Good ws) :
    SCalls Tryz.prog 81 [.ptr q 0] H (fun r K => ∃ s a I' E', r = .ret (.agg [.str s, .int .i64 a]) ∧ RU ws p O I E H I' E' K ∧ (E' = 0 → I' = I + 1 ∧ s = w.text ∧ a = w.at' ∧ w.kind = 0)) := by
  have hI := (List.getElem?_eq_some_iff.1 hw).1
  have hl := gd.1
  have hqp := ne_qp hp hq
  refine fn_go k81 rfl ?_
  intro Q hQ
  simp [c81]
  refine (word_c hp hq hw).mono ?_
  rintro r K ⟨rfl, rfl⟩
  simp [W.av]
  refine (ok_c hp hq).mono ?_
  rintro r K ⟨rfl, rfl⟩
  by_cases hE : E = 0
  · subst hE
    by_cases hk : w.kind = 0
    · have hI1 := gd.2 _ _ hw (by omega)
      simp [hk]
      refine key_c.mono ?_
      rintro r K1 ⟨b, rfl, hg⟩
      have hu := (Up.refl hp).gr hg
      have hq1 : getH K1 q = some (qst p D g l f t) := by rw [hg.old q (by simp [hq]), hq]
      cases b with
      | false =>
        simp [hq1, qst, hu.at', rst, wrap_s (n := (I : Int) + 1) (by omega)]
        exact hQ _ _ ⟨w.text, w.at', I + 1, 0, rfl, ⟨⟨B, hu.trans (Up.setr hu.at')⟩, by omega, hI1, fun _ => rfl⟩, fun _ => ⟨rfl, rfl, rfl, hk⟩⟩
      | true =>
        simp
        refine (fail4_c hu.at' hq1 hI (by decide)).mono ?_
        rintro r K ⟨rfl, e', he', ⟨⟨b', hu'⟩, -, -, -⟩⟩
        simp
        exact hQ _ _ ⟨[], 0, I, e', rfl, ⟨⟨b', hu.trans hu'⟩, by omega, hI, fun _ => rfl⟩, fun h => absurd h he'⟩
    · simp [hk]
      refine (fail4_c hp hq hI (by decide)).mono ?_
      rintro r K ⟨rfl, e', he', hru⟩
      simp
      exact hQ _ _ ⟨[], 0, I, e', rfl, hru, fun h => absurd h he'⟩
  · simp [hE]
    exact hQ _ _ ⟨[], 0, I, E, rfl, ⟨⟨B, Up.refl hp⟩, by omega, hI, fun h => h⟩, fun h => absurd h hE⟩
end
end Go.Ab

namespace Go.Ab
open Go.Proofs
attribute [local simp] c104_1 c127_1

set_option maxRecDepth 100000
set_option maxHeartbeats 4000000
/-- Both readers, and where they are. -/
structure Here (ws : List W) (p q : Nat) (O D : Int) (g l f t : AV) (I : Nat) (E : Int) (H : List AObj) : Prop where
  hp : ∃ B, getH H p = some (rst ws I O E B)
  hq : getH H q = some (qst p D g l f t)
  hI : I < ws.length
  gd : Good ws
  hO : 0 ≤ O ∧ O ≤ 32

section
variable {ws : List W} {p q I I' : Nat} {O E E' D : Int} {g l f t : AV} {H K M : List AObj}
theorem Here.ne (a : Here ws p q O D g l f t I E H) : q ≠ p := by
  obtain ⟨B, hp⟩ := a.hp
  exact ne_qp hp a.hq
theorem Here.ru (a : Here ws p q O D g l f t I E H) (r : RU ws p O I E H I' E' K) : Here ws p q O D g l f t I' E' K := by
  obtain ⟨⟨B, u⟩, h1, h2, h3⟩ := r
  exact ⟨⟨B, u.at'⟩, by rw [u.old q a.ne (by simp [a.hq]), a.hq], h2, a.gd, a.hO⟩
theorem Here.refl (a : Here ws p q O D g l f t I E H) : RU ws p O I E H I E H := by
  obtain ⟨B, hp⟩ := a.hp
  exact ⟨⟨B, Up.refl hp⟩, Nat.le_refl _, a.hI, fun h => h⟩
theorem RU.gr (r : RU ws p O I E H I' E' K) (h : Gr K M) : RU ws p O I E H I' E' M := by
  obtain ⟨⟨B, u⟩, h1, h2, h3⟩ := r
  exact ⟨⟨B, u.gr h⟩, h1, h2, h3⟩
theorem Here.word (a : Here ws p q O D g l f t I E H) : ∃ w, ws[I]? = some w := get_of_lt a.hI

theorem Here.cok (a : Here ws p q O D g l f t I E H) : SCalls Tryz.prog 48 [.ptr q 0] H (fun r K => r = .ret (.bool (E == 0)) ∧ K = H) := by
  obtain ⟨B, hp⟩ := a.hp
  exact ok_c hp a.hq
theorem Here.cis (a : Here ws p q O D g l f t I E H) {w : W} (hw : ws[I]? = some w) {s : List UInt8} : SCalls Tryz.prog 79 [.ptr q 0, .str s] H (fun r K => r = .ret (.bool (isB E w s)) ∧ K = H) := by
  obtain ⟨B, hp⟩ := a.hp
  exact is4_c hp a.hq hw
theorem Here.cword (a : Here ws p q O D g l f t I E H) {w : W} (hw : ws[I]? = some w) : SCalls Tryz.prog 49 [.ptr q 0] H (fun r K => r = .ret w.av ∧ K = H) := by
  obtain ⟨B, hp⟩ := a.hp
  exact word_c hp a.hq hw
theorem Here.cneed (a : Here ws p q O D g l f t I E H) {w : W} (hw : ws[I]? = some w) {s : List UInt8} :
    SCalls Tryz.prog 82 [.ptr q 0, .str s] H (fun r K => r = .ret (.tuple []) ∧ ∃ I' E', RU ws p O I E H I' E' K ∧ (E' = 0 → I' = I + 1 ∧ isB E w s = true)) := by
  obtain ⟨B, hp⟩ := a.hp
  exact need4_c hp a.hq hw a.gd
theorem Here.cfail (a : Here ws p q O D g l f t I E H) {e at' : Int} (he : e ≠ 0) :
    SCalls Tryz.prog 86 [.ptr q 0, .int .i64 e, .int .i64 at'] H (fun r K => r = .ret (.tuple []) ∧ ∃ E', E' ≠ 0 ∧ RU ws p O I E H I E' K) := by
  obtain ⟨B, hp⟩ := a.hp
  exact fail4_c hp a.hq a.hI he
theorem Here.climit (a : Here ws p q O D g l f t I E H) {n m : Int} :
    SCalls Tryz.prog 80 [.ptr q 0, .int .i64 n, .int .i64 m] H (fun r K => r = .ret (.tuple []) ∧ ∃ E', RU ws p O I E H I E' K ∧ (E' = 0 → n < m)) := by
  obtain ⟨B, hp⟩ := a.hp
  obtain ⟨w, hw⟩ := a.word
  exact limit_c hp a.hq hw
theorem Here.cname (a : Here ws p q O D g l f t I E H) {w : W} (hw : ws[I]? = some w) :
    SCalls Tryz.prog 81 [.ptr q 0] H (fun r K => ∃ s a I' E', r = .ret (.agg [.str s, .int .i64 a]) ∧ RU ws p O I E H I' E' K ∧ (E' = 0 → I' = I + 1 ∧ s = w.text ∧ a = w.at' ∧ w.kind = 0)) := by
  obtain ⟨B, hp⟩ := a.hp
  exact name4_c hp a.hq hw a.gd

/-- The next word is taken. -/
theorem Here.next (a : Here ws p q O D g l f t I E H) (hI : I + 1 < ws.length) {B : Int} : RU ws p O I E H (I + 1) E (setH H p (rst ws (I + 1) O E B)) := by
  obtain ⟨B', hp⟩ := a.hp
  exact ⟨⟨B, Up.setr hp⟩, by omega, hI, fun h => h⟩

theorem Here.ceither (a : Here ws p q O D g l f t I E H) {x y : List UInt8} :
    SCalls Tryz.prog 127 [.ptr q 0, .str x, .str y] H (fun r K => ∃ b I' E', r = .ret (.bool b) ∧ RU ws p O I E H I' E' K ∧ (E' = 0 → I' = I + 1)) := by
  obtain ⟨w, hw⟩ := a.word
  obtain ⟨B, hp⟩ := a.hp
  have hl := a.gd.1
  have hq := a.hq
  have hI := a.hI
  refine fn_go k127 rfl ?_
  intro Q hQ
  simp [c127]
  refine (a.cis hw).mono ?_
  rintro r K ⟨rfl, rfl⟩
  by_cases hb : isB E w y = true
  · obtain ⟨h1, rfl⟩ := isB_go a.gd hw hb
    simp [hb, hp, hq, rst, qst, wrap_s (n := (I : Int) + 1) (by omega)]
    exact hQ _ _ ⟨true, I + 1, 0, rfl, a.next h1 (B := B), fun _ => rfl⟩
  · simp [hb]
    refine (a.cneed hw).mono ?_
    rintro r K ⟨rfl, I', E', hru, hE⟩
    simp
    exact hQ _ _ ⟨false, I', E', rfl, hru, fun h => (hE h).1⟩

theorem Here.ckind (a : Here ws p q O D g l f t I E H) :
    SCalls Tryz.prog 102 [.ptr q 0] H (fun r K => ∃ b c I' E', r = .ret (.agg [.bool b, .bool c]) ∧ RU ws p O I E H I' E' K ∧ (E' = 0 → I' = I + 2)) := by
  refine fn_go k102 rfl ?_
  intro Q hQ
  simp [c102]
  refine a.ceither.mono ?_
  rintro r K ⟨b, I', E', rfl, hru, hE⟩
  simp
  refine (a.ru hru).ceither.mono ?_
  rintro r K2 ⟨c, I2, E2, rfl, hru2, hE2⟩
  simp
  exact hQ _ _ ⟨c, b, I2, E2, rfl, hru.trans hru2, fun h => by rw [hE2 h, hE (hru2.2.2.2 h)]⟩

theorem Here.cexpr (a : Here ws p q O D g l f t I E H) :
    SCalls Tryz.prog 104 [.ptr q 0] H (fun r K => ∃ e I' E', r = .ret (Ex.av e) ∧ RU ws p O I E H I' E' K ∧ (E' = 0 → e.ok ∧ e.size + I ≤ I')) := by
  obtain ⟨B, hp⟩ := a.hp
  have hq := a.hq
  refine fn_go k104 rfl ?_
  intro Q hQ
  simp [c104]
  refine a.cok.mono ?_
  rintro r K ⟨rfl, rfl⟩
  by_cases hE : E = 0
  · subst hE
    simp [hq, qst]
    refine (Expr_c a.gd p I a.hI hp a.hO.1 a.hO.2).mono ?_
    rintro r K1 ⟨⟨ek, eo, en, es, ks, ea⟩, I', E', B', rfl, hu, hI', hl', hok⟩
    simp [Ex.av]
    exact hQ _ _ ⟨.mk ek eo en es ks ea, I', E', by simp [Ex.av], ⟨⟨B', hu⟩, hI', hl', fun h => (hok h).1⟩, fun h => (hok h).2⟩
  · simp [hE]
    exact hQ _ _ ⟨.mk 0 0 0 [] [] 0, I, E, by simp [Ex.av, Ex.avs], a.refl, fun h => absurd h hE⟩

theorem Here.cbound (a : Here ws p q O D g l f t I E H) :
    SCalls Tryz.prog 154 [.ptr q 0] H (fun r K => ∃ e I' E', r = .ret (Ex.av e) ∧ RU ws p O I E H I' E' K ∧ (E' = 0 → e.ok ∧ e.size + I + 2 ≤ I')) := by
  obtain ⟨w, hw⟩ := a.word
  refine fn_go k154 rfl ?_
  intro Q hQ
  simp [c154]
  refine (a.cneed hw).mono ?_
  rintro r K ⟨rfl, I1, E1, hru, hE⟩
  simp
  refine (a.ru hru).cexpr.mono ?_
  rintro r K2 ⟨⟨ek, eo, en, es, ks, ea⟩, I2, E2, rfl, hru2, hE2⟩
  have a2 := (a.ru hru).ru hru2
  obtain ⟨w2, hw2⟩ := a2.word
  simp [Ex.av]
  refine (a2.cneed hw2).mono ?_
  rintro r K3 ⟨rfl, I3, E3, hru3, hE3⟩
  simp
  refine hQ _ _ ⟨.mk ek eo en es ks ea, I3, E3, by simp [Ex.av], (hru.trans hru2).trans hru3, fun h => ?_⟩
  have h2 := hru3.2.2.2 h
  have h1 := hru2.2.2.2 h2
  obtain ⟨ho, hs⟩ := hE2 h2
  have := (hE h1).1
  have := (hE3 h).1
  exact ⟨ho, by omega⟩
end
end Go.Ab

namespace Go.Ab
open Go.Proofs
attribute [local simp] c103_1 c103_2

/-- A statement. -/
inductive St where
  | mk (kind at' : Int) (truth secret : Bool) (name : List UInt8) (index e : List Ex) (body els : List St)
mutual
def St.av : St → AV
  | .mk k a t s n i e b l => .agg [.int .i64 k, .int .i64 a, .bool t, .bool s, .str n, sl (Ex.avs i), sl (Ex.avs e), sl (St.avs b), sl (St.avs l)]
def St.avs : List St → List AV
  | [] => []
  | e :: r => e.av :: St.avs r
end
mutual
def St.size : St → Nat
  | .mk _ _ _ _ _ i e b l => 1 + Ex.sizes i + Ex.sizes e + St.sizes b + St.sizes l
def St.sizes : List St → Nat
  | [] => 0
  | e :: r => e.size + St.sizes r
end
mutual
def St.ok : St → Prop
  | .mk k _ _ _ _ i e b l => Ex.oks i ∧ Ex.oks e ∧ St.oks b ∧ St.oks l ∧ (k = 0 ∧ e.length = 1 ∨ k = 1 ∧ e.length = 1 ∧ i.length ≤ 1 ∨ k = 2 ∧ e.length = 1 ∨ k = 3 ∧ e.length = 1 ∧ l = [] ∨ k = 4 ∨ k = 5 ∧ e.length = 1)
def St.oks : List St → Prop
  | [] => True
  | e :: r => e.ok ∧ St.oks r
end
theorem St.avs_eq (l : List St) : St.avs l = l.map St.av := by
  induction l with
  | nil => rfl
  | cons e r ih => simp [St.avs, ih]
theorem St.avs_append (l m : List St) : St.avs (l ++ m) = St.avs l ++ St.avs m := by simp [St.avs_eq]
theorem St.sizes_append (l m : List St) : St.sizes (l ++ m) = St.sizes l + St.sizes m := by
  induction l with
  | nil => simp [St.sizes]
  | cons e r ih => simp [St.sizes, ih]; omega
theorem St.oks_append (l m : List St) : St.oks (l ++ m) ↔ St.oks l ∧ St.oks m := by
  induction l with
  | nil => simp [St.oks]
  | cons e r ih => simp [St.oks, ih, and_assoc]
theorem St.length_le (l : List St) : l.length ≤ St.sizes l := by
  induction l with
  | nil => simp
  | cons e r ih => cases e; simp [St.sizes, St.size]; omega
@[simp] theorem St.av_okv (e : St) : e.av.okv = true := by cases e; simp [St.av]
@[simp] theorem St.av_proper (e : St) : e.av.proper = true := by cases e; simp [St.av]
@[simp] theorem St.av_scalar (e : St) : e.av.scalar = false := by cases e; simp [St.av]
@[simp] theorem St.av_cells (e : St) : e.av.cells.length = 9 := by cases e; simp [St.av]
@[simp] theorem St.av_erase (e : St) : e.av.erase = e.av := by cases e; simp [St.av]
@[simp] theorem St.av_isLref (q : Nat) (e : St) : isLref q e.av = false := by cases e; simp [St.av]
@[simp] theorem St.av_okD (q : AOper) (os : List AOper) (τ : Env) (e : St) : okD q os e.av τ = true := okD_proper e.av_proper
theorem St.wid (l : List St) : wid 9 (St.avs l) = true := by
  rw [St.avs_eq]
  exact wid_map 9 St.av l fun e => ⟨e.av_okv, e.av_cells⟩

set_option maxRecDepth 100000
set_option maxHeartbeats 4000000
section
variable {ws : List W} {p q I I' : Nat} {O E E' D D' : Int} {g l f t : AV} {H K M : List AObj}

/-- How deep the reader is, was changed, and is as it was. -/
theorem RU.deep (a : Here ws p q O D g l f t I E K) (r : RU ws p O I E (setH K q (qst p D' g l f t)) I' E' M) : RU ws p O I E K I' E' (setH M q (qst p D g l f t)) := by
  obtain ⟨⟨B, u⟩, h1, h2, h3⟩ := r
  have hne := a.ne
  have hq : (getH M q).isSome = true := by rw [u.old q hne (by rw [getH_set_self (by simp [a.hq])]; rfl), getH_set_self (by simp [a.hq])]; rfl
  refine ⟨⟨B, ⟨by rw [getH_set_ne hne]; exact u.at', by simpa using u.len, fun x hx hs => ?_⟩⟩, h1, h2, h3⟩
  by_cases hxq : x = q
  · subst hxq; rw [getH_set_self hq, a.hq]
  · rw [getH_set_ne (Ne.symm hxq), u.old x hx (by rw [getH_set_ne (Ne.symm hxq)]; exact hs), getH_set_ne (Ne.symm hxq)]
theorem Here.deep (a : Here ws p q O D g l f t I E K) : Here ws p q O D' g l f t I E (setH K q (qst p D' g l f t)) := by
  obtain ⟨B, hp⟩ := a.hp
  exact ⟨⟨B, by rw [getH_set_ne a.ne, hp]⟩, getH_set_self (by simp [a.hq]), a.hI, a.gd, a.hO⟩

def StmtC (ws : List W) (I : Nat) : Prop := ∀ {p q : Nat} {O D : Int} {g l f t : AV} {H : List AObj}, Here ws p q O D g l f t I 0 H → 0 ≤ D → D ≤ 32 →
  SCalls Tryz.prog 128 [.ptr q 0] H (fun r K => ∃ s I' E', r = .ret (St.av s) ∧ RU ws p O I 0 H I' E' K ∧ (E' = 0 → s.ok ∧ s.size + I ≤ I'))

/-- A slice that is being made: nil, or one whose end is free. -/
def Tip (H M : List AObj) (v : AV) (xs : List AV) : Prop := (xs = [] ∧ v = .nils) ∨ ∃ t, xs ≠ [] ∧ v = .vs (some t) xs ∧ getH M t = some .tip ∧ lenH H ≤ t
theorem Tip.up {v : AV} {xs : List AV} {o : AObj} (h : Tip H K v xs) (u : Up K p o M) (hp : getH K p ≠ some .tip) : Tip H M v xs := by
  rcases h with h | ⟨t, h0, h1, h2, h3⟩
  · exact .inl h
  · exact .inr ⟨t, h0, h1, by rw [u.old t (fun e => hp (e ▸ h2)) (by simp [h2]), h2], h3⟩
theorem Tip.gr {v : AV} {xs : List AV} (h : Tip H K v xs) (u : Gr K M) : Tip H M v xs := by
  rcases h with h | ⟨t, h0, h1, h2, h3⟩
  · exact .inl h
  · exact .inr ⟨t, h0, h1, by rw [u.old t (by simp [h2]), h2], h3⟩

/-- What was there before is kept from one heap to the next. -/
def Fr (H M M' : List AObj) : Prop := lenH M ≤ lenH M' ∧ ∀ r, r < lenH H → getH M' r = getH M r
theorem RU.fr {I I' : Nat} {E E' : Int} (r : RU ws p O I E H I' E' M) {M' : List AObj} (h : Fr H M M') (hp : (getH H p).isSome = true) : RU ws p O I E H I' E' M' := by
  obtain ⟨⟨B, u⟩, h1, h2, h3⟩ := r
  exact ⟨⟨B, ⟨by rw [h.2 p (getH_lt hp), u.at'], Nat.le_trans u.len h.1, fun x hx hs => by rw [h.2 x (getH_lt hs), u.old x hx hs]⟩⟩, h1, h2, h3⟩
theorem Tip.app {lo : List (Nat × List AV)} {df : List (Nat × List AV)} {e b : Nat} {v x : AV} {xs : List AV} (h : Tip H M v xs) (hM : lenH H ≤ lenH M) (hw : wid e xs = true) (hr : (xs.length + 1) * b ≤ roomA) :
    ∃ v' M', apV ⟨lo, M, df⟩ e b v (some [x]) = some (v', ⟨lo, M', df⟩) ∧ v'.proper = true ∧ Tip H M' v' (xs ++ [x.erase]) ∧ Fr H M M' := by
  rcases h with ⟨rfl, rfl⟩ | ⟨t, h0, rfl, h2, h3⟩
  · refine ⟨.vs (some (lenH M)) [x.erase], addH M .tip, ?_, rfl, .inr ⟨_, by simp, rfl, by simp, hM⟩, by simp, fun r hr => ?_⟩
    · simp at hr
      simp [hr]
    · rw [getH_add_old (getH_isSome.2 (by omega))]
  · refine ⟨.vs (some (lenH M)) (xs ++ [x.erase]), addH (setH M t .dead) .tip, ?_, rfl, .inr ⟨_, by simp, rfl, by simp, hM⟩, by simp, fun r hr => ?_⟩
    · simp [hr, hw, h2]
    · rw [getH_add_old (getH_isSome.2 (by simp; omega)), getH_set_ne (by omega)]
theorem Tip.proper {v : AV} {xs : List AV} (h : Tip H M v xs) : v.proper = true := by rcases h with ⟨-, rfl⟩ | ⟨_, -, rfl, -⟩ <;> rfl
theorem Tip.erase {v : AV} {xs : List AV} (h : Tip H M v xs) : v.erase = sl xs := by
  rcases h with ⟨rfl, rfl⟩ | ⟨t, h0, rfl, -⟩
  · rfl
  · rw [sl_ne h0]; rfl
theorem Tip.drop1 {v : AV} {xs : List AV} (h : Tip H M v xs) : v.drop1 = sl xs := by
  rcases h with ⟨rfl, rfl⟩ | ⟨t, h0, rfl, -⟩
  · rfl
  · rw [sl_ne h0]; rfl
theorem Tip.lref {v : AV} {xs : List AV} (h : Tip H M v xs) (n : Nat) : isLref n v = false := by rcases h with ⟨-, rfl⟩ | ⟨_, -, rfl, -⟩ <;> rfl

def StmtsInv (ws : List W) (p q : Nat) (O D : Int) (g l f t : AV) (s : List UInt8) (I : Nat) (E : Int) (H : List AObj) (n : Nat) (τ : Env) (S : AS) : Prop :=
  ∃ (b : List St) (v : AV) (J : Nat) (F : Int) (M : List AObj), n + J = ws.length + (if F = 0 then 1 else 0) ∧ τ = [(0, .ptr q 0), (1, .str s), (5, v)] ∧ S = ⟨[], M, []⟩ ∧ Tip H M v (St.avs b) ∧
      RU ws p O I E H J F M ∧ (F = 0 → St.oks b ∧ St.sizes b + I ≤ J)

theorem stmts_c (ihS : E = 0 → ∀ J, I ≤ J → StmtC ws J) (a : Here ws p q O D g l f t I E H) (h0 : 0 ≤ D) (h1 : E = 0 → D ≤ 32) {s : List UInt8} :
    SCalls Tryz.prog 103 [.ptr q 0, .str s] H (fun r K => ∃ b I' E', r = .ret (sl (St.avs b)) ∧ RU ws p O I E H I' E' K ∧ (E' = 0 → St.oks b ∧ St.sizes b + I ≤ I')) := by
  have hl := a.gd.1
  refine fn_go k103 rfl ?_
  intro Q hQ
  simp [c103]
  refine loop_keep (n := ws.length + (if E = 0 then 1 else 0) - I) (StmtsInv ws p q O D g l f t s I E H) ?_ ⟨[], .nils, I, E, H, by have := a.hI; omega, rfl, rfl, .inl ⟨rfl, rfl⟩, a.refl, fun _ => ⟨trivial, by simp [St.sizes]⟩⟩
  rintro n τ S ⟨b, v, J, F, M, hn, rfl, rfl, htip, hru, hF⟩
  have a1 := a.ru hru
  obtain ⟨w, hw⟩ := a1.word
  simp
  have hv1 := htip.proper
  have hv2 := htip.erase
  refine a1.cok.mono ?_
  rintro r M' ⟨rfl, rfl⟩
  by_cases hF0 : F = 0
  · subst hF0
    simp
    refine (a1.cis hw).mono ?_
    rintro r M' ⟨rfl, rfl⟩
    by_cases hb : isB 0 w s = true
    · simp [hb, okD_proper hv1, hv1, hv2]
      exact hQ _ _ ⟨b, J, 0, rfl, hru, hF⟩
    · simp [hb]
      have hE := hru.2.2.2 rfl
      refine (ihS hE J hru.2.1 a1 h0 (h1 hE)).mono ?_
      rintro r M2 ⟨⟨sk, sa, stt, ss, sn, si, se, sb, sel⟩, J2, F2, rfl, hru2, hok⟩
      obtain ⟨hb1, hb2⟩ := hF rfl
      have hlen := St.length_le b
      have hJ := a1.hI
      obtain ⟨⟨B1, u1⟩, -⟩ := id hru
      obtain ⟨⟨B2, u2⟩, -⟩ := id hru2
      obtain ⟨B0, hp0⟩ := a.hp
      obtain ⟨B3, hp3⟩ := a1.hp
      have htip2 := (htip.up u2 (by rw [hp3]; simp [rst])).gr ((Gr.refl M2).add (o := .tip))
      obtain ⟨v', M', happ, hv', htip', hfr⟩ := htip2.app (lo := [(6, (St.mk sk sa stt ss sn si se sb sel).av.cells)]) (df := []) (e := 9) (b := 136) (x := (St.mk sk sa stt ss sn si se sb sel).av) (by simp; have := u1.len; have := u2.len; omega) (St.wid b) (by simp [St.avs_eq, roomA_eq]; omega)
      simp [St.av] at happ
      simp [St.av, okD_proper hv1, htip.lref 6, happ, okD_proper hv']
      have hJ2 := hru2.2.1
      have hJ3 := hru2.2.2.1
      have hst : F2 = 0 → J + 1 ≤ J2 := fun h => by have := (hok h).2; simp [St.size] at this; omega
      refine ⟨ws.length + (if F2 = 0 then 1 else 0) - J2, ?_, b ++ [.mk sk sa stt ss sn si se sb sel], v', J2, F2, M', ?_, rfl, rfl, ?_, ((hru.trans hru2).gr ((Gr.refl M2).add (o := .tip))).fr hfr (by simp [hp0]), fun h => ?_⟩
      · by_cases h : F2 = 0
        · have := hst h; simp [h] at hn ⊢; omega
        · simp [h] at hn ⊢; omega
      · by_cases h : F2 = 0 <;> simp [h] <;> omega
      · simpa [St.avs_append, St.avs] using htip'
      · obtain ⟨ho, hs⟩ := hok h
        exact ⟨(St.oks_append _ _).2 ⟨hb1, ho, trivial⟩, by simp [St.sizes_append, St.sizes]; omega⟩
  · simp [hF0, okD_proper hv1, hv1, hv2]
    exact hQ _ _ ⟨b, J, F, rfl, hru, hF⟩
end
end Go.Ab

namespace Go.Ab
open Go.Proofs
attribute [local simp] c84_1

set_option maxRecDepth 100000
set_option maxHeartbeats 4000000
section
variable {ws : List W} {p q I I' : Nat} {O E E' D D' : Int} {g l f t : AV} {H K M : List AObj}

theorem block_c (ih : ∀ J, I < J → StmtC ws J) (a : Here ws p q O D g l f t I E H) (h0 : 0 ≤ D) (h1 : D ≤ 32) :
    SCalls Tryz.prog 84 [.ptr q 0] H (fun r K => ∃ b I' E', r = .ret (sl (St.avs b)) ∧ RU ws p O I E H I' E' K ∧ (E' = 0 → St.oks b ∧ St.sizes b + I + 2 ≤ I')) := by
  obtain ⟨w, hw⟩ := a.word
  refine fn_go k84 rfl ?_
  intro Q hQ
  have hq := a.hq
  have rest : ∀ (E1 : Int) (K1 : List AObj) (τ : Env), RU ws p O I E H I E1 K1 → (E1 = 0 → isB E1 w [123] = true → D < 32) → look τ 0 = some (.ptr q 0) →
      go (SCalls Tryz.prog) c84_1 [] τ ⟨[], K1, []⟩ (aendR [.tmp 2] Q) := by
    intro E1 K1 τ hru hD hτ
    have a1 := a.ru hru
    simp [hτ]
    refine (a1.cneed hw).mono ?_
    rintro r K2 ⟨rfl, I2, E2, hru2, hE2⟩
    have a2 := a1.ru hru2
    have a3 := a2.deep (D' := D + 1)
    simp [a2.hq, qst, wrap_s (n := D + 1) (by omega)]
    have hI12 : E2 = 0 → I2 = I + 1 := fun h => (hE2 h).1
    have hD2 : E2 = 0 → D + 1 ≤ 32 := by
      intro h
      have e1 := hru2.2.2.2 h
      have := hD e1 (hE2 h).2
      omega
    refine (stmts_c (fun h J hJ => ih J (by have := hI12 h; omega)) a3 (by omega) hD2).mono ?_
    rintro r K3 ⟨b, I3, E3, rfl, hru3, hE3⟩
    have a4 := a3.ru hru3
    obtain ⟨w4, hw4⟩ := a4.word
    simp
    refine (a4.cneed hw4).mono ?_
    rintro r K4 ⟨rfl, I4, E4, hru4, hE4⟩
    have a5 := a4.ru hru4
    simp [a5.hq, qst, wrap_s (n := D) (by omega)]
    refine hQ _ _ ⟨b, I4, E4, rfl, (hru.trans hru2).trans (RU.deep a2 (hru3.trans hru4)), fun h => ?_⟩
    have e3 := hru4.2.2.2 h
    have e2 := hru3.2.2.2 e3
    obtain ⟨ho, hs⟩ := hE3 e3
    have := hI12 e2
    have := (hE4 h).1
    exact ⟨ho, by omega⟩
  simp [c84, -c84_1]
  refine a.cok.mono ?_
  rintro r K ⟨rfl, rfl⟩
  by_cases hE : E = 0
  · subst hE
    simp [-c84_1]
    refine (a.cis hw).mono ?_
    rintro r K ⟨rfl, rfl⟩
    by_cases hb : isB 0 w [123] = true
    · by_cases hD : D = 32
      · simp [hb, hq, qst, hD, -c84_1]
        refine (a.cword hw).mono ?_
        rintro r K ⟨rfl, rfl⟩
        simp [W.av, -c84_1]
        refine (a.cfail (by decide)).mono ?_
        rintro r K ⟨rfl, E1, he, hru⟩
        simp [-c84_1]
        exact rest _ _ _ hru (fun h => absurd h he) rfl
      · simp [hb, hq, qst, hD, -c84_1]
        exact rest _ _ _ a.refl (fun _ _ => by omega) rfl
    · simp [hb, -c84_1]
      exact rest _ _ _ a.refl (fun _ h => absurd h hb) rfl
  · simp [hE, -c84_1]
    exact rest _ _ _ a.refl (fun h => absurd h hE) rfl
end
end Go.Ab

namespace Go.Ab
open Go.Proofs
attribute [local simp] c128_1 c128_2 c128_3

set_option maxRecDepth 100000
set_option maxHeartbeats 8000000
theorem stmt_c {ws : List W} {I : Nat} (ih : ∀ J, I < J → StmtC ws J) : StmtC ws I := by
  intro p q O D g l f t H a h0 h1
  obtain ⟨w, hw⟩ := a.word
  obtain ⟨B, hp⟩ := a.hp
  have hl := a.gd.1
  have hI := a.hI
  have hq := a.hq
  have hO := a.hO
  refine fn_go k128 rfl ?_
  intro Q hQ
  have tail1 : ∀ (k : Int) (K : List AObj) (τ : Env) (lo : List (Nat × List AV)), (k = 2 ∨ k = 3) → getH K p = some (rst ws I O 0 B) → I + 1 < ws.length → RU ws p O I 0 H I 0 K → look τ 0 = some (.ptr q 0) → look τ 2 = some (.lref 2 0) → look τ 3 = some (.lref 3 0) →
      look lo 0 = none → look lo 2 = some [.int .i64 0, .int .i64 0, .bool false, .bool false, .str [], .nils, .nils, .nils, .nils] →
      look lo 3 = some [.int .i64 k, .int .i64 w.at', .bool false, .bool false, .str [], .nils, .nils, .nils, .nils] →
      go (SCalls Tryz.prog) c128_1 [.blk 0, .seq c128_3] τ ⟨lo, K, []⟩ (aendR [.cell 2 true 9] Q) := by
    intro k K τ lo hk hp hI1 r0 t0 t2 t3 l0 l2 l3
    have a0 := a.ru r0
    have hq := a0.hq
    simp [t0, t2, t3, l0, l2, l3, hp, hq, rst, qst, wrap_s (n := (I : Int) + 1) (by omega)]
    generalize hK1 : setH K p _ = K1
    have r1 : RU ws p O I 0 K (I + 1) 0 K1 := hK1 ▸ a0.next hI1 (B := B)
    have a1 := a0.ru r1
    refine a1.cbound.mono ?_
    rintro r K2 ⟨x, I2, E2, rfl, r2, e2⟩
    have r2' := r2.gr ((Gr.refl K2).add (o := .tip))
    have a2 := a1.ru r2'
    have hI2 := r2.2.1
    simp
    refine (block_c (fun J hJ => ih J (by omega)) a2 h0 h1).mono ?_
    rintro r K3 ⟨b, I3, E3, rfl, r3, e3⟩
    have a3 := a2.ru r3
    obtain ⟨w3, hw3⟩ := a3.word
    have rr := (r0.trans r1).trans (r2'.trans r3)
    have sz : ∀ J, E3 = 0 → I3 ≤ J → x.ok ∧ St.oks b ∧ 1 + x.size + St.sizes b + I ≤ J := by
      intro J z3 hJ
      have z2 := r3.2.2.2 z3
      obtain ⟨xo, xs⟩ := e2 z2
      obtain ⟨bo, bs⟩ := e3 z3
      exact ⟨xo, bo, by omega⟩
    rcases hk with rfl | rfl
    · simp
      refine (a3.cis hw3).mono ?_
      rintro r K3 ⟨rfl, rfl⟩
      by_cases hb3 : isB E3 w3 [101, 108, 115, 101] = true
      · obtain ⟨hI3, rfl⟩ := isB_go a3.gd hw3 hb3
        obtain ⟨B3, hp3⟩ := a3.hp
        simp [hb3, hp3, a3.hq, rst, qst, wrap_s (n := (I3 : Int) + 1) (by omega)]
        generalize hK4 : setH K3 p _ = K4
        have r4 : RU ws p O I3 0 K3 (I3 + 1) 0 K4 := hK4 ▸ a3.next hI3 (B := B3)
        have a4 := a3.ru r4
        have hI3' := r3.2.1
        refine (block_c (fun J hJ => ih J (by omega)) a4 h0 h1).mono ?_
        rintro r K5 ⟨b5, I5, E5, rfl, r5, e5⟩
        simp
        refine hQ _ _ ⟨.mk 2 w.at' false false [] [] [x] b b5, I5, E5, by simp [St.av, Ex.avs, St.avs], rr.trans (r4.trans r5), fun h => ?_⟩
        obtain ⟨b5o, b5s⟩ := e5 h
        obtain ⟨xo, bo, hs⟩ := sz I3 rfl (Nat.le_refl _)
        exact ⟨by simp [St.ok, Ex.oks, xo, bo, b5o], by simp [St.size, Ex.sizes]; omega⟩
      · simp [hb3]
        refine hQ _ _ ⟨.mk 2 w.at' false false [] [] [x] b [], I3, E3, by simp [St.av, Ex.avs, St.avs], rr, fun h => ?_⟩
        obtain ⟨xo, bo, hs⟩ := sz I3 h (Nat.le_refl _)
        exact ⟨by simp [St.ok, Ex.oks, St.oks, xo, bo], by simp [St.size, Ex.sizes, St.sizes]; omega⟩
    · simp
      refine hQ _ _ ⟨.mk 3 w.at' false false [] [] [x] b [], I3, E3, by simp [St.av, Ex.avs, St.avs], rr, fun h => ?_⟩
      obtain ⟨xo, bo, hs⟩ := sz I3 h (Nat.le_refl _)
      exact ⟨by simp [St.ok, Ex.oks, St.oks, xo, bo], by simp [St.size, Ex.sizes, St.sizes]; omega⟩
  have tail2 : ∀ (K : List AObj) (τ : Env) (lo : List (Nat × List AV)) (s : List UInt8) (iv : AV) (ix : List Ex) (I1 : Nat) (E1 : Int), iv.drop1 = sl (Ex.avs ix) → ix.length ≤ 1 →
      RU ws p O I 0 H I1 E1 K → (E1 = 0 → Ex.oks ix ∧ Ex.sizes ix + I ≤ I1) → look τ 0 = some (.ptr q 0) → look τ 2 = some (.lref 2 0) → look τ 3 = some (.lref 3 0) →
      look lo 0 = none → look lo 2 = some [.int .i64 0, .int .i64 0, .bool false, .bool false, .str [], .nils, .nils, .nils, .nils] →
      look lo 3 = some [.int .i64 1, .int .i64 w.at', .bool false, .bool false, .str s, iv, .nils, .nils, .nils] →
      go (SCalls Tryz.prog) c128_2 [.blk 0, .seq c128_3] τ ⟨lo, K, []⟩ (aendR [.cell 2 true 9] Q) := by
    intro K τ lo s iv ix I1 E1 hiv hix r1 e1 t0 t2 t3 l0 l2 l3
    have a1 := a.ru r1
    obtain ⟨w1, hw1⟩ := a1.word
    simp [t0, t2, t3, l0, l2, l3]
    refine (a1.cneed hw1).mono ?_
    rintro r K2 ⟨rfl, I2, E2, r2, e2⟩
    have a2 := a1.ru r2
    simp
    refine a2.cexpr.mono ?_
    rintro r K3 ⟨x, I3, E3, rfl, r3, e3⟩
    have r3' := r3.gr ((Gr.refl K3).add (o := .tip))
    have a3 := a2.ru r3'
    obtain ⟨w3, hw3⟩ := a3.word
    simp
    refine (a3.cneed hw3).mono ?_
    rintro r K4 ⟨rfl, I4, E4, r4, e4⟩
    simp [hiv]
    refine hQ _ _ ⟨.mk 1 w.at' false false s ix [x] [] [], I4, E4, by simp [St.av, Ex.avs, St.avs], (r1.trans r2).trans (r3'.trans r4), fun h => ?_⟩
    have z3 := r4.2.2.2 h
    have z2 := r3.2.2.2 z3
    have z1 := r2.2.2.2 z2
    obtain ⟨xo, xs⟩ := e3 z3
    obtain ⟨io, is⟩ := e1 z1
    have := (e4 h).1
    have := (e2 z2).1
    exact ⟨by simp [St.ok, Ex.oks, St.oks, xo, io, hix], by simp [St.size, Ex.sizes, St.sizes]; omega⟩
  simp [c128, -c128_1, -c128_2]
  refine (a.cword hw).mono ?_
  rintro r K ⟨rfl, rfl⟩
  simp [W.av, -c128_1, -c128_2]
  refine (a.cis hw).mono ?_
  rintro r K ⟨rfl, rfl⟩
  by_cases hb : isB 0 w [118, 97, 114] = true
  · obtain ⟨hI1, -⟩ := isB_go a.gd hw hb
    simp [hb, hp, hq, rst, qst, wrap_s (n := (I : Int) + 1) (by omega), -c128_1, -c128_2]
    generalize hK1 : setH K p _ = K1
    have r1 : RU ws p O I 0 K (I + 1) 0 K1 := hK1 ▸ a.next hI1 (B := B)
    have a1 := a.ru r1
    refine a1.ckind.mono ?_
    rintro r K2 ⟨b, c, I2, E2, rfl, r2, e2⟩
    have a2 := a1.ru r2
    obtain ⟨w2, hw2⟩ := a2.word
    simp [-c128_1, -c128_2]
    refine (a2.cname hw2).mono ?_
    rintro r K3 ⟨s, sa, I3, E3, rfl, r3, e3⟩
    have a3 := a2.ru r3
    obtain ⟨w3, hw3⟩ := a3.word
    simp [-c128_1, -c128_2]
    refine (a3.cneed hw3).mono ?_
    rintro r K4 ⟨rfl, I4, E4, r4, e4⟩
    have a4 := a3.ru r4
    simp [-c128_1, -c128_2]
    refine a4.cexpr.mono ?_
    rintro r K5 ⟨x, I5, E5, rfl, r5, e5⟩
    have r5' := r5.gr ((Gr.refl K5).add (o := .tip))
    have a5 := a4.ru r5'
    obtain ⟨w5, hw5⟩ := a5.word
    simp [-c128_1, -c128_2]
    refine (a5.cneed hw5).mono ?_
    rintro r K6 ⟨rfl, I6, E6, r6, e6⟩
    simp [-c128_1, -c128_2]
    refine hQ _ _ ⟨.mk 0 w.at' b c s [] [x] [] [], I6, E6, by simp [St.av, Ex.avs, St.avs], ((((r1.trans r2).trans r3).trans r4).trans r5').trans r6, fun h => ?_⟩
    have z5 := r6.2.2.2 h
    have z4 := r5.2.2.2 z5
    have z3 := r4.2.2.2 z4
    have z2 := r3.2.2.2 z3
    obtain ⟨xo, xs⟩ := e5 z5
    have q2 := e2 z2
    have q3 := (e3 z3).1
    have q4 := (e4 z4).1
    have q6 := (e6 h).1
    exact ⟨by simp [St.ok, Ex.oks, St.oks, xo], by simp [St.size, Ex.sizes, St.sizes]; omega⟩
  · simp [hb, -c128_1, -c128_2]
    refine (a.cis hw).mono ?_
    rintro r K ⟨rfl, rfl⟩
    by_cases hb2 : isB 0 w [105, 102] = true
    · obtain ⟨hI1, -⟩ := isB_go a.gd hw hb2
      simp [hb2, -c128_1, -c128_2]
      refine (a.cis hw).mono ?_
      rintro r K ⟨rfl, rfl⟩
      have hb3 : ¬ isB 0 w [119, 104, 105, 108, 101] = true := by
        intro h
        have := (isB_iff.1 hb2).2.2
        rw [(isB_iff.1 h).2.2] at this
        cases this
      simp [hb3, -c128_1, -c128_2]
      exact tail1 2 _ _ _ (.inl rfl) hp hI1 a.refl rfl rfl rfl rfl rfl rfl
    · simp [hb2, -c128_1, -c128_2]
      refine (a.cis hw).mono ?_
      rintro r K ⟨rfl, rfl⟩
      by_cases hb3 : isB 0 w [119, 104, 105, 108, 101] = true
      · obtain ⟨hI1, -⟩ := isB_go a.gd hw hb3
        simp [hb3, -c128_1, -c128_2]
        refine (a.cis hw).mono ?_
        rintro r K ⟨rfl, rfl⟩
        simp [hb3, -c128_1, -c128_2]
        exact tail1 3 _ _ _ (.inr rfl) hp hI1 a.refl rfl rfl rfl rfl rfl rfl
      · simp [hb3, -c128_1, -c128_2]
        refine (a.cis hw).mono ?_
        rintro r K ⟨rfl, rfl⟩
        by_cases hb4 : isB 0 w [108, 111, 99, 107] = true
        · obtain ⟨hI1, -⟩ := isB_go a.gd hw hb4
          simp [hb4, hp, hq, rst, qst, wrap_s (n := (I : Int) + 1) (by omega), -c128_1, -c128_2]
          generalize hK1 : setH K p _ = K1
          have r1 : RU ws p O I 0 K (I + 1) 0 K1 := hK1 ▸ a.next hI1 (B := B)
          have a1 := a.ru r1
          obtain ⟨w1, hw1⟩ := a1.word
          refine (a1.cname hw1).mono ?_
          rintro r K2 ⟨s, sa, I2, E2, rfl, r2, e2⟩
          have a2 := a1.ru r2
          have hI2 := r2.2.1
          simp
          refine (block_c (fun J hJ => ih J (by omega)) a2 h0 h1).mono ?_
          rintro r K3 ⟨b, I3, E3, rfl, r3, e3⟩
          simp
          refine hQ _ _ ⟨.mk 4 w.at' false false s [] [] b [], I3, E3, by simp [St.av, Ex.avs, St.avs], (r1.trans r2).trans r3, fun h => ?_⟩
          obtain ⟨bo, bs⟩ := e3 h
          exact ⟨by simp [St.ok, Ex.oks, St.oks, bo], by simp [St.size, Ex.sizes, St.sizes]; omega⟩
        · simp [hb4, -c128_1, -c128_2]
          refine (a.cis hw).mono ?_
          rintro r K ⟨rfl, rfl⟩
          by_cases hb5 : isB 0 w [111, 117, 116] = true
          · obtain ⟨hI1, -⟩ := isB_go a.gd hw hb5
            simp [hb5, hp, hq, rst, qst, wrap_s (n := (I : Int) + 1) (by omega), -c128_1, -c128_2]
            generalize hK1 : setH K p _ = K1
            have r1 : RU ws p O I 0 K (I + 1) 0 K1 := hK1 ▸ a.next hI1 (B := B)
            have a1 := a.ru r1
            refine a1.cexpr.mono ?_
            rintro r K2 ⟨x, I2, E2, rfl, r2, e2⟩
            have r2' := r2.gr ((Gr.refl K2).add (o := .tip))
            have a2 := a1.ru r2'
            obtain ⟨w2, hw2⟩ := a2.word
            simp
            refine (a2.cneed hw2).mono ?_
            rintro r K3 ⟨rfl, I3, E3, r3, e3⟩
            simp
            refine hQ _ _ ⟨.mk 5 w.at' false false [] [] [x] [] [], I3, E3, by simp [St.av, Ex.avs, St.avs], (r1.trans r2').trans r3, fun h => ?_⟩
            have z2 := r3.2.2.2 h
            obtain ⟨xo, xs⟩ := e2 z2
            have := (e3 h).1
            exact ⟨by simp [St.ok, Ex.oks, St.oks, xo], by simp [St.size, Ex.sizes, St.sizes]; omega⟩
          · simp [hb5, -c128_1, -c128_2]
            refine (a.cname hw).mono ?_
            rintro r K1 ⟨s, sa, I1, E1, rfl, r1, e1⟩
            have a1 := a.ru r1
            obtain ⟨w1, hw1⟩ := a1.word
            simp [-c128_1, -c128_2]
            refine (a1.cis hw1).mono ?_
            rintro r K1 ⟨rfl, rfl⟩
            by_cases hb6 : isB E1 w1 [91] = true
            · obtain ⟨hI2, rfl⟩ := isB_go a1.gd hw1 hb6
              obtain ⟨B1, hp1⟩ := a1.hp
              simp [hb6, hp1, a1.hq, rst, qst, wrap_s (n := (I1 : Int) + 1) (by omega), -c128_1, -c128_2]
              generalize hK2 : setH K1 p _ = K2
              have r2 : RU ws p O I1 0 K1 (I1 + 1) 0 K2 := hK2 ▸ a1.next hI2 (B := B1)
              have a2 := a1.ru r2
              refine a2.cexpr.mono ?_
              rintro r K3 ⟨x, I3, E3, rfl, r3, e3⟩
              have r3' := r3.gr ((Gr.refl K3).add (o := .tip))
              have a3 := a2.ru r3'
              obtain ⟨w3, hw3⟩ := a3.word
              simp [-c128_1, -c128_2]
              refine (a3.cneed hw3).mono ?_
              rintro r K4 ⟨rfl, I4, E4, r4, e4⟩
              simp [-c128_1, -c128_2]
              refine tail2 _ _ _ s _ [x] I4 E4 (by simp [Ex.avs]) (by simp) ((r1.trans r2).trans (r3'.trans r4)) (fun h => ?_) rfl rfl rfl rfl rfl rfl
              have z3 := r4.2.2.2 h
              obtain ⟨xo, xs⟩ := e3 z3
              have hI1 := r1.2.1
              have := (e4 h).1
              exact ⟨⟨xo, trivial⟩, by simp [Ex.sizes]; omega⟩
            · simp [hb6, -c128_1, -c128_2]
              exact tail2 _ _ _ s _ [] I1 E1 (by simp [Ex.avs]) (by simp) r1 (fun h => ⟨trivial, by have := r1.2.1; simp [Ex.sizes]; omega⟩) rfl rfl rfl rfl rfl rfl

theorem StmtC.vac {ws : List W} {I : Nat} (h : ¬ I < ws.length) : StmtC ws I := @fun _ _ _ _ _ _ _ _ _ a _ _ => absurd a.hI h
/-- Statements are read, of any words. -/
theorem stmt_all (ws : List W) : ∀ (n I : Nat), ws.length - I ≤ n → StmtC ws I := by
  intro n
  induction n with
  | zero =>
    intro I hn
    exact StmtC.vac (by omega)
  | succ n ih =>
    intro I hn
    by_cases hI : I < ws.length
    · exact stmt_c fun J hJ => ih J (by omega)
    · exact StmtC.vac hI
theorem Stmt_c (ws : List W) (I : Nat) : StmtC ws I := stmt_all ws _ I (Nat.le_refl _)
end Go.Ab

namespace Go.Ab
open Go.Proofs

set_option maxRecDepth 100000
set_option maxHeartbeats 8000000

structure Glob where
  at' : Int
  name : List UInt8
  truth : Bool
  secret : Bool
  len : Int
  by' : List UInt8
structure Para where
  name : List UInt8
  truth : Bool
  secret : Bool
structure Func where
  at' : Int
  name : List UInt8
  params : List Para
  truth : Bool
  secret : Bool
  body : List St
  ret : Ex
structure Lok where
  at' : Int
  name : List UInt8
structure Prg where
  globals : List Glob
  locks : List Lok
  funcs : List Func
  threads : List (List St)
def Glob.av (g : Glob) : AV := .agg [.int .i64 g.at', .str g.name, .bool g.truth, .bool g.secret, .int .i64 g.len, .str g.by']
def Para.av (p : Para) : AV := .agg [.str p.name, .bool p.truth, .bool p.secret]
def Func.av (f : Func) : AV := .agg ([.int .i64 f.at', .str f.name, sl (f.params.map Para.av), .bool f.truth, .bool f.secret, sl (St.avs f.body)] ++ f.ret.av.cells)
def Lok.av (l : Lok) : AV := .agg [.int .i64 l.at', .str l.name]
def Thr.av (t : List St) : AV := sl (St.avs t)
theorem Glob.wid (l : List Glob) : wid 6 (l.map Glob.av) = true := wid_map 6 Glob.av l fun e => ⟨rfl, rfl⟩
theorem Para.wid (l : List Para) : wid 3 (l.map Para.av) = true := wid_map 3 Para.av l fun e => ⟨rfl, rfl⟩
theorem Lok.wid (l : List Lok) : wid 2 (l.map Lok.av) = true := wid_map 2 Lok.av l fun e => ⟨rfl, rfl⟩
theorem Func.wid (l : List Func) : wid 12 (l.map Func.av) = true := wid_map 12 Func.av l fun e => ⟨rfl, by simp [Func.av]⟩
theorem Thr.wid (l : List (List St)) : wid 1 (l.map Thr.av) = true := wid_map 1 Thr.av l fun e => ⟨by simp [Thr.av], by simp [Thr.av]⟩

/-- The slice is nil, or its end, told by a token that isn't old, is free. -/
def TipN (n : Nat) (M : List AObj) (v : AV) (xs : List AV) : Prop := (xs = [] ∧ v = .nils) ∨ ∃ t, xs ≠ [] ∧ v = .vs (some t) xs ∧ getH M t = some .tip ∧ n ≤ t
def tokOf : AV → List Nat
  | .vs (some t) _ => [t]
  | _ => []
@[simp] theorem tokOf_nils : tokOf .nils = [] := rfl
@[simp] theorem tokOf_vs (t : Nat) (xs : List AV) : tokOf (.vs (some t) xs) = [t] := rfl
/-- Old objects are kept. -/
def FrN (n : Nat) (M M' : List AObj) : Prop := lenH M ≤ lenH M' ∧ ∀ r, r < n → getH M' r = getH M r
theorem FrN.refl (n : Nat) (M : List AObj) : FrN n M M := ⟨Nat.le_refl _, fun _ _ => rfl⟩
theorem FrN.trans {n : Nat} {M M' M'' : List AObj} (a : FrN n M M') (b : FrN n M' M'') : FrN n M M'' := ⟨Nat.le_trans a.1 b.1, fun r h => by rw [b.2 r h, a.2 r h]⟩
theorem FrN.set {n i : Nat} {M : List AObj} {o : AObj} (h : n ≤ i) : FrN n M (setH M i o) := ⟨by simp, fun r hr => getH_set_ne (by omega)⟩
theorem FrN.add {n : Nat} {M : List AObj} {o : AObj} (h : n ≤ lenH M) : FrN n M (addH M o) := ⟨by simp, fun r hr => getH_add_old (getH_isSome.2 (by omega))⟩
theorem FrN.up {n p : Nat} {M M' : List AObj} {o : AObj} (u : Up M p o M') (h : n ≤ p) (hM : n ≤ lenH M) : FrN n M M' := ⟨u.len, fun r hr => u.old r (by omega) (getH_isSome.2 (by omega))⟩
/-- The program that is being read: its four slices. -/
structure PS (n : Nat) (M : List AObj) (g l f t : AV) (P : Prg) : Prop where
  hg : TipN n M g (P.globals.map Glob.av)
  hl : TipN n M l (P.locks.map Lok.av)
  hf : TipN n M f (P.funcs.map Func.av)
  ht : TipN n M t (P.threads.map Thr.av)
  nd : (tokOf g ++ tokOf l ++ tokOf f ++ tokOf t).Nodup
section
variable {n : Nat} {ws : List W} {p q I I' : Nat} {O E E' D D' : Int} {g l f t : AV} {H K M : List AObj} {P : Prg}
theorem TipN.keep {v : AV} {xs : List AV} (h : TipN n K v xs) (hk : ∀ t ∈ tokOf v, getH K t = some .tip → getH M t = some .tip) : TipN n M v xs := by
  rcases h with h | ⟨t, h0, rfl, h2, h3⟩
  · exact .inl h
  · exact .inr ⟨t, h0, rfl, hk t (by simp) h2, h3⟩
theorem TipN.up {v : AV} {xs : List AV} {o : AObj} (h : TipN n K v xs) (u : Up K p o M) (hp : getH K p ≠ some .tip) : TipN n M v xs :=
  h.keep fun t _ h2 => by rw [u.old t (fun e => hp (e ▸ h2)) (by simp [h2]), h2]
theorem PS.keep (h : PS n K g l f t P) (hk : ∀ t, getH K t = some .tip → getH M t = some .tip) : PS n M g l f t P :=
  ⟨h.hg.keep fun t _ => hk t, h.hl.keep fun t _ => hk t, h.hf.keep fun t _ => hk t, h.ht.keep fun t _ => hk t, h.nd⟩
theorem PS.ru (h : PS n K g l f t P) (a : Here ws p q O D g l f t I E K) (r : RU ws p O I E K I' E' M) : PS n M g l f t P := by
  obtain ⟨B, hp⟩ := a.hp
  obtain ⟨⟨B', u⟩, -⟩ := r
  have hn : getH K p ≠ some .tip := by rw [hp]; simp [rst]
  exact h.keep fun t h2 => by rw [u.old t (fun e => hn (e ▸ h2)) (by simp [h2]), h2]
theorem TipN.len {v : AV} {xs : List AV} (h : TipN n M v xs) (S : AS) : lenA S .l v = some xs.length := by
  rcases h with ⟨rfl, rfl⟩ | ⟨t, h0, rfl, -⟩ <;> rfl
theorem TipN.proper {v : AV} {xs : List AV} (h : TipN n M v xs) : v.proper = true := by
  rcases h with ⟨rfl, rfl⟩ | ⟨t, h0, rfl, -⟩ <;> rfl
theorem TipN.okv {v : AV} {xs : List AV} (h : TipN n M v xs) : v.okv = true := by
  rcases h with ⟨rfl, rfl⟩ | ⟨t, h0, rfl, -⟩ <;> rfl
theorem TipN.cells {v : AV} {xs : List AV} (h : TipN n M v xs) : v.cells = [v] := by
  rcases h with ⟨rfl, rfl⟩ | ⟨t, h0, rfl, -⟩ <;> rfl
theorem TipN.drop1 {v : AV} {xs : List AV} (h : TipN n M v xs) : v.drop1 = sl xs := by
  rcases h with ⟨rfl, rfl⟩ | ⟨t, h0, rfl, -⟩
  · rfl
  · rw [sl_ne h0]; rfl
/-- An append: the slice is a new one, its old end is dead, and nothing else has changed. -/
theorem TipN.app {lo df : List (Nat × List AV)} {e b : Nat} {v x : AV} {xs : List AV} (h : TipN n M v xs) (hM : n ≤ lenH M) (hw : wid e xs = true) (hr : (xs.length + 1) * b ≤ roomA) :
    ∃ M', apV ⟨lo, M, df⟩ e b v (some [x]) = some (.vs (some (lenH M)) (xs ++ [x.erase]), ⟨lo, M', df⟩) ∧ TipN n M' (.vs (some (lenH M)) (xs ++ [x.erase])) (xs ++ [x.erase]) ∧
      FrN n M M' ∧ (∀ r, r < lenH M → r ∉ tokOf v → getH M' r = getH M r) := by
  rcases h with ⟨rfl, rfl⟩ | ⟨t, h0, rfl, h2, h3⟩
  · refine ⟨addH M .tip, ?_, .inr ⟨_, by simp, rfl, by simp, hM⟩, .add hM, fun r hr _ => getH_add_old (getH_isSome.2 hr)⟩
    simp at hr
    simp [hr]
  · refine ⟨addH (setH M t .dead) .tip, ?_, .inr ⟨_, by simp, rfl, by simp, hM⟩, (FrN.set h3).trans (.add (by simpa using hM)), fun r hr hn => ?_⟩
    · simp [hr, hw, h2]
    · rw [getH_add_old (getH_isSome.2 (by simpa using hr)), getH_set_ne (fun e => hn (by simp [e]))]
theorem TipN.lt {v : AV} {xs : List AV} (h : TipN n M v xs) : ∀ t ∈ tokOf v, t < lenH M ∧ getH M t = some .tip := by
  rcases h with ⟨rfl, rfl⟩ | ⟨t, h0, rfl, h2, h3⟩
  · simp
  · intro t' ht'
    simp at ht'
    subst ht'
    exact ⟨getH_lt (by simp [h2]), h2⟩
end
end Go.Ab

namespace Go.Ab
open Go.Proofs
attribute [local simp] c101_1 c101_2 c101_3 c101_4

set_option maxRecDepth 100000
set_option maxHeartbeats 8000000
section
variable {ws : List W} {p q I I' : Nat} {O E E' D D' : Int} {g l f t : AV} {H K M : List AObj}

theorem RU.frn {n : Nat} (a : Here ws p q O D g l f t I E K) (r : RU ws p O I E K I' E' M) (hp : n ≤ p) (hM : n ≤ lenH K) : FrN n K M := by
  obtain ⟨⟨B', u⟩, -⟩ := r
  exact .up u hp hM
/-- Objects that aren't the reader's own are kept. -/
theorem RU.frame (r : RU ws p O I E H I' E' K) {M : List AObj} (hf : ∀ x, x < lenH H → getH M x = getH K x) (hM : lenH K ≤ lenH M) (hp : (getH H p).isSome = true) : RU ws p O I E H I' E' M := by
  obtain ⟨⟨B, u⟩, h1, h2, h3⟩ := r
  exact ⟨⟨B, ⟨by rw [hf p (getH_lt hp), u.at'], Nat.le_trans u.len hM, fun x hx hs => by rw [hf x (getH_lt hs), u.old x hx hs]⟩⟩, h1, h2, h3⟩
theorem RU.fn (r : RU ws p O I E H I' E' K) {M : List AObj} (hf : FrN (lenH H) K M) (hp : (getH H p).isSome = true) : RU ws p O I E H I' E' M :=
  r.frame hf.2 hf.1 hp
theorem RU.len (r : RU ws p O I E H I' E' K) : lenH H ≤ lenH K := by
  obtain ⟨⟨B, u⟩, -⟩ := r
  exact u.len
theorem TipN.gr {n : Nat} {v : AV} {xs : List AV} (h : TipN n K v xs) (u : Gr K M) : TipN n M v xs :=
  h.keep fun t _ h2 => by rw [u.old t (by simp [h2]), h2]
theorem TipN.ru {n : Nat} {v : AV} {xs : List AV} (h : TipN n K v xs) (a : Here ws p q O D g l f t I E K) (r : RU ws p O I E K I' E' M) : TipN n M v xs := by
  obtain ⟨B, hp⟩ := a.hp
  obtain ⟨⟨B', u⟩, -⟩ := r
  exact h.up u (by rw [hp]; simp [rst])
theorem TipN.erase {n : Nat} {v : AV} {xs : List AV} (h : TipN n M v xs) : v.erase = sl xs := by
  rcases h with ⟨rfl, rfl⟩ | ⟨t, h0, rfl, -⟩
  · rfl
  · rw [sl_ne h0]; rfl
theorem TipN.lref {n : Nat} {v : AV} {xs : List AV} (h : TipN n M v xs) (m : Nat) : isLref m v = false := by
  rcases h with ⟨-, rfl⟩ | ⟨_, -, rfl, -⟩ <;> rfl

def ParamsInv (ws : List W) (p q : Nat) (O D : Int) (I : Nat) (E : Int) (H : List AObj) (n : Nat) (τ : Env) (S : AS) : Prop :=
  ∃ (b : List Para) (v : AV) (J : Nat) (F : Int) (M : List AObj), n + J = ws.length + (if F = 0 then 1 else 0) ∧ τ = [(0, .ptr q 0), (3, v)] ∧ S = ⟨[], M, []⟩ ∧ TipN (lenH H) M v (b.map Para.av) ∧
      RU ws p O I E H J F M ∧ (F = 0 → b.length ≤ 6)

theorem params_c (a : Here ws p q O D g l f t I E H) :
    SCalls Tryz.prog 101 [.ptr q 0] H (fun r K => ∃ (b : List Para) (I' : Nat) (E' : Int), r = .ret (sl (b.map Para.av)) ∧ RU ws p O I E H I' E' K ∧ (E' = 0 → b.length ≤ 6)) := by
  obtain ⟨w, hw⟩ := a.word
  have hl := a.gd.1
  have hps : (getH H p).isSome = true := by obtain ⟨B, hp⟩ := a.hp; simp [hp]
  refine fn_go k101 rfl ?_
  intro Q hQ
  simp [c101, -c101_4]
  refine (a.cneed hw).mono ?_
  rintro r K ⟨rfl, I1, E1, r1, e1⟩
  have a1 := a.ru r1
  obtain ⟨w1, hw1⟩ := a1.word
  simp [-c101_4]
  refine (a1.cis hw1).mono ?_
  rintro r K ⟨rfl, rfl⟩
  by_cases hb : isB E1 w1 [41] = true
  · obtain ⟨hI1, rfl⟩ := isB_go a1.gd hw1 hb
    obtain ⟨B, hp⟩ := a1.hp
    have := a1.hI
    simp [hb, hp, a1.hq, rst, qst, wrap_s (n := (I1 : Int) + 1) (by omega), -c101_4]
    exact hQ _ _ ⟨[], I1 + 1, 0, by simp, r1.trans (a1.next hI1 (B := B)), fun _ => by simp⟩
  · simp [hb, -c101_1, -c101_2, -c101_3]
    have fin : ∀ (b : List Para) (v : AV) (J : Nat) (F : Int) (M : List AObj) (τ : Env) (lo : List (Nat × List AV)), TipN (lenH H) M v (b.map Para.av) → RU ws p O I E H J F M → (F = 0 → b.length ≤ 6) →
        look τ 0 = some (.ptr q 0) → look τ 3 = some v → look lo 0 = none → look lo 3 = none → go (SCalls Tryz.prog) c101_3 [] τ ⟨lo, M, []⟩ (aendR [.tmp 2] Q) := by
      intro b v J F M τ lo htip hru hF t0 t3 l0 l3
      have a2 := a.ru hru
      obtain ⟨w2, hw2⟩ := a2.word
      simp [t0, t3, l0, l3]
      refine (a2.cneed hw2).mono ?_
      rintro r K2 ⟨rfl, I2, E2, r2, e2⟩
      simp [okD_proper htip.proper, htip.proper, htip.erase]
      exact hQ _ _ ⟨b, I2, E2, rfl, hru.trans r2, fun h => hF (r2.2.2.2 h)⟩
    refine loop_keep (n := ws.length + (if E1 = 0 then 1 else 0) - I1) (ParamsInv ws p q O D I E H) ?_ ⟨[], .nils, I1, E1, K, by have := a1.hI; omega, rfl, rfl, .inl ⟨rfl, rfl⟩, r1, fun _ => by simp⟩
    rintro n τ S ⟨b, v, J, F, M, hn, rfl, rfl, htip, hru, hF⟩
    have a2 := a.ru hru
    have hlen := hru.len
    simp [-c101_1, -c101_2, -c101_3]
    refine a2.cok.mono ?_
    rintro r M' ⟨rfl, rfl⟩
    by_cases hF0 : F = 0
    · subst hF0
      have hb6 := hF rfl
      simp [htip.len, okD_proper htip.proper, -c101_1, -c101_3]
      refine a2.climit.mono ?_
      rintro r M2 ⟨rfl, F2, r2, e2⟩
      have a3 := a2.ru r2
      simp [-c101_1, -c101_3]
      refine a3.ckind.mono ?_
      rintro r M3 ⟨bt, bs, J3, F3, rfl, r3, e3⟩
      have a4 := a3.ru r3
      obtain ⟨w4, hw4⟩ := a4.word
      simp [htip.lref, -c101_1, -c101_3]
      refine (a4.cname hw4).mono ?_
      rintro r M4 ⟨s, sa, J4, F4, rfl, r4, e4⟩
      have htip4 := (((htip.ru a2 r2).ru a3 r3).ru a4 r4).gr ((Gr.refl M4).add (o := .tip))
      have rr := ((((hru.trans r2).trans r3).trans r4).gr ((Gr.refl M4).add (o := .tip)))
      obtain ⟨M', happ, htip', hfr, -⟩ := htip4.app (lo := [(4, [.str s, .bool bt, .bool bs])]) (df := []) (e := 3) (b := 24) (x := (Para.mk s bt bs).av) rr.len (Para.wid b) (by simp [roomA_eq]; omega)
      have rr' := rr.fn hfr hps
      have a5 := a.ru rr'
      obtain ⟨w5, hw5⟩ := a5.word
      simp [Para.av] at happ
      simp [okD_proper htip.proper, htip.lref, happ, -c101_1, -c101_3]
      refine (a5.cis hw5).mono ?_
      rintro r M5 ⟨rfl, rfl⟩
      have htip5 : TipN (lenH H) M5 (.vs (some (lenH M4 + 1)) ((b ++ [Para.mk s bt bs]).map Para.av)) ((b ++ [Para.mk s bt bs]).map Para.av) := by simpa [Para.av] using htip'
      have hb7 : F4 = 0 → (b ++ [Para.mk s bt bs]).length ≤ 6 := fun h => by
        have := e2 (r3.2.2.2 (r4.2.2.2 h))
        simp; omega
      by_cases hb5 : isB F4 w5 [44] = true
      · obtain ⟨hI5, rfl⟩ := isB_go a5.gd hw5 hb5
        obtain ⟨B5, hp5⟩ := a5.hp
        have hJ4 := rr'.2.2.1
        simp [hb5, hp5, a5.hq, rst, qst, wrap_s (n := (J4 : Int) + 1) (by omega)]
        have r6 := a5.next hI5 (B := B5)
        have hn4 := (e4 rfl).1
        have hn3 := e3 (r4.2.2.2 rfl)
        refine ⟨ws.length + 1 - (J4 + 1), ?_, b ++ [Para.mk s bt bs], _, J4 + 1, 0, _, ?_, rfl, rfl, ?_, rr'.trans r6, hb7⟩
        · simp at hn; omega
        · simp; omega
        · have := htip5.ru a5 r6
          simpa [Para.av, rst] using this
      · simp [hb5, -c101_3]
        exact fin _ _ J4 F4 M5 _ _ htip5 rr' hb7 rfl (by simp [Para.av]) rfl rfl
    · simp [hF0, okD_proper htip.proper, -c101_1, -c101_2, -c101_3]
      exact fin b v J F M' _ _ htip hru hF rfl rfl rfl rfl
end
end Go.Ab

namespace Go.Ab
open Go.Proofs

set_option maxRecDepth 100000
set_option maxHeartbeats 8000000
section
variable {n : Nat} {ws : List W} {p q I I' : Nat} {O E E' D D' : Int} {g l f t : AV} {H K M : List AObj} {P : Prg} {lo df : List (Nat × List AV)}

theorem Gr.tip (M : List AObj) : Gr M (addH M .tip) := (Gr.refl M).add
theorem Ex.cells_drop1 (e : Ex) : e.av.cells.map AV.drop1 = e.av.cells := by cases e; simp [Ex.av]
/-- One slice has got one more: the others are as they were. -/
theorem PS.addG (h : PS n M g l f t P) (a : Here ws p q O D g l f t I E M) (hq : n ≤ q) (hM : n ≤ lenH M) (x : Glob) (hr : (P.globals.length + 1) * 56 ≤ roomA) :
    ∃ M', apV ⟨lo, addH M .tip, df⟩ 6 56 g (some [x.av]) = some (.vs (some (lenH M + 1)) ((P.globals ++ [x]).map Glob.av), ⟨lo, M', df⟩) ∧ getH M' q = some (qst p D g l f t) ∧
      Here ws p q O D (.vs (some (lenH M + 1)) ((P.globals ++ [x]).map Glob.av)) l f t I E (setH M' q (qst p D (.vs (some (lenH M + 1)) ((P.globals ++ [x]).map Glob.av)) l f t)) ∧
      PS n (setH M' q (qst p D (.vs (some (lenH M + 1)) ((P.globals ++ [x]).map Glob.av)) l f t)) (.vs (some (lenH M + 1)) ((P.globals ++ [x]).map Glob.av)) l f t { P with globals := P.globals ++ [x] } ∧
      FrN n M (setH M' q (qst p D (.vs (some (lenH M + 1)) ((P.globals ++ [x]).map Glob.av)) l f t)) := by
  obtain ⟨M', e1, e2, e3, e4⟩ := (h.hg.gr (Gr.tip M)).app (lo := lo) (df := df) (e := 6) (b := 56) (x := Glob.av x) (by simp; omega) (Glob.wid _) (by simpa using hr)
  have ev : P.globals.map Glob.av ++ [(Glob.av x).erase] = (P.globals ++ [x]).map Glob.av := by simp [Glob.av]
  rw [ev] at e1 e2
  simp only [lenH_add] at e1 e2
  obtain ⟨B, hp⟩ := a.hp
  have keep : ∀ r o, getH M r = some o → r ∉ tokOf g → getH M' r = some o := fun r o hr hn => by
    have hlt := getH_lt (H := M) (i := r) (by simp [hr])
    rw [e4 r (by simp; omega) hn, getH_add_old (by simp [hr]), hr]
  have nt : ∀ r o, getH M r = some o → o ≠ .tip → r ∉ tokOf g := fun r o hr ho hm => by
    have := (h.hg.lt r hm).2
    rw [hr] at this
    exact ho (Option.some.inj this)
  have kp := keep p _ hp (nt p _ hp (by simp [rst]))
  have kq := keep q _ a.hq (nt q _ a.hq (by simp [qst]))
  have hnd := h.nd
  have tipq : ∀ r, getH M' r = some .tip → getH (setH M' q (qst p D (.vs (some (lenH M + 1)) ((P.globals ++ [x]).map Glob.av)) l f t)) r = some .tip := fun r hr => by
    rw [getH_set_ne (fun e => by rw [e, hr] at kq; simp [qst] at kq), hr]
  have lts : ∀ v xs, TipN n M v xs → ∀ r ∈ tokOf v, r < lenH M := fun v xs hv r hr => (hv.lt r hr).1
  refine ⟨M', e1, kq, ⟨⟨B, by rw [getH_set_ne a.ne, kp]⟩, getH_set_self (by simp [kq]), a.hI, a.gd, a.hO⟩, ⟨e2.keep fun r _ => tipq r, ?_, ?_, ?_, ?_⟩, ((FrN.add hM).trans e3).trans (FrN.set hq)⟩
  · exact h.hl.keep fun r hr h2 => tipq r (keep r _ h2 fun hm => by
      simp only [List.append_assoc, List.nodup_append, List.mem_append] at hnd; grind)
  · exact h.hf.keep fun r hr h2 => tipq r (keep r _ h2 fun hm => by
      simp only [List.append_assoc, List.nodup_append, List.mem_append] at hnd; grind)
  · exact h.ht.keep fun r hr h2 => tipq r (keep r _ h2 fun hm => by
      simp only [List.append_assoc, List.nodup_append, List.mem_append] at hnd; grind)
  · have l1 := lts _ _ h.hl
    have l2 := lts _ _ h.hf
    have l3 := lts _ _ h.ht
    simp only [List.append_assoc, List.nodup_append, List.mem_append, tokOf_vs, List.mem_singleton] at hnd ⊢
    grind
/-- One slice has got one more: the others are as they were. -/
theorem PS.addL (h : PS n M g l f t P) (a : Here ws p q O D g l f t I E M) (hq : n ≤ q) (hM : n ≤ lenH M) (x : Lok) (hr : (P.locks.length + 1) * 24 ≤ roomA) :
    ∃ M', apV ⟨lo, addH M .tip, df⟩ 2 24 l (some [x.av]) = some (.vs (some (lenH M + 1)) ((P.locks ++ [x]).map Lok.av), ⟨lo, M', df⟩) ∧ getH M' q = some (qst p D g l f t) ∧
      Here ws p q O D g (.vs (some (lenH M + 1)) ((P.locks ++ [x]).map Lok.av)) f t I E (setH M' q (qst p D g (.vs (some (lenH M + 1)) ((P.locks ++ [x]).map Lok.av)) f t)) ∧
      PS n (setH M' q (qst p D g (.vs (some (lenH M + 1)) ((P.locks ++ [x]).map Lok.av)) f t)) g (.vs (some (lenH M + 1)) ((P.locks ++ [x]).map Lok.av)) f t { P with locks := P.locks ++ [x] } ∧
      FrN n M (setH M' q (qst p D g (.vs (some (lenH M + 1)) ((P.locks ++ [x]).map Lok.av)) f t)) := by
  obtain ⟨M', e1, e2, e3, e4⟩ := (h.hl.gr (Gr.tip M)).app (lo := lo) (df := df) (e := 2) (b := 24) (x := Lok.av x) (by simp; omega) (Lok.wid _) (by simpa using hr)
  have ev : P.locks.map Lok.av ++ [(Lok.av x).erase] = (P.locks ++ [x]).map Lok.av := by simp [Lok.av]
  rw [ev] at e1 e2
  simp only [lenH_add] at e1 e2
  obtain ⟨B, hp⟩ := a.hp
  have keep : ∀ r o, getH M r = some o → r ∉ tokOf l → getH M' r = some o := fun r o hr hn => by
    have hlt := getH_lt (H := M) (i := r) (by simp [hr])
    rw [e4 r (by simp; omega) hn, getH_add_old (by simp [hr]), hr]
  have nt : ∀ r o, getH M r = some o → o ≠ .tip → r ∉ tokOf l := fun r o hr ho hm => by
    have := (h.hl.lt r hm).2
    rw [hr] at this
    exact ho (Option.some.inj this)
  have kp := keep p _ hp (nt p _ hp (by simp [rst]))
  have kq := keep q _ a.hq (nt q _ a.hq (by simp [qst]))
  have hnd := h.nd
  have tipq : ∀ r, getH M' r = some .tip → getH (setH M' q (qst p D g (.vs (some (lenH M + 1)) ((P.locks ++ [x]).map Lok.av)) f t)) r = some .tip := fun r hr => by
    rw [getH_set_ne (fun e => by rw [e, hr] at kq; simp [qst] at kq), hr]
  have lts : ∀ v xs, TipN n M v xs → ∀ r ∈ tokOf v, r < lenH M := fun v xs hv r hr => (hv.lt r hr).1
  refine ⟨M', e1, kq, ⟨⟨B, by rw [getH_set_ne a.ne, kp]⟩, getH_set_self (by simp [kq]), a.hI, a.gd, a.hO⟩, ⟨?_, e2.keep fun r _ => tipq r, ?_, ?_, ?_⟩, ((FrN.add hM).trans e3).trans (FrN.set hq)⟩
  · exact h.hg.keep fun r hr h2 => tipq r (keep r _ h2 fun hm => by
      simp only [List.append_assoc, List.nodup_append, List.mem_append] at hnd; grind)
  · exact h.hf.keep fun r hr h2 => tipq r (keep r _ h2 fun hm => by
      simp only [List.append_assoc, List.nodup_append, List.mem_append] at hnd; grind)
  · exact h.ht.keep fun r hr h2 => tipq r (keep r _ h2 fun hm => by
      simp only [List.append_assoc, List.nodup_append, List.mem_append] at hnd; grind)
  · have l1 := lts _ _ h.hg
    have l2 := lts _ _ h.hf
    have l3 := lts _ _ h.ht
    simp only [List.append_assoc, List.nodup_append, List.mem_append, tokOf_vs, List.mem_singleton] at hnd ⊢
    grind
/-- One slice has got one more: the others are as they were. -/
theorem PS.addF (h : PS n M g l f t P) (a : Here ws p q O D g l f t I E M) (hq : n ≤ q) (hM : n ≤ lenH M) (x : Func) (hr : (P.funcs.length + 1) * 152 ≤ roomA) :
    ∃ M', apV ⟨lo, addH M .tip, df⟩ 12 152 f (some [x.av]) = some (.vs (some (lenH M + 1)) ((P.funcs ++ [x]).map Func.av), ⟨lo, M', df⟩) ∧ getH M' q = some (qst p D g l f t) ∧
      Here ws p q O D g l (.vs (some (lenH M + 1)) ((P.funcs ++ [x]).map Func.av)) t I E (setH M' q (qst p D g l (.vs (some (lenH M + 1)) ((P.funcs ++ [x]).map Func.av)) t)) ∧
      PS n (setH M' q (qst p D g l (.vs (some (lenH M + 1)) ((P.funcs ++ [x]).map Func.av)) t)) g l (.vs (some (lenH M + 1)) ((P.funcs ++ [x]).map Func.av)) t { P with funcs := P.funcs ++ [x] } ∧
      FrN n M (setH M' q (qst p D g l (.vs (some (lenH M + 1)) ((P.funcs ++ [x]).map Func.av)) t)) := by
  obtain ⟨M', e1, e2, e3, e4⟩ := (h.hf.gr (Gr.tip M)).app (lo := lo) (df := df) (e := 12) (b := 152) (x := Func.av x) (by simp; omega) (Func.wid _) (by simpa using hr)
  have ev : P.funcs.map Func.av ++ [(Func.av x).erase] = (P.funcs ++ [x]).map Func.av := by simp [Func.av, Ex.cells_drop1]
  rw [ev] at e1 e2
  simp only [lenH_add] at e1 e2
  obtain ⟨B, hp⟩ := a.hp
  have keep : ∀ r o, getH M r = some o → r ∉ tokOf f → getH M' r = some o := fun r o hr hn => by
    have hlt := getH_lt (H := M) (i := r) (by simp [hr])
    rw [e4 r (by simp; omega) hn, getH_add_old (by simp [hr]), hr]
  have nt : ∀ r o, getH M r = some o → o ≠ .tip → r ∉ tokOf f := fun r o hr ho hm => by
    have := (h.hf.lt r hm).2
    rw [hr] at this
    exact ho (Option.some.inj this)
  have kp := keep p _ hp (nt p _ hp (by simp [rst]))
  have kq := keep q _ a.hq (nt q _ a.hq (by simp [qst]))
  have hnd := h.nd
  have tipq : ∀ r, getH M' r = some .tip → getH (setH M' q (qst p D g l (.vs (some (lenH M + 1)) ((P.funcs ++ [x]).map Func.av)) t)) r = some .tip := fun r hr => by
    rw [getH_set_ne (fun e => by rw [e, hr] at kq; simp [qst] at kq), hr]
  have lts : ∀ v xs, TipN n M v xs → ∀ r ∈ tokOf v, r < lenH M := fun v xs hv r hr => (hv.lt r hr).1
  refine ⟨M', e1, kq, ⟨⟨B, by rw [getH_set_ne a.ne, kp]⟩, getH_set_self (by simp [kq]), a.hI, a.gd, a.hO⟩, ⟨?_, ?_, e2.keep fun r _ => tipq r, ?_, ?_⟩, ((FrN.add hM).trans e3).trans (FrN.set hq)⟩
  · exact h.hg.keep fun r hr h2 => tipq r (keep r _ h2 fun hm => by
      simp only [List.append_assoc, List.nodup_append, List.mem_append] at hnd; grind)
  · exact h.hl.keep fun r hr h2 => tipq r (keep r _ h2 fun hm => by
      simp only [List.append_assoc, List.nodup_append, List.mem_append] at hnd; grind)
  · exact h.ht.keep fun r hr h2 => tipq r (keep r _ h2 fun hm => by
      simp only [List.append_assoc, List.nodup_append, List.mem_append] at hnd; grind)
  · have l1 := lts _ _ h.hg
    have l2 := lts _ _ h.hl
    have l3 := lts _ _ h.ht
    simp only [List.append_assoc, List.nodup_append, List.mem_append, tokOf_vs, List.mem_singleton] at hnd ⊢
    grind
/-- One slice has got one more: the others are as they were. -/
theorem PS.addT (h : PS n M g l f t P) (a : Here ws p q O D g l f t I E M) (hq : n ≤ q) (hM : n ≤ lenH M) (x : List St) (hr : (P.threads.length + 1) * 24 ≤ roomA) :
    ∃ M', apV ⟨lo, addH M .tip, df⟩ 1 24 t (some [Thr.av x]) = some (.vs (some (lenH M + 1)) ((P.threads ++ [x]).map Thr.av), ⟨lo, M', df⟩) ∧ getH M' q = some (qst p D g l f t) ∧
      Here ws p q O D g l f (.vs (some (lenH M + 1)) ((P.threads ++ [x]).map Thr.av)) I E (setH M' q (qst p D g l f (.vs (some (lenH M + 1)) ((P.threads ++ [x]).map Thr.av)))) ∧
      PS n (setH M' q (qst p D g l f (.vs (some (lenH M + 1)) ((P.threads ++ [x]).map Thr.av)))) g l f (.vs (some (lenH M + 1)) ((P.threads ++ [x]).map Thr.av)) { P with threads := P.threads ++ [x] } ∧
      FrN n M (setH M' q (qst p D g l f (.vs (some (lenH M + 1)) ((P.threads ++ [x]).map Thr.av)))) := by
  obtain ⟨M', e1, e2, e3, e4⟩ := (h.ht.gr (Gr.tip M)).app (lo := lo) (df := df) (e := 1) (b := 24) (x := Thr.av x) (by simp; omega) (Thr.wid _) (by simpa using hr)
  have ev : P.threads.map Thr.av ++ [(Thr.av x).erase] = (P.threads ++ [x]).map Thr.av := by simp [Thr.av]
  rw [ev] at e1 e2
  simp only [lenH_add] at e1 e2
  obtain ⟨B, hp⟩ := a.hp
  have keep : ∀ r o, getH M r = some o → r ∉ tokOf t → getH M' r = some o := fun r o hr hn => by
    have hlt := getH_lt (H := M) (i := r) (by simp [hr])
    rw [e4 r (by simp; omega) hn, getH_add_old (by simp [hr]), hr]
  have nt : ∀ r o, getH M r = some o → o ≠ .tip → r ∉ tokOf t := fun r o hr ho hm => by
    have := (h.ht.lt r hm).2
    rw [hr] at this
    exact ho (Option.some.inj this)
  have kp := keep p _ hp (nt p _ hp (by simp [rst]))
  have kq := keep q _ a.hq (nt q _ a.hq (by simp [qst]))
  have hnd := h.nd
  have tipq : ∀ r, getH M' r = some .tip → getH (setH M' q (qst p D g l f (.vs (some (lenH M + 1)) ((P.threads ++ [x]).map Thr.av)))) r = some .tip := fun r hr => by
    rw [getH_set_ne (fun e => by rw [e, hr] at kq; simp [qst] at kq), hr]
  have lts : ∀ v xs, TipN n M v xs → ∀ r ∈ tokOf v, r < lenH M := fun v xs hv r hr => (hv.lt r hr).1
  refine ⟨M', e1, kq, ⟨⟨B, by rw [getH_set_ne a.ne, kp]⟩, getH_set_self (by simp [kq]), a.hI, a.gd, a.hO⟩, ⟨?_, ?_, ?_, e2.keep fun r _ => tipq r, ?_⟩, ((FrN.add hM).trans e3).trans (FrN.set hq)⟩
  · exact h.hg.keep fun r hr h2 => tipq r (keep r _ h2 fun hm => by
      simp only [List.append_assoc, List.nodup_append, List.mem_append] at hnd; grind)
  · exact h.hl.keep fun r hr h2 => tipq r (keep r _ h2 fun hm => by
      simp only [List.append_assoc, List.nodup_append, List.mem_append] at hnd; grind)
  · exact h.hf.keep fun r hr h2 => tipq r (keep r _ h2 fun hm => by
      simp only [List.append_assoc, List.nodup_append, List.mem_append] at hnd; grind)
  · have l1 := lts _ _ h.hg
    have l2 := lts _ _ h.hl
    have l3 := lts _ _ h.hf
    simp only [List.append_assoc, List.nodup_append, List.mem_append, tokOf_vs, List.mem_singleton] at hnd ⊢
    grind
end
end Go.Ab

namespace Go.Ab
open Go.Proofs

set_option maxRecDepth 100000
set_option maxHeartbeats 8000000
/-- The program's reader, whole. -/
structure Rdr (n : Nat) (ws : List W) (p q : Nat) (O D : Int) (P : Prg) (I : Nat) (E : Int) (H : List AObj) : Prop where
  here : ∃ g l f t, Here ws p q O D g l f t I E H ∧ PS n H g l f t P
  np : n ≤ p
  nq : n ≤ q
  nH : n ≤ lenH H
section
variable {n : Nat} {ws : List W} {p q I I' : Nat} {O E E' D D' : Int} {g l f t : AV} {H K M : List AObj} {P : Prg}

theorem global_c (R : Rdr n ws p q O D P I E H) (hP : P.globals.length ≤ 32) :
    SCalls Tryz.prog 85 [.ptr q 0] H (fun r K => ∃ (x : Glob) (I' : Nat) (E' : Int), r = .ret (.tuple []) ∧ Rdr n ws p q O D { P with globals := P.globals ++ [x] } I' E' K ∧ FrN n H K ∧ I ≤ I' ∧
      (E' = 0 → E = 0 ∧ I + 3 ≤ I' ∧ P.globals.length < 32 ∧ 0 ≤ x.len ∧ x.len ≤ 64 ∧ ∃ w, ws[I + 2]? = some w ∧ x.at' = w.at' ∧ x.name = w.text ∧ w.kind = 0)) := by
  obtain ⟨⟨g, l, f, t, a, ps⟩, np, nq, nH⟩ := R
  have hl := a.gd.1
  refine fn_go k85 rfl ?_
  intro Q hQ
  have hq := a.hq
  have tail3 : ∀ (x : Glob) (J : Nat) (F : Int) (M : List AObj) (τ : Env) (lo : List (Nat × List AV)), RU ws p O I E H J F M → look τ 0 = some (.ptr q 0) → look τ 2 = some (.lref 2 0) → look lo 0 = none →
      look lo 2 = some [.int .i64 x.at', .str x.name, .bool x.truth, .bool x.secret, .int .i64 x.len, .str x.by'] → P.globals.length ≤ 33 →
      (F = 0 → E = 0 ∧ I + 3 ≤ J ∧ P.globals.length < 32 ∧ 0 ≤ x.len ∧ x.len ≤ 64 ∧ ∃ w, ws[I + 2]? = some w ∧ x.at' = w.at' ∧ x.name = w.text ∧ w.kind = 0) →
      go (SCalls Tryz.prog) c85_3 [] τ ⟨lo, M, []⟩ (aendR [] Q) := by
    intro x J F M τ lo r1 t0 t2 l0 l2 hlen hF
    have a1 := a.ru r1
    have ps1 := ps.ru a r1
    obtain ⟨w1, hw1⟩ := a1.word
    simp [c85_3, t0, t2, l0, l2]
    refine (a1.cneed hw1).mono ?_
    rintro r K2 ⟨rfl, I2, E2, r2, e2⟩
    have a2 := a1.ru r2
    have ps2 := ps1.ru a1 r2
    have fr2 : FrN n H K2 := (r1.frn a np nH).trans (r2.frn a1 np (by have := r1.len; omega))
    have hM2 : n ≤ lenH K2 := by have := fr2.1; omega
    obtain ⟨M', happ, hq', a3, ps3, fr3⟩ := ps2.addG (lo := [(2, [.int .i64 x.at', .str x.name, .bool x.truth, .bool x.secret, .int .i64 x.len, .str x.by'])]) (df := []) a2 nq hM2 x (by simp [roomA_eq]; omega)
    simp [Glob.av] at happ
    simp [a2.hq, qst, ps2.hg.okv, okD_proper ps2.hg.proper, ps2.hg.lref, happ, hq']
    have hQ' := hQ (.ret (.tuple [])) _ ⟨x, I2, E2, rfl, ⟨⟨_, _, _, _, a3, ps3⟩, np, nq, by have := fr3.1; omega⟩, fr2.trans fr3, by have := r1.2.1; have := r2.2.1; omega, fun h => by
      have h1 := hF (r2.2.2.2 h)
      have h2 := r2.2.1
      exact ⟨h1.1, by omega, h1.2.2⟩⟩
    simpa [Glob.av, qst] using hQ'
  have tail4 : ∀ (x : Glob) (J : Nat) (F : Int) (M : List AObj) (τ : Env) (lo : List (Nat × List AV)), x.by' = [] → RU ws p O I E H J F M → look τ 0 = some (.ptr q 0) → look τ 2 = some (.lref 2 0) → look lo 0 = none →
      look lo 2 = some [.int .i64 x.at', .str x.name, .bool x.truth, .bool x.secret, .int .i64 x.len, .str x.by'] → P.globals.length ≤ 33 →
      (F = 0 → E = 0 ∧ I + 3 ≤ J ∧ P.globals.length < 32 ∧ 0 ≤ x.len ∧ x.len ≤ 64 ∧ ∃ w, ws[I + 2]? = some w ∧ x.at' = w.at' ∧ x.name = w.text ∧ w.kind = 0) →
      go (SCalls Tryz.prog) c85_4 [] τ ⟨lo, M, []⟩ (aendR [] Q) := by
    intro x J F M τ lo hby r1 t0 t2 l0 l2 hlen hF
    have a1 := a.ru r1
    obtain ⟨w1, hw1⟩ := a1.word
    simp [c85_4, t0, t2, l0, l2]
    refine (a1.cis hw1).mono ?_
    rintro r K2 ⟨rfl, rfl⟩
    by_cases hb : isB F w1 [98, 121] = true
    · obtain ⟨hJ, rfl⟩ := isB_go a1.gd hw1 hb
      obtain ⟨B1, hp1⟩ := a1.hp
      simp [hb, hp1, a1.hq, rst, qst, wrap_s (n := (J : Int) + 1) (by omega)]
      generalize hK3 : setH K2 p _ = K3
      have r2 : RU ws p O J 0 K2 (J + 1) 0 K3 := hK3 ▸ a1.next hJ (B := B1)
      have a2 := a1.ru r2
      obtain ⟨w2, hw2⟩ := a2.word
      refine (a2.cname hw2).mono ?_
      rintro r K4 ⟨s, sa, J4, F4, rfl, r4, e4⟩
      simp
      refine tail3 { x with by' := s } J4 F4 K4 _ _ ((r1.trans r2).trans r4) rfl rfl rfl rfl hlen fun h => ?_
      have h1 := hF rfl
      have h2 := r4.2.1
      exact ⟨h1.1, by omega, h1.2.2⟩
    · simp [hb]
      exact tail3 x J F K2 _ _ r1 rfl rfl rfl rfl hlen hF
  have hlen : P.globals.length ≤ 33 := by omega
  have tail1 : ∀ (x : Glob) (J : Nat) (F : Int) (M : List AObj) (τ : Env) (lo : List (Nat × List AV)), x.by' = [] → RU ws p O I E H J F M → look τ 0 = some (.ptr q 0) → look τ 2 = some (.lref 2 0) → look lo 0 = none →
      look lo 2 = some [.int .i64 x.at', .str x.name, .bool x.truth, .bool x.secret, .int .i64 x.len, .str x.by'] →
      (F = 0 → E = 0 ∧ I + 3 ≤ J ∧ P.globals.length < 32 ∧ 0 ≤ x.len ∧ x.len ≤ 64 ∧ ∃ w, ws[I + 2]? = some w ∧ x.at' = w.at' ∧ x.name = w.text ∧ w.kind = 0) →
      go (SCalls Tryz.prog) c85_1 [.seq c85_4] τ ⟨lo, M, []⟩ (aendR [] Q) := by
    intro x J F M τ lo hby r1 t0 t2 l0 l2 hF
    have a1 := a.ru r1
    obtain ⟨w1, hw1⟩ := a1.word
    simp [c85_1, t0, t2, l0, l2]
    refine (a1.cneed hw1).mono ?_
    rintro r K2 ⟨rfl, I2, E2, r2, e2⟩
    simp
    refine tail4 x I2 E2 K2 _ _ hby (r1.trans r2) rfl rfl rfl rfl hlen fun h => ?_
    have h1 := hF (r2.2.2.2 h)
    have h2 := r2.2.1
    exact ⟨h1.1, by omega, h1.2.2⟩
  simp [c85, hq, qst, ps.hg.len, okD_proper ps.hg.proper, ps.hg.okv]
  refine a.climit.mono ?_
  rintro r K ⟨rfl, E1, r1, e1⟩
  have a1 := a.ru r1
  simp
  refine a1.ckind.mono ?_
  rintro r K2 ⟨bt, bs, I2, E2, rfl, r2, e2⟩
  have a2 := a1.ru r2
  obtain ⟨w2, hw2⟩ := a2.word
  simp
  refine (a2.cname hw2).mono ?_
  rintro r K3 ⟨s, sa, I3, E3, rfl, r3, e3⟩
  have a3 := a2.ru r3
  obtain ⟨w3, hw3⟩ := a3.word
  have rr := (r1.trans r2).trans r3
  have facts : E3 = 0 → E = 0 ∧ I + 3 ≤ I3 ∧ P.globals.length < 32 ∧ ∃ w, ws[I + 2]? = some w ∧ sa = w.at' ∧ s = w.text ∧ w.kind = 0 := by
    intro h
    have z2 := r3.2.2.2 h
    have z1 := r2.2.2.2 z2
    obtain ⟨q1, q2, q3, q4⟩ := e3 h
    have q5 := e2 z2
    subst q5
    exact ⟨r1.2.2.2 z1, by omega, by have := e1 z1; omega, w2, hw2, q3, q2, q4⟩
  simp
  refine (a3.cis hw3).mono ?_
  rintro r K3 ⟨rfl, rfl⟩
  by_cases hb : isB E3 w3 [91] = true
  · obtain ⟨hJ, rfl⟩ := isB_go a3.gd hw3 hb
    obtain ⟨B3, hp3⟩ := a3.hp
    obtain ⟨f1, f2, f3, f4⟩ := facts rfl
    simp [hb, hp3, a3.hq, rst, qst, wrap_s (n := (I3 : Int) + 1) (by omega)]
    generalize hK4 : setH K3 p _ = K4
    have r4 : RU ws p O I3 0 K3 (I3 + 1) 0 K4 := hK4 ▸ a3.next hJ (B := B3)
    have a4 := a3.ru r4
    obtain ⟨w4, hw4⟩ := a4.word
    refine (a4.cword hw4).mono ?_
    rintro r K4 ⟨rfl, rfl⟩
    by_cases hk : w4.kind = 1
    · by_cases hn1 : w4.n < 1
      · simp [W.av, hk, hn1]
        refine (a4.cfail (by decide)).mono ?_
        rintro r K5 ⟨rfl, E5, he5, r5⟩
        have a5 := a4.ru r5
        simp [c85_2]
        refine a5.cok.mono ?_
        rintro r K5 ⟨rfl, rfl⟩
        simp [he5]
        exact tail1 ⟨sa, s, bt, bs, 0, []⟩ (I3 + 1) E5 K5 _ _ rfl (rr.trans (r4.trans r5)) rfl rfl rfl rfl (fun h => absurd h he5)
      · by_cases hn2 : 64 < w4.n
        · simp [W.av, hk, hn1, hn2]
          refine (a4.cfail (by decide)).mono ?_
          rintro r K5 ⟨rfl, E5, he5, r5⟩
          have a5 := a4.ru r5
          simp [c85_2]
          refine a5.cok.mono ?_
          rintro r K5 ⟨rfl, rfl⟩
          simp [he5]
          exact tail1 ⟨sa, s, bt, bs, 0, []⟩ (I3 + 1) E5 K5 _ _ rfl (rr.trans (r4.trans r5)) rfl rfl rfl rfl (fun h => absurd h he5)
        · have hI4 := a4.gd.2 _ _ hw4 (by omega)
          obtain ⟨B4, hp4⟩ := a4.hp
          simp [W.av, hk, hn1, hn2, c85_2]
          refine a4.cok.mono ?_
          rintro r K5 ⟨rfl, rfl⟩
          simp [hp4, a4.hq, rst, qst, wrap_s (n := (I3 : Int) + 1 + 1) (by omega)]
          have r5 := a4.next hI4 (B := B4)
          refine tail1 ⟨sa, s, bt, bs, w4.n, []⟩ (I3 + 1 + 1) 0 _ _ _ rfl (rr.trans (r4.trans r5)) rfl rfl rfl rfl (fun h => ⟨f1, by omega, f3, by simp; omega, by simp; omega, f4⟩)
    · simp [W.av, hk]
      refine (a4.cfail (by decide)).mono ?_
      rintro r K5 ⟨rfl, E5, he5, r5⟩
      have a5 := a4.ru r5
      simp [c85_2]
      refine a5.cok.mono ?_
      rintro r K5 ⟨rfl, rfl⟩
      simp [he5]
      exact tail1 ⟨sa, s, bt, bs, 0, []⟩ (I3 + 1) E5 K5 _ _ rfl (rr.trans (r4.trans r5)) rfl rfl rfl rfl (fun h => absurd h he5)
  · simp [hb]
    refine tail4 ⟨sa, s, bt, bs, 0, []⟩ I3 E3 K3 _ _ rfl rr rfl rfl rfl rfl hlen fun h => ?_
    obtain ⟨f1, f2, f3, f4⟩ := facts h
    exact ⟨f1, f2, f3, by simp, by simp, f4⟩
end
end Go.Ab

namespace Go.Ab
open Go.Proofs

set_option maxRecDepth 100000
set_option maxHeartbeats 8000000
section
variable {n : Nat} {ws : List W} {p q I I' : Nat} {O E E' D D' : Int} {g l f t : AV} {H K M : List AObj} {P : Prg}

theorem PS.setq {o : AObj} (h : PS n K g l f t P) (a : Here ws p q O D g l f t I E K) : PS n (setH K q o) g l f t P :=
  h.keep fun x hx => by rw [getH_set_ne (fun e => by rw [← e, a.hq] at hx; simp [qst] at hx), hx]

theorem function_c (R : Rdr n ws p q O D P I 0 H) (hP : P.funcs.length ≤ 16) (h0 : 0 ≤ D) (h1 : D ≤ 30) (hI1 : I + 1 < ws.length) :
    SCalls Tryz.prog 83 [.ptr q 0] H (fun r K => ∃ (P' : Prg) (I' : Nat) (E' : Int), r = .ret (.tuple []) ∧ Rdr n ws p q O D P' I' E' K ∧ FrN n H K ∧ I ≤ I' ∧
      (E' = 0 → ∃ x : Func, P' = { P with funcs := P.funcs ++ [x] } ∧ I + 2 ≤ I' ∧ P.funcs.length < 16 ∧ x.params.length ≤ 6 ∧ St.oks x.body ∧ x.ret.ok ∧ St.sizes x.body + x.ret.size + I + 1 ≤ I' ∧
        ∃ w, ws[I + 1]? = some w ∧ x.at' = w.at' ∧ x.name = w.text ∧ w.kind = 0)) := by
  obtain ⟨⟨g, l, f, t, a, ps⟩, np, nq, nH⟩ := R
  have hl := a.gd.1
  refine fn_go k83 rfl ?_
  intro Q hQ
  have hq := a.hq
  simp [c83, hq, qst, ps.hf.len, okD_proper ps.hf.proper, ps.hf.okv]
  refine a.climit.mono ?_
  rintro r K ⟨rfl, E1, r1, e1⟩
  have a1 := a.ru r1
  have ps1 := ps.ru a r1
  simp
  refine a1.cok.mono ?_
  rintro r K ⟨rfl, rfl⟩
  by_cases hE1 : E1 = 0
  · subst hE1
    obtain ⟨B1, hp1⟩ := a1.hp
    simp [c83_1, hp1, a1.hq, rst, qst, wrap_s (n := (I : Int) + 1) (by omega)]
    generalize hK2 : setH K p _ = K2
    have r2 : RU ws p O I 0 K (I + 1) 0 K2 := hK2 ▸ a1.next hI1 (B := B1)
    have a2 := a1.ru r2
    obtain ⟨w2, hw2⟩ := a2.word
    refine (a2.cname hw2).mono ?_
    rintro r K3 ⟨s, sa, I3, E3, rfl, r3, e3⟩
    have a3 := a2.ru r3
    simp
    refine (params_c a3).mono ?_
    rintro r K4 ⟨b, I4, E4, rfl, r4, e4⟩
    have a4 := a3.ru r4
    simp [-Function.comp_apply]
    refine a4.ckind.mono ?_
    rintro r K5 ⟨bt, bs, I5, E5, rfl, r5, e5⟩
    have a5 := a4.ru r5
    obtain ⟨w5, hw5⟩ := a5.word
    simp
    refine (a5.cneed hw5).mono ?_
    rintro r K6 ⟨rfl, I6, E6, r6, e6⟩
    have a6 := a5.ru r6
    have a7 := a6.deep (D' := D + 1)
    simp [a6.hq, qst, wrap_s (n := D + 1) (by omega)]
    refine (stmts_c (fun h J hJ => Stmt_c ws J) a7 (by omega) (by omega)).mono ?_
    rintro r K8 ⟨bd, I8, E8, rfl, r8, e8⟩
    have a8 := a7.ru r8
    obtain ⟨w8, hw8⟩ := a8.word
    simp
    refine (a8.cneed hw8).mono ?_
    rintro r K9 ⟨rfl, I9, E9, r9, e9⟩
    have a9 := a8.ru r9
    simp
    refine a9.cexpr.mono ?_
    rintro r K10 ⟨x, I10, E10, rfl, r10, e10⟩
    have a10 := a9.ru r10
    obtain ⟨w10, hw10⟩ := a10.word
    simp
    refine (a10.cneed hw10).mono ?_
    rintro r K11 ⟨rfl, I11, E11, r11, e11⟩
    have a11 := a10.ru r11
    obtain ⟨w11, hw11⟩ := a11.word
    simp
    refine (a11.cneed hw11).mono ?_
    rintro r K12 ⟨rfl, I12, E12, r12, e12⟩
    have a12 := a11.ru r12
    have ps12 := ((((((((((ps1.ru a1 r2).ru a2 r3).ru a3 r4).ru a4 r5).ru a5 r6).setq (o := qst p (D + 1) g l f t) a6).ru a7 r8).ru a8 r9).ru a9 r10).ru a10 r11).ru a11 r12
    have a13 := a12.deep (D' := D)
    have ps13 := ps12.setq (o := qst p D g l f t) a12
    have rr := ((((r1.trans r2).trans r3).trans r4).trans r5).trans r6
    have rd := rr.trans (RU.deep a6 ((((r8.trans r9).trans r10).trans r11).trans r12))
    have frd := rd.frn a np nH
    have hM13 : n ≤ lenH (setH K12 q (qst p D g l f t)) := by have := frd.1; omega
    obtain ⟨xk, xo, xn, xs, xks, xa⟩ := x
    obtain ⟨M', happ, hq', a14, ps14, fr14⟩ := ps13.addF (lo := [(2, [.int .i64 sa, .str s, sl (b.map Para.av), .bool bt, .bool bs, sl (St.avs bd), .int .i64 xk, .int .i64 xo, .int .i64 xn, .str xs, sl (Ex.avs xks), .int .i64 xa])]) (df := []) a13 nq hM13 ⟨sa, s, b, bt, bs, bd, .mk xk xo xn xs xks xa⟩ (by simp [roomA_eq]; omega)
    simp [Func.av, Ex.av, qst] at happ
    simp [a12.hq, qst, wrap_s (n := D) (by omega), ps13.hf.okv, okD_proper ps13.hf.proper, ps13.hf.lref, Ex.av, happ, hq']
    have hQ' := hQ (.ret (.tuple [])) _ ⟨_, I12, E12, rfl, ⟨⟨_, _, _, _, a14, ps14⟩, np, nq, by have := fr14.1; omega⟩, frd.trans fr14, rd.2.1, fun h => by
      have z11 := r12.2.2.2 h
      have z10 := r11.2.2.2 z11
      have z9 := r10.2.2.2 z10
      have z8 := r9.2.2.2 z9
      have z6 := r8.2.2.2 z8
      have z5 := r6.2.2.2 z6
      have z4 := r5.2.2.2 z5
      have z3 := r4.2.2.2 z4
      obtain ⟨q1, q2, q3, q4⟩ := e3 z3
      obtain ⟨xo', xs'⟩ := e10 z10
      obtain ⟨bo, bs'⟩ := e8 z8
      have i12 := (e12 h).1
      have i11 := (e11 z11).1
      have i9 := (e9 z9).1
      have i6 := (e6 z6).1
      have i5 := e5 z5
      have i4 := r4.2.1
      exact ⟨_, rfl, by omega, by have := e1 rfl; omega, e4 z4, bo, xo', by simp only; omega, w2, hw2, q3, q2, q4⟩⟩
    simpa [Func.av, Ex.av, qst] using hQ'
  · simp [hE1]
    exact hQ _ _ ⟨P, I, E1, rfl, ⟨⟨g, l, f, t, a1, ps1⟩, np, nq, by have := r1.len; omega⟩, r1.frn a np nH, by omega, fun h => absurd h hE1⟩
end
end Go.Ab

namespace Go.Ab
open Go.Proofs

set_option maxRecDepth 100000
set_option maxHeartbeats 8000000
/-- One thing more has been read. -/
def Ext (ws : List W) (I I' : Nat) (P P' : Prg) : Prop :=
  (∃ x : Glob, P' = { P with globals := P.globals ++ [x] } ∧ I + 3 ≤ I' ∧ P.globals.length < 32 ∧ 0 ≤ x.len ∧ x.len ≤ 64 ∧ ∃ w, ws[I + 2]? = some w ∧ x.at' = w.at' ∧ x.name = w.text ∧ w.kind = 0) ∨
  (∃ x : Lok, P' = { P with locks := P.locks ++ [x] } ∧ I + 2 ≤ I' ∧ P.locks.length < 8 ∧ ∃ w, ws[I + 1]? = some w ∧ x.at' = w.at' ∧ x.name = w.text ∧ w.kind = 0) ∨
  (∃ x : Func, P' = { P with funcs := P.funcs ++ [x] } ∧ I + 2 ≤ I' ∧ P.funcs.length < 16 ∧ x.params.length ≤ 6 ∧ St.oks x.body ∧ x.ret.ok ∧ St.sizes x.body + x.ret.size + I + 1 ≤ I' ∧
        ∃ w, ws[I + 1]? = some w ∧ x.at' = w.at' ∧ x.name = w.text ∧ w.kind = 0) ∨
  (∃ b : List St, P' = { P with threads := P.threads ++ [b] } ∧ I + 2 ≤ I' ∧ P.threads.length < 4 ∧ St.oks b ∧ St.sizes b + I + 2 ≤ I')
section
variable {n : Nat} {ws : List W} {p q I I' : Nat} {O E E' D D' : Int} {g l f t : AV} {H K M : List AObj} {P : Prg}

theorem thing4_c (R : Rdr n ws p q O 0 P I 0 H) (hg : P.globals.length ≤ 32) (hlk : P.locks.length ≤ 8) (hf : P.funcs.length ≤ 16) (ht : P.threads.length ≤ 4) :
    SCalls Tryz.prog 50 [.ptr q 0] H (fun r K => ∃ (P' : Prg) (I' : Nat) (E' : Int), r = .ret (.tuple []) ∧ Rdr n ws p q O 0 P' I' E' K ∧ FrN n H K ∧ I ≤ I' ∧ (E' = 0 → Ext ws I I' P P')) := by
  obtain ⟨⟨g, l, f, t, a, ps⟩, np, nq, nH⟩ := id R
  have hl := a.gd.1
  have hI := a.hI
  have hq := a.hq
  obtain ⟨w, hw⟩ := a.word
  refine fn_go k50 rfl ?_
  intro Q hQ
  simp [c50]
  refine (a.cis hw).mono ?_
  rintro r K ⟨rfl, rfl⟩
  by_cases hb1 : isB 0 w [108, 111, 99, 107] = true
  · obtain ⟨hI1, -⟩ := isB_go a.gd hw hb1
    simp [hb1, hq, qst, ps.hl.len, okD_proper ps.hl.proper, ps.hl.okv]
    refine a.climit.mono ?_
    rintro r K ⟨rfl, E1, r1, e1⟩
    have a1 := a.ru r1
    have ps1 := ps.ru a r1
    simp
    refine a1.cok.mono ?_
    rintro r K ⟨rfl, rfl⟩
    by_cases hE1 : E1 = 0
    · subst hE1
      obtain ⟨B1, hp1⟩ := a1.hp
      simp [hp1, a1.hq, rst, qst, wrap_s (n := (I : Int) + 1) (by omega)]
      generalize hK2 : setH K p _ = K2
      have r2 : RU ws p O I 0 K (I + 1) 0 K2 := hK2 ▸ a1.next hI1 (B := B1)
      have a2 := a1.ru r2
      obtain ⟨w2, hw2⟩ := a2.word
      refine (a2.cname hw2).mono ?_
      rintro r K3 ⟨s, sa, I3, E3, rfl, r3, e3⟩
      have a3 := a2.ru r3
      obtain ⟨w3, hw3⟩ := a3.word
      simp
      refine (a3.cneed hw3).mono ?_
      rintro r K4 ⟨rfl, I4, E4, r4, e4⟩
      have a4 := a3.ru r4
      have ps4 := ((ps1.ru a1 r2).ru a2 r3).ru a3 r4
      have rr := ((r1.trans r2).trans r3).trans r4
      have frd := rr.frn a np nH
      have hM : n ≤ lenH K4 := by have := frd.1; omega
      obtain ⟨M', happ, hq', a5, ps5, fr5⟩ := ps4.addL (lo := [(2, [.int .i64 sa, .str s])]) (df := []) a4 nq hM ⟨sa, s⟩ (by simp [roomA_eq]; omega)
      simp [Lok.av] at happ
      simp [a4.hq, qst, ps4.hl.okv, okD_proper ps4.hl.proper, ps4.hl.lref, happ, hq']
      have hQ' := hQ (.ret (.tuple [])) _ ⟨_, I4, E4, rfl, ⟨⟨_, _, _, _, a5, ps5⟩, np, nq, by have := fr5.1; omega⟩, frd.trans fr5, rr.2.1, fun h => by
        have z3 := r4.2.2.2 h
        obtain ⟨q1, q2, q3, q4⟩ := e3 z3
        have i4 := (e4 h).1
        exact .inr (.inl ⟨_, rfl, by omega, by have := e1 rfl; omega, w2, hw2, q3, q2, q4⟩)⟩
      simpa [Lok.av, qst] using hQ'
    · simp [hE1]
      exact hQ _ _ ⟨P, I, E1, rfl, ⟨⟨g, l, f, t, a1, ps1⟩, np, nq, by have := r1.len; omega⟩, r1.frn a np nH, by omega, fun h => absurd h hE1⟩
  · simp [hb1]
    refine (a.cis hw).mono ?_
    rintro r K ⟨rfl, rfl⟩
    by_cases hb2 : isB 0 w [102, 117, 110, 99] = true
    · obtain ⟨hI1, -⟩ := isB_go a.gd hw hb2
      simp [hb2]
      refine (function_c R hf (by omega) (by omega) hI1).mono ?_
      rintro r K2 ⟨P', I', E', rfl, R', fr', hI', hE'⟩
      simp
      exact hQ _ _ ⟨P', I', E', rfl, R', fr', hI', fun h => .inr (.inr (.inl (hE' h)))⟩
    · simp [hb2]
      refine (a.cis hw).mono ?_
      rintro r K ⟨rfl, rfl⟩
      by_cases hb3 : isB 0 w [116, 104, 114, 101, 97, 100] = true
      · obtain ⟨hI1, -⟩ := isB_go a.gd hw hb3
        simp [hb3, hq, qst, ps.ht.len, okD_proper ps.ht.proper, ps.ht.okv]
        refine a.climit.mono ?_
        rintro r K ⟨rfl, E1, r1, e1⟩
        have a1 := a.ru r1
        have ps1 := ps.ru a r1
        simp
        refine a1.cok.mono ?_
        rintro r K ⟨rfl, rfl⟩
        by_cases hE1 : E1 = 0
        · subst hE1
          obtain ⟨B1, hp1⟩ := a1.hp
          simp [hp1, a1.hq, rst, qst, wrap_s (n := (I : Int) + 1) (by omega), a1.ne.symm, okD_proper ps.ht.proper, ps.ht.okv]
          generalize hK2 : setH K p _ = K2
          have r2 : RU ws p O I 0 K (I + 1) 0 K2 := hK2 ▸ a1.next hI1 (B := B1)
          have a2 := a1.ru r2
          have ps2 := ps1.ru a1 r2
          refine (block_c (fun J hJ => Stmt_c ws J) a2 (by omega) (by omega)).mono ?_
          rintro r K3 ⟨b, I3, E3, rfl, r3, e3⟩
          have a3 := a2.ru r3
          have ps3 := ps2.ru a2 r3
          have rr := (r1.trans r2).trans r3
          have frd := rr.frn a np nH
          have hM : n ≤ lenH K3 := by have := frd.1; omega
          obtain ⟨M', happ, hq', a5, ps5, fr5⟩ := ps3.addT (lo := []) (df := []) a3 nq hM b (by simp [roomA_eq]; omega)
          simp [Thr.av] at happ
          simp [a3.hq, qst, ps3.ht.okv, okD_proper ps3.ht.proper, ps3.ht.lref, happ, hq']
          have hQ' := hQ (.ret (.tuple [])) _ ⟨_, I3, E3, rfl, ⟨⟨_, _, _, _, a5, ps5⟩, np, nq, by have := fr5.1; omega⟩, frd.trans fr5, rr.2.1, fun h => by
            obtain ⟨bo, bs⟩ := e3 h
            exact .inr (.inr (.inr ⟨b, rfl, by omega, by have := e1 rfl; omega, bo, by omega⟩))⟩
          simpa [Thr.av, qst] using hQ'
        · simp [hE1]
          exact hQ _ _ ⟨P, I, E1, rfl, ⟨⟨g, l, f, t, a1, ps1⟩, np, nq, by have := r1.len; omega⟩, r1.frn a np nH, by omega, fun h => absurd h hE1⟩
      · simp [hb3]
        refine (a.cis hw).mono ?_
        rintro r K ⟨rfl, rfl⟩
        have hglob : ∀ Q' : AEnd → List AObj → Prop, (∀ r K2, (∃ (P' : Prg) (I' : Nat) (E' : Int), r = .ret (.tuple []) ∧ Rdr n ws p q O 0 P' I' E' K2 ∧ FrN n K K2 ∧ I ≤ I' ∧ (E' = 0 → Ext ws I I' P P')) → Q' r K2) →
            SCalls Tryz.prog 85 [.ptr q 0] K Q' := by
          intro Q' h
          refine (global_c R hg).mono ?_
          rintro r K2 ⟨x, I', E', rfl, R', fr', hI', hE'⟩
          exact h _ _ ⟨_, I', E', rfl, R', fr', hI', fun h => .inl ⟨x, rfl, (hE' h).2⟩⟩
        by_cases hb4 : isB 0 w [112, 117, 98, 108, 105, 99] = true
        · simp [hb4]
          refine hglob _ ?_
          rintro r K2 ⟨P', I', E', rfl, rest⟩
          simp
          exact hQ _ _ ⟨P', I', E', rfl, rest⟩
        · simp [hb4]
          refine (a.cis hw).mono ?_
          rintro r K ⟨rfl, rfl⟩
          by_cases hb5 : isB 0 w [115, 101, 99, 114, 101, 116] = true
          · simp [hb5]
            refine hglob _ ?_
            rintro r K2 ⟨P', I', E', rfl, rest⟩
            simp
            exact hQ _ _ ⟨P', I', E', rfl, rest⟩
          · simp [hb5, c50_1]
            refine (a.cword hw).mono ?_
            rintro r K ⟨rfl, rfl⟩
            simp [W.av]
            refine (a.cfail (by decide)).mono ?_
            rintro r K2 ⟨rfl, E1, he1, r1⟩
            simp
            exact hQ _ _ ⟨P, I, E1, rfl, ⟨⟨g, l, f, t, a.ru r1, ps.ru a r1⟩, np, nq, by have := r1.len; omega⟩, r1.frn a np nH, by omega, fun h => absurd h he1⟩
end
end Go.Ab

namespace Go.Ab
open Go.Proofs

set_option maxRecDepth 100000
set_option maxHeartbeats 8000000
def letB (n : Int) : Bool := decide (97 ≤ n ∧ n ≤ 122 ∨ 65 ≤ n ∧ n ≤ 90 ∨ n = 95)
def digB (n : Int) : Bool := decide (48 ≤ n ∧ n ≤ 57)
theorem letter_c {H : List AObj} {n : Int} : SCalls Tryz.prog 75 [.int .u8 n] H (fun r K => r = .ret (.bool (letB n)) ∧ K = H) := by
  refine fn_go k75 rfl ?_
  intro Q hQ
  unfold letB at hQ
  by_cases h1 : 97 ≤ n <;> by_cases h2 : n ≤ 122 <;> by_cases h3 : 65 ≤ n <;> by_cases h4 : n ≤ 90 <;> by_cases h5 : n = 95 <;>
    simp [c75, h1, h2, h3, h4, h5] <;> refine hQ _ _ ⟨?_, rfl⟩ <;> simp [h1, h2, h3, h4, h5]
theorem digit_c {H : List AObj} {n : Int} : SCalls Tryz.prog 76 [.int .u8 n] H (fun r K => r = .ret (.bool (digB n)) ∧ K = H) := by
  refine fn_go k76 rfl ?_
  intro Q hQ
  unfold digB at hQ
  by_cases h1 : 48 ≤ n <;> by_cases h2 : n ≤ 57 <;>
    simp [c76, h1, h2] <;> refine hQ _ _ ⟨?_, rfl⟩ <;> simp [h1, h2]
theorem in_c {H : List AObj} {s : List UInt8} {n : Int} (hs : s.length ≤ 2 ^ 59) : SCalls Tryz.prog 74 [.str s, .int .u8 n] H (fun r K => ∃ b, r = .ret (.bool b) ∧ K = H) := by
  refine fn_go k74 rfl ?_
  intro Q hQ
  simp [c74]
  refine loop_keep (n := s.length) (fun m τ S => ∃ i : Nat, i + m = s.length ∧ τ = [(0, .str s), (1, .int .u8 n), (5, .int .i64 i)] ∧ S = ⟨[], H, []⟩) ?_ ⟨0, by simp, rfl, rfl⟩
  rintro m τ S ⟨i, hi, rfl, rfl⟩
  by_cases hlt : i < s.length
  · by_cases he : ((s[i].toNat : Nat) : Int) = n
    · simp [hlt, c74_2, he]
      exact hQ _ _ ⟨_, rfl, rfl⟩
    · simp [hlt, c74_2, he, c74_1, wrap_s (n := (i : Int) + 1) (by omega)]
      exact ⟨m - 1, by omega, i + 1, by omega, by simp⟩
  · simp [hlt, c74_3]
    exact hQ _ _ ⟨_, rfl, rfl⟩
end Go.Ab

namespace Go.Ab
open Go.Proofs

set_option maxRecDepth 100000
set_option maxHeartbeats 8000000
theorem wrap_f {n : Int} (h : -2 ^ 63 ≤ n ∧ n < 2 ^ 63) : IntKind.i64.wrap n = n := by
  apply IntWalk.i64_in <;> omega
def I45 (H : List AObj) (m : Nat) (τ : Env) (S : AS) : Prop := ∃ (k : Int) (s : List UInt8) (d : Bool), m = k.natAbs ∧ (s = [] ∨ s.length + k.natAbs ≤ 2 ^ 61) ∧ -2 ^ 63 ≤ k ∧ k < 2 ^ 63 ∧ τ = [(0, .int .i64 k), (3, .str s), (4, .bool d)] ∧ S = ⟨[], H, []⟩
theorem digits_c {H : List AObj} {n : Int} (h1 : -2 ^ 63 ≤ n) (h2 : n < 2 ^ 63) : SCalls Tryz.prog 45 [.int .i64 n] H (fun r K => ∃ s, r = .ret (.str s) ∧ K = H) := by
  refine fn_go k45 rfl ?_
  intro Q hQ
  simp [c45]
  refine loop_keep (n := n.natAbs) (I45 H) ?_ ⟨n, [], _, rfl, .inl rfl, h1, h2, rfl, rfl⟩
  rintro m τ S ⟨k, s, d, hm, hs, hk1, hk2, rfl, rfl⟩
  have hr : (Int.tmod k 10).natAbs < 10 := by rw [Int.natAbs_tmod]; exact Nat.mod_lt _ (by decide)
  have hq : (Int.tdiv k 10).natAbs = k.natAbs / 10 := Int.natAbs_tdiv k 10
  have hlen : s.length ≤ 2 ^ 61 := by
    rcases hs with rfl | hs
    · simp
    · omega
  have tail : ∀ (e : Int) (τ : Env), 0 ≤ e → e < 10 → look τ 0 = some (.int .i64 k) → look τ 3 = some (.str s) → look τ 4 = some (.bool d) → look τ 5 = some (.int .i64 e) →
      go (SCalls Tryz.prog) c45_1 [.blk 1, .inv fun τ S => ∃ m', m' < m ∧ I45 H m' (keep [0, 3, 4] τ) (keepS [0, 3, 4] S), .blk 0, .seq c45_3] τ ⟨[], H, []⟩ (aendR [.tmp 2] Q) := by
    intro e τ he0 he1 t0 t3 t4 t5
    have hdl : ((([48, 49, 50, 51, 52, 53, 54, 55, 56, 57] : List UInt8).take (e + 1).toNat).drop e.toNat).length ≤ 1 := by simp; omega
    have b1 : 0 ≤ e + 1 ∧ e + 1 ≤ 10 := by omega
    have b2 : 0 ≤ e ∧ e ≤ e + 1 := by omega
    have hL : (e + 1).toNat - e.toNat + s.length ≤ 4611686018427387904 := by omega
    by_cases hz : Int.tdiv k 10 = 0
    · simp [c45_1, t0, t3, t4, t5, wrap_s (n := e + 1) (by omega), wrap_s (n := Int.tdiv k 10) (by omega), b1, b2, hL, hz, c45_3, show IntKind.i64.wrap 0 = 0 from rfl]
      generalize (List.take (e + 1).toNat _).drop e.toNat = u at hdl ⊢
      cases d
      · simp [c45_2]
        exact hQ _ _ ⟨_, rfl, rfl⟩
      · simp [show 1 + ((e + 1).toNat - e.toNat + s.length) ≤ 4611686018427387904 by omega, show (e + 1).toNat - e.toNat + s.length + 1 ≤ 4611686018427387904 by omega]
        exact hQ _ _ ⟨_, rfl, rfl⟩
    · simp [c45_1, t0, t3, t4, t5, wrap_s (n := e + 1) (by omega), wrap_s (n := Int.tdiv k 10) (by omega), b1, b2, hL, hz]
      generalize (List.take (e + 1).toNat _).drop e.toNat = u at hdl ⊢
      exact ⟨(Int.tdiv k 10).natAbs, by omega, Int.tdiv k 10, u ++ s, d, rfl, .inr (by rw [List.length_append]; rcases hs with rfl | hs <;> first | omega | (simp only [List.length_nil]; omega)), by omega, by omega, rfl, rfl⟩
  by_cases hneg : Int.tmod k 10 < 0
  · simp [hneg, wrap_s (n := -(Int.tmod k 10)) (by omega)]
    exact tail _ _ (by omega) (by omega) rfl rfl rfl rfl
  · simp [hneg]
    exact tail _ _ (by omega) (by omega) rfl rfl rfl rfl
def I77 (H : List AObj) (w : List UInt8) (m : Nat) (τ : Env) (S : AS) : Prop := ∃ (k : Int) (i : Nat), i + m = w.length ∧ 0 ≤ k ∧ k < 2 ^ 63 ∧ τ = [(0, .str w), (4, .int .i64 k), (5, .int .i64 i)] ∧ S = ⟨[], H, []⟩
theorem number_c {H : List AObj} {w : List UInt8} : SCalls Tryz.prog 77 [.str w] H (fun r K => ∃ (n : Int) (b : Bool), r = .ret (.tuple [.int .i64 n, .bool b]) ∧ K = H ∧ (b = true → 0 ≤ n ∧ n < 2 ^ 63)) := by
  refine fn_go k77 rfl ?_
  intro Q hQ
  by_cases h0 : w = []
  · simp [c77, h0]
    exact hQ _ _ ⟨0, false, rfl, rfl, by simp⟩
  by_cases h19 : (19 : Int) < w.length
  · simp [c77, h0, h19]
    exact hQ _ _ ⟨0, false, rfl, rfl, by simp⟩
  simp [c77, h0, h19, c77_5]
  refine loop_keep (n := w.length) (I77 H w) ?_ ⟨0, 0, by simp, by decide, by decide, rfl, rfl⟩
  rintro m τ S ⟨k, i, hi, hk0, hk1, rfl, rfl⟩
  by_cases hlt : i < w.length
  · have hb := (w[i]).toNat_lt
    have hcv : IntKind.i64.wrap ((w[i]).toNat : Int) = (w[i]).toNat := wrap_s (by omega)
    have hcs : IntKind.i64.wrap ((w[i]).toNat - 48 : Int) = (w[i]).toNat - 48 := wrap_s (by omega)
    obtain ⟨d, hd⟩ : ∃ d : Int, d = ((w[i]).toNat : Int) - 48 := ⟨_, rfl⟩
    rw [← hd] at hcs
    by_cases hd0 : d < 0
    · simp [hlt, c77_3, hcv, ← hd, hcs, hd0]
      exact hQ _ _ ⟨0, false, rfl, rfl, by simp⟩
    by_cases hd9 : (9 : Int) < d
    · simp [hlt, c77_3, hcv, ← hd, hcs, hd0, hd9]
      exact hQ _ _ ⟨0, false, rfl, rfl, by simp⟩
    simp [hlt, c77_3, hcv, ← hd, hcs, hd0, hd9]
    clear hcs hcv hd hb
    have hc2 : (9223372036854775807 - d).tdiv 10 = (9223372036854775807 - d) / 10 := Int.tdiv_eq_ediv_of_nonneg (by omega)
    rw [wrap_f (n := 9223372036854775807 - d) (by omega), hc2, wrap_f (n := (9223372036854775807 - d) / 10) (by omega)]
    by_cases hc : (9223372036854775807 - d) / 10 < k
    · rw [if_pos hc]
      exact hQ _ _ ⟨0, false, rfl, rfl, by simp⟩
    · rw [if_neg hc]
      clear hc2
      simp [c77_1, c77_2, wrap_f (n := 10 * k) (by omega), wrap_f (n := 10 * k + d) (by omega), wrap_s (n := (i : Int) + 1) (by omega)]
      exact ⟨m - 1, by omega, 10 * k + d, i + 1, by omega, by omega, by omega, by simp⟩
  · simp [hlt, c77_4]
    refine (digits_c (by omega) (by omega)).mono ?_
    rintro r K ⟨s, rfl, rfl⟩
    simp
    exact hQ _ _ ⟨k, _, rfl, rfl, fun _ => ⟨hk0, hk1⟩⟩
def signs : List (List UInt8) := [[38,38],[124,124],[61,61],[33,61],[60,61],[62,61],[60,60],[62,62]]
def I78 (K : List AObj) (w : List UInt8) (t : Nat) (m : Nat) (τ : Env) (S : AS) : Prop := ∃ (i : Nat), i + m = 8 ∧ τ = [(0, .str w), (3, .vs (some t) (signs.map AV.str)), (4, .int .i64 i)] ∧ S = ⟨[], K, []⟩
theorem signs_two {i : Nat} (h : i < 8) : ∃ s, signs[i]? = some s ∧ s.length = 2 := by
  rcases i with _ | _ | _ | _ | _ | _ | _ | _ | i <;> first | exact ⟨_, rfl, rfl⟩ | omega
theorem lexsign_c {H : List AObj} {w : List UInt8} (h0 : w ≠ []) (hl : w.length ≤ 2 ^ 59) : SCalls Tryz.prog 78 [.str w] H (fun r K => ∃ s x, r = .ret (.str s) ∧ K = addH H x ∧ s.length ≤ 2) := by
  refine fn_go k78 rfl ?_
  intro Q hQ
  have hpos : 0 < w.length := List.length_pos_iff.2 h0
  simp [c78]
  refine loop_keep (n := 8) (I78 (addH H .tip) w (lenH H)) ?_ ⟨0, by simp, rfl, rfl⟩
  rintro m τ S ⟨i, hi, rfl, rfl⟩
  by_cases hlt : i < 8
  · obtain ⟨s, hs, hs2⟩ := signs_two hlt
    have hs' : (signs.map AV.str)[i]? = some (.str s) := by simp [hs]
    have hle : (i : Int) < ((signs.map AV.str).length : Int) := by simp [signs]; omega
    generalize hss : signs.map AV.str = ss at hs' hle ⊢
    by_cases hw : (1 : Int) < w.length
    · have hw2 : (2 : Int) ≤ w.length := by omega
      by_cases he : w.take 2 = s
      · simp [hle, c78_2, hw, hw2, hs', he]
        exact hQ _ _ ⟨s, _, rfl, rfl, by omega⟩
      · simp [hle, c78_2, hw, hw2, hs', he, c78_1, wrap_s (n := (i : Int) + 1) (by omega)]
        exact ⟨m - 1, by omega, i + 1, by omega, by simp [hss]⟩
    · simp [hle, c78_2, hw, hs', c78_1, wrap_s (n := (i : Int) + 1) (by omega)]
      exact ⟨m - 1, by omega, i + 1, by omega, by simp [hss]⟩
  · have hle : ¬ (i : Int) < ((signs.map AV.str).length : Int) := by simp [signs]; omega
    generalize signs.map AV.str = ss at hle ⊢
    have h1 : (1 : Int) ≤ w.length := by omega
    simp [hle, c78_4, hpos]
    refine (in_c (by decide)).mono ?_
    rintro r K ⟨b, rfl, rfl⟩
    cases b
    · simp [c78_3]
      exact hQ _ _ ⟨_, _, rfl, rfl, by simp⟩
    · simp [h1]
      exact hQ _ _ ⟨_, _, rfl, rfl, by simp; omega⟩
end Go.Ab

namespace Go.Ab
open Go.Proofs

set_option maxRecDepth 100000
set_option maxHeartbeats 8000000
/-- The words up to a place of the text. -/
def WI (s : List UInt8) (ws : List W) (i : Nat) : Prop := ws.length ≤ i ∧ (∀ w ∈ ws, w.kind ≠ 3 ∧ w.at' < i ∧ w.at' < s.length ∧ 0 ≤ w.at') ∧ ws.Pairwise (fun a b => a.at' < b.at')
def Inc (ws : List W) : Prop := ws.Pairwise (fun a b => a.at' < b.at')
def I47 (H : List AObj) (s : List UInt8) (m : Nat) (τ : Env) (S : AS) : Prop :=
  ∃ (i : Nat) (ws : List W) (v : AV) (M : List AObj), m = s.length + 2 - i ∧ WI s ws i ∧ TipN (lenH H) M v (ws.map W.av) ∧ FrN (lenH H) H M ∧ i ≤ s.length + 2 ∧ τ = [(0, .str s), (5, v), (6, .int .i64 i)] ∧ S = ⟨[], M, []⟩
def WordsPost (H : List AObj) (s : List UInt8) : AEnd → List AObj → Prop := fun r K =>
  ∃ (ws : List W) (e at' : Int), r = .ret (.tuple [sl (ws.map W.av), .int .i64 e, .int .i64 at']) ∧ FrN (lenH H) H K ∧ (e = 0 → Good ws ∧ Inc ws ∧ 0 < ws.length ∧ ∀ w ∈ ws, 0 ≤ w.at')
theorem words_c {H : List AObj} {s : List UInt8} (hs : s.length ≤ 2 ^ 59) : SCalls Tryz.prog 47 [.str s] H (WordsPost H s) := by
  refine fn_go k47 rfl ?_
  intro Q hQ
  by_cases hbig : (16384 : Int) < s.length
  · simp [c47, hbig]
    exact hQ _ _ ⟨[], 2, 0, rfl, .refl _ _, by simp⟩
  simp [c47, hbig, c47_12]
  refine loop_keep (n := s.length + 2) (I47 H s) ?_ ⟨0, [], .nils, H, by omega, ⟨by simp, by simp, .nil⟩, .inl ⟨rfl, rfl⟩, .refl _ _, by omega, rfl, rfl⟩
  rintro m τ S ⟨i, ws, v, M, hm, hw, ht, fr, hi, rfl, rfl⟩
  have hwl : ws.length ≤ 16386 := by have := hw.1; omega
  have c6 : ∀ (w : W) (n : Nat) (M' : List AObj) (τ : Env) (lo : List (Nat × List AV)), w.kind ≠ 3 → w.at' = i → i < s.length → i < n → n ≤ s.length + 2 → TipN (lenH H) M' v (ws.map W.av) → FrN (lenH H) H M' →
      look τ 0 = some (.str s) → look τ 5 = some v → look τ 8 = some (.int .i64 n) → look τ 9 = some (.lref 9 0) → look lo 9 = some [.int .i64 w.kind, .str w.text, .int .i64 w.n, .int .i64 w.at'] → look lo 0 = none → look lo 5 = none → look lo 6 = none → look lo 8 = none →
      go (SCalls Tryz.prog) c47_6 [.blk 1, .inv (fun τ S => ∃ m', m' < m ∧ I47 H s m' (keep [0, 5, 6] τ) (keepS [0, 5, 6] S)), .blk 0, .seq c47_11] τ ⟨lo, M', []⟩ (aendR [.tmp 2, .tmp 3, .tmp 4] Q) := by
    intro w n M' τ lo hk ha hil hn hn2 ht' fr' t0 t5 t8 t9 l9 l0 l5 l6 l8
    have ht2 := ht'.gr ((Gr.refl M').add (o := .tip))
    have fr2 : FrN (lenH H) H (addH M' .tip) := fr'.trans (.add fr'.1)
    obtain ⟨M2, happ, ht3, fr3, -⟩ := ht2.app (lo := [(9, [.int .i64 w.kind, .str w.text, .int .i64 w.n, .int .i64 w.at'])]) (df := []) (e := 4) (b := 40) (x := w.av) fr2.1 (wid_map 4 W.av ws fun e => ⟨rfl, rfl⟩) (by simp [roomA_eq]; omega)
    simp [W.av] at happ
    simp [c47_6, t0, t5, t8, t9, l9, l0, l5, l6, l8, ht'.okv, okD_proper ht'.proper, ht'.lref, happ]
    refine ⟨s.length + 2 - n, by omega, n, ws ++ [w], _, M2, rfl, ⟨by have := hw.1; simp; omega, ?_, ?_⟩, by simpa [W.av] using ht3, fr2.trans fr3, hn2, by simp [W.av], rfl⟩
    · intro x hx
      rw [List.mem_append] at hx
      rcases hx with hx | hx
      · have := hw.2.1 x hx; omega
      · simp at hx; subst hx; omega
    · rw [List.pairwise_append]
      refine ⟨hw.2.2, by simp, ?_⟩
      intro x hx y hy
      simp at hy; subst hy
      have := hw.2.1 x hx; omega
  have c8 : i < s.length → ∀ (c : Int) (M' : List AObj) (τ : Env), (∀ hil : i < s.length, c = (s[i]).toNat) → TipN (lenH H) M' v (ws.map W.av) → FrN (lenH H) H M' →
      look τ 0 = some (.str s) → look τ 5 = some v → look τ 6 = some (.int .i64 i) → look τ 7 = some (.int .u8 c) →
      go (SCalls Tryz.prog) c47_8 [.blk 1, .inv (fun τ S => ∃ m', m' < m ∧ I47 H s m' (keep [0, 5, 6] τ) (keepS [0, 5, 6] S)), .blk 0, .seq c47_11] τ ⟨[], M', []⟩ (aendR [.tmp 2, .tmp 3, .tmp 4] Q) := by
    intro hil c M' τ hc ht' fr' t0 t5 t6 t7
    have hc' := hc hil
    simp [c47_8, t0, t5, t6, t7]
    refine loop_keep (n := s.length - i) (fun k τ S => ∃ n : Nat, n + k = s.length ∧ i ≤ n ∧ τ = [(0, .str s), (5, v), (6, .int .i64 i), (7, .int .u8 c), (8, .int .i64 n)] ∧ S = ⟨[], M', []⟩) ?_ ⟨i, by omega, by omega, rfl, rfl⟩
    rintro k τ S ⟨n, hnk, hin, rfl, rfl⟩
    have c7 : (n = i → letB c = false ∧ digB c = false) → ∀ (τ : Env), look τ 0 = some (.str s) → look τ 5 = some v → look τ 6 = some (.int .i64 i) → look τ 7 = some (.int .u8 c) → look τ 8 = some (.int .i64 n) →
      go (SCalls Tryz.prog) c47_7 [.blk 1, .inv (fun τ S => ∃ m', m' < m ∧ I47 H s m' (keep [0, 5, 6] τ) (keepS [0, 5, 6] S)), .blk 0, .seq c47_11] τ ⟨[], M', []⟩ (aendR [.tmp 2, .tmp 3, .tmp 4] Q) := by
      intro hni τ t0 t5 t6 t7 t8
      have hb : 0 ≤ (n : Int) ∧ (n : Int) ≤ s.length := by omega
      have hb2 : (i : Int) ≤ n := by omega
      simp [c47_7, t0, t5, t6, t7, t8, hb, hb2, ht'.lref]
      refine letter_c.mono ?_
      rintro r K ⟨rfl, rfl⟩
      by_cases hL : letB c = true
      · have hin2 : i < n := by
          rcases Nat.lt_or_ge i n with h | h
          · exact h
          · have := (hni (by omega)).1; simp [this] at hL
        simp [hL, wrap_s (n := (n : Int) - i) (by omega)]
        by_cases h24 : (24 : Int) < n - i
        · simp [h24]
          exact hQ _ _ ⟨[], 2, i, rfl, fr', by simp⟩
        · simp [h24]
          exact c6 ⟨0, _, 0, i⟩ n _ _ _ (by simp) rfl hil hin2 (by omega) ht' fr' rfl rfl rfl rfl rfl rfl rfl rfl rfl
      · simp [hL]
        refine digit_c.mono ?_
        rintro r K ⟨rfl, rfl⟩
        by_cases hD : digB c = true
        · have hin2 : i < n := by
            rcases Nat.lt_or_ge i n with h | h
            · exact h
            · have := (hni (by omega)).2; simp [this] at hD
          simp [hD, ht'.lref]
          refine number_c.mono ?_
          rintro r K ⟨N, b, rfl, rfl, hN⟩
          cases b
          · simp
            exact hQ _ _ ⟨[], 10, i, rfl, fr', by simp⟩
          · simp [c47_4, ht'.lref]
            exact c6 ⟨1, _, N, i⟩ n _ _ _ (by simp) rfl hil hin2 (by omega) ht' fr' rfl rfl rfl rfl rfl rfl rfl rfl rfl
        · simp [hD, ht'.lref, show i ≤ s.length by omega]
          refine (lexsign_c (w := s.drop i) (by simp; omega) (by simp; omega)).mono ?_
          rintro r K2 ⟨t, x, rfl, rfl, htl⟩
          have ht2 := ht'.gr ((Gr.refl K).add (o := x))
          have fr2 : FrN (lenH H) H (addH K x) := fr'.trans (.add fr'.1)
          by_cases ht0 : t = []
          · simp [ht0, ht'.lref]
            exact hQ _ _ ⟨[], 10, i, rfl, fr2, by simp⟩
          · have := List.length_pos_iff.2 ht0
            simp [ht0, ht'.lref, c47_5, wrap_s (n := (i : Int) + t.length) (by omega)]
            exact c6 ⟨2, t, 0, i⟩ (i + t.length) _ _ _ (by simp) rfl hil (by omega) (by omega) ht2 fr2 rfl rfl (by simp) rfl rfl rfl rfl rfl rfl
    by_cases hn : n < s.length
    · simp [hn]
      refine letter_c.mono ?_
      rintro r K ⟨rfl, rfl⟩
      have hw' : IntKind.i64.wrap ((n : Int) + 1) = n + 1 := wrap_s (by omega)
      by_cases hL : letB (s[n]).toNat = true
      · simp [hL, c47_3, hw']
        exact ⟨k - 1, by omega, n + 1, by omega, by omega, by simp⟩
      · simp [hL, hn]
        refine digit_c.mono ?_
        rintro r K ⟨rfl, rfl⟩
        by_cases hD : digB (s[n]).toNat = true
        · simp [hD, c47_3, hw']
          exact ⟨k - 1, by omega, n + 1, by omega, by omega, by simp⟩
        · simp [hD]
          refine c7 ?_ _ rfl rfl rfl rfl rfl
          rintro rfl
          rw [hc']
          exact ⟨by simpa using hL, by simpa using hD⟩
    · simp [hn]
      exact c7 (by omega) _ rfl rfl rfl rfl rfl
  by_cases hlt : i < s.length
  · simp [hlt, c47_10]
    refine (in_c (by decide)).mono ?_
    rintro r K ⟨b, rfl, rfl⟩
    cases b
    · simp [c47_9]
      by_cases hsl : ((s[i]).toNat : Int) = 47
      · simp [hsl, wrap_s (n := (i : Int) + 1) (by omega)]
        by_cases hi1 : (i : Int) + 1 < s.length
        · have hi1' : i + 1 < s.length := by omega
          have hnn : (0 : Int) ≤ (i : Int) + 1 := by omega
          have htn : ((i : Int) + 1).toNat = i + 1 := by omega
          by_cases hs2 : ((s[i + 1]).toNat : Int) = 47
          · simp [hi1, hi1', hnn, htn, hs2]
            refine loop_keep (n := s.length - i) (fun k τ S => ∃ j : Nat, j + k = s.length ∧ i ≤ j ∧ τ = [(0, .str s), (5, v), (6, .int .i64 j)] ∧ S = ⟨[], K, []⟩) ?_ ⟨i, by omega, by omega, rfl, rfl⟩
            rintro k τ S ⟨j, hjk, hij, rfl, rfl⟩
            have fin : ∀ j : Nat, i < j → j ≤ s.length → ∃ m', m' < m ∧ I47 H s m' [(0, .str s), (5, v), (6, .int .i64 j)] ⟨[], K, []⟩ := fun j h1 h2 =>
              ⟨s.length + 2 - j, by omega, j, ws, v, K, rfl, ⟨by have := hw.1; omega, fun w h => by have := hw.2.1 w h; omega, hw.2.2⟩, ht, fr, by omega, rfl, rfl⟩
            by_cases hj : j < s.length
            · by_cases h10 : ((s[j]).toNat : Int) = 10
              · simp [hj, h10, c47_2]
                refine fin j ?_ (by omega)
                rcases Nat.lt_or_ge i j with h | h
                · exact h
                · have : i = j := by omega
                  subst this
                  omega
              · simp [hj, h10, c47_1, wrap_s (n := (j : Int) + 1) (by omega)]
                exact ⟨k - 1, by omega, j + 1, by omega, by omega, by simp⟩
            · simp [hj, c47_2]
              exact fin j (by omega) (by omega)
          · simp [hi1, hi1', hnn, htn, hs2]
            exact c8 hlt 47 _ _ (fun _ => by simp [hsl]) ht fr rfl rfl rfl rfl
        · simp [hi1]
          exact c8 hlt 47 _ _ (fun _ => by simp [hsl]) ht fr rfl rfl rfl rfl
      · simp [hsl]
        exact c8 hlt _ _ _ (fun _ => rfl) ht fr rfl rfl rfl rfl
    · simp [wrap_s (n := (i : Int) + 1) (by omega)]
      exact ⟨m - 1, by omega, i + 1, ws, v, K, by omega, ⟨by have := hw.1; omega, fun w h => by have := hw.2.1 w h; omega, hw.2.2⟩, ht, fr, by omega, rfl, rfl⟩
  · simp [hlt, c47_11]
    have ht2 := ht.gr ((Gr.refl M).add (o := .tip))
    have fr2 : FrN (lenH H) H (addH M .tip) := fr.trans (.add fr.1)
    obtain ⟨M2, happ, ht3, fr3, -⟩ := ht2.app (lo := []) (df := []) (e := 4) (b := 40) (x := W.av ⟨3, [], 0, s.length⟩) fr2.1 (wid_map 4 W.av ws fun e => ⟨rfl, rfl⟩) (by simp [roomA_eq]; omega)
    simp [W.av] at happ
    simp [ht.okv, okD_proper ht.proper, ht.lref, happ]
    have hgood : Good (ws ++ [⟨3, [], 0, s.length⟩]) := by
      refine ⟨by simp; omega, fun I w h hk => ?_⟩
      rw [List.getElem?_append] at h
      split at h
      · simp; omega
      · rw [List.getElem?_singleton] at h
        split at h
        · simp at h; subst h; simp at hk
        · simp at h
    have hinc : Inc (ws ++ [⟨3, [], 0, s.length⟩]) := by
      unfold Inc
      rw [List.pairwise_append]
      refine ⟨hw.2.2, by simp, ?_⟩
      intro x hx y hy
      simp at hy; subst hy
      exact (hw.2.1 x hx).2.2.1
    exact hQ _ _ ⟨ws ++ [⟨3, [], 0, s.length⟩], 0, 0, by rw [sl_ne (by simp)]; simp [W.av], fr2.trans fr3, fun _ => ⟨hgood, hinc, by simp, fun w h => by
      rw [List.mem_append] at h
      rcases h with h | h
      · exact (hw.2.1 w h).2.2.2
      · simp at h; subst h; simp⟩⟩
end Go.Ab
