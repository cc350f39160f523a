/-
  No cell of these rows narrows 'for every input' (looked for: loops, veiled, ifaces, maps, wideKeys, modest, calm, conditions, laid).
  DERIVED. THE GIVEN ROWS OF THIS SEAT. 5 by the template 'for every input the law returns true; each argument reads behind the call as it read before'; 0 by the template 'total and deterministic' (their statements: YtlncafbialfojaaGreatTotals.lean).
  GIVEN WITH THE SEED: the statements are not yours to turn. If you find one false, say at which input.
  Laid BY PROGRAM, IN A SANDBOX (cutbox-rows.mjs): the forced cells as the released guide's own fill.sh prints them over the translation a6222d92f0f73ef7… (all of the seat's roots in one cut). By AI agents, Wed Nov 11 2026. No macro, syntax, notation, axiom, sorry.
-/
import Derived.Test.YtlncafbialfojaaGreatChecked
import GoSem.Claim
import GoSem.ClaimJoined
import GoSem.ClaimMapViews
import Derived.JoinedTies
import Derived.KernelRfl
namespace Go.Proofs.YtlncafbialfojaaGreat
/- THE CELL 'sum', in the pinned program and in every row, IS THE sha256 OF THE DUMP (.gsa) THAT YtlncafbialfojaaGreatProg.lean LOADS. Nothing in Lean hashes anything: it is a label: what it is worth is what the hold of that sum in a sandbox is worth. -/
noncomputable def Tryz.pinned : Pinned := { name := "ytlncafbialfojaagreat", sum := "a6222d92f0f73ef74f0455c92e730f3590e4a8463e1d27e5ab325405a592048d", checked := Tryz.checked }
namespace Rows
def none {H : Type} : Left H := { results := [], args := [] }

/-- 'palinglaw13.LowerTells': WHATEVER THE INPUT: true; the input reads as it did. -/
def lowerTellsSpec : ChangeSpec := { name := "lowerTells", fn := fun _ => fun
  | [d] => { results := [.lit (.bool true)], args := [d] }
  | _ => none }
def lowerTellsRow : OpenClaim := { program := "ytlncafbialfojaagreat", sum := "a6222d92f0f73ef74f0455c92e730f3590e4a8463e1d27e5ab325405a592048d", func := "paling/palinglaw13.LowerTells", spec := "lowerTells", inPlace := ["maps.clone"], unfollowed := true, recurses := true, apart := false }
def LowerTellsSaid : Prop := lowerTellsRow.holds Tryz.pinned (OpenSpec.ofChange lowerTellsSpec)

/-- ITS FALSE NEIGHBOUR: 'it returns false'. Refute it at one input. -/
def lowerTellsWrong : ChangeSpec := { name := "lowerTells", fn := fun _ => fun
  | [d] => { results := [.lit (.bool false)], args := [d] }
  | _ => none }
def LowerTellsWrongFalsely : Prop := lowerTellsRow.holds Tryz.pinned (OpenSpec.ofChange lowerTellsWrong)

/-- 'palinglaw13.LowerRuns': WHATEVER THE INPUT: true; the input reads as it did. -/
def lowerRunsSpec : ChangeSpec := { name := "lowerRuns", fn := fun _ => fun
  | [d1, d2, d3] => { results := [.lit (.bool true)], args := [d1, d2, d3] }
  | _ => none }
def lowerRunsRow : OpenClaim := { program := "ytlncafbialfojaagreat", sum := "a6222d92f0f73ef74f0455c92e730f3590e4a8463e1d27e5ab325405a592048d", func := "paling/palinglaw13.LowerRuns", spec := "lowerRuns", inPlace := ["maps.clone"], unfollowed := true, recurses := true, apart := false }
def LowerRunsSaid : Prop := lowerRunsRow.holds Tryz.pinned (OpenSpec.ofChange lowerRunsSpec)

/-- ITS FALSE NEIGHBOUR: 'it returns false'. Refute it at one input. -/
def lowerRunsWrong : ChangeSpec := { name := "lowerRuns", fn := fun _ => fun
  | [d1, d2, d3] => { results := [.lit (.bool false)], args := [d1, d2, d3] }
  | _ => none }
def LowerRunsWrongFalsely : Prop := lowerRunsRow.holds Tryz.pinned (OpenSpec.ofChange lowerRunsWrong)

/-- 'palinglaw13.LowerMay': WHATEVER THE INPUT: true; the input reads as it did. -/
def lowerMaySpec : ChangeSpec := { name := "lowerMay", fn := fun _ => fun
  | [d] => { results := [.lit (.bool true)], args := [d] }
  | _ => none }
def lowerMayRow : OpenClaim := { program := "ytlncafbialfojaagreat", sum := "a6222d92f0f73ef74f0455c92e730f3590e4a8463e1d27e5ab325405a592048d", func := "paling/palinglaw13.LowerMay", spec := "lowerMay", inPlace := ["maps.clone"], unfollowed := true, recurses := true, apart := false }
def LowerMaySaid : Prop := lowerMayRow.holds Tryz.pinned (OpenSpec.ofChange lowerMaySpec)

/-- ITS FALSE NEIGHBOUR: 'it returns false'. Refute it at one input. -/
def lowerMayWrong : ChangeSpec := { name := "lowerMay", fn := fun _ => fun
  | [d] => { results := [.lit (.bool false)], args := [d] }
  | _ => none }
def LowerMayWrongFalsely : Prop := lowerMayRow.holds Tryz.pinned (OpenSpec.ofChange lowerMayWrong)

/-- 'palinglaw13.LowerAlone': WHATEVER THE INPUT: true; the input reads as it did. -/
def lowerAloneSpec : ChangeSpec := { name := "lowerAlone", fn := fun _ => fun
  | [d1, d2] => { results := [.lit (.bool true)], args := [d1, d2] }
  | _ => none }
def lowerAloneRow : OpenClaim := { program := "ytlncafbialfojaagreat", sum := "a6222d92f0f73ef74f0455c92e730f3590e4a8463e1d27e5ab325405a592048d", func := "paling/palinglaw13.LowerAlone", spec := "lowerAlone", inPlace := ["maps.clone"], unfollowed := true, recurses := true, apart := false }
def LowerAloneSaid : Prop := lowerAloneRow.holds Tryz.pinned (OpenSpec.ofChange lowerAloneSpec)

/-- ITS FALSE NEIGHBOUR: 'it returns false'. Refute it at one input. -/
def lowerAloneWrong : ChangeSpec := { name := "lowerAlone", fn := fun _ => fun
  | [d1, d2] => { results := [.lit (.bool false)], args := [d1, d2] }
  | _ => none }
def LowerAloneWrongFalsely : Prop := lowerAloneRow.holds Tryz.pinned (OpenSpec.ofChange lowerAloneWrong)

/-- 'palinglaw13.LowerEnds': WHATEVER THE INPUT: true; the input reads as it did. -/
def lowerEndsSpec : ChangeSpec := { name := "lowerEnds", fn := fun _ => fun
  | [d] => { results := [.lit (.bool true)], args := [d] }
  | _ => none }
def lowerEndsRow : OpenClaim := { program := "ytlncafbialfojaagreat", sum := "a6222d92f0f73ef74f0455c92e730f3590e4a8463e1d27e5ab325405a592048d", func := "paling/palinglaw13.LowerEnds", spec := "lowerEnds", inPlace := ["maps.clone"], unfollowed := true, recurses := true, apart := false }
def LowerEndsSaid : Prop := lowerEndsRow.holds Tryz.pinned (OpenSpec.ofChange lowerEndsSpec)

/-- ITS FALSE NEIGHBOUR: 'it returns false'. Refute it at one input. -/
def lowerEndsWrong : ChangeSpec := { name := "lowerEnds", fn := fun _ => fun
  | [d] => { results := [.lit (.bool false)], args := [d] }
  | _ => none }
def LowerEndsWrongFalsely : Prop := lowerEndsRow.holds Tryz.pinned (OpenSpec.ofChange lowerEndsWrong)

/- THE SECOND FORM. 'bulk': how many values and letters a reading holds, each counted each time it is reached (what is shared counts as often as it is met; a slice's spare places count too). A statement '..UptoSaid' is the law's where the arguments, and the package variables that the reading takes, are together of bulk at most 1048576: NARROWER than '..Said'. Prove '..Said' where nothing that the law and all that it calls make is longer than what came in: it says more and counts as full. Else prove '..UptoSaid'. A law counts once. -/
mutual
def uptoBulk {H : Type} : DataW H → Nat
  | .lit (.string bytes) => bytes.length + 1
  | .lit _ => 1
  | .nil => 1
  | .ptr d => uptoBulk d + 1
  | .slice elems spare => uptoBulkAll elems + uptoBulkAll spare + 1
  | .agg parts => uptoBulkAll parts + 1
  | .iface _ d => uptoBulk d + 1
  | .map entries => uptoBulkEntries entries + 1
  | .held _ => 1
def uptoBulkAll {H : Type} : List (DataW H) → Nat
  | [] => 0
  | d :: r => uptoBulk d + uptoBulkAll r
def uptoBulkEntries {H : Type} : List (Lit × DataW H) → Nat
  | [] => 0
  | x :: r => uptoBulkEntry x + uptoBulkEntries r
def uptoBulkEntry {H : Type} : Lit × DataW H → Nat
  | (.string bytes, d) => bytes.length + uptoBulk d + 1
  | (_, d) => uptoBulk d + 1
 end
def uptoSmall : (H : Type) → List (DataW H) → Bool := fun _ ds => decide (uptoBulkAll ds ≤ 1048576)
def OpenSpec.upto (s : _root_.Go.ChangeSpec) : _root_.Go.OpenSpec := { _root_.Go.OpenSpec.ofChange s with cond := some uptoSmall }

/-- 'palinglaw13.LowerTells', WHERE WHAT IT READS IS OF BULK AT MOST 1048576: true; the input reads as it did. -/
def lowerTellsUptoRow : OpenClaim := { program := "ytlncafbialfojaagreat", sum := "a6222d92f0f73ef74f0455c92e730f3590e4a8463e1d27e5ab325405a592048d", func := "paling/palinglaw13.LowerTells", spec := "lowerTells", inPlace := ["maps.clone"], unfollowed := true, recurses := true, apart := false, narrowed := true }
def LowerTellsUptoSaid : Prop := lowerTellsUptoRow.holds Tryz.pinned (OpenSpec.upto lowerTellsSpec)

/-- 'palinglaw13.LowerRuns', WHERE WHAT IT READS IS OF BULK AT MOST 1048576: true; the input reads as it did. -/
def lowerRunsUptoRow : OpenClaim := { program := "ytlncafbialfojaagreat", sum := "a6222d92f0f73ef74f0455c92e730f3590e4a8463e1d27e5ab325405a592048d", func := "paling/palinglaw13.LowerRuns", spec := "lowerRuns", inPlace := ["maps.clone"], unfollowed := true, recurses := true, apart := false, narrowed := true }
def LowerRunsUptoSaid : Prop := lowerRunsUptoRow.holds Tryz.pinned (OpenSpec.upto lowerRunsSpec)

/-- 'palinglaw13.LowerMay', WHERE WHAT IT READS IS OF BULK AT MOST 1048576: true; the input reads as it did. -/
def lowerMayUptoRow : OpenClaim := { program := "ytlncafbialfojaagreat", sum := "a6222d92f0f73ef74f0455c92e730f3590e4a8463e1d27e5ab325405a592048d", func := "paling/palinglaw13.LowerMay", spec := "lowerMay", inPlace := ["maps.clone"], unfollowed := true, recurses := true, apart := false, narrowed := true }
def LowerMayUptoSaid : Prop := lowerMayUptoRow.holds Tryz.pinned (OpenSpec.upto lowerMaySpec)

/-- 'palinglaw13.LowerAlone', WHERE WHAT IT READS IS OF BULK AT MOST 1048576: true; the input reads as it did. -/
def lowerAloneUptoRow : OpenClaim := { program := "ytlncafbialfojaagreat", sum := "a6222d92f0f73ef74f0455c92e730f3590e4a8463e1d27e5ab325405a592048d", func := "paling/palinglaw13.LowerAlone", spec := "lowerAlone", inPlace := ["maps.clone"], unfollowed := true, recurses := true, apart := false, narrowed := true }
def LowerAloneUptoSaid : Prop := lowerAloneUptoRow.holds Tryz.pinned (OpenSpec.upto lowerAloneSpec)

/-- 'palinglaw13.LowerEnds', WHERE WHAT IT READS IS OF BULK AT MOST 1048576: true; the input reads as it did. -/
def lowerEndsUptoRow : OpenClaim := { program := "ytlncafbialfojaagreat", sum := "a6222d92f0f73ef74f0455c92e730f3590e4a8463e1d27e5ab325405a592048d", func := "paling/palinglaw13.LowerEnds", spec := "lowerEnds", inPlace := ["maps.clone"], unfollowed := true, recurses := true, apart := false, narrowed := true }
def LowerEndsUptoSaid : Prop := lowerEndsUptoRow.holds Tryz.pinned (OpenSpec.upto lowerEndsSpec)

end Rows
end Go.Proofs.YtlncafbialfojaaGreat
