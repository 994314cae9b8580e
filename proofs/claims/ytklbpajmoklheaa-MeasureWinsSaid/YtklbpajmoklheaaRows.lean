/-
  No cell of these rows narrows 'for every input' (looked for: loops, veiled, ifaces, maps, wideKeys, modest, calm, conditions, laid).
  DERIVED. THE GIVEN ROWS OF THIS SEAT. 11 by the template 'for every input the law returns true; each argument reads behind the call as it read before'; 0 by the template 'total and deterministic' (their statements: YtklbpajmoklheaaTotals.lean).
  GIVEN WITH THE SEED: the statements are not yours to turn. If you find one false, say at which input.
  Laid BY PROGRAM, IN A SANDBOX (cutbox-rows.mjs): the forced cells as the released guide's own fill.sh prints them over the translation 05c1df3adff3978e… (all of the seat's roots in one cut). By AI agents, Wed Nov 11 2026. No macro, syntax, notation, axiom, sorry.
-/
import Derived.Test.YtklbpajmoklheaaChecked
import GoSem.Claim
import GoSem.ClaimJoined
import GoSem.ClaimMapViews
import Derived.JoinedTies
import Derived.KernelRfl
namespace Go.Proofs.Ytklbpajmoklheaa
/- THE CELL 'sum', in the pinned program and in every row, IS THE sha256 OF THE DUMP (.gsa) THAT YtklbpajmoklheaaProg.lean LOADS. Nothing in Lean hashes anything: it is a label: what it is worth is what the hold of that sum in a sandbox is worth. -/
noncomputable def Try.pinned : Pinned := { name := "ytklbpajmoklheaa", sum := "05c1df3adff3978eb00b5dc37572f8d07d3ca45006562a3afb6f0183f9fe42a7", checked := Try.checked }
namespace Rows
def none {H : Type} : Left H := { results := [], args := [] }

/-- 'bailifflaw17.PlaysRuns': WHATEVER THE INPUT: true; the input reads as it did. -/
def playsRunsSpec : ChangeSpec := { name := "playsRuns", fn := fun _ => fun
  | [d1, d2, d3, d4, d5] => { results := [.lit (.bool true)], args := [d1, d2, d3, d4, d5] }
  | _ => none }
def playsRunsRow : OpenClaim := { program := "ytklbpajmoklheaa", sum := "05c1df3adff3978eb00b5dc37572f8d07d3ca45006562a3afb6f0183f9fe42a7", func := "bailiff/bailifflaw17.PlaysRuns", spec := "playsRuns", plainKeys := false, apart := false }
def PlaysRunsSaid : Prop := playsRunsRow.holds Try.pinned (OpenSpec.ofChange playsRunsSpec)

/-- ITS FALSE NEIGHBOUR: 'it returns false'. Refute it at one input. -/
def playsRunsWrong : ChangeSpec := { name := "playsRuns", fn := fun _ => fun
  | [d1, d2, d3, d4, d5] => { results := [.lit (.bool false)], args := [d1, d2, d3, d4, d5] }
  | _ => none }
def PlaysRunsWrongFalsely : Prop := playsRunsRow.holds Try.pinned (OpenSpec.ofChange playsRunsWrong)

/-- 'bailifflaw17.PlaysGo': WHATEVER THE INPUT: true; the input reads as it did. -/
def playsGoSpec : ChangeSpec := { name := "playsGo", fn := fun _ => fun
  | [d1, d2, d3, d4, d5] => { results := [.lit (.bool true)], args := [d1, d2, d3, d4, d5] }
  | _ => none }
def playsGoRow : OpenClaim := { program := "ytklbpajmoklheaa", sum := "05c1df3adff3978eb00b5dc37572f8d07d3ca45006562a3afb6f0183f9fe42a7", func := "bailiff/bailifflaw17.PlaysGo", spec := "playsGo", plainKeys := false, apart := false }
def PlaysGoSaid : Prop := playsGoRow.holds Try.pinned (OpenSpec.ofChange playsGoSpec)

/-- ITS FALSE NEIGHBOUR: 'it returns false'. Refute it at one input. -/
def playsGoWrong : ChangeSpec := { name := "playsGo", fn := fun _ => fun
  | [d1, d2, d3, d4, d5] => { results := [.lit (.bool false)], args := [d1, d2, d3, d4, d5] }
  | _ => none }
def PlaysGoWrongFalsely : Prop := playsGoRow.holds Try.pinned (OpenSpec.ofChange playsGoWrong)

/-- 'bailifflaw17.PlaysTwice': WHATEVER THE INPUT: true; the input reads as it did. -/
def playsTwiceSpec : ChangeSpec := { name := "playsTwice", fn := fun _ => fun
  | [d1, d2, d3, d4, d5] => { results := [.lit (.bool true)], args := [d1, d2, d3, d4, d5] }
  | _ => none }
def playsTwiceRow : OpenClaim := { program := "ytklbpajmoklheaa", sum := "05c1df3adff3978eb00b5dc37572f8d07d3ca45006562a3afb6f0183f9fe42a7", func := "bailiff/bailifflaw17.PlaysTwice", spec := "playsTwice", plainKeys := false, apart := false }
def PlaysTwiceSaid : Prop := playsTwiceRow.holds Try.pinned (OpenSpec.ofChange playsTwiceSpec)

/-- ITS FALSE NEIGHBOUR: 'it returns false'. Refute it at one input. -/
def playsTwiceWrong : ChangeSpec := { name := "playsTwice", fn := fun _ => fun
  | [d1, d2, d3, d4, d5] => { results := [.lit (.bool false)], args := [d1, d2, d3, d4, d5] }
  | _ => none }
def PlaysTwiceWrongFalsely : Prop := playsTwiceRow.holds Try.pinned (OpenSpec.ofChange playsTwiceWrong)

/-- 'bailifflaw14.MeasureCompares': WHATEVER THE INPUT: true; the input reads as it did. -/
def measureComparesSpec : ChangeSpec := { name := "measureCompares", fn := fun _ => fun
  | [d1, d2, d3] => { results := [.lit (.bool true)], args := [d1, d2, d3] }
  | _ => none }
def measureComparesRow : OpenClaim := { program := "ytklbpajmoklheaa", sum := "05c1df3adff3978eb00b5dc37572f8d07d3ca45006562a3afb6f0183f9fe42a7", func := "bailiff/bailifflaw14.MeasureCompares", spec := "measureCompares", plainKeys := false, apart := false }
def MeasureComparesSaid : Prop := measureComparesRow.holds Try.pinned (OpenSpec.ofChange measureComparesSpec)

/-- ITS FALSE NEIGHBOUR: 'it returns false'. Refute it at one input. -/
def measureComparesWrong : ChangeSpec := { name := "measureCompares", fn := fun _ => fun
  | [d1, d2, d3] => { results := [.lit (.bool false)], args := [d1, d2, d3] }
  | _ => none }
def MeasureComparesWrongFalsely : Prop := measureComparesRow.holds Try.pinned (OpenSpec.ofChange measureComparesWrong)

/-- 'bailifflaw14.MeasureSolves': WHATEVER THE INPUT: true; the input reads as it did. -/
def measureSolvesSpec : ChangeSpec := { name := "measureSolves", fn := fun _ => fun
  | [d] => { results := [.lit (.bool true)], args := [d] }
  | _ => none }
def measureSolvesRow : OpenClaim := { program := "ytklbpajmoklheaa", sum := "05c1df3adff3978eb00b5dc37572f8d07d3ca45006562a3afb6f0183f9fe42a7", func := "bailiff/bailifflaw14.MeasureSolves", spec := "measureSolves", plainKeys := false, apart := false }
def MeasureSolvesSaid : Prop := measureSolvesRow.holds Try.pinned (OpenSpec.ofChange measureSolvesSpec)

/-- ITS FALSE NEIGHBOUR: 'it returns false'. Refute it at one input. -/
def measureSolvesWrong : ChangeSpec := { name := "measureSolves", fn := fun _ => fun
  | [d] => { results := [.lit (.bool false)], args := [d] }
  | _ => none }
def MeasureSolvesWrongFalsely : Prop := measureSolvesRow.holds Try.pinned (OpenSpec.ofChange measureSolvesWrong)

/-- 'bailifflaw14.MeasureEvens': WHATEVER THE INPUT: true; the input reads as it did. -/
def measureEvensSpec : ChangeSpec := { name := "measureEvens", fn := fun _ => fun
  | [d1, d2] => { results := [.lit (.bool true)], args := [d1, d2] }
  | _ => none }
def measureEvensRow : OpenClaim := { program := "ytklbpajmoklheaa", sum := "05c1df3adff3978eb00b5dc37572f8d07d3ca45006562a3afb6f0183f9fe42a7", func := "bailiff/bailifflaw14.MeasureEvens", spec := "measureEvens", plainKeys := false, apart := false }
def MeasureEvensSaid : Prop := measureEvensRow.holds Try.pinned (OpenSpec.ofChange measureEvensSpec)

/-- ITS FALSE NEIGHBOUR: 'it returns false'. Refute it at one input. -/
def measureEvensWrong : ChangeSpec := { name := "measureEvens", fn := fun _ => fun
  | [d1, d2] => { results := [.lit (.bool false)], args := [d1, d2] }
  | _ => none }
def MeasureEvensWrongFalsely : Prop := measureEvensRow.holds Try.pinned (OpenSpec.ofChange measureEvensWrong)

/-- 'bailifflaw14.MeasureWins': WHATEVER THE INPUT: true; the input reads as it did. -/
def measureWinsSpec : ChangeSpec := { name := "measureWins", fn := fun _ => fun
  | [d] => { results := [.lit (.bool true)], args := [d] }
  | _ => none }
def measureWinsRow : OpenClaim := { program := "ytklbpajmoklheaa", sum := "05c1df3adff3978eb00b5dc37572f8d07d3ca45006562a3afb6f0183f9fe42a7", func := "bailiff/bailifflaw14.MeasureWins", spec := "measureWins", recurses := true, plainKeys := false, apart := false }
def MeasureWinsSaid : Prop := measureWinsRow.holds Try.pinned (OpenSpec.ofChange measureWinsSpec)

/-- ITS FALSE NEIGHBOUR: 'it returns false'. Refute it at one input. -/
def measureWinsWrong : ChangeSpec := { name := "measureWins", fn := fun _ => fun
  | [d] => { results := [.lit (.bool false)], args := [d] }
  | _ => none }
def MeasureWinsWrongFalsely : Prop := measureWinsRow.holds Try.pinned (OpenSpec.ofChange measureWinsWrong)

/-- 'bailifflaw14.MeasureBack': WHATEVER THE INPUT: true; the input reads as it did. -/
def measureBackSpec : ChangeSpec := { name := "measureBack", fn := fun _ => fun
  | [d1, d2, d3] => { results := [.lit (.bool true)], args := [d1, d2, d3] }
  | _ => none }
def measureBackRow : OpenClaim := { program := "ytklbpajmoklheaa", sum := "05c1df3adff3978eb00b5dc37572f8d07d3ca45006562a3afb6f0183f9fe42a7", func := "bailiff/bailifflaw14.MeasureBack", spec := "measureBack", plainKeys := false, apart := false }
def MeasureBackSaid : Prop := measureBackRow.holds Try.pinned (OpenSpec.ofChange measureBackSpec)

/-- ITS FALSE NEIGHBOUR: 'it returns false'. Refute it at one input. -/
def measureBackWrong : ChangeSpec := { name := "measureBack", fn := fun _ => fun
  | [d1, d2, d3] => { results := [.lit (.bool false)], args := [d1, d2, d3] }
  | _ => none }
def MeasureBackWrongFalsely : Prop := measureBackRow.holds Try.pinned (OpenSpec.ofChange measureBackWrong)

/-- 'bailifflaw14.MeasureBounds': WHATEVER THE INPUT: true; the input reads as it did. -/
def measureBoundsSpec : ChangeSpec := { name := "measureBounds", fn := fun _ => fun
  | [d1, d2] => { results := [.lit (.bool true)], args := [d1, d2] }
  | _ => none }
def measureBoundsRow : OpenClaim := { program := "ytklbpajmoklheaa", sum := "05c1df3adff3978eb00b5dc37572f8d07d3ca45006562a3afb6f0183f9fe42a7", func := "bailiff/bailifflaw14.MeasureBounds", spec := "measureBounds", plainKeys := false, apart := false }
def MeasureBoundsSaid : Prop := measureBoundsRow.holds Try.pinned (OpenSpec.ofChange measureBoundsSpec)

/-- ITS FALSE NEIGHBOUR: 'it returns false'. Refute it at one input. -/
def measureBoundsWrong : ChangeSpec := { name := "measureBounds", fn := fun _ => fun
  | [d1, d2] => { results := [.lit (.bool false)], args := [d1, d2] }
  | _ => none }
def MeasureBoundsWrongFalsely : Prop := measureBoundsRow.holds Try.pinned (OpenSpec.ofChange measureBoundsWrong)

/-- 'bailifflaw14.MeasureLeast': WHATEVER THE INPUT: true; the input reads as it did. -/
def measureLeastSpec : ChangeSpec := { name := "measureLeast", fn := fun _ => fun
  | [d1, d2] => { results := [.lit (.bool true)], args := [d1, d2] }
  | _ => none }
def measureLeastRow : OpenClaim := { program := "ytklbpajmoklheaa", sum := "05c1df3adff3978eb00b5dc37572f8d07d3ca45006562a3afb6f0183f9fe42a7", func := "bailiff/bailifflaw14.MeasureLeast", spec := "measureLeast", plainKeys := false, apart := false }
def MeasureLeastSaid : Prop := measureLeastRow.holds Try.pinned (OpenSpec.ofChange measureLeastSpec)

/-- ITS FALSE NEIGHBOUR: 'it returns false'. Refute it at one input. -/
def measureLeastWrong : ChangeSpec := { name := "measureLeast", fn := fun _ => fun
  | [d1, d2] => { results := [.lit (.bool false)], args := [d1, d2] }
  | _ => none }
def MeasureLeastWrongFalsely : Prop := measureLeastRow.holds Try.pinned (OpenSpec.ofChange measureLeastWrong)

/-- 'bailifflaw14.MeasureHigher': WHATEVER THE INPUT: true; the input reads as it did. -/
def measureHigherSpec : ChangeSpec := { name := "measureHigher", fn := fun _ => fun
  | [d] => { results := [.lit (.bool true)], args := [d] }
  | _ => none }
def measureHigherRow : OpenClaim := { program := "ytklbpajmoklheaa", sum := "05c1df3adff3978eb00b5dc37572f8d07d3ca45006562a3afb6f0183f9fe42a7", func := "bailiff/bailifflaw14.MeasureHigher", spec := "measureHigher", plainKeys := false, apart := false }
def MeasureHigherSaid : Prop := measureHigherRow.holds Try.pinned (OpenSpec.ofChange measureHigherSpec)

/-- ITS FALSE NEIGHBOUR: 'it returns false'. Refute it at one input. -/
def measureHigherWrong : ChangeSpec := { name := "measureHigher", fn := fun _ => fun
  | [d] => { results := [.lit (.bool false)], args := [d] }
  | _ => none }
def MeasureHigherWrongFalsely : Prop := measureHigherRow.holds Try.pinned (OpenSpec.ofChange measureHigherWrong)

/- THE SECOND FORM. 'bulk': how many values and letters a reading holds, each counted each time it is reached (what is shared counts as often as it is met; a slice's spare places count too). A statement '..UptoSaid' is the law's where the arguments, and the package variables that the reading takes, are together of bulk at most 1048576: NARROWER than '..Said'. Prove '..Said' where nothing that the law and all that it calls make is longer than what came in: it says more and counts as full. Else prove '..UptoSaid'. A law counts once. -/
mutual
def uptoBulk {H : Type} : DataW H → Nat
  | .lit (.string bytes) => bytes.length + 1
  | .lit _ => 1
  | .nil => 1
  | .ptr d => uptoBulk d + 1
  | .slice elems spare => uptoBulkAll elems + uptoBulkAll spare + 1
  | .agg parts => uptoBulkAll parts + 1
  | .iface _ d => uptoBulk d + 1
  | .map entries => uptoBulkEntries entries + 1
  | .held _ => 1
def uptoBulkAll {H : Type} : List (DataW H) → Nat
  | [] => 0
  | d :: r => uptoBulk d + uptoBulkAll r
def uptoBulkEntries {H : Type} : List (Lit × DataW H) → Nat
  | [] => 0
  | x :: r => uptoBulkEntry x + uptoBulkEntries r
def uptoBulkEntry {H : Type} : Lit × DataW H → Nat
  | (.string bytes, d) => bytes.length + uptoBulk d + 1
  | (_, d) => uptoBulk d + 1
 end
def uptoSmall : (H : Type) → List (DataW H) → Bool := fun _ ds => decide (uptoBulkAll ds ≤ 1048576)
def OpenSpec.upto (s : _root_.Go.ChangeSpec) : _root_.Go.OpenSpec := { _root_.Go.OpenSpec.ofChange s with cond := some uptoSmall }

/-- 'bailifflaw17.PlaysRuns', WHERE WHAT IT READS IS OF BULK AT MOST 1048576: true; the input reads as it did. -/
def playsRunsUptoRow : OpenClaim := { program := "ytklbpajmoklheaa", sum := "05c1df3adff3978eb00b5dc37572f8d07d3ca45006562a3afb6f0183f9fe42a7", func := "bailiff/bailifflaw17.PlaysRuns", spec := "playsRuns", plainKeys := false, apart := false, narrowed := true }
def PlaysRunsUptoSaid : Prop := playsRunsUptoRow.holds Try.pinned (OpenSpec.upto playsRunsSpec)

/-- 'bailifflaw17.PlaysGo', WHERE WHAT IT READS IS OF BULK AT MOST 1048576: true; the input reads as it did. -/
def playsGoUptoRow : OpenClaim := { program := "ytklbpajmoklheaa", sum := "05c1df3adff3978eb00b5dc37572f8d07d3ca45006562a3afb6f0183f9fe42a7", func := "bailiff/bailifflaw17.PlaysGo", spec := "playsGo", plainKeys := false, apart := false, narrowed := true }
def PlaysGoUptoSaid : Prop := playsGoUptoRow.holds Try.pinned (OpenSpec.upto playsGoSpec)

/-- 'bailifflaw17.PlaysTwice', WHERE WHAT IT READS IS OF BULK AT MOST 1048576: true; the input reads as it did. -/
def playsTwiceUptoRow : OpenClaim := { program := "ytklbpajmoklheaa", sum := "05c1df3adff3978eb00b5dc37572f8d07d3ca45006562a3afb6f0183f9fe42a7", func := "bailiff/bailifflaw17.PlaysTwice", spec := "playsTwice", plainKeys := false, apart := false, narrowed := true }
def PlaysTwiceUptoSaid : Prop := playsTwiceUptoRow.holds Try.pinned (OpenSpec.upto playsTwiceSpec)

/-- 'bailifflaw14.MeasureCompares', WHERE WHAT IT READS IS OF BULK AT MOST 1048576: true; the input reads as it did. -/
def measureComparesUptoRow : OpenClaim := { program := "ytklbpajmoklheaa", sum := "05c1df3adff3978eb00b5dc37572f8d07d3ca45006562a3afb6f0183f9fe42a7", func := "bailiff/bailifflaw14.MeasureCompares", spec := "measureCompares", plainKeys := false, apart := false, narrowed := true }
def MeasureComparesUptoSaid : Prop := measureComparesUptoRow.holds Try.pinned (OpenSpec.upto measureComparesSpec)

/-- 'bailifflaw14.MeasureSolves', WHERE WHAT IT READS IS OF BULK AT MOST 1048576: true; the input reads as it did. -/
def measureSolvesUptoRow : OpenClaim := { program := "ytklbpajmoklheaa", sum := "05c1df3adff3978eb00b5dc37572f8d07d3ca45006562a3afb6f0183f9fe42a7", func := "bailiff/bailifflaw14.MeasureSolves", spec := "measureSolves", plainKeys := false, apart := false, narrowed := true }
def MeasureSolvesUptoSaid : Prop := measureSolvesUptoRow.holds Try.pinned (OpenSpec.upto measureSolvesSpec)

/-- 'bailifflaw14.MeasureEvens', WHERE WHAT IT READS IS OF BULK AT MOST 1048576: true; the input reads as it did. -/
def measureEvensUptoRow : OpenClaim := { program := "ytklbpajmoklheaa", sum := "05c1df3adff3978eb00b5dc37572f8d07d3ca45006562a3afb6f0183f9fe42a7", func := "bailiff/bailifflaw14.MeasureEvens", spec := "measureEvens", plainKeys := false, apart := false, narrowed := true }
def MeasureEvensUptoSaid : Prop := measureEvensUptoRow.holds Try.pinned (OpenSpec.upto measureEvensSpec)

/-- 'bailifflaw14.MeasureWins', WHERE WHAT IT READS IS OF BULK AT MOST 1048576: true; the input reads as it did. -/
def measureWinsUptoRow : OpenClaim := { program := "ytklbpajmoklheaa", sum := "05c1df3adff3978eb00b5dc37572f8d07d3ca45006562a3afb6f0183f9fe42a7", func := "bailiff/bailifflaw14.MeasureWins", spec := "measureWins", recurses := true, plainKeys := false, apart := false, narrowed := true }
def MeasureWinsUptoSaid : Prop := measureWinsUptoRow.holds Try.pinned (OpenSpec.upto measureWinsSpec)

/-- 'bailifflaw14.MeasureBack', WHERE WHAT IT READS IS OF BULK AT MOST 1048576: true; the input reads as it did. -/
def measureBackUptoRow : OpenClaim := { program := "ytklbpajmoklheaa", sum := "05c1df3adff3978eb00b5dc37572f8d07d3ca45006562a3afb6f0183f9fe42a7", func := "bailiff/bailifflaw14.MeasureBack", spec := "measureBack", plainKeys := false, apart := false, narrowed := true }
def MeasureBackUptoSaid : Prop := measureBackUptoRow.holds Try.pinned (OpenSpec.upto measureBackSpec)

/-- 'bailifflaw14.MeasureBounds', WHERE WHAT IT READS IS OF BULK AT MOST 1048576: true; the input reads as it did. -/
def measureBoundsUptoRow : OpenClaim := { program := "ytklbpajmoklheaa", sum := "05c1df3adff3978eb00b5dc37572f8d07d3ca45006562a3afb6f0183f9fe42a7", func := "bailiff/bailifflaw14.MeasureBounds", spec := "measureBounds", plainKeys := false, apart := false, narrowed := true }
def MeasureBoundsUptoSaid : Prop := measureBoundsUptoRow.holds Try.pinned (OpenSpec.upto measureBoundsSpec)

/-- 'bailifflaw14.MeasureLeast', WHERE WHAT IT READS IS OF BULK AT MOST 1048576: true; the input reads as it did. -/
def measureLeastUptoRow : OpenClaim := { program := "ytklbpajmoklheaa", sum := "05c1df3adff3978eb00b5dc37572f8d07d3ca45006562a3afb6f0183f9fe42a7", func := "bailiff/bailifflaw14.MeasureLeast", spec := "measureLeast", plainKeys := false, apart := false, narrowed := true }
def MeasureLeastUptoSaid : Prop := measureLeastUptoRow.holds Try.pinned (OpenSpec.upto measureLeastSpec)

/-- 'bailifflaw14.MeasureHigher', WHERE WHAT IT READS IS OF BULK AT MOST 1048576: true; the input reads as it did. -/
def measureHigherUptoRow : OpenClaim := { program := "ytklbpajmoklheaa", sum := "05c1df3adff3978eb00b5dc37572f8d07d3ca45006562a3afb6f0183f9fe42a7", func := "bailiff/bailifflaw14.MeasureHigher", spec := "measureHigher", plainKeys := false, apart := false, narrowed := true }
def MeasureHigherUptoSaid : Prop := measureHigherUptoRow.holds Try.pinned (OpenSpec.upto measureHigherSpec)

end Rows
end Go.Proofs.Ytklbpajmoklheaa
