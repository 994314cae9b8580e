/-
  NARROWER THAN 'FOR EVERY INPUT', by the rows' own cells (each row's printed sentence says how): SetsMakes: laid · SetsListed: laid · SetsTells: laid · SetsFull: laid · SetsTaken: laid · SetsWays: laid · SetsChanges: laid · SetsCounts: laid · SetsAlgebra: laid.
  DERIVED. THE GIVEN ROWS OF THIS SEAT. 9 by the template 'for every input the law returns true; each argument reads behind the call as it read before'; 0 by the template 'total and deterministic' (their statements: YtepekncgknlcjaaDoorTotals.lean).
  GIVEN WITH THE SEED: the statements are not yours to turn. If you find one false, say at which input.
  Laid BY PROGRAM, IN A SANDBOX (cutbox-rows.mjs): the forced cells as the released guide's own fill.sh prints them over the translation 1c4df0c2145d4b06… (all of the seat's roots in one cut). By AI agents, Wed Nov 11 2026. No macro, syntax, notation, axiom, sorry.
-/
import Derived.Test.YtepekncgknlcjaaDoorChecked
import GoSem.Claim
import GoSem.ClaimJoined
import GoSem.ClaimMapViews
import Derived.JoinedTies
import Derived.KernelRfl
namespace Go.Proofs.YtepekncgknlcjaaDoor
/- THE CELL 'sum', in the pinned program and in every row, IS THE sha256 OF THE DUMP (.gsa) THAT YtepekncgknlcjaaDoorProg.lean LOADS. Nothing in Lean hashes anything: it is a label: what it is worth is what the hold of that sum in a sandbox is worth. -/
noncomputable def Tryd.pinned : Pinned := { name := "ytepekncgknlcjaadoor", sum := "1c4df0c2145d4b064251faa43e84f5d5a64256246cf200250e4af25b428a784b", checked := Tryd.checked }
namespace Rows
def none {H : Type} : Left H := { results := [], args := [] }

/- WHAT THE LISTED PACKAGE-LEVEL VARIABLES READ AS WHEN THE CALL BEGINS. Each datum BY PROGRAM (the guide's laid-datum.mjs) off the statement by which the dump's own 'gosem.cut.vars' lays the variable. In a bare row this is a premise. The card (YtepekncgknlcjaaDoorCards.lean) ties it to the program's text. -/
def laid_math_bits_deBruijn64tab {H : Type} : DataW H := .agg [.lit (.int .u8 0), .lit (.int .u8 1), .lit (.int .u8 56), .lit (.int .u8 2), .lit (.int .u8 57), .lit (.int .u8 49), .lit (.int .u8 28), .lit (.int .u8 3), .lit (.int .u8 61), .lit (.int .u8 58), .lit (.int .u8 42), .lit (.int .u8 50), .lit (.int .u8 38), .lit (.int .u8 29), .lit (.int .u8 17), .lit (.int .u8 4), .lit (.int .u8 62), .lit (.int .u8 47), .lit (.int .u8 59), .lit (.int .u8 36), .lit (.int .u8 45), .lit (.int .u8 43), .lit (.int .u8 51), .lit (.int .u8 22), .lit (.int .u8 53), .lit (.int .u8 39), .lit (.int .u8 33), .lit (.int .u8 30), .lit (.int .u8 24), .lit (.int .u8 18), .lit (.int .u8 12), .lit (.int .u8 5), .lit (.int .u8 63), .lit (.int .u8 55), .lit (.int .u8 48), .lit (.int .u8 27), .lit (.int .u8 60), .lit (.int .u8 41), .lit (.int .u8 37), .lit (.int .u8 16), .lit (.int .u8 46), .lit (.int .u8 35), .lit (.int .u8 44), .lit (.int .u8 21), .lit (.int .u8 52), .lit (.int .u8 32), .lit (.int .u8 23), .lit (.int .u8 11), .lit (.int .u8 54), .lit (.int .u8 26), .lit (.int .u8 40), .lit (.int .u8 15), .lit (.int .u8 34), .lit (.int .u8 20), .lit (.int .u8 31), .lit (.int .u8 10), .lit (.int .u8 25), .lit (.int .u8 14), .lit (.int .u8 19), .lit (.int .u8 9), .lit (.int .u8 13), .lit (.int .u8 8), .lit (.int .u8 7), .lit (.int .u8 6)]

/-- 'bailifflaw01.SetsMakes': WHATEVER THE INPUT: true; the input reads as it did. -/
def setsMakesSpec : ChangeSpec := { name := "setsMakes", fn := fun _ => fun
  | [d1, d2] => { results := [.lit (.bool true)], args := [d1, d2] }
  | _ => none }
def setsMakesRow : OpenClaim := { program := "ytepekncgknlcjaadoor", sum := "1c4df0c2145d4b064251faa43e84f5d5a64256246cf200250e4af25b428a784b", func := "bailiff/bailifflaw01.SetsMakes", spec := "setsMakes", named := ["math/bits.deBruijn64tab"], apart := false, laid := [("math/bits.deBruijn64tab", laid_math_bits_deBruijn64tab)] }
def SetsMakesSaid : Prop := setsMakesRow.holds Tryd.pinned (OpenSpec.ofChange setsMakesSpec)

/-- ITS FALSE NEIGHBOUR: 'it returns false'. Refute it at one input. -/
def setsMakesWrong : ChangeSpec := { name := "setsMakes", fn := fun _ => fun
  | [d1, d2] => { results := [.lit (.bool false)], args := [d1, d2] }
  | _ => none }
def SetsMakesWrongFalsely : Prop := setsMakesRow.holds Tryd.pinned (OpenSpec.ofChange setsMakesWrong)

/-- 'bailifflaw01.SetsListed': WHATEVER THE INPUT: true; the input reads as it did. -/
def setsListedSpec : ChangeSpec := { name := "setsListed", fn := fun _ => fun
  | [d1, d2] => { results := [.lit (.bool true)], args := [d1, d2] }
  | _ => none }
def setsListedRow : OpenClaim := { program := "ytepekncgknlcjaadoor", sum := "1c4df0c2145d4b064251faa43e84f5d5a64256246cf200250e4af25b428a784b", func := "bailiff/bailifflaw01.SetsListed", spec := "setsListed", named := ["math/bits.deBruijn64tab"], apart := false, laid := [("math/bits.deBruijn64tab", laid_math_bits_deBruijn64tab)] }
def SetsListedSaid : Prop := setsListedRow.holds Tryd.pinned (OpenSpec.ofChange setsListedSpec)

/-- ITS FALSE NEIGHBOUR: 'it returns false'. Refute it at one input. -/
def setsListedWrong : ChangeSpec := { name := "setsListed", fn := fun _ => fun
  | [d1, d2] => { results := [.lit (.bool false)], args := [d1, d2] }
  | _ => none }
def SetsListedWrongFalsely : Prop := setsListedRow.holds Tryd.pinned (OpenSpec.ofChange setsListedWrong)

/-- 'bailifflaw01.SetsTells': WHATEVER THE INPUT: true; the input reads as it did. -/
def setsTellsSpec : ChangeSpec := { name := "setsTells", fn := fun _ => fun
  | [d1, d2, d3] => { results := [.lit (.bool true)], args := [d1, d2, d3] }
  | _ => none }
def setsTellsRow : OpenClaim := { program := "ytepekncgknlcjaadoor", sum := "1c4df0c2145d4b064251faa43e84f5d5a64256246cf200250e4af25b428a784b", func := "bailiff/bailifflaw01.SetsTells", spec := "setsTells", named := ["math/bits.deBruijn64tab"], apart := false, laid := [("math/bits.deBruijn64tab", laid_math_bits_deBruijn64tab)] }
def SetsTellsSaid : Prop := setsTellsRow.holds Tryd.pinned (OpenSpec.ofChange setsTellsSpec)

/-- ITS FALSE NEIGHBOUR: 'it returns false'. Refute it at one input. -/
def setsTellsWrong : ChangeSpec := { name := "setsTells", fn := fun _ => fun
  | [d1, d2, d3] => { results := [.lit (.bool false)], args := [d1, d2, d3] }
  | _ => none }
def SetsTellsWrongFalsely : Prop := setsTellsRow.holds Tryd.pinned (OpenSpec.ofChange setsTellsWrong)

/-- 'bailifflaw01.SetsFull': WHATEVER THE INPUT: true; the input reads as it did. -/
def setsFullSpec : ChangeSpec := { name := "setsFull", fn := fun _ => fun
  | [d1, d2] => { results := [.lit (.bool true)], args := [d1, d2] }
  | _ => none }
def setsFullRow : OpenClaim := { program := "ytepekncgknlcjaadoor", sum := "1c4df0c2145d4b064251faa43e84f5d5a64256246cf200250e4af25b428a784b", func := "bailiff/bailifflaw01.SetsFull", spec := "setsFull", named := ["math/bits.deBruijn64tab"], apart := false, laid := [("math/bits.deBruijn64tab", laid_math_bits_deBruijn64tab)] }
def SetsFullSaid : Prop := setsFullRow.holds Tryd.pinned (OpenSpec.ofChange setsFullSpec)

/-- ITS FALSE NEIGHBOUR: 'it returns false'. Refute it at one input. -/
def setsFullWrong : ChangeSpec := { name := "setsFull", fn := fun _ => fun
  | [d1, d2] => { results := [.lit (.bool false)], args := [d1, d2] }
  | _ => none }
def SetsFullWrongFalsely : Prop := setsFullRow.holds Tryd.pinned (OpenSpec.ofChange setsFullWrong)

/-- 'bailifflaw01.SetsTaken': WHATEVER THE INPUT: true; the input reads as it did. -/
def setsTakenSpec : ChangeSpec := { name := "setsTaken", fn := fun _ => fun
  | [d] => { results := [.lit (.bool true)], args := [d] }
  | _ => none }
def setsTakenRow : OpenClaim := { program := "ytepekncgknlcjaadoor", sum := "1c4df0c2145d4b064251faa43e84f5d5a64256246cf200250e4af25b428a784b", func := "bailiff/bailifflaw01.SetsTaken", spec := "setsTaken", named := ["math/bits.deBruijn64tab"], apart := false, laid := [("math/bits.deBruijn64tab", laid_math_bits_deBruijn64tab)] }
def SetsTakenSaid : Prop := setsTakenRow.holds Tryd.pinned (OpenSpec.ofChange setsTakenSpec)

/-- ITS FALSE NEIGHBOUR: 'it returns false'. Refute it at one input. -/
def setsTakenWrong : ChangeSpec := { name := "setsTaken", fn := fun _ => fun
  | [d] => { results := [.lit (.bool false)], args := [d] }
  | _ => none }
def SetsTakenWrongFalsely : Prop := setsTakenRow.holds Tryd.pinned (OpenSpec.ofChange setsTakenWrong)

/-- 'bailifflaw01.SetsWays': WHATEVER THE INPUT: true; the input reads as it did. -/
def setsWaysSpec : ChangeSpec := { name := "setsWays", fn := fun _ => fun
  | [d] => { results := [.lit (.bool true)], args := [d] }
  | _ => none }
def setsWaysRow : OpenClaim := { program := "ytepekncgknlcjaadoor", sum := "1c4df0c2145d4b064251faa43e84f5d5a64256246cf200250e4af25b428a784b", func := "bailiff/bailifflaw01.SetsWays", spec := "setsWays", named := ["math/bits.deBruijn64tab"], apart := false, laid := [("math/bits.deBruijn64tab", laid_math_bits_deBruijn64tab)] }
def SetsWaysSaid : Prop := setsWaysRow.holds Tryd.pinned (OpenSpec.ofChange setsWaysSpec)

/-- ITS FALSE NEIGHBOUR: 'it returns false'. Refute it at one input. -/
def setsWaysWrong : ChangeSpec := { name := "setsWays", fn := fun _ => fun
  | [d] => { results := [.lit (.bool false)], args := [d] }
  | _ => none }
def SetsWaysWrongFalsely : Prop := setsWaysRow.holds Tryd.pinned (OpenSpec.ofChange setsWaysWrong)

/-- 'bailifflaw01.SetsChanges': WHATEVER THE INPUT: true; the input reads as it did. -/
def setsChangesSpec : ChangeSpec := { name := "setsChanges", fn := fun _ => fun
  | [d1, d2, d3] => { results := [.lit (.bool true)], args := [d1, d2, d3] }
  | _ => none }
def setsChangesRow : OpenClaim := { program := "ytepekncgknlcjaadoor", sum := "1c4df0c2145d4b064251faa43e84f5d5a64256246cf200250e4af25b428a784b", func := "bailiff/bailifflaw01.SetsChanges", spec := "setsChanges", named := ["math/bits.deBruijn64tab"], apart := false, laid := [("math/bits.deBruijn64tab", laid_math_bits_deBruijn64tab)] }
def SetsChangesSaid : Prop := setsChangesRow.holds Tryd.pinned (OpenSpec.ofChange setsChangesSpec)

/-- ITS FALSE NEIGHBOUR: 'it returns false'. Refute it at one input. -/
def setsChangesWrong : ChangeSpec := { name := "setsChanges", fn := fun _ => fun
  | [d1, d2, d3] => { results := [.lit (.bool false)], args := [d1, d2, d3] }
  | _ => none }
def SetsChangesWrongFalsely : Prop := setsChangesRow.holds Tryd.pinned (OpenSpec.ofChange setsChangesWrong)

/-- 'bailifflaw01.SetsCounts': WHATEVER THE INPUT: true; the input reads as it did. -/
def setsCountsSpec : ChangeSpec := { name := "setsCounts", fn := fun _ => fun
  | [d1, d2, d3] => { results := [.lit (.bool true)], args := [d1, d2, d3] }
  | _ => none }
def setsCountsRow : OpenClaim := { program := "ytepekncgknlcjaadoor", sum := "1c4df0c2145d4b064251faa43e84f5d5a64256246cf200250e4af25b428a784b", func := "bailiff/bailifflaw01.SetsCounts", spec := "setsCounts", named := ["math/bits.deBruijn64tab"], apart := false, laid := [("math/bits.deBruijn64tab", laid_math_bits_deBruijn64tab)] }
def SetsCountsSaid : Prop := setsCountsRow.holds Tryd.pinned (OpenSpec.ofChange setsCountsSpec)

/-- ITS FALSE NEIGHBOUR: 'it returns false'. Refute it at one input. -/
def setsCountsWrong : ChangeSpec := { name := "setsCounts", fn := fun _ => fun
  | [d1, d2, d3] => { results := [.lit (.bool false)], args := [d1, d2, d3] }
  | _ => none }
def SetsCountsWrongFalsely : Prop := setsCountsRow.holds Tryd.pinned (OpenSpec.ofChange setsCountsWrong)

/-- 'bailifflaw01.SetsAlgebra': WHATEVER THE INPUT: true; the input reads as it did. -/
def setsAlgebraSpec : ChangeSpec := { name := "setsAlgebra", fn := fun _ => fun
  | [d1, d2, d3] => { results := [.lit (.bool true)], args := [d1, d2, d3] }
  | _ => none }
def setsAlgebraRow : OpenClaim := { program := "ytepekncgknlcjaadoor", sum := "1c4df0c2145d4b064251faa43e84f5d5a64256246cf200250e4af25b428a784b", func := "bailiff/bailifflaw01.SetsAlgebra", spec := "setsAlgebra", named := ["math/bits.deBruijn64tab"], apart := false, laid := [("math/bits.deBruijn64tab", laid_math_bits_deBruijn64tab)] }
def SetsAlgebraSaid : Prop := setsAlgebraRow.holds Tryd.pinned (OpenSpec.ofChange setsAlgebraSpec)

/-- ITS FALSE NEIGHBOUR: 'it returns false'. Refute it at one input. -/
def setsAlgebraWrong : ChangeSpec := { name := "setsAlgebra", fn := fun _ => fun
  | [d1, d2, d3] => { results := [.lit (.bool false)], args := [d1, d2, d3] }
  | _ => none }
def SetsAlgebraWrongFalsely : Prop := setsAlgebraRow.holds Tryd.pinned (OpenSpec.ofChange setsAlgebraWrong)

/- THE SECOND FORM. 'bulk': how many values and letters a reading holds, each counted each time it is reached (what is shared counts as often as it is met; a slice's spare places count too). A statement '..UptoSaid' is the law's where the arguments, and the package variables that the reading takes, are together of bulk at most 1048576: NARROWER than '..Said'. Prove '..Said' where nothing that the law and all that it calls make is longer than what came in: it says more and counts as full. Else prove '..UptoSaid'. A law counts once. -/
mutual
def uptoBulk {H : Type} : DataW H → Nat
  | .lit (.string bytes) => bytes.length + 1
  | .lit _ => 1
  | .nil => 1
  | .ptr d => uptoBulk d + 1
  | .slice elems spare => uptoBulkAll elems + uptoBulkAll spare + 1
  | .agg parts => uptoBulkAll parts + 1
  | .iface _ d => uptoBulk d + 1
  | .map entries => uptoBulkEntries entries + 1
  | .held _ => 1
def uptoBulkAll {H : Type} : List (DataW H) → Nat
  | [] => 0
  | d :: r => uptoBulk d + uptoBulkAll r
def uptoBulkEntries {H : Type} : List (Lit × DataW H) → Nat
  | [] => 0
  | x :: r => uptoBulkEntry x + uptoBulkEntries r
def uptoBulkEntry {H : Type} : Lit × DataW H → Nat
  | (.string bytes, d) => bytes.length + uptoBulk d + 1
  | (_, d) => uptoBulk d + 1
 end
def uptoSmall : (H : Type) → List (DataW H) → Bool := fun _ ds => decide (uptoBulkAll ds ≤ 1048576)
def OpenSpec.upto (s : _root_.Go.ChangeSpec) : _root_.Go.OpenSpec := { _root_.Go.OpenSpec.ofChange s with cond := some uptoSmall }

/-- 'bailifflaw01.SetsMakes', WHERE WHAT IT READS IS OF BULK AT MOST 1048576: true; the input reads as it did. -/
def setsMakesUptoRow : OpenClaim := { program := "ytepekncgknlcjaadoor", sum := "1c4df0c2145d4b064251faa43e84f5d5a64256246cf200250e4af25b428a784b", func := "bailiff/bailifflaw01.SetsMakes", spec := "setsMakes", named := ["math/bits.deBruijn64tab"], apart := false, laid := [("math/bits.deBruijn64tab", laid_math_bits_deBruijn64tab)], narrowed := true }
def SetsMakesUptoSaid : Prop := setsMakesUptoRow.holds Tryd.pinned (OpenSpec.upto setsMakesSpec)

/-- 'bailifflaw01.SetsListed', WHERE WHAT IT READS IS OF BULK AT MOST 1048576: true; the input reads as it did. -/
def setsListedUptoRow : OpenClaim := { program := "ytepekncgknlcjaadoor", sum := "1c4df0c2145d4b064251faa43e84f5d5a64256246cf200250e4af25b428a784b", func := "bailiff/bailifflaw01.SetsListed", spec := "setsListed", named := ["math/bits.deBruijn64tab"], apart := false, laid := [("math/bits.deBruijn64tab", laid_math_bits_deBruijn64tab)], narrowed := true }
def SetsListedUptoSaid : Prop := setsListedUptoRow.holds Tryd.pinned (OpenSpec.upto setsListedSpec)

/-- 'bailifflaw01.SetsTells', WHERE WHAT IT READS IS OF BULK AT MOST 1048576: true; the input reads as it did. -/
def setsTellsUptoRow : OpenClaim := { program := "ytepekncgknlcjaadoor", sum := "1c4df0c2145d4b064251faa43e84f5d5a64256246cf200250e4af25b428a784b", func := "bailiff/bailifflaw01.SetsTells", spec := "setsTells", named := ["math/bits.deBruijn64tab"], apart := false, laid := [("math/bits.deBruijn64tab", laid_math_bits_deBruijn64tab)], narrowed := true }
def SetsTellsUptoSaid : Prop := setsTellsUptoRow.holds Tryd.pinned (OpenSpec.upto setsTellsSpec)

/-- 'bailifflaw01.SetsFull', WHERE WHAT IT READS IS OF BULK AT MOST 1048576: true; the input reads as it did. -/
def setsFullUptoRow : OpenClaim := { program := "ytepekncgknlcjaadoor", sum := "1c4df0c2145d4b064251faa43e84f5d5a64256246cf200250e4af25b428a784b", func := "bailiff/bailifflaw01.SetsFull", spec := "setsFull", named := ["math/bits.deBruijn64tab"], apart := false, laid := [("math/bits.deBruijn64tab", laid_math_bits_deBruijn64tab)], narrowed := true }
def SetsFullUptoSaid : Prop := setsFullUptoRow.holds Tryd.pinned (OpenSpec.upto setsFullSpec)

/-- 'bailifflaw01.SetsTaken', WHERE WHAT IT READS IS OF BULK AT MOST 1048576: true; the input reads as it did. -/
def setsTakenUptoRow : OpenClaim := { program := "ytepekncgknlcjaadoor", sum := "1c4df0c2145d4b064251faa43e84f5d5a64256246cf200250e4af25b428a784b", func := "bailiff/bailifflaw01.SetsTaken", spec := "setsTaken", named := ["math/bits.deBruijn64tab"], apart := false, laid := [("math/bits.deBruijn64tab", laid_math_bits_deBruijn64tab)], narrowed := true }
def SetsTakenUptoSaid : Prop := setsTakenUptoRow.holds Tryd.pinned (OpenSpec.upto setsTakenSpec)

/-- 'bailifflaw01.SetsWays', WHERE WHAT IT READS IS OF BULK AT MOST 1048576: true; the input reads as it did. -/
def setsWaysUptoRow : OpenClaim := { program := "ytepekncgknlcjaadoor", sum := "1c4df0c2145d4b064251faa43e84f5d5a64256246cf200250e4af25b428a784b", func := "bailiff/bailifflaw01.SetsWays", spec := "setsWays", named := ["math/bits.deBruijn64tab"], apart := false, laid := [("math/bits.deBruijn64tab", laid_math_bits_deBruijn64tab)], narrowed := true }
def SetsWaysUptoSaid : Prop := setsWaysUptoRow.holds Tryd.pinned (OpenSpec.upto setsWaysSpec)

/-- 'bailifflaw01.SetsChanges', WHERE WHAT IT READS IS OF BULK AT MOST 1048576: true; the input reads as it did. -/
def setsChangesUptoRow : OpenClaim := { program := "ytepekncgknlcjaadoor", sum := "1c4df0c2145d4b064251faa43e84f5d5a64256246cf200250e4af25b428a784b", func := "bailiff/bailifflaw01.SetsChanges", spec := "setsChanges", named := ["math/bits.deBruijn64tab"], apart := false, laid := [("math/bits.deBruijn64tab", laid_math_bits_deBruijn64tab)], narrowed := true }
def SetsChangesUptoSaid : Prop := setsChangesUptoRow.holds Tryd.pinned (OpenSpec.upto setsChangesSpec)

/-- 'bailifflaw01.SetsCounts', WHERE WHAT IT READS IS OF BULK AT MOST 1048576: true; the input reads as it did. -/
def setsCountsUptoRow : OpenClaim := { program := "ytepekncgknlcjaadoor", sum := "1c4df0c2145d4b064251faa43e84f5d5a64256246cf200250e4af25b428a784b", func := "bailiff/bailifflaw01.SetsCounts", spec := "setsCounts", named := ["math/bits.deBruijn64tab"], apart := false, laid := [("math/bits.deBruijn64tab", laid_math_bits_deBruijn64tab)], narrowed := true }
def SetsCountsUptoSaid : Prop := setsCountsUptoRow.holds Tryd.pinned (OpenSpec.upto setsCountsSpec)

/-- 'bailifflaw01.SetsAlgebra', WHERE WHAT IT READS IS OF BULK AT MOST 1048576: true; the input reads as it did. -/
def setsAlgebraUptoRow : OpenClaim := { program := "ytepekncgknlcjaadoor", sum := "1c4df0c2145d4b064251faa43e84f5d5a64256246cf200250e4af25b428a784b", func := "bailiff/bailifflaw01.SetsAlgebra", spec := "setsAlgebra", named := ["math/bits.deBruijn64tab"], apart := false, laid := [("math/bits.deBruijn64tab", laid_math_bits_deBruijn64tab)], narrowed := true }
def SetsAlgebraUptoSaid : Prop := setsAlgebraUptoRow.holds Tryd.pinned (OpenSpec.upto setsAlgebraSpec)

end Rows
end Go.Proofs.YtepekncgknlcjaaDoor
