/-
  NARROWER THAN 'FOR EVERY INPUT', by the rows' own cells (each row's printed sentence says how): GameRights: laid · GameCopies: laid · GameSubs: laid · GameOwns: laid · GameDuals: laid · GameLimits: laid · GameHalves: laid · GameShares: laid · GameParts: laid.
  DERIVED. THE GIVEN ROWS OF THIS SEAT. 9 by the template 'for every input the law returns true; each argument reads behind the call as it read before'; 0 by the template 'total and deterministic' (their statements: YtkkophhnliplhaaDoorTotals.lean).
  GIVEN WITH THE SEED: the statements are not yours to turn. If you find one false, say at which input.
  Laid BY PROGRAM, IN A SANDBOX (cutbox-rows.mjs): the forced cells as the released guide's own fill.sh prints them over the translation 3d52b1f8b67a9cd8… (all of the seat's roots in one cut). By AI agents, Wed Nov 11 2026. No macro, syntax, notation, axiom, sorry.
-/
import Derived.Test.YtkkophhnliplhaaDoorChecked
import GoSem.Claim
import GoSem.ClaimJoined
import GoSem.ClaimMapViews
import Derived.JoinedTies
import Derived.KernelRfl
namespace Go.Proofs.YtkkophhnliplhaaDoor
/- THE CELL 'sum', in the pinned program and in every row, IS THE sha256 OF THE DUMP (.gsa) THAT YtkkophhnliplhaaDoorProg.lean LOADS. Nothing in Lean hashes anything: it is a label: what it is worth is what the hold of that sum in a sandbox is worth. -/
noncomputable def Tryd.pinned : Pinned := { name := "ytkkophhnliplhaadoor", sum := "3d52b1f8b67a9cd8f20e084262e3c98e97b1ac950487810f5b2332423e0e5877", checked := Tryd.checked }
namespace Rows
def none {H : Type} : Left H := { results := [], args := [] }

/- WHAT THE LISTED PACKAGE-LEVEL VARIABLES READ AS WHEN THE CALL BEGINS. Each datum BY PROGRAM (the guide's laid-datum.mjs) off the statement by which the dump's own 'gosem.cut.vars' lays the variable. In a bare row this is a premise. The card (YtkkophhnliplhaaDoorCards.lean) ties it to the program's text. -/
def laid_math_bits_deBruijn64tab {H : Type} : DataW H := .agg [.lit (.int .u8 0), .lit (.int .u8 1), .lit (.int .u8 56), .lit (.int .u8 2), .lit (.int .u8 57), .lit (.int .u8 49), .lit (.int .u8 28), .lit (.int .u8 3), .lit (.int .u8 61), .lit (.int .u8 58), .lit (.int .u8 42), .lit (.int .u8 50), .lit (.int .u8 38), .lit (.int .u8 29), .lit (.int .u8 17), .lit (.int .u8 4), .lit (.int .u8 62), .lit (.int .u8 47), .lit (.int .u8 59), .lit (.int .u8 36), .lit (.int .u8 45), .lit (.int .u8 43), .lit (.int .u8 51), .lit (.int .u8 22), .lit (.int .u8 53), .lit (.int .u8 39), .lit (.int .u8 33), .lit (.int .u8 30), .lit (.int .u8 24), .lit (.int .u8 18), .lit (.int .u8 12), .lit (.int .u8 5), .lit (.int .u8 63), .lit (.int .u8 55), .lit (.int .u8 48), .lit (.int .u8 27), .lit (.int .u8 60), .lit (.int .u8 41), .lit (.int .u8 37), .lit (.int .u8 16), .lit (.int .u8 46), .lit (.int .u8 35), .lit (.int .u8 44), .lit (.int .u8 21), .lit (.int .u8 52), .lit (.int .u8 32), .lit (.int .u8 23), .lit (.int .u8 11), .lit (.int .u8 54), .lit (.int .u8 26), .lit (.int .u8 40), .lit (.int .u8 15), .lit (.int .u8 34), .lit (.int .u8 20), .lit (.int .u8 31), .lit (.int .u8 10), .lit (.int .u8 25), .lit (.int .u8 14), .lit (.int .u8 19), .lit (.int .u8 9), .lit (.int .u8 13), .lit (.int .u8 8), .lit (.int .u8 7), .lit (.int .u8 6)]

/-- 'bailifflaw09.GameRights': WHATEVER THE INPUT: true; the input reads as it did. -/
def gameRightsSpec : ChangeSpec := { name := "gameRights", fn := fun _ => fun
  | [d] => { results := [.lit (.bool true)], args := [d] }
  | _ => none }
def gameRightsRow : OpenClaim := { program := "ytkkophhnliplhaadoor", sum := "3d52b1f8b67a9cd8f20e084262e3c98e97b1ac950487810f5b2332423e0e5877", func := "bailiff/bailifflaw09.GameRights", spec := "gameRights", named := ["math/bits.deBruijn64tab"], apart := false, laid := [("math/bits.deBruijn64tab", laid_math_bits_deBruijn64tab)] }
def GameRightsSaid : Prop := gameRightsRow.holds Tryd.pinned (OpenSpec.ofChange gameRightsSpec)

/-- ITS FALSE NEIGHBOUR: 'it returns false'. Refute it at one input. -/
def gameRightsWrong : ChangeSpec := { name := "gameRights", fn := fun _ => fun
  | [d] => { results := [.lit (.bool false)], args := [d] }
  | _ => none }
def GameRightsWrongFalsely : Prop := gameRightsRow.holds Tryd.pinned (OpenSpec.ofChange gameRightsWrong)

/-- 'bailifflaw09.GameCopies': WHATEVER THE INPUT: true; the input reads as it did. -/
def gameCopiesSpec : ChangeSpec := { name := "gameCopies", fn := fun _ => fun
  | [d] => { results := [.lit (.bool true)], args := [d] }
  | _ => none }
def gameCopiesRow : OpenClaim := { program := "ytkkophhnliplhaadoor", sum := "3d52b1f8b67a9cd8f20e084262e3c98e97b1ac950487810f5b2332423e0e5877", func := "bailiff/bailifflaw09.GameCopies", spec := "gameCopies", named := ["math/bits.deBruijn64tab"], apart := false, laid := [("math/bits.deBruijn64tab", laid_math_bits_deBruijn64tab)] }
def GameCopiesSaid : Prop := gameCopiesRow.holds Tryd.pinned (OpenSpec.ofChange gameCopiesSpec)

/-- ITS FALSE NEIGHBOUR: 'it returns false'. Refute it at one input. -/
def gameCopiesWrong : ChangeSpec := { name := "gameCopies", fn := fun _ => fun
  | [d] => { results := [.lit (.bool false)], args := [d] }
  | _ => none }
def GameCopiesWrongFalsely : Prop := gameCopiesRow.holds Tryd.pinned (OpenSpec.ofChange gameCopiesWrong)

/-- 'bailifflaw09.GameSubs': WHATEVER THE INPUT: true; the input reads as it did. -/
def gameSubsSpec : ChangeSpec := { name := "gameSubs", fn := fun _ => fun
  | [d1, d2] => { results := [.lit (.bool true)], args := [d1, d2] }
  | _ => none }
def gameSubsRow : OpenClaim := { program := "ytkkophhnliplhaadoor", sum := "3d52b1f8b67a9cd8f20e084262e3c98e97b1ac950487810f5b2332423e0e5877", func := "bailiff/bailifflaw09.GameSubs", spec := "gameSubs", named := ["math/bits.deBruijn64tab"], apart := false, laid := [("math/bits.deBruijn64tab", laid_math_bits_deBruijn64tab)] }
def GameSubsSaid : Prop := gameSubsRow.holds Tryd.pinned (OpenSpec.ofChange gameSubsSpec)

/-- ITS FALSE NEIGHBOUR: 'it returns false'. Refute it at one input. -/
def gameSubsWrong : ChangeSpec := { name := "gameSubs", fn := fun _ => fun
  | [d1, d2] => { results := [.lit (.bool false)], args := [d1, d2] }
  | _ => none }
def GameSubsWrongFalsely : Prop := gameSubsRow.holds Tryd.pinned (OpenSpec.ofChange gameSubsWrong)

/-- 'bailifflaw09.GameOwns': WHATEVER THE INPUT: true; the input reads as it did. -/
def gameOwnsSpec : ChangeSpec := { name := "gameOwns", fn := fun _ => fun
  | [d1, d2, d3] => { results := [.lit (.bool true)], args := [d1, d2, d3] }
  | _ => none }
def gameOwnsRow : OpenClaim := { program := "ytkkophhnliplhaadoor", sum := "3d52b1f8b67a9cd8f20e084262e3c98e97b1ac950487810f5b2332423e0e5877", func := "bailiff/bailifflaw09.GameOwns", spec := "gameOwns", named := ["math/bits.deBruijn64tab"], apart := false, laid := [("math/bits.deBruijn64tab", laid_math_bits_deBruijn64tab)] }
def GameOwnsSaid : Prop := gameOwnsRow.holds Tryd.pinned (OpenSpec.ofChange gameOwnsSpec)

/-- ITS FALSE NEIGHBOUR: 'it returns false'. Refute it at one input. -/
def gameOwnsWrong : ChangeSpec := { name := "gameOwns", fn := fun _ => fun
  | [d1, d2, d3] => { results := [.lit (.bool false)], args := [d1, d2, d3] }
  | _ => none }
def GameOwnsWrongFalsely : Prop := gameOwnsRow.holds Tryd.pinned (OpenSpec.ofChange gameOwnsWrong)

/-- 'bailifflaw09.GameDuals': WHATEVER THE INPUT: true; the input reads as it did. -/
def gameDualsSpec : ChangeSpec := { name := "gameDuals", fn := fun _ => fun
  | [d] => { results := [.lit (.bool true)], args := [d] }
  | _ => none }
def gameDualsRow : OpenClaim := { program := "ytkkophhnliplhaadoor", sum := "3d52b1f8b67a9cd8f20e084262e3c98e97b1ac950487810f5b2332423e0e5877", func := "bailiff/bailifflaw09.GameDuals", spec := "gameDuals", named := ["math/bits.deBruijn64tab"], apart := false, laid := [("math/bits.deBruijn64tab", laid_math_bits_deBruijn64tab)] }
def GameDualsSaid : Prop := gameDualsRow.holds Tryd.pinned (OpenSpec.ofChange gameDualsSpec)

/-- ITS FALSE NEIGHBOUR: 'it returns false'. Refute it at one input. -/
def gameDualsWrong : ChangeSpec := { name := "gameDuals", fn := fun _ => fun
  | [d] => { results := [.lit (.bool false)], args := [d] }
  | _ => none }
def GameDualsWrongFalsely : Prop := gameDualsRow.holds Tryd.pinned (OpenSpec.ofChange gameDualsWrong)

/-- 'bailifflaw09.GameLimits': WHATEVER THE INPUT: true; the input reads as it did. -/
def gameLimitsSpec : ChangeSpec := { name := "gameLimits", fn := fun _ => fun
  | [d1, d2, d3, d4] => { results := [.lit (.bool true)], args := [d1, d2, d3, d4] }
  | _ => none }
def gameLimitsRow : OpenClaim := { program := "ytkkophhnliplhaadoor", sum := "3d52b1f8b67a9cd8f20e084262e3c98e97b1ac950487810f5b2332423e0e5877", func := "bailiff/bailifflaw09.GameLimits", spec := "gameLimits", named := ["math/bits.deBruijn64tab"], apart := false, laid := [("math/bits.deBruijn64tab", laid_math_bits_deBruijn64tab)] }
def GameLimitsSaid : Prop := gameLimitsRow.holds Tryd.pinned (OpenSpec.ofChange gameLimitsSpec)

/-- ITS FALSE NEIGHBOUR: 'it returns false'. Refute it at one input. -/
def gameLimitsWrong : ChangeSpec := { name := "gameLimits", fn := fun _ => fun
  | [d1, d2, d3, d4] => { results := [.lit (.bool false)], args := [d1, d2, d3, d4] }
  | _ => none }
def GameLimitsWrongFalsely : Prop := gameLimitsRow.holds Tryd.pinned (OpenSpec.ofChange gameLimitsWrong)

/-- 'bailifflaw09.GameHalves': WHATEVER THE INPUT: true; the input reads as it did. -/
def gameHalvesSpec : ChangeSpec := { name := "gameHalves", fn := fun _ => fun
  | [d1, d2] => { results := [.lit (.bool true)], args := [d1, d2] }
  | _ => none }
def gameHalvesRow : OpenClaim := { program := "ytkkophhnliplhaadoor", sum := "3d52b1f8b67a9cd8f20e084262e3c98e97b1ac950487810f5b2332423e0e5877", func := "bailiff/bailifflaw09.GameHalves", spec := "gameHalves", named := ["math/bits.deBruijn64tab"], apart := false, laid := [("math/bits.deBruijn64tab", laid_math_bits_deBruijn64tab)] }
def GameHalvesSaid : Prop := gameHalvesRow.holds Tryd.pinned (OpenSpec.ofChange gameHalvesSpec)

/-- ITS FALSE NEIGHBOUR: 'it returns false'. Refute it at one input. -/
def gameHalvesWrong : ChangeSpec := { name := "gameHalves", fn := fun _ => fun
  | [d1, d2] => { results := [.lit (.bool false)], args := [d1, d2] }
  | _ => none }
def GameHalvesWrongFalsely : Prop := gameHalvesRow.holds Tryd.pinned (OpenSpec.ofChange gameHalvesWrong)

/-- 'bailifflaw09.GameShares': WHATEVER THE INPUT: true; the input reads as it did. -/
def gameSharesSpec : ChangeSpec := { name := "gameShares", fn := fun _ => fun
  | [d] => { results := [.lit (.bool true)], args := [d] }
  | _ => none }
def gameSharesRow : OpenClaim := { program := "ytkkophhnliplhaadoor", sum := "3d52b1f8b67a9cd8f20e084262e3c98e97b1ac950487810f5b2332423e0e5877", func := "bailiff/bailifflaw09.GameShares", spec := "gameShares", named := ["math/bits.deBruijn64tab"], apart := false, laid := [("math/bits.deBruijn64tab", laid_math_bits_deBruijn64tab)] }
def GameSharesSaid : Prop := gameSharesRow.holds Tryd.pinned (OpenSpec.ofChange gameSharesSpec)

/-- ITS FALSE NEIGHBOUR: 'it returns false'. Refute it at one input. -/
def gameSharesWrong : ChangeSpec := { name := "gameShares", fn := fun _ => fun
  | [d] => { results := [.lit (.bool false)], args := [d] }
  | _ => none }
def GameSharesWrongFalsely : Prop := gameSharesRow.holds Tryd.pinned (OpenSpec.ofChange gameSharesWrong)

/-- 'bailifflaw09.GameParts': WHATEVER THE INPUT: true; the input reads as it did. -/
def gamePartsSpec : ChangeSpec := { name := "gameParts", fn := fun _ => fun
  | [d1, d2, d3] => { results := [.lit (.bool true)], args := [d1, d2, d3] }
  | _ => none }
def gamePartsRow : OpenClaim := { program := "ytkkophhnliplhaadoor", sum := "3d52b1f8b67a9cd8f20e084262e3c98e97b1ac950487810f5b2332423e0e5877", func := "bailiff/bailifflaw09.GameParts", spec := "gameParts", named := ["math/bits.deBruijn64tab"], apart := false, laid := [("math/bits.deBruijn64tab", laid_math_bits_deBruijn64tab)] }
def GamePartsSaid : Prop := gamePartsRow.holds Tryd.pinned (OpenSpec.ofChange gamePartsSpec)

/-- ITS FALSE NEIGHBOUR: 'it returns false'. Refute it at one input. -/
def gamePartsWrong : ChangeSpec := { name := "gameParts", fn := fun _ => fun
  | [d1, d2, d3] => { results := [.lit (.bool false)], args := [d1, d2, d3] }
  | _ => none }
def GamePartsWrongFalsely : Prop := gamePartsRow.holds Tryd.pinned (OpenSpec.ofChange gamePartsWrong)

/- THE SECOND FORM. 'bulk': how many values and letters a reading holds, each counted each time it is reached (what is shared counts as often as it is met; a slice's spare places count too). A statement '..UptoSaid' is the law's where the arguments, and the package variables that the reading takes, are together of bulk at most 1048576: NARROWER than '..Said'. Prove '..Said' where nothing that the law and all that it calls make is longer than what came in: it says more and counts as full. Else prove '..UptoSaid'. A law counts once. -/
mutual
def uptoBulk {H : Type} : DataW H → Nat
  | .lit (.string bytes) => bytes.length + 1
  | .lit _ => 1
  | .nil => 1
  | .ptr d => uptoBulk d + 1
  | .slice elems spare => uptoBulkAll elems + uptoBulkAll spare + 1
  | .agg parts => uptoBulkAll parts + 1
  | .iface _ d => uptoBulk d + 1
  | .map entries => uptoBulkEntries entries + 1
  | .held _ => 1
def uptoBulkAll {H : Type} : List (DataW H) → Nat
  | [] => 0
  | d :: r => uptoBulk d + uptoBulkAll r
def uptoBulkEntries {H : Type} : List (Lit × DataW H) → Nat
  | [] => 0
  | x :: r => uptoBulkEntry x + uptoBulkEntries r
def uptoBulkEntry {H : Type} : Lit × DataW H → Nat
  | (.string bytes, d) => bytes.length + uptoBulk d + 1
  | (_, d) => uptoBulk d + 1
 end
def uptoSmall : (H : Type) → List (DataW H) → Bool := fun _ ds => decide (uptoBulkAll ds ≤ 1048576)
def OpenSpec.upto (s : _root_.Go.ChangeSpec) : _root_.Go.OpenSpec := { _root_.Go.OpenSpec.ofChange s with cond := some uptoSmall }

/-- 'bailifflaw09.GameRights', WHERE WHAT IT READS IS OF BULK AT MOST 1048576: true; the input reads as it did. -/
def gameRightsUptoRow : OpenClaim := { program := "ytkkophhnliplhaadoor", sum := "3d52b1f8b67a9cd8f20e084262e3c98e97b1ac950487810f5b2332423e0e5877", func := "bailiff/bailifflaw09.GameRights", spec := "gameRights", named := ["math/bits.deBruijn64tab"], apart := false, laid := [("math/bits.deBruijn64tab", laid_math_bits_deBruijn64tab)], narrowed := true }
def GameRightsUptoSaid : Prop := gameRightsUptoRow.holds Tryd.pinned (OpenSpec.upto gameRightsSpec)

/-- 'bailifflaw09.GameCopies', WHERE WHAT IT READS IS OF BULK AT MOST 1048576: true; the input reads as it did. -/
def gameCopiesUptoRow : OpenClaim := { program := "ytkkophhnliplhaadoor", sum := "3d52b1f8b67a9cd8f20e084262e3c98e97b1ac950487810f5b2332423e0e5877", func := "bailiff/bailifflaw09.GameCopies", spec := "gameCopies", named := ["math/bits.deBruijn64tab"], apart := false, laid := [("math/bits.deBruijn64tab", laid_math_bits_deBruijn64tab)], narrowed := true }
def GameCopiesUptoSaid : Prop := gameCopiesUptoRow.holds Tryd.pinned (OpenSpec.upto gameCopiesSpec)

/-- 'bailifflaw09.GameSubs', WHERE WHAT IT READS IS OF BULK AT MOST 1048576: true; the input reads as it did. -/
def gameSubsUptoRow : OpenClaim := { program := "ytkkophhnliplhaadoor", sum := "3d52b1f8b67a9cd8f20e084262e3c98e97b1ac950487810f5b2332423e0e5877", func := "bailiff/bailifflaw09.GameSubs", spec := "gameSubs", named := ["math/bits.deBruijn64tab"], apart := false, laid := [("math/bits.deBruijn64tab", laid_math_bits_deBruijn64tab)], narrowed := true }
def GameSubsUptoSaid : Prop := gameSubsUptoRow.holds Tryd.pinned (OpenSpec.upto gameSubsSpec)

/-- 'bailifflaw09.GameOwns', WHERE WHAT IT READS IS OF BULK AT MOST 1048576: true; the input reads as it did. -/
def gameOwnsUptoRow : OpenClaim := { program := "ytkkophhnliplhaadoor", sum := "3d52b1f8b67a9cd8f20e084262e3c98e97b1ac950487810f5b2332423e0e5877", func := "bailiff/bailifflaw09.GameOwns", spec := "gameOwns", named := ["math/bits.deBruijn64tab"], apart := false, laid := [("math/bits.deBruijn64tab", laid_math_bits_deBruijn64tab)], narrowed := true }
def GameOwnsUptoSaid : Prop := gameOwnsUptoRow.holds Tryd.pinned (OpenSpec.upto gameOwnsSpec)

/-- 'bailifflaw09.GameDuals', WHERE WHAT IT READS IS OF BULK AT MOST 1048576: true; the input reads as it did. -/
def gameDualsUptoRow : OpenClaim := { program := "ytkkophhnliplhaadoor", sum := "3d52b1f8b67a9cd8f20e084262e3c98e97b1ac950487810f5b2332423e0e5877", func := "bailiff/bailifflaw09.GameDuals", spec := "gameDuals", named := ["math/bits.deBruijn64tab"], apart := false, laid := [("math/bits.deBruijn64tab", laid_math_bits_deBruijn64tab)], narrowed := true }
def GameDualsUptoSaid : Prop := gameDualsUptoRow.holds Tryd.pinned (OpenSpec.upto gameDualsSpec)

/-- 'bailifflaw09.GameLimits', WHERE WHAT IT READS IS OF BULK AT MOST 1048576: true; the input reads as it did. -/
def gameLimitsUptoRow : OpenClaim := { program := "ytkkophhnliplhaadoor", sum := "3d52b1f8b67a9cd8f20e084262e3c98e97b1ac950487810f5b2332423e0e5877", func := "bailiff/bailifflaw09.GameLimits", spec := "gameLimits", named := ["math/bits.deBruijn64tab"], apart := false, laid := [("math/bits.deBruijn64tab", laid_math_bits_deBruijn64tab)], narrowed := true }
def GameLimitsUptoSaid : Prop := gameLimitsUptoRow.holds Tryd.pinned (OpenSpec.upto gameLimitsSpec)

/-- 'bailifflaw09.GameHalves', WHERE WHAT IT READS IS OF BULK AT MOST 1048576: true; the input reads as it did. -/
def gameHalvesUptoRow : OpenClaim := { program := "ytkkophhnliplhaadoor", sum := "3d52b1f8b67a9cd8f20e084262e3c98e97b1ac950487810f5b2332423e0e5877", func := "bailiff/bailifflaw09.GameHalves", spec := "gameHalves", named := ["math/bits.deBruijn64tab"], apart := false, laid := [("math/bits.deBruijn64tab", laid_math_bits_deBruijn64tab)], narrowed := true }
def GameHalvesUptoSaid : Prop := gameHalvesUptoRow.holds Tryd.pinned (OpenSpec.upto gameHalvesSpec)

/-- 'bailifflaw09.GameShares', WHERE WHAT IT READS IS OF BULK AT MOST 1048576: true; the input reads as it did. -/
def gameSharesUptoRow : OpenClaim := { program := "ytkkophhnliplhaadoor", sum := "3d52b1f8b67a9cd8f20e084262e3c98e97b1ac950487810f5b2332423e0e5877", func := "bailiff/bailifflaw09.GameShares", spec := "gameShares", named := ["math/bits.deBruijn64tab"], apart := false, laid := [("math/bits.deBruijn64tab", laid_math_bits_deBruijn64tab)], narrowed := true }
def GameSharesUptoSaid : Prop := gameSharesUptoRow.holds Tryd.pinned (OpenSpec.upto gameSharesSpec)

/-- 'bailifflaw09.GameParts', WHERE WHAT IT READS IS OF BULK AT MOST 1048576: true; the input reads as it did. -/
def gamePartsUptoRow : OpenClaim := { program := "ytkkophhnliplhaadoor", sum := "3d52b1f8b67a9cd8f20e084262e3c98e97b1ac950487810f5b2332423e0e5877", func := "bailiff/bailifflaw09.GameParts", spec := "gameParts", named := ["math/bits.deBruijn64tab"], apart := false, laid := [("math/bits.deBruijn64tab", laid_math_bits_deBruijn64tab)], narrowed := true }
def GamePartsUptoSaid : Prop := gamePartsUptoRow.holds Tryd.pinned (OpenSpec.upto gamePartsSpec)

end Rows
end Go.Proofs.YtkkophhnliplhaaDoor
