/-
  DERIVED. GIVEN WITH THE SEED: THE CARDS: each row of YtkkophhnliplhaaDoorRows.lean that lists a variable, with what it lists TIED to the program's text (the seventh form; the later family's looks); each row that meets fmt, with fmt's text TOLD by the authors' own Lean function (tested against real Go, not proved from fmt's source: count such statements apart). THE CARD IS WHAT COUNTS. Prove the row's statement (the work); the ties are given (YtkkophhnliplhaaDoorTie.lean); close each card by the builder's one call (the guide's Derived/Test/ToyasCard.lean, 'card_holds'). Laid BY PROGRAM, IN A SANDBOX (cutbox-door.mjs). By AI agents, Wed Nov 11 2026. No macro, syntax, notation, axiom, sorry.
-/
import Derived.Test.YtkkophhnliplhaaDoorRows
import GoSem.ClaimSeven
namespace Go.Proofs.YtkkophhnliplhaaDoor
namespace Rows

/-- THE TIED CARD OF 'bailifflaw09.GameRights'. -/
def gameRightsCard : Claim7 := { stood := { row := gameRightsRow, standIns := [], harness := (true, "e7a6ca5abb8fbc0fcdde9d0a422d734398c97bd94a1916846b4feb02e1f3eabb"), looks := false }, kinds := [], alts := [], laidByText := true, laidKinds := [.data], laidTests := true, laidLooks := .later }
def GameRightsCardSaid : Prop := Claim7.holds Tryd.pinned (.plain (OpenSpec.ofChange gameRightsSpec)) gameRightsCard

/-- THE TIED CARD OF 'bailifflaw09.GameCopies'. -/
def gameCopiesCard : Claim7 := { stood := { row := gameCopiesRow, standIns := [], harness := (true, "e7a6ca5abb8fbc0fcdde9d0a422d734398c97bd94a1916846b4feb02e1f3eabb"), looks := false }, kinds := [], alts := [], laidByText := true, laidKinds := [.data], laidTests := true, laidLooks := .later }
def GameCopiesCardSaid : Prop := Claim7.holds Tryd.pinned (.plain (OpenSpec.ofChange gameCopiesSpec)) gameCopiesCard

/-- THE TIED CARD OF 'bailifflaw09.GameSubs'. -/
def gameSubsCard : Claim7 := { stood := { row := gameSubsRow, standIns := [], harness := (true, "e7a6ca5abb8fbc0fcdde9d0a422d734398c97bd94a1916846b4feb02e1f3eabb"), looks := false }, kinds := [], alts := [], laidByText := true, laidKinds := [.data], laidTests := true, laidLooks := .later }
def GameSubsCardSaid : Prop := Claim7.holds Tryd.pinned (.plain (OpenSpec.ofChange gameSubsSpec)) gameSubsCard

/-- THE TIED CARD OF 'bailifflaw09.GameOwns'. -/
def gameOwnsCard : Claim7 := { stood := { row := gameOwnsRow, standIns := [], harness := (true, "e7a6ca5abb8fbc0fcdde9d0a422d734398c97bd94a1916846b4feb02e1f3eabb"), looks := false }, kinds := [], alts := [], laidByText := true, laidKinds := [.data], laidTests := true, laidLooks := .later }
def GameOwnsCardSaid : Prop := Claim7.holds Tryd.pinned (.plain (OpenSpec.ofChange gameOwnsSpec)) gameOwnsCard

/-- THE TIED CARD OF 'bailifflaw09.GameDuals'. -/
def gameDualsCard : Claim7 := { stood := { row := gameDualsRow, standIns := [], harness := (true, "e7a6ca5abb8fbc0fcdde9d0a422d734398c97bd94a1916846b4feb02e1f3eabb"), looks := false }, kinds := [], alts := [], laidByText := true, laidKinds := [.data], laidTests := true, laidLooks := .later }
def GameDualsCardSaid : Prop := Claim7.holds Tryd.pinned (.plain (OpenSpec.ofChange gameDualsSpec)) gameDualsCard

/-- THE TIED CARD OF 'bailifflaw09.GameLimits'. -/
def gameLimitsCard : Claim7 := { stood := { row := gameLimitsRow, standIns := [], harness := (true, "e7a6ca5abb8fbc0fcdde9d0a422d734398c97bd94a1916846b4feb02e1f3eabb"), looks := false }, kinds := [], alts := [], laidByText := true, laidKinds := [.data], laidTests := true, laidLooks := .later }
def GameLimitsCardSaid : Prop := Claim7.holds Tryd.pinned (.plain (OpenSpec.ofChange gameLimitsSpec)) gameLimitsCard

/-- THE TIED CARD OF 'bailifflaw09.GameHalves'. -/
def gameHalvesCard : Claim7 := { stood := { row := gameHalvesRow, standIns := [], harness := (true, "e7a6ca5abb8fbc0fcdde9d0a422d734398c97bd94a1916846b4feb02e1f3eabb"), looks := false }, kinds := [], alts := [], laidByText := true, laidKinds := [.data], laidTests := true, laidLooks := .later }
def GameHalvesCardSaid : Prop := Claim7.holds Tryd.pinned (.plain (OpenSpec.ofChange gameHalvesSpec)) gameHalvesCard

/-- THE TIED CARD OF 'bailifflaw09.GameShares'. -/
def gameSharesCard : Claim7 := { stood := { row := gameSharesRow, standIns := [], harness := (true, "e7a6ca5abb8fbc0fcdde9d0a422d734398c97bd94a1916846b4feb02e1f3eabb"), looks := false }, kinds := [], alts := [], laidByText := true, laidKinds := [.data], laidTests := true, laidLooks := .later }
def GameSharesCardSaid : Prop := Claim7.holds Tryd.pinned (.plain (OpenSpec.ofChange gameSharesSpec)) gameSharesCard

/-- THE TIED CARD OF 'bailifflaw09.GameParts'. -/
def gamePartsCard : Claim7 := { stood := { row := gamePartsRow, standIns := [], harness := (true, "e7a6ca5abb8fbc0fcdde9d0a422d734398c97bd94a1916846b4feb02e1f3eabb"), looks := false }, kinds := [], alts := [], laidByText := true, laidKinds := [.data], laidTests := true, laidLooks := .later }
def GamePartsCardSaid : Prop := Claim7.holds Tryd.pinned (.plain (OpenSpec.ofChange gamePartsSpec)) gamePartsCard

/-- THE SECOND FORM's CARD OF 'bailifflaw09.GameRights'. -/
def gameRightsUptoCard : Claim7 := { stood := { row := gameRightsUptoRow, standIns := [], harness := (true, "e7a6ca5abb8fbc0fcdde9d0a422d734398c97bd94a1916846b4feb02e1f3eabb"), looks := false }, kinds := [], alts := [], laidByText := true, laidKinds := [.data], laidTests := true, laidLooks := .later }
def GameRightsUptoCardSaid : Prop := Claim7.holds Tryd.pinned (.plain (OpenSpec.upto gameRightsSpec)) gameRightsUptoCard

/-- THE SECOND FORM's CARD OF 'bailifflaw09.GameCopies'. -/
def gameCopiesUptoCard : Claim7 := { stood := { row := gameCopiesUptoRow, standIns := [], harness := (true, "e7a6ca5abb8fbc0fcdde9d0a422d734398c97bd94a1916846b4feb02e1f3eabb"), looks := false }, kinds := [], alts := [], laidByText := true, laidKinds := [.data], laidTests := true, laidLooks := .later }
def GameCopiesUptoCardSaid : Prop := Claim7.holds Tryd.pinned (.plain (OpenSpec.upto gameCopiesSpec)) gameCopiesUptoCard

/-- THE SECOND FORM's CARD OF 'bailifflaw09.GameSubs'. -/
def gameSubsUptoCard : Claim7 := { stood := { row := gameSubsUptoRow, standIns := [], harness := (true, "e7a6ca5abb8fbc0fcdde9d0a422d734398c97bd94a1916846b4feb02e1f3eabb"), looks := false }, kinds := [], alts := [], laidByText := true, laidKinds := [.data], laidTests := true, laidLooks := .later }
def GameSubsUptoCardSaid : Prop := Claim7.holds Tryd.pinned (.plain (OpenSpec.upto gameSubsSpec)) gameSubsUptoCard

/-- THE SECOND FORM's CARD OF 'bailifflaw09.GameOwns'. -/
def gameOwnsUptoCard : Claim7 := { stood := { row := gameOwnsUptoRow, standIns := [], harness := (true, "e7a6ca5abb8fbc0fcdde9d0a422d734398c97bd94a1916846b4feb02e1f3eabb"), looks := false }, kinds := [], alts := [], laidByText := true, laidKinds := [.data], laidTests := true, laidLooks := .later }
def GameOwnsUptoCardSaid : Prop := Claim7.holds Tryd.pinned (.plain (OpenSpec.upto gameOwnsSpec)) gameOwnsUptoCard

/-- THE SECOND FORM's CARD OF 'bailifflaw09.GameDuals'. -/
def gameDualsUptoCard : Claim7 := { stood := { row := gameDualsUptoRow, standIns := [], harness := (true, "e7a6ca5abb8fbc0fcdde9d0a422d734398c97bd94a1916846b4feb02e1f3eabb"), looks := false }, kinds := [], alts := [], laidByText := true, laidKinds := [.data], laidTests := true, laidLooks := .later }
def GameDualsUptoCardSaid : Prop := Claim7.holds Tryd.pinned (.plain (OpenSpec.upto gameDualsSpec)) gameDualsUptoCard

/-- THE SECOND FORM's CARD OF 'bailifflaw09.GameLimits'. -/
def gameLimitsUptoCard : Claim7 := { stood := { row := gameLimitsUptoRow, standIns := [], harness := (true, "e7a6ca5abb8fbc0fcdde9d0a422d734398c97bd94a1916846b4feb02e1f3eabb"), looks := false }, kinds := [], alts := [], laidByText := true, laidKinds := [.data], laidTests := true, laidLooks := .later }
def GameLimitsUptoCardSaid : Prop := Claim7.holds Tryd.pinned (.plain (OpenSpec.upto gameLimitsSpec)) gameLimitsUptoCard

/-- THE SECOND FORM's CARD OF 'bailifflaw09.GameHalves'. -/
def gameHalvesUptoCard : Claim7 := { stood := { row := gameHalvesUptoRow, standIns := [], harness := (true, "e7a6ca5abb8fbc0fcdde9d0a422d734398c97bd94a1916846b4feb02e1f3eabb"), looks := false }, kinds := [], alts := [], laidByText := true, laidKinds := [.data], laidTests := true, laidLooks := .later }
def GameHalvesUptoCardSaid : Prop := Claim7.holds Tryd.pinned (.plain (OpenSpec.upto gameHalvesSpec)) gameHalvesUptoCard

/-- THE SECOND FORM's CARD OF 'bailifflaw09.GameShares'. -/
def gameSharesUptoCard : Claim7 := { stood := { row := gameSharesUptoRow, standIns := [], harness := (true, "e7a6ca5abb8fbc0fcdde9d0a422d734398c97bd94a1916846b4feb02e1f3eabb"), looks := false }, kinds := [], alts := [], laidByText := true, laidKinds := [.data], laidTests := true, laidLooks := .later }
def GameSharesUptoCardSaid : Prop := Claim7.holds Tryd.pinned (.plain (OpenSpec.upto gameSharesSpec)) gameSharesUptoCard

/-- THE SECOND FORM's CARD OF 'bailifflaw09.GameParts'. -/
def gamePartsUptoCard : Claim7 := { stood := { row := gamePartsUptoRow, standIns := [], harness := (true, "e7a6ca5abb8fbc0fcdde9d0a422d734398c97bd94a1916846b4feb02e1f3eabb"), looks := false }, kinds := [], alts := [], laidByText := true, laidKinds := [.data], laidTests := true, laidLooks := .later }
def GamePartsUptoCardSaid : Prop := Claim7.holds Tryd.pinned (.plain (OpenSpec.upto gamePartsSpec)) gamePartsUptoCard
end Rows
end Go.Proofs.YtkkophhnliplhaaDoor
