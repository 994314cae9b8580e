/-
  DERIVED. GIVEN WITH THE SEED: THE CARDS: each row of YtepekncgknlcjaaDoorRows.lean that lists a variable, with what it lists TIED to the program's text (the seventh form; the later family's looks); each row that meets fmt, with fmt's text TOLD by the authors' own Lean function (tested against real Go, not proved from fmt's source: count such statements apart). THE CARD IS WHAT COUNTS. Prove the row's statement (the work); the ties are given (YtepekncgknlcjaaDoorTie.lean); close each card by the builder's one call (the guide's Derived/Test/ToyasCard.lean, 'card_holds'). Laid BY PROGRAM, IN A SANDBOX (cutbox-door.mjs). By AI agents, Wed Nov 11 2026. No macro, syntax, notation, axiom, sorry.
-/
import Derived.Test.YtepekncgknlcjaaDoorRows
import GoSem.ClaimSeven
namespace Go.Proofs.YtepekncgknlcjaaDoor
namespace Rows

/-- THE TIED CARD OF 'bailifflaw01.SetsMakes'. -/
def setsMakesCard : Claim7 := { stood := { row := setsMakesRow, standIns := [], harness := (true, "4d306874e381d4c651a272a46293e01d7c4bee11dd61f8a10682bbdd827aba53"), looks := false }, kinds := [], alts := [], laidByText := true, laidKinds := [.data], laidTests := true, laidLooks := .later }
def SetsMakesCardSaid : Prop := Claim7.holds Tryd.pinned (.plain (OpenSpec.ofChange setsMakesSpec)) setsMakesCard

/-- THE TIED CARD OF 'bailifflaw01.SetsListed'. -/
def setsListedCard : Claim7 := { stood := { row := setsListedRow, standIns := [], harness := (true, "4d306874e381d4c651a272a46293e01d7c4bee11dd61f8a10682bbdd827aba53"), looks := false }, kinds := [], alts := [], laidByText := true, laidKinds := [.data], laidTests := true, laidLooks := .later }
def SetsListedCardSaid : Prop := Claim7.holds Tryd.pinned (.plain (OpenSpec.ofChange setsListedSpec)) setsListedCard

/-- THE TIED CARD OF 'bailifflaw01.SetsTells'. -/
def setsTellsCard : Claim7 := { stood := { row := setsTellsRow, standIns := [], harness := (true, "4d306874e381d4c651a272a46293e01d7c4bee11dd61f8a10682bbdd827aba53"), looks := false }, kinds := [], alts := [], laidByText := true, laidKinds := [.data], laidTests := true, laidLooks := .later }
def SetsTellsCardSaid : Prop := Claim7.holds Tryd.pinned (.plain (OpenSpec.ofChange setsTellsSpec)) setsTellsCard

/-- THE TIED CARD OF 'bailifflaw01.SetsFull'. -/
def setsFullCard : Claim7 := { stood := { row := setsFullRow, standIns := [], harness := (true, "4d306874e381d4c651a272a46293e01d7c4bee11dd61f8a10682bbdd827aba53"), looks := false }, kinds := [], alts := [], laidByText := true, laidKinds := [.data], laidTests := true, laidLooks := .later }
def SetsFullCardSaid : Prop := Claim7.holds Tryd.pinned (.plain (OpenSpec.ofChange setsFullSpec)) setsFullCard

/-- THE TIED CARD OF 'bailifflaw01.SetsTaken'. -/
def setsTakenCard : Claim7 := { stood := { row := setsTakenRow, standIns := [], harness := (true, "4d306874e381d4c651a272a46293e01d7c4bee11dd61f8a10682bbdd827aba53"), looks := false }, kinds := [], alts := [], laidByText := true, laidKinds := [.data], laidTests := true, laidLooks := .later }
def SetsTakenCardSaid : Prop := Claim7.holds Tryd.pinned (.plain (OpenSpec.ofChange setsTakenSpec)) setsTakenCard

/-- THE TIED CARD OF 'bailifflaw01.SetsWays'. -/
def setsWaysCard : Claim7 := { stood := { row := setsWaysRow, standIns := [], harness := (true, "4d306874e381d4c651a272a46293e01d7c4bee11dd61f8a10682bbdd827aba53"), looks := false }, kinds := [], alts := [], laidByText := true, laidKinds := [.data], laidTests := true, laidLooks := .later }
def SetsWaysCardSaid : Prop := Claim7.holds Tryd.pinned (.plain (OpenSpec.ofChange setsWaysSpec)) setsWaysCard

/-- THE TIED CARD OF 'bailifflaw01.SetsChanges'. -/
def setsChangesCard : Claim7 := { stood := { row := setsChangesRow, standIns := [], harness := (true, "4d306874e381d4c651a272a46293e01d7c4bee11dd61f8a10682bbdd827aba53"), looks := false }, kinds := [], alts := [], laidByText := true, laidKinds := [.data], laidTests := true, laidLooks := .later }
def SetsChangesCardSaid : Prop := Claim7.holds Tryd.pinned (.plain (OpenSpec.ofChange setsChangesSpec)) setsChangesCard

/-- THE TIED CARD OF 'bailifflaw01.SetsCounts'. -/
def setsCountsCard : Claim7 := { stood := { row := setsCountsRow, standIns := [], harness := (true, "4d306874e381d4c651a272a46293e01d7c4bee11dd61f8a10682bbdd827aba53"), looks := false }, kinds := [], alts := [], laidByText := true, laidKinds := [.data], laidTests := true, laidLooks := .later }
def SetsCountsCardSaid : Prop := Claim7.holds Tryd.pinned (.plain (OpenSpec.ofChange setsCountsSpec)) setsCountsCard

/-- THE TIED CARD OF 'bailifflaw01.SetsAlgebra'. -/
def setsAlgebraCard : Claim7 := { stood := { row := setsAlgebraRow, standIns := [], harness := (true, "4d306874e381d4c651a272a46293e01d7c4bee11dd61f8a10682bbdd827aba53"), looks := false }, kinds := [], alts := [], laidByText := true, laidKinds := [.data], laidTests := true, laidLooks := .later }
def SetsAlgebraCardSaid : Prop := Claim7.holds Tryd.pinned (.plain (OpenSpec.ofChange setsAlgebraSpec)) setsAlgebraCard

/-- THE SECOND FORM's CARD OF 'bailifflaw01.SetsMakes'. -/
def setsMakesUptoCard : Claim7 := { stood := { row := setsMakesUptoRow, standIns := [], harness := (true, "4d306874e381d4c651a272a46293e01d7c4bee11dd61f8a10682bbdd827aba53"), looks := false }, kinds := [], alts := [], laidByText := true, laidKinds := [.data], laidTests := true, laidLooks := .later }
def SetsMakesUptoCardSaid : Prop := Claim7.holds Tryd.pinned (.plain (OpenSpec.upto setsMakesSpec)) setsMakesUptoCard

/-- THE SECOND FORM's CARD OF 'bailifflaw01.SetsListed'. -/
def setsListedUptoCard : Claim7 := { stood := { row := setsListedUptoRow, standIns := [], harness := (true, "4d306874e381d4c651a272a46293e01d7c4bee11dd61f8a10682bbdd827aba53"), looks := false }, kinds := [], alts := [], laidByText := true, laidKinds := [.data], laidTests := true, laidLooks := .later }
def SetsListedUptoCardSaid : Prop := Claim7.holds Tryd.pinned (.plain (OpenSpec.upto setsListedSpec)) setsListedUptoCard

/-- THE SECOND FORM's CARD OF 'bailifflaw01.SetsTells'. -/
def setsTellsUptoCard : Claim7 := { stood := { row := setsTellsUptoRow, standIns := [], harness := (true, "4d306874e381d4c651a272a46293e01d7c4bee11dd61f8a10682bbdd827aba53"), looks := false }, kinds := [], alts := [], laidByText := true, laidKinds := [.data], laidTests := true, laidLooks := .later }
def SetsTellsUptoCardSaid : Prop := Claim7.holds Tryd.pinned (.plain (OpenSpec.upto setsTellsSpec)) setsTellsUptoCard

/-- THE SECOND FORM's CARD OF 'bailifflaw01.SetsFull'. -/
def setsFullUptoCard : Claim7 := { stood := { row := setsFullUptoRow, standIns := [], harness := (true, "4d306874e381d4c651a272a46293e01d7c4bee11dd61f8a10682bbdd827aba53"), looks := false }, kinds := [], alts := [], laidByText := true, laidKinds := [.data], laidTests := true, laidLooks := .later }
def SetsFullUptoCardSaid : Prop := Claim7.holds Tryd.pinned (.plain (OpenSpec.upto setsFullSpec)) setsFullUptoCard

/-- THE SECOND FORM's CARD OF 'bailifflaw01.SetsTaken'. -/
def setsTakenUptoCard : Claim7 := { stood := { row := setsTakenUptoRow, standIns := [], harness := (true, "4d306874e381d4c651a272a46293e01d7c4bee11dd61f8a10682bbdd827aba53"), looks := false }, kinds := [], alts := [], laidByText := true, laidKinds := [.data], laidTests := true, laidLooks := .later }
def SetsTakenUptoCardSaid : Prop := Claim7.holds Tryd.pinned (.plain (OpenSpec.upto setsTakenSpec)) setsTakenUptoCard

/-- THE SECOND FORM's CARD OF 'bailifflaw01.SetsWays'. -/
def setsWaysUptoCard : Claim7 := { stood := { row := setsWaysUptoRow, standIns := [], harness := (true, "4d306874e381d4c651a272a46293e01d7c4bee11dd61f8a10682bbdd827aba53"), looks := false }, kinds := [], alts := [], laidByText := true, laidKinds := [.data], laidTests := true, laidLooks := .later }
def SetsWaysUptoCardSaid : Prop := Claim7.holds Tryd.pinned (.plain (OpenSpec.upto setsWaysSpec)) setsWaysUptoCard

/-- THE SECOND FORM's CARD OF 'bailifflaw01.SetsChanges'. -/
def setsChangesUptoCard : Claim7 := { stood := { row := setsChangesUptoRow, standIns := [], harness := (true, "4d306874e381d4c651a272a46293e01d7c4bee11dd61f8a10682bbdd827aba53"), looks := false }, kinds := [], alts := [], laidByText := true, laidKinds := [.data], laidTests := true, laidLooks := .later }
def SetsChangesUptoCardSaid : Prop := Claim7.holds Tryd.pinned (.plain (OpenSpec.upto setsChangesSpec)) setsChangesUptoCard

/-- THE SECOND FORM's CARD OF 'bailifflaw01.SetsCounts'. -/
def setsCountsUptoCard : Claim7 := { stood := { row := setsCountsUptoRow, standIns := [], harness := (true, "4d306874e381d4c651a272a46293e01d7c4bee11dd61f8a10682bbdd827aba53"), looks := false }, kinds := [], alts := [], laidByText := true, laidKinds := [.data], laidTests := true, laidLooks := .later }
def SetsCountsUptoCardSaid : Prop := Claim7.holds Tryd.pinned (.plain (OpenSpec.upto setsCountsSpec)) setsCountsUptoCard

/-- THE SECOND FORM's CARD OF 'bailifflaw01.SetsAlgebra'. -/
def setsAlgebraUptoCard : Claim7 := { stood := { row := setsAlgebraUptoRow, standIns := [], harness := (true, "4d306874e381d4c651a272a46293e01d7c4bee11dd61f8a10682bbdd827aba53"), looks := false }, kinds := [], alts := [], laidByText := true, laidKinds := [.data], laidTests := true, laidLooks := .later }
def SetsAlgebraUptoCardSaid : Prop := Claim7.holds Tryd.pinned (.plain (OpenSpec.upto setsAlgebraSpec)) setsAlgebraUptoCard
end Rows
end Go.Proofs.YtepekncgknlcjaaDoor
