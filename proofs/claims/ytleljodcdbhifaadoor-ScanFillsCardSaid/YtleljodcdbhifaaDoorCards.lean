/-
  DERIVED. GIVEN WITH THE SEED: THE CARDS: each row of YtleljodcdbhifaaDoorRows.lean that lists a variable, with what it lists TIED to the program's text (the seventh form; the later family's looks); each row that meets fmt, with fmt's text TOLD by the authors' own Lean function (tested against real Go, not proved from fmt's source: count such statements apart). THE CARD IS WHAT COUNTS. Prove the row's statement (the work); the ties are given (YtleljodcdbhifaaDoorTie.lean); close each card by the builder's one call (the guide's Derived/Test/ToyasCard.lean, 'card_holds'). Laid BY PROGRAM, IN A SANDBOX (cutbox-door.mjs). By AI agents, Wed Nov 11 2026. No macro, syntax, notation, axiom, sorry.
-/
import Derived.Test.YtleljodcdbhifaaDoorRows
import GoSem.ClaimSeven
namespace Go.Proofs.YtleljodcdbhifaaDoor
namespace Rows

/-- THE TIED CARD OF 'abugidalaw11.ScanInside'. -/
def scanInsideCard : Claim7 := { stood := { row := scanInsideRow, standIns := [], harness := (true, "b1214ecf68388e835bf29c2bd11b80c66456fe768e90a481f43e214cc62af18d"), looks := false }, kinds := [], alts := [], laidByText := true, laidKinds := [.data], laidTests := true, laidLooks := .later }
def ScanInsideCardSaid : Prop := Claim7.holds Tryd.pinned (.plain (OpenSpec.ofChange scanInsideSpec)) scanInsideCard

/-- THE TIED CARD OF 'abugidalaw11.ScanFills'. -/
def scanFillsCard : Claim7 := { stood := { row := scanFillsRow, standIns := [], harness := (true, "b1214ecf68388e835bf29c2bd11b80c66456fe768e90a481f43e214cc62af18d"), looks := false }, kinds := [], alts := [], laidByText := true, laidKinds := [.data], laidTests := true, laidLooks := .later }
def ScanFillsCardSaid : Prop := Claim7.holds Tryd.pinned (.plain (OpenSpec.ofChange scanFillsSpec)) scanFillsCard

/-- THE TIED CARD OF 'abugidalaw11.ScanCentres'. -/
def scanCentresCard : Claim7 := { stood := { row := scanCentresRow, standIns := [], harness := (true, "b1214ecf68388e835bf29c2bd11b80c66456fe768e90a481f43e214cc62af18d"), looks := false }, kinds := [], alts := [], laidByText := true, laidKinds := [.data], laidTests := true, laidLooks := .later }
def ScanCentresCardSaid : Prop := Claim7.holds Tryd.pinned (.plain (OpenSpec.ofChange scanCentresSpec)) scanCentresCard

/-- THE TIED CARD OF 'abugidalaw11.ScanMoves'. -/
def scanMovesCard : Claim7 := { stood := { row := scanMovesRow, standIns := [], harness := (true, "b1214ecf68388e835bf29c2bd11b80c66456fe768e90a481f43e214cc62af18d"), looks := false }, kinds := [], alts := [], laidByText := true, laidKinds := [.data], laidTests := true, laidLooks := .later }
def ScanMovesCardSaid : Prop := Claim7.holds Tryd.pinned (.plain (OpenSpec.ofChange scanMovesSpec)) scanMovesCard

/-- THE TIED CARD OF 'abugidalaw11.ScanTurns'. -/
def scanTurnsCard : Claim7 := { stood := { row := scanTurnsRow, standIns := [], harness := (true, "b1214ecf68388e835bf29c2bd11b80c66456fe768e90a481f43e214cc62af18d"), looks := false }, kinds := [], alts := [], laidByText := true, laidKinds := [.data], laidTests := true, laidLooks := .later }
def ScanTurnsCardSaid : Prop := Claim7.holds Tryd.pinned (.plain (OpenSpec.ofChange scanTurnsSpec)) scanTurnsCard

/-- THE TIED CARD OF 'abugidalaw11.ScanMiddles'. -/
def scanMiddlesCard : Claim7 := { stood := { row := scanMiddlesRow, standIns := [], harness := (true, "b1214ecf68388e835bf29c2bd11b80c66456fe768e90a481f43e214cc62af18d"), looks := false }, kinds := [], alts := [], laidByText := true, laidKinds := [.data], laidTests := true, laidLooks := .later }
def ScanMiddlesCardSaid : Prop := Claim7.holds Tryd.pinned (.plain (OpenSpec.ofChange scanMiddlesSpec)) scanMiddlesCard

/-- THE TIED CARD OF 'abugidalaw11.ScanBoxes'. -/
def scanBoxesCard : Claim7 := { stood := { row := scanBoxesRow, standIns := [], harness := (true, "b1214ecf68388e835bf29c2bd11b80c66456fe768e90a481f43e214cc62af18d"), looks := false }, kinds := [], alts := [], laidByText := true, laidKinds := [.data], laidTests := true, laidLooks := .later }
def ScanBoxesCardSaid : Prop := Claim7.holds Tryd.pinned (.plain (OpenSpec.ofChange scanBoxesSpec)) scanBoxesCard

/-- THE TIED CARD OF 'abugidalaw11.ScanJoins'. -/
def scanJoinsCard : Claim7 := { stood := { row := scanJoinsRow, standIns := [], harness := (true, "b1214ecf68388e835bf29c2bd11b80c66456fe768e90a481f43e214cc62af18d"), looks := false }, kinds := [], alts := [], laidByText := true, laidKinds := [.data], laidTests := true, laidLooks := .later }
def ScanJoinsCardSaid : Prop := Claim7.holds Tryd.pinned (.plain (OpenSpec.ofChange scanJoinsSpec)) scanJoinsCard

/-- THE SECOND FORM's CARD OF 'abugidalaw11.ScanInside'. -/
def scanInsideUptoCard : Claim7 := { stood := { row := scanInsideUptoRow, standIns := [], harness := (true, "b1214ecf68388e835bf29c2bd11b80c66456fe768e90a481f43e214cc62af18d"), looks := false }, kinds := [], alts := [], laidByText := true, laidKinds := [.data], laidTests := true, laidLooks := .later }
def ScanInsideUptoCardSaid : Prop := Claim7.holds Tryd.pinned (.plain (OpenSpec.upto scanInsideSpec)) scanInsideUptoCard

/-- THE SECOND FORM's CARD OF 'abugidalaw11.ScanFills'. -/
def scanFillsUptoCard : Claim7 := { stood := { row := scanFillsUptoRow, standIns := [], harness := (true, "b1214ecf68388e835bf29c2bd11b80c66456fe768e90a481f43e214cc62af18d"), looks := false }, kinds := [], alts := [], laidByText := true, laidKinds := [.data], laidTests := true, laidLooks := .later }
def ScanFillsUptoCardSaid : Prop := Claim7.holds Tryd.pinned (.plain (OpenSpec.upto scanFillsSpec)) scanFillsUptoCard

/-- THE SECOND FORM's CARD OF 'abugidalaw11.ScanCentres'. -/
def scanCentresUptoCard : Claim7 := { stood := { row := scanCentresUptoRow, standIns := [], harness := (true, "b1214ecf68388e835bf29c2bd11b80c66456fe768e90a481f43e214cc62af18d"), looks := false }, kinds := [], alts := [], laidByText := true, laidKinds := [.data], laidTests := true, laidLooks := .later }
def ScanCentresUptoCardSaid : Prop := Claim7.holds Tryd.pinned (.plain (OpenSpec.upto scanCentresSpec)) scanCentresUptoCard

/-- THE SECOND FORM's CARD OF 'abugidalaw11.ScanMoves'. -/
def scanMovesUptoCard : Claim7 := { stood := { row := scanMovesUptoRow, standIns := [], harness := (true, "b1214ecf68388e835bf29c2bd11b80c66456fe768e90a481f43e214cc62af18d"), looks := false }, kinds := [], alts := [], laidByText := true, laidKinds := [.data], laidTests := true, laidLooks := .later }
def ScanMovesUptoCardSaid : Prop := Claim7.holds Tryd.pinned (.plain (OpenSpec.upto scanMovesSpec)) scanMovesUptoCard

/-- THE SECOND FORM's CARD OF 'abugidalaw11.ScanTurns'. -/
def scanTurnsUptoCard : Claim7 := { stood := { row := scanTurnsUptoRow, standIns := [], harness := (true, "b1214ecf68388e835bf29c2bd11b80c66456fe768e90a481f43e214cc62af18d"), looks := false }, kinds := [], alts := [], laidByText := true, laidKinds := [.data], laidTests := true, laidLooks := .later }
def ScanTurnsUptoCardSaid : Prop := Claim7.holds Tryd.pinned (.plain (OpenSpec.upto scanTurnsSpec)) scanTurnsUptoCard

/-- THE SECOND FORM's CARD OF 'abugidalaw11.ScanMiddles'. -/
def scanMiddlesUptoCard : Claim7 := { stood := { row := scanMiddlesUptoRow, standIns := [], harness := (true, "b1214ecf68388e835bf29c2bd11b80c66456fe768e90a481f43e214cc62af18d"), looks := false }, kinds := [], alts := [], laidByText := true, laidKinds := [.data], laidTests := true, laidLooks := .later }
def ScanMiddlesUptoCardSaid : Prop := Claim7.holds Tryd.pinned (.plain (OpenSpec.upto scanMiddlesSpec)) scanMiddlesUptoCard

/-- THE SECOND FORM's CARD OF 'abugidalaw11.ScanBoxes'. -/
def scanBoxesUptoCard : Claim7 := { stood := { row := scanBoxesUptoRow, standIns := [], harness := (true, "b1214ecf68388e835bf29c2bd11b80c66456fe768e90a481f43e214cc62af18d"), looks := false }, kinds := [], alts := [], laidByText := true, laidKinds := [.data], laidTests := true, laidLooks := .later }
def ScanBoxesUptoCardSaid : Prop := Claim7.holds Tryd.pinned (.plain (OpenSpec.upto scanBoxesSpec)) scanBoxesUptoCard

/-- THE SECOND FORM's CARD OF 'abugidalaw11.ScanJoins'. -/
def scanJoinsUptoCard : Claim7 := { stood := { row := scanJoinsUptoRow, standIns := [], harness := (true, "b1214ecf68388e835bf29c2bd11b80c66456fe768e90a481f43e214cc62af18d"), looks := false }, kinds := [], alts := [], laidByText := true, laidKinds := [.data], laidTests := true, laidLooks := .later }
def ScanJoinsUptoCardSaid : Prop := Claim7.holds Tryd.pinned (.plain (OpenSpec.upto scanJoinsSpec)) scanJoinsUptoCard
end Rows
end Go.Proofs.YtleljodcdbhifaaDoor
