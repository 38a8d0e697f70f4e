/-
  DERIVED. GIVEN WITH THE SEED: THE CARDS: each row of YtadniiehehiblaaDoorRows.lean that lists a variable, with what it lists TIED to the program's text (the seventh form; the later family's looks); each row that meets fmt, with fmt's text TOLD by the authors' own Lean function (tested against real Go, not proved from fmt's source: count such statements apart). THE CARD IS WHAT COUNTS. Prove the row's statement (the work); the ties are given (YtadniiehehiblaaDoorTie.lean); close each card by the builder's one call (the guide's Derived/Test/ToyasCard.lean, 'card_holds'). Laid BY PROGRAM, IN A SANDBOX (cutbox-door.mjs). By AI agents, Wed Nov 11 2026. No macro, syntax, notation, axiom, sorry.
-/
import Derived.Test.YtadniiehehiblaaDoorRows
import GoSem.ClaimSeven
namespace Go.Proofs.YtadniiehehiblaaDoor
namespace Rows

/-- THE TIED CARD OF 'shapesearchlaw17.MeasureSymmetric'. -/
def measureSymmetricCard : Claim7 := { stood := { row := measureSymmetricRow, standIns := [], harness := (true, "183a3a5865d75809e2c5a13885ceb96a546609caddf2a2eb057984173600dd4b"), looks := true }, kinds := [], alts := [], laidByText := true, laidKinds := [.data, .data, .data, .sentinel, .sentinel], laidTests := true, laidLooks := .later }
def MeasureSymmetricCardSaid : Prop := Claim7.holds Tryd.pinned (.plain (OpenSpec.ofChange measureSymmetricSpec)) measureSymmetricCard

/-- THE TIED CARD OF 'shapesearchlaw17.MeasureTurned'. -/
def measureTurnedCard : Claim7 := { stood := { row := measureTurnedRow, standIns := [], harness := (true, "183a3a5865d75809e2c5a13885ceb96a546609caddf2a2eb057984173600dd4b"), looks := true }, kinds := [], alts := [], laidByText := true, laidKinds := [.data, .data, .data, .sentinel, .sentinel], laidTests := true, laidLooks := .later }
def MeasureTurnedCardSaid : Prop := Claim7.holds Tryd.pinned (.plain (OpenSpec.ofChange measureTurnedSpec)) measureTurnedCard

/-- THE TIED CARD OF 'shapesearchlaw17.MeasureOrder'. -/
def measureOrderCard : Claim7 := { stood := { row := measureOrderRow, standIns := [], harness := (true, "183a3a5865d75809e2c5a13885ceb96a546609caddf2a2eb057984173600dd4b"), looks := true }, kinds := [], alts := [], laidByText := true, laidKinds := [.data, .data, .data, .sentinel, .sentinel], laidTests := true, laidLooks := .later }
def MeasureOrderCardSaid : Prop := Claim7.holds Tryd.pinned (.plain (OpenSpec.ofChange measureOrderSpec)) measureOrderCard

/-- THE TIED CARD OF 'shapesearchlaw17.MeasureTexts'. -/
def measureTextsCard : Claim7 := { stood := { row := measureTextsRow, standIns := [], harness := (true, "183a3a5865d75809e2c5a13885ceb96a546609caddf2a2eb057984173600dd4b"), looks := true }, kinds := [], alts := [], laidByText := true, laidKinds := [.data, .data, .data, .sentinel, .sentinel], laidTests := true, laidLooks := .later }
def MeasureTextsCardSaid : Prop := Claim7.holds Tryd.pinned (.plain (OpenSpec.ofChange measureTextsSpec)) measureTextsCard

/-- THE TIED CARD OF 'shapesearchlaw17.MeasureWithin'. -/
def measureWithinCard : Claim7 := { stood := { row := measureWithinRow, standIns := [], harness := (true, "183a3a5865d75809e2c5a13885ceb96a546609caddf2a2eb057984173600dd4b"), looks := true }, kinds := [], alts := [], laidByText := true, laidKinds := [.data, .data, .data, .sentinel, .sentinel], laidTests := true, laidLooks := .later }
def MeasureWithinCardSaid : Prop := Claim7.holds Tryd.pinned (.plain (OpenSpec.ofChange measureWithinSpec)) measureWithinCard

/-- THE SECOND FORM's CARD OF 'shapesearchlaw17.MeasureSymmetric'. -/
def measureSymmetricUptoCard : Claim7 := { stood := { row := measureSymmetricUptoRow, standIns := [], harness := (true, "183a3a5865d75809e2c5a13885ceb96a546609caddf2a2eb057984173600dd4b"), looks := true }, kinds := [], alts := [], laidByText := true, laidKinds := [.data, .data, .data, .sentinel, .sentinel], laidTests := true, laidLooks := .later }
def MeasureSymmetricUptoCardSaid : Prop := Claim7.holds Tryd.pinned (.plain (OpenSpec.upto measureSymmetricSpec)) measureSymmetricUptoCard

/-- THE SECOND FORM's CARD OF 'shapesearchlaw17.MeasureTurned'. -/
def measureTurnedUptoCard : Claim7 := { stood := { row := measureTurnedUptoRow, standIns := [], harness := (true, "183a3a5865d75809e2c5a13885ceb96a546609caddf2a2eb057984173600dd4b"), looks := true }, kinds := [], alts := [], laidByText := true, laidKinds := [.data, .data, .data, .sentinel, .sentinel], laidTests := true, laidLooks := .later }
def MeasureTurnedUptoCardSaid : Prop := Claim7.holds Tryd.pinned (.plain (OpenSpec.upto measureTurnedSpec)) measureTurnedUptoCard

/-- THE SECOND FORM's CARD OF 'shapesearchlaw17.MeasureOrder'. -/
def measureOrderUptoCard : Claim7 := { stood := { row := measureOrderUptoRow, standIns := [], harness := (true, "183a3a5865d75809e2c5a13885ceb96a546609caddf2a2eb057984173600dd4b"), looks := true }, kinds := [], alts := [], laidByText := true, laidKinds := [.data, .data, .data, .sentinel, .sentinel], laidTests := true, laidLooks := .later }
def MeasureOrderUptoCardSaid : Prop := Claim7.holds Tryd.pinned (.plain (OpenSpec.upto measureOrderSpec)) measureOrderUptoCard

/-- THE SECOND FORM's CARD OF 'shapesearchlaw17.MeasureTexts'. -/
def measureTextsUptoCard : Claim7 := { stood := { row := measureTextsUptoRow, standIns := [], harness := (true, "183a3a5865d75809e2c5a13885ceb96a546609caddf2a2eb057984173600dd4b"), looks := true }, kinds := [], alts := [], laidByText := true, laidKinds := [.data, .data, .data, .sentinel, .sentinel], laidTests := true, laidLooks := .later }
def MeasureTextsUptoCardSaid : Prop := Claim7.holds Tryd.pinned (.plain (OpenSpec.upto measureTextsSpec)) measureTextsUptoCard

/-- THE SECOND FORM's CARD OF 'shapesearchlaw17.MeasureWithin'. -/
def measureWithinUptoCard : Claim7 := { stood := { row := measureWithinUptoRow, standIns := [], harness := (true, "183a3a5865d75809e2c5a13885ceb96a546609caddf2a2eb057984173600dd4b"), looks := true }, kinds := [], alts := [], laidByText := true, laidKinds := [.data, .data, .data, .sentinel, .sentinel], laidTests := true, laidLooks := .later }
def MeasureWithinUptoCardSaid : Prop := Claim7.holds Tryd.pinned (.plain (OpenSpec.upto measureWithinSpec)) measureWithinUptoCard
end Rows
end Go.Proofs.YtadniiehehiblaaDoor
