/-
  DERIVED. GIVEN WITH THE SEED: THE CARDS: each row of YthbphpmiandmbaaDoorRows.lean that lists a variable, with what it lists TIED to the program's text (the seventh form; the later family's looks); each row that meets fmt, with fmt's text TOLD by the authors' own Lean function (tested against real Go, not proved from fmt's source: count such statements apart). THE CARD IS WHAT COUNTS. Prove the row's statement (the work); the ties are given (YthbphpmiandmbaaDoorTie.lean); close each card by the builder's one call (the guide's Derived/Test/ToyasCard.lean, 'card_holds'). Laid BY PROGRAM, IN A SANDBOX (cutbox-door.mjs). By AI agents, Wed Nov 11 2026. No macro, syntax, notation, axiom, sorry.
-/
import Derived.Test.YthbphpmiandmbaaDoorRows
import GoSem.ClaimSeven
namespace Go.Proofs.YthbphpmiandmbaaDoor
namespace Rows

/-- THE TIED CARD OF 'shapesearchlaw04.UnitRounds'. -/
def unitRoundsCard : Claim7 := { stood := { row := unitRoundsRow, standIns := [], harness := (true, "02f71a9b9c53ccab271c5de487d1e8e2922e9234aeaec69eb6c84e4e36e9d1c9"), looks := false }, kinds := [], alts := [], laidByText := true, laidKinds := [.data, .data, .pinned], laidTests := true, laidLooks := .later }
def UnitRoundsCardSaid : Prop := Claim7.holds Tryd.pinned (.plain (OpenSpec.ofChange unitRoundsSpec)) unitRoundsCard

/-- THE TIED CARD OF 'shapesearchlaw04.UnitGrows'. -/
def unitGrowsCard : Claim7 := { stood := { row := unitGrowsRow, standIns := [], harness := (true, "02f71a9b9c53ccab271c5de487d1e8e2922e9234aeaec69eb6c84e4e36e9d1c9"), looks := false }, kinds := [], alts := [], laidByText := true, laidKinds := [.data, .data, .pinned], laidTests := true, laidLooks := .later }
def UnitGrowsCardSaid : Prop := Claim7.holds Tryd.pinned (.plain (OpenSpec.ofChange unitGrowsSpec)) unitGrowsCard

/-- THE TIED CARD OF 'shapesearchlaw04.UnitWholes'. -/
def unitWholesCard : Claim7 := { stood := { row := unitWholesRow, standIns := [], harness := (true, "02f71a9b9c53ccab271c5de487d1e8e2922e9234aeaec69eb6c84e4e36e9d1c9"), looks := false }, kinds := [], alts := [], laidByText := true, laidKinds := [.data, .data, .pinned], laidTests := true, laidLooks := .later }
def UnitWholesCardSaid : Prop := Claim7.holds Tryd.pinned (.plain (OpenSpec.ofChange unitWholesSpec)) unitWholesCard

/-- THE TIED CARD OF 'shapesearchlaw04.UnitAnswers'. -/
def unitAnswersCard : Claim7 := { stood := { row := unitAnswersRow, standIns := [], harness := (true, "02f71a9b9c53ccab271c5de487d1e8e2922e9234aeaec69eb6c84e4e36e9d1c9"), looks := false }, kinds := [], alts := [], laidByText := true, laidKinds := [.data, .data, .data, .data, .data, .pinned], laidTests := true, laidLooks := .later }
def UnitAnswersCardSaid : Prop := Claim7.holds Tryd.pinned (.plain (OpenSpec.ofChange unitAnswersSpec)) unitAnswersCard

/-- THE TIED CARD OF 'shapesearchlaw04.UnitReads'. -/
def unitReadsCard : Claim7 := { stood := { row := unitReadsRow, standIns := [], harness := (true, "02f71a9b9c53ccab271c5de487d1e8e2922e9234aeaec69eb6c84e4e36e9d1c9"), looks := false }, kinds := [], alts := [], laidByText := true, laidKinds := [.data, .data, .data, .data, .data, .pinned], laidTests := true, laidLooks := .later }
def UnitReadsCardSaid : Prop := Claim7.holds Tryd.pinned (.plain (OpenSpec.ofChange unitReadsSpec)) unitReadsCard

/-- THE SECOND FORM's CARD OF 'shapesearchlaw04.UnitRounds'. -/
def unitRoundsUptoCard : Claim7 := { stood := { row := unitRoundsUptoRow, standIns := [], harness := (true, "02f71a9b9c53ccab271c5de487d1e8e2922e9234aeaec69eb6c84e4e36e9d1c9"), looks := false }, kinds := [], alts := [], laidByText := true, laidKinds := [.data, .data, .pinned], laidTests := true, laidLooks := .later }
def UnitRoundsUptoCardSaid : Prop := Claim7.holds Tryd.pinned (.plain (OpenSpec.upto unitRoundsSpec)) unitRoundsUptoCard

/-- THE SECOND FORM's CARD OF 'shapesearchlaw04.UnitGrows'. -/
def unitGrowsUptoCard : Claim7 := { stood := { row := unitGrowsUptoRow, standIns := [], harness := (true, "02f71a9b9c53ccab271c5de487d1e8e2922e9234aeaec69eb6c84e4e36e9d1c9"), looks := false }, kinds := [], alts := [], laidByText := true, laidKinds := [.data, .data, .pinned], laidTests := true, laidLooks := .later }
def UnitGrowsUptoCardSaid : Prop := Claim7.holds Tryd.pinned (.plain (OpenSpec.upto unitGrowsSpec)) unitGrowsUptoCard

/-- THE SECOND FORM's CARD OF 'shapesearchlaw04.UnitWholes'. -/
def unitWholesUptoCard : Claim7 := { stood := { row := unitWholesUptoRow, standIns := [], harness := (true, "02f71a9b9c53ccab271c5de487d1e8e2922e9234aeaec69eb6c84e4e36e9d1c9"), looks := false }, kinds := [], alts := [], laidByText := true, laidKinds := [.data, .data, .pinned], laidTests := true, laidLooks := .later }
def UnitWholesUptoCardSaid : Prop := Claim7.holds Tryd.pinned (.plain (OpenSpec.upto unitWholesSpec)) unitWholesUptoCard

/-- THE SECOND FORM's CARD OF 'shapesearchlaw04.UnitAnswers'. -/
def unitAnswersUptoCard : Claim7 := { stood := { row := unitAnswersUptoRow, standIns := [], harness := (true, "02f71a9b9c53ccab271c5de487d1e8e2922e9234aeaec69eb6c84e4e36e9d1c9"), looks := false }, kinds := [], alts := [], laidByText := true, laidKinds := [.data, .data, .data, .data, .data, .pinned], laidTests := true, laidLooks := .later }
def UnitAnswersUptoCardSaid : Prop := Claim7.holds Tryd.pinned (.plain (OpenSpec.upto unitAnswersSpec)) unitAnswersUptoCard

/-- THE SECOND FORM's CARD OF 'shapesearchlaw04.UnitReads'. -/
def unitReadsUptoCard : Claim7 := { stood := { row := unitReadsUptoRow, standIns := [], harness := (true, "02f71a9b9c53ccab271c5de487d1e8e2922e9234aeaec69eb6c84e4e36e9d1c9"), looks := false }, kinds := [], alts := [], laidByText := true, laidKinds := [.data, .data, .data, .data, .data, .pinned], laidTests := true, laidLooks := .later }
def UnitReadsUptoCardSaid : Prop := Claim7.holds Tryd.pinned (.plain (OpenSpec.upto unitReadsSpec)) unitReadsUptoCard
end Rows
end Go.Proofs.YthbphpmiandmbaaDoor
