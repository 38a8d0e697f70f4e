/-
  DERIVED. GIVEN WITH THE SEED: THE CARDS: each row of YtdfdecpplnjdcaaDoorRows.lean that lists a variable, with what it lists TIED to the program's text (the seventh form; the later family's looks); each row that meets fmt, with fmt's text TOLD by the authors' own Lean function (tested against real Go, not proved from fmt's source: count such statements apart). THE CARD IS WHAT COUNTS. Prove the row's statement (the work); the ties are given (YtdfdecpplnjdcaaDoorTie.lean); close each card by the builder's one call (the guide's Derived/Test/ToyasCard.lean, 'card_holds'). Laid BY PROGRAM, IN A SANDBOX (cutbox-door.mjs). By AI agents, Wed Nov 11 2026. No macro, syntax, notation, axiom, sorry.
-/
import Derived.Test.YtdfdecpplnjdcaaDoorRows
import GoSem.ClaimSeven
namespace Go.Proofs.YtdfdecpplnjdcaaDoor
namespace Rows

/-- THE TIED CARD OF 'shapesearchlaw01.RatioMakes'. -/
def ratioMakesCard : Claim7 := { stood := { row := ratioMakesRow, standIns := [], harness := (true, "9e8d5d1761a490850a9db1419b07f446cf8ffc89fd23e75b0f38304f2a1fad8d"), looks := true }, kinds := [], alts := [], laidByText := true, laidKinds := [.data, .data, .data], laidTests := true, laidLooks := .later }
def RatioMakesCardSaid : Prop := Claim7.holds Tryd.pinned (.plain (OpenSpec.ofChange ratioMakesSpec)) ratioMakesCard

/-- THE TIED CARD OF 'shapesearchlaw01.RatioOrders'. -/
def ratioOrdersCard : Claim7 := { stood := { row := ratioOrdersRow, standIns := [], harness := (true, "9e8d5d1761a490850a9db1419b07f446cf8ffc89fd23e75b0f38304f2a1fad8d"), looks := true }, kinds := [], alts := [], laidByText := true, laidKinds := [.data, .data, .data], laidTests := true, laidLooks := .later }
def RatioOrdersCardSaid : Prop := Claim7.holds Tryd.pinned (.plain (OpenSpec.ofChange ratioOrdersSpec)) ratioOrdersCard

/-- THE TIED CARD OF 'shapesearchlaw01.RatioCompares'. -/
def ratioComparesCard : Claim7 := { stood := { row := ratioComparesRow, standIns := [], harness := (true, "9e8d5d1761a490850a9db1419b07f446cf8ffc89fd23e75b0f38304f2a1fad8d"), looks := true }, kinds := [], alts := [], laidByText := true, laidKinds := [.data, .data, .data], laidTests := true, laidLooks := .later }
def RatioComparesCardSaid : Prop := Claim7.holds Tryd.pinned (.plain (OpenSpec.ofChange ratioComparesSpec)) ratioComparesCard

/-- THE TIED CARD OF 'shapesearchlaw01.RatioSums'. -/
def ratioSumsCard : Claim7 := { stood := { row := ratioSumsRow, standIns := [], harness := (true, "9e8d5d1761a490850a9db1419b07f446cf8ffc89fd23e75b0f38304f2a1fad8d"), looks := true }, kinds := [], alts := [], laidByText := true, laidKinds := [.data, .data, .data], laidTests := true, laidLooks := .later }
def RatioSumsCardSaid : Prop := Claim7.holds Tryd.pinned (.plain (OpenSpec.ofChange ratioSumsSpec)) ratioSumsCard

/-- THE TIED CARD OF 'shapesearchlaw01.RatioRounds'. -/
def ratioRoundsCard : Claim7 := { stood := { row := ratioRoundsRow, standIns := [], harness := (true, "9e8d5d1761a490850a9db1419b07f446cf8ffc89fd23e75b0f38304f2a1fad8d"), looks := true }, kinds := [], alts := [], laidByText := true, laidKinds := [.data, .data, .data], laidTests := true, laidLooks := .later }
def RatioRoundsCardSaid : Prop := Claim7.holds Tryd.pinned (.plain (OpenSpec.ofChange ratioRoundsSpec)) ratioRoundsCard

/-- THE TIED CARD OF 'shapesearchlaw01.RatioLeasts'. -/
def ratioLeastsCard : Claim7 := { stood := { row := ratioLeastsRow, standIns := [], harness := (true, "9e8d5d1761a490850a9db1419b07f446cf8ffc89fd23e75b0f38304f2a1fad8d"), looks := true }, kinds := [], alts := [], laidByText := true, laidKinds := [.data, .data, .data], laidTests := true, laidLooks := .later }
def RatioLeastsCardSaid : Prop := Claim7.holds Tryd.pinned (.plain (OpenSpec.ofChange ratioLeastsSpec)) ratioLeastsCard

/-- THE TIED CARD OF 'shapesearchlaw01.RatioReads'. -/
def ratioReadsCard : Claim7 := { stood := { row := ratioReadsRow, standIns := [], harness := (true, "9e8d5d1761a490850a9db1419b07f446cf8ffc89fd23e75b0f38304f2a1fad8d"), looks := true }, kinds := [], alts := [], laidByText := true, laidKinds := [.data, .data, .data, .sentinel, .sentinel], laidTests := true, laidLooks := .later }
def RatioReadsCardSaid : Prop := Claim7.holds Tryd.pinned (.plain (OpenSpec.ofChange ratioReadsSpec)) ratioReadsCard

/-- THE TIED CARD OF 'shapesearchlaw01.RatioAnswers'. -/
def ratioAnswersCard : Claim7 := { stood := { row := ratioAnswersRow, standIns := [], harness := (true, "9e8d5d1761a490850a9db1419b07f446cf8ffc89fd23e75b0f38304f2a1fad8d"), looks := true }, kinds := [], alts := [], laidByText := true, laidKinds := [.data, .data, .data, .sentinel, .sentinel], laidTests := true, laidLooks := .later }
def RatioAnswersCardSaid : Prop := Claim7.holds Tryd.pinned (.plain (OpenSpec.ofChange ratioAnswersSpec)) ratioAnswersCard

/-- THE SECOND FORM's CARD OF 'shapesearchlaw01.RatioMakes'. -/
def ratioMakesUptoCard : Claim7 := { stood := { row := ratioMakesUptoRow, standIns := [], harness := (true, "9e8d5d1761a490850a9db1419b07f446cf8ffc89fd23e75b0f38304f2a1fad8d"), looks := true }, kinds := [], alts := [], laidByText := true, laidKinds := [.data, .data, .data], laidTests := true, laidLooks := .later }
def RatioMakesUptoCardSaid : Prop := Claim7.holds Tryd.pinned (.plain (OpenSpec.upto ratioMakesSpec)) ratioMakesUptoCard

/-- THE SECOND FORM's CARD OF 'shapesearchlaw01.RatioOrders'. -/
def ratioOrdersUptoCard : Claim7 := { stood := { row := ratioOrdersUptoRow, standIns := [], harness := (true, "9e8d5d1761a490850a9db1419b07f446cf8ffc89fd23e75b0f38304f2a1fad8d"), looks := true }, kinds := [], alts := [], laidByText := true, laidKinds := [.data, .data, .data], laidTests := true, laidLooks := .later }
def RatioOrdersUptoCardSaid : Prop := Claim7.holds Tryd.pinned (.plain (OpenSpec.upto ratioOrdersSpec)) ratioOrdersUptoCard

/-- THE SECOND FORM's CARD OF 'shapesearchlaw01.RatioCompares'. -/
def ratioComparesUptoCard : Claim7 := { stood := { row := ratioComparesUptoRow, standIns := [], harness := (true, "9e8d5d1761a490850a9db1419b07f446cf8ffc89fd23e75b0f38304f2a1fad8d"), looks := true }, kinds := [], alts := [], laidByText := true, laidKinds := [.data, .data, .data], laidTests := true, laidLooks := .later }
def RatioComparesUptoCardSaid : Prop := Claim7.holds Tryd.pinned (.plain (OpenSpec.upto ratioComparesSpec)) ratioComparesUptoCard

/-- THE SECOND FORM's CARD OF 'shapesearchlaw01.RatioSums'. -/
def ratioSumsUptoCard : Claim7 := { stood := { row := ratioSumsUptoRow, standIns := [], harness := (true, "9e8d5d1761a490850a9db1419b07f446cf8ffc89fd23e75b0f38304f2a1fad8d"), looks := true }, kinds := [], alts := [], laidByText := true, laidKinds := [.data, .data, .data], laidTests := true, laidLooks := .later }
def RatioSumsUptoCardSaid : Prop := Claim7.holds Tryd.pinned (.plain (OpenSpec.upto ratioSumsSpec)) ratioSumsUptoCard

/-- THE SECOND FORM's CARD OF 'shapesearchlaw01.RatioRounds'. -/
def ratioRoundsUptoCard : Claim7 := { stood := { row := ratioRoundsUptoRow, standIns := [], harness := (true, "9e8d5d1761a490850a9db1419b07f446cf8ffc89fd23e75b0f38304f2a1fad8d"), looks := true }, kinds := [], alts := [], laidByText := true, laidKinds := [.data, .data, .data], laidTests := true, laidLooks := .later }
def RatioRoundsUptoCardSaid : Prop := Claim7.holds Tryd.pinned (.plain (OpenSpec.upto ratioRoundsSpec)) ratioRoundsUptoCard

/-- THE SECOND FORM's CARD OF 'shapesearchlaw01.RatioLeasts'. -/
def ratioLeastsUptoCard : Claim7 := { stood := { row := ratioLeastsUptoRow, standIns := [], harness := (true, "9e8d5d1761a490850a9db1419b07f446cf8ffc89fd23e75b0f38304f2a1fad8d"), looks := true }, kinds := [], alts := [], laidByText := true, laidKinds := [.data, .data, .data], laidTests := true, laidLooks := .later }
def RatioLeastsUptoCardSaid : Prop := Claim7.holds Tryd.pinned (.plain (OpenSpec.upto ratioLeastsSpec)) ratioLeastsUptoCard

/-- THE SECOND FORM's CARD OF 'shapesearchlaw01.RatioReads'. -/
def ratioReadsUptoCard : Claim7 := { stood := { row := ratioReadsUptoRow, standIns := [], harness := (true, "9e8d5d1761a490850a9db1419b07f446cf8ffc89fd23e75b0f38304f2a1fad8d"), looks := true }, kinds := [], alts := [], laidByText := true, laidKinds := [.data, .data, .data, .sentinel, .sentinel], laidTests := true, laidLooks := .later }
def RatioReadsUptoCardSaid : Prop := Claim7.holds Tryd.pinned (.plain (OpenSpec.upto ratioReadsSpec)) ratioReadsUptoCard

/-- THE SECOND FORM's CARD OF 'shapesearchlaw01.RatioAnswers'. -/
def ratioAnswersUptoCard : Claim7 := { stood := { row := ratioAnswersUptoRow, standIns := [], harness := (true, "9e8d5d1761a490850a9db1419b07f446cf8ffc89fd23e75b0f38304f2a1fad8d"), looks := true }, kinds := [], alts := [], laidByText := true, laidKinds := [.data, .data, .data, .sentinel, .sentinel], laidTests := true, laidLooks := .later }
def RatioAnswersUptoCardSaid : Prop := Claim7.holds Tryd.pinned (.plain (OpenSpec.upto ratioAnswersSpec)) ratioAnswersUptoCard
end Rows
end Go.Proofs.YtdfdecpplnjdcaaDoor
