/-
  No cell of these rows narrows 'for every input' (looked for: loops, veiled, ifaces, maps, wideKeys, modest, calm, conditions, laid).
  DERIVED. THE GIVEN ROWS OF THIS SEAT. 6 by the template 'for every input the law returns true; each argument reads behind the call as it read before'; 0 by the template 'total and deterministic' (their statements: YtknkiogjibpooabTotals.lean).
  GIVEN WITH THE SEED: the statements are not yours to turn. If you find one false, say at which input.
  Laid BY PROGRAM, IN A SANDBOX (cutbox-rows.mjs): the forced cells as the released guide's own fill.sh prints them over the translation 02f36a8b0fce5cd6… (all of the seat's roots in one cut). By AI agents, Wed Nov 11 2026. No macro, syntax, notation, axiom, sorry.
-/
import Derived.Test.YtknkiogjibpooabChecked
import GoSem.Claim
import GoSem.ClaimJoined
import GoSem.ClaimMapViews
import Derived.JoinedTies
import Derived.KernelRfl
namespace Go.Proofs.Ytknkiogjibpooab
/- THE CELL 'sum', in the pinned program and in every row, IS THE sha256 OF THE DUMP (.gsa) THAT YtknkiogjibpooabProg.lean LOADS. Nothing in Lean hashes anything: it is a label: what it is worth is what the hold of that sum in a sandbox is worth. -/
noncomputable def Try.pinned : Pinned := { name := "ytknkiogjibpooab", sum := "02f36a8b0fce5cd6dcf551f785f60839781a0868afa826fa4cbc06e06f293125", checked := Try.checked }
namespace Rows
def none {H : Type} : Left H := { results := [], args := [] }

/-- 'shapesearchlaw08.ResampleMoves': WHATEVER THE INPUT: true; the input reads as it did. -/
def resampleMovesSpec : ChangeSpec := { name := "resampleMoves", fn := fun _ => fun
  | [d1, d2] => { results := [.lit (.bool true)], args := [d1, d2] }
  | _ => none }
def resampleMovesRow : OpenClaim := { program := "ytknkiogjibpooab", sum := "02f36a8b0fce5cd6dcf551f785f60839781a0868afa826fa4cbc06e06f293125", func := "shapesearch/shapesearchlaw08.ResampleMoves", spec := "resampleMoves", unfollowed := true, recurses := true, apart := false }
def ResampleMovesSaid : Prop := resampleMovesRow.holds Try.pinned (OpenSpec.ofChange resampleMovesSpec)

/-- ITS FALSE NEIGHBOUR: 'it returns false'. Refute it at one input. -/
def resampleMovesWrong : ChangeSpec := { name := "resampleMoves", fn := fun _ => fun
  | [d1, d2] => { results := [.lit (.bool false)], args := [d1, d2] }
  | _ => none }
def ResampleMovesWrongFalsely : Prop := resampleMovesRow.holds Try.pinned (OpenSpec.ofChange resampleMovesWrong)

/-- 'shapesearchlaw08.ResampleAnswers': WHATEVER THE INPUT: true; the input reads as it did. -/
def resampleAnswersSpec : ChangeSpec := { name := "resampleAnswers", fn := fun _ => fun
  | [d1, d2, d3, d4] => { results := [.lit (.bool true)], args := [d1, d2, d3, d4] }
  | _ => none }
def resampleAnswersRow : OpenClaim := { program := "ytknkiogjibpooab", sum := "02f36a8b0fce5cd6dcf551f785f60839781a0868afa826fa4cbc06e06f293125", func := "shapesearch/shapesearchlaw08.ResampleAnswers", spec := "resampleAnswers", unfollowed := true, recurses := true, apart := false }
def ResampleAnswersSaid : Prop := resampleAnswersRow.holds Try.pinned (OpenSpec.ofChange resampleAnswersSpec)

/-- ITS FALSE NEIGHBOUR: 'it returns false'. Refute it at one input. -/
def resampleAnswersWrong : ChangeSpec := { name := "resampleAnswers", fn := fun _ => fun
  | [d1, d2, d3, d4] => { results := [.lit (.bool false)], args := [d1, d2, d3, d4] }
  | _ => none }
def ResampleAnswersWrongFalsely : Prop := resampleAnswersRow.holds Try.pinned (OpenSpec.ofChange resampleAnswersWrong)

/-- 'shapesearchlaw08.ResampleRules': WHATEVER THE INPUT: true; the input reads as it did. -/
def resampleRulesSpec : ChangeSpec := { name := "resampleRules", fn := fun _ => fun
  | [d1, d2, d3] => { results := [.lit (.bool true)], args := [d1, d2, d3] }
  | _ => none }
def resampleRulesRow : OpenClaim := { program := "ytknkiogjibpooab", sum := "02f36a8b0fce5cd6dcf551f785f60839781a0868afa826fa4cbc06e06f293125", func := "shapesearch/shapesearchlaw08.ResampleRules", spec := "resampleRules", unfollowed := true, recurses := true, apart := false }
def ResampleRulesSaid : Prop := resampleRulesRow.holds Try.pinned (OpenSpec.ofChange resampleRulesSpec)

/-- ITS FALSE NEIGHBOUR: 'it returns false'. Refute it at one input. -/
def resampleRulesWrong : ChangeSpec := { name := "resampleRules", fn := fun _ => fun
  | [d1, d2, d3] => { results := [.lit (.bool false)], args := [d1, d2, d3] }
  | _ => none }
def ResampleRulesWrongFalsely : Prop := resampleRulesRow.holds Try.pinned (OpenSpec.ofChange resampleRulesWrong)

/-- 'shapesearchlaw08.ResampleReach': WHATEVER THE INPUT: true; the input reads as it did. -/
def resampleReachSpec : ChangeSpec := { name := "resampleReach", fn := fun _ => fun
  | [d1, d2, d3, d4, d5] => { results := [.lit (.bool true)], args := [d1, d2, d3, d4, d5] }
  | _ => none }
def resampleReachRow : OpenClaim := { program := "ytknkiogjibpooab", sum := "02f36a8b0fce5cd6dcf551f785f60839781a0868afa826fa4cbc06e06f293125", func := "shapesearch/shapesearchlaw08.ResampleReach", spec := "resampleReach", unfollowed := true, recurses := true, apart := false }
def ResampleReachSaid : Prop := resampleReachRow.holds Try.pinned (OpenSpec.ofChange resampleReachSpec)

/-- ITS FALSE NEIGHBOUR: 'it returns false'. Refute it at one input. -/
def resampleReachWrong : ChangeSpec := { name := "resampleReach", fn := fun _ => fun
  | [d1, d2, d3, d4, d5] => { results := [.lit (.bool false)], args := [d1, d2, d3, d4, d5] }
  | _ => none }
def ResampleReachWrongFalsely : Prop := resampleReachRow.holds Try.pinned (OpenSpec.ofChange resampleReachWrong)

/-- 'shapesearchlaw08.ResampleBetween': WHATEVER THE INPUT: true; the input reads as it did. -/
def resampleBetweenSpec : ChangeSpec := { name := "resampleBetween", fn := fun _ => fun
  | [d1, d2, d3, d4] => { results := [.lit (.bool true)], args := [d1, d2, d3, d4] }
  | _ => none }
def resampleBetweenRow : OpenClaim := { program := "ytknkiogjibpooab", sum := "02f36a8b0fce5cd6dcf551f785f60839781a0868afa826fa4cbc06e06f293125", func := "shapesearch/shapesearchlaw08.ResampleBetween", spec := "resampleBetween", unfollowed := true, recurses := true, apart := false }
def ResampleBetweenSaid : Prop := resampleBetweenRow.holds Try.pinned (OpenSpec.ofChange resampleBetweenSpec)

/-- ITS FALSE NEIGHBOUR: 'it returns false'. Refute it at one input. -/
def resampleBetweenWrong : ChangeSpec := { name := "resampleBetween", fn := fun _ => fun
  | [d1, d2, d3, d4] => { results := [.lit (.bool false)], args := [d1, d2, d3, d4] }
  | _ => none }
def ResampleBetweenWrongFalsely : Prop := resampleBetweenRow.holds Try.pinned (OpenSpec.ofChange resampleBetweenWrong)

/-- 'shapesearchlaw08.ResampleSeries': WHATEVER THE INPUT: true; the input reads as it did. -/
def resampleSeriesSpec : ChangeSpec := { name := "resampleSeries", fn := fun _ => fun
  | [d1, d2, d3] => { results := [.lit (.bool true)], args := [d1, d2, d3] }
  | _ => none }
def resampleSeriesRow : OpenClaim := { program := "ytknkiogjibpooab", sum := "02f36a8b0fce5cd6dcf551f785f60839781a0868afa826fa4cbc06e06f293125", func := "shapesearch/shapesearchlaw08.ResampleSeries", spec := "resampleSeries", unfollowed := true, recurses := true, apart := false }
def ResampleSeriesSaid : Prop := resampleSeriesRow.holds Try.pinned (OpenSpec.ofChange resampleSeriesSpec)

/-- ITS FALSE NEIGHBOUR: 'it returns false'. Refute it at one input. -/
def resampleSeriesWrong : ChangeSpec := { name := "resampleSeries", fn := fun _ => fun
  | [d1, d2, d3] => { results := [.lit (.bool false)], args := [d1, d2, d3] }
  | _ => none }
def ResampleSeriesWrongFalsely : Prop := resampleSeriesRow.holds Try.pinned (OpenSpec.ofChange resampleSeriesWrong)

/- THE SECOND FORM. 'bulk': how many values and letters a reading holds, each counted each time it is reached (what is shared counts as often as it is met; a slice's spare places count too). A statement '..UptoSaid' is the law's where the arguments, and the package variables that the reading takes, are together of bulk at most 1048576: NARROWER than '..Said'. Prove '..Said' where nothing that the law and all that it calls make is longer than what came in: it says more and counts as full. Else prove '..UptoSaid'. A law counts once. -/
mutual
def uptoBulk {H : Type} : DataW H → Nat
  | .lit (.string bytes) => bytes.length + 1
  | .lit _ => 1
  | .nil => 1
  | .ptr d => uptoBulk d + 1
  | .slice elems spare => uptoBulkAll elems + uptoBulkAll spare + 1
  | .agg parts => uptoBulkAll parts + 1
  | .iface _ d => uptoBulk d + 1
  | .map entries => uptoBulkEntries entries + 1
  | .held _ => 1
def uptoBulkAll {H : Type} : List (DataW H) → Nat
  | [] => 0
  | d :: r => uptoBulk d + uptoBulkAll r
def uptoBulkEntries {H : Type} : List (Lit × DataW H) → Nat
  | [] => 0
  | x :: r => uptoBulkEntry x + uptoBulkEntries r
def uptoBulkEntry {H : Type} : Lit × DataW H → Nat
  | (.string bytes, d) => bytes.length + uptoBulk d + 1
  | (_, d) => uptoBulk d + 1
 end
def uptoSmall : (H : Type) → List (DataW H) → Bool := fun _ ds => decide (uptoBulkAll ds ≤ 1048576)
def OpenSpec.upto (s : _root_.Go.ChangeSpec) : _root_.Go.OpenSpec := { _root_.Go.OpenSpec.ofChange s with cond := some uptoSmall }

/-- 'shapesearchlaw08.ResampleMoves', WHERE WHAT IT READS IS OF BULK AT MOST 1048576: true; the input reads as it did. -/
def resampleMovesUptoRow : OpenClaim := { program := "ytknkiogjibpooab", sum := "02f36a8b0fce5cd6dcf551f785f60839781a0868afa826fa4cbc06e06f293125", func := "shapesearch/shapesearchlaw08.ResampleMoves", spec := "resampleMoves", unfollowed := true, recurses := true, apart := false, narrowed := true }
def ResampleMovesUptoSaid : Prop := resampleMovesUptoRow.holds Try.pinned (OpenSpec.upto resampleMovesSpec)

/-- 'shapesearchlaw08.ResampleAnswers', WHERE WHAT IT READS IS OF BULK AT MOST 1048576: true; the input reads as it did. -/
def resampleAnswersUptoRow : OpenClaim := { program := "ytknkiogjibpooab", sum := "02f36a8b0fce5cd6dcf551f785f60839781a0868afa826fa4cbc06e06f293125", func := "shapesearch/shapesearchlaw08.ResampleAnswers", spec := "resampleAnswers", unfollowed := true, recurses := true, apart := false, narrowed := true }
def ResampleAnswersUptoSaid : Prop := resampleAnswersUptoRow.holds Try.pinned (OpenSpec.upto resampleAnswersSpec)

/-- 'shapesearchlaw08.ResampleRules', WHERE WHAT IT READS IS OF BULK AT MOST 1048576: true; the input reads as it did. -/
def resampleRulesUptoRow : OpenClaim := { program := "ytknkiogjibpooab", sum := "02f36a8b0fce5cd6dcf551f785f60839781a0868afa826fa4cbc06e06f293125", func := "shapesearch/shapesearchlaw08.ResampleRules", spec := "resampleRules", unfollowed := true, recurses := true, apart := false, narrowed := true }
def ResampleRulesUptoSaid : Prop := resampleRulesUptoRow.holds Try.pinned (OpenSpec.upto resampleRulesSpec)

/-- 'shapesearchlaw08.ResampleReach', WHERE WHAT IT READS IS OF BULK AT MOST 1048576: true; the input reads as it did. -/
def resampleReachUptoRow : OpenClaim := { program := "ytknkiogjibpooab", sum := "02f36a8b0fce5cd6dcf551f785f60839781a0868afa826fa4cbc06e06f293125", func := "shapesearch/shapesearchlaw08.ResampleReach", spec := "resampleReach", unfollowed := true, recurses := true, apart := false, narrowed := true }
def ResampleReachUptoSaid : Prop := resampleReachUptoRow.holds Try.pinned (OpenSpec.upto resampleReachSpec)

/-- 'shapesearchlaw08.ResampleBetween', WHERE WHAT IT READS IS OF BULK AT MOST 1048576: true; the input reads as it did. -/
def resampleBetweenUptoRow : OpenClaim := { program := "ytknkiogjibpooab", sum := "02f36a8b0fce5cd6dcf551f785f60839781a0868afa826fa4cbc06e06f293125", func := "shapesearch/shapesearchlaw08.ResampleBetween", spec := "resampleBetween", unfollowed := true, recurses := true, apart := false, narrowed := true }
def ResampleBetweenUptoSaid : Prop := resampleBetweenUptoRow.holds Try.pinned (OpenSpec.upto resampleBetweenSpec)

/-- 'shapesearchlaw08.ResampleSeries', WHERE WHAT IT READS IS OF BULK AT MOST 1048576: true; the input reads as it did. -/
def resampleSeriesUptoRow : OpenClaim := { program := "ytknkiogjibpooab", sum := "02f36a8b0fce5cd6dcf551f785f60839781a0868afa826fa4cbc06e06f293125", func := "shapesearch/shapesearchlaw08.ResampleSeries", spec := "resampleSeries", unfollowed := true, recurses := true, apart := false, narrowed := true }
def ResampleSeriesUptoSaid : Prop := resampleSeriesUptoRow.holds Try.pinned (OpenSpec.upto resampleSeriesSpec)

end Rows
end Go.Proofs.Ytknkiogjibpooab
