/-
  No cell of these rows narrows 'for every input' (looked for: loops, veiled, ifaces, maps, wideKeys, modest, calm, conditions, laid).
  DERIVED. THE GIVEN ROWS OF THIS SEAT. 6 by the template 'for every input the law returns true; each argument reads behind the call as it read before'; 0 by the template 'total and deterministic' (their statements: YtknkiogjibpooaaTotals.lean).
  GIVEN WITH THE SEED: the statements are not yours to turn. If you find one false, say at which input.
  Laid BY PROGRAM, IN A SANDBOX (cutbox-rows.mjs): the forced cells as the released guide's own fill.sh prints them over the translation 7cac243d2813483b… (all of the seat's roots in one cut). By AI agents, Wed Nov 11 2026. No macro, syntax, notation, axiom, sorry.
-/
import Derived.Test.YtknkiogjibpooaaChecked
import GoSem.Claim
import GoSem.ClaimJoined
import GoSem.ClaimMapViews
import Derived.JoinedTies
import Derived.KernelRfl
namespace Go.Proofs.Ytknkiogjibpooaa
/- THE CELL 'sum', in the pinned program and in every row, IS THE sha256 OF THE DUMP (.gsa) THAT YtknkiogjibpooaaProg.lean LOADS. Nothing in Lean hashes anything: it is a label: what it is worth is what the hold of that sum in a sandbox is worth. -/
noncomputable def Try.pinned : Pinned := { name := "ytknkiogjibpooaa", sum := "7cac243d2813483bfc23c1530392e0f7cfff5e3e06d26667da22491031f97720", checked := Try.checked }
namespace Rows
def none {H : Type} : Left H := { results := [], args := [] }

/-- 'shapesearchlaw11.WindowSums': WHATEVER THE INPUT: true; the input reads as it did. -/
def windowSumsSpec : ChangeSpec := { name := "windowSums", fn := fun _ => fun
  | [d1, d2, d3] => { results := [.lit (.bool true)], args := [d1, d2, d3] }
  | _ => none }
def windowSumsRow : OpenClaim := { program := "ytknkiogjibpooaa", sum := "7cac243d2813483bfc23c1530392e0f7cfff5e3e06d26667da22491031f97720", func := "shapesearch/shapesearchlaw11.WindowSums", spec := "windowSums", unfollowed := true, recurses := true, apart := false }
def WindowSumsSaid : Prop := windowSumsRow.holds Try.pinned (OpenSpec.ofChange windowSumsSpec)

/-- ITS FALSE NEIGHBOUR: 'it returns false'. Refute it at one input. -/
def windowSumsWrong : ChangeSpec := { name := "windowSums", fn := fun _ => fun
  | [d1, d2, d3] => { results := [.lit (.bool false)], args := [d1, d2, d3] }
  | _ => none }
def WindowSumsWrongFalsely : Prop := windowSumsRow.holds Try.pinned (OpenSpec.ofChange windowSumsWrong)

/-- 'shapesearchlaw11.WindowVariance': WHATEVER THE INPUT: true; the input reads as it did. -/
def windowVarianceSpec : ChangeSpec := { name := "windowVariance", fn := fun _ => fun
  | [d] => { results := [.lit (.bool true)], args := [d] }
  | _ => none }
def windowVarianceRow : OpenClaim := { program := "ytknkiogjibpooaa", sum := "7cac243d2813483bfc23c1530392e0f7cfff5e3e06d26667da22491031f97720", func := "shapesearch/shapesearchlaw11.WindowVariance", spec := "windowVariance", unfollowed := true, recurses := true, apart := false }
def WindowVarianceSaid : Prop := windowVarianceRow.holds Try.pinned (OpenSpec.ofChange windowVarianceSpec)

/-- ITS FALSE NEIGHBOUR: 'it returns false'. Refute it at one input. -/
def windowVarianceWrong : ChangeSpec := { name := "windowVariance", fn := fun _ => fun
  | [d] => { results := [.lit (.bool false)], args := [d] }
  | _ => none }
def WindowVarianceWrongFalsely : Prop := windowVarianceRow.holds Try.pinned (OpenSpec.ofChange windowVarianceWrong)

/-- 'shapesearchlaw11.WindowParts': WHATEVER THE INPUT: true; the input reads as it did. -/
def windowPartsSpec : ChangeSpec := { name := "windowParts", fn := fun _ => fun
  | [d1, d2, d3] => { results := [.lit (.bool true)], args := [d1, d2, d3] }
  | _ => none }
def windowPartsRow : OpenClaim := { program := "ytknkiogjibpooaa", sum := "7cac243d2813483bfc23c1530392e0f7cfff5e3e06d26667da22491031f97720", func := "shapesearch/shapesearchlaw11.WindowParts", spec := "windowParts", unfollowed := true, recurses := true, apart := false }
def WindowPartsSaid : Prop := windowPartsRow.holds Try.pinned (OpenSpec.ofChange windowPartsSpec)

/-- ITS FALSE NEIGHBOUR: 'it returns false'. Refute it at one input. -/
def windowPartsWrong : ChangeSpec := { name := "windowParts", fn := fun _ => fun
  | [d1, d2, d3] => { results := [.lit (.bool false)], args := [d1, d2, d3] }
  | _ => none }
def WindowPartsWrongFalsely : Prop := windowPartsRow.holds Try.pinned (OpenSpec.ofChange windowPartsWrong)

/-- 'shapesearchlaw11.WindowAnswers': WHATEVER THE INPUT: true; the input reads as it did. -/
def windowAnswersSpec : ChangeSpec := { name := "windowAnswers", fn := fun _ => fun
  | [d1, d2, d3, d4, d5, d6] => { results := [.lit (.bool true)], args := [d1, d2, d3, d4, d5, d6] }
  | _ => none }
def windowAnswersRow : OpenClaim := { program := "ytknkiogjibpooaa", sum := "7cac243d2813483bfc23c1530392e0f7cfff5e3e06d26667da22491031f97720", func := "shapesearch/shapesearchlaw11.WindowAnswers", spec := "windowAnswers", unfollowed := true, recurses := true, apart := false }
def WindowAnswersSaid : Prop := windowAnswersRow.holds Try.pinned (OpenSpec.ofChange windowAnswersSpec)

/-- ITS FALSE NEIGHBOUR: 'it returns false'. Refute it at one input. -/
def windowAnswersWrong : ChangeSpec := { name := "windowAnswers", fn := fun _ => fun
  | [d1, d2, d3, d4, d5, d6] => { results := [.lit (.bool false)], args := [d1, d2, d3, d4, d5, d6] }
  | _ => none }
def WindowAnswersWrongFalsely : Prop := windowAnswersRow.holds Try.pinned (OpenSpec.ofChange windowAnswersWrong)

/-- 'shapesearchlaw11.WindowShifts': WHATEVER THE INPUT: true; the input reads as it did. -/
def windowShiftsSpec : ChangeSpec := { name := "windowShifts", fn := fun _ => fun
  | [d1, d2] => { results := [.lit (.bool true)], args := [d1, d2] }
  | _ => none }
def windowShiftsRow : OpenClaim := { program := "ytknkiogjibpooaa", sum := "7cac243d2813483bfc23c1530392e0f7cfff5e3e06d26667da22491031f97720", func := "shapesearch/shapesearchlaw11.WindowShifts", spec := "windowShifts", unfollowed := true, recurses := true, apart := false }
def WindowShiftsSaid : Prop := windowShiftsRow.holds Try.pinned (OpenSpec.ofChange windowShiftsSpec)

/-- ITS FALSE NEIGHBOUR: 'it returns false'. Refute it at one input. -/
def windowShiftsWrong : ChangeSpec := { name := "windowShifts", fn := fun _ => fun
  | [d1, d2] => { results := [.lit (.bool false)], args := [d1, d2] }
  | _ => none }
def WindowShiftsWrongFalsely : Prop := windowShiftsRow.holds Try.pinned (OpenSpec.ofChange windowShiftsWrong)

/-- 'shapesearchlaw11.WindowSlides': WHATEVER THE INPUT: true; the input reads as it did. -/
def windowSlidesSpec : ChangeSpec := { name := "windowSlides", fn := fun _ => fun
  | [d1, d2] => { results := [.lit (.bool true)], args := [d1, d2] }
  | _ => none }
def windowSlidesRow : OpenClaim := { program := "ytknkiogjibpooaa", sum := "7cac243d2813483bfc23c1530392e0f7cfff5e3e06d26667da22491031f97720", func := "shapesearch/shapesearchlaw11.WindowSlides", spec := "windowSlides", unfollowed := true, recurses := true, apart := false }
def WindowSlidesSaid : Prop := windowSlidesRow.holds Try.pinned (OpenSpec.ofChange windowSlidesSpec)

/-- ITS FALSE NEIGHBOUR: 'it returns false'. Refute it at one input. -/
def windowSlidesWrong : ChangeSpec := { name := "windowSlides", fn := fun _ => fun
  | [d1, d2] => { results := [.lit (.bool false)], args := [d1, d2] }
  | _ => none }
def WindowSlidesWrongFalsely : Prop := windowSlidesRow.holds Try.pinned (OpenSpec.ofChange windowSlidesWrong)

/- THE SECOND FORM. 'bulk': how many values and letters a reading holds, each counted each time it is reached (what is shared counts as often as it is met; a slice's spare places count too). A statement '..UptoSaid' is the law's where the arguments, and the package variables that the reading takes, are together of bulk at most 1048576: NARROWER than '..Said'. Prove '..Said' where nothing that the law and all that it calls make is longer than what came in: it says more and counts as full. Else prove '..UptoSaid'. A law counts once. -/
mutual
def uptoBulk {H : Type} : DataW H → Nat
  | .lit (.string bytes) => bytes.length + 1
  | .lit _ => 1
  | .nil => 1
  | .ptr d => uptoBulk d + 1
  | .slice elems spare => uptoBulkAll elems + uptoBulkAll spare + 1
  | .agg parts => uptoBulkAll parts + 1
  | .iface _ d => uptoBulk d + 1
  | .map entries => uptoBulkEntries entries + 1
  | .held _ => 1
def uptoBulkAll {H : Type} : List (DataW H) → Nat
  | [] => 0
  | d :: r => uptoBulk d + uptoBulkAll r
def uptoBulkEntries {H : Type} : List (Lit × DataW H) → Nat
  | [] => 0
  | x :: r => uptoBulkEntry x + uptoBulkEntries r
def uptoBulkEntry {H : Type} : Lit × DataW H → Nat
  | (.string bytes, d) => bytes.length + uptoBulk d + 1
  | (_, d) => uptoBulk d + 1
 end
def uptoSmall : (H : Type) → List (DataW H) → Bool := fun _ ds => decide (uptoBulkAll ds ≤ 1048576)
def OpenSpec.upto (s : _root_.Go.ChangeSpec) : _root_.Go.OpenSpec := { _root_.Go.OpenSpec.ofChange s with cond := some uptoSmall }

/-- 'shapesearchlaw11.WindowSums', WHERE WHAT IT READS IS OF BULK AT MOST 1048576: true; the input reads as it did. -/
def windowSumsUptoRow : OpenClaim := { program := "ytknkiogjibpooaa", sum := "7cac243d2813483bfc23c1530392e0f7cfff5e3e06d26667da22491031f97720", func := "shapesearch/shapesearchlaw11.WindowSums", spec := "windowSums", unfollowed := true, recurses := true, apart := false, narrowed := true }
def WindowSumsUptoSaid : Prop := windowSumsUptoRow.holds Try.pinned (OpenSpec.upto windowSumsSpec)

/-- 'shapesearchlaw11.WindowVariance', WHERE WHAT IT READS IS OF BULK AT MOST 1048576: true; the input reads as it did. -/
def windowVarianceUptoRow : OpenClaim := { program := "ytknkiogjibpooaa", sum := "7cac243d2813483bfc23c1530392e0f7cfff5e3e06d26667da22491031f97720", func := "shapesearch/shapesearchlaw11.WindowVariance", spec := "windowVariance", unfollowed := true, recurses := true, apart := false, narrowed := true }
def WindowVarianceUptoSaid : Prop := windowVarianceUptoRow.holds Try.pinned (OpenSpec.upto windowVarianceSpec)

/-- 'shapesearchlaw11.WindowParts', WHERE WHAT IT READS IS OF BULK AT MOST 1048576: true; the input reads as it did. -/
def windowPartsUptoRow : OpenClaim := { program := "ytknkiogjibpooaa", sum := "7cac243d2813483bfc23c1530392e0f7cfff5e3e06d26667da22491031f97720", func := "shapesearch/shapesearchlaw11.WindowParts", spec := "windowParts", unfollowed := true, recurses := true, apart := false, narrowed := true }
def WindowPartsUptoSaid : Prop := windowPartsUptoRow.holds Try.pinned (OpenSpec.upto windowPartsSpec)

/-- 'shapesearchlaw11.WindowAnswers', WHERE WHAT IT READS IS OF BULK AT MOST 1048576: true; the input reads as it did. -/
def windowAnswersUptoRow : OpenClaim := { program := "ytknkiogjibpooaa", sum := "7cac243d2813483bfc23c1530392e0f7cfff5e3e06d26667da22491031f97720", func := "shapesearch/shapesearchlaw11.WindowAnswers", spec := "windowAnswers", unfollowed := true, recurses := true, apart := false, narrowed := true }
def WindowAnswersUptoSaid : Prop := windowAnswersUptoRow.holds Try.pinned (OpenSpec.upto windowAnswersSpec)

/-- 'shapesearchlaw11.WindowShifts', WHERE WHAT IT READS IS OF BULK AT MOST 1048576: true; the input reads as it did. -/
def windowShiftsUptoRow : OpenClaim := { program := "ytknkiogjibpooaa", sum := "7cac243d2813483bfc23c1530392e0f7cfff5e3e06d26667da22491031f97720", func := "shapesearch/shapesearchlaw11.WindowShifts", spec := "windowShifts", unfollowed := true, recurses := true, apart := false, narrowed := true }
def WindowShiftsUptoSaid : Prop := windowShiftsUptoRow.holds Try.pinned (OpenSpec.upto windowShiftsSpec)

/-- 'shapesearchlaw11.WindowSlides', WHERE WHAT IT READS IS OF BULK AT MOST 1048576: true; the input reads as it did. -/
def windowSlidesUptoRow : OpenClaim := { program := "ytknkiogjibpooaa", sum := "7cac243d2813483bfc23c1530392e0f7cfff5e3e06d26667da22491031f97720", func := "shapesearch/shapesearchlaw11.WindowSlides", spec := "windowSlides", unfollowed := true, recurses := true, apart := false, narrowed := true }
def WindowSlidesUptoSaid : Prop := windowSlidesUptoRow.holds Try.pinned (OpenSpec.upto windowSlidesSpec)

end Rows
end Go.Proofs.Ytknkiogjibpooaa
