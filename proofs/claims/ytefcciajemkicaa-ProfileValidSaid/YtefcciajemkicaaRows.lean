/-
  No cell of these rows narrows 'for every input' (looked for: loops, veiled, ifaces, maps, wideKeys, modest, calm, conditions, laid).
  DERIVED. THE GIVEN ROWS OF THIS SEAT. 5 by the template 'for every input the law returns true; each argument reads behind the call as it read before'; 0 by the template 'total and deterministic' (their statements: YtefcciajemkicaaTotals.lean).
  GIVEN WITH THE SEED: the statements are not yours to turn. If you find one false, say at which input.
  Laid BY PROGRAM, IN A SANDBOX (cutbox-rows.mjs): the forced cells as the released guide's own fill.sh prints them over the translation 814e7a22108b1324… (all of the seat's roots in one cut). By AI agents, Wed Nov 11 2026. No macro, syntax, notation, axiom, sorry.
-/
import Derived.Test.YtefcciajemkicaaChecked
import GoSem.Claim
import GoSem.ClaimJoined
import GoSem.ClaimMapViews
import Derived.JoinedTies
import Derived.KernelRfl
namespace Go.Proofs.Ytefcciajemkicaa
/- THE CELL 'sum', in the pinned program and in every row, IS THE sha256 OF THE DUMP (.gsa) THAT YtefcciajemkicaaProg.lean LOADS. Nothing in Lean hashes anything: it is a label: what it is worth is what the hold of that sum in a sandbox is worth. -/
noncomputable def Try.pinned : Pinned := { name := "ytefcciajemkicaa", sum := "814e7a22108b1324a0b2bc72f1c13ec172804004fe560e5ea5705df209baf861", checked := Try.checked }
namespace Rows
def none {H : Type} : Left H := { results := [], args := [] }

/-- 'shapesearchlaw37.ProfileValid': WHATEVER THE INPUT: true; the input reads as it did. -/
def profileValidSpec : ChangeSpec := { name := "profileValid", fn := fun _ => fun
  | [d1, d2, d3, d4, d5, d6, d7] => { results := [.lit (.bool true)], args := [d1, d2, d3, d4, d5, d6, d7] }
  | _ => none }
def profileValidRow : OpenClaim := { program := "ytefcciajemkicaa", sum := "814e7a22108b1324a0b2bc72f1c13ec172804004fe560e5ea5705df209baf861", func := "shapesearch/shapesearchlaw37.ProfileValid", spec := "profileValid", unfollowed := true, recurses := true, apart := false }
def ProfileValidSaid : Prop := profileValidRow.holds Try.pinned (OpenSpec.ofChange profileValidSpec)

/-- ITS FALSE NEIGHBOUR: 'it returns false'. Refute it at one input. -/
def profileValidWrong : ChangeSpec := { name := "profileValid", fn := fun _ => fun
  | [d1, d2, d3, d4, d5, d6, d7] => { results := [.lit (.bool false)], args := [d1, d2, d3, d4, d5, d6, d7] }
  | _ => none }
def ProfileValidWrongFalsely : Prop := profileValidRow.holds Try.pinned (OpenSpec.ofChange profileValidWrong)

/-- 'shapesearchlaw37.ProfileNearest': WHATEVER THE INPUT: true; the input reads as it did. -/
def profileNearestSpec : ChangeSpec := { name := "profileNearest", fn := fun _ => fun
  | [d] => { results := [.lit (.bool true)], args := [d] }
  | _ => none }
def profileNearestRow : OpenClaim := { program := "ytefcciajemkicaa", sum := "814e7a22108b1324a0b2bc72f1c13ec172804004fe560e5ea5705df209baf861", func := "shapesearch/shapesearchlaw37.ProfileNearest", spec := "profileNearest", unfollowed := true, recurses := true, apart := false }
def ProfileNearestSaid : Prop := profileNearestRow.holds Try.pinned (OpenSpec.ofChange profileNearestSpec)

/-- ITS FALSE NEIGHBOUR: 'it returns false'. Refute it at one input. -/
def profileNearestWrong : ChangeSpec := { name := "profileNearest", fn := fun _ => fun
  | [d] => { results := [.lit (.bool false)], args := [d] }
  | _ => none }
def ProfileNearestWrongFalsely : Prop := profileNearestRow.holds Try.pinned (OpenSpec.ofChange profileNearestWrong)

/-- 'shapesearchlaw37.ProfileMutual': WHATEVER THE INPUT: true; the input reads as it did. -/
def profileMutualSpec : ChangeSpec := { name := "profileMutual", fn := fun _ => fun
  | [d1, d2] => { results := [.lit (.bool true)], args := [d1, d2] }
  | _ => none }
def profileMutualRow : OpenClaim := { program := "ytefcciajemkicaa", sum := "814e7a22108b1324a0b2bc72f1c13ec172804004fe560e5ea5705df209baf861", func := "shapesearch/shapesearchlaw37.ProfileMutual", spec := "profileMutual", unfollowed := true, recurses := true, apart := false }
def ProfileMutualSaid : Prop := profileMutualRow.holds Try.pinned (OpenSpec.ofChange profileMutualSpec)

/-- ITS FALSE NEIGHBOUR: 'it returns false'. Refute it at one input. -/
def profileMutualWrong : ChangeSpec := { name := "profileMutual", fn := fun _ => fun
  | [d1, d2] => { results := [.lit (.bool false)], args := [d1, d2] }
  | _ => none }
def ProfileMutualWrongFalsely : Prop := profileMutualRow.holds Try.pinned (OpenSpec.ofChange profileMutualWrong)

/-- 'shapesearchlaw37.ProfileMoved': WHATEVER THE INPUT: true; the input reads as it did. -/
def profileMovedSpec : ChangeSpec := { name := "profileMoved", fn := fun _ => fun
  | [d1, d2, d3] => { results := [.lit (.bool true)], args := [d1, d2, d3] }
  | _ => none }
def profileMovedRow : OpenClaim := { program := "ytefcciajemkicaa", sum := "814e7a22108b1324a0b2bc72f1c13ec172804004fe560e5ea5705df209baf861", func := "shapesearch/shapesearchlaw37.ProfileMoved", spec := "profileMoved", unfollowed := true, recurses := true, apart := false }
def ProfileMovedSaid : Prop := profileMovedRow.holds Try.pinned (OpenSpec.ofChange profileMovedSpec)

/-- ITS FALSE NEIGHBOUR: 'it returns false'. Refute it at one input. -/
def profileMovedWrong : ChangeSpec := { name := "profileMoved", fn := fun _ => fun
  | [d1, d2, d3] => { results := [.lit (.bool false)], args := [d1, d2, d3] }
  | _ => none }
def ProfileMovedWrongFalsely : Prop := profileMovedRow.holds Try.pinned (OpenSpec.ofChange profileMovedWrong)

/-- 'shapesearchlaw37.ProfileReversed': WHATEVER THE INPUT: true; the input reads as it did. -/
def profileReversedSpec : ChangeSpec := { name := "profileReversed", fn := fun _ => fun
  | [d] => { results := [.lit (.bool true)], args := [d] }
  | _ => none }
def profileReversedRow : OpenClaim := { program := "ytefcciajemkicaa", sum := "814e7a22108b1324a0b2bc72f1c13ec172804004fe560e5ea5705df209baf861", func := "shapesearch/shapesearchlaw37.ProfileReversed", spec := "profileReversed", unfollowed := true, recurses := true, apart := false }
def ProfileReversedSaid : Prop := profileReversedRow.holds Try.pinned (OpenSpec.ofChange profileReversedSpec)

/-- ITS FALSE NEIGHBOUR: 'it returns false'. Refute it at one input. -/
def profileReversedWrong : ChangeSpec := { name := "profileReversed", fn := fun _ => fun
  | [d] => { results := [.lit (.bool false)], args := [d] }
  | _ => none }
def ProfileReversedWrongFalsely : Prop := profileReversedRow.holds Try.pinned (OpenSpec.ofChange profileReversedWrong)

/- THE SECOND FORM. 'bulk': how many values and letters a reading holds, each counted each time it is reached (what is shared counts as often as it is met; a slice's spare places count too). A statement '..UptoSaid' is the law's where the arguments, and the package variables that the reading takes, are together of bulk at most 1048576: NARROWER than '..Said'. Prove '..Said' where nothing that the law and all that it calls make is longer than what came in: it says more and counts as full. Else prove '..UptoSaid'. A law counts once. -/
mutual
def uptoBulk {H : Type} : DataW H → Nat
  | .lit (.string bytes) => bytes.length + 1
  | .lit _ => 1
  | .nil => 1
  | .ptr d => uptoBulk d + 1
  | .slice elems spare => uptoBulkAll elems + uptoBulkAll spare + 1
  | .agg parts => uptoBulkAll parts + 1
  | .iface _ d => uptoBulk d + 1
  | .map entries => uptoBulkEntries entries + 1
  | .held _ => 1
def uptoBulkAll {H : Type} : List (DataW H) → Nat
  | [] => 0
  | d :: r => uptoBulk d + uptoBulkAll r
def uptoBulkEntries {H : Type} : List (Lit × DataW H) → Nat
  | [] => 0
  | x :: r => uptoBulkEntry x + uptoBulkEntries r
def uptoBulkEntry {H : Type} : Lit × DataW H → Nat
  | (.string bytes, d) => bytes.length + uptoBulk d + 1
  | (_, d) => uptoBulk d + 1
 end
def uptoSmall : (H : Type) → List (DataW H) → Bool := fun _ ds => decide (uptoBulkAll ds ≤ 1048576)
def OpenSpec.upto (s : _root_.Go.ChangeSpec) : _root_.Go.OpenSpec := { _root_.Go.OpenSpec.ofChange s with cond := some uptoSmall }

/-- 'shapesearchlaw37.ProfileValid', WHERE WHAT IT READS IS OF BULK AT MOST 1048576: true; the input reads as it did. -/
def profileValidUptoRow : OpenClaim := { program := "ytefcciajemkicaa", sum := "814e7a22108b1324a0b2bc72f1c13ec172804004fe560e5ea5705df209baf861", func := "shapesearch/shapesearchlaw37.ProfileValid", spec := "profileValid", unfollowed := true, recurses := true, apart := false, narrowed := true }
def ProfileValidUptoSaid : Prop := profileValidUptoRow.holds Try.pinned (OpenSpec.upto profileValidSpec)

/-- 'shapesearchlaw37.ProfileNearest', WHERE WHAT IT READS IS OF BULK AT MOST 1048576: true; the input reads as it did. -/
def profileNearestUptoRow : OpenClaim := { program := "ytefcciajemkicaa", sum := "814e7a22108b1324a0b2bc72f1c13ec172804004fe560e5ea5705df209baf861", func := "shapesearch/shapesearchlaw37.ProfileNearest", spec := "profileNearest", unfollowed := true, recurses := true, apart := false, narrowed := true }
def ProfileNearestUptoSaid : Prop := profileNearestUptoRow.holds Try.pinned (OpenSpec.upto profileNearestSpec)

/-- 'shapesearchlaw37.ProfileMutual', WHERE WHAT IT READS IS OF BULK AT MOST 1048576: true; the input reads as it did. -/
def profileMutualUptoRow : OpenClaim := { program := "ytefcciajemkicaa", sum := "814e7a22108b1324a0b2bc72f1c13ec172804004fe560e5ea5705df209baf861", func := "shapesearch/shapesearchlaw37.ProfileMutual", spec := "profileMutual", unfollowed := true, recurses := true, apart := false, narrowed := true }
def ProfileMutualUptoSaid : Prop := profileMutualUptoRow.holds Try.pinned (OpenSpec.upto profileMutualSpec)

/-- 'shapesearchlaw37.ProfileMoved', WHERE WHAT IT READS IS OF BULK AT MOST 1048576: true; the input reads as it did. -/
def profileMovedUptoRow : OpenClaim := { program := "ytefcciajemkicaa", sum := "814e7a22108b1324a0b2bc72f1c13ec172804004fe560e5ea5705df209baf861", func := "shapesearch/shapesearchlaw37.ProfileMoved", spec := "profileMoved", unfollowed := true, recurses := true, apart := false, narrowed := true }
def ProfileMovedUptoSaid : Prop := profileMovedUptoRow.holds Try.pinned (OpenSpec.upto profileMovedSpec)

/-- 'shapesearchlaw37.ProfileReversed', WHERE WHAT IT READS IS OF BULK AT MOST 1048576: true; the input reads as it did. -/
def profileReversedUptoRow : OpenClaim := { program := "ytefcciajemkicaa", sum := "814e7a22108b1324a0b2bc72f1c13ec172804004fe560e5ea5705df209baf861", func := "shapesearch/shapesearchlaw37.ProfileReversed", spec := "profileReversed", unfollowed := true, recurses := true, apart := false, narrowed := true }
def ProfileReversedUptoSaid : Prop := profileReversedUptoRow.holds Try.pinned (OpenSpec.upto profileReversedSpec)

end Rows
end Go.Proofs.Ytefcciajemkicaa
