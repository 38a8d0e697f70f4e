import Derived.Test.YtknkiogjibpooaaProg
import Derived.KernelRfl
import Derived.Test.YtknkiogjibpooaaViC
set_option linter.unusedVariables false
namespace Go.Proofs.Ytknkiogjibpooaa.V
open Go.VI
def T : Tb := [(3, ⟨.int .i64, 1, 8, some (.int .i64), true⟩),
  (4, ⟨.bool, 1, 1, some .bool, true⟩),
  (22, ⟨.slice 3, 1, 24, some (.list (.int .i64)), false⟩),
  (23, ⟨.ptr 58, 1, 8, none, false⟩),
  (26, ⟨.fn, 1, 8, none, false⟩),
  (27, ⟨.struct [(0, 22), (1, 22)], 2, 48, some (.pair (.list (.int .i64)) (.list (.int .i64))), false⟩),
  (28, ⟨.struct [(0, 22), (1, 22)], 2, 48, some (.pair (.list (.int .i64)) (.list (.int .i64))), false⟩),
  (29, ⟨.int .i64, 1, 8, some (.int .i64), true⟩),
  (32, ⟨.struct [(0, 3), (1, 3), (2, 3)], 3, 24, some (.pair (.int .i64) (.pair (.int .i64) (.int .i64))), true⟩),
  (33, ⟨.struct [(0, 3), (1, 3), (2, 3)], 3, 24, some (.pair (.int .i64) (.pair (.int .i64) (.int .i64))), true⟩),
  (43, ⟨.slice 22, 1, 24, some (.list (.list (.int .i64))), false⟩),
  (45, ⟨.slice 33, 1, 24, some (.list (.pair (.int .i64) (.pair (.int .i64) (.int .i64)))), false⟩),
  (50, ⟨.slice 28, 1, 24, some (.list (.pair (.list (.int .i64)) (.list (.int .i64)))), false⟩),
  (51, ⟨.arr 2 3, 2, 16, some (.pair (.int .i64) (.int .i64)), false⟩),
  (52, ⟨.slice 51, 1, 24, some (.list (.pair (.int .i64) (.int .i64))), false⟩),
  (57, ⟨.struct [(0, 22), (1, 3)], 2, 32, some (.pair (.list (.int .i64)) (.int .i64)), false⟩),
  (58, ⟨.struct [(0, 22), (1, 3)], 2, 32, some (.pair (.list (.int .i64)) (.int .i64)), false⟩)]
theorem tb : tbOk Go.Proofs.Try.prog T = true := by kernel_rfl
def Gt : Nat → Option (Go.IntKind × List Int) := fun g => none
def TabsOk (tabs : List (Nat × Go.Obj)) : Prop := True
theorem gt_ok {tabs : List (Nat × Go.Obj)} (ht : TabsOk tabs) : ∀ g k zs, Gt g = some (k, zs) → TabHas tabs g k zs := by
  intro g k zs h; cases h

/-! window_sample: shapesearch/window.sample -/
noncomputable def window_sample.c : Go.Code := Go.Proofs.Try.f29.body.getD .skip
@[reducible] def window_sample.sh : Sh := ⟨[.one (.pv (.int .i64))], []⟩
@[reducible] def window_sample.osh : Sh := ⟨[.one (.pv .bool)], []⟩
def window_sample.hs : List Hint := []
def window_sample.E : Env := ⟨T, fun n ks => none, fun n => none, 9, 0, Gt⟩

/-! window_Of_1: shapesearch/window.Of$1 -/
noncomputable def window_Of_1.c : Go.Code := Go.Proofs.Try.f31.body.getD .skip
@[reducible] def window_Of_1.sh : Sh := ⟨[.one (.pv (.int .i64)), .one (.pv (.int .i64))], []⟩
@[reducible] def window_Of_1.osh : Sh := ⟨[.one (.pv (.int .i64))], []⟩
def window_Of_1.hs : List Hint := []
def window_Of_1.E : Env := ⟨T, fun n ks => none, fun n => none, 8, 0, Gt⟩

/-! window_fold: shapesearch/window.fold[int] -/
noncomputable def window_fold.c : Go.Code := Go.Proofs.Try.f30.body.getD .skip
@[reducible] def window_fold.sh : Sh := ⟨[.one (.pv (.list (.int .i64))), .one (.pv (.int .i64)), .one (.is (.fn 31 []))], []⟩
@[reducible] def window_fold.osh : Sh := ⟨[.one (.is (.own 0))], [.row 3 (.int .i64)]⟩
@[reducible] def window_fold.s0 : Sh := ⟨[.one (.is (.fn 31 [])), .one (.is (.own 0)), .one (.pv (.list (.int .i64))), .one (.pv (.int .i64)), .one (.pv (.int .i64))], [.row 3 (.int .i64)]⟩
@[reducible] def window_fold.x0 : List (Ex × Sh) := [(.exit 0, ⟨[.one (.is (.own 0))], [.row 3 (.int .i64)]⟩)]
def window_fold.hs : List Hint := [⟨[0, 1, 0, 1, 1], 0, [2, 7, 12, 13, 14], [(2, [7])]⟩]
def window_fold.E (g_window_Of_1 : window_Of_1.sh.X → Option window_Of_1.osh.X) (l0 : ((Unit × Unit × (List Int) × Int × Int × Unit) × ((List Int) × Unit)) → Option (((Unit × Unit) × ((List Int) × Unit)) ⊕ Empty)) : Env := ⟨T, fun n ks => bif Nat.beq n 31 && eqPath ks [] then some (FE.of [true, true] false window_Of_1.sh window_Of_1.osh g_window_Of_1) else none, fun n => bif Nat.beq n 0 then some (LE.of window_fold.s0 window_fold.x0 l0) else none, 32, 0, Gt⟩

/-! window_Of_2: shapesearch/window.Of$2 -/
noncomputable def window_Of_2.c : Go.Code := Go.Proofs.Try.f32.body.getD .skip
@[reducible] def window_Of_2.sh : Sh := ⟨[.one (.pv (.int .i64)), .one (.pv (.int .i64))], []⟩
@[reducible] def window_Of_2.osh : Sh := ⟨[.one (.pv (.int .i64))], []⟩
def window_Of_2.hs : List Hint := []
def window_Of_2.E : Env := ⟨T, fun n ks => none, fun n => none, 10, 0, Gt⟩

/-! window_fold_2: shapesearch/window.fold[int] -/
noncomputable def window_fold_2.c : Go.Code := Go.Proofs.Try.f30.body.getD .skip
@[reducible] def window_fold_2.sh : Sh := ⟨[.one (.pv (.list (.int .i64))), .one (.pv (.int .i64)), .one (.is (.fn 32 []))], []⟩
@[reducible] def window_fold_2.osh : Sh := ⟨[.one (.is (.own 0))], [.row 3 (.int .i64)]⟩
@[reducible] def window_fold_2.s0 : Sh := ⟨[.one (.is (.fn 32 [])), .one (.is (.own 0)), .one (.pv (.list (.int .i64))), .one (.pv (.int .i64)), .one (.pv (.int .i64))], [.row 3 (.int .i64)]⟩
@[reducible] def window_fold_2.x0 : List (Ex × Sh) := [(.exit 0, ⟨[.one (.is (.own 0))], [.row 3 (.int .i64)]⟩)]
def window_fold_2.hs : List Hint := [⟨[0, 1, 0, 1, 1], 0, [2, 7, 12, 13, 14], [(2, [7])]⟩]
def window_fold_2.E (g_window_Of_2 : window_Of_2.sh.X → Option window_Of_2.osh.X) (l0 : ((Unit × Unit × (List Int) × Int × Int × Unit) × ((List Int) × Unit)) → Option (((Unit × Unit) × ((List Int) × Unit)) ⊕ Empty)) : Env := ⟨T, fun n ks => bif Nat.beq n 32 && eqPath ks [] then some (FE.of [true, true] false window_Of_2.sh window_Of_2.osh g_window_Of_2) else none, fun n => bif Nat.beq n 0 then some (LE.of window_fold_2.s0 window_fold_2.x0 l0) else none, 32, 0, Gt⟩

/-! window_Of: shapesearch/window.Of -/
noncomputable def window_Of.c : Go.Code := Go.Proofs.Try.f13.body.getD .skip
@[reducible] def window_Of.sh : Sh := ⟨[.one (.pv (.list (.int .i64)))], []⟩
@[reducible] def window_Of.osh : Sh := ⟨[.agg [.is (.own 0), .is (.own 1)], .one (.pv (.int .i64))], [.row 3 (.int .i64), .row 3 (.int .i64)]⟩
@[reducible] def window_Of.s0 : Sh := ⟨[.one (.pv (.list (.int .i64))), .one (.is (.ptr 0 0 0)), .one (.pv (.list (.int .i64))), .one (.pv (.int .i64)), .one (.pv (.int .i64))], [.box [.is .nils, .is .nils]]⟩
@[reducible] def window_Of.x0 : List (Ex × Sh) := [(.exit 0, ⟨[.one (.pv (.list (.int .i64))), .one (.is (.ptr 0 0 0))], [.box [.is .nils, .is .nils]]⟩), (.ret, ⟨[.one (.is (.ptr 0 0 0)), .one (.pv (.int .i64))], [.box [.is .nils, .is .nils]]⟩)]
def window_Of.hs : List Hint := [⟨[0, 1, 0, 1, 1], 0, [0, 2, 10, 11, 12], [(2, [0, 2]), (1, [2, 3])]⟩]
def window_Of.E (g_window_sample : window_sample.sh.X → Option window_sample.osh.X) (g_window_fold : window_fold.sh.X → Option window_fold.osh.X) (g_window_fold_2 : window_fold_2.sh.X → Option window_fold_2.osh.X) (l0 : (((List Int) × Unit × (List Int) × Int × Int × Unit) × ((Unit × Unit × Unit) × Unit)) → Option ((((List Int) × Unit × Unit) × ((Unit × Unit × Unit) × Unit)) ⊕ ((Unit × Int × Unit) × ((Unit × Unit × Unit) × Unit)) ⊕ Empty)) : Env := ⟨T, fun n ks => bif Nat.beq n 29 && eqPath ks [] then some (FE.of [true] false window_sample.sh window_sample.osh g_window_sample) else bif Nat.beq n 30 && eqPath ks [31] then some (FE.of [true, true, true] false window_fold.sh window_fold.osh g_window_fold) else bif Nat.beq n 30 && eqPath ks [32] then some (FE.of [true, true, true] false window_fold_2.sh window_fold_2.osh g_window_fold_2) else none, fun n => bif Nat.beq n 0 then some (LE.of window_Of.s0 window_Of.x0 l0) else none, 26, 0, Gt⟩

/-! window_valid: shapesearch/window.valid -/
noncomputable def window_valid.c : Go.Code := Go.Proofs.Try.f33.body.getD .skip
@[reducible] def window_valid.sh : Sh := ⟨[.agg [.pv (.list (.int .i64)), .pv (.list (.int .i64))]], []⟩
@[reducible] def window_valid.osh : Sh := ⟨[.one (.pv .bool)], []⟩
@[reducible] def window_valid.s0 : Sh := ⟨[.one (.is (.ptr 0 0 0)), .one (.pv (.int .i64))], [.box [.pv (.list (.int .i64)), .pv (.list (.int .i64))]]⟩
@[reducible] def window_valid.x0 : List (Ex × Sh) := [(.normal, ⟨[.one (.is (.ptr 0 0 0)), .one (.pv (.int .i64)), .one (.pv .bool)], [.box [.pv (.list (.int .i64)), .pv (.list (.int .i64))]]⟩)]
@[reducible] def window_valid.s1 : Sh := ⟨[.one (.is (.ptr 0 0 0)), .one (.pv (.int .i64)), .one (.pv (.int .i64))], [.box [.pv (.list (.int .i64)), .pv (.list (.int .i64))]]⟩
@[reducible] def window_valid.x1 : List (Ex × Sh) := [(.exit 0, ⟨[], []⟩), (.ret, ⟨[.one (.pv .bool)], []⟩)]
def window_valid.hs : List Hint := [⟨[0, 0, 1, 1], 0, [1, 3], [(0, [1, 3, 35])]⟩, ⟨[0, 1, 0, 1, 1, 1], 1, [1, 3, 4], [(2, []), (1, [2])]⟩]
def window_valid.E (g_window_sample : window_sample.sh.X → Option window_sample.osh.X) (l0 : ((Unit × Int × Unit) × (((List Int) × (List Int) × Unit) × Unit)) → Option (((Unit × Int × Bool × Unit) × (((List Int) × (List Int) × Unit) × Unit)) ⊕ Empty)) (l1 : ((Unit × Int × Int × Unit) × (((List Int) × (List Int) × Unit) × Unit)) → Option (((Unit) × (Unit)) ⊕ ((Bool × Unit) × (Unit)) ⊕ Empty)) : Env := ⟨T, fun n ks => bif Nat.beq n 29 && eqPath ks [] then some (FE.of [true] false window_sample.sh window_sample.osh g_window_sample) else none, fun n => bif Nat.beq n 0 then some (LE.of window_valid.s0 window_valid.x0 l0) else bif Nat.beq n 1 then some (LE.of window_valid.s1 window_valid.x1 l1) else none, 74, 0, Gt⟩

/-! window_between: shapesearch/window.between -/
noncomputable def window_between.c : Go.Code := Go.Proofs.Try.f34.body.getD .skip
@[reducible] def window_between.sh : Sh := ⟨[.agg [.pv (.list (.int .i64)), .pv (.list (.int .i64))], .one (.pv (.int .i64)), .one (.pv (.int .i64))], []⟩
@[reducible] def window_between.osh : Sh := ⟨[.agg [.pv (.int .i64), .pv (.int .i64), .pv (.int .i64)]], []⟩
def window_between.hs : List Hint := []
def window_between.E : Env := ⟨T, fun n ks => none, fun n => none, 35, 0, Gt⟩

/-! window_Stats: shapesearch/window.Stats -/
noncomputable def window_Stats.c : Go.Code := Go.Proofs.Try.f14.body.getD .skip
@[reducible] def window_Stats.sh : Sh := ⟨[.agg [.pv (.list (.int .i64)), .pv (.list (.int .i64))], .one (.pv (.int .i64)), .one (.pv (.int .i64))], []⟩
@[reducible] def window_Stats.osh : Sh := ⟨[.agg [.pv (.int .i64), .pv (.int .i64), .pv (.int .i64)], .one (.pv (.int .i64))], []⟩
@[reducible] def window_Stats.s0 : Sh := ⟨[.one (.pv (.int .i64)), .one (.pv (.int .i64)), .one (.is (.ptr 0 0 0)), .one (.is (.ptr 1 0 0)), .one (.pv (.int .i64))], [.box [.pv (.list (.int .i64)), .pv (.list (.int .i64))], .box [.pv (.int .i64), .pv (.int .i64), .pv (.int .i64)]]⟩
@[reducible] def window_Stats.x0 : List (Ex × Sh) := [(.normal, ⟨[.one (.pv (.int .i64)), .one (.pv (.int .i64)), .one (.is (.ptr 0 0 0)), .one (.is (.ptr 1 0 0)), .one (.pv .bool)], [.box [.pv (.list (.int .i64)), .pv (.list (.int .i64))], .box [.pv (.int .i64), .pv (.int .i64), .pv (.int .i64)]]⟩)]
def window_Stats.hs : List Hint := [⟨[0, 0, 1, 1, 1], 0, [1, 2, 3, 6, 8], [(0, [1, 2, 3, 6, 34])]⟩]
def window_Stats.E (g_window_valid : window_valid.sh.X → Option window_valid.osh.X) (g_window_between : window_between.sh.X → Option window_between.osh.X) (l0 : ((Int × Int × Unit × Unit × Int × Unit) × (((List Int) × (List Int) × Unit) × (Int × Int × Int × Unit) × Unit)) → Option (((Int × Int × Unit × Unit × Bool × Unit) × (((List Int) × (List Int) × Unit) × (Int × Int × Int × Unit) × Unit)) ⊕ Empty)) : Env := ⟨T, fun n ks => bif Nat.beq n 33 && eqPath ks [] then some (FE.of [true] false window_valid.sh window_valid.osh g_window_valid) else bif Nat.beq n 34 && eqPath ks [] then some (FE.of [true, true, true] false window_between.sh window_between.osh g_window_between) else none, fun n => bif Nat.beq n 0 then some (LE.of window_Stats.s0 window_Stats.x0 l0) else none, 40, 0, Gt⟩

/-! keep_Ints: shapesearch/shapesearchkeep.Ints -/
noncomputable def keep_Ints.c : Go.Code := Go.Proofs.Try.f35.body.getD .skip
@[reducible] def keep_Ints.sh : Sh := ⟨[.one (.pv (.list (.int .i64))), .one (.pv (.list (.int .i64)))], []⟩
@[reducible] def keep_Ints.osh : Sh := ⟨[.one (.pv .bool)], []⟩
@[reducible] def keep_Ints.s0 : Sh := ⟨[.one (.pv (.list (.int .i64))), .one (.pv (.list (.int .i64))), .one (.pv (.int .i64)), .one (.pv (.int .i64))], []⟩
@[reducible] def keep_Ints.x0 : List (Ex × Sh) := [(.exit 0, ⟨[], []⟩), (.ret, ⟨[.one (.pv .bool)], []⟩)]
def keep_Ints.hs : List Hint := [⟨[0, 1, 0, 1, 1], 0, [0, 1, 12, 13], [(2, []), (1, [4])]⟩]
def keep_Ints.E (l0 : (((List Int) × (List Int) × Int × Int × Unit) × (Unit)) → Option (((Unit) × (Unit)) ⊕ ((Bool × Unit) × (Unit)) ⊕ Empty)) : Env := ⟨T, fun n ks => none, fun n => bif Nat.beq n 0 then some (LE.of keep_Ints.s0 keep_Ints.x0 l0) else none, 26, 0, Gt⟩

/-! window_Variance: shapesearch/window.Variance -/
noncomputable def window_Variance.c : Go.Code := Go.Proofs.Try.f17.body.getD .skip
@[reducible] def window_Variance.sh : Sh := ⟨[.agg [.pv (.int .i64), .pv (.int .i64), .pv (.int .i64)]], []⟩
@[reducible] def window_Variance.osh : Sh := ⟨[.one (.pv (.int .i64))], []⟩
@[reducible] def window_Variance.s0 : Sh := ⟨[.one (.is (.ptr 0 0 0))], [.box [.pv (.int .i64), .pv (.int .i64), .pv (.int .i64)]]⟩
@[reducible] def window_Variance.x0 : List (Ex × Sh) := [(.normal, ⟨[.one (.is (.ptr 0 0 0)), .one (.pv .bool)], [.box [.pv (.int .i64), .pv (.int .i64), .pv (.int .i64)]]⟩)]
def window_Variance.hs : List Hint := [⟨[0, 0, 1], 0, [1], [(0, [1, 39])]⟩]
def window_Variance.E (l0 : ((Unit × Unit) × ((Int × Int × Int × Unit) × Unit)) → Option (((Unit × Bool × Unit) × ((Int × Int × Int × Unit) × Unit)) ⊕ Empty)) : Env := ⟨T, fun n ks => none, fun n => bif Nat.beq n 0 then some (LE.of window_Variance.s0 window_Variance.x0 l0) else none, 52, 0, Gt⟩

/-! law11_awake: shapesearch/shapesearchlaw11.awake -/
noncomputable def law11_awake.c : Go.Code := Go.Proofs.Try.f15.body.getD .skip
@[reducible] def law11_awake.sh : Sh := ⟨[], []⟩
@[reducible] def law11_awake.osh : Sh := ⟨[.one (.pv .bool)], []⟩
@[reducible] def law11_awake.s0 : Sh := ⟨[.one (.is (.ptr 0 0 0)), .one (.pv (.int .i64)), .one (.is (.ptr 1 0 0)), .one (.pv (.int .i64))], [.box [.is (.own 2), .is (.own 3)], .box [.pv (.int .i64), .pv (.int .i64), .pv (.int .i64)], .row 3 (.int .i64), .row 3 (.int .i64)]⟩
@[reducible] def law11_awake.x0 : List (Ex × Sh) := [(.normal, ⟨[.one (.pv .bool)], []⟩)]
def law11_awake.hs : List Hint := [⟨[0, 1, 1, 1], 0, [1, 2, 3, 4], [(0, [0])]⟩]
def law11_awake.E (g_window_Of : window_Of.sh.X → Option window_Of.osh.X) (g_window_Stats : window_Stats.sh.X → Option window_Stats.osh.X) (g_keep_Ints : keep_Ints.sh.X → Option keep_Ints.osh.X) (g_window_Variance : window_Variance.sh.X → Option window_Variance.osh.X) (l0 : ((Unit × Int × Unit × Int × Unit) × ((Unit × Unit × Unit) × (Int × Int × Int × Unit) × (List Int) × (List Int) × Unit)) → Option (((Bool × Unit) × (Unit)) ⊕ Empty)) : Env := ⟨T, fun n ks => bif Nat.beq n 13 && eqPath ks [] then some (FE.of [true] false window_Of.sh window_Of.osh g_window_Of) else bif Nat.beq n 14 && eqPath ks [] then some (FE.of [true, true, true] false window_Stats.sh window_Stats.osh g_window_Stats) else bif Nat.beq n 35 && eqPath ks [] then some (FE.of [true, true] false keep_Ints.sh keep_Ints.osh g_keep_Ints) else bif Nat.beq n 17 && eqPath ks [] then some (FE.of [true] false window_Variance.sh window_Variance.osh g_window_Variance) else none, fun n => bif Nat.beq n 0 then some (LE.of law11_awake.s0 law11_awake.x0 l0) else none, 37, 0, Gt⟩

/-! keep_New: shapesearch/shapesearchkeep.New -/
noncomputable def keep_New.c : Go.Code := Go.Proofs.Try.f9.body.getD .skip
@[reducible] def keep_New.sh : Sh := ⟨[.one (.pv (.list (.int .i64)))], []⟩
@[reducible] def keep_New.osh : Sh := ⟨[.one (.is (.ptr 0 0 0))], [.box [.pv (.list (.int .i64)), .pv (.int .i64)]]⟩
def keep_New.hs : List Hint := []
def keep_New.E : Env := ⟨T, fun n ks => none, fun n => none, 10, 0, Gt⟩

/-! keep_Src_Raw: (*shapesearch/shapesearchkeep.Src).Raw -/
noncomputable def keep_Src_Raw.c : Go.Code := Go.Proofs.Try.f36.body.getD .skip
@[reducible] def keep_Src_Raw.sh : Sh := ⟨[.one (.is (.ptr 0 0 0))], [.box [.pv (.list (.int .i64)), .pv (.int .i64)]]⟩
@[reducible] def keep_Src_Raw.osh : Sh := ⟨[.one (.pv (.int .i64))], [.box [.pv (.list (.int .i64)), .pv (.int .i64)]]⟩
def keep_Src_Raw.hs : List Hint := []
def keep_Src_Raw.E : Env := ⟨T, fun n ks => none, fun n => none, 31, 1, Gt⟩

/-! keep_Mod: shapesearch/shapesearchkeep.Mod -/
noncomputable def keep_Mod.c : Go.Code := Go.Proofs.Try.f12.body.getD .skip
@[reducible] def keep_Mod.sh : Sh := ⟨[.one (.pv (.int .i64)), .one (.pv (.int .i64))], []⟩
@[reducible] def keep_Mod.osh : Sh := ⟨[.one (.pv (.int .i64))], []⟩
def keep_Mod.hs : List Hint := []
def keep_Mod.E : Env := ⟨T, fun n ks => none, fun n => none, 16, 0, Gt⟩

/-! keep_Src_N: (*shapesearch/shapesearchkeep.Src).N -/
noncomputable def keep_Src_N.c : Go.Code := Go.Proofs.Try.f18.body.getD .skip
@[reducible] def keep_Src_N.sh : Sh := ⟨[.one (.is (.ptr 0 0 0)), .one (.pv (.int .i64))], [.box [.pv (.list (.int .i64)), .pv (.int .i64)]]⟩
@[reducible] def keep_Src_N.osh : Sh := ⟨[.one (.pv (.int .i64))], [.box [.pv (.list (.int .i64)), .pv (.int .i64)]]⟩
def keep_Src_N.hs : List Hint := []
def keep_Src_N.E (g_keep_Src_Raw : keep_Src_Raw.sh.X → Option keep_Src_Raw.osh.X) (g_keep_Mod : keep_Mod.sh.X → Option keep_Mod.osh.X) : Env := ⟨T, fun n ks => bif Nat.beq n 36 && eqPath ks [] then some (FE.of [true] true keep_Src_Raw.sh keep_Src_Raw.osh g_keep_Src_Raw) else bif Nat.beq n 12 && eqPath ks [] then some (FE.of [true, true] false keep_Mod.sh keep_Mod.osh g_keep_Mod) else none, fun n => none, 9, 1, Gt⟩

/-! keep_Src_Pick: (*shapesearch/shapesearchkeep.Src).Pick -/
noncomputable def keep_Src_Pick.c : Go.Code := Go.Proofs.Try.f25.body.getD .skip
@[reducible] def keep_Src_Pick.sh : Sh := ⟨[.one (.is (.ptr 0 0 0)), .one (.pv (.list (.int .i64)))], [.box [.pv (.list (.int .i64)), .pv (.int .i64)]]⟩
@[reducible] def keep_Src_Pick.osh : Sh := ⟨[.one (.pv (.int .i64))], [.box [.pv (.list (.int .i64)), .pv (.int .i64)]]⟩
def keep_Src_Pick.hs : List Hint := []
def keep_Src_Pick.E (g_keep_Src_N : keep_Src_N.sh.X → Option keep_Src_N.osh.X) : Env := ⟨T, fun n ks => bif Nat.beq n 18 && eqPath ks [] then some (FE.of [true, true] true keep_Src_N.sh keep_Src_N.osh g_keep_Src_N) else none, fun n => none, 12, 1, Gt⟩

/-! keep_Src_Range: (*shapesearch/shapesearchkeep.Src).Range -/
noncomputable def keep_Src_Range.c : Go.Code := Go.Proofs.Try.f11.body.getD .skip
@[reducible] def keep_Src_Range.sh : Sh := ⟨[.one (.is (.ptr 0 0 0)), .one (.pv (.int .i64)), .one (.pv (.int .i64))], [.box [.pv (.list (.int .i64)), .pv (.int .i64)]]⟩
@[reducible] def keep_Src_Range.osh : Sh := ⟨[.one (.pv (.int .i64))], [.box [.pv (.list (.int .i64)), .pv (.int .i64)]]⟩
def keep_Src_Range.hs : List Hint := []
def keep_Src_Range.E (g_keep_Src_N : keep_Src_N.sh.X → Option keep_Src_N.osh.X) : Env := ⟨T, fun n ks => bif Nat.beq n 18 && eqPath ks [] then some (FE.of [true, true] true keep_Src_N.sh keep_Src_N.osh g_keep_Src_N) else none, fun n => none, 15, 1, Gt⟩

/-! keep_clip: shapesearch/shapesearchkeep.clip -/
noncomputable def keep_clip.c : Go.Code := Go.Proofs.Try.f28.body.getD .skip
@[reducible] def keep_clip.sh : Sh := ⟨[.one (.pv (.int .i64))], []⟩
@[reducible] def keep_clip.osh : Sh := ⟨[.one (.pv (.int .i64))], []⟩
def keep_clip.hs : List Hint := []
def keep_clip.E : Env := ⟨T, fun n ks => none, fun n => none, 6, 0, Gt⟩

/-! keep_Src_List: (*shapesearch/shapesearchkeep.Src).List -/
noncomputable def keep_Src_List.c : Go.Code := Go.Proofs.Try.f10.body.getD .skip
@[reducible] def keep_Src_List.sh : Sh := ⟨[.one (.is (.ptr 0 0 0)), .one (.pv (.int .i64))], [.box [.pv (.list (.int .i64)), .pv (.int .i64)]]⟩
@[reducible] def keep_Src_List.osh : Sh := ⟨[.one (.is (.own 1))], [.box [.pv (.list (.int .i64)), .pv (.int .i64)], .row 3 (.int .i64)]⟩
@[reducible] def keep_Src_List.s0 : Sh := ⟨[.one (.is (.ptr 0 0 0)), .one (.pv (.int .i64)), .one (.pv (.int .i64)), .one (.pv (.int .i64)), .one (.pv (.int .i64)), .one (.pv .bool)], [.box [.pv (.list (.int .i64)), .pv (.int .i64)]]⟩
@[reducible] def keep_Src_List.x0 : List (Ex × Sh) := [(.normal, ⟨[.one (.is (.ptr 0 0 0)), .one (.pv (.int .i64)), .one (.pv (.int .i64)), .one (.pv (.int .i64)), .one (.pv (.int .i64))], [.box [.pv (.list (.int .i64)), .pv (.int .i64)]]⟩)]
@[reducible] def keep_Src_List.s1 : Sh := ⟨[.one (.is (.ptr 0 0 0)), .one (.pv (.int .i64)), .one (.pv (.int .i64)), .one (.pv (.int .i64)), .one (.pv (.int .i64)), .one (.is (.own 1)), .one (.pv (.int .i64))], [.box [.pv (.list (.int .i64)), .pv (.int .i64)], .row 3 (.int .i64)]⟩
@[reducible] def keep_Src_List.x1 : List (Ex × Sh) := [(.exit 0, ⟨[.one (.is (.own 1))], [.box [.pv (.list (.int .i64)), .pv (.int .i64)], .row 3 (.int .i64)]⟩)]
@[reducible] def keep_Src_List.s2 : Sh := ⟨[.one (.is (.ptr 0 0 0)), .one (.pv (.int .i64)), .one (.pv (.int .i64)), .one (.pv (.int .i64)), .one (.pv (.int .i64)), .one (.is (.own 1)), .one (.pv (.int .i64)), .one (.pv (.int .i64)), .one (.pv .bool)], [.box [.pv (.list (.int .i64)), .pv (.int .i64)], .row 3 (.int .i64)]⟩
@[reducible] def keep_Src_List.x2 : List (Ex × Sh) := [(.normal, ⟨[.one (.is (.ptr 0 0 0)), .one (.pv (.int .i64)), .one (.pv (.int .i64)), .one (.pv (.int .i64)), .one (.pv (.int .i64)), .one (.is (.own 1)), .one (.pv (.int .i64)), .one (.pv (.int .i64)), .one (.pv .bool)], [.box [.pv (.list (.int .i64)), .pv (.int .i64)], .row 3 (.int .i64)]⟩)]
@[reducible] def keep_Src_List.s3 : Sh := ⟨[.one (.is (.ptr 0 0 0)), .one (.pv (.int .i64)), .one (.pv (.int .i64)), .one (.pv (.int .i64)), .one (.pv (.int .i64)), .one (.is (.own 1)), .one (.pv (.int .i64)), .one (.pv (.int .i64)), .one (.pv .bool)], [.box [.pv (.list (.int .i64)), .pv (.int .i64)], .row 3 (.int .i64)]⟩
@[reducible] def keep_Src_List.x3 : List (Ex × Sh) := [(.normal, ⟨[.one (.is (.ptr 0 0 0)), .one (.pv (.int .i64)), .one (.pv (.int .i64)), .one (.pv (.int .i64)), .one (.pv (.int .i64)), .one (.is (.own 1)), .one (.pv (.int .i64)), .one (.pv (.int .i64)), .one (.pv .bool)], [.box [.pv (.list (.int .i64)), .pv (.int .i64)], .row 3 (.int .i64)]⟩)]
def keep_Src_List.hs : List Hint := [⟨[1, 0, 1, 1], 0, [0, 1, 5, 6, 7, 17], [(0, [0, 1, 5, 6, 7])]⟩, ⟨[0, 1, 0, 1, 1, 1, 1], 1, [0, 1, 5, 6, 7, 8, 9], [(2, [8])]⟩, ⟨[1, 0, 0, 1, 0, 0, 1, 0, 0, 1, 0, 1, 1, 1, 1], 2, [0, 1, 5, 6, 7, 8, 9, 25, 32], [(0, [0, 1, 5, 6, 7, 8, 9, 25, 32])]⟩, ⟨[1, 0, 1, 1, 0, 1, 0, 0, 1, 0, 0, 1, 0, 1, 1, 1, 1], 3, [0, 1, 5, 6, 7, 8, 9, 25, 43], [(0, [0, 1, 5, 6, 7, 8, 9, 25, 43])]⟩]
def keep_Src_List.E (g_keep_Src_N : keep_Src_N.sh.X → Option keep_Src_N.osh.X) (g_keep_Src_Pick : keep_Src_Pick.sh.X → Option keep_Src_Pick.osh.X) (g_keep_Src_Range : keep_Src_Range.sh.X → Option keep_Src_Range.osh.X) (g_keep_clip : keep_clip.sh.X → Option keep_clip.osh.X) (l0 : ((Unit × Int × Int × Int × Int × Bool × Unit) × (((List Int) × Int × Unit) × Unit)) → Option (((Unit × Int × Int × Int × Int × Unit) × (((List Int) × Int × Unit) × Unit)) ⊕ Empty)) (l1 : ((Unit × Int × Int × Int × Int × Unit × Int × Unit) × (((List Int) × Int × Unit) × (List Int) × Unit)) → Option (((Unit × Unit) × (((List Int) × Int × Unit) × (List Int) × Unit)) ⊕ Empty)) (l2 : ((Unit × Int × Int × Int × Int × Unit × Int × Int × Bool × Unit) × (((List Int) × Int × Unit) × (List Int) × Unit)) → Option (((Unit × Int × Int × Int × Int × Unit × Int × Int × Bool × Unit) × (((List Int) × Int × Unit) × (List Int) × Unit)) ⊕ Empty)) (l3 : ((Unit × Int × Int × Int × Int × Unit × Int × Int × Bool × Unit) × (((List Int) × Int × Unit) × (List Int) × Unit)) → Option (((Unit × Int × Int × Int × Int × Unit × Int × Int × Bool × Unit) × (((List Int) × Int × Unit) × (List Int) × Unit)) ⊕ Empty)) : Env := ⟨T, fun n ks => bif Nat.beq n 18 && eqPath ks [] then some (FE.of [true, true] true keep_Src_N.sh keep_Src_N.osh g_keep_Src_N) else bif Nat.beq n 25 && eqPath ks [] then some (FE.of [true, true] true keep_Src_Pick.sh keep_Src_Pick.osh g_keep_Src_Pick) else bif Nat.beq n 11 && eqPath ks [] then some (FE.of [true, true, true] true keep_Src_Range.sh keep_Src_Range.osh g_keep_Src_Range) else bif Nat.beq n 28 && eqPath ks [] then some (FE.of [true] false keep_clip.sh keep_clip.osh g_keep_clip) else none, fun n => bif Nat.beq n 0 then some (LE.of keep_Src_List.s0 keep_Src_List.x0 l0) else bif Nat.beq n 1 then some (LE.of keep_Src_List.s1 keep_Src_List.x1 l1) else bif Nat.beq n 2 then some (LE.of keep_Src_List.s2 keep_Src_List.x2 l2) else bif Nat.beq n 3 then some (LE.of keep_Src_List.s3 keep_Src_List.x3 l3) else none, 73, 1, Gt⟩

/-! keep_Src_Bent: (*shapesearch/shapesearchkeep.Src).Bent -/
noncomputable def keep_Src_Bent.c : Go.Code := Go.Proofs.Try.f19.body.getD .skip
@[reducible] def keep_Src_Bent.sh : Sh := ⟨[.one (.is (.ptr 0 0 0)), .one (.pv (.list (.int .i64)))], [.box [.pv (.list (.int .i64)), .pv (.int .i64)]]⟩
@[reducible] def keep_Src_Bent.osh : Sh := ⟨[.one (.pv (.list (.int .i64)))], [.box [.pv (.list (.int .i64)), .pv (.int .i64)]]⟩
@[reducible] def keep_Src_Bent.s0 : Sh := ⟨[.one (.is (.ptr 0 0 0)), .one (.is (.own 1))], [.box [.pv (.list (.int .i64)), .pv (.int .i64)], .row 3 (.int .i64)]⟩
@[reducible] def keep_Src_Bent.x0 : List (Ex × Sh) := [(.exit 1, ⟨[.one (.is (.own 1))], [.box [.pv (.list (.int .i64)), .pv (.int .i64)], .row 3 (.int .i64)]⟩)]
def keep_Src_Bent.hs : List Hint := [⟨[0, 0, 1, 1, 1, 0, 1, 0, 1, 1], 0, [0, 5], [(3, [5])]⟩]
def keep_Src_Bent.E (g_keep_Src_N : keep_Src_N.sh.X → Option keep_Src_N.osh.X) (g_keep_Src_Pick : keep_Src_Pick.sh.X → Option keep_Src_Pick.osh.X) (l0 : ((Unit × Unit × Unit) × (((List Int) × Int × Unit) × (List Int) × Unit)) → Option (((Unit × Unit) × (((List Int) × Int × Unit) × (List Int) × Unit)) ⊕ Empty)) : Env := ⟨T, fun n ks => bif Nat.beq n 18 && eqPath ks [] then some (FE.of [true, true] true keep_Src_N.sh keep_Src_N.osh g_keep_Src_N) else bif Nat.beq n 25 && eqPath ks [] then some (FE.of [true, true] true keep_Src_Pick.sh keep_Src_Pick.osh g_keep_Src_Pick) else none, fun n => bif Nat.beq n 0 then some (LE.of keep_Src_Bent.s0 keep_Src_Bent.x0 l0) else none, 43, 1, Gt⟩

/-! ref04_Sample: shapesearch/shapesearchref04.Sample -/
noncomputable def ref04_Sample.c : Go.Code := Go.Proofs.Try.f37.body.getD .skip
@[reducible] def ref04_Sample.sh : Sh := ⟨[.one (.pv (.int .i64))], []⟩
@[reducible] def ref04_Sample.osh : Sh := ⟨[.one (.pv .bool)], []⟩
def ref04_Sample.hs : List Hint := []
def ref04_Sample.E : Env := ⟨T, fun n ks => none, fun n => none, 9, 0, Gt⟩

/-! ref11_Of: shapesearch/shapesearchref11.Of -/
noncomputable def ref11_Of.c : Go.Code := Go.Proofs.Try.f20.body.getD .skip
@[reducible] def ref11_Of.sh : Sh := ⟨[.one (.pv (.list (.int .i64)))], []⟩
@[reducible] def ref11_Of.osh : Sh := ⟨[.agg [.is (.own 0), .is (.own 1)], .one (.pv (.int .i64))], [.row 3 (.int .i64), .row 3 (.int .i64)]⟩
@[reducible] def ref11_Of.s0 : Sh := ⟨[.one (.pv (.list (.int .i64))), .one (.is (.ptr 0 0 0)), .one (.is (.ptr 1 0 0)), .one (.pv (.int .i64)), .one (.pv (.int .i64))], [.box [.is .nils, .is .nils], .box [.is (.own 2), .is (.own 3)], .row 3 (.int .i64), .row 3 (.int .i64)]⟩
@[reducible] def ref11_Of.x0 : List (Ex × Sh) := [(.exit 0, ⟨[.one (.is (.ptr 0 0 0)), .one (.is (.ptr 1 0 0))], [.box [.is .nils, .is .nils], .box [.is (.own 2), .is (.own 3)], .row 3 (.int .i64), .row 3 (.int .i64)]⟩), (.ret, ⟨[.one (.is (.ptr 0 0 0)), .one (.pv (.int .i64))], [.box [.is .nils, .is .nils]]⟩)]
def ref11_Of.hs : List Hint := [⟨[0, 1, 0, 1, 1, 1], 0, [0, 2, 4, 14, 15], [(2, [2, 4]), (1, [2, 3])]⟩]
def ref11_Of.E (g_ref04_Sample : ref04_Sample.sh.X → Option ref04_Sample.osh.X) (l0 : (((List Int) × Unit × Unit × Int × Int × Unit) × ((Unit × Unit × Unit) × (Unit × Unit × Unit) × (List Int) × (List Int) × Unit)) → Option (((Unit × Unit × Unit) × ((Unit × Unit × Unit) × (Unit × Unit × Unit) × (List Int) × (List Int) × Unit)) ⊕ ((Unit × Int × Unit) × ((Unit × Unit × Unit) × Unit)) ⊕ Empty)) : Env := ⟨T, fun n ks => bif Nat.beq n 37 && eqPath ks [] then some (FE.of [true] false ref04_Sample.sh ref04_Sample.osh g_ref04_Sample) else none, fun n => bif Nat.beq n 0 then some (LE.of ref11_Of.s0 ref11_Of.x0 l0) else none, 62, 0, Gt⟩

/-! ref11_Same: shapesearch/shapesearchref11.Same -/
noncomputable def ref11_Same.c : Go.Code := Go.Proofs.Try.f21.body.getD .skip
@[reducible] def ref11_Same.sh : Sh := ⟨[.agg [.pv (.list (.int .i64)), .pv (.list (.int .i64))], .agg [.pv (.list (.int .i64)), .pv (.list (.int .i64))]], []⟩
@[reducible] def ref11_Same.osh : Sh := ⟨[.one (.pv .bool)], []⟩
def ref11_Same.hs : List Hint := []
def ref11_Same.E (g_keep_Ints : keep_Ints.sh.X → Option keep_Ints.osh.X) : Env := ⟨T, fun n ks => bif Nat.beq n 35 && eqPath ks [] then some (FE.of [true, true] false keep_Ints.sh keep_Ints.osh g_keep_Ints) else none, fun n => none, 17, 0, Gt⟩

/-! window_Slide: shapesearch/window.Slide -/
noncomputable def window_Slide.c : Go.Code := Go.Proofs.Try.f22.body.getD .skip
@[reducible] def window_Slide.sh : Sh := ⟨[.one (.pv (.list (.int .i64))), .one (.pv (.int .i64))], []⟩
@[reducible] def window_Slide.osh : Sh := ⟨[.one (.is (.own 0)), .one (.pv (.int .i64))], [.row 33 (.pair (.int .i64) (.pair (.int .i64) (.int .i64)))]⟩
@[reducible] def window_Slide.s0 : Sh := ⟨[.one (.pv (.list (.int .i64))), .one (.pv (.int .i64)), .one (.is (.ptr 0 0 0))], [.box [.is (.own 1), .is (.own 2)], .row 3 (.int .i64), .row 3 (.int .i64)]⟩
@[reducible] def window_Slide.x0 : List (Ex × Sh) := [(.normal, ⟨[.one (.pv (.list (.int .i64))), .one (.pv (.int .i64)), .one (.is (.ptr 0 0 0)), .one (.pv .bool)], [.box [.is (.own 1), .is (.own 2)], .row 3 (.int .i64), .row 3 (.int .i64)]⟩)]
@[reducible] def window_Slide.s1 : Sh := ⟨[.one (.pv (.int .i64)), .one (.is (.ptr 0 0 0)), .one (.is (.own 1)), .one (.pv (.int .i64)), .one (.pv (.int .i64))], [.box [.is (.own 2), .is (.own 3)], .row 33 (.pair (.int .i64) (.pair (.int .i64) (.int .i64))), .row 3 (.int .i64), .row 3 (.int .i64)]⟩
@[reducible] def window_Slide.x1 : List (Ex × Sh) := [(.exit 0, ⟨[.one (.is (.own 0))], [.row 33 (.pair (.int .i64) (.pair (.int .i64) (.int .i64)))]⟩)]
def window_Slide.hs : List Hint := [⟨[0, 0, 1, 1, 1], 0, [0, 1, 6], [(0, [0, 1, 6, 23])]⟩, ⟨[0, 1, 0, 1, 1, 1, 1, 1], 1, [1, 6, 8, 29, 30], [(2, [8])]⟩]
def window_Slide.E (g_window_Of : window_Of.sh.X → Option window_Of.osh.X) (g_window_between : window_between.sh.X → Option window_between.osh.X) (l0 : (((List Int) × Int × Unit × Unit) × ((Unit × Unit × Unit) × (List Int) × (List Int) × Unit)) → Option ((((List Int) × Int × Unit × Bool × Unit) × ((Unit × Unit × Unit) × (List Int) × (List Int) × Unit)) ⊕ Empty)) (l1 : ((Int × Unit × Unit × Int × Int × Unit) × ((Unit × Unit × Unit) × (List (Int × (Int × Int))) × (List Int) × (List Int) × Unit)) → Option (((Unit × Unit) × ((List (Int × (Int × Int))) × Unit)) ⊕ Empty)) : Env := ⟨T, fun n ks => bif Nat.beq n 13 && eqPath ks [] then some (FE.of [true] false window_Of.sh window_Of.osh g_window_Of) else bif Nat.beq n 34 && eqPath ks [] then some (FE.of [true, true, true] false window_between.sh window_between.osh g_window_between) else none, fun n => bif Nat.beq n 0 then some (LE.of window_Slide.s0 window_Slide.x0 l0) else bif Nat.beq n 1 then some (LE.of window_Slide.s1 window_Slide.x1 l1) else none, 42, 0, Gt⟩

/-! ref11_part: shapesearch/shapesearchref11.part -/
noncomputable def ref11_part.c : Go.Code := Go.Proofs.Try.f38.body.getD .skip
@[reducible] def ref11_part.sh : Sh := ⟨[.agg [.pv (.list (.int .i64)), .pv (.list (.int .i64))], .one (.pv (.int .i64)), .one (.pv (.int .i64))], []⟩
@[reducible] def ref11_part.osh : Sh := ⟨[.agg [.pv (.int .i64), .pv (.int .i64), .pv (.int .i64)]], []⟩
def ref11_part.hs : List Hint := []
def ref11_part.E : Env := ⟨T, fun n ks => none, fun n => none, 35, 0, Gt⟩

/-! ref11_Slide: shapesearch/shapesearchref11.Slide -/
noncomputable def ref11_Slide.c : Go.Code := Go.Proofs.Try.f23.body.getD .skip
@[reducible] def ref11_Slide.sh : Sh := ⟨[.one (.pv (.list (.int .i64))), .one (.pv (.int .i64))], []⟩
@[reducible] def ref11_Slide.osh : Sh := ⟨[.one (.is (.own 0)), .one (.pv (.int .i64))], [.row 33 (.pair (.int .i64) (.pair (.int .i64) (.int .i64)))]⟩
@[reducible] def ref11_Slide.s0 : Sh := ⟨[.one (.pv (.list (.int .i64))), .one (.pv (.int .i64)), .one (.is (.ptr 0 0 0))], [.box [.is (.own 1), .is (.own 2)], .row 3 (.int .i64), .row 3 (.int .i64)]⟩
@[reducible] def ref11_Slide.x0 : List (Ex × Sh) := [(.normal, ⟨[.one (.pv (.list (.int .i64))), .one (.pv (.int .i64)), .one (.is (.ptr 0 0 0)), .one (.pv .bool)], [.box [.is (.own 1), .is (.own 2)], .row 3 (.int .i64), .row 3 (.int .i64)]⟩)]
@[reducible] def ref11_Slide.s1 : Sh := ⟨[.one (.pv (.list (.int .i64))), .one (.pv (.int .i64)), .one (.is (.ptr 0 0 0)), .one (.is (.own 1)), .one (.pv (.int .i64))], [.box [.is (.own 2), .is (.own 3)], .row 33 (.pair (.int .i64) (.pair (.int .i64) (.int .i64))), .row 3 (.int .i64), .row 3 (.int .i64)]⟩
@[reducible] def ref11_Slide.x1 : List (Ex × Sh) := [(.exit 0, ⟨[.one (.is (.own 0))], [.row 33 (.pair (.int .i64) (.pair (.int .i64) (.int .i64)))]⟩)]
def ref11_Slide.hs : List Hint := [⟨[0, 0, 1, 1, 1], 0, [0, 1, 6], [(0, [0, 1, 6, 23])]⟩, ⟨[0, 1, 0, 1, 1, 1, 1, 1], 1, [0, 1, 6, 8, 9], [(2, [8])]⟩]
def ref11_Slide.E (g_ref11_Of : ref11_Of.sh.X → Option ref11_Of.osh.X) (g_ref11_part : ref11_part.sh.X → Option ref11_part.osh.X) (l0 : (((List Int) × Int × Unit × Unit) × ((Unit × Unit × Unit) × (List Int) × (List Int) × Unit)) → Option ((((List Int) × Int × Unit × Bool × Unit) × ((Unit × Unit × Unit) × (List Int) × (List Int) × Unit)) ⊕ Empty)) (l1 : (((List Int) × Int × Unit × Unit × Int × Unit) × ((Unit × Unit × Unit) × (List (Int × (Int × Int))) × (List Int) × (List Int) × Unit)) → Option (((Unit × Unit) × ((List (Int × (Int × Int))) × Unit)) ⊕ Empty)) : Env := ⟨T, fun n ks => bif Nat.beq n 20 && eqPath ks [] then some (FE.of [true] false ref11_Of.sh ref11_Of.osh g_ref11_Of) else bif Nat.beq n 38 && eqPath ks [] then some (FE.of [true, true, true] false ref11_part.sh ref11_part.osh g_ref11_part) else none, fun n => bif Nat.beq n 0 then some (LE.of ref11_Slide.s0 ref11_Slide.x0 l0) else bif Nat.beq n 1 then some (LE.of ref11_Slide.s1 ref11_Slide.x1 l1) else none, 40, 0, Gt⟩

/-! law11_slides: shapesearch/shapesearchlaw11.slides -/
noncomputable def law11_slides.c : Go.Code := Go.Proofs.Try.f24.body.getD .skip
@[reducible] def law11_slides.sh : Sh := ⟨[.one (.pv (.list (.pair (.int .i64) (.pair (.int .i64) (.int .i64))))), .one (.pv (.list (.pair (.int .i64) (.pair (.int .i64) (.int .i64)))))], []⟩
@[reducible] def law11_slides.osh : Sh := ⟨[.one (.pv .bool)], []⟩
@[reducible] def law11_slides.s0 : Sh := ⟨[.one (.pv (.list (.pair (.int .i64) (.pair (.int .i64) (.int .i64))))), .one (.pv (.list (.pair (.int .i64) (.pair (.int .i64) (.int .i64))))), .one (.pv (.int .i64)), .one (.pv (.int .i64))], []⟩
@[reducible] def law11_slides.x0 : List (Ex × Sh) := [(.exit 0, ⟨[], []⟩), (.ret, ⟨[.one (.pv .bool)], []⟩)]
def law11_slides.hs : List Hint := [⟨[0, 1, 0, 1, 1], 0, [0, 1, 12, 13], [(2, []), (1, [4])]⟩]
def law11_slides.E (l0 : (((List (Int × (Int × Int))) × (List (Int × (Int × Int))) × Int × Int × Unit) × (Unit)) → Option (((Unit) × (Unit)) ⊕ ((Bool × Unit) × (Unit)) ⊕ Empty)) : Env := ⟨T, fun n ks => none, fun n => bif Nat.beq n 0 then some (LE.of law11_slides.s0 law11_slides.x0 l0) else none, 26, 0, Gt⟩

/-! ref11_Valid: shapesearch/shapesearchref11.Valid -/
noncomputable def ref11_Valid.c : Go.Code := Go.Proofs.Try.f39.body.getD .skip
@[reducible] def ref11_Valid.sh : Sh := ⟨[.agg [.pv (.list (.int .i64)), .pv (.list (.int .i64))]], []⟩
@[reducible] def ref11_Valid.osh : Sh := ⟨[.one (.pv .bool)], []⟩
@[reducible] def ref11_Valid.s0 : Sh := ⟨[.one (.is (.ptr 0 0 0))], [.box [.pv (.list (.int .i64)), .pv (.list (.int .i64))]]⟩
@[reducible] def ref11_Valid.x0 : List (Ex × Sh) := [(.normal, ⟨[.one (.is (.ptr 0 0 0)), .one (.pv .bool)], [.box [.pv (.list (.int .i64)), .pv (.list (.int .i64))]]⟩)]
@[reducible] def ref11_Valid.s1 : Sh := ⟨[.one (.is (.ptr 0 0 0)), .one (.is (.own 1)), .one (.pv (.int .i64)), .one (.pv (.int .i64))], [.box [.pv (.list (.int .i64)), .pv (.list (.int .i64))], .row 3 (.int .i64)]⟩
@[reducible] def ref11_Valid.x1 : List (Ex × Sh) := [(.exit 0, ⟨[.one (.is (.ptr 0 0 0)), .one (.is (.own 1))], [.box [.pv (.list (.int .i64)), .pv (.list (.int .i64))], .row 3 (.int .i64)]⟩), (.ret, ⟨[.one (.pv .bool)], []⟩)]
@[reducible] def ref11_Valid.s2 : Sh := ⟨[.one (.is (.ptr 0 0 0)), .one (.is (.own 1)), .one (.pv (.int .i64)), .one (.pv (.int .i64)), .one (.pv (.int .i64))], [.box [.pv (.list (.int .i64)), .pv (.list (.int .i64))], .row 3 (.int .i64)]⟩
@[reducible] def ref11_Valid.x2 : List (Ex × Sh) := [(.normal, ⟨[.one (.is (.ptr 0 0 0)), .one (.is (.own 1)), .one (.pv (.int .i64)), .one (.pv (.int .i64)), .one (.pv (.int .i64)), .one (.pv .bool)], [.box [.pv (.list (.int .i64)), .pv (.list (.int .i64))], .row 3 (.int .i64)]⟩)]
def ref11_Valid.hs : List Hint := [⟨[0, 0, 1], 0, [1], [(0, [1, 25])]⟩, ⟨[0, 1, 0, 1, 1, 1], 1, [1, 3, 28, 29], [(2, [1, 3]), (1, [2])]⟩, ⟨[0, 0, 1, 0, 0, 1, 1, 0, 0, 1, 0, 1, 1, 1], 2, [1, 3, 4, 28, 29], [(0, [1, 3, 4, 28, 29, 45])]⟩]
def ref11_Valid.E (g_ref11_Of : ref11_Of.sh.X → Option ref11_Of.osh.X) (g_ref11_Same : ref11_Same.sh.X → Option ref11_Same.osh.X) (l0 : ((Unit × Unit) × (((List Int) × (List Int) × Unit) × Unit)) → Option (((Unit × Bool × Unit) × (((List Int) × (List Int) × Unit) × Unit)) ⊕ Empty)) (l1 : ((Unit × Unit × Int × Int × Unit) × (((List Int) × (List Int) × Unit) × (List Int) × Unit)) → Option (((Unit × Unit × Unit) × (((List Int) × (List Int) × Unit) × (List Int) × Unit)) ⊕ ((Bool × Unit) × (Unit)) ⊕ Empty)) (l2 : ((Unit × Unit × Int × Int × Int × Unit) × (((List Int) × (List Int) × Unit) × (List Int) × Unit)) → Option (((Unit × Unit × Int × Int × Int × Bool × Unit) × (((List Int) × (List Int) × Unit) × (List Int) × Unit)) ⊕ Empty)) : Env := ⟨T, fun n ks => bif Nat.beq n 20 && eqPath ks [] then some (FE.of [true] false ref11_Of.sh ref11_Of.osh g_ref11_Of) else bif Nat.beq n 21 && eqPath ks [] then some (FE.of [true, true] false ref11_Same.sh ref11_Same.osh g_ref11_Same) else none, fun n => bif Nat.beq n 0 then some (LE.of ref11_Valid.s0 ref11_Valid.x0 l0) else bif Nat.beq n 1 then some (LE.of ref11_Valid.s1 ref11_Valid.x1 l1) else bif Nat.beq n 2 then some (LE.of ref11_Valid.s2 ref11_Valid.x2 l2) else none, 76, 0, Gt⟩

/-! ref11_Stats: shapesearch/shapesearchref11.Stats -/
noncomputable def ref11_Stats.c : Go.Code := Go.Proofs.Try.f26.body.getD .skip
@[reducible] def ref11_Stats.sh : Sh := ⟨[.agg [.pv (.list (.int .i64)), .pv (.list (.int .i64))], .one (.pv (.int .i64)), .one (.pv (.int .i64))], []⟩
@[reducible] def ref11_Stats.osh : Sh := ⟨[.agg [.pv (.int .i64), .pv (.int .i64), .pv (.int .i64)], .one (.pv (.int .i64))], []⟩
@[reducible] def ref11_Stats.s0 : Sh := ⟨[.one (.pv (.int .i64)), .one (.pv (.int .i64)), .one (.is (.ptr 0 0 0)), .one (.is (.ptr 1 0 0))], [.box [.pv (.list (.int .i64)), .pv (.list (.int .i64))], .box [.pv (.int .i64), .pv (.int .i64), .pv (.int .i64)]]⟩
@[reducible] def ref11_Stats.x0 : List (Ex × Sh) := [(.normal, ⟨[.one (.pv (.int .i64)), .one (.pv (.int .i64)), .one (.is (.ptr 0 0 0)), .one (.is (.ptr 1 0 0)), .one (.pv .bool)], [.box [.pv (.list (.int .i64)), .pv (.list (.int .i64))], .box [.pv (.int .i64), .pv (.int .i64), .pv (.int .i64)]]⟩)]
def ref11_Stats.hs : List Hint := [⟨[0, 0, 1, 1], 0, [1, 2, 3, 6], [(0, [1, 2, 3, 6, 35])]⟩]
def ref11_Stats.E (g_ref11_Valid : ref11_Valid.sh.X → Option ref11_Valid.osh.X) (g_ref11_part : ref11_part.sh.X → Option ref11_part.osh.X) (l0 : ((Int × Int × Unit × Unit × Unit) × (((List Int) × (List Int) × Unit) × (Int × Int × Int × Unit) × Unit)) → Option (((Int × Int × Unit × Unit × Bool × Unit) × (((List Int) × (List Int) × Unit) × (Int × Int × Int × Unit) × Unit)) ⊕ Empty)) : Env := ⟨T, fun n ks => bif Nat.beq n 39 && eqPath ks [] then some (FE.of [true] false ref11_Valid.sh ref11_Valid.osh g_ref11_Valid) else bif Nat.beq n 38 && eqPath ks [] then some (FE.of [true, true, true] false ref11_part.sh ref11_part.osh g_ref11_part) else none, fun n => bif Nat.beq n 0 then some (LE.of ref11_Stats.s0 ref11_Stats.x0 l0) else none, 41, 0, Gt⟩

/-! ref11_Variance: shapesearch/shapesearchref11.Variance -/
noncomputable def ref11_Variance.c : Go.Code := Go.Proofs.Try.f27.body.getD .skip
@[reducible] def ref11_Variance.sh : Sh := ⟨[.agg [.pv (.int .i64), .pv (.int .i64), .pv (.int .i64)]], []⟩
@[reducible] def ref11_Variance.osh : Sh := ⟨[.one (.pv (.int .i64))], []⟩
@[reducible] def ref11_Variance.s0 : Sh := ⟨[.one (.is (.ptr 0 0 0))], [.box [.pv (.int .i64), .pv (.int .i64), .pv (.int .i64)]]⟩
@[reducible] def ref11_Variance.x0 : List (Ex × Sh) := [(.normal, ⟨[.one (.is (.ptr 0 0 0)), .one (.pv .bool)], [.box [.pv (.int .i64), .pv (.int .i64), .pv (.int .i64)]]⟩)]
def ref11_Variance.hs : List Hint := [⟨[0, 0, 1], 0, [1], [(0, [1, 39])]⟩]
def ref11_Variance.E (l0 : ((Unit × Unit) × ((Int × Int × Int × Unit) × Unit)) → Option (((Unit × Bool × Unit) × ((Int × Int × Int × Unit) × Unit)) ⊕ Empty)) : Env := ⟨T, fun n ks => none, fun n => bif Nat.beq n 0 then some (LE.of ref11_Variance.s0 ref11_Variance.x0 l0) else none, 52, 0, Gt⟩

/-! law11_WindowAnswers: shapesearch/shapesearchlaw11.WindowAnswers -/
noncomputable def law11_WindowAnswers.c : Go.Code := Go.Proofs.Try.f6.body.getD .skip
@[reducible] def law11_WindowAnswers.sh : Sh := ⟨[.one (.pv (.list (.int .i64))), .agg [.pv (.list (.int .i64)), .pv (.list (.int .i64))], .agg [.pv (.int .i64), .pv (.int .i64), .pv (.int .i64)], .one (.pv (.int .i64)), .one (.pv (.int .i64)), .one (.pv (.list (.int .i64)))], []⟩
@[reducible] def law11_WindowAnswers.osh : Sh := ⟨[.one (.pv .bool)], []⟩
@[reducible] def law11_WindowAnswers.s0 : Sh := ⟨[.one (.pv (.list (.int .i64))), .one (.pv (.int .i64)), .one (.pv (.int .i64)), .one (.pv (.list (.int .i64))), .one (.is (.ptr 0 0 0)), .one (.is (.ptr 1 0 0))], [.box [.pv (.list (.int .i64)), .pv (.list (.int .i64))], .box [.pv (.int .i64), .pv (.int .i64), .pv (.int .i64)]]⟩
@[reducible] def law11_WindowAnswers.x0 : List (Ex × Sh) := [(.normal, ⟨[.one (.pv (.list (.int .i64))), .one (.pv (.int .i64)), .one (.pv (.int .i64)), .one (.pv (.list (.int .i64))), .one (.is (.ptr 0 0 0)), .one (.is (.ptr 1 0 0)), .one (.pv .bool)], [.box [.pv (.list (.int .i64)), .pv (.list (.int .i64))], .box [.pv (.int .i64), .pv (.int .i64), .pv (.int .i64)]]⟩)]
@[reducible] def law11_WindowAnswers.s1 : Sh := ⟨[.one (.pv (.int .i64)), .one (.pv (.int .i64)), .one (.is (.ptr 0 0 0)), .one (.is (.ptr 1 0 0)), .one (.is (.ptr 2 0 0)), .one (.pv (.list (.int .i64))), .one (.is (.own 3)), .one (.pv (.int .i64)), .one (.pv (.int .i64))], [.box [.pv (.list (.int .i64)), .pv (.list (.int .i64))], .box [.pv (.int .i64), .pv (.int .i64), .pv (.int .i64)], .box [.pv (.list (.int .i64)), .pv (.int .i64)], .row 22 (.list (.int .i64))]⟩
@[reducible] def law11_WindowAnswers.x1 : List (Ex × Sh) := [(.exit 0, ⟨[.one (.pv (.int .i64)), .one (.pv (.int .i64)), .one (.is (.ptr 0 0 0)), .one (.is (.ptr 1 0 0)), .one (.is (.ptr 2 0 0)), .one (.pv (.list (.int .i64)))], [.box [.pv (.list (.int .i64)), .pv (.list (.int .i64))], .box [.pv (.int .i64), .pv (.int .i64), .pv (.int .i64)], .box [.pv (.list (.int .i64)), .pv (.int .i64)]]⟩), (.ret, ⟨[.one (.pv .bool)], []⟩)]
@[reducible] def law11_WindowAnswers.s2 : Sh := ⟨[.one (.pv (.int .i64)), .one (.pv (.int .i64)), .one (.is (.ptr 0 0 0)), .one (.is (.ptr 1 0 0)), .one (.is (.ptr 2 0 0)), .one (.pv (.list (.int .i64))), .one (.pv (.list (.int .i64))), .one (.is (.ptr 3 0 0)), .one (.pv (.int .i64)), .one (.is (.ptr 4 0 0)), .one (.pv (.int .i64)), .one (.is (.own 5)), .one (.pv (.int .i64)), .one (.pv (.int .i64))], [.box [.pv (.list (.int .i64)), .pv (.list (.int .i64))], .box [.pv (.int .i64), .pv (.int .i64), .pv (.int .i64)], .box [.pv (.list (.int .i64)), .pv (.int .i64)], .box [.is (.own 6), .is (.own 7)], .box [.is (.own 8), .is (.own 9)], .row 22 (.list (.int .i64)), .row 3 (.int .i64), .row 3 (.int .i64), .row 3 (.int .i64), .row 3 (.int .i64)]⟩
@[reducible] def law11_WindowAnswers.x2 : List (Ex × Sh) := [(.normal, ⟨[.one (.pv (.int .i64)), .one (.pv (.int .i64)), .one (.is (.ptr 0 0 0)), .one (.is (.ptr 1 0 0)), .one (.is (.ptr 2 0 0)), .one (.pv (.list (.int .i64))), .one (.pv (.list (.int .i64))), .one (.is (.own 3)), .one (.pv (.int .i64)), .one (.pv (.int .i64)), .one (.pv .bool)], [.box [.pv (.list (.int .i64)), .pv (.list (.int .i64))], .box [.pv (.int .i64), .pv (.int .i64), .pv (.int .i64)], .box [.pv (.list (.int .i64)), .pv (.int .i64)], .row 22 (.list (.int .i64))]⟩)]
@[reducible] def law11_WindowAnswers.s3 : Sh := ⟨[.one (.pv (.int .i64)), .one (.pv (.int .i64)), .one (.is (.ptr 0 0 0)), .one (.is (.ptr 1 0 0)), .one (.is (.ptr 2 0 0)), .one (.pv (.list (.int .i64))), .one (.pv (.list (.int .i64))), .one (.is (.own 3)), .one (.pv (.int .i64)), .one (.pv (.int .i64)), .one (.is (.own 4)), .one (.pv (.int .i64)), .one (.pv (.int .i64))], [.box [.pv (.list (.int .i64)), .pv (.list (.int .i64))], .box [.pv (.int .i64), .pv (.int .i64), .pv (.int .i64)], .box [.pv (.list (.int .i64)), .pv (.int .i64)], .row 22 (.list (.int .i64)), .row 3 (.int .i64)]⟩
@[reducible] def law11_WindowAnswers.x3 : List (Ex × Sh) := [(.exit 2, ⟨[.one (.pv (.int .i64)), .one (.pv (.int .i64)), .one (.is (.ptr 0 0 0)), .one (.is (.ptr 1 0 0)), .one (.is (.ptr 2 0 0)), .one (.pv (.list (.int .i64))), .one (.is (.own 3)), .one (.pv (.int .i64)), .one (.pv (.int .i64))], [.box [.pv (.list (.int .i64)), .pv (.list (.int .i64))], .box [.pv (.int .i64), .pv (.int .i64), .pv (.int .i64)], .box [.pv (.list (.int .i64)), .pv (.int .i64)], .row 22 (.list (.int .i64))]⟩), (.ret, ⟨[.one (.pv .bool)], []⟩)]
@[reducible] def law11_WindowAnswers.s4 : Sh := ⟨[.one (.pv (.int .i64)), .one (.pv (.int .i64)), .one (.is (.ptr 0 0 0)), .one (.is (.ptr 1 0 0)), .one (.is (.own 2)), .one (.pv (.int .i64)), .one (.pv (.int .i64))], [.box [.pv (.int .i64), .pv (.int .i64), .pv (.int .i64)], .box [.pv (.list (.int .i64)), .pv (.int .i64)], .row 28 (.pair (.list (.int .i64)) (.list (.int .i64)))]⟩
@[reducible] def law11_WindowAnswers.x4 : List (Ex × Sh) := [(.exit 4, ⟨[.one (.is (.ptr 0 0 0)), .one (.is (.ptr 1 0 0))], [.box [.pv (.int .i64), .pv (.int .i64), .pv (.int .i64)], .box [.pv (.list (.int .i64)), .pv (.int .i64)]]⟩), (.ret, ⟨[.one (.pv .bool)], []⟩)]
@[reducible] def law11_WindowAnswers.s5 : Sh := ⟨[.one (.pv (.int .i64)), .one (.pv (.int .i64)), .one (.is (.ptr 0 0 0)), .one (.is (.ptr 1 0 0)), .one (.is (.ptr 2 0 0)), .one (.is (.own 3)), .one (.pv (.int .i64)), .one (.pv (.int .i64)), .one (.is (.own 4)), .one (.pv (.int .i64)), .one (.pv (.int .i64))], [.box [.pv (.int .i64), .pv (.int .i64), .pv (.int .i64)], .box [.pv (.list (.int .i64)), .pv (.int .i64)], .box [.pv (.list (.int .i64)), .pv (.list (.int .i64))], .row 28 (.pair (.list (.int .i64)) (.list (.int .i64))), .row 51 (.pair (.int .i64) (.int .i64))]⟩
@[reducible] def law11_WindowAnswers.x5 : List (Ex × Sh) := [(.exit 6, ⟨[.one (.pv (.int .i64)), .one (.pv (.int .i64)), .one (.is (.ptr 0 0 0)), .one (.is (.ptr 1 0 0)), .one (.is (.own 2)), .one (.pv (.int .i64)), .one (.pv (.int .i64))], [.box [.pv (.int .i64), .pv (.int .i64), .pv (.int .i64)], .box [.pv (.list (.int .i64)), .pv (.int .i64)], .row 28 (.pair (.list (.int .i64)) (.list (.int .i64)))]⟩), (.ret, ⟨[.one (.pv .bool)], []⟩)]
def law11_WindowAnswers.hs : List Hint := [⟨[0, 0, 1], 0, [0, 3, 4, 5, 7, 8], [(0, [0, 3, 4, 5, 7, 8, 53])]⟩, ⟨[0, 1, 0, 1, 1, 1, 1], 1, [3, 4, 7, 8, 13, 14, 66, 67, 68], [(2, [3, 4, 7, 8, 13, 14]), (1, [12])]⟩, ⟨[0, 0, 1, 1, 1, 0, 0, 1, 1, 0, 0, 1, 0, 1, 1, 1, 1], 2, [3, 4, 7, 8, 13, 14, 16, 17, 18, 19, 20, 66, 67, 68], [(0, [3, 4, 7, 8, 13, 14, 16, 66, 67, 68, 90])]⟩, ⟨[0, 1, 1, 1, 1, 1, 0, 0, 1, 1, 0, 0, 1, 0, 1, 1, 1, 1], 3, [3, 4, 7, 8, 13, 14, 16, 66, 67, 68, 94, 95, 96], [(4, [3, 4, 7, 8, 13, 14, 66, 67, 68]), (1, [12])]⟩, ⟨[0, 1, 0, 1, 1, 1, 1, 1, 1, 1, 1], 4, [3, 4, 8, 13, 155, 156, 157], [(6, [8, 13]), (1, [12])]⟩, ⟨[0, 1, 1, 0, 0, 1, 1, 0, 0, 1, 0, 1, 1, 1, 1, 1, 1, 1, 1], 5, [3, 4, 8, 13, 31, 155, 156, 157, 169, 170, 171], [(8, [3, 4, 8, 13, 155, 156, 157]), (1, [12])]⟩]
def law11_WindowAnswers.E (g_law11_awake : law11_awake.sh.X → Option law11_awake.osh.X) (g_keep_New : keep_New.sh.X → Option keep_New.osh.X) (g_keep_Src_N : keep_Src_N.sh.X → Option keep_Src_N.osh.X) (g_keep_Src_List : keep_Src_List.sh.X → Option keep_Src_List.osh.X) (g_keep_Src_Bent : keep_Src_Bent.sh.X → Option keep_Src_Bent.osh.X) (g_window_Of : window_Of.sh.X → Option window_Of.osh.X) (g_ref11_Of : ref11_Of.sh.X → Option ref11_Of.osh.X) (g_ref11_Same : ref11_Same.sh.X → Option ref11_Same.osh.X) (g_keep_Src_Range : keep_Src_Range.sh.X → Option keep_Src_Range.osh.X) (g_window_Slide : window_Slide.sh.X → Option window_Slide.osh.X) (g_ref11_Slide : ref11_Slide.sh.X → Option ref11_Slide.osh.X) (g_law11_slides : law11_slides.sh.X → Option law11_slides.osh.X) (g_keep_Src_Pick : keep_Src_Pick.sh.X → Option keep_Src_Pick.osh.X) (g_window_Stats : window_Stats.sh.X → Option window_Stats.osh.X) (g_ref11_Stats : ref11_Stats.sh.X → Option ref11_Stats.osh.X) (g_window_Variance : window_Variance.sh.X → Option window_Variance.osh.X) (g_ref11_Variance : ref11_Variance.sh.X → Option ref11_Variance.osh.X) (l0 : (((List Int) × Int × Int × (List Int) × Unit × Unit × Unit) × (((List Int) × (List Int) × Unit) × (Int × Int × Int × Unit) × Unit)) → Option ((((List Int) × Int × Int × (List Int) × Unit × Unit × Bool × Unit) × (((List Int) × (List Int) × Unit) × (Int × Int × Int × Unit) × Unit)) ⊕ Empty)) (l1 : ((Int × Int × Unit × Unit × Unit × (List Int) × Unit × Int × Int × Unit) × (((List Int) × (List Int) × Unit) × (Int × Int × Int × Unit) × ((List Int) × Int × Unit) × (List (List Int)) × Unit)) → Option (((Int × Int × Unit × Unit × Unit × (List Int) × Unit) × (((List Int) × (List Int) × Unit) × (Int × Int × Int × Unit) × ((List Int) × Int × Unit) × Unit)) ⊕ ((Bool × Unit) × (Unit)) ⊕ Empty)) (l2 : ((Int × Int × Unit × Unit × Unit × (List Int) × (List Int) × Unit × Int × Unit × Int × Unit × Int × Int × Unit) × (((List Int) × (List Int) × Unit) × (Int × Int × Int × Unit) × ((List Int) × Int × Unit) × (Unit × Unit × Unit) × (Unit × Unit × Unit) × (List (List Int)) × (List Int) × (List Int) × (List Int) × (List Int) × Unit)) → Option (((Int × Int × Unit × Unit × Unit × (List Int) × (List Int) × Unit × Int × Int × Bool × Unit) × (((List Int) × (List Int) × Unit) × (Int × Int × Int × Unit) × ((List Int) × Int × Unit) × (List (List Int)) × Unit)) ⊕ Empty)) (l3 : ((Int × Int × Unit × Unit × Unit × (List Int) × (List Int) × Unit × Int × Int × Unit × Int × Int × Unit) × (((List Int) × (List Int) × Unit) × (Int × Int × Int × Unit) × ((List Int) × Int × Unit) × (List (List Int)) × (List Int) × Unit)) → Option (((Int × Int × Unit × Unit × Unit × (List Int) × Unit × Int × Int × Unit) × (((List Int) × (List Int) × Unit) × (Int × Int × Int × Unit) × ((List Int) × Int × Unit) × (List (List Int)) × Unit)) ⊕ ((Bool × Unit) × (Unit)) ⊕ Empty)) (l4 : ((Int × Int × Unit × Unit × Unit × Int × Int × Unit) × ((Int × Int × Int × Unit) × ((List Int) × Int × Unit) × (List ((List Int) × (List Int))) × Unit)) → Option (((Unit × Unit × Unit) × ((Int × Int × Int × Unit) × ((List Int) × Int × Unit) × Unit)) ⊕ ((Bool × Unit) × (Unit)) ⊕ Empty)) (l5 : ((Int × Int × Unit × Unit × Unit × Unit × Int × Int × Unit × Int × Int × Unit) × ((Int × Int × Int × Unit) × ((List Int) × Int × Unit) × ((List Int) × (List Int) × Unit) × (List ((List Int) × (List Int))) × (List (Int × Int)) × Unit)) → Option (((Int × Int × Unit × Unit × Unit × Int × Int × Unit) × ((Int × Int × Int × Unit) × ((List Int) × Int × Unit) × (List ((List Int) × (List Int))) × Unit)) ⊕ ((Bool × Unit) × (Unit)) ⊕ Empty)) : Env := ⟨T, fun n ks => bif Nat.beq n 15 && eqPath ks [] then some (FE.of [] false law11_awake.sh law11_awake.osh g_law11_awake) else bif Nat.beq n 9 && eqPath ks [] then some (FE.of [true] true keep_New.sh keep_New.osh g_keep_New) else bif Nat.beq n 18 && eqPath ks [] then some (FE.of [true, true] true keep_Src_N.sh keep_Src_N.osh g_keep_Src_N) else bif Nat.beq n 10 && eqPath ks [] then some (FE.of [true, true] true keep_Src_List.sh keep_Src_List.osh g_keep_Src_List) else bif Nat.beq n 19 && eqPath ks [] then some (FE.of [true, true] true keep_Src_Bent.sh keep_Src_Bent.osh g_keep_Src_Bent) else bif Nat.beq n 13 && eqPath ks [] then some (FE.of [true] false window_Of.sh window_Of.osh g_window_Of) else bif Nat.beq n 20 && eqPath ks [] then some (FE.of [true] false ref11_Of.sh ref11_Of.osh g_ref11_Of) else bif Nat.beq n 21 && eqPath ks [] then some (FE.of [true, true] false ref11_Same.sh ref11_Same.osh g_ref11_Same) else bif Nat.beq n 11 && eqPath ks [] then some (FE.of [true, true, true] true keep_Src_Range.sh keep_Src_Range.osh g_keep_Src_Range) else bif Nat.beq n 22 && eqPath ks [] then some (FE.of [true, true] false window_Slide.sh window_Slide.osh g_window_Slide) else bif Nat.beq n 23 && eqPath ks [] then some (FE.of [true, true] false ref11_Slide.sh ref11_Slide.osh g_ref11_Slide) else bif Nat.beq n 24 && eqPath ks [] then some (FE.of [true, true] false law11_slides.sh law11_slides.osh g_law11_slides) else bif Nat.beq n 25 && eqPath ks [] then some (FE.of [true, true] true keep_Src_Pick.sh keep_Src_Pick.osh g_keep_Src_Pick) else bif Nat.beq n 14 && eqPath ks [] then some (FE.of [true, true, true] false window_Stats.sh window_Stats.osh g_window_Stats) else bif Nat.beq n 26 && eqPath ks [] then some (FE.of [true, true, true] false ref11_Stats.sh ref11_Stats.osh g_ref11_Stats) else bif Nat.beq n 17 && eqPath ks [] then some (FE.of [true] false window_Variance.sh window_Variance.osh g_window_Variance) else bif Nat.beq n 27 && eqPath ks [] then some (FE.of [true] false ref11_Variance.sh ref11_Variance.osh g_ref11_Variance) else none, fun n => bif Nat.beq n 0 then some (LE.of law11_WindowAnswers.s0 law11_WindowAnswers.x0 l0) else bif Nat.beq n 1 then some (LE.of law11_WindowAnswers.s1 law11_WindowAnswers.x1 l1) else bif Nat.beq n 2 then some (LE.of law11_WindowAnswers.s2 law11_WindowAnswers.x2 l2) else bif Nat.beq n 3 then some (LE.of law11_WindowAnswers.s3 law11_WindowAnswers.x3 l3) else bif Nat.beq n 4 then some (LE.of law11_WindowAnswers.s4 law11_WindowAnswers.x4 l4) else bif Nat.beq n 5 then some (LE.of law11_WindowAnswers.s5 law11_WindowAnswers.x5 l5) else none, 225, 0, Gt⟩
end Go.Proofs.Ytknkiogjibpooaa.V
