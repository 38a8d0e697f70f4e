import Derived.Test.YtefcciajemkicaaProg
import Derived.KernelRfl
import Derived.Test.YtefcciajemkicaaViC
set_option linter.unusedVariables false
namespace Go.Proofs.Ytefcciajemkicaa.V
open Go.VI
def T : Tb := [(3, ⟨.int .i64, 1, 8, some (.int .i64), true, false⟩),
  (4, ⟨.bool, 1, 1, some .bool, true, false⟩),
  (5, ⟨.int .u8, 1, 1, some (.int .u8), true, false⟩),
  (9, ⟨.str, 1, 16, some .str, true, false⟩),
  (20, ⟨.err, 1, 16, some (.err 46), false, false⟩),
  (22, ⟨.slice 3, 1, 24, some (.list (.int .i64)), false, false⟩),
  (23, ⟨.struct [(0, 3), (1, 3), (2, 3)], 3, 24, some (.pair (.int .i64) (.pair (.int .i64) (.int .i64))), true, false⟩),
  (24, ⟨.struct [(0, 3), (1, 3), (2, 3)], 3, 24, some (.pair (.int .i64) (.pair (.int .i64) (.int .i64))), true, false⟩),
  (25, ⟨.slice 31, 1, 24, some (.list (.pair (.int .i64) (.pair (.int .i64) (.int .i64)))), false, false⟩),
  (26, ⟨.struct [(0, 24), (3, 3), (4, 3), (5, 25), (6, 25), (7, 25)], 8, 112, some (.pair (.pair (.int .i64) (.pair (.int .i64) (.int .i64))) (.pair (.int .i64) (.pair (.int .i64) (.pair (.list (.pair (.int .i64) (.pair (.int .i64) (.int .i64)))) (.pair (.list (.pair (.int .i64) (.pair (.int .i64) (.int .i64)))) (.list (.pair (.int .i64) (.pair (.int .i64) (.int .i64))))))))), false, false⟩),
  (27, ⟨.struct [(0, 24), (3, 3), (4, 3), (5, 25), (6, 25), (7, 25)], 8, 112, some (.pair (.pair (.int .i64) (.pair (.int .i64) (.int .i64))) (.pair (.int .i64) (.pair (.int .i64) (.pair (.list (.pair (.int .i64) (.pair (.int .i64) (.int .i64)))) (.pair (.list (.pair (.int .i64) (.pair (.int .i64) (.int .i64)))) (.list (.pair (.int .i64) (.pair (.int .i64) (.int .i64))))))))), false, false⟩),
  (28, ⟨.struct [(0, 3), (1, 3)], 2, 16, some (.pair (.int .i64) (.int .i64)), true, false⟩),
  (29, ⟨.struct [(0, 3), (1, 3)], 2, 16, some (.pair (.int .i64) (.int .i64)), true, false⟩),
  (30, ⟨.struct [(0, 3), (1, 29)], 3, 24, some (.pair (.int .i64) (.pair (.int .i64) (.int .i64))), true, false⟩),
  (31, ⟨.struct [(0, 3), (1, 29)], 3, 24, some (.pair (.int .i64) (.pair (.int .i64) (.int .i64))), true, false⟩),
  (35, ⟨.ptr 59, 1, 8, none, false, false⟩),
  (46, ⟨.int .i64, 1, 8, some (.int .i64), true, false⟩),
  (49, ⟨.slice 4, 1, 24, some (.list .bool), false, false⟩),
  (58, ⟨.struct [(0, 22), (1, 3)], 2, 32, some (.pair (.list (.int .i64)) (.int .i64)), false, false⟩),
  (59, ⟨.struct [(0, 22), (1, 3)], 2, 32, some (.pair (.list (.int .i64)) (.int .i64)), false, false⟩),
  (61, ⟨.fn, 1, 8, none, false, false⟩),
  (63, ⟨.ptr 31, 1, 8, none, false, false⟩),
  (69, ⟨.fn, 1, 8, none, false, false⟩),
  (77, ⟨.fn, 1, 8, none, false, false⟩),
  (78, ⟨.map 3 77, 1, 8, none, false, false⟩),
  (93, ⟨.int .u64, 1, 8, some (.int .u64), true, false⟩),
  (103, ⟨.int .u64, 1, 8, some (.int .u64), true, false⟩),
  (106, ⟨.arr 33 3, 33, 264, none, false, true⟩),
  (107, ⟨.arr 33 106, 1089, 8712, none, false, true⟩),
  (108, ⟨.arr 33 106, 1089, 8712, none, false, true⟩),
  (115, ⟨.struct [(0, 3), (1, 3), (2, 3)], 3, 24, some (.pair (.int .i64) (.pair (.int .i64) (.int .i64))), true, false⟩),
  (116, ⟨.struct [(0, 3), (1, 3), (2, 3)], 3, 24, some (.pair (.int .i64) (.pair (.int .i64) (.int .i64))), true, false⟩)]
theorem tb : tbOk Go.Proofs.Try.prog T = true := by kernel_rfl
def Gt : Nat → Option (Go.IntKind × List Int) := fun g => none
def TabsOk (tabs : List (Nat × Go.Obj)) : Prop := True
theorem gt_ok {tabs : List (Nat × Go.Obj)} (ht : TabsOk tabs) : ∀ g k zs, Gt g = some (k, zs) → TabHas tabs g k zs := by
  intro g k zs h; cases h

/-! second_Few: shapesearch/shapesearchsecond.Few -/
noncomputable def second_Few.c : Go.Code := Go.Proofs.Try.f8.body.getD .skip
@[reducible] def second_Few.sh : Sh := ⟨[.one (.pv (.list (.int .i64)))], []⟩
@[reducible] def second_Few.osh : Sh := ⟨[.one (.pv .bool)], []⟩
def second_Few.hs : List Hint := []
def second_Few.E : Env := ⟨T, fun n ks => none, fun n => none, 6, 0, Gt⟩

/-! measure_name: shapesearch/measure.name -/
noncomputable def measure_name.c : Go.Code := Go.Proofs.Try.f51.body.getD .skip
@[reducible] def measure_name.sh : Sh := ⟨[.one (.pv (.int .i64))], []⟩
@[reducible] def measure_name.osh : Sh := ⟨[.one (.pv .str)], []⟩
def measure_name.hs : List Hint := []
def measure_name.E : Env := ⟨T, fun n ks => none, fun n => none, 14, 0, Gt⟩

/-! measure_Check: shapesearch/measure.Check -/
noncomputable def measure_Check.c : Go.Code := Go.Proofs.Try.f27.body.getD .skip
@[reducible] def measure_Check.sh : Sh := ⟨[.agg [.pv (.int .i64), .pv (.int .i64), .pv (.int .i64)]], []⟩
@[reducible] def measure_Check.osh : Sh := ⟨[.one (.pv (.int .i64))], []⟩
@[reducible] def measure_Check.s0 : Sh := ⟨[.one (.is (.ptr 0 0 0)), .one (.pv .bool)], [.box [.pv (.int .i64), .pv (.int .i64), .pv (.int .i64)]]⟩
@[reducible] def measure_Check.x0 : List (Ex × Sh) := [(.normal, ⟨[.one (.pv .bool)], []⟩)]
@[reducible] def measure_Check.s1 : Sh := ⟨[.one (.is (.ptr 0 0 0))], [.box [.pv (.int .i64), .pv (.int .i64), .pv (.int .i64)]]⟩
@[reducible] def measure_Check.x1 : List (Ex × Sh) := [(.normal, ⟨[.one (.is (.ptr 0 0 0)), .one (.pv .bool)], [.box [.pv (.int .i64), .pv (.int .i64), .pv (.int .i64)]]⟩)]
@[reducible] def measure_Check.s2 : Sh := ⟨[.one (.is (.ptr 0 0 0)), .one (.pv .bool)], [.box [.pv (.int .i64), .pv (.int .i64), .pv (.int .i64)]]⟩
@[reducible] def measure_Check.x2 : List (Ex × Sh) := [(.normal, ⟨[.one (.pv .bool)], []⟩)]
def measure_Check.hs : List Hint := [⟨[1, 0, 0, 0, 1], 0, [1, 3], [(0, [3])]⟩, ⟨[0, 1, 1, 0, 0, 0, 1], 1, [1], [(0, [1, 3])]⟩, ⟨[1, 1, 1, 0, 0, 0, 1], 2, [1, 3], [(0, [3])]⟩]
def measure_Check.E (g_measure_name : measure_name.sh.X → Option measure_name.osh.X) (l0 : ((Unit × Bool × Unit) × ((Int × Int × Int × Unit) × Unit)) → Option (((Bool × Unit) × (Unit)) ⊕ Empty)) (l1 : ((Unit × Unit) × ((Int × Int × Int × Unit) × Unit)) → Option (((Unit × Bool × Unit) × ((Int × Int × Int × Unit) × Unit)) ⊕ Empty)) (l2 : ((Unit × Bool × Unit) × ((Int × Int × Int × Unit) × Unit)) → Option (((Bool × Unit) × (Unit)) ⊕ Empty)) : Env := ⟨T, fun n ks => bif Nat.beq n 51 && eqPath ks [] then some (FE.of [true] false measure_name.sh measure_name.osh g_measure_name) else none, fun n => bif Nat.beq n 0 then some (LE.of measure_Check.s0 measure_Check.x0 l0) else bif Nat.beq n 1 then some (LE.of measure_Check.s1 measure_Check.x1 l1) else bif Nat.beq n 2 then some (LE.of measure_Check.s2 measure_Check.x2 l2) else none, 44, 0, Gt⟩

/-! profile_Sample: shapesearch/profile.Sample -/
noncomputable def profile_Sample.c : Go.Code := Go.Proofs.Try.f40.body.getD .skip
@[reducible] def profile_Sample.sh : Sh := ⟨[.one (.pv (.int .i64))], []⟩
@[reducible] def profile_Sample.osh : Sh := ⟨[.one (.pv .bool)], []⟩
def profile_Sample.hs : List Hint := []
def profile_Sample.E : Env := ⟨T, fun n ks => none, fun n => none, 13, 0, Gt⟩

/-! profile_Windows_1: shapesearch/profile.Windows$1 -/
noncomputable def profile_Windows_1.c : Go.Code := Go.Proofs.Try.f39.body.getD .skip
@[reducible] def profile_Windows_1.sh : Sh := ⟨[.one (.pv (.int .i64))], []⟩
@[reducible] def profile_Windows_1.osh : Sh := ⟨[.one (.pv .bool)], []⟩
def profile_Windows_1.hs : List Hint := []
def profile_Windows_1.E (g_profile_Sample : profile_Sample.sh.X → Option profile_Sample.osh.X) : Env := ⟨T, fun n ks => bif Nat.beq n 40 && eqPath ks [] then some (FE.of [true] false profile_Sample.sh profile_Sample.osh g_profile_Sample) else none, fun n => none, 6, 0, Gt⟩

/-! slices_IndexFunc: slices.IndexFunc[[]int,int] -/
noncomputable def slices_IndexFunc.c : Go.Code := Go.Proofs.Try.f57.body.getD .skip
@[reducible] def slices_IndexFunc.sh : Sh := ⟨[.one (.pv (.list (.int .i64))), .one (.is (.fn 39 []))], []⟩
@[reducible] def slices_IndexFunc.osh : Sh := ⟨[.one (.pv (.int .i64))], []⟩
@[reducible] def slices_IndexFunc.s0 : Sh := ⟨[.one (.pv (.list (.int .i64))), .one (.is (.fn 39 [])), .one (.pv (.int .i64)), .one (.pv (.int .i64))], []⟩
@[reducible] def slices_IndexFunc.x0 : List (Ex × Sh) := [(.exit 0, ⟨[], []⟩), (.ret, ⟨[.one (.pv (.int .i64))], []⟩)]
def slices_IndexFunc.hs : List Hint := [⟨[0, 1, 0, 1], 0, [0, 1, 7, 8], [(2, []), (1, [4])]⟩]
def slices_IndexFunc.E (g_profile_Windows_1 : profile_Windows_1.sh.X → Option profile_Windows_1.osh.X) (l0 : (((List Int) × Unit × Int × Int × Unit) × (Unit)) → Option (((Unit) × (Unit)) ⊕ ((Int × Unit) × (Unit)) ⊕ Empty)) : Env := ⟨T, fun n ks => bif Nat.beq n 39 && eqPath ks [] then some (FE.of [true] false profile_Windows_1.sh profile_Windows_1.osh g_profile_Windows_1) else none, fun n => bif Nat.beq n 0 then some (LE.of slices_IndexFunc.s0 slices_IndexFunc.x0 l0) else none, 19, 0, Gt⟩

/-! slices_ContainsFunc: slices.ContainsFunc[[]int,int] -/
noncomputable def slices_ContainsFunc.c : Go.Code := Go.Proofs.Try.f38.body.getD .skip
@[reducible] def slices_ContainsFunc.sh : Sh := ⟨[.one (.pv (.list (.int .i64))), .one (.is (.fn 39 []))], []⟩
@[reducible] def slices_ContainsFunc.osh : Sh := ⟨[.one (.pv .bool)], []⟩
def slices_ContainsFunc.hs : List Hint := []
def slices_ContainsFunc.E (g_slices_IndexFunc : slices_IndexFunc.sh.X → Option slices_IndexFunc.osh.X) : Env := ⟨T, fun n ks => bif Nat.beq n 57 && eqPath ks [39] then some (FE.of [true, true] false slices_IndexFunc.sh slices_IndexFunc.osh g_slices_IndexFunc) else none, fun n => none, 9, 0, Gt⟩

/-! profile_Length: shapesearch/profile.Length -/
noncomputable def profile_Length.c : Go.Code := Go.Proofs.Try.f28.body.getD .skip
@[reducible] def profile_Length.sh : Sh := ⟨[.one (.pv (.int .i64))], []⟩
@[reducible] def profile_Length.osh : Sh := ⟨[.one (.pv .bool)], []⟩
def profile_Length.hs : List Hint := []
def profile_Length.E : Env := ⟨T, fun n ks => none, fun n => none, 9, 0, Gt⟩

/-! slices_Index: slices.Index[[]int,int] -/
noncomputable def slices_Index.c : Go.Code := Go.Proofs.Try.f58.body.getD .skip
@[reducible] def slices_Index.sh : Sh := ⟨[.one (.pv (.list (.int .i64))), .one (.pv (.int .i64))], []⟩
@[reducible] def slices_Index.osh : Sh := ⟨[.one (.pv (.int .i64))], []⟩
@[reducible] def slices_Index.s0 : Sh := ⟨[.one (.pv (.list (.int .i64))), .one (.pv (.int .i64)), .one (.pv (.int .i64)), .one (.pv (.int .i64))], []⟩
@[reducible] def slices_Index.x0 : List (Ex × Sh) := [(.exit 0, ⟨[], []⟩), (.ret, ⟨[.one (.pv (.int .i64))], []⟩)]
def slices_Index.hs : List Hint := [⟨[0, 1, 0, 1], 0, [0, 1, 7, 8], [(2, []), (1, [4])]⟩]
def slices_Index.E (l0 : (((List Int) × Int × Int × Int × Unit) × (Unit)) → Option (((Unit) × (Unit)) ⊕ ((Int × Unit) × (Unit)) ⊕ Empty)) : Env := ⟨T, fun n ks => none, fun n => bif Nat.beq n 0 then some (LE.of slices_Index.s0 slices_Index.x0 l0) else none, 19, 0, Gt⟩

/-! slices_Contains: slices.Contains[[]int,int] -/
noncomputable def slices_Contains.c : Go.Code := Go.Proofs.Try.f41.body.getD .skip
@[reducible] def slices_Contains.sh : Sh := ⟨[.one (.pv (.list (.int .i64))), .one (.pv (.int .i64))], []⟩
@[reducible] def slices_Contains.osh : Sh := ⟨[.one (.pv .bool)], []⟩
def slices_Contains.hs : List Hint := []
def slices_Contains.E (g_slices_Index : slices_Index.sh.X → Option slices_Index.osh.X) : Env := ⟨T, fun n ks => bif Nat.beq n 58 && eqPath ks [] then some (FE.of [true, true] false slices_Index.sh slices_Index.osh g_slices_Index) else none, fun n => none, 9, 0, Gt⟩

/-! profile_Windows: shapesearch/profile.Windows -/
noncomputable def profile_Windows.c : Go.Code := Go.Proofs.Try.f22.body.getD .skip
@[reducible] def profile_Windows.sh : Sh := ⟨[.one (.pv (.list (.int .i64))), .one (.pv (.int .i64))], []⟩
@[reducible] def profile_Windows.osh : Sh := ⟨[.one (.is (.own 0)), .one (.pv (.int .i64))], [.row 4 .bool]⟩
@[reducible] def profile_Windows.s0 : Sh := ⟨[.one (.pv (.list (.int .i64))), .one (.pv (.int .i64)), .one (.is (.own 0)), .one (.pv (.int .i64)), .one (.pv (.int .i64))], [.row 4 .bool]⟩
@[reducible] def profile_Windows.x0 : List (Ex × Sh) := [(.exit 1, ⟨[.one (.is (.own 0))], [.row 4 .bool]⟩)]
def profile_Windows.hs : List Hint := [⟨[0, 1, 0, 1, 1, 1], 0, [0, 1, 6, 27, 28], [(3, [6])]⟩]
def profile_Windows.E (g_slices_ContainsFunc : slices_ContainsFunc.sh.X → Option slices_ContainsFunc.osh.X) (g_profile_Length : profile_Length.sh.X → Option profile_Length.osh.X) (g_slices_Contains : slices_Contains.sh.X → Option slices_Contains.osh.X) (l0 : (((List Int) × Int × Unit × Int × Int × Unit) × ((List Bool) × Unit)) → Option (((Unit × Unit) × ((List Bool) × Unit)) ⊕ Empty)) : Env := ⟨T, fun n ks => bif Nat.beq n 38 && eqPath ks [39] then some (FE.of [true, true] false slices_ContainsFunc.sh slices_ContainsFunc.osh g_slices_ContainsFunc) else bif Nat.beq n 28 && eqPath ks [] then some (FE.of [true] false profile_Length.sh profile_Length.osh g_profile_Length) else bif Nat.beq n 41 && eqPath ks [] then some (FE.of [true, true] false slices_Contains.sh slices_Contains.osh g_slices_Contains) else none, fun n => bif Nat.beq n 0 then some (LE.of profile_Windows.s0 profile_Windows.x0 l0) else none, 44, 0, Gt⟩

/-! profile_Zone: shapesearch/profile.Zone -/
noncomputable def profile_Zone.c : Go.Code := Go.Proofs.Try.f29.body.getD .skip
@[reducible] def profile_Zone.sh : Sh := ⟨[.one (.pv (.int .i64))], []⟩
@[reducible] def profile_Zone.osh : Sh := ⟨[.one (.pv .bool)], []⟩
def profile_Zone.hs : List Hint := []
def profile_Zone.E : Env := ⟨T, fun n ks => none, fun n => none, 9, 0, Gt⟩

/-! profile_None: shapesearch/profile.None -/
noncomputable def profile_None.c : Go.Code := Go.Proofs.Try.f36.body.getD .skip
@[reducible] def profile_None.sh : Sh := ⟨[], []⟩
@[reducible] def profile_None.osh : Sh := ⟨[.agg [.pv (.int .i64), .pv (.int .i64), .pv (.int .i64)]], []⟩
def profile_None.hs : List Hint := []
def profile_None.E : Env := ⟨T, fun n ks => none, fun n => none, 3, 0, Gt⟩

/-! measure_distances: shapesearch/measure.distances -/
noncomputable def measure_distances.c : Go.Code := Go.Proofs.Try.f56.body.getD .skip
@[reducible] def measure_distances.sh : Sh := ⟨[.agg [.pv (.int .i64), .pv (.int .i64), .pv (.int .i64)]], []⟩
@[reducible] def measure_distances.osh : Sh := ⟨[.one (.is (.fmap [(1, 76, []), (2, 79, []), (3, 80, []), (4, 81, [(0, 0)]), (5, 83, [(0, 0)])]))], [.box [.pv (.int .i64), .pv (.int .i64), .pv (.int .i64)]]⟩
def measure_distances.hs : List Hint := []
def measure_distances.E : Env := ⟨T, fun n ks => none, fun n => none, 7, 0, Gt⟩

/-! euclid_length: shapesearch/euclid.length -/
noncomputable def euclid_length.c : Go.Code := Go.Proofs.Try.f98.body.getD .skip
@[reducible] def euclid_length.sh : Sh := ⟨[.one (.pv (.list (.int .i64)))], []⟩
@[reducible] def euclid_length.osh : Sh := ⟨[.one (.pv .bool)], []⟩
def euclid_length.hs : List Hint := []
def euclid_length.E : Env := ⟨T, fun n ks => none, fun n => none, 11, 0, Gt⟩

/-! euclid_samples: shapesearch/euclid.samples -/
noncomputable def euclid_samples.c : Go.Code := Go.Proofs.Try.f99.body.getD .skip
@[reducible] def euclid_samples.sh : Sh := ⟨[.one (.pv (.list (.int .i64)))], []⟩
@[reducible] def euclid_samples.osh : Sh := ⟨[.one (.pv .bool)], []⟩
@[reducible] def euclid_samples.s0 : Sh := ⟨[.one (.pv (.list (.int .i64))), .one (.pv (.int .i64)), .one (.pv (.int .i64))], []⟩
@[reducible] def euclid_samples.x0 : List (Ex × Sh) := [(.exit 0, ⟨[], []⟩), (.ret, ⟨[.one (.pv .bool)], []⟩)]
def euclid_samples.hs : List Hint := [⟨[0, 1, 0, 1], 0, [5, 6, 7], [(2, []), (1, [2])]⟩]
def euclid_samples.E (l0 : (((List Int) × Int × Int × Unit) × (Unit)) → Option (((Unit) × (Unit)) ⊕ ((Bool × Unit) × (Unit)) ⊕ Empty)) : Env := ⟨T, fun n ks => none, fun n => bif Nat.beq n 0 then some (LE.of euclid_samples.s0 euclid_samples.x0 l0) else none, 18, 0, Gt⟩

/-! euclid_check: shapesearch/euclid.check -/
noncomputable def euclid_check.c : Go.Code := Go.Proofs.Try.f91.body.getD .skip
@[reducible] def euclid_check.sh : Sh := ⟨[.one (.pv (.list (.int .i64))), .one (.pv (.list (.int .i64)))], []⟩
@[reducible] def euclid_check.osh : Sh := ⟨[.one (.pv (.int .i64))], []⟩
@[reducible] def euclid_check.s0 : Sh := ⟨[.one (.pv (.list (.int .i64))), .one (.pv (.list (.int .i64)))], []⟩
@[reducible] def euclid_check.x0 : List (Ex × Sh) := [(.normal, ⟨[.one (.pv (.list (.int .i64))), .one (.pv (.list (.int .i64))), .one (.pv .bool)], []⟩)]
@[reducible] def euclid_check.s1 : Sh := ⟨[.one (.pv (.list (.int .i64))), .one (.pv (.list (.int .i64)))], []⟩
@[reducible] def euclid_check.x1 : List (Ex × Sh) := [(.normal, ⟨[.one (.pv (.list (.int .i64))), .one (.pv (.list (.int .i64))), .one (.pv .bool)], []⟩)]
def euclid_check.hs : List Hint := [⟨[0, 0, 0, 1], 0, [0, 1], [(0, [0, 1, 5])]⟩, ⟨[0, 1, 1, 0, 0, 1], 1, [0, 1], [(0, [0, 1, 14])]⟩]
def euclid_check.E (g_euclid_length : euclid_length.sh.X → Option euclid_length.osh.X) (g_euclid_samples : euclid_samples.sh.X → Option euclid_samples.osh.X) (l0 : (((List Int) × (List Int) × Unit) × (Unit)) → Option ((((List Int) × (List Int) × Bool × Unit) × (Unit)) ⊕ Empty)) (l1 : (((List Int) × (List Int) × Unit) × (Unit)) → Option ((((List Int) × (List Int) × Bool × Unit) × (Unit)) ⊕ Empty)) : Env := ⟨T, fun n ks => bif Nat.beq n 98 && eqPath ks [] then some (FE.of [true] false euclid_length.sh euclid_length.osh g_euclid_length) else bif Nat.beq n 99 && eqPath ks [] then some (FE.of [true] false euclid_samples.sh euclid_samples.osh g_euclid_samples) else none, fun n => bif Nat.beq n 0 then some (LE.of euclid_check.s0 euclid_check.x0 l0) else bif Nat.beq n 1 then some (LE.of euclid_check.s1 euclid_check.x1 l1) else none, 29, 0, Gt⟩

/-! euclid_square: shapesearch/euclid.square -/
noncomputable def euclid_square.c : Go.Code := Go.Proofs.Try.f92.body.getD .skip
@[reducible] def euclid_square.sh : Sh := ⟨[.one (.pv (.list (.int .i64))), .one (.pv (.list (.int .i64)))], []⟩
@[reducible] def euclid_square.osh : Sh := ⟨[.one (.pv (.int .i64))], []⟩
@[reducible] def euclid_square.s0 : Sh := ⟨[.one (.pv (.list (.int .i64))), .one (.pv (.int .i64)), .one (.pv (.list (.int .i64))), .one (.pv (.int .i64)), .one (.pv (.int .i64))], []⟩
@[reducible] def euclid_square.x0 : List (Ex × Sh) := [(.exit 0, ⟨[.one (.pv (.int .i64))], []⟩)]
def euclid_square.hs : List Hint := [⟨[0, 1, 0, 1, 1], 0, [1, 5, 8, 9, 10], [(2, [5])]⟩]
def euclid_square.E (l0 : (((List Int) × Int × (List Int) × Int × Int × Unit) × (Unit)) → Option (((Int × Unit) × (Unit)) ⊕ Empty)) : Env := ⟨T, fun n ks => none, fun n => bif Nat.beq n 0 then some (LE.of euclid_square.s0 euclid_square.x0 l0) else none, 32, 0, Gt⟩

/-! euclid_Distance: shapesearch/euclid.Distance -/
noncomputable def euclid_Distance.c : Go.Code := Go.Proofs.Try.f78.body.getD .skip
@[reducible] def euclid_Distance.sh : Sh := ⟨[.one (.pv (.list (.int .i64))), .one (.pv (.list (.int .i64)))], []⟩
@[reducible] def euclid_Distance.osh : Sh := ⟨[.one (.pv (.int .i64)), .one (.pv (.int .i64))], []⟩
def euclid_Distance.hs : List Hint := []
def euclid_Distance.E (g_euclid_check : euclid_check.sh.X → Option euclid_check.osh.X) (g_euclid_square : euclid_square.sh.X → Option euclid_square.osh.X) : Env := ⟨T, fun n ks => bif Nat.beq n 91 && eqPath ks [] then some (FE.of [true, true] false euclid_check.sh euclid_check.osh g_euclid_check) else bif Nat.beq n 92 && eqPath ks [] then some (FE.of [true, true] false euclid_square.sh euclid_square.osh g_euclid_square) else none, fun n => none, 16, 0, Gt⟩

/-! ratio_divisor: shapesearch/ratio.divisor -/
noncomputable def ratio_divisor.c : Go.Code := Go.Proofs.Try.f73.body.getD .skip
@[reducible] def ratio_divisor.sh : Sh := ⟨[.one (.pv (.int .i64)), .one (.pv (.int .i64))], []⟩
@[reducible] def ratio_divisor.osh : Sh := ⟨[.one (.pv (.int .i64))], []⟩
@[reducible] def ratio_divisor.s0 : Sh := ⟨[.one (.pv (.int .i64)), .one (.pv (.int .i64))], []⟩
@[reducible] def ratio_divisor.x0 : List (Ex × Sh) := [(.exit 0, ⟨[.one (.pv (.int .i64))], []⟩)]
def ratio_divisor.hs : List Hint := [⟨[0, 0, 1], 0, [0, 1], [(2, [0])]⟩]
def ratio_divisor.E (l0 : ((Int × Int × Unit) × (Unit)) → Option (((Int × Unit) × (Unit)) ⊕ Empty)) : Env := ⟨T, fun n ks => none, fun n => bif Nat.beq n 0 then some (LE.of ratio_divisor.s0 ratio_divisor.x0 l0) else none, 12, 0, Gt⟩

/-! ratio_within: shapesearch/ratio.within -/
noncomputable def ratio_within.c : Go.Code := Go.Proofs.Try.f72.body.getD .skip
@[reducible] def ratio_within.sh : Sh := ⟨[.agg [.pv (.int .i64), .pv (.int .i64)]], []⟩
@[reducible] def ratio_within.osh : Sh := ⟨[.one (.pv .bool)], []⟩
def ratio_within.hs : List Hint := []
def ratio_within.E : Env := ⟨T, fun n ks => none, fun n => none, 21, 0, Gt⟩

/-! ratio_Make: shapesearch/ratio.Make -/
noncomputable def ratio_Make.c : Go.Code := Go.Proofs.Try.f90.body.getD .skip
@[reducible] def ratio_Make.sh : Sh := ⟨[.one (.pv (.int .i64)), .one (.pv (.int .i64))], []⟩
@[reducible] def ratio_Make.osh : Sh := ⟨[.agg [.pv (.int .i64), .pv (.int .i64)], .one (.pv (.int .i64))], []⟩
@[reducible] def ratio_Make.s0 : Sh := ⟨[.one (.pv (.int .i64)), .one (.pv (.int .i64)), .one (.is (.ptr 0 0 0))], [.box [.pv (.int .i64), .pv (.int .i64)]]⟩
@[reducible] def ratio_Make.x0 : List (Ex × Sh) := [(.normal, ⟨[.one (.pv (.int .i64)), .one (.pv (.int .i64)), .one (.is (.ptr 0 0 0)), .one (.pv .bool)], [.box [.pv (.int .i64), .pv (.int .i64)]]⟩)]
def ratio_Make.hs : List Hint := [⟨[0, 0, 1], 0, [0, 1, 4], [(0, [0, 1, 4, 13])]⟩]
def ratio_Make.E (g_ratio_divisor : ratio_divisor.sh.X → Option ratio_divisor.osh.X) (g_ratio_within : ratio_within.sh.X → Option ratio_within.osh.X) (l0 : ((Int × Int × Unit × Unit) × ((Int × Int × Unit) × Unit)) → Option (((Int × Int × Unit × Bool × Unit) × ((Int × Int × Unit) × Unit)) ⊕ Empty)) : Env := ⟨T, fun n ks => bif Nat.beq n 73 && eqPath ks [] then some (FE.of [true, true] false ratio_divisor.sh ratio_divisor.osh g_ratio_divisor) else bif Nat.beq n 72 && eqPath ks [] then some (FE.of [true] false ratio_within.sh ratio_within.osh g_ratio_within) else none, fun n => bif Nat.beq n 0 then some (LE.of ratio_Make.s0 ratio_Make.x0 l0) else none, 30, 0, Gt⟩

/-! measure_whole: shapesearch/measure.whole -/
noncomputable def measure_whole.c : Go.Code := Go.Proofs.Try.f77.body.getD .skip
@[reducible] def measure_whole.sh : Sh := ⟨[.one (.pv (.int .i64)), .one (.pv (.int .i64))], []⟩
@[reducible] def measure_whole.osh : Sh := ⟨[.agg [.pv (.int .i64), .pv (.int .i64)], .one (.pv (.int .i64))], []⟩
def measure_whole.hs : List Hint := []
def measure_whole.E (g_ratio_Make : ratio_Make.sh.X → Option ratio_Make.osh.X) : Env := ⟨T, fun n ks => bif Nat.beq n 90 && eqPath ks [] then some (FE.of [true, true] false ratio_Make.sh ratio_Make.osh g_ratio_Make) else none, fun n => none, 14, 0, Gt⟩

/-! measure_distances_1: shapesearch/measure.distances$1 -/
noncomputable def measure_distances_1.c : Go.Code := Go.Proofs.Try.f76.body.getD .skip
@[reducible] def measure_distances_1.sh : Sh := ⟨[.one (.pv (.list (.int .i64))), .one (.pv (.list (.int .i64)))], []⟩
@[reducible] def measure_distances_1.osh : Sh := ⟨[.agg [.pv (.int .i64), .pv (.int .i64)], .one (.pv (.int .i64))], []⟩
def measure_distances_1.hs : List Hint := []
def measure_distances_1.E (g_euclid_Distance : euclid_Distance.sh.X → Option euclid_Distance.osh.X) (g_measure_whole : measure_whole.sh.X → Option measure_whole.osh.X) : Env := ⟨T, fun n ks => bif Nat.beq n 78 && eqPath ks [] then some (FE.of [true, true] false euclid_Distance.sh euclid_Distance.osh g_euclid_Distance) else bif Nat.beq n 77 && eqPath ks [] then some (FE.of [true, true] false measure_whole.sh measure_whole.osh g_measure_whole) else none, fun n => none, 14, 0, Gt⟩

/-! euclid_Shifted: shapesearch/euclid.Shifted -/
noncomputable def euclid_Shifted.c : Go.Code := Go.Proofs.Try.f79.body.getD .skip
@[reducible] def euclid_Shifted.sh : Sh := ⟨[.one (.pv (.list (.int .i64))), .one (.pv (.list (.int .i64)))], []⟩
@[reducible] def euclid_Shifted.osh : Sh := ⟨[.agg [.pv (.int .i64), .pv (.int .i64)], .one (.pv (.int .i64))], []⟩
@[reducible] def euclid_Shifted.s0 : Sh := ⟨[.one (.pv (.list (.int .i64))), .one (.pv (.list (.int .i64))), .one (.is (.ptr 0 0 0)), .one (.pv (.int .i64)), .one (.pv (.int .i64)), .one (.pv (.list (.int .i64))), .one (.pv (.int .i64)), .one (.pv (.int .i64))], [.box [.pv (.int .i64), .pv (.int .i64)]]⟩
@[reducible] def euclid_Shifted.x0 : List (Ex × Sh) := [(.exit 0, ⟨[.one (.pv (.list (.int .i64))), .one (.pv (.list (.int .i64))), .one (.is (.ptr 0 0 0)), .one (.pv (.int .i64)), .one (.pv (.int .i64))], [.box [.pv (.int .i64), .pv (.int .i64)]]⟩)]
def euclid_Shifted.hs : List Hint := [⟨[0, 1, 0, 1, 1, 1], 0, [0, 1, 4, 7, 8, 20, 21, 22], [(2, [0, 1, 4, 7, 8])]⟩]
def euclid_Shifted.E (g_euclid_check : euclid_check.sh.X → Option euclid_check.osh.X) (g_euclid_square : euclid_square.sh.X → Option euclid_square.osh.X) (g_ratio_Make : ratio_Make.sh.X → Option ratio_Make.osh.X) (l0 : (((List Int) × (List Int) × Unit × Int × Int × (List Int) × Int × Int × Unit) × ((Int × Int × Unit) × Unit)) → Option ((((List Int) × (List Int) × Unit × Int × Int × Unit) × ((Int × Int × Unit) × Unit)) ⊕ Empty)) : Env := ⟨T, fun n ks => bif Nat.beq n 91 && eqPath ks [] then some (FE.of [true, true] false euclid_check.sh euclid_check.osh g_euclid_check) else bif Nat.beq n 92 && eqPath ks [] then some (FE.of [true, true] false euclid_square.sh euclid_square.osh g_euclid_square) else bif Nat.beq n 90 && eqPath ks [] then some (FE.of [true, true] false ratio_Make.sh ratio_Make.osh g_ratio_Make) else none, fun n => bif Nat.beq n 0 then some (LE.of euclid_Shifted.s0 euclid_Shifted.x0 l0) else none, 49, 0, Gt⟩

/-! window_Variance: shapesearch/window.Variance -/
noncomputable def window_Variance.c : Go.Code := Go.Proofs.Try.f105.body.getD .skip
@[reducible] def window_Variance.sh : Sh := ⟨[.agg [.pv (.int .i64), .pv (.int .i64), .pv (.int .i64)]], []⟩
@[reducible] def window_Variance.osh : Sh := ⟨[.one (.pv (.int .i64))], []⟩
@[reducible] def window_Variance.s0 : Sh := ⟨[.one (.is (.ptr 0 0 0))], [.box [.pv (.int .i64), .pv (.int .i64), .pv (.int .i64)]]⟩
@[reducible] def window_Variance.x0 : List (Ex × Sh) := [(.normal, ⟨[.one (.is (.ptr 0 0 0)), .one (.pv .bool)], [.box [.pv (.int .i64), .pv (.int .i64), .pv (.int .i64)]]⟩)]
def window_Variance.hs : List Hint := [⟨[0, 0, 1], 0, [1], [(0, [1, 39])]⟩]
def window_Variance.E (l0 : ((Unit × Unit) × ((Int × Int × Int × Unit) × Unit)) → Option (((Unit × Bool × Unit) × ((Int × Int × Int × Unit) × Unit)) ⊕ Empty)) : Env := ⟨T, fun n ks => none, fun n => bif Nat.beq n 0 then some (LE.of window_Variance.s0 window_Variance.x0 l0) else none, 52, 0, Gt⟩

/-! normal_variance: shapesearch/normal.variance -/
noncomputable def normal_variance.c : Go.Code := Go.Proofs.Try.f100.body.getD .skip
@[reducible] def normal_variance.sh : Sh := ⟨[.one (.pv (.list (.int .i64)))], []⟩
@[reducible] def normal_variance.osh : Sh := ⟨[.one (.pv (.int .i64))], []⟩
@[reducible] def normal_variance.s0 : Sh := ⟨[.one (.is (.ptr 0 0 0)), .one (.pv (.list (.int .i64))), .one (.pv (.int .i64)), .one (.pv (.int .i64))], [.box [.pv (.int .i64), .pv (.int .i64), .pv (.int .i64)]]⟩
@[reducible] def normal_variance.x0 : List (Ex × Sh) := [(.exit 0, ⟨[.one (.is (.ptr 0 0 0))], [.box [.pv (.int .i64), .pv (.int .i64), .pv (.int .i64)]]⟩)]
def normal_variance.hs : List Hint := [⟨[0, 1, 0, 1, 1], 0, [3, 9, 10, 11], [(2, [3])]⟩]
def normal_variance.E (g_window_Variance : window_Variance.sh.X → Option window_Variance.osh.X) (l0 : ((Unit × (List Int) × Int × Int × Unit) × ((Int × Int × Int × Unit) × Unit)) → Option (((Unit × Unit) × ((Int × Int × Int × Unit) × Unit)) ⊕ Empty)) : Env := ⟨T, fun n ks => bif Nat.beq n 105 && eqPath ks [] then some (FE.of [true] false window_Variance.sh window_Variance.osh g_window_Variance) else none, fun n => bif Nat.beq n 0 then some (LE.of normal_variance.s0 normal_variance.x0 l0) else none, 30, 0, Gt⟩

/-! normal_product: shapesearch/normal.product -/
noncomputable def normal_product.c : Go.Code := Go.Proofs.Try.f101.body.getD .skip
@[reducible] def normal_product.sh : Sh := ⟨[.one (.pv (.list (.int .i64))), .one (.pv (.list (.int .i64)))], []⟩
@[reducible] def normal_product.osh : Sh := ⟨[.one (.pv (.int .i64))], []⟩
@[reducible] def normal_product.s0 : Sh := ⟨[.one (.pv (.list (.int .i64))), .one (.pv (.list (.int .i64))), .one (.pv (.int .i64)), .one (.pv (.int .i64)), .one (.pv (.int .i64)), .one (.pv (.list (.int .i64))), .one (.pv (.int .i64)), .one (.pv (.int .i64))], []⟩
@[reducible] def normal_product.x0 : List (Ex × Sh) := [(.exit 0, ⟨[.one (.pv (.list (.int .i64))), .one (.pv (.int .i64)), .one (.pv (.int .i64)), .one (.pv (.int .i64))], []⟩)]
def normal_product.hs : List Hint := [⟨[0, 1, 0, 1, 1], 0, [0, 1, 5, 6, 7, 10, 11, 12], [(2, [0, 5, 6, 7])]⟩]
def normal_product.E (l0 : (((List Int) × (List Int) × Int × Int × Int × (List Int) × Int × Int × Unit) × (Unit)) → Option ((((List Int) × Int × Int × Int × Unit) × (Unit)) ⊕ Empty)) : Env := ⟨T, fun n ks => none, fun n => bif Nat.beq n 0 then some (LE.of normal_product.s0 normal_product.x0 l0) else none, 43, 0, Gt⟩

/-! normal_gap: shapesearch/normal.gap -/
noncomputable def normal_gap.c : Go.Code := Go.Proofs.Try.f93.body.getD .skip
@[reducible] def normal_gap.sh : Sh := ⟨[.one (.pv (.list (.int .i64))), .one (.pv (.list (.int .i64)))], []⟩
@[reducible] def normal_gap.osh : Sh := ⟨[.agg [.pv (.int .i64), .pv (.int .i64)], .one (.pv (.int .i64))], []⟩
@[reducible] def normal_gap.s0 : Sh := ⟨[.one (.pv (.list (.int .i64))), .one (.pv (.list (.int .i64))), .one (.is (.ptr 0 0 0)), .one (.pv (.int .i64)), .one (.pv (.int .i64))], [.box [.pv (.int .i64), .pv (.int .i64)]]⟩
@[reducible] def normal_gap.x0 : List (Ex × Sh) := [(.ret, ⟨[.one (.is (.ptr 0 0 0)), .one (.pv (.int .i64))], [.box [.pv (.int .i64), .pv (.int .i64)]]⟩), (.normal, ⟨[.one (.pv (.list (.int .i64))), .one (.pv (.list (.int .i64))), .one (.is (.ptr 0 0 0)), .one (.pv (.int .i64)), .one (.pv (.int .i64))], [.box [.pv (.int .i64), .pv (.int .i64)]]⟩)]
@[reducible] def normal_gap.s1 : Sh := ⟨[.one (.pv (.list (.int .i64))), .one (.pv (.list (.int .i64))), .one (.is (.ptr 0 0 0)), .one (.pv (.int .i64)), .one (.pv (.int .i64))], [.box [.pv (.int .i64), .pv (.int .i64)]]⟩
@[reducible] def normal_gap.x1 : List (Ex × Sh) := [(.normal, ⟨[.one (.pv (.list (.int .i64))), .one (.pv (.list (.int .i64))), .one (.is (.ptr 0 0 0)), .one (.pv (.int .i64)), .one (.pv (.int .i64)), .one (.pv .bool)], [.box [.pv (.int .i64), .pv (.int .i64)]]⟩)]
def normal_gap.hs : List Hint := [⟨[0, 1, 1], 0, [0, 1, 4, 6, 7], [(1, [4, 5]), (0, [0, 1, 4, 6, 7])]⟩, ⟨[0, 0, 0, 1, 1], 1, [0, 1, 4, 6, 7], [(0, [0, 1, 4, 6, 7, 13])]⟩]
def normal_gap.E (g_normal_variance : normal_variance.sh.X → Option normal_variance.osh.X) (g_ratio_Make : ratio_Make.sh.X → Option ratio_Make.osh.X) (g_normal_product : normal_product.sh.X → Option normal_product.osh.X) (l0 : (((List Int) × (List Int) × Unit × Int × Int × Unit) × ((Int × Int × Unit) × Unit)) → Option (((Unit × Int × Unit) × ((Int × Int × Unit) × Unit)) ⊕ (((List Int) × (List Int) × Unit × Int × Int × Unit) × ((Int × Int × Unit) × Unit)) ⊕ Empty)) (l1 : (((List Int) × (List Int) × Unit × Int × Int × Unit) × ((Int × Int × Unit) × Unit)) → Option ((((List Int) × (List Int) × Unit × Int × Int × Bool × Unit) × ((Int × Int × Unit) × Unit)) ⊕ Empty)) : Env := ⟨T, fun n ks => bif Nat.beq n 100 && eqPath ks [] then some (FE.of [true] false normal_variance.sh normal_variance.osh g_normal_variance) else bif Nat.beq n 90 && eqPath ks [] then some (FE.of [true, true] false ratio_Make.sh ratio_Make.osh g_ratio_Make) else bif Nat.beq n 101 && eqPath ks [] then some (FE.of [true, true] false normal_product.sh normal_product.osh g_normal_product) else none, fun n => bif Nat.beq n 0 then some (LE.of normal_gap.s0 normal_gap.x0 l0) else bif Nat.beq n 1 then some (LE.of normal_gap.s1 normal_gap.x1 l1) else none, 64, 0, Gt⟩

/-! normal_Gap: shapesearch/normal.Gap -/
noncomputable def normal_Gap.c : Go.Code := Go.Proofs.Try.f80.body.getD .skip
@[reducible] def normal_Gap.sh : Sh := ⟨[.one (.pv (.list (.int .i64))), .one (.pv (.list (.int .i64)))], []⟩
@[reducible] def normal_Gap.osh : Sh := ⟨[.agg [.pv (.int .i64), .pv (.int .i64)], .one (.pv (.int .i64))], []⟩
def normal_Gap.hs : List Hint := []
def normal_Gap.E (g_euclid_Distance : euclid_Distance.sh.X → Option euclid_Distance.osh.X) (g_normal_gap : normal_gap.sh.X → Option normal_gap.osh.X) : Env := ⟨T, fun n ks => bif Nat.beq n 78 && eqPath ks [] then some (FE.of [true, true] false euclid_Distance.sh euclid_Distance.osh g_euclid_Distance) else bif Nat.beq n 93 && eqPath ks [] then some (FE.of [true, true] false normal_gap.sh normal_gap.osh g_normal_gap) else none, fun n => none, 23, 0, Gt⟩

/-! warp_check: shapesearch/warp.check -/
noncomputable def warp_check.c : Go.Code := Go.Proofs.Try.f94.body.getD .skip
@[reducible] def warp_check.sh : Sh := ⟨[.one (.pv (.list (.int .i64))), .one (.pv (.list (.int .i64))), .one (.pv (.int .i64))], []⟩
@[reducible] def warp_check.osh : Sh := ⟨[.one (.pv (.int .i64))], []⟩
@[reducible] def warp_check.s0 : Sh := ⟨[.one (.pv (.list (.int .i64))), .one (.pv (.list (.int .i64))), .one (.pv (.int .i64))], []⟩
@[reducible] def warp_check.x0 : List (Ex × Sh) := [(.normal, ⟨[.one (.pv (.list (.int .i64))), .one (.pv (.list (.int .i64))), .one (.pv (.int .i64)), .one (.pv .bool)], []⟩)]
@[reducible] def warp_check.s1 : Sh := ⟨[.one (.pv (.list (.int .i64))), .one (.pv (.list (.int .i64))), .one (.pv (.int .i64)), .one (.pv (.int .i64)), .one (.pv (.int .i64))], []⟩
@[reducible] def warp_check.x1 : List (Ex × Sh) := [(.normal, ⟨[.one (.pv (.list (.int .i64))), .one (.pv (.list (.int .i64))), .one (.pv (.int .i64)), .one (.pv (.int .i64)), .one (.pv (.int .i64)), .one (.pv .bool)], []⟩)]
def warp_check.hs : List Hint := [⟨[0, 0, 1], 0, [0, 1, 2], [(0, [0, 1, 2, 16])]⟩, ⟨[0, 0, 0, 1, 1, 1, 1], 1, [0, 1, 2, 8, 10], [(0, [0, 1, 2, 8, 10, 29])]⟩]
def warp_check.E (g_euclid_Distance : euclid_Distance.sh.X → Option euclid_Distance.osh.X) (l0 : (((List Int) × (List Int) × Int × Unit) × (Unit)) → Option ((((List Int) × (List Int) × Int × Bool × Unit) × (Unit)) ⊕ Empty)) (l1 : (((List Int) × (List Int) × Int × Int × Int × Unit) × (Unit)) → Option ((((List Int) × (List Int) × Int × Int × Int × Bool × Unit) × (Unit)) ⊕ Empty)) : Env := ⟨T, fun n ks => bif Nat.beq n 78 && eqPath ks [] then some (FE.of [true, true] false euclid_Distance.sh euclid_Distance.osh g_euclid_Distance) else none, fun n => bif Nat.beq n 0 then some (LE.of warp_check.s0 warp_check.x0 l0) else bif Nat.beq n 1 then some (LE.of warp_check.s1 warp_check.x1 l1) else none, 61, 0, Gt⟩

/-! warp_near: shapesearch/warp.near -/
noncomputable def warp_near.c : Go.Code := Go.Proofs.Try.f106.body.getD .skip
@[reducible] def warp_near.sh : Sh := ⟨[.one (.pv (.int .i64)), .one (.pv (.int .i64)), .one (.pv (.int .i64))], []⟩
@[reducible] def warp_near.osh : Sh := ⟨[.one (.pv .bool)], []⟩
def warp_near.hs : List Hint := []
def warp_near.E : Env := ⟨T, fun n ks => none, fun n => none, 19, 0, Gt⟩

/-! warp_fill: shapesearch/warp.fill -/
noncomputable def warp_fill.c : Go.Code := Go.Proofs.Try.f102.body.getD .skip
@[reducible] def warp_fill.sh : Sh := ⟨[.one (.is (.own 0)), .one (.pv (.list (.int .i64))), .one (.pv (.list (.int .i64))), .one (.pv (.list (.int .i64))), .one (.pv (.int .i64)), .one (.pv (.int .i64))], [.row 3 (.int .i64)]⟩
@[reducible] def warp_fill.osh : Sh := ⟨[], [.row 3 (.int .i64)]⟩
@[reducible] def warp_fill.s0 : Sh := ⟨[.one (.is (.own 0)), .one (.pv (.list (.int .i64))), .one (.pv (.list (.int .i64))), .one (.pv (.list (.int .i64))), .one (.pv (.int .i64)), .one (.pv (.int .i64)), .one (.pv (.int .i64)), .one (.pv (.int .i64))], [.row 3 (.int .i64)]⟩
@[reducible] def warp_fill.x0 : List (Ex × Sh) := [(.exit 0, ⟨[], [.row 3 (.int .i64)]⟩)]
@[reducible] def warp_fill.s1 : Sh := ⟨[.one (.is (.own 0)), .one (.pv (.list (.int .i64))), .one (.pv (.list (.int .i64))), .one (.pv (.list (.int .i64))), .one (.pv (.int .i64)), .one (.pv (.int .i64)), .one (.pv (.int .i64)), .one (.pv (.int .i64)), .one (.pv (.int .i64)), .one (.pv (.int .i64))], [.row 3 (.int .i64)]⟩
@[reducible] def warp_fill.x1 : List (Ex × Sh) := [(.normal, ⟨[.one (.is (.own 0)), .one (.pv (.list (.int .i64))), .one (.pv (.list (.int .i64))), .one (.pv (.list (.int .i64))), .one (.pv (.int .i64)), .one (.pv (.int .i64)), .one (.pv (.int .i64)), .one (.pv (.int .i64)), .one (.pv (.int .i64)), .one (.pv (.int .i64)), .one (.pv .bool)], [.row 3 (.int .i64)]⟩)]
@[reducible] def warp_fill.s2 : Sh := ⟨[.one (.is (.own 0)), .one (.pv (.list (.int .i64))), .one (.pv (.list (.int .i64))), .one (.pv (.list (.int .i64))), .one (.pv (.int .i64)), .one (.pv (.int .i64)), .one (.pv (.int .i64)), .one (.pv (.int .i64)), .one (.pv (.int .i64)), .one (.pv (.int .i64)), .one (.pv .bool)], [.row 3 (.int .i64)]⟩
@[reducible] def warp_fill.x2 : List (Ex × Sh) := [(.normal, ⟨[.one (.is (.own 0)), .one (.pv (.list (.int .i64))), .one (.pv (.list (.int .i64))), .one (.pv (.list (.int .i64))), .one (.pv (.int .i64)), .one (.pv (.int .i64)), .one (.pv (.int .i64)), .one (.pv (.int .i64)), .one (.pv (.int .i64)), .one (.pv (.int .i64))], [.row 3 (.int .i64)]⟩)]
@[reducible] def warp_fill.s3 : Sh := ⟨[.one (.is (.own 0)), .one (.pv (.list (.int .i64))), .one (.pv (.list (.int .i64))), .one (.pv (.list (.int .i64))), .one (.pv (.int .i64)), .one (.pv (.int .i64)), .one (.pv (.int .i64)), .one (.pv (.int .i64)), .one (.pv (.int .i64)), .one (.pv (.int .i64)), .one (.pv .bool)], [.row 3 (.int .i64)]⟩
@[reducible] def warp_fill.x3 : List (Ex × Sh) := [(.normal, ⟨[.one (.is (.own 0)), .one (.pv (.list (.int .i64))), .one (.pv (.list (.int .i64))), .one (.pv (.list (.int .i64))), .one (.pv (.int .i64)), .one (.pv (.int .i64)), .one (.pv (.int .i64)), .one (.pv (.int .i64)), .one (.pv (.int .i64)), .one (.pv (.int .i64))], [.row 3 (.int .i64)]⟩)]
@[reducible] def warp_fill.s4 : Sh := ⟨[.one (.is (.own 0)), .one (.pv (.list (.int .i64))), .one (.pv (.list (.int .i64))), .one (.pv (.list (.int .i64))), .one (.pv (.int .i64)), .one (.pv (.int .i64)), .one (.pv (.int .i64)), .one (.pv (.int .i64)), .one (.pv (.int .i64)), .one (.pv (.int .i64)), .one (.pv .bool)], [.row 3 (.int .i64)]⟩
@[reducible] def warp_fill.x4 : List (Ex × Sh) := [(.normal, ⟨[.one (.is (.own 0)), .one (.pv (.list (.int .i64))), .one (.pv (.list (.int .i64))), .one (.pv (.list (.int .i64))), .one (.pv (.int .i64)), .one (.pv (.int .i64)), .one (.pv (.int .i64)), .one (.pv (.int .i64)), .one (.pv (.int .i64)), .one (.pv (.int .i64))], [.row 3 (.int .i64)]⟩)]
@[reducible] def warp_fill.s5 : Sh := ⟨[.one (.is (.own 0)), .one (.pv (.list (.int .i64))), .one (.pv (.list (.int .i64))), .one (.pv (.list (.int .i64))), .one (.pv (.int .i64)), .one (.pv (.int .i64)), .one (.pv (.int .i64)), .one (.pv (.int .i64)), .one (.pv (.int .i64)), .one (.pv (.int .i64))], [.row 3 (.int .i64)]⟩
@[reducible] def warp_fill.x5 : List (Ex × Sh) := [(.normal, ⟨[.one (.is (.own 0)), .one (.pv (.list (.int .i64))), .one (.pv (.list (.int .i64))), .one (.pv (.list (.int .i64))), .one (.pv (.int .i64)), .one (.pv (.int .i64)), .one (.pv (.int .i64)), .one (.pv (.int .i64)), .one (.pv (.int .i64)), .one (.pv (.int .i64)), .one (.pv .bool)], [.row 3 (.int .i64)]⟩)]
def warp_fill.hs : List Hint := [⟨[0, 1], 0, [0, 1, 2, 3, 4, 5, 15, 16], [(2, [])]⟩, ⟨[0, 0, 1, 1, 1, 1, 0, 0, 1, 1, 0, 0, 1], 1, [0, 1, 2, 3, 4, 5, 12, 13, 15, 16], [(0, [0, 1, 2, 3, 4, 5, 12, 13, 15, 16, 32])]⟩, ⟨[1, 0, 1, 1, 1, 1, 0, 0, 1, 1, 0, 0, 1], 2, [0, 1, 2, 3, 4, 5, 12, 13, 15, 16, 32], [(0, [0, 1, 2, 3, 4, 5, 12, 13, 15, 16])]⟩, ⟨[1, 0, 1, 1, 1, 1, 1, 0, 0, 1, 1, 0, 0, 1], 3, [0, 1, 2, 3, 4, 5, 12, 13, 15, 16, 34], [(0, [0, 1, 2, 3, 4, 5, 12, 13, 15, 16])]⟩, ⟨[1, 0, 1, 1, 1, 1, 1, 1, 0, 0, 1, 1, 0, 0, 1], 4, [0, 1, 2, 3, 4, 5, 12, 13, 15, 16, 43], [(0, [0, 1, 2, 3, 4, 5, 12, 13, 15, 16])]⟩, ⟨[0, 0, 1, 1, 1, 1, 1, 1, 1, 0, 0, 1, 1, 0, 0, 1], 5, [0, 1, 2, 3, 4, 5, 12, 13, 15, 16], [(0, [0, 1, 2, 3, 4, 5, 12, 13, 15, 16, 55])]⟩]
def warp_fill.E (g_warp_near : warp_near.sh.X → Option warp_near.osh.X) (l0 : ((Unit × (List Int) × (List Int) × (List Int) × Int × Int × Int × Int × Unit) × ((List Int) × Unit)) → Option (((Unit) × ((List Int) × Unit)) ⊕ Empty)) (l1 : ((Unit × (List Int) × (List Int) × (List Int) × Int × Int × Int × Int × Int × Int × Unit) × ((List Int) × Unit)) → Option (((Unit × (List Int) × (List Int) × (List Int) × Int × Int × Int × Int × Int × Int × Bool × Unit) × ((List Int) × Unit)) ⊕ Empty)) (l2 : ((Unit × (List Int) × (List Int) × (List Int) × Int × Int × Int × Int × Int × Int × Bool × Unit) × ((List Int) × Unit)) → Option (((Unit × (List Int) × (List Int) × (List Int) × Int × Int × Int × Int × Int × Int × Unit) × ((List Int) × Unit)) ⊕ Empty)) (l3 : ((Unit × (List Int) × (List Int) × (List Int) × Int × Int × Int × Int × Int × Int × Bool × Unit) × ((List Int) × Unit)) → Option (((Unit × (List Int) × (List Int) × (List Int) × Int × Int × Int × Int × Int × Int × Unit) × ((List Int) × Unit)) ⊕ Empty)) (l4 : ((Unit × (List Int) × (List Int) × (List Int) × Int × Int × Int × Int × Int × Int × Bool × Unit) × ((List Int) × Unit)) → Option (((Unit × (List Int) × (List Int) × (List Int) × Int × Int × Int × Int × Int × Int × Unit) × ((List Int) × Unit)) ⊕ Empty)) (l5 : ((Unit × (List Int) × (List Int) × (List Int) × Int × Int × Int × Int × Int × Int × Unit) × ((List Int) × Unit)) → Option (((Unit × (List Int) × (List Int) × (List Int) × Int × Int × Int × Int × Int × Int × Bool × Unit) × ((List Int) × Unit)) ⊕ Empty)) : Env := ⟨T, fun n ks => bif Nat.beq n 106 && eqPath ks [] then some (FE.of [true, true, true] false warp_near.sh warp_near.osh g_warp_near) else none, fun n => bif Nat.beq n 0 then some (LE.of warp_fill.s0 warp_fill.x0 l0) else bif Nat.beq n 1 then some (LE.of warp_fill.s1 warp_fill.x1 l1) else bif Nat.beq n 2 then some (LE.of warp_fill.s2 warp_fill.x2 l2) else bif Nat.beq n 3 then some (LE.of warp_fill.s3 warp_fill.x3 l3) else bif Nat.beq n 4 then some (LE.of warp_fill.s4 warp_fill.x4 l4) else bif Nat.beq n 5 then some (LE.of warp_fill.s5 warp_fill.x5 l5) else none, 93, 1, Gt⟩

/-! slices_Min: slices.Min[[]int,int] -/
noncomputable def slices_Min.c : Go.Code := Go.Proofs.Try.f103.body.getD .skip
@[reducible] def slices_Min.sh : Sh := ⟨[.one (.pv (.list (.int .i64)))], []⟩
@[reducible] def slices_Min.osh : Sh := ⟨[.one (.pv (.int .i64))], []⟩
@[reducible] def slices_Min.s0 : Sh := ⟨[.one (.pv (.list (.int .i64))), .one (.pv (.int .i64)), .one (.pv (.int .i64))], []⟩
@[reducible] def slices_Min.x0 : List (Ex × Sh) := [(.exit 0, ⟨[.one (.pv (.int .i64))], []⟩)]
def slices_Min.hs : List Hint := [⟨[0, 1, 0, 1, 1, 1], 0, [0, 3, 4], [(2, [3])]⟩]
def slices_Min.E (l0 : (((List Int) × Int × Int × Unit) × (Unit)) → Option (((Int × Unit) × (Unit)) ⊕ Empty)) : Env := ⟨T, fun n ks => none, fun n => bif Nat.beq n 0 then some (LE.of slices_Min.s0 slices_Min.x0 l0) else none, 25, 0, Gt⟩

/-! warp_distance: shapesearch/warp.distance -/
noncomputable def warp_distance.c : Go.Code := Go.Proofs.Try.f95.body.getD .skip
@[reducible] def warp_distance.sh : Sh := ⟨[.one (.pv (.list (.int .i64))), .one (.pv (.list (.int .i64))), .one (.pv (.int .i64)), .one (.pv (.int .i64))], []⟩
@[reducible] def warp_distance.osh : Sh := ⟨[.one (.pv (.int .i64))], []⟩
@[reducible] def warp_distance.s0 : Sh := ⟨[.one (.pv (.list (.int .i64))), .one (.pv (.list (.int .i64))), .one (.pv (.int .i64)), .one (.pv (.int .i64)), .one (.is (.own 0)), .one (.is (.own 1)), .one (.pv (.int .i64)), .one (.pv (.int .i64))], [.row 3 (.int .i64), .row 3 (.int .i64)]⟩
@[reducible] def warp_distance.x0 : List (Ex × Sh) := [(.exit 0, ⟨[.one (.pv (.list (.int .i64))), .one (.is (.own 0))], [.row 3 (.int .i64)]⟩), (.ret, ⟨[.one (.pv (.int .i64))], []⟩)]
def warp_distance.hs : List Hint := [⟨[0, 1, 0, 1, 1], 0, [0, 1, 2, 3, 9, 10, 19, 20], [(2, [1, 10]), (1, [8])]⟩]
def warp_distance.E (g_warp_fill : warp_fill.sh.X → Option warp_fill.osh.X) (g_slices_Min : slices_Min.sh.X → Option slices_Min.osh.X) (l0 : (((List Int) × (List Int) × Int × Int × Unit × Unit × Int × Int × Unit) × ((List Int) × (List Int) × Unit)) → Option ((((List Int) × Unit × Unit) × ((List Int) × Unit)) ⊕ ((Int × Unit) × (Unit)) ⊕ Empty)) : Env := ⟨T, fun n ks => bif Nat.beq n 102 && eqPath ks [] then some (FE.of [false, true, true, true, true, true] false warp_fill.sh warp_fill.osh g_warp_fill) else bif Nat.beq n 103 && eqPath ks [] then some (FE.of [true] false slices_Min.sh slices_Min.osh g_slices_Min) else none, fun n => bif Nat.beq n 0 then some (LE.of warp_distance.s0 warp_distance.x0 l0) else none, 43, 0, Gt⟩

/-! warp_Distance: shapesearch/warp.Distance -/
noncomputable def warp_Distance.c : Go.Code := Go.Proofs.Try.f82.body.getD .skip
@[reducible] def warp_Distance.sh : Sh := ⟨[.one (.pv (.list (.int .i64))), .one (.pv (.list (.int .i64))), .one (.pv (.int .i64))], []⟩
@[reducible] def warp_Distance.osh : Sh := ⟨[.one (.pv (.int .i64)), .one (.pv (.int .i64))], []⟩
def warp_Distance.hs : List Hint := []
def warp_Distance.E (g_warp_check : warp_check.sh.X → Option warp_check.osh.X) (g_warp_distance : warp_distance.sh.X → Option warp_distance.osh.X) : Env := ⟨T, fun n ks => bif Nat.beq n 94 && eqPath ks [] then some (FE.of [true, true, true] false warp_check.sh warp_check.osh g_warp_check) else bif Nat.beq n 95 && eqPath ks [] then some (FE.of [true, true, true, true] false warp_distance.sh warp_distance.osh g_warp_distance) else none, fun n => none, 20, 0, Gt⟩

/-! measure_distances_2: shapesearch/measure.distances$2 -/
noncomputable def measure_distances_2.c : Go.Code := Go.Proofs.Try.f81.body.getD .skip
@[reducible] def measure_distances_2.sh : Sh := ⟨[.one (.pv (.list (.int .i64))), .one (.pv (.list (.int .i64))), .one (.is (.ptr 0 0 0))], [.box [.pv (.int .i64), .pv (.int .i64), .pv (.int .i64)]]⟩
@[reducible] def measure_distances_2.osh : Sh := ⟨[.agg [.pv (.int .i64), .pv (.int .i64)], .one (.pv (.int .i64))], [.box [.pv (.int .i64), .pv (.int .i64), .pv (.int .i64)]]⟩
def measure_distances_2.hs : List Hint := []
def measure_distances_2.E (g_warp_Distance : warp_Distance.sh.X → Option warp_Distance.osh.X) (g_measure_whole : measure_whole.sh.X → Option measure_whole.osh.X) : Env := ⟨T, fun n ks => bif Nat.beq n 82 && eqPath ks [] then some (FE.of [true, true, true] false warp_Distance.sh warp_Distance.osh g_warp_Distance) else bif Nat.beq n 77 && eqPath ks [] then some (FE.of [true, true] false measure_whole.sh measure_whole.osh g_measure_whole) else none, fun n => none, 17, 1, Gt⟩

/-! edit_check: shapesearch/edit.check -/
noncomputable def edit_check.c : Go.Code := Go.Proofs.Try.f96.body.getD .skip
@[reducible] def edit_check.sh : Sh := ⟨[.one (.pv (.list (.int .i64))), .one (.pv (.list (.int .i64))), .one (.pv (.int .i64))], []⟩
@[reducible] def edit_check.osh : Sh := ⟨[.one (.pv (.int .i64))], []⟩
@[reducible] def edit_check.s0 : Sh := ⟨[.one (.pv (.list (.int .i64))), .one (.pv (.list (.int .i64))), .one (.pv (.int .i64))], []⟩
@[reducible] def edit_check.x0 : List (Ex × Sh) := [(.normal, ⟨[.one (.pv (.list (.int .i64))), .one (.pv (.list (.int .i64))), .one (.pv .bool)], []⟩)]
def edit_check.hs : List Hint := [⟨[0, 0, 1], 0, [0, 1, 2], [(0, [0, 1, 16])]⟩]
def edit_check.E (g_euclid_Distance : euclid_Distance.sh.X → Option euclid_Distance.osh.X) (l0 : (((List Int) × (List Int) × Int × Unit) × (Unit)) → Option ((((List Int) × (List Int) × Bool × Unit) × (Unit)) ⊕ Empty)) : Env := ⟨T, fun n ks => bif Nat.beq n 78 && eqPath ks [] then some (FE.of [true, true] false euclid_Distance.sh euclid_Distance.osh g_euclid_Distance) else none, fun n => bif Nat.beq n 0 then some (LE.of edit_check.s0 edit_check.x0 l0) else none, 38, 0, Gt⟩

/-! edit_apart: shapesearch/edit.apart -/
noncomputable def edit_apart.c : Go.Code := Go.Proofs.Try.f107.body.getD .skip
@[reducible] def edit_apart.sh : Sh := ⟨[.one (.pv (.int .i64)), .one (.pv (.int .i64))], []⟩
@[reducible] def edit_apart.osh : Sh := ⟨[.one (.pv (.int .i64))], []⟩
def edit_apart.hs : List Hint := []
def edit_apart.E : Env := ⟨T, fun n ks => none, fun n => none, 12, 0, Gt⟩

/-! edit_last: shapesearch/edit.last -/
noncomputable def edit_last.c : Go.Code := Go.Proofs.Try.f104.body.getD .skip
@[reducible] def edit_last.sh : Sh := ⟨[.one (.pv (.int .i64)), .one (.pv (.list (.int .i64))), .one (.pv (.list (.int .i64))), .one (.pv (.int .i64)), .one (.pv (.int .i64)), .one (.pv (.int .i64))], []⟩
@[reducible] def edit_last.osh : Sh := ⟨[.one (.pv (.int .i64)), .one (.pv (.int .i64)), .one (.pv (.int .i64)), .one (.pv .bool)], []⟩
@[reducible] def edit_last.s0 : Sh := ⟨[.one (.pv (.int .i64)), .one (.pv (.list (.int .i64))), .one (.pv (.list (.int .i64))), .one (.pv (.int .i64)), .one (.pv (.int .i64)), .one (.pv (.int .i64))], []⟩
@[reducible] def edit_last.x0 : List (Ex × Sh) := [(.normal, ⟨[.one (.pv (.int .i64)), .one (.pv (.list (.int .i64))), .one (.pv (.list (.int .i64))), .one (.pv (.int .i64)), .one (.pv (.int .i64)), .one (.pv (.int .i64)), .one (.pv .bool)], []⟩)]
@[reducible] def edit_last.s1 : Sh := ⟨[.one (.pv (.int .i64)), .one (.pv (.list (.int .i64))), .one (.pv (.list (.int .i64))), .one (.pv (.int .i64)), .one (.pv (.int .i64)), .one (.pv (.int .i64))], []⟩
@[reducible] def edit_last.x1 : List (Ex × Sh) := [(.normal, ⟨[.one (.pv (.int .i64)), .one (.pv (.list (.int .i64))), .one (.pv (.list (.int .i64))), .one (.pv (.int .i64)), .one (.pv (.int .i64)), .one (.pv (.int .i64)), .one (.pv .bool)], []⟩)]
@[reducible] def edit_last.s2 : Sh := ⟨[.one (.pv (.int .i64)), .one (.pv (.list (.int .i64))), .one (.pv (.int .i64)), .one (.pv (.int .i64)), .one (.pv (.int .i64))], []⟩
@[reducible] def edit_last.x2 : List (Ex × Sh) := [(.normal, ⟨[.one (.pv (.list (.int .i64))), .one (.pv (.int .i64)), .one (.pv (.int .i64)), .one (.pv (.int .i64)), .one (.pv .bool)], []⟩)]
def edit_last.hs : List Hint := [⟨[0, 0, 0, 1], 0, [0, 1, 2, 3, 4, 5], [(0, [0, 1, 2, 3, 4, 5, 16])]⟩, ⟨[0, 1, 1, 0, 0, 1], 1, [0, 1, 2, 3, 4, 5], [(0, [0, 1, 2, 3, 4, 5, 42])]⟩, ⟨[0, 1, 1, 1, 1, 0, 0, 1], 2, [0, 2, 3, 4, 5], [(0, [2, 3, 4, 5, 59])]⟩]
def edit_last.E (g_edit_apart : edit_apart.sh.X → Option edit_apart.osh.X) (l0 : ((Int × (List Int) × (List Int) × Int × Int × Int × Unit) × (Unit)) → Option (((Int × (List Int) × (List Int) × Int × Int × Int × Bool × Unit) × (Unit)) ⊕ Empty)) (l1 : ((Int × (List Int) × (List Int) × Int × Int × Int × Unit) × (Unit)) → Option (((Int × (List Int) × (List Int) × Int × Int × Int × Bool × Unit) × (Unit)) ⊕ Empty)) (l2 : ((Int × (List Int) × Int × Int × Int × Unit) × (Unit)) → Option ((((List Int) × Int × Int × Int × Bool × Unit) × (Unit)) ⊕ Empty)) : Env := ⟨T, fun n ks => bif Nat.beq n 107 && eqPath ks [] then some (FE.of [true, true] false edit_apart.sh edit_apart.osh g_edit_apart) else none, fun n => bif Nat.beq n 0 then some (LE.of edit_last.s0 edit_last.x0 l0) else bif Nat.beq n 1 then some (LE.of edit_last.s1 edit_last.x1 l1) else bif Nat.beq n 2 then some (LE.of edit_last.s2 edit_last.x2 l2) else none, 76, 0, Gt⟩

/-! edit_table: shapesearch/edit.table -/
noncomputable def edit_table.c : Go.Code := Go.Proofs.Try.f97.body.getD .skip
@[reducible] def edit_table.sh : Sh := ⟨[.one (.pv (.list (.int .i64))), .one (.pv (.list (.int .i64))), .one (.pv (.int .i64))], []⟩
@[reducible] def edit_table.osh : Sh := ⟨[.one (.arr)], []⟩
@[reducible] def edit_table.s0 : Sh := ⟨[.one (.pv (.list (.int .i64))), .one (.pv (.list (.int .i64))), .one (.pv (.int .i64)), .one (.is (.ptr 0 0 0)), .one (.is (.ptr 1 0 0)), .one (.pv (.int .i64))], [.row 108 (.int .i64), .row 108 (.int .i64)]⟩
@[reducible] def edit_table.x0 : List (Ex × Sh) := [(.exit 0, ⟨[.one (.is (.ptr 0 0 0)), .one (.is (.ptr 1 0 0))], [.row 108 (.int .i64), .row 108 (.int .i64)]⟩)]
@[reducible] def edit_table.s1 : Sh := ⟨[.one (.pv (.list (.int .i64))), .one (.pv (.list (.int .i64))), .one (.pv (.int .i64)), .one (.is (.ptr 0 0 0)), .one (.is (.ptr 1 0 0)), .one (.pv (.int .i64)), .one (.pv (.int .i64))], [.row 108 (.int .i64), .row 108 (.int .i64)]⟩
@[reducible] def edit_table.x1 : List (Ex × Sh) := [(.exit 2, ⟨[.one (.pv (.list (.int .i64))), .one (.pv (.list (.int .i64))), .one (.pv (.int .i64)), .one (.is (.ptr 0 0 0)), .one (.is (.ptr 1 0 0)), .one (.pv (.int .i64))], [.row 108 (.int .i64), .row 108 (.int .i64)]⟩)]
@[reducible] def edit_table.s2 : Sh := ⟨[.one (.pv (.list (.int .i64))), .one (.pv (.list (.int .i64))), .one (.pv (.int .i64)), .one (.is (.ptr 0 0 0)), .one (.is (.ptr 1 0 0)), .one (.pv (.int .i64)), .one (.pv (.int .i64)), .one (.pv .bool), .one (.pv (.int .i64))], [.row 108 (.int .i64), .row 108 (.int .i64)]⟩
@[reducible] def edit_table.x2 : List (Ex × Sh) := [(.exit 4, ⟨[.one (.pv (.list (.int .i64))), .one (.pv (.list (.int .i64))), .one (.pv (.int .i64)), .one (.is (.ptr 0 0 0)), .one (.is (.ptr 1 0 0)), .one (.pv (.int .i64)), .one (.pv (.int .i64))], [.row 108 (.int .i64), .row 108 (.int .i64)]⟩)]
@[reducible] def edit_table.s3 : Sh := ⟨[.one (.pv (.list (.int .i64))), .one (.pv (.list (.int .i64))), .one (.pv (.int .i64)), .one (.is (.ptr 0 0 0)), .one (.is (.ptr 1 0 0)), .one (.pv (.int .i64)), .one (.pv (.int .i64)), .one (.pv .bool), .one (.pv (.int .i64)), .one (.pv (.int .i64)), .one (.pv (.int .i64)), .one (.pv (.int .i64)), .one (.pv .bool)], [.row 108 (.int .i64), .row 108 (.int .i64)]⟩
@[reducible] def edit_table.x3 : List (Ex × Sh) := [(.normal, ⟨[.one (.pv (.list (.int .i64))), .one (.pv (.list (.int .i64))), .one (.pv (.int .i64)), .one (.is (.ptr 0 0 0)), .one (.is (.ptr 1 0 0)), .one (.pv (.int .i64)), .one (.pv (.int .i64)), .one (.pv .bool), .one (.pv (.int .i64)), .one (.pv (.int .i64)), .one (.pv (.int .i64)), .one (.pv (.int .i64)), .one (.pv .bool)], [.row 108 (.int .i64), .row 108 (.int .i64)]⟩)]
def edit_table.hs : List Hint := [⟨[0, 1, 0, 1, 1], 0, [0, 1, 2, 6, 7, 8], [(2, [6, 7])]⟩, ⟨[0, 1, 0, 0, 1, 0, 0, 1, 0, 1, 1], 1, [0, 1, 2, 6, 7, 8, 9], [(4, [0, 1, 2, 6, 7, 8])]⟩, ⟨[0, 1, 1, 0, 0, 1, 0, 0, 1, 0, 0, 1, 0, 0, 1, 0, 1, 1], 2, [0, 1, 2, 6, 7, 8, 9, 10, 11], [(6, [0, 1, 2, 6, 7, 8, 9])]⟩, ⟨[0, 1, 0, 0, 1, 0, 0, 1, 1, 0, 0, 1, 0, 0, 1, 0, 0, 1, 0, 0, 1, 0, 1, 1], 3, [0, 1, 2, 6, 7, 8, 9, 10, 11, 12, 13, 14, 15], [(0, [0, 1, 2, 6, 7, 8, 9, 10, 11, 12, 13, 14, 62])]⟩]
def edit_table.E (g_edit_last : edit_last.sh.X → Option edit_last.osh.X) (l0 : (((List Int) × (List Int) × Int × Unit × Unit × Int × Unit) × ((List Int) × (List Int) × Unit)) → Option (((Unit × Unit × Unit) × ((List Int) × (List Int) × Unit)) ⊕ Empty)) (l1 : (((List Int) × (List Int) × Int × Unit × Unit × Int × Int × Unit) × ((List Int) × (List Int) × Unit)) → Option ((((List Int) × (List Int) × Int × Unit × Unit × Int × Unit) × ((List Int) × (List Int) × Unit)) ⊕ Empty)) (l2 : (((List Int) × (List Int) × Int × Unit × Unit × Int × Int × Bool × Int × Unit) × ((List Int) × (List Int) × Unit)) → Option ((((List Int) × (List Int) × Int × Unit × Unit × Int × Int × Unit) × ((List Int) × (List Int) × Unit)) ⊕ Empty)) (l3 : (((List Int) × (List Int) × Int × Unit × Unit × Int × Int × Bool × Int × Int × Int × Int × Bool × Unit) × ((List Int) × (List Int) × Unit)) → Option ((((List Int) × (List Int) × Int × Unit × Unit × Int × Int × Bool × Int × Int × Int × Int × Bool × Unit) × ((List Int) × (List Int) × Unit)) ⊕ Empty)) : Env := ⟨T, fun n ks => bif Nat.beq n 104 && eqPath ks [] then some (FE.of [true, true, true, true, true, true] false edit_last.sh edit_last.osh g_edit_last) else none, fun n => bif Nat.beq n 0 then some (LE.of edit_table.s0 edit_table.x0 l0) else bif Nat.beq n 1 then some (LE.of edit_table.s1 edit_table.x1 l1) else bif Nat.beq n 2 then some (LE.of edit_table.s2 edit_table.x2 l2) else bif Nat.beq n 3 then some (LE.of edit_table.s3 edit_table.x3 l3) else none, 75, 0, Gt⟩

/-! edit_Distance: shapesearch/edit.Distance -/
noncomputable def edit_Distance.c : Go.Code := Go.Proofs.Try.f84.body.getD .skip
@[reducible] def edit_Distance.sh : Sh := ⟨[.one (.pv (.list (.int .i64))), .one (.pv (.list (.int .i64))), .one (.pv (.int .i64))], []⟩
@[reducible] def edit_Distance.osh : Sh := ⟨[.one (.pv (.int .i64)), .one (.pv (.int .i64))], []⟩
def edit_Distance.hs : List Hint := []
def edit_Distance.E (g_edit_check : edit_check.sh.X → Option edit_check.osh.X) (g_edit_table : edit_table.sh.X → Option edit_table.osh.X) : Env := ⟨T, fun n ks => bif Nat.beq n 96 && eqPath ks [] then some (FE.of [true, true, true] false edit_check.sh edit_check.osh g_edit_check) else bif Nat.beq n 97 && eqPath ks [] then some (FE.of [true, true, true] false edit_table.sh edit_table.osh g_edit_table) else none, fun n => none, 26, 0, Gt⟩

/-! measure_distances_3: shapesearch/measure.distances$3 -/
noncomputable def measure_distances_3.c : Go.Code := Go.Proofs.Try.f83.body.getD .skip
@[reducible] def measure_distances_3.sh : Sh := ⟨[.one (.pv (.list (.int .i64))), .one (.pv (.list (.int .i64))), .one (.is (.ptr 0 0 0))], [.box [.pv (.int .i64), .pv (.int .i64), .pv (.int .i64)]]⟩
@[reducible] def measure_distances_3.osh : Sh := ⟨[.agg [.pv (.int .i64), .pv (.int .i64)], .one (.pv (.int .i64))], [.box [.pv (.int .i64), .pv (.int .i64), .pv (.int .i64)]]⟩
def measure_distances_3.hs : List Hint := []
def measure_distances_3.E (g_edit_Distance : edit_Distance.sh.X → Option edit_Distance.osh.X) (g_measure_whole : measure_whole.sh.X → Option measure_whole.osh.X) : Env := ⟨T, fun n ks => bif Nat.beq n 84 && eqPath ks [] then some (FE.of [true, true, true] false edit_Distance.sh edit_Distance.osh g_edit_Distance) else bif Nat.beq n 77 && eqPath ks [] then some (FE.of [true, true] false measure_whole.sh measure_whole.osh g_measure_whole) else none, fun n => none, 17, 1, Gt⟩

/-! measure_Distance: shapesearch/measure.Distance -/
noncomputable def measure_Distance.c : Go.Code := Go.Proofs.Try.f37.body.getD .skip
@[reducible] def measure_Distance.sh : Sh := ⟨[.agg [.pv (.int .i64), .pv (.int .i64), .pv (.int .i64)], .one (.pv (.list (.int .i64))), .one (.pv (.list (.int .i64)))], []⟩
@[reducible] def measure_Distance.osh : Sh := ⟨[.agg [.pv (.int .i64), .pv (.int .i64)], .one (.pv (.int .i64))], []⟩
def measure_Distance.hs : List Hint := []
def measure_Distance.E (g_measure_Check : measure_Check.sh.X → Option measure_Check.osh.X) (g_measure_distances : measure_distances.sh.X → Option measure_distances.osh.X) (g_measure_distances_1 : measure_distances_1.sh.X → Option measure_distances_1.osh.X) (g_euclid_Shifted : euclid_Shifted.sh.X → Option euclid_Shifted.osh.X) (g_normal_Gap : normal_Gap.sh.X → Option normal_Gap.osh.X) (g_measure_distances_2 : measure_distances_2.sh.X → Option measure_distances_2.osh.X) (g_measure_distances_3 : measure_distances_3.sh.X → Option measure_distances_3.osh.X) : Env := ⟨T, fun n ks => bif Nat.beq n 27 && eqPath ks [] then some (FE.of [true] false measure_Check.sh measure_Check.osh g_measure_Check) else bif Nat.beq n 56 && eqPath ks [] then some (FE.of [true] true measure_distances.sh measure_distances.osh g_measure_distances) else bif Nat.beq n 76 && eqPath ks [] then some (FE.of [true, true] false measure_distances_1.sh measure_distances_1.osh g_measure_distances_1) else bif Nat.beq n 79 && eqPath ks [] then some (FE.of [true, true] false euclid_Shifted.sh euclid_Shifted.osh g_euclid_Shifted) else bif Nat.beq n 80 && eqPath ks [] then some (FE.of [true, true] false normal_Gap.sh normal_Gap.osh g_normal_Gap) else bif Nat.beq n 81 && eqPath ks [] then some (FE.of [true, true] false measure_distances_2.sh measure_distances_2.osh g_measure_distances_2) else bif Nat.beq n 83 && eqPath ks [] then some (FE.of [true, true] false measure_distances_3.sh measure_distances_3.osh g_measure_distances_3) else none, fun n => none, 25, 0, Gt⟩

/-! ratio_Valid: shapesearch/ratio.Valid -/
noncomputable def ratio_Valid.c : Go.Code := Go.Proofs.Try.f52.body.getD .skip
@[reducible] def ratio_Valid.sh : Sh := ⟨[.agg [.pv (.int .i64), .pv (.int .i64)]], []⟩
@[reducible] def ratio_Valid.osh : Sh := ⟨[.one (.pv .bool)], []⟩
def ratio_Valid.hs : List Hint := []
def ratio_Valid.E (g_ratio_within : ratio_within.sh.X → Option ratio_within.osh.X) (g_ratio_divisor : ratio_divisor.sh.X → Option ratio_divisor.osh.X) : Env := ⟨T, fun n ks => bif Nat.beq n 72 && eqPath ks [] then some (FE.of [true] false ratio_within.sh ratio_within.osh g_ratio_within) else bif Nat.beq n 73 && eqPath ks [] then some (FE.of [true, true] false ratio_divisor.sh ratio_divisor.osh g_ratio_divisor) else none, fun n => none, 13, 0, Gt⟩

/-! bits_Mul64: math/bits.Mul64 -/
noncomputable def bits_Mul64.c : Go.Code := Go.Proofs.Try.f75.body.getD .skip
@[reducible] def bits_Mul64.sh : Sh := ⟨[.one (.pv (.int .u64)), .one (.pv (.int .u64))], []⟩
@[reducible] def bits_Mul64.osh : Sh := ⟨[.one (.pv (.int .u64)), .one (.pv (.int .u64))], []⟩
def bits_Mul64.hs : List Hint := []
def bits_Mul64.E : Env := ⟨T, fun n ks => none, fun n => none, 51, 0, Gt⟩

/-! ratio_Cmp: shapesearch/ratio.Cmp -/
noncomputable def ratio_Cmp.c : Go.Code := Go.Proofs.Try.f55.body.getD .skip
@[reducible] def ratio_Cmp.sh : Sh := ⟨[.agg [.pv (.int .i64), .pv (.int .i64)], .agg [.pv (.int .i64), .pv (.int .i64)]], []⟩
@[reducible] def ratio_Cmp.osh : Sh := ⟨[.one (.pv (.int .i64))], []⟩
@[reducible] def ratio_Cmp.s0 : Sh := ⟨[.one (.is (.ptr 0 0 0)), .one (.is (.ptr 1 0 0))], [.box [.pv (.int .i64), .pv (.int .i64)], .box [.pv (.int .i64), .pv (.int .i64)]]⟩
@[reducible] def ratio_Cmp.x0 : List (Ex × Sh) := [(.normal, ⟨[.one (.is (.ptr 0 0 0)), .one (.is (.ptr 1 0 0)), .one (.pv .bool)], [.box [.pv (.int .i64), .pv (.int .i64)], .box [.pv (.int .i64), .pv (.int .i64)]]⟩)]
@[reducible] def ratio_Cmp.s1 : Sh := ⟨[.one (.pv (.int .u64)), .one (.pv (.int .u64)), .one (.pv (.int .u64)), .one (.pv (.int .u64))], []⟩
@[reducible] def ratio_Cmp.x1 : List (Ex × Sh) := [(.normal, ⟨[.one (.pv (.int .u64)), .one (.pv (.int .u64)), .one (.pv (.int .u64)), .one (.pv (.int .u64)), .one (.pv .bool)], []⟩)]
def ratio_Cmp.hs : List Hint := [⟨[0, 0, 1], 0, [2, 3], [(0, [2, 3, 16])]⟩, ⟨[0, 0, 0, 1, 1, 1, 1], 1, [5, 6, 7, 8], [(0, [5, 6, 7, 8, 37])]⟩]
def ratio_Cmp.E (g_ratio_Valid : ratio_Valid.sh.X → Option ratio_Valid.osh.X) (g_bits_Mul64 : bits_Mul64.sh.X → Option bits_Mul64.osh.X) (l0 : ((Unit × Unit × Unit) × ((Int × Int × Unit) × (Int × Int × Unit) × Unit)) → Option (((Unit × Unit × Bool × Unit) × ((Int × Int × Unit) × (Int × Int × Unit) × Unit)) ⊕ Empty)) (l1 : ((Int × Int × Int × Int × Unit) × (Unit)) → Option (((Int × Int × Int × Int × Bool × Unit) × (Unit)) ⊕ Empty)) : Env := ⟨T, fun n ks => bif Nat.beq n 52 && eqPath ks [] then some (FE.of [true] false ratio_Valid.sh ratio_Valid.osh g_ratio_Valid) else bif Nat.beq n 75 && eqPath ks [] then some (FE.of [true, true] false bits_Mul64.sh bits_Mul64.osh g_bits_Mul64) else none, fun n => bif Nat.beq n 0 then some (LE.of ratio_Cmp.s0 ratio_Cmp.x0 l0) else bif Nat.beq n 1 then some (LE.of ratio_Cmp.s1 ratio_Cmp.x1 l1) else none, 60, 0, Gt⟩

/-! ratio_Less: shapesearch/ratio.Less -/
noncomputable def ratio_Less.c : Go.Code := Go.Proofs.Try.f34.body.getD .skip
@[reducible] def ratio_Less.sh : Sh := ⟨[.agg [.pv (.int .i64), .pv (.int .i64)], .agg [.pv (.int .i64), .pv (.int .i64)]], []⟩
@[reducible] def ratio_Less.osh : Sh := ⟨[.one (.pv .bool)], []⟩
def ratio_Less.hs : List Hint := []
def ratio_Less.E (g_ratio_Cmp : ratio_Cmp.sh.X → Option ratio_Cmp.osh.X) : Env := ⟨T, fun n ks => bif Nat.beq n 55 && eqPath ks [] then some (FE.of [true, true] false ratio_Cmp.sh ratio_Cmp.osh g_ratio_Cmp) else none, fun n => none, 9, 0, Gt⟩

/-! profile_Nearer: shapesearch/profile.Nearer -/
noncomputable def profile_Nearer.c : Go.Code := Go.Proofs.Try.f15.body.getD .skip
@[reducible] def profile_Nearer.sh : Sh := ⟨[.agg [.pv (.int .i64), .pv (.int .i64), .pv (.int .i64)], .agg [.pv (.int .i64), .pv (.int .i64), .pv (.int .i64)]], []⟩
@[reducible] def profile_Nearer.osh : Sh := ⟨[.one (.pv .bool)], []⟩
@[reducible] def profile_Nearer.s0 : Sh := ⟨[.one (.is (.ptr 0 0 0)), .one (.is (.ptr 1 0 0))], [.box [.pv (.int .i64), .pv (.int .i64), .pv (.int .i64)], .box [.pv (.int .i64), .pv (.int .i64), .pv (.int .i64)]]⟩
@[reducible] def profile_Nearer.x0 : List (Ex × Sh) := [(.normal, ⟨[.one (.is (.ptr 0 0 0)), .one (.is (.ptr 1 0 0)), .one (.pv .bool)], [.box [.pv (.int .i64), .pv (.int .i64), .pv (.int .i64)], .box [.pv (.int .i64), .pv (.int .i64), .pv (.int .i64)]]⟩)]
def profile_Nearer.hs : List Hint := [⟨[0, 0, 1], 0, [2, 3], [(0, [2, 3, 12])]⟩]
def profile_Nearer.E (g_ratio_Less : ratio_Less.sh.X → Option ratio_Less.osh.X) (l0 : ((Unit × Unit × Unit) × ((Int × Int × Int × Unit) × (Int × Int × Int × Unit) × Unit)) → Option (((Unit × Unit × Bool × Unit) × ((Int × Int × Int × Unit) × (Int × Int × Int × Unit) × Unit)) ⊕ Empty)) : Env := ⟨T, fun n ks => bif Nat.beq n 34 && eqPath ks [] then some (FE.of [true, true] false ratio_Less.sh ratio_Less.osh g_ratio_Less) else none, fun n => bif Nat.beq n 0 then some (LE.of profile_Nearer.s0 profile_Nearer.x0 l0) else none, 36, 0, Gt⟩

/-! profile_Best: shapesearch/profile.Best -/
noncomputable def profile_Best.c : Go.Code := Go.Proofs.Try.f30.body.getD .skip
@[reducible] def profile_Best.sh : Sh := ⟨[.one (.is (.ptr 0 0 0)), .agg [.pv (.int .i64), .pv (.int .i64), .pv (.int .i64)]], [.box [.pv (.int .i64), .pv (.int .i64), .pv (.int .i64)]]⟩
@[reducible] def profile_Best.osh : Sh := ⟨[], [.box [.pv (.int .i64), .pv (.int .i64), .pv (.int .i64)]]⟩
def profile_Best.hs : List Hint := []
def profile_Best.E (g_profile_Nearer : profile_Nearer.sh.X → Option profile_Nearer.osh.X) : Env := ⟨T, fun n ks => bif Nat.beq n 15 && eqPath ks [] then some (FE.of [true, true] false profile_Nearer.sh profile_Nearer.osh g_profile_Nearer) else none, fun n => none, 12, 1, Gt⟩

/-! profile_Of: shapesearch/profile.Of -/
noncomputable def profile_Of.c : Go.Code := Go.Proofs.Try.f21.body.getD .skip
@[reducible] def profile_Of.sh : Sh := ⟨[.one (.pv (.list (.int .i64))), .agg [.pv (.int .i64), .pv (.int .i64), .pv (.int .i64)], .one (.pv (.int .i64)), .one (.pv (.int .i64))], []⟩
@[reducible] def profile_Of.osh : Sh := ⟨[.agg [.pv (.int .i64), .pv (.int .i64), .pv (.int .i64), .pv (.int .i64), .pv (.int .i64), .is (.own 0), .is (.own 1), .is (.own 2)], .one (.pv (.int .i64))], [.row 31 (.pair (.int .i64) (.pair (.int .i64) (.int .i64))), .row 31 (.pair (.int .i64) (.pair (.int .i64) (.int .i64))), .row 31 (.pair (.int .i64) (.pair (.int .i64) (.int .i64)))]⟩
@[reducible] def profile_Of.s0 : Sh := ⟨[.one (.pv (.list (.int .i64))), .one (.pv (.int .i64)), .one (.pv (.int .i64)), .one (.is (.ptr 0 0 0)), .one (.is (.ptr 1 0 0)), .one (.is (.own 2)), .one (.is (.ptr 3 0 0)), .one (.pv (.int .i64)), .one (.pv (.int .i64))], [.box [.pv (.int .i64), .pv (.int .i64), .pv (.int .i64)], .box [.pv (.int .i64), .pv (.int .i64), .pv (.int .i64), .pv (.int .i64), .pv (.int .i64), .is .nils, .is .nils, .is .nils], .row 4 .bool, .box [.pv (.int .i64), .pv (.int .i64), .pv (.int .i64), .pv (.int .i64), .pv (.int .i64), .is (.own 4), .is (.own 5), .is (.own 6)], .row 31 (.pair (.int .i64) (.pair (.int .i64) (.int .i64))), .row 31 (.pair (.int .i64) (.pair (.int .i64) (.int .i64))), .row 31 (.pair (.int .i64) (.pair (.int .i64) (.int .i64)))]⟩
@[reducible] def profile_Of.x0 : List (Ex × Sh) := [(.exit 0, ⟨[.one (.pv (.list (.int .i64))), .one (.pv (.int .i64)), .one (.pv (.int .i64)), .one (.is (.ptr 0 0 0)), .one (.is (.ptr 1 0 0)), .one (.is (.own 2)), .one (.is (.ptr 3 0 0))], [.box [.pv (.int .i64), .pv (.int .i64), .pv (.int .i64)], .box [.pv (.int .i64), .pv (.int .i64), .pv (.int .i64), .pv (.int .i64), .pv (.int .i64), .is .nils, .is .nils, .is .nils], .row 4 .bool, .box [.pv (.int .i64), .pv (.int .i64), .pv (.int .i64), .pv (.int .i64), .pv (.int .i64), .is (.own 4), .is (.own 5), .is (.own 6)], .row 31 (.pair (.int .i64) (.pair (.int .i64) (.int .i64))), .row 31 (.pair (.int .i64) (.pair (.int .i64) (.int .i64))), .row 31 (.pair (.int .i64) (.pair (.int .i64) (.int .i64)))]⟩)]
@[reducible] def profile_Of.s1 : Sh := ⟨[.one (.pv (.list (.int .i64))), .one (.pv (.int .i64)), .one (.pv (.int .i64)), .one (.is (.ptr 0 0 0)), .one (.is (.ptr 1 0 0)), .one (.is (.own 2)), .one (.is (.ptr 3 0 0)), .one (.pv (.int .i64)), .one (.pv (.int .i64))], [.box [.pv (.int .i64), .pv (.int .i64), .pv (.int .i64)], .box [.pv (.int .i64), .pv (.int .i64), .pv (.int .i64), .pv (.int .i64), .pv (.int .i64), .is .nils, .is .nils, .is .nils], .row 4 .bool, .box [.pv (.int .i64), .pv (.int .i64), .pv (.int .i64), .pv (.int .i64), .pv (.int .i64), .is (.own 4), .is (.own 5), .is (.own 6)], .row 31 (.pair (.int .i64) (.pair (.int .i64) (.int .i64))), .row 31 (.pair (.int .i64) (.pair (.int .i64) (.int .i64))), .row 31 (.pair (.int .i64) (.pair (.int .i64) (.int .i64)))]⟩
@[reducible] def profile_Of.x1 : List (Ex × Sh) := [(.exit 2, ⟨[.one (.is (.ptr 0 0 0)), .one (.is (.own 1)), .one (.is (.ptr 2 0 0))], [.box [.pv (.int .i64), .pv (.int .i64), .pv (.int .i64), .pv (.int .i64), .pv (.int .i64), .is .nils, .is .nils, .is .nils], .row 4 .bool, .box [.pv (.int .i64), .pv (.int .i64), .pv (.int .i64), .pv (.int .i64), .pv (.int .i64), .is (.own 3), .is (.own 4), .is (.own 5)], .row 31 (.pair (.int .i64) (.pair (.int .i64) (.int .i64))), .row 31 (.pair (.int .i64) (.pair (.int .i64) (.int .i64))), .row 31 (.pair (.int .i64) (.pair (.int .i64) (.int .i64)))]⟩), (.ret, ⟨[.one (.is (.ptr 0 0 0)), .one (.pv (.int .i64))], [.box [.pv (.int .i64), .pv (.int .i64), .pv (.int .i64), .pv (.int .i64), .pv (.int .i64), .is .nils, .is .nils, .is .nils]]⟩)]
@[reducible] def profile_Of.s2 : Sh := ⟨[.one (.pv (.list (.int .i64))), .one (.pv (.int .i64)), .one (.pv (.int .i64)), .one (.is (.ptr 0 0 0)), .one (.is (.ptr 1 0 0)), .one (.is (.own 2)), .one (.is (.ptr 3 0 0)), .one (.pv (.int .i64)), .one (.pv (.int .i64)), .one (.pv (.int .i64)), .one (.pv (.int .i64))], [.box [.pv (.int .i64), .pv (.int .i64), .pv (.int .i64)], .box [.pv (.int .i64), .pv (.int .i64), .pv (.int .i64), .pv (.int .i64), .pv (.int .i64), .is .nils, .is .nils, .is .nils], .row 4 .bool, .box [.pv (.int .i64), .pv (.int .i64), .pv (.int .i64), .pv (.int .i64), .pv (.int .i64), .is (.own 4), .is (.own 5), .is (.own 6)], .row 31 (.pair (.int .i64) (.pair (.int .i64) (.int .i64))), .row 31 (.pair (.int .i64) (.pair (.int .i64) (.int .i64))), .row 31 (.pair (.int .i64) (.pair (.int .i64) (.int .i64)))]⟩
@[reducible] def profile_Of.x2 : List (Ex × Sh) := [(.exit 4, ⟨[.one (.pv (.list (.int .i64))), .one (.pv (.int .i64)), .one (.pv (.int .i64)), .one (.is (.ptr 0 0 0)), .one (.is (.ptr 1 0 0)), .one (.is (.own 2)), .one (.is (.ptr 3 0 0)), .one (.pv (.int .i64)), .one (.pv (.int .i64))], [.box [.pv (.int .i64), .pv (.int .i64), .pv (.int .i64)], .box [.pv (.int .i64), .pv (.int .i64), .pv (.int .i64), .pv (.int .i64), .pv (.int .i64), .is .nils, .is .nils, .is .nils], .row 4 .bool, .box [.pv (.int .i64), .pv (.int .i64), .pv (.int .i64), .pv (.int .i64), .pv (.int .i64), .is (.own 4), .is (.own 5), .is (.own 6)], .row 31 (.pair (.int .i64) (.pair (.int .i64) (.int .i64))), .row 31 (.pair (.int .i64) (.pair (.int .i64) (.int .i64))), .row 31 (.pair (.int .i64) (.pair (.int .i64) (.int .i64)))]⟩), (.ret, ⟨[.one (.is (.ptr 0 0 0)), .one (.pv (.int .i64))], [.box [.pv (.int .i64), .pv (.int .i64), .pv (.int .i64), .pv (.int .i64), .pv (.int .i64), .is .nils, .is .nils, .is .nils]]⟩)]
@[reducible] def profile_Of.s3 : Sh := ⟨[.one (.pv (.list (.int .i64))), .one (.pv (.int .i64)), .one (.pv (.int .i64)), .one (.is (.ptr 0 0 0)), .one (.is (.ptr 1 0 0)), .one (.is (.own 2)), .one (.is (.ptr 3 0 0)), .one (.pv (.int .i64)), .one (.pv (.int .i64)), .one (.pv (.int .i64)), .one (.pv (.int .i64))], [.box [.pv (.int .i64), .pv (.int .i64), .pv (.int .i64)], .box [.pv (.int .i64), .pv (.int .i64), .pv (.int .i64), .pv (.int .i64), .pv (.int .i64), .is .nils, .is .nils, .is .nils], .row 4 .bool, .box [.pv (.int .i64), .pv (.int .i64), .pv (.int .i64), .pv (.int .i64), .pv (.int .i64), .is (.own 4), .is (.own 5), .is (.own 6)], .row 31 (.pair (.int .i64) (.pair (.int .i64) (.int .i64))), .row 31 (.pair (.int .i64) (.pair (.int .i64) (.int .i64))), .row 31 (.pair (.int .i64) (.pair (.int .i64) (.int .i64)))]⟩
@[reducible] def profile_Of.x3 : List (Ex × Sh) := [(.normal, ⟨[.one (.pv (.list (.int .i64))), .one (.pv (.int .i64)), .one (.pv (.int .i64)), .one (.is (.ptr 0 0 0)), .one (.is (.ptr 1 0 0)), .one (.is (.own 2)), .one (.is (.ptr 3 0 0)), .one (.pv (.int .i64)), .one (.pv (.int .i64)), .one (.pv (.int .i64)), .one (.pv (.int .i64)), .one (.pv .bool)], [.box [.pv (.int .i64), .pv (.int .i64), .pv (.int .i64)], .box [.pv (.int .i64), .pv (.int .i64), .pv (.int .i64), .pv (.int .i64), .pv (.int .i64), .is .nils, .is .nils, .is .nils], .row 4 .bool, .box [.pv (.int .i64), .pv (.int .i64), .pv (.int .i64), .pv (.int .i64), .pv (.int .i64), .is (.own 4), .is (.own 5), .is (.own 6)], .row 31 (.pair (.int .i64) (.pair (.int .i64) (.int .i64))), .row 31 (.pair (.int .i64) (.pair (.int .i64) (.int .i64))), .row 31 (.pair (.int .i64) (.pair (.int .i64) (.int .i64)))]⟩)]
@[reducible] def profile_Of.s4 : Sh := ⟨[.one (.is (.ptr 0 0 0)), .one (.is (.ptr 1 0 0)), .one (.pv (.int .i64)), .one (.pv (.int .i64))], [.box [.pv (.int .i64), .pv (.int .i64), .pv (.int .i64), .pv (.int .i64), .pv (.int .i64), .is .nils, .is .nils, .is .nils], .box [.pv (.int .i64), .pv (.int .i64), .pv (.int .i64), .pv (.int .i64), .pv (.int .i64), .is (.own 2), .is (.own 3), .is (.own 4)], .row 31 (.pair (.int .i64) (.pair (.int .i64) (.int .i64))), .row 31 (.pair (.int .i64) (.pair (.int .i64) (.int .i64))), .row 31 (.pair (.int .i64) (.pair (.int .i64) (.int .i64)))]⟩
@[reducible] def profile_Of.x4 : List (Ex × Sh) := [(.exit 6, ⟨[.one (.is (.ptr 0 0 0)), .one (.is (.ptr 1 0 0))], [.box [.pv (.int .i64), .pv (.int .i64), .pv (.int .i64), .pv (.int .i64), .pv (.int .i64), .is .nils, .is .nils, .is .nils], .box [.pv (.int .i64), .pv (.int .i64), .pv (.int .i64), .pv (.int .i64), .pv (.int .i64), .is (.own 2), .is (.own 3), .is (.own 4)], .row 31 (.pair (.int .i64) (.pair (.int .i64) (.int .i64))), .row 31 (.pair (.int .i64) (.pair (.int .i64) (.int .i64))), .row 31 (.pair (.int .i64) (.pair (.int .i64) (.int .i64)))]⟩)]
def profile_Of.hs : List Hint := [⟨[0, 1, 0, 1, 1, 1, 1, 1, 1], 0, [0, 2, 3, 5, 8, 11, 13, 44, 45], [(2, [0, 2, 3, 5, 8, 11, 13])]⟩, ⟨[0, 1, 0, 1, 1, 1, 1, 1, 1, 1], 1, [0, 2, 3, 5, 8, 11, 13, 67, 68], [(4, [8, 11, 13]), (1, [8, 9])]⟩, ⟨[0, 1, 1, 0, 0, 1, 1, 0, 0, 1, 0, 1, 1, 1, 1, 1, 1, 1], 2, [0, 2, 3, 5, 8, 11, 13, 14, 15, 67, 68], [(6, [0, 2, 3, 5, 8, 11, 13, 67, 68]), (1, [8, 9])]⟩, ⟨[0, 0, 0, 0, 1, 1, 0, 0, 1, 1, 0, 0, 1, 0, 1, 1, 1, 1, 1, 1, 1], 3, [0, 2, 3, 5, 8, 11, 13, 14, 15, 67, 68], [(0, [0, 2, 3, 5, 8, 11, 13, 14, 15, 67, 68, 81])]⟩, ⟨[0, 1, 0, 1, 1, 1, 1, 1, 1, 1, 1], 4, [8, 13, 128, 129], [(8, [8, 13])]⟩]
def profile_Of.E (g_measure_Check : measure_Check.sh.X → Option measure_Check.osh.X) (g_profile_Windows : profile_Windows.sh.X → Option profile_Windows.osh.X) (g_profile_Zone : profile_Zone.sh.X → Option profile_Zone.osh.X) (g_profile_None : profile_None.sh.X → Option profile_None.osh.X) (g_measure_Distance : measure_Distance.sh.X → Option measure_Distance.osh.X) (g_profile_Best : profile_Best.sh.X → Option profile_Best.osh.X) (l0 : (((List Int) × Int × Int × Unit × Unit × Unit × Unit × Int × Int × Unit) × ((Int × Int × Int × Unit) × (Int × Int × Int × Int × Int × Unit × Unit × Unit × Unit) × (List Bool) × (Int × Int × Int × Int × Int × Unit × Unit × Unit × Unit) × (List (Int × (Int × Int))) × (List (Int × (Int × Int))) × (List (Int × (Int × Int))) × Unit)) → Option ((((List Int) × Int × Int × Unit × Unit × Unit × Unit × Unit) × ((Int × Int × Int × Unit) × (Int × Int × Int × Int × Int × Unit × Unit × Unit × Unit) × (List Bool) × (Int × Int × Int × Int × Int × Unit × Unit × Unit × Unit) × (List (Int × (Int × Int))) × (List (Int × (Int × Int))) × (List (Int × (Int × Int))) × Unit)) ⊕ Empty)) (l1 : (((List Int) × Int × Int × Unit × Unit × Unit × Unit × Int × Int × Unit) × ((Int × Int × Int × Unit) × (Int × Int × Int × Int × Int × Unit × Unit × Unit × Unit) × (List Bool) × (Int × Int × Int × Int × Int × Unit × Unit × Unit × Unit) × (List (Int × (Int × Int))) × (List (Int × (Int × Int))) × (List (Int × (Int × Int))) × Unit)) → Option (((Unit × Unit × Unit × Unit) × ((Int × Int × Int × Int × Int × Unit × Unit × Unit × Unit) × (List Bool) × (Int × Int × Int × Int × Int × Unit × Unit × Unit × Unit) × (List (Int × (Int × Int))) × (List (Int × (Int × Int))) × (List (Int × (Int × Int))) × Unit)) ⊕ ((Unit × Int × Unit) × ((Int × Int × Int × Int × Int × Unit × Unit × Unit × Unit) × Unit)) ⊕ Empty)) (l2 : (((List Int) × Int × Int × Unit × Unit × Unit × Unit × Int × Int × Int × Int × Unit) × ((Int × Int × Int × Unit) × (Int × Int × Int × Int × Int × Unit × Unit × Unit × Unit) × (List Bool) × (Int × Int × Int × Int × Int × Unit × Unit × Unit × Unit) × (List (Int × (Int × Int))) × (List (Int × (Int × Int))) × (List (Int × (Int × Int))) × Unit)) → Option ((((List Int) × Int × Int × Unit × Unit × Unit × Unit × Int × Int × Unit) × ((Int × Int × Int × Unit) × (Int × Int × Int × Int × Int × Unit × Unit × Unit × Unit) × (List Bool) × (Int × Int × Int × Int × Int × Unit × Unit × Unit × Unit) × (List (Int × (Int × Int))) × (List (Int × (Int × Int))) × (List (Int × (Int × Int))) × Unit)) ⊕ ((Unit × Int × Unit) × ((Int × Int × Int × Int × Int × Unit × Unit × Unit × Unit) × Unit)) ⊕ Empty)) (l3 : (((List Int) × Int × Int × Unit × Unit × Unit × Unit × Int × Int × Int × Int × Unit) × ((Int × Int × Int × Unit) × (Int × Int × Int × Int × Int × Unit × Unit × Unit × Unit) × (List Bool) × (Int × Int × Int × Int × Int × Unit × Unit × Unit × Unit) × (List (Int × (Int × Int))) × (List (Int × (Int × Int))) × (List (Int × (Int × Int))) × Unit)) → Option ((((List Int) × Int × Int × Unit × Unit × Unit × Unit × Int × Int × Int × Int × Bool × Unit) × ((Int × Int × Int × Unit) × (Int × Int × Int × Int × Int × Unit × Unit × Unit × Unit) × (List Bool) × (Int × Int × Int × Int × Int × Unit × Unit × Unit × Unit) × (List (Int × (Int × Int))) × (List (Int × (Int × Int))) × (List (Int × (Int × Int))) × Unit)) ⊕ Empty)) (l4 : ((Unit × Unit × Int × Int × Unit) × ((Int × Int × Int × Int × Int × Unit × Unit × Unit × Unit) × (Int × Int × Int × Int × Int × Unit × Unit × Unit × Unit) × (List (Int × (Int × Int))) × (List (Int × (Int × Int))) × (List (Int × (Int × Int))) × Unit)) → Option (((Unit × Unit × Unit) × ((Int × Int × Int × Int × Int × Unit × Unit × Unit × Unit) × (Int × Int × Int × Int × Int × Unit × Unit × Unit × Unit) × (List (Int × (Int × Int))) × (List (Int × (Int × Int))) × (List (Int × (Int × Int))) × Unit)) ⊕ Empty)) : Env := ⟨T, fun n ks => bif Nat.beq n 27 && eqPath ks [] then some (FE.of [true] false measure_Check.sh measure_Check.osh g_measure_Check) else bif Nat.beq n 22 && eqPath ks [] then some (FE.of [true, true] false profile_Windows.sh profile_Windows.osh g_profile_Windows) else bif Nat.beq n 29 && eqPath ks [] then some (FE.of [true] false profile_Zone.sh profile_Zone.osh g_profile_Zone) else bif Nat.beq n 36 && eqPath ks [] then some (FE.of [] false profile_None.sh profile_None.osh g_profile_None) else bif Nat.beq n 37 && eqPath ks [] then some (FE.of [true, true, true] false measure_Distance.sh measure_Distance.osh g_measure_Distance) else bif Nat.beq n 30 && eqPath ks [] then some (FE.of [true, true] false profile_Best.sh profile_Best.osh g_profile_Best) else none, fun n => bif Nat.beq n 0 then some (LE.of profile_Of.s0 profile_Of.x0 l0) else bif Nat.beq n 1 then some (LE.of profile_Of.s1 profile_Of.x1 l1) else bif Nat.beq n 2 then some (LE.of profile_Of.s2 profile_Of.x2 l2) else bif Nat.beq n 3 then some (LE.of profile_Of.s3 profile_Of.x3 l3) else bif Nat.beq n 4 then some (LE.of profile_Of.s4 profile_Of.x4 l4) else none, 153, 0, Gt⟩

/-! profile_neighbour: shapesearch/profile.neighbour -/
noncomputable def profile_neighbour.c : Go.Code := Go.Proofs.Try.f31.body.getD .skip
@[reducible] def profile_neighbour.sh : Sh := ⟨[.agg [.pv (.int .i64), .pv (.int .i64), .pv (.int .i64)], .one (.pv (.int .i64)), .one (.pv (.int .i64)), .one (.pv (.int .i64)), .one (.pv .bool)], []⟩
@[reducible] def profile_neighbour.osh : Sh := ⟨[.one (.pv .bool)], []⟩
@[reducible] def profile_neighbour.s0 : Sh := ⟨[.one (.pv (.int .i64)), .one (.pv (.int .i64)), .one (.pv (.int .i64)), .one (.pv .bool), .one (.is (.ptr 0 0 0))], [.box [.pv (.int .i64), .pv (.int .i64), .pv (.int .i64)]]⟩
@[reducible] def profile_neighbour.x0 : List (Ex × Sh) := [(.normal, ⟨[.one (.pv (.int .i64)), .one (.pv (.int .i64)), .one (.pv .bool), .one (.is (.ptr 0 0 0)), .one (.pv .bool)], [.box [.pv (.int .i64), .pv (.int .i64), .pv (.int .i64)]]⟩)]
def profile_neighbour.hs : List Hint := [⟨[0, 0, 1, 1], 0, [1, 2, 3, 4, 5], [(0, [1, 3, 4, 5, 31])]⟩]
def profile_neighbour.E (g_profile_None : profile_None.sh.X → Option profile_None.osh.X) (g_ratio_Valid : ratio_Valid.sh.X → Option ratio_Valid.osh.X) (l0 : ((Int × Int × Int × Bool × Unit × Unit) × ((Int × Int × Int × Unit) × Unit)) → Option (((Int × Int × Bool × Unit × Bool × Unit) × ((Int × Int × Int × Unit) × Unit)) ⊕ Empty)) : Env := ⟨T, fun n ks => bif Nat.beq n 36 && eqPath ks [] then some (FE.of [] false profile_None.sh profile_None.osh g_profile_None) else bif Nat.beq n 52 && eqPath ks [] then some (FE.of [true] false ratio_Valid.sh ratio_Valid.osh g_ratio_Valid) else none, fun n => bif Nat.beq n 0 then some (LE.of profile_neighbour.s0 profile_neighbour.x0 l0) else none, 45, 0, Gt⟩

/-! profile_Valid: shapesearch/profile.Valid -/
noncomputable def profile_Valid.c : Go.Code := Go.Proofs.Try.f13.body.getD .skip
@[reducible] def profile_Valid.sh : Sh := ⟨[.agg [.pv (.int .i64), .pv (.int .i64), .pv (.int .i64), .pv (.int .i64), .pv (.int .i64), .pv (.list (.pair (.int .i64) (.pair (.int .i64) (.int .i64)))), .pv (.list (.pair (.int .i64) (.pair (.int .i64) (.int .i64)))), .pv (.list (.pair (.int .i64) (.pair (.int .i64) (.int .i64))))]], []⟩
@[reducible] def profile_Valid.osh : Sh := ⟨[.one (.pv .bool)], []⟩
@[reducible] def profile_Valid.s0 : Sh := ⟨[.one (.is (.ptr 0 0 0)), .one (.pv (.int .i64))], [.box [.pv (.int .i64), .pv (.int .i64), .pv (.int .i64), .pv (.int .i64), .pv (.int .i64), .pv (.list (.pair (.int .i64) (.pair (.int .i64) (.int .i64)))), .pv (.list (.pair (.int .i64) (.pair (.int .i64) (.int .i64)))), .pv (.list (.pair (.int .i64) (.pair (.int .i64) (.int .i64))))]]⟩
@[reducible] def profile_Valid.x0 : List (Ex × Sh) := [(.normal, ⟨[.one (.is (.ptr 0 0 0)), .one (.pv (.int .i64)), .one (.pv .bool)], [.box [.pv (.int .i64), .pv (.int .i64), .pv (.int .i64), .pv (.int .i64), .pv (.int .i64), .pv (.list (.pair (.int .i64) (.pair (.int .i64) (.int .i64)))), .pv (.list (.pair (.int .i64) (.pair (.int .i64) (.int .i64)))), .pv (.list (.pair (.int .i64) (.pair (.int .i64) (.int .i64))))]]⟩)]
@[reducible] def profile_Valid.s1 : Sh := ⟨[.one (.is (.ptr 0 0 0)), .one (.pv (.int .i64)), .one (.pv (.int .i64)), .one (.pv (.int .i64))], [.box [.pv (.int .i64), .pv (.int .i64), .pv (.int .i64), .pv (.int .i64), .pv (.int .i64), .pv (.list (.pair (.int .i64) (.pair (.int .i64) (.int .i64)))), .pv (.list (.pair (.int .i64) (.pair (.int .i64) (.int .i64)))), .pv (.list (.pair (.int .i64) (.pair (.int .i64) (.int .i64))))]]⟩
@[reducible] def profile_Valid.x1 : List (Ex × Sh) := [(.exit 0, ⟨[], []⟩), (.ret, ⟨[.one (.pv .bool)], []⟩)]
@[reducible] def profile_Valid.s2 : Sh := ⟨[.one (.is (.ptr 0 0 0)), .one (.pv (.int .i64)), .one (.pv (.int .i64)), .one (.is (.ptr 1 0 0)), .one (.pv (.int .i64)), .one (.pv (.int .i64))], [.box [.pv (.int .i64), .pv (.int .i64), .pv (.int .i64), .pv (.int .i64), .pv (.int .i64), .pv (.list (.pair (.int .i64) (.pair (.int .i64) (.int .i64)))), .pv (.list (.pair (.int .i64) (.pair (.int .i64) (.int .i64)))), .pv (.list (.pair (.int .i64) (.pair (.int .i64) (.int .i64))))], .box [.pv (.int .i64), .pv (.int .i64), .pv (.int .i64)]]⟩
@[reducible] def profile_Valid.x2 : List (Ex × Sh) := [(.normal, ⟨[.one (.is (.ptr 0 0 0)), .one (.pv (.int .i64)), .one (.pv (.int .i64)), .one (.pv (.int .i64)), .one (.pv .bool)], [.box [.pv (.int .i64), .pv (.int .i64), .pv (.int .i64), .pv (.int .i64), .pv (.int .i64), .pv (.list (.pair (.int .i64) (.pair (.int .i64) (.int .i64)))), .pv (.list (.pair (.int .i64) (.pair (.int .i64) (.int .i64)))), .pv (.list (.pair (.int .i64) (.pair (.int .i64) (.int .i64))))]]⟩)]
def profile_Valid.hs : List Hint := [⟨[0, 0, 1, 1], 0, [1, 3], [(0, [1, 3, 42])]⟩, ⟨[0, 1, 0, 1, 1, 1], 1, [1, 3, 43, 44], [(2, []), (1, [2])]⟩, ⟨[0, 1, 1, 1, 0, 0, 1, 1, 0, 0, 1, 0, 1, 1, 1], 2, [1, 3, 4, 5, 43, 44], [(0, [1, 3, 43, 44, 90])]⟩]
def profile_Valid.E (g_measure_Check : measure_Check.sh.X → Option measure_Check.osh.X) (g_profile_Length : profile_Length.sh.X → Option profile_Length.osh.X) (g_profile_Zone : profile_Zone.sh.X → Option profile_Zone.osh.X) (g_profile_Best : profile_Best.sh.X → Option profile_Best.osh.X) (g_profile_neighbour : profile_neighbour.sh.X → Option profile_neighbour.osh.X) (l0 : ((Unit × Int × Unit) × ((Int × Int × Int × Int × Int × (List (Int × (Int × Int))) × (List (Int × (Int × Int))) × (List (Int × (Int × Int))) × Unit) × Unit)) → Option (((Unit × Int × Bool × Unit) × ((Int × Int × Int × Int × Int × (List (Int × (Int × Int))) × (List (Int × (Int × Int))) × (List (Int × (Int × Int))) × Unit) × Unit)) ⊕ Empty)) (l1 : ((Unit × Int × Int × Int × Unit) × ((Int × Int × Int × Int × Int × (List (Int × (Int × Int))) × (List (Int × (Int × Int))) × (List (Int × (Int × Int))) × Unit) × Unit)) → Option (((Unit) × (Unit)) ⊕ ((Bool × Unit) × (Unit)) ⊕ Empty)) (l2 : ((Unit × Int × Int × Unit × Int × Int × Unit) × ((Int × Int × Int × Int × Int × (List (Int × (Int × Int))) × (List (Int × (Int × Int))) × (List (Int × (Int × Int))) × Unit) × (Int × Int × Int × Unit) × Unit)) → Option (((Unit × Int × Int × Int × Bool × Unit) × ((Int × Int × Int × Int × Int × (List (Int × (Int × Int))) × (List (Int × (Int × Int))) × (List (Int × (Int × Int))) × Unit) × Unit)) ⊕ Empty)) : Env := ⟨T, fun n ks => bif Nat.beq n 27 && eqPath ks [] then some (FE.of [true] false measure_Check.sh measure_Check.osh g_measure_Check) else bif Nat.beq n 28 && eqPath ks [] then some (FE.of [true] false profile_Length.sh profile_Length.osh g_profile_Length) else bif Nat.beq n 29 && eqPath ks [] then some (FE.of [true] false profile_Zone.sh profile_Zone.osh g_profile_Zone) else bif Nat.beq n 30 && eqPath ks [] then some (FE.of [true, true] false profile_Best.sh profile_Best.osh g_profile_Best) else bif Nat.beq n 31 && eqPath ks [] then some (FE.of [true, true, true, true, true] false profile_neighbour.sh profile_neighbour.osh g_profile_neighbour) else none, fun n => bif Nat.beq n 0 then some (LE.of profile_Valid.s0 profile_Valid.x0 l0) else bif Nat.beq n 1 then some (LE.of profile_Valid.s1 profile_Valid.x1 l1) else bif Nat.beq n 2 then some (LE.of profile_Valid.s2 profile_Valid.x2 l2) else none, 92, 0, Gt⟩

/-! law37_awake: shapesearch/shapesearchlaw37.awake -/
noncomputable def law37_awake.c : Go.Code := Go.Proofs.Try.f9.body.getD .skip
@[reducible] def law37_awake.sh : Sh := ⟨[], []⟩
@[reducible] def law37_awake.osh : Sh := ⟨[.one (.pv .bool)], []⟩
@[reducible] def law37_awake.s0 : Sh := ⟨[.one (.is (.ptr 0 0 0)), .one (.pv (.int .i64))], [.box [.pv (.int .i64), .pv (.int .i64), .pv (.int .i64), .pv (.int .i64), .pv (.int .i64), .is (.own 1), .is (.own 2), .is (.own 3)], .row 31 (.pair (.int .i64) (.pair (.int .i64) (.int .i64))), .row 31 (.pair (.int .i64) (.pair (.int .i64) (.int .i64))), .row 31 (.pair (.int .i64) (.pair (.int .i64) (.int .i64)))]⟩
@[reducible] def law37_awake.x0 : List (Ex × Sh) := [(.normal, ⟨[.one (.pv .bool)], []⟩)]
def law37_awake.hs : List Hint := [⟨[0, 1, 1], 0, [1, 2], [(0, [0])]⟩]
def law37_awake.E (g_profile_Of : profile_Of.sh.X → Option profile_Of.osh.X) (g_profile_Valid : profile_Valid.sh.X → Option profile_Valid.osh.X) (l0 : ((Unit × Int × Unit) × ((Int × Int × Int × Int × Int × Unit × Unit × Unit × Unit) × (List (Int × (Int × Int))) × (List (Int × (Int × Int))) × (List (Int × (Int × Int))) × Unit)) → Option (((Bool × Unit) × (Unit)) ⊕ Empty)) : Env := ⟨T, fun n ks => bif Nat.beq n 21 && eqPath ks [] then some (FE.of [true, true, true, true] false profile_Of.sh profile_Of.osh g_profile_Of) else bif Nat.beq n 13 && eqPath ks [] then some (FE.of [true] false profile_Valid.sh profile_Valid.osh g_profile_Valid) else none, fun n => bif Nat.beq n 0 then some (LE.of law37_awake.s0 law37_awake.x0 l0) else none, 38, 0, Gt⟩

/-! second_New: shapesearch/shapesearchsecond.New -/
noncomputable def second_New.c : Go.Code := Go.Proofs.Try.f10.body.getD .skip
@[reducible] def second_New.sh : Sh := ⟨[.one (.pv (.list (.int .i64)))], []⟩
@[reducible] def second_New.osh : Sh := ⟨[.one (.is (.ptr 0 0 0))], [.box [.pv (.list (.int .i64)), .pv (.int .i64)]]⟩
def second_New.hs : List Hint := []
def second_New.E : Env := ⟨T, fun n ks => none, fun n => none, 6, 0, Gt⟩

/-! second_Mod: shapesearch/shapesearchsecond.Mod -/
noncomputable def second_Mod.c : Go.Code := Go.Proofs.Try.f12.body.getD .skip
@[reducible] def second_Mod.sh : Sh := ⟨[.one (.pv (.int .i64)), .one (.pv (.int .i64))], []⟩
@[reducible] def second_Mod.osh : Sh := ⟨[.one (.pv (.int .i64))], []⟩
def second_Mod.hs : List Hint := []
def second_Mod.E : Env := ⟨T, fun n ks => none, fun n => none, 12, 0, Gt⟩

/-! second_Deck_Next: (*shapesearch/shapesearchsecond.Deck).Next -/
noncomputable def second_Deck_Next.c : Go.Code := Go.Proofs.Try.f18.body.getD .skip
@[reducible] def second_Deck_Next.sh : Sh := ⟨[.one (.is (.ptr 0 0 0)), .one (.pv (.int .i64))], [.box [.pv (.list (.int .i64)), .pv (.int .i64)]]⟩
@[reducible] def second_Deck_Next.osh : Sh := ⟨[.one (.pv (.int .i64))], [.box [.pv (.list (.int .i64)), .pv (.int .i64)]]⟩
@[reducible] def second_Deck_Next.s0 : Sh := ⟨[.one (.is (.ptr 0 0 0)), .one (.pv (.int .i64))], [.box [.pv (.list (.int .i64)), .pv (.int .i64)]]⟩
@[reducible] def second_Deck_Next.x0 : List (Ex × Sh) := [(.normal, ⟨[.one (.is (.ptr 0 0 0)), .one (.pv (.int .i64)), .one (.pv .bool)], [.box [.pv (.list (.int .i64)), .pv (.int .i64)]]⟩)]
def second_Deck_Next.hs : List Hint := [⟨[0, 0, 1], 0, [0, 1], [(0, [0, 1, 18])]⟩]
def second_Deck_Next.E (g_second_Mod : second_Mod.sh.X → Option second_Mod.osh.X) (l0 : ((Unit × Int × Unit) × (((List Int) × Int × Unit) × Unit)) → Option (((Unit × Int × Bool × Unit) × (((List Int) × Int × Unit) × Unit)) ⊕ Empty)) : Env := ⟨T, fun n ks => bif Nat.beq n 12 && eqPath ks [] then some (FE.of [true, true] false second_Mod.sh second_Mod.osh g_second_Mod) else none, fun n => bif Nat.beq n 0 then some (LE.of second_Deck_Next.s0 second_Deck_Next.x0 l0) else none, 39, 1, Gt⟩

/-! second_Deck_Sample: (*shapesearch/shapesearchsecond.Deck).Sample -/
noncomputable def second_Deck_Sample.c : Go.Code := Go.Proofs.Try.f35.body.getD .skip
@[reducible] def second_Deck_Sample.sh : Sh := ⟨[.one (.is (.ptr 0 0 0))], [.box [.pv (.list (.int .i64)), .pv (.int .i64)]]⟩
@[reducible] def second_Deck_Sample.osh : Sh := ⟨[.one (.pv (.int .i64))], [.box [.pv (.list (.int .i64)), .pv (.int .i64)]]⟩
def second_Deck_Sample.hs : List Hint := []
def second_Deck_Sample.E (g_second_Deck_Next : second_Deck_Next.sh.X → Option second_Deck_Next.osh.X) : Env := ⟨T, fun n ks => bif Nat.beq n 18 && eqPath ks [] then some (FE.of [true, true] true second_Deck_Next.sh second_Deck_Next.osh g_second_Deck_Next) else none, fun n => none, 20, 1, Gt⟩

/-! second_Deck_Values: (*shapesearch/shapesearchsecond.Deck).Values -/
noncomputable def second_Deck_Values.c : Go.Code := Go.Proofs.Try.f17.body.getD .skip
@[reducible] def second_Deck_Values.sh : Sh := ⟨[.one (.is (.ptr 0 0 0)), .one (.pv (.int .i64))], [.box [.pv (.list (.int .i64)), .pv (.int .i64)]]⟩
@[reducible] def second_Deck_Values.osh : Sh := ⟨[.one (.is (.own 1))], [.box [.pv (.list (.int .i64)), .pv (.int .i64)], .row 3 (.int .i64)]⟩
@[reducible] def second_Deck_Values.s0 : Sh := ⟨[.one (.is (.ptr 0 0 0)), .one (.pv (.int .i64)), .one (.is (.own 1)), .one (.pv (.int .i64)), .one (.pv (.int .i64)), .one (.pv (.int .i64))], [.box [.pv (.list (.int .i64)), .pv (.int .i64)], .row 3 (.int .i64)]⟩
@[reducible] def second_Deck_Values.x0 : List (Ex × Sh) := [(.exit 0, ⟨[.one (.is (.own 1))], [.box [.pv (.list (.int .i64)), .pv (.int .i64)], .row 3 (.int .i64)]⟩)]
@[reducible] def second_Deck_Values.s1 : Sh := ⟨[.one (.is (.ptr 0 0 0)), .one (.pv (.int .i64)), .one (.is (.own 1)), .one (.pv (.int .i64)), .one (.pv (.int .i64)), .one (.pv (.int .i64)), .one (.pv (.int .i64)), .one (.pv (.int .i64))], [.box [.pv (.list (.int .i64)), .pv (.int .i64)], .row 3 (.int .i64)]⟩
@[reducible] def second_Deck_Values.x1 : List (Ex × Sh) := [(.normal, ⟨[.one (.is (.ptr 0 0 0)), .one (.pv (.int .i64)), .one (.is (.own 1)), .one (.pv (.int .i64)), .one (.pv (.int .i64)), .one (.pv (.int .i64)), .one (.pv (.int .i64))], [.box [.pv (.list (.int .i64)), .pv (.int .i64)], .row 3 (.int .i64)]⟩)]
@[reducible] def second_Deck_Values.s2 : Sh := ⟨[.one (.is (.ptr 0 0 0)), .one (.pv (.int .i64)), .one (.is (.own 1)), .one (.pv (.int .i64)), .one (.pv (.int .i64)), .one (.pv (.int .i64)), .one (.pv (.int .i64)), .one (.pv (.int .i64)), .one (.pv .bool)], [.box [.pv (.list (.int .i64)), .pv (.int .i64)], .row 3 (.int .i64)]⟩
@[reducible] def second_Deck_Values.x2 : List (Ex × Sh) := [(.normal, ⟨[.one (.is (.ptr 0 0 0)), .one (.pv (.int .i64)), .one (.is (.own 1)), .one (.pv (.int .i64)), .one (.pv (.int .i64)), .one (.pv (.int .i64)), .one (.pv (.int .i64))], [.box [.pv (.list (.int .i64)), .pv (.int .i64)], .row 3 (.int .i64)]⟩)]
def second_Deck_Values.hs : List Hint := [⟨[0, 1, 0, 1, 1, 1, 1], 0, [0, 1, 5, 6, 7, 8], [(2, [5])]⟩, ⟨[1, 0, 1, 0, 0, 1, 0, 0, 1, 0, 1, 1, 1, 1], 1, [0, 1, 5, 6, 7, 8, 9, 22], [(0, [0, 1, 5, 6, 7, 8, 9])]⟩, ⟨[1, 0, 1, 0, 1, 0, 0, 1, 0, 0, 1, 0, 1, 1, 1, 1], 2, [0, 1, 5, 6, 7, 8, 9, 22, 23], [(0, [0, 1, 5, 6, 7, 8, 9])]⟩]
def second_Deck_Values.E (g_second_Deck_Next : second_Deck_Next.sh.X → Option second_Deck_Next.osh.X) (g_second_Deck_Sample : second_Deck_Sample.sh.X → Option second_Deck_Sample.osh.X) (l0 : ((Unit × Int × Unit × Int × Int × Int × Unit) × (((List Int) × Int × Unit) × (List Int) × Unit)) → Option (((Unit × Unit) × (((List Int) × Int × Unit) × (List Int) × Unit)) ⊕ Empty)) (l1 : ((Unit × Int × Unit × Int × Int × Int × Int × Int × Unit) × (((List Int) × Int × Unit) × (List Int) × Unit)) → Option (((Unit × Int × Unit × Int × Int × Int × Int × Unit) × (((List Int) × Int × Unit) × (List Int) × Unit)) ⊕ Empty)) (l2 : ((Unit × Int × Unit × Int × Int × Int × Int × Int × Bool × Unit) × (((List Int) × Int × Unit) × (List Int) × Unit)) → Option (((Unit × Int × Unit × Int × Int × Int × Int × Unit) × (((List Int) × Int × Unit) × (List Int) × Unit)) ⊕ Empty)) : Env := ⟨T, fun n ks => bif Nat.beq n 18 && eqPath ks [] then some (FE.of [true, true] true second_Deck_Next.sh second_Deck_Next.osh g_second_Deck_Next) else bif Nat.beq n 35 && eqPath ks [] then some (FE.of [true] true second_Deck_Sample.sh second_Deck_Sample.osh g_second_Deck_Sample) else none, fun n => bif Nat.beq n 0 then some (LE.of second_Deck_Values.s0 second_Deck_Values.x0 l0) else bif Nat.beq n 1 then some (LE.of second_Deck_Values.s1 second_Deck_Values.x1 l1) else bif Nat.beq n 2 then some (LE.of second_Deck_Values.s2 second_Deck_Values.x2 l2) else none, 52, 1, Gt⟩

/-! second_Deck_Measure: (*shapesearch/shapesearchsecond.Deck).Measure -/
noncomputable def second_Deck_Measure.c : Go.Code := Go.Proofs.Try.f19.body.getD .skip
@[reducible] def second_Deck_Measure.sh : Sh := ⟨[.one (.is (.ptr 0 0 0)), .one (.pv (.int .i64))], [.box [.pv (.list (.int .i64)), .pv (.int .i64)]]⟩
@[reducible] def second_Deck_Measure.osh : Sh := ⟨[.agg [.pv (.int .i64), .pv (.int .i64), .pv (.int .i64)]], [.box [.pv (.list (.int .i64)), .pv (.int .i64)]]⟩
def second_Deck_Measure.hs : List Hint := []
def second_Deck_Measure.E (g_second_Deck_Next : second_Deck_Next.sh.X → Option second_Deck_Next.osh.X) : Env := ⟨T, fun n ks => bif Nat.beq n 18 && eqPath ks [] then some (FE.of [true, true] true second_Deck_Next.sh second_Deck_Next.osh g_second_Deck_Next) else none, fun n => none, 31, 1, Gt⟩

/-! second_Deck_Length: (*shapesearch/shapesearchsecond.Deck).Length -/
noncomputable def second_Deck_Length.c : Go.Code := Go.Proofs.Try.f20.body.getD .skip
@[reducible] def second_Deck_Length.sh : Sh := ⟨[.one (.is (.ptr 0 0 0))], [.box [.pv (.list (.int .i64)), .pv (.int .i64)]]⟩
@[reducible] def second_Deck_Length.osh : Sh := ⟨[.one (.pv (.int .i64))], [.box [.pv (.list (.int .i64)), .pv (.int .i64)]]⟩
def second_Deck_Length.hs : List Hint := []
def second_Deck_Length.E (g_second_Deck_Next : second_Deck_Next.sh.X → Option second_Deck_Next.osh.X) : Env := ⟨T, fun n ks => bif Nat.beq n 18 && eqPath ks [] then some (FE.of [true, true] true second_Deck_Next.sh second_Deck_Next.osh g_second_Deck_Next) else none, fun n => none, 6, 1, Gt⟩

/-! ref01_common: shapesearch/shapesearchref01.common -/
noncomputable def ref01_common.c : Go.Code := Go.Proofs.Try.f74.body.getD .skip
@[reducible] def ref01_common.sh : Sh := ⟨[.one (.pv (.int .i64)), .one (.pv (.int .i64))], []⟩
@[reducible] def ref01_common.osh : Sh := ⟨[.one (.pv (.int .i64))], []⟩
@[reducible] def ref01_common.s0 : Sh := ⟨[.one (.pv (.int .i64)), .one (.pv (.int .i64))], []⟩
@[reducible] def ref01_common.x0 : List (Ex × Sh) := [(.exit 0, ⟨[.one (.pv (.int .i64))], []⟩)]
def ref01_common.hs : List Hint := [⟨[0, 0, 1], 0, [0, 1], [(2, [0])]⟩]
def ref01_common.E (l0 : ((Int × Int × Unit) × (Unit)) → Option (((Int × Unit) × (Unit)) ⊕ Empty)) : Env := ⟨T, fun n ks => none, fun n => bif Nat.beq n 0 then some (LE.of ref01_common.s0 ref01_common.x0 l0) else none, 12, 0, Gt⟩

/-! ref01_Valid: shapesearch/shapesearchref01.Valid -/
noncomputable def ref01_Valid.c : Go.Code := Go.Proofs.Try.f54.body.getD .skip
@[reducible] def ref01_Valid.sh : Sh := ⟨[.agg [.pv (.int .i64), .pv (.int .i64)]], []⟩
@[reducible] def ref01_Valid.osh : Sh := ⟨[.one (.pv .bool)], []⟩
@[reducible] def ref01_Valid.s0 : Sh := ⟨[.one (.is (.ptr 0 0 0))], [.box [.pv (.int .i64), .pv (.int .i64)]]⟩
@[reducible] def ref01_Valid.x0 : List (Ex × Sh) := [(.normal, ⟨[.one (.pv .bool)], []⟩)]
def ref01_Valid.hs : List Hint := [⟨[0, 1], 0, [1], [(0, [2])]⟩]
def ref01_Valid.E (g_ref01_common : ref01_common.sh.X → Option ref01_common.osh.X) (l0 : ((Unit × Unit) × ((Int × Int × Unit) × Unit)) → Option (((Bool × Unit) × (Unit)) ⊕ Empty)) : Env := ⟨T, fun n ks => bif Nat.beq n 74 && eqPath ks [] then some (FE.of [true, true] false ref01_common.sh ref01_common.osh g_ref01_common) else none, fun n => bif Nat.beq n 0 then some (LE.of ref01_Valid.s0 ref01_Valid.x0 l0) else none, 29, 0, Gt⟩

/-! ref01_order: shapesearch/shapesearchref01.order -/
noncomputable def ref01_order.c : Go.Code := Go.Proofs.Try.f70.body.getD .skip
@[reducible] def ref01_order.sh : Sh := ⟨[.one (.pv (.int .i64)), .one (.pv (.int .i64)), .one (.pv (.int .i64)), .one (.pv (.int .i64))], []⟩
@[reducible] def ref01_order.osh : Sh := ⟨[.one (.pv (.int .i64))], []⟩
@[reducible] def ref01_order.s0 : Sh := ⟨[.one (.pv (.int .i64)), .one (.pv (.int .i64)), .one (.pv (.int .i64)), .one (.pv (.int .i64))], []⟩
@[reducible] def ref01_order.x0 : List (Ex × Sh) := [(.normal, ⟨[.one (.pv (.int .i64)), .one (.pv (.int .i64)), .one (.pv (.int .i64)), .one (.pv (.int .i64)), .one (.pv .bool)], []⟩)]
def ref01_order.hs : List Hint := [⟨[0, 0, 0, 1, 1, 1, 1], 0, [0, 1, 2, 3], [(0, [0, 1, 2, 3, 29])]⟩]
def ref01_order.E (g_ref01_order : ref01_order.sh.X → Option ref01_order.osh.X) (l0 : ((Int × Int × Int × Int × Unit) × (Unit)) → Option (((Int × Int × Int × Int × Bool × Unit) × (Unit)) ⊕ Empty)) : Env := ⟨T, fun n ks => bif Nat.beq n 70 && eqPath ks [] then some (FE.of [true, true, true, true] false ref01_order.sh ref01_order.osh g_ref01_order) else none, fun n => bif Nat.beq n 0 then some (LE.of ref01_order.s0 ref01_order.x0 l0) else none, 47, 0, Gt⟩

/-! ref01_Cmp: shapesearch/shapesearchref01.Cmp -/
noncomputable def ref01_Cmp.c : Go.Code := Go.Proofs.Try.f47.body.getD .skip
@[reducible] def ref01_Cmp.sh : Sh := ⟨[.agg [.pv (.int .i64), .pv (.int .i64)], .agg [.pv (.int .i64), .pv (.int .i64)]], []⟩
@[reducible] def ref01_Cmp.osh : Sh := ⟨[.one (.pv (.int .i64))], []⟩
@[reducible] def ref01_Cmp.s0 : Sh := ⟨[.one (.is (.ptr 0 0 0)), .one (.is (.ptr 1 0 0))], [.box [.pv (.int .i64), .pv (.int .i64)], .box [.pv (.int .i64), .pv (.int .i64)]]⟩
@[reducible] def ref01_Cmp.x0 : List (Ex × Sh) := [(.normal, ⟨[.one (.is (.ptr 0 0 0)), .one (.is (.ptr 1 0 0)), .one (.pv .bool)], [.box [.pv (.int .i64), .pv (.int .i64)], .box [.pv (.int .i64), .pv (.int .i64)]]⟩)]
def ref01_Cmp.hs : List Hint := [⟨[0, 0, 1], 0, [2, 3], [(0, [2, 3, 12])]⟩]
def ref01_Cmp.E (g_ref01_Valid : ref01_Valid.sh.X → Option ref01_Valid.osh.X) (g_ref01_order : ref01_order.sh.X → Option ref01_order.osh.X) (l0 : ((Unit × Unit × Unit) × ((Int × Int × Unit) × (Int × Int × Unit) × Unit)) → Option (((Unit × Unit × Bool × Unit) × ((Int × Int × Unit) × (Int × Int × Unit) × Unit)) ⊕ Empty)) : Env := ⟨T, fun n ks => bif Nat.beq n 54 && eqPath ks [] then some (FE.of [true] false ref01_Valid.sh ref01_Valid.osh g_ref01_Valid) else bif Nat.beq n 70 && eqPath ks [] then some (FE.of [true, true, true, true] false ref01_order.sh ref01_order.osh g_ref01_order) else none, fun n => bif Nat.beq n 0 then some (LE.of ref01_Cmp.s0 ref01_Cmp.x0 l0) else none, 22, 0, Gt⟩

/-! ref01_Less: shapesearch/shapesearchref01.Less -/
noncomputable def ref01_Less.c : Go.Code := Go.Proofs.Try.f24.body.getD .skip
@[reducible] def ref01_Less.sh : Sh := ⟨[.agg [.pv (.int .i64), .pv (.int .i64)], .agg [.pv (.int .i64), .pv (.int .i64)]], []⟩
@[reducible] def ref01_Less.osh : Sh := ⟨[.one (.pv .bool)], []⟩
def ref01_Less.hs : List Hint := []
def ref01_Less.E (g_ref01_Cmp : ref01_Cmp.sh.X → Option ref01_Cmp.osh.X) : Env := ⟨T, fun n ks => bif Nat.beq n 47 && eqPath ks [] then some (FE.of [true, true] false ref01_Cmp.sh ref01_Cmp.osh g_ref01_Cmp) else none, fun n => none, 9, 0, Gt⟩

/-! law37_ProfileMutual: shapesearch/shapesearchlaw37.ProfileMutual -/
noncomputable def law37_ProfileMutual.c : Go.Code := Go.Proofs.Try.f5.body.getD .skip
@[reducible] def law37_ProfileMutual.sh : Sh := ⟨[.one (.pv (.list (.int .i64))), .one (.pv (.int .u8))], []⟩
@[reducible] def law37_ProfileMutual.osh : Sh := ⟨[.one (.pv .bool)], []⟩
@[reducible] def law37_ProfileMutual.s0 : Sh := ⟨[.one (.is (.ptr 0 0 0)), .one (.pv (.int .i64)), .one (.is (.ptr 1 0 0)), .one (.pv (.int .i64))], [.box [.pv (.int .i64), .pv (.int .i64), .pv (.int .i64), .pv (.int .i64), .pv (.int .i64), .is (.own 2), .is (.own 3), .is (.own 4)], .box [.pv (.int .i64), .pv (.int .i64), .pv (.int .i64), .pv (.int .i64), .pv (.int .i64), .is (.own 5), .is (.own 6), .is (.own 7)], .row 31 (.pair (.int .i64) (.pair (.int .i64) (.int .i64))), .row 31 (.pair (.int .i64) (.pair (.int .i64) (.int .i64))), .row 31 (.pair (.int .i64) (.pair (.int .i64) (.int .i64))), .row 31 (.pair (.int .i64) (.pair (.int .i64) (.int .i64))), .row 31 (.pair (.int .i64) (.pair (.int .i64) (.int .i64))), .row 31 (.pair (.int .i64) (.pair (.int .i64) (.int .i64)))]⟩
@[reducible] def law37_ProfileMutual.x0 : List (Ex × Sh) := [(.normal, ⟨[.one (.is (.ptr 0 0 0)), .one (.is (.ptr 1 0 0)), .one (.pv .bool)], [.box [.pv (.int .i64), .pv (.int .i64), .pv (.int .i64), .pv (.int .i64), .pv (.int .i64), .is (.own 2), .is (.own 3), .is (.own 4)], .box [.pv (.int .i64), .pv (.int .i64), .pv (.int .i64), .pv (.int .i64), .pv (.int .i64), .is (.own 5), .is (.own 6), .is (.own 7)], .row 31 (.pair (.int .i64) (.pair (.int .i64) (.int .i64))), .row 31 (.pair (.int .i64) (.pair (.int .i64) (.int .i64))), .row 31 (.pair (.int .i64) (.pair (.int .i64) (.int .i64))), .row 31 (.pair (.int .i64) (.pair (.int .i64) (.int .i64))), .row 31 (.pair (.int .i64) (.pair (.int .i64) (.int .i64))), .row 31 (.pair (.int .i64) (.pair (.int .i64) (.int .i64)))]⟩)]
@[reducible] def law37_ProfileMutual.s1 : Sh := ⟨[.one (.is (.ptr 0 0 0)), .one (.is (.ptr 1 0 0)), .one (.pv (.int .i64)), .one (.pv (.int .i64))], [.box [.pv (.int .i64), .pv (.int .i64), .pv (.int .i64), .pv (.int .i64), .pv (.int .i64), .is (.own 2), .is (.own 3), .is (.own 4)], .box [.pv (.int .i64), .pv (.int .i64), .pv (.int .i64), .pv (.int .i64), .pv (.int .i64), .is (.own 5), .is (.own 6), .is (.own 7)], .row 31 (.pair (.int .i64) (.pair (.int .i64) (.int .i64))), .row 31 (.pair (.int .i64) (.pair (.int .i64) (.int .i64))), .row 31 (.pair (.int .i64) (.pair (.int .i64) (.int .i64))), .row 31 (.pair (.int .i64) (.pair (.int .i64) (.int .i64))), .row 31 (.pair (.int .i64) (.pair (.int .i64) (.int .i64))), .row 31 (.pair (.int .i64) (.pair (.int .i64) (.int .i64)))]⟩
@[reducible] def law37_ProfileMutual.x1 : List (Ex × Sh) := [(.exit 0, ⟨[.one (.is (.ptr 0 0 0)), .one (.pv (.int .i64))], [.box [.pv (.int .i64), .pv (.int .i64), .pv (.int .i64), .pv (.int .i64), .pv (.int .i64), .is (.own 1), .is (.own 2), .is (.own 3)], .row 31 (.pair (.int .i64) (.pair (.int .i64) (.int .i64))), .row 31 (.pair (.int .i64) (.pair (.int .i64) (.int .i64))), .row 31 (.pair (.int .i64) (.pair (.int .i64) (.int .i64)))]⟩), (.ret, ⟨[.one (.pv .bool)], []⟩)]
@[reducible] def law37_ProfileMutual.s2 : Sh := ⟨[.one (.is (.ptr 0 0 0)), .one (.is (.ptr 1 0 0)), .one (.pv (.int .i64)), .one (.pv (.int .i64))], [.box [.pv (.int .i64), .pv (.int .i64), .pv (.int .i64), .pv (.int .i64), .pv (.int .i64), .is (.own 2), .is (.own 3), .is (.own 4)], .box [.pv (.int .i64), .pv (.int .i64), .pv (.int .i64), .pv (.int .i64), .pv (.int .i64), .is (.own 5), .is (.own 6), .is (.own 7)], .row 31 (.pair (.int .i64) (.pair (.int .i64) (.int .i64))), .row 31 (.pair (.int .i64) (.pair (.int .i64) (.int .i64))), .row 31 (.pair (.int .i64) (.pair (.int .i64) (.int .i64))), .row 31 (.pair (.int .i64) (.pair (.int .i64) (.int .i64))), .row 31 (.pair (.int .i64) (.pair (.int .i64) (.int .i64))), .row 31 (.pair (.int .i64) (.pair (.int .i64) (.int .i64)))]⟩
@[reducible] def law37_ProfileMutual.x2 : List (Ex × Sh) := [(.normal, ⟨[.one (.is (.ptr 0 0 0)), .one (.is (.ptr 1 0 0)), .one (.pv (.int .i64)), .one (.pv (.int .i64)), .one (.pv .bool)], [.box [.pv (.int .i64), .pv (.int .i64), .pv (.int .i64), .pv (.int .i64), .pv (.int .i64), .is (.own 2), .is (.own 3), .is (.own 4)], .box [.pv (.int .i64), .pv (.int .i64), .pv (.int .i64), .pv (.int .i64), .pv (.int .i64), .is (.own 5), .is (.own 6), .is (.own 7)], .row 31 (.pair (.int .i64) (.pair (.int .i64) (.int .i64))), .row 31 (.pair (.int .i64) (.pair (.int .i64) (.int .i64))), .row 31 (.pair (.int .i64) (.pair (.int .i64) (.int .i64))), .row 31 (.pair (.int .i64) (.pair (.int .i64) (.int .i64))), .row 31 (.pair (.int .i64) (.pair (.int .i64) (.int .i64))), .row 31 (.pair (.int .i64) (.pair (.int .i64) (.int .i64)))]⟩)]
@[reducible] def law37_ProfileMutual.s3 : Sh := ⟨[.one (.is (.ptr 0 0 0)), .one (.is (.ptr 1 0 0)), .one (.pv (.int .i64)), .one (.pv (.int .i64))], [.box [.pv (.int .i64), .pv (.int .i64), .pv (.int .i64), .pv (.int .i64), .pv (.int .i64), .is (.own 2), .is (.own 3), .is (.own 4)], .box [.pv (.int .i64), .pv (.int .i64), .pv (.int .i64), .pv (.int .i64), .pv (.int .i64), .is (.own 5), .is (.own 6), .is (.own 7)], .row 31 (.pair (.int .i64) (.pair (.int .i64) (.int .i64))), .row 31 (.pair (.int .i64) (.pair (.int .i64) (.int .i64))), .row 31 (.pair (.int .i64) (.pair (.int .i64) (.int .i64))), .row 31 (.pair (.int .i64) (.pair (.int .i64) (.int .i64))), .row 31 (.pair (.int .i64) (.pair (.int .i64) (.int .i64))), .row 31 (.pair (.int .i64) (.pair (.int .i64) (.int .i64)))]⟩
@[reducible] def law37_ProfileMutual.x3 : List (Ex × Sh) := [(.normal, ⟨[.one (.is (.ptr 0 0 0)), .one (.is (.ptr 1 0 0)), .one (.pv (.int .i64)), .one (.pv (.int .i64)), .one (.pv .bool)], [.box [.pv (.int .i64), .pv (.int .i64), .pv (.int .i64), .pv (.int .i64), .pv (.int .i64), .is (.own 2), .is (.own 3), .is (.own 4)], .box [.pv (.int .i64), .pv (.int .i64), .pv (.int .i64), .pv (.int .i64), .pv (.int .i64), .is (.own 5), .is (.own 6), .is (.own 7)], .row 31 (.pair (.int .i64) (.pair (.int .i64) (.int .i64))), .row 31 (.pair (.int .i64) (.pair (.int .i64) (.int .i64))), .row 31 (.pair (.int .i64) (.pair (.int .i64) (.int .i64))), .row 31 (.pair (.int .i64) (.pair (.int .i64) (.int .i64))), .row 31 (.pair (.int .i64) (.pair (.int .i64) (.int .i64))), .row 31 (.pair (.int .i64) (.pair (.int .i64) (.int .i64)))]⟩)]
@[reducible] def law37_ProfileMutual.s4 : Sh := ⟨[.one (.is (.ptr 0 0 0)), .one (.pv (.int .i64)), .one (.pv (.int .i64))], [.box [.pv (.int .i64), .pv (.int .i64), .pv (.int .i64), .pv (.int .i64), .pv (.int .i64), .is (.own 1), .is (.own 2), .is (.own 3)], .row 31 (.pair (.int .i64) (.pair (.int .i64) (.int .i64))), .row 31 (.pair (.int .i64) (.pair (.int .i64) (.int .i64))), .row 31 (.pair (.int .i64) (.pair (.int .i64) (.int .i64)))]⟩
@[reducible] def law37_ProfileMutual.x4 : List (Ex × Sh) := [(.normal, ⟨[.one (.pv .bool)], []⟩)]
def law37_ProfileMutual.hs : List Hint := [⟨[0, 0, 1, 1, 1, 1, 1, 1, 1], 0, [10, 11, 12, 13], [(0, [10, 12, 68])]⟩, ⟨[0, 1, 0, 1, 1, 1, 1, 1, 1, 1, 1, 1], 1, [10, 12, 14, 15], [(2, [10, 14]), (1, [4])]⟩, ⟨[0, 0, 0, 0, 1, 0, 0, 1, 0, 1, 1, 1, 1, 1, 1, 1, 1, 1], 2, [10, 12, 14, 15], [(0, [10, 12, 14, 15, 106])]⟩, ⟨[0, 1, 0, 0, 1, 0, 0, 1, 0, 1, 1, 1, 1, 1, 1, 1, 1, 1], 3, [10, 12, 14, 15], [(0, [10, 12, 14, 15, 132])]⟩, ⟨[0, 1, 1, 1, 1, 1, 1, 1, 1, 1, 1, 1, 1], 4, [10, 14, 16], [(0, [4])]⟩]
def law37_ProfileMutual.E (g_second_Few : second_Few.sh.X → Option second_Few.osh.X) (g_law37_awake : law37_awake.sh.X → Option law37_awake.osh.X) (g_second_New : second_New.sh.X → Option second_New.osh.X) (g_second_Deck_Next : second_Deck_Next.sh.X → Option second_Deck_Next.osh.X) (g_second_Deck_Values : second_Deck_Values.sh.X → Option second_Deck_Values.osh.X) (g_second_Deck_Measure : second_Deck_Measure.sh.X → Option second_Deck_Measure.osh.X) (g_second_Deck_Length : second_Deck_Length.sh.X → Option second_Deck_Length.osh.X) (g_profile_Of : profile_Of.sh.X → Option profile_Of.osh.X) (g_ref01_Less : ref01_Less.sh.X → Option ref01_Less.osh.X) (l0 : ((Unit × Int × Unit × Int × Unit) × ((Int × Int × Int × Int × Int × Unit × Unit × Unit × Unit) × (Int × Int × Int × Int × Int × Unit × Unit × Unit × Unit) × (List (Int × (Int × Int))) × (List (Int × (Int × Int))) × (List (Int × (Int × Int))) × (List (Int × (Int × Int))) × (List (Int × (Int × Int))) × (List (Int × (Int × Int))) × Unit)) → Option (((Unit × Unit × Bool × Unit) × ((Int × Int × Int × Int × Int × Unit × Unit × Unit × Unit) × (Int × Int × Int × Int × Int × Unit × Unit × Unit × Unit) × (List (Int × (Int × Int))) × (List (Int × (Int × Int))) × (List (Int × (Int × Int))) × (List (Int × (Int × Int))) × (List (Int × (Int × Int))) × (List (Int × (Int × Int))) × Unit)) ⊕ Empty)) (l1 : ((Unit × Unit × Int × Int × Unit) × ((Int × Int × Int × Int × Int × Unit × Unit × Unit × Unit) × (Int × Int × Int × Int × Int × Unit × Unit × Unit × Unit) × (List (Int × (Int × Int))) × (List (Int × (Int × Int))) × (List (Int × (Int × Int))) × (List (Int × (Int × Int))) × (List (Int × (Int × Int))) × (List (Int × (Int × Int))) × Unit)) → Option (((Unit × Int × Unit) × ((Int × Int × Int × Int × Int × Unit × Unit × Unit × Unit) × (List (Int × (Int × Int))) × (List (Int × (Int × Int))) × (List (Int × (Int × Int))) × Unit)) ⊕ ((Bool × Unit) × (Unit)) ⊕ Empty)) (l2 : ((Unit × Unit × Int × Int × Unit) × ((Int × Int × Int × Int × Int × Unit × Unit × Unit × Unit) × (Int × Int × Int × Int × Int × Unit × Unit × Unit × Unit) × (List (Int × (Int × Int))) × (List (Int × (Int × Int))) × (List (Int × (Int × Int))) × (List (Int × (Int × Int))) × (List (Int × (Int × Int))) × (List (Int × (Int × Int))) × Unit)) → Option (((Unit × Unit × Int × Int × Bool × Unit) × ((Int × Int × Int × Int × Int × Unit × Unit × Unit × Unit) × (Int × Int × Int × Int × Int × Unit × Unit × Unit × Unit) × (List (Int × (Int × Int))) × (List (Int × (Int × Int))) × (List (Int × (Int × Int))) × (List (Int × (Int × Int))) × (List (Int × (Int × Int))) × (List (Int × (Int × Int))) × Unit)) ⊕ Empty)) (l3 : ((Unit × Unit × Int × Int × Unit) × ((Int × Int × Int × Int × Int × Unit × Unit × Unit × Unit) × (Int × Int × Int × Int × Int × Unit × Unit × Unit × Unit) × (List (Int × (Int × Int))) × (List (Int × (Int × Int))) × (List (Int × (Int × Int))) × (List (Int × (Int × Int))) × (List (Int × (Int × Int))) × (List (Int × (Int × Int))) × Unit)) → Option (((Unit × Unit × Int × Int × Bool × Unit) × ((Int × Int × Int × Int × Int × Unit × Unit × Unit × Unit) × (Int × Int × Int × Int × Int × Unit × Unit × Unit × Unit) × (List (Int × (Int × Int))) × (List (Int × (Int × Int))) × (List (Int × (Int × Int))) × (List (Int × (Int × Int))) × (List (Int × (Int × Int))) × (List (Int × (Int × Int))) × Unit)) ⊕ Empty)) (l4 : ((Unit × Int × Int × Unit) × ((Int × Int × Int × Int × Int × Unit × Unit × Unit × Unit) × (List (Int × (Int × Int))) × (List (Int × (Int × Int))) × (List (Int × (Int × Int))) × Unit)) → Option (((Bool × Unit) × (Unit)) ⊕ Empty)) : Env := ⟨T, fun n ks => bif Nat.beq n 8 && eqPath ks [] then some (FE.of [true] false second_Few.sh second_Few.osh g_second_Few) else bif Nat.beq n 9 && eqPath ks [] then some (FE.of [] false law37_awake.sh law37_awake.osh g_law37_awake) else bif Nat.beq n 10 && eqPath ks [] then some (FE.of [true] true second_New.sh second_New.osh g_second_New) else bif Nat.beq n 18 && eqPath ks [] then some (FE.of [true, true] true second_Deck_Next.sh second_Deck_Next.osh g_second_Deck_Next) else bif Nat.beq n 17 && eqPath ks [] then some (FE.of [true, true] true second_Deck_Values.sh second_Deck_Values.osh g_second_Deck_Values) else bif Nat.beq n 19 && eqPath ks [] then some (FE.of [true, true] true second_Deck_Measure.sh second_Deck_Measure.osh g_second_Deck_Measure) else bif Nat.beq n 20 && eqPath ks [] then some (FE.of [true] true second_Deck_Length.sh second_Deck_Length.osh g_second_Deck_Length) else bif Nat.beq n 21 && eqPath ks [] then some (FE.of [true, true, true, true] false profile_Of.sh profile_Of.osh g_profile_Of) else bif Nat.beq n 24 && eqPath ks [] then some (FE.of [true, true] false ref01_Less.sh ref01_Less.osh g_ref01_Less) else none, fun n => bif Nat.beq n 0 then some (LE.of law37_ProfileMutual.s0 law37_ProfileMutual.x0 l0) else bif Nat.beq n 1 then some (LE.of law37_ProfileMutual.s1 law37_ProfileMutual.x1 l1) else bif Nat.beq n 2 then some (LE.of law37_ProfileMutual.s2 law37_ProfileMutual.x2 l2) else bif Nat.beq n 3 then some (LE.of law37_ProfileMutual.s3 law37_ProfileMutual.x3 l3) else bif Nat.beq n 4 then some (LE.of law37_ProfileMutual.s4 law37_ProfileMutual.x4 l4) else none, 181, 0, Gt⟩

/-! ref37_SameNeighbours: shapesearch/shapesearchref37.SameNeighbours -/
noncomputable def ref37_SameNeighbours.c : Go.Code := Go.Proofs.Try.f48.body.getD .skip
@[reducible] def ref37_SameNeighbours.sh : Sh := ⟨[.one (.pv (.list (.pair (.int .i64) (.pair (.int .i64) (.int .i64))))), .one (.pv (.list (.pair (.int .i64) (.pair (.int .i64) (.int .i64)))))], []⟩
@[reducible] def ref37_SameNeighbours.osh : Sh := ⟨[.one (.pv .bool)], []⟩
@[reducible] def ref37_SameNeighbours.s0 : Sh := ⟨[.one (.pv (.list (.pair (.int .i64) (.pair (.int .i64) (.int .i64))))), .one (.pv (.list (.pair (.int .i64) (.pair (.int .i64) (.int .i64))))), .one (.pv (.int .i64))], []⟩
@[reducible] def ref37_SameNeighbours.x0 : List (Ex × Sh) := [(.exit 0, ⟨[], []⟩), (.ret, ⟨[.one (.pv .bool)], []⟩)]
def ref37_SameNeighbours.hs : List Hint := [⟨[0, 1, 0, 1, 1], 0, [0, 1, 5], [(2, []), (1, [4])]⟩]
def ref37_SameNeighbours.E (l0 : (((List (Int × (Int × Int))) × (List (Int × (Int × Int))) × Int × Unit) × (Unit)) → Option (((Unit) × (Unit)) ⊕ ((Bool × Unit) × (Unit)) ⊕ Empty)) : Env := ⟨T, fun n ks => none, fun n => bif Nat.beq n 0 then some (LE.of ref37_SameNeighbours.s0 ref37_SameNeighbours.x0 l0) else none, 26, 0, Gt⟩

/-! ref37_Same: shapesearch/shapesearchref37.Same -/
noncomputable def ref37_Same.c : Go.Code := Go.Proofs.Try.f25.body.getD .skip
@[reducible] def ref37_Same.sh : Sh := ⟨[.agg [.pv (.int .i64), .pv (.int .i64), .pv (.int .i64), .pv (.int .i64), .pv (.int .i64), .pv (.list (.pair (.int .i64) (.pair (.int .i64) (.int .i64)))), .pv (.list (.pair (.int .i64) (.pair (.int .i64) (.int .i64)))), .pv (.list (.pair (.int .i64) (.pair (.int .i64) (.int .i64))))], .agg [.pv (.int .i64), .pv (.int .i64), .pv (.int .i64), .pv (.int .i64), .pv (.int .i64), .pv (.list (.pair (.int .i64) (.pair (.int .i64) (.int .i64)))), .pv (.list (.pair (.int .i64) (.pair (.int .i64) (.int .i64)))), .pv (.list (.pair (.int .i64) (.pair (.int .i64) (.int .i64))))]], []⟩
@[reducible] def ref37_Same.osh : Sh := ⟨[.one (.pv .bool)], []⟩
@[reducible] def ref37_Same.s0 : Sh := ⟨[.one (.is (.ptr 0 0 0)), .one (.is (.ptr 1 0 0))], [.box [.pv (.int .i64), .pv (.int .i64), .pv (.int .i64), .pv (.int .i64), .pv (.int .i64), .pv (.list (.pair (.int .i64) (.pair (.int .i64) (.int .i64)))), .pv (.list (.pair (.int .i64) (.pair (.int .i64) (.int .i64)))), .pv (.list (.pair (.int .i64) (.pair (.int .i64) (.int .i64))))], .box [.pv (.int .i64), .pv (.int .i64), .pv (.int .i64), .pv (.int .i64), .pv (.int .i64), .pv (.list (.pair (.int .i64) (.pair (.int .i64) (.int .i64)))), .pv (.list (.pair (.int .i64) (.pair (.int .i64) (.int .i64)))), .pv (.list (.pair (.int .i64) (.pair (.int .i64) (.int .i64))))]]⟩
@[reducible] def ref37_Same.x0 : List (Ex × Sh) := [(.normal, ⟨[.one (.pv .bool)], []⟩)]
def ref37_Same.hs : List Hint := [⟨[0, 1], 0, [2, 3], [(0, [4])]⟩]
def ref37_Same.E (g_ref37_SameNeighbours : ref37_SameNeighbours.sh.X → Option ref37_SameNeighbours.osh.X) (l0 : ((Unit × Unit × Unit) × ((Int × Int × Int × Int × Int × (List (Int × (Int × Int))) × (List (Int × (Int × Int))) × (List (Int × (Int × Int))) × Unit) × (Int × Int × Int × Int × Int × (List (Int × (Int × Int))) × (List (Int × (Int × Int))) × (List (Int × (Int × Int))) × Unit) × Unit)) → Option (((Bool × Unit) × (Unit)) ⊕ Empty)) : Env := ⟨T, fun n ks => bif Nat.beq n 48 && eqPath ks [] then some (FE.of [true, true] false ref37_SameNeighbours.sh ref37_SameNeighbours.osh g_ref37_SameNeighbours) else none, fun n => bif Nat.beq n 0 then some (LE.of ref37_Same.s0 ref37_Same.x0 l0) else none, 45, 0, Gt⟩

/-! law37_ProfileMoved: shapesearch/shapesearchlaw37.ProfileMoved -/
noncomputable def law37_ProfileMoved.c : Go.Code := Go.Proofs.Try.f6.body.getD .skip
@[reducible] def law37_ProfileMoved.sh : Sh := ⟨[.one (.pv (.list (.int .i64))), .one (.pv (.int .u8)), .one (.pv (.int .u8))], []⟩
@[reducible] def law37_ProfileMoved.osh : Sh := ⟨[.one (.pv .bool)], []⟩
@[reducible] def law37_ProfileMoved.s0 : Sh := ⟨[.one (.pv (.int .u8)), .one (.pv (.int .u8)), .one (.is (.own 0)), .one (.is (.ptr 1 0 0)), .one (.pv (.int .i64)), .one (.pv (.int .i64)), .one (.is (.own 2)), .one (.pv (.int .i64))], [.row 3 (.int .i64), .box [.pv (.int .i64), .pv (.int .i64), .pv (.int .i64)], .row 3 (.int .i64)]⟩
@[reducible] def law37_ProfileMoved.x0 : List (Ex × Sh) := [(.exit 0, ⟨[.one (.pv (.int .u8)), .one (.is (.own 0)), .one (.is (.ptr 1 0 0)), .one (.pv (.int .i64)), .one (.pv (.int .i64)), .one (.is (.own 2))], [.row 3 (.int .i64), .box [.pv (.int .i64), .pv (.int .i64), .pv (.int .i64)], .row 3 (.int .i64)]⟩)]
@[reducible] def law37_ProfileMoved.s1 : Sh := ⟨[.one (.pv (.int .u8)), .one (.is (.own 0)), .one (.pv (.int .i64)), .one (.pv (.int .i64)), .one (.is (.ptr 1 0 0)), .one (.pv (.int .i64)), .one (.is (.ptr 2 0 0)), .one (.pv (.int .i64))], [.row 3 (.int .i64), .box [.pv (.int .i64), .pv (.int .i64), .pv (.int .i64), .pv (.int .i64), .pv (.int .i64), .is (.own 3), .is (.own 4), .is (.own 5)], .box [.pv (.int .i64), .pv (.int .i64), .pv (.int .i64), .pv (.int .i64), .pv (.int .i64), .is (.own 6), .is (.own 7), .is (.own 8)], .row 31 (.pair (.int .i64) (.pair (.int .i64) (.int .i64))), .row 31 (.pair (.int .i64) (.pair (.int .i64) (.int .i64))), .row 31 (.pair (.int .i64) (.pair (.int .i64) (.int .i64))), .row 31 (.pair (.int .i64) (.pair (.int .i64) (.int .i64))), .row 31 (.pair (.int .i64) (.pair (.int .i64) (.int .i64))), .row 31 (.pair (.int .i64) (.pair (.int .i64) (.int .i64)))]⟩
@[reducible] def law37_ProfileMoved.x1 : List (Ex × Sh) := [(.normal, ⟨[.one (.pv (.int .u8)), .one (.is (.own 0)), .one (.pv (.int .i64)), .one (.pv (.int .i64)), .one (.pv .bool)], [.row 3 (.int .i64)]⟩)]
@[reducible] def law37_ProfileMoved.s2 : Sh := ⟨[.one (.is (.own 0)), .one (.pv (.int .i64)), .one (.pv (.int .i64)), .one (.pv (.int .i64)), .one (.is (.ptr 1 0 0)), .one (.is (.own 2)), .one (.pv (.int .i64))], [.row 3 (.int .i64), .box [.pv (.int .i64), .pv (.int .i64), .pv (.int .i64)], .row 3 (.int .i64)]⟩
@[reducible] def law37_ProfileMoved.x2 : List (Ex × Sh) := [(.exit 2, ⟨[.one (.is (.own 0)), .one (.pv (.int .i64)), .one (.pv (.int .i64)), .one (.is (.ptr 1 0 0)), .one (.is (.own 2))], [.row 3 (.int .i64), .box [.pv (.int .i64), .pv (.int .i64), .pv (.int .i64)], .row 3 (.int .i64)]⟩)]
def law37_ProfileMoved.hs : List Hint := [⟨[0, 1, 0, 1, 1, 1, 1, 1, 1], 0, [1, 2, 8, 9, 10, 11, 12, 13], [(2, [2, 8, 9, 10, 11, 12])]⟩, ⟨[0, 0, 1, 1, 1, 1, 1, 1, 1, 1, 1], 1, [2, 8, 10, 11, 15, 16, 17, 18], [(0, [2, 8, 10, 11, 104])]⟩, ⟨[0, 1, 0, 1, 1, 1, 1, 1, 1, 1, 1, 1, 1, 1, 1, 1], 2, [8, 10, 11, 19, 20, 21, 22], [(4, [8, 10, 11, 20, 21])]⟩]
def law37_ProfileMoved.E (g_second_Few : second_Few.sh.X → Option second_Few.osh.X) (g_law37_awake : law37_awake.sh.X → Option law37_awake.osh.X) (g_second_New : second_New.sh.X → Option second_New.osh.X) (g_second_Deck_Next : second_Deck_Next.sh.X → Option second_Deck_Next.osh.X) (g_second_Deck_Values : second_Deck_Values.sh.X → Option second_Deck_Values.osh.X) (g_second_Deck_Measure : second_Deck_Measure.sh.X → Option second_Deck_Measure.osh.X) (g_second_Deck_Length : second_Deck_Length.sh.X → Option second_Deck_Length.osh.X) (g_profile_Of : profile_Of.sh.X → Option profile_Of.osh.X) (g_ref37_Same : ref37_Same.sh.X → Option ref37_Same.osh.X) (l0 : ((Int × Int × Unit × Unit × Int × Int × Unit × Int × Unit) × ((List Int) × (Int × Int × Int × Unit) × (List Int) × Unit)) → Option (((Int × Unit × Unit × Int × Int × Unit × Unit) × ((List Int) × (Int × Int × Int × Unit) × (List Int) × Unit)) ⊕ Empty)) (l1 : ((Int × Unit × Int × Int × Unit × Int × Unit × Int × Unit) × ((List Int) × (Int × Int × Int × Int × Int × Unit × Unit × Unit × Unit) × (Int × Int × Int × Int × Int × Unit × Unit × Unit × Unit) × (List (Int × (Int × Int))) × (List (Int × (Int × Int))) × (List (Int × (Int × Int))) × (List (Int × (Int × Int))) × (List (Int × (Int × Int))) × (List (Int × (Int × Int))) × Unit)) → Option (((Int × Unit × Int × Int × Bool × Unit) × ((List Int) × Unit)) ⊕ Empty)) (l2 : ((Unit × Int × Int × Int × Unit × Unit × Int × Unit) × ((List Int) × (Int × Int × Int × Unit) × (List Int) × Unit)) → Option (((Unit × Int × Int × Unit × Unit × Unit) × ((List Int) × (Int × Int × Int × Unit) × (List Int) × Unit)) ⊕ Empty)) : Env := ⟨T, fun n ks => bif Nat.beq n 8 && eqPath ks [] then some (FE.of [true] false second_Few.sh second_Few.osh g_second_Few) else bif Nat.beq n 9 && eqPath ks [] then some (FE.of [] false law37_awake.sh law37_awake.osh g_law37_awake) else bif Nat.beq n 10 && eqPath ks [] then some (FE.of [true] true second_New.sh second_New.osh g_second_New) else bif Nat.beq n 18 && eqPath ks [] then some (FE.of [true, true] true second_Deck_Next.sh second_Deck_Next.osh g_second_Deck_Next) else bif Nat.beq n 17 && eqPath ks [] then some (FE.of [true, true] true second_Deck_Values.sh second_Deck_Values.osh g_second_Deck_Values) else bif Nat.beq n 19 && eqPath ks [] then some (FE.of [true, true] true second_Deck_Measure.sh second_Deck_Measure.osh g_second_Deck_Measure) else bif Nat.beq n 20 && eqPath ks [] then some (FE.of [true] true second_Deck_Length.sh second_Deck_Length.osh g_second_Deck_Length) else bif Nat.beq n 21 && eqPath ks [] then some (FE.of [true, true, true, true] false profile_Of.sh profile_Of.osh g_profile_Of) else bif Nat.beq n 25 && eqPath ks [] then some (FE.of [true, true] false ref37_Same.sh ref37_Same.osh g_ref37_Same) else none, fun n => bif Nat.beq n 0 then some (LE.of law37_ProfileMoved.s0 law37_ProfileMoved.x0 l0) else bif Nat.beq n 1 then some (LE.of law37_ProfileMoved.s1 law37_ProfileMoved.x1 l1) else bif Nat.beq n 2 then some (LE.of law37_ProfileMoved.s2 law37_ProfileMoved.x2 l2) else none, 159, 0, Gt⟩

/-! law37_ProfileReversed: shapesearch/shapesearchlaw37.ProfileReversed -/
noncomputable def law37_ProfileReversed.c : Go.Code := Go.Proofs.Try.f7.body.getD .skip
@[reducible] def law37_ProfileReversed.sh : Sh := ⟨[.one (.pv (.list (.int .i64)))], []⟩
@[reducible] def law37_ProfileReversed.osh : Sh := ⟨[.one (.pv .bool)], []⟩
@[reducible] def law37_ProfileReversed.s0 : Sh := ⟨[.one (.is (.own 0)), .one (.is (.ptr 1 0 0)), .one (.pv (.int .i64)), .one (.pv (.int .i64)), .one (.is (.own 2)), .one (.pv (.int .i64))], [.row 3 (.int .i64), .box [.pv (.int .i64), .pv (.int .i64), .pv (.int .i64)], .row 3 (.int .i64)]⟩
@[reducible] def law37_ProfileReversed.x0 : List (Ex × Sh) := [(.exit 0, ⟨[.one (.is (.own 0)), .one (.is (.ptr 1 0 0)), .one (.pv (.int .i64)), .one (.pv (.int .i64)), .one (.is (.own 2))], [.row 3 (.int .i64), .box [.pv (.int .i64), .pv (.int .i64), .pv (.int .i64)], .row 3 (.int .i64)]⟩)]
@[reducible] def law37_ProfileReversed.s1 : Sh := ⟨[.one (.is (.ptr 0 0 0)), .one (.pv (.int .i64)), .one (.is (.ptr 1 0 0)), .one (.pv (.int .i64)), .one (.pv (.int .i64))], [.box [.pv (.int .i64), .pv (.int .i64), .pv (.int .i64), .pv (.int .i64), .pv (.int .i64), .is (.own 2), .is (.own 3), .is (.own 4)], .box [.pv (.int .i64), .pv (.int .i64), .pv (.int .i64), .pv (.int .i64), .pv (.int .i64), .is (.own 5), .is (.own 6), .is (.own 7)], .row 31 (.pair (.int .i64) (.pair (.int .i64) (.int .i64))), .row 31 (.pair (.int .i64) (.pair (.int .i64) (.int .i64))), .row 31 (.pair (.int .i64) (.pair (.int .i64) (.int .i64))), .row 31 (.pair (.int .i64) (.pair (.int .i64) (.int .i64))), .row 31 (.pair (.int .i64) (.pair (.int .i64) (.int .i64))), .row 31 (.pair (.int .i64) (.pair (.int .i64) (.int .i64)))]⟩
@[reducible] def law37_ProfileReversed.x1 : List (Ex × Sh) := [(.normal, ⟨[.one (.is (.ptr 0 0 0)), .one (.is (.ptr 1 0 0)), .one (.pv (.int .i64)), .one (.pv .bool)], [.box [.pv (.int .i64), .pv (.int .i64), .pv (.int .i64), .pv (.int .i64), .pv (.int .i64), .is (.own 2), .is (.own 3), .is (.own 4)], .box [.pv (.int .i64), .pv (.int .i64), .pv (.int .i64), .pv (.int .i64), .pv (.int .i64), .is (.own 5), .is (.own 6), .is (.own 7)], .row 31 (.pair (.int .i64) (.pair (.int .i64) (.int .i64))), .row 31 (.pair (.int .i64) (.pair (.int .i64) (.int .i64))), .row 31 (.pair (.int .i64) (.pair (.int .i64) (.int .i64))), .row 31 (.pair (.int .i64) (.pair (.int .i64) (.int .i64))), .row 31 (.pair (.int .i64) (.pair (.int .i64) (.int .i64))), .row 31 (.pair (.int .i64) (.pair (.int .i64) (.int .i64)))]⟩)]
@[reducible] def law37_ProfileReversed.s2 : Sh := ⟨[.one (.is (.ptr 0 0 0)), .one (.is (.ptr 1 0 0)), .one (.pv (.int .i64)), .one (.pv (.int .i64))], [.box [.pv (.int .i64), .pv (.int .i64), .pv (.int .i64), .pv (.int .i64), .pv (.int .i64), .is (.own 2), .is (.own 3), .is (.own 4)], .box [.pv (.int .i64), .pv (.int .i64), .pv (.int .i64), .pv (.int .i64), .pv (.int .i64), .is (.own 5), .is (.own 6), .is (.own 7)], .row 31 (.pair (.int .i64) (.pair (.int .i64) (.int .i64))), .row 31 (.pair (.int .i64) (.pair (.int .i64) (.int .i64))), .row 31 (.pair (.int .i64) (.pair (.int .i64) (.int .i64))), .row 31 (.pair (.int .i64) (.pair (.int .i64) (.int .i64))), .row 31 (.pair (.int .i64) (.pair (.int .i64) (.int .i64))), .row 31 (.pair (.int .i64) (.pair (.int .i64) (.int .i64)))]⟩
@[reducible] def law37_ProfileReversed.x2 : List (Ex × Sh) := [(.exit 2, ⟨[], []⟩), (.ret, ⟨[.one (.pv .bool)], []⟩)]
@[reducible] def law37_ProfileReversed.s3 : Sh := ⟨[.one (.is (.ptr 0 0 0)), .one (.is (.ptr 1 0 0)), .one (.pv (.int .i64)), .one (.pv (.int .i64)), .one (.pv (.int .i64))], [.box [.pv (.int .i64), .pv (.int .i64), .pv (.int .i64), .pv (.int .i64), .pv (.int .i64), .is (.own 2), .is (.own 3), .is (.own 4)], .box [.pv (.int .i64), .pv (.int .i64), .pv (.int .i64), .pv (.int .i64), .pv (.int .i64), .is (.own 5), .is (.own 6), .is (.own 7)], .row 31 (.pair (.int .i64) (.pair (.int .i64) (.int .i64))), .row 31 (.pair (.int .i64) (.pair (.int .i64) (.int .i64))), .row 31 (.pair (.int .i64) (.pair (.int .i64) (.int .i64))), .row 31 (.pair (.int .i64) (.pair (.int .i64) (.int .i64))), .row 31 (.pair (.int .i64) (.pair (.int .i64) (.int .i64))), .row 31 (.pair (.int .i64) (.pair (.int .i64) (.int .i64)))]⟩
@[reducible] def law37_ProfileReversed.x3 : List (Ex × Sh) := [(.normal, ⟨[.one (.is (.ptr 0 0 0)), .one (.is (.ptr 1 0 0)), .one (.pv (.int .i64)), .one (.pv (.int .i64)), .one (.pv .bool)], [.box [.pv (.int .i64), .pv (.int .i64), .pv (.int .i64), .pv (.int .i64), .pv (.int .i64), .is (.own 2), .is (.own 3), .is (.own 4)], .box [.pv (.int .i64), .pv (.int .i64), .pv (.int .i64), .pv (.int .i64), .pv (.int .i64), .is (.own 5), .is (.own 6), .is (.own 7)], .row 31 (.pair (.int .i64) (.pair (.int .i64) (.int .i64))), .row 31 (.pair (.int .i64) (.pair (.int .i64) (.int .i64))), .row 31 (.pair (.int .i64) (.pair (.int .i64) (.int .i64))), .row 31 (.pair (.int .i64) (.pair (.int .i64) (.int .i64))), .row 31 (.pair (.int .i64) (.pair (.int .i64) (.int .i64))), .row 31 (.pair (.int .i64) (.pair (.int .i64) (.int .i64)))]⟩)]
def law37_ProfileReversed.hs : List Hint := [⟨[0, 1, 0, 1, 1, 1, 1, 1, 1], 0, [4, 5, 6, 7, 8, 9], [(2, [4, 5, 6, 7, 8])]⟩, ⟨[0, 0, 1, 1, 1, 1, 1, 1, 1, 1, 1, 1], 1, [10, 11, 12, 13, 14], [(0, [10, 12, 14, 107])]⟩, ⟨[0, 1, 0, 1, 1, 1, 1, 1, 1, 1, 1, 1, 1, 1], 2, [10, 12, 14, 15], [(4, []), (1, [2])]⟩, ⟨[0, 1, 0, 0, 1, 0, 0, 1, 0, 1, 1, 1, 1, 1, 1, 1, 1, 1, 1, 1], 3, [10, 12, 14, 15, 16], [(0, [10, 12, 14, 15, 176])]⟩]
def law37_ProfileReversed.E (g_second_Few : second_Few.sh.X → Option second_Few.osh.X) (g_law37_awake : law37_awake.sh.X → Option law37_awake.osh.X) (g_second_New : second_New.sh.X → Option second_New.osh.X) (g_second_Deck_Next : second_Deck_Next.sh.X → Option second_Deck_Next.osh.X) (g_second_Deck_Values : second_Deck_Values.sh.X → Option second_Deck_Values.osh.X) (g_second_Deck_Measure : second_Deck_Measure.sh.X → Option second_Deck_Measure.osh.X) (g_second_Deck_Length : second_Deck_Length.sh.X → Option second_Deck_Length.osh.X) (g_profile_Of : profile_Of.sh.X → Option profile_Of.osh.X) (l0 : ((Unit × Unit × Int × Int × Unit × Int × Unit) × ((List Int) × (Int × Int × Int × Unit) × (List Int) × Unit)) → Option (((Unit × Unit × Int × Int × Unit × Unit) × ((List Int) × (Int × Int × Int × Unit) × (List Int) × Unit)) ⊕ Empty)) (l1 : ((Unit × Int × Unit × Int × Int × Unit) × ((Int × Int × Int × Int × Int × Unit × Unit × Unit × Unit) × (Int × Int × Int × Int × Int × Unit × Unit × Unit × Unit) × (List (Int × (Int × Int))) × (List (Int × (Int × Int))) × (List (Int × (Int × Int))) × (List (Int × (Int × Int))) × (List (Int × (Int × Int))) × (List (Int × (Int × Int))) × Unit)) → Option (((Unit × Unit × Int × Bool × Unit) × ((Int × Int × Int × Int × Int × Unit × Unit × Unit × Unit) × (Int × Int × Int × Int × Int × Unit × Unit × Unit × Unit) × (List (Int × (Int × Int))) × (List (Int × (Int × Int))) × (List (Int × (Int × Int))) × (List (Int × (Int × Int))) × (List (Int × (Int × Int))) × (List (Int × (Int × Int))) × Unit)) ⊕ Empty)) (l2 : ((Unit × Unit × Int × Int × Unit) × ((Int × Int × Int × Int × Int × Unit × Unit × Unit × Unit) × (Int × Int × Int × Int × Int × Unit × Unit × Unit × Unit) × (List (Int × (Int × Int))) × (List (Int × (Int × Int))) × (List (Int × (Int × Int))) × (List (Int × (Int × Int))) × (List (Int × (Int × Int))) × (List (Int × (Int × Int))) × Unit)) → Option (((Unit) × (Unit)) ⊕ ((Bool × Unit) × (Unit)) ⊕ Empty)) (l3 : ((Unit × Unit × Int × Int × Int × Unit) × ((Int × Int × Int × Int × Int × Unit × Unit × Unit × Unit) × (Int × Int × Int × Int × Int × Unit × Unit × Unit × Unit) × (List (Int × (Int × Int))) × (List (Int × (Int × Int))) × (List (Int × (Int × Int))) × (List (Int × (Int × Int))) × (List (Int × (Int × Int))) × (List (Int × (Int × Int))) × Unit)) → Option (((Unit × Unit × Int × Int × Bool × Unit) × ((Int × Int × Int × Int × Int × Unit × Unit × Unit × Unit) × (Int × Int × Int × Int × Int × Unit × Unit × Unit × Unit) × (List (Int × (Int × Int))) × (List (Int × (Int × Int))) × (List (Int × (Int × Int))) × (List (Int × (Int × Int))) × (List (Int × (Int × Int))) × (List (Int × (Int × Int))) × Unit)) ⊕ Empty)) : Env := ⟨T, fun n ks => bif Nat.beq n 8 && eqPath ks [] then some (FE.of [true] false second_Few.sh second_Few.osh g_second_Few) else bif Nat.beq n 9 && eqPath ks [] then some (FE.of [] false law37_awake.sh law37_awake.osh g_law37_awake) else bif Nat.beq n 10 && eqPath ks [] then some (FE.of [true] true second_New.sh second_New.osh g_second_New) else bif Nat.beq n 18 && eqPath ks [] then some (FE.of [true, true] true second_Deck_Next.sh second_Deck_Next.osh g_second_Deck_Next) else bif Nat.beq n 17 && eqPath ks [] then some (FE.of [true, true] true second_Deck_Values.sh second_Deck_Values.osh g_second_Deck_Values) else bif Nat.beq n 19 && eqPath ks [] then some (FE.of [true, true] true second_Deck_Measure.sh second_Deck_Measure.osh g_second_Deck_Measure) else bif Nat.beq n 20 && eqPath ks [] then some (FE.of [true] true second_Deck_Length.sh second_Deck_Length.osh g_second_Deck_Length) else bif Nat.beq n 21 && eqPath ks [] then some (FE.of [true, true, true, true] false profile_Of.sh profile_Of.osh g_profile_Of) else none, fun n => bif Nat.beq n 0 then some (LE.of law37_ProfileReversed.s0 law37_ProfileReversed.x0 l0) else bif Nat.beq n 1 then some (LE.of law37_ProfileReversed.s1 law37_ProfileReversed.x1 l1) else bif Nat.beq n 2 then some (LE.of law37_ProfileReversed.s2 law37_ProfileReversed.x2 l2) else bif Nat.beq n 3 then some (LE.of law37_ProfileReversed.s3 law37_ProfileReversed.x3 l3) else none, 178, 0, Gt⟩
end Go.Proofs.Ytefcciajemkicaa.V
