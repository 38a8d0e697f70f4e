import Derived.Test.YtefcciajemkicaaProg
import Derived.KernelRfl
import Derived.Test.YtefcciajemkicaaViC
set_option linter.unusedVariables false
namespace Go.Proofs.Ytefcciajemkicaa.V
open Go.VI
def T : Tb := [(3, ⟨.int .i64, 1, 8, some (.int .i64), true, false⟩),
  (4, ⟨.bool, 1, 1, some .bool, true, false⟩),
  (9, ⟨.str, 1, 16, some .str, true, false⟩),
  (20, ⟨.err, 1, 16, some (.err 46), false, false⟩),
  (22, ⟨.slice 3, 1, 24, some (.list (.int .i64)), false, false⟩),
  (23, ⟨.struct [(0, 3), (1, 3), (2, 3)], 3, 24, some (.pair (.int .i64) (.pair (.int .i64) (.int .i64))), true, false⟩),
  (24, ⟨.struct [(0, 3), (1, 3), (2, 3)], 3, 24, some (.pair (.int .i64) (.pair (.int .i64) (.int .i64))), true, false⟩),
  (25, ⟨.slice 31, 1, 24, some (.list (.pair (.int .i64) (.pair (.int .i64) (.int .i64)))), false, false⟩),
  (26, ⟨.struct [(0, 24), (3, 3), (4, 3), (5, 25), (6, 25), (7, 25)], 8, 112, some (.pair (.pair (.int .i64) (.pair (.int .i64) (.int .i64))) (.pair (.int .i64) (.pair (.int .i64) (.pair (.list (.pair (.int .i64) (.pair (.int .i64) (.int .i64)))) (.pair (.list (.pair (.int .i64) (.pair (.int .i64) (.int .i64)))) (.list (.pair (.int .i64) (.pair (.int .i64) (.int .i64))))))))), false, false⟩),
  (27, ⟨.struct [(0, 24), (3, 3), (4, 3), (5, 25), (6, 25), (7, 25)], 8, 112, some (.pair (.pair (.int .i64) (.pair (.int .i64) (.int .i64))) (.pair (.int .i64) (.pair (.int .i64) (.pair (.list (.pair (.int .i64) (.pair (.int .i64) (.int .i64)))) (.pair (.list (.pair (.int .i64) (.pair (.int .i64) (.int .i64)))) (.list (.pair (.int .i64) (.pair (.int .i64) (.int .i64))))))))), false, false⟩),
  (28, ⟨.struct [(0, 3), (1, 3)], 2, 16, some (.pair (.int .i64) (.int .i64)), true, false⟩),
  (29, ⟨.struct [(0, 3), (1, 3)], 2, 16, some (.pair (.int .i64) (.int .i64)), true, false⟩),
  (30, ⟨.struct [(0, 3), (1, 29)], 3, 24, some (.pair (.int .i64) (.pair (.int .i64) (.int .i64))), true, false⟩),
  (31, ⟨.struct [(0, 3), (1, 29)], 3, 24, some (.pair (.int .i64) (.pair (.int .i64) (.int .i64))), true, false⟩),
  (35, ⟨.ptr 59, 1, 8, none, false, false⟩),
  (46, ⟨.int .i64, 1, 8, some (.int .i64), true, false⟩),
  (49, ⟨.slice 4, 1, 24, some (.list .bool), false, false⟩),
  (58, ⟨.struct [(0, 22), (1, 3)], 2, 32, some (.pair (.list (.int .i64)) (.int .i64)), false, false⟩),
  (59, ⟨.struct [(0, 22), (1, 3)], 2, 32, some (.pair (.list (.int .i64)) (.int .i64)), false, false⟩),
  (61, ⟨.fn, 1, 8, none, false, false⟩),
  (63, ⟨.ptr 31, 1, 8, none, false, false⟩),
  (69, ⟨.fn, 1, 8, none, false, false⟩),
  (77, ⟨.fn, 1, 8, none, false, false⟩),
  (78, ⟨.map 3 77, 1, 8, none, false, false⟩),
  (88, ⟨.slice 22, 1, 24, some (.list (.list (.int .i64))), false, true⟩),
  (93, ⟨.int .u64, 1, 8, some (.int .u64), true, false⟩),
  (99, ⟨.struct [(0, 3), (1, 3)], 2, 16, some (.pair (.int .i64) (.int .i64)), true, false⟩),
  (100, ⟨.struct [(0, 3), (1, 3)], 2, 16, some (.pair (.int .i64) (.int .i64)), true, false⟩),
  (103, ⟨.int .u64, 1, 8, some (.int .u64), true, false⟩),
  (106, ⟨.arr 33 3, 33, 264, none, false, true⟩),
  (107, ⟨.arr 33 106, 1089, 8712, none, false, true⟩),
  (108, ⟨.arr 33 106, 1089, 8712, none, false, true⟩),
  (110, ⟨.arr 2 100, 4, 32, some (.pair (.pair (.int .i64) (.int .i64)) (.pair (.int .i64) (.int .i64))), false, false⟩),
  (115, ⟨.struct [(0, 3), (1, 3), (2, 3)], 3, 24, some (.pair (.int .i64) (.pair (.int .i64) (.int .i64))), true, false⟩),
  (116, ⟨.struct [(0, 3), (1, 3), (2, 3)], 3, 24, some (.pair (.int .i64) (.pair (.int .i64) (.int .i64))), true, false⟩)]
theorem tb : tbOk Try.prog T = true := by kernel_rfl
theorem pw : Try.prog.follows .mixedOrders = true := by kernel_rfl
def Gt : Nat → Option (Go.IntKind × List Int) := fun g => none
def TabsOk (tabs : List (Nat × Go.Obj)) : Prop := True
theorem gt_ok {tabs : List (Nat × Go.Obj)} (ht : TabsOk tabs) : ∀ g k zs, Gt g = some (k, zs) → TabHas tabs g k zs := by
  intro g k zs h; cases h

@[reducible] def q0 : OS := .box [.pv (.int .i64), .pv (.int .i64), .pv (.int .i64)]
@[reducible] def q1 : OS := .box [.pv (.int .i64), .pv (.int .i64)]
@[reducible] def q2 : OS := .box [.pv (.list (.int .i64)), .pv (.int .i64)]
@[reducible] def q3 : OS := .box [.pv (.int .i64), .pv (.int .i64), .pv (.int .i64), .pv (.int .i64), .pv (.int .i64), .is (.own 4), .is (.own 5), .is (.own 6)]
@[reducible] def q4 : OS := .box [.pv (.int .i64), .pv (.int .i64), .pv (.int .i64), .pv (.int .i64), .pv (.int .i64), .is .nils, .is .nils, .is .nils]
@[reducible] def q5 : OS := .box [.pv (.int .i64), .pv (.int .i64), .pv (.int .i64), .pv (.int .i64), .pv (.int .i64), .pv (.list (.pair (.int .i64) (.pair (.int .i64) (.int .i64)))), .pv (.list (.pair (.int .i64) (.pair (.int .i64) (.int .i64)))), .pv (.list (.pair (.int .i64) (.pair (.int .i64) (.int .i64))))]
@[reducible] def q6 : OS := .box [.pv (.int .i64), .pv (.int .i64), .pv (.int .i64), .pv (.int .i64), .pv (.int .i64), .is (.own 2), .is (.own 3), .is (.own 4)]
@[reducible] def q7 : DS := .agg [.pv (.int .i64), .pv (.int .i64)]
@[reducible] def q8 : DS := .agg [.pv (.int .i64), .pv (.int .i64), .pv (.int .i64)]
@[reducible] def q9 : DS := .one (.pv (.int .i64))
@[reducible] def q10 : DS := .one (.pv (.list (.int .i64)))
@[reducible] def q11 : DS := .one (.pv .bool)
@[reducible] def q12 : DS := .one (.is (.ptr 0 0 0))
@[reducible] def q13 : DS := .one (.is (.own 0))
@[reducible] def q14 : DS := .one (.is (.ptr 1 0 0))
@[reducible] def q15 : DS := .one (.pv (.int .u64))
@[reducible] def q16 : DS := .one (.pv (.list (.list (.int .i64))))
@[reducible] def q17 : DS := .one (.is (.ptr 2 0 0))
@[reducible] def q18 : DS := .one (.is (.own 1))
@[reducible] def q19 : DS := .one (.is (.own 3))
@[reducible] def q20 : DS := .one (.is (.own 2))
@[reducible] def q21 : DS := .one (.is (.ptr 3 0 0))

/-! second_Few: shapesearch/shapesearchsecond.Few -/
noncomputable def second_Few.c : Go.Code := Try.f8.body.getD .skip
@[reducible] def second_Few.sh : Sh := ⟨[q10], []⟩
@[reducible] def second_Few.osh : Sh := ⟨[q11], []⟩
abbrev second_Few.G := second_Few.sh.X → Option second_Few.osh.X
@[reducible] def second_Few.fe (g : second_Few.G) : FE := FE.of [true] false second_Few.sh second_Few.osh g
def second_Few.hs : List Hint := []
def second_Few.E : Env := ⟨T, fun n ks => none, fun n => none, 6, 0, Gt⟩

/-! measure_name: shapesearch/measure.name -/
noncomputable def measure_name.c : Go.Code := Try.f51.body.getD .skip
@[reducible] def measure_name.sh : Sh := ⟨[q9], []⟩
@[reducible] def measure_name.osh : Sh := ⟨[.one (.pv .str)], []⟩
abbrev measure_name.G := measure_name.sh.X → Option measure_name.osh.X
@[reducible] def measure_name.fe (g : measure_name.G) : FE := FE.of [true] false measure_name.sh measure_name.osh g
def measure_name.hs : List Hint := []
def measure_name.E : Env := ⟨T, fun n ks => none, fun n => none, 14, 0, Gt⟩

/-! measure_Check: shapesearch/measure.Check -/
noncomputable def measure_Check.c : Go.Code := Try.f27.body.getD .skip
@[reducible] def measure_Check.sh : Sh := ⟨[q8], []⟩
@[reducible] def measure_Check.osh : Sh := ⟨[q9], []⟩
abbrev measure_Check.G := measure_Check.sh.X → Option measure_Check.osh.X
@[reducible] def measure_Check.fe (g : measure_Check.G) : FE := FE.of [true] false measure_Check.sh measure_Check.osh g
@[reducible] def measure_Check.s0 : Sh := ⟨[q12, q11], [q0]⟩
@[reducible] def measure_Check.x0 : List (Ex × Sh) := [(.normal, ⟨[q11], []⟩)]
abbrev measure_Check.A0 := measure_Check.s0.X → Option (sumX measure_Check.x0)
@[reducible] def measure_Check.s1 : Sh := ⟨[q12], [q0]⟩
@[reducible] def measure_Check.x1 : List (Ex × Sh) := [(.normal, ⟨[q12, q11], [q0]⟩)]
abbrev measure_Check.A1 := measure_Check.s1.X → Option (sumX measure_Check.x1)
@[reducible] def measure_Check.s2 : Sh := ⟨[q12, q11], [q0]⟩
@[reducible] def measure_Check.x2 : List (Ex × Sh) := [(.normal, ⟨[q11], []⟩)]
abbrev measure_Check.A2 := measure_Check.s2.X → Option (sumX measure_Check.x2)
def measure_Check.hs : List Hint := [⟨[1, 0, 0, 0, 1], 0, [1, 3], [(0, [3])]⟩, ⟨[0, 1, 1, 0, 0, 0, 1], 1, [1], [(0, [1, 3])]⟩, ⟨[1, 1, 1, 0, 0, 0, 1], 2, [1, 3], [(0, [3])]⟩]
def measure_Check.E (g_measure_name : measure_name.G) (l0 : measure_Check.A0) (l1 : measure_Check.A1) (l2 : measure_Check.A2) : Env := ⟨T, fun n ks => bif Nat.beq n 51 && eqPath ks [] then some (measure_name.fe g_measure_name) else none, fun n => bif Nat.beq n 0 then some (LE.of measure_Check.s0 measure_Check.x0 l0) else bif Nat.beq n 1 then some (LE.of measure_Check.s1 measure_Check.x1 l1) else bif Nat.beq n 2 then some (LE.of measure_Check.s2 measure_Check.x2 l2) else none, 44, 0, Gt⟩

/-! profile_Sample: shapesearch/profile.Sample -/
noncomputable def profile_Sample.c : Go.Code := Try.f40.body.getD .skip
@[reducible] def profile_Sample.sh : Sh := ⟨[q9], []⟩
@[reducible] def profile_Sample.osh : Sh := ⟨[q11], []⟩
abbrev profile_Sample.G := profile_Sample.sh.X → Option profile_Sample.osh.X
@[reducible] def profile_Sample.fe (g : profile_Sample.G) : FE := FE.of [true] false profile_Sample.sh profile_Sample.osh g
def profile_Sample.hs : List Hint := []
def profile_Sample.E : Env := ⟨T, fun n ks => none, fun n => none, 13, 0, Gt⟩

/-! profile_Windows_1: shapesearch/profile.Windows$1 -/
noncomputable def profile_Windows_1.c : Go.Code := Try.f39.body.getD .skip
@[reducible] def profile_Windows_1.sh : Sh := ⟨[q9], []⟩
@[reducible] def profile_Windows_1.osh : Sh := ⟨[q11], []⟩
abbrev profile_Windows_1.G := profile_Windows_1.sh.X → Option profile_Windows_1.osh.X
@[reducible] def profile_Windows_1.fe (g : profile_Windows_1.G) : FE := FE.of [true] false profile_Windows_1.sh profile_Windows_1.osh g
def profile_Windows_1.hs : List Hint := []
def profile_Windows_1.E (g_profile_Sample : profile_Sample.G) : Env := ⟨T, fun n ks => bif Nat.beq n 40 && eqPath ks [] then some (profile_Sample.fe g_profile_Sample) else none, fun n => none, 6, 0, Gt⟩

/-! slices_IndexFunc: slices.IndexFunc[[]int,int] -/
noncomputable def slices_IndexFunc.c : Go.Code := Try.f57.body.getD .skip
@[reducible] def slices_IndexFunc.sh : Sh := ⟨[q10, .one (.is (.fn 39 []))], []⟩
@[reducible] def slices_IndexFunc.osh : Sh := ⟨[q9], []⟩
abbrev slices_IndexFunc.G := slices_IndexFunc.sh.X → Option slices_IndexFunc.osh.X
@[reducible] def slices_IndexFunc.fe (g : slices_IndexFunc.G) : FE := FE.of [true, true] false slices_IndexFunc.sh slices_IndexFunc.osh g
@[reducible] def slices_IndexFunc.s0 : Sh := ⟨[q10, .one (.is (.fn 39 [])), q9, q9], []⟩
@[reducible] def slices_IndexFunc.x0 : List (Ex × Sh) := [(.exit 0, ⟨[], []⟩), (.ret, ⟨[q9], []⟩)]
abbrev slices_IndexFunc.A0 := slices_IndexFunc.s0.X → Option (sumX slices_IndexFunc.x0)
def slices_IndexFunc.hs : List Hint := [⟨[0, 1, 0, 1], 0, [0, 1, 7, 8], [(2, []), (1, [4])]⟩]
def slices_IndexFunc.E (g_profile_Windows_1 : profile_Windows_1.G) (l0 : slices_IndexFunc.A0) : Env := ⟨T, fun n ks => bif Nat.beq n 39 && eqPath ks [] then some (profile_Windows_1.fe g_profile_Windows_1) else none, fun n => bif Nat.beq n 0 then some (LE.of slices_IndexFunc.s0 slices_IndexFunc.x0 l0) else none, 19, 0, Gt⟩

/-! slices_ContainsFunc: slices.ContainsFunc[[]int,int] -/
noncomputable def slices_ContainsFunc.c : Go.Code := Try.f38.body.getD .skip
@[reducible] def slices_ContainsFunc.sh : Sh := ⟨[q10, .one (.is (.fn 39 []))], []⟩
@[reducible] def slices_ContainsFunc.osh : Sh := ⟨[q11], []⟩
abbrev slices_ContainsFunc.G := slices_ContainsFunc.sh.X → Option slices_ContainsFunc.osh.X
@[reducible] def slices_ContainsFunc.fe (g : slices_ContainsFunc.G) : FE := FE.of [true, true] false slices_ContainsFunc.sh slices_ContainsFunc.osh g
def slices_ContainsFunc.hs : List Hint := []
def slices_ContainsFunc.E (g_slices_IndexFunc : slices_IndexFunc.G) : Env := ⟨T, fun n ks => bif Nat.beq n 57 && eqPath ks [39] then some (slices_IndexFunc.fe g_slices_IndexFunc) else none, fun n => none, 9, 0, Gt⟩

/-! profile_Length: shapesearch/profile.Length -/
noncomputable def profile_Length.c : Go.Code := Try.f28.body.getD .skip
@[reducible] def profile_Length.sh : Sh := ⟨[q9], []⟩
@[reducible] def profile_Length.osh : Sh := ⟨[q11], []⟩
abbrev profile_Length.G := profile_Length.sh.X → Option profile_Length.osh.X
@[reducible] def profile_Length.fe (g : profile_Length.G) : FE := FE.of [true] false profile_Length.sh profile_Length.osh g
def profile_Length.hs : List Hint := []
def profile_Length.E : Env := ⟨T, fun n ks => none, fun n => none, 9, 0, Gt⟩

/-! slices_Index: slices.Index[[]int,int] -/
noncomputable def slices_Index.c : Go.Code := Try.f58.body.getD .skip
@[reducible] def slices_Index.sh : Sh := ⟨[q10, q9], []⟩
@[reducible] def slices_Index.osh : Sh := ⟨[q9], []⟩
abbrev slices_Index.G := slices_Index.sh.X → Option slices_Index.osh.X
@[reducible] def slices_Index.fe (g : slices_Index.G) : FE := FE.of [true, true] false slices_Index.sh slices_Index.osh g
@[reducible] def slices_Index.s0 : Sh := ⟨[q10, q9, q9, q9], []⟩
@[reducible] def slices_Index.x0 : List (Ex × Sh) := [(.exit 0, ⟨[], []⟩), (.ret, ⟨[q9], []⟩)]
abbrev slices_Index.A0 := slices_Index.s0.X → Option (sumX slices_Index.x0)
def slices_Index.hs : List Hint := [⟨[0, 1, 0, 1], 0, [0, 1, 7, 8], [(2, []), (1, [4])]⟩]
def slices_Index.E (l0 : slices_Index.A0) : Env := ⟨T, fun n ks => none, fun n => bif Nat.beq n 0 then some (LE.of slices_Index.s0 slices_Index.x0 l0) else none, 19, 0, Gt⟩

/-! slices_Contains: slices.Contains[[]int,int] -/
noncomputable def slices_Contains.c : Go.Code := Try.f41.body.getD .skip
@[reducible] def slices_Contains.sh : Sh := ⟨[q10, q9], []⟩
@[reducible] def slices_Contains.osh : Sh := ⟨[q11], []⟩
abbrev slices_Contains.G := slices_Contains.sh.X → Option slices_Contains.osh.X
@[reducible] def slices_Contains.fe (g : slices_Contains.G) : FE := FE.of [true, true] false slices_Contains.sh slices_Contains.osh g
def slices_Contains.hs : List Hint := []
def slices_Contains.E (g_slices_Index : slices_Index.G) : Env := ⟨T, fun n ks => bif Nat.beq n 58 && eqPath ks [] then some (slices_Index.fe g_slices_Index) else none, fun n => none, 9, 0, Gt⟩

/-! profile_Windows: shapesearch/profile.Windows -/
noncomputable def profile_Windows.c : Go.Code := Try.f22.body.getD .skip
@[reducible] def profile_Windows.sh : Sh := ⟨[q10, q9], []⟩
@[reducible] def profile_Windows.osh : Sh := ⟨[q13, q9], [.row 4 .bool]⟩
abbrev profile_Windows.G := profile_Windows.sh.X → Option profile_Windows.osh.X
@[reducible] def profile_Windows.fe (g : profile_Windows.G) : FE := FE.of [true, true] false profile_Windows.sh profile_Windows.osh g
@[reducible] def profile_Windows.s0 : Sh := ⟨[q10, q9, q13, q9, q9], [.row 4 .bool]⟩
@[reducible] def profile_Windows.x0 : List (Ex × Sh) := [(.exit 1, ⟨[q13], [.row 4 .bool]⟩)]
abbrev profile_Windows.A0 := profile_Windows.s0.X → Option (sumX profile_Windows.x0)
def profile_Windows.hs : List Hint := [⟨[0, 1, 0, 1, 1, 1], 0, [0, 1, 6, 27, 28], [(3, [6])]⟩]
def profile_Windows.E (g_slices_ContainsFunc : slices_ContainsFunc.G) (g_profile_Length : profile_Length.G) (g_slices_Contains : slices_Contains.G) (l0 : profile_Windows.A0) : Env := ⟨T, fun n ks => bif Nat.beq n 38 && eqPath ks [39] then some (slices_ContainsFunc.fe g_slices_ContainsFunc) else bif Nat.beq n 28 && eqPath ks [] then some (profile_Length.fe g_profile_Length) else bif Nat.beq n 41 && eqPath ks [] then some (slices_Contains.fe g_slices_Contains) else none, fun n => bif Nat.beq n 0 then some (LE.of profile_Windows.s0 profile_Windows.x0 l0) else none, 44, 0, Gt⟩

/-! profile_Zone: shapesearch/profile.Zone -/
noncomputable def profile_Zone.c : Go.Code := Try.f29.body.getD .skip
@[reducible] def profile_Zone.sh : Sh := ⟨[q9], []⟩
@[reducible] def profile_Zone.osh : Sh := ⟨[q11], []⟩
abbrev profile_Zone.G := profile_Zone.sh.X → Option profile_Zone.osh.X
@[reducible] def profile_Zone.fe (g : profile_Zone.G) : FE := FE.of [true] false profile_Zone.sh profile_Zone.osh g
def profile_Zone.hs : List Hint := []
def profile_Zone.E : Env := ⟨T, fun n ks => none, fun n => none, 9, 0, Gt⟩

/-! profile_None: shapesearch/profile.None -/
noncomputable def profile_None.c : Go.Code := Try.f36.body.getD .skip
@[reducible] def profile_None.sh : Sh := ⟨[], []⟩
@[reducible] def profile_None.osh : Sh := ⟨[q8], []⟩
abbrev profile_None.G := profile_None.sh.X → Option profile_None.osh.X
@[reducible] def profile_None.fe (g : profile_None.G) : FE := FE.of [] false profile_None.sh profile_None.osh g
def profile_None.hs : List Hint := []
def profile_None.E : Env := ⟨T, fun n ks => none, fun n => none, 3, 0, Gt⟩

/-! measure_distances: shapesearch/measure.distances -/
noncomputable def measure_distances.c : Go.Code := Try.f56.body.getD .skip
@[reducible] def measure_distances.sh : Sh := ⟨[q8], []⟩
@[reducible] def measure_distances.osh : Sh := ⟨[.one (.is (.fmap [(1, 76, []), (2, 79, []), (3, 80, []), (4, 81, [(0, 0)]), (5, 83, [(0, 0)])]))], [q0]⟩
abbrev measure_distances.G := measure_distances.sh.X → Option measure_distances.osh.X
@[reducible] def measure_distances.fe (g : measure_distances.G) : FE := FE.of [true] true measure_distances.sh measure_distances.osh g
def measure_distances.hs : List Hint := []
def measure_distances.E : Env := ⟨T, fun n ks => none, fun n => none, 7, 0, Gt⟩

/-! euclid_length: shapesearch/euclid.length -/
noncomputable def euclid_length.c : Go.Code := Try.f98.body.getD .skip
@[reducible] def euclid_length.sh : Sh := ⟨[q10], []⟩
@[reducible] def euclid_length.osh : Sh := ⟨[q11], []⟩
abbrev euclid_length.G := euclid_length.sh.X → Option euclid_length.osh.X
@[reducible] def euclid_length.fe (g : euclid_length.G) : FE := FE.of [true] false euclid_length.sh euclid_length.osh g
def euclid_length.hs : List Hint := []
def euclid_length.E : Env := ⟨T, fun n ks => none, fun n => none, 11, 0, Gt⟩

/-! euclid_samples: shapesearch/euclid.samples -/
noncomputable def euclid_samples.c : Go.Code := Try.f99.body.getD .skip
@[reducible] def euclid_samples.sh : Sh := ⟨[q10], []⟩
@[reducible] def euclid_samples.osh : Sh := ⟨[q11], []⟩
abbrev euclid_samples.G := euclid_samples.sh.X → Option euclid_samples.osh.X
@[reducible] def euclid_samples.fe (g : euclid_samples.G) : FE := FE.of [true] false euclid_samples.sh euclid_samples.osh g
@[reducible] def euclid_samples.s0 : Sh := ⟨[q10, q9, q9], []⟩
@[reducible] def euclid_samples.x0 : List (Ex × Sh) := [(.exit 0, ⟨[], []⟩), (.ret, ⟨[q11], []⟩)]
abbrev euclid_samples.A0 := euclid_samples.s0.X → Option (sumX euclid_samples.x0)
def euclid_samples.hs : List Hint := [⟨[0, 1, 0, 1], 0, [5, 6, 7], [(2, []), (1, [2])]⟩]
def euclid_samples.E (l0 : euclid_samples.A0) : Env := ⟨T, fun n ks => none, fun n => bif Nat.beq n 0 then some (LE.of euclid_samples.s0 euclid_samples.x0 l0) else none, 18, 0, Gt⟩

/-! euclid_check: shapesearch/euclid.check -/
noncomputable def euclid_check.c : Go.Code := Try.f91.body.getD .skip
@[reducible] def euclid_check.sh : Sh := ⟨[q10, q10], []⟩
@[reducible] def euclid_check.osh : Sh := ⟨[q9], []⟩
abbrev euclid_check.G := euclid_check.sh.X → Option euclid_check.osh.X
@[reducible] def euclid_check.fe (g : euclid_check.G) : FE := FE.of [true, true] false euclid_check.sh euclid_check.osh g
@[reducible] def euclid_check.s0 : Sh := ⟨[q10, q10], []⟩
@[reducible] def euclid_check.x0 : List (Ex × Sh) := [(.normal, ⟨[q10, q10, q11], []⟩)]
abbrev euclid_check.A0 := euclid_check.s0.X → Option (sumX euclid_check.x0)
@[reducible] def euclid_check.s1 : Sh := ⟨[q10, q10], []⟩
@[reducible] def euclid_check.x1 : List (Ex × Sh) := [(.normal, ⟨[q10, q10, q11], []⟩)]
abbrev euclid_check.A1 := euclid_check.s1.X → Option (sumX euclid_check.x1)
def euclid_check.hs : List Hint := [⟨[0, 0, 0, 1], 0, [0, 1], [(0, [0, 1, 5])]⟩, ⟨[0, 1, 1, 0, 0, 1], 1, [0, 1], [(0, [0, 1, 14])]⟩]
def euclid_check.E (g_euclid_length : euclid_length.G) (g_euclid_samples : euclid_samples.G) (l0 : euclid_check.A0) (l1 : euclid_check.A1) : Env := ⟨T, fun n ks => bif Nat.beq n 98 && eqPath ks [] then some (euclid_length.fe g_euclid_length) else bif Nat.beq n 99 && eqPath ks [] then some (euclid_samples.fe g_euclid_samples) else none, fun n => bif Nat.beq n 0 then some (LE.of euclid_check.s0 euclid_check.x0 l0) else bif Nat.beq n 1 then some (LE.of euclid_check.s1 euclid_check.x1 l1) else none, 29, 0, Gt⟩

/-! euclid_square: shapesearch/euclid.square -/
noncomputable def euclid_square.c : Go.Code := Try.f92.body.getD .skip
@[reducible] def euclid_square.sh : Sh := ⟨[q10, q10], []⟩
@[reducible] def euclid_square.osh : Sh := ⟨[q9], []⟩
abbrev euclid_square.G := euclid_square.sh.X → Option euclid_square.osh.X
@[reducible] def euclid_square.fe (g : euclid_square.G) : FE := FE.of [true, true] false euclid_square.sh euclid_square.osh g
@[reducible] def euclid_square.s0 : Sh := ⟨[q10, q9, q10, q9, q9], []⟩
@[reducible] def euclid_square.x0 : List (Ex × Sh) := [(.exit 0, ⟨[q9], []⟩)]
abbrev euclid_square.A0 := euclid_square.s0.X → Option (sumX euclid_square.x0)
def euclid_square.hs : List Hint := [⟨[0, 1, 0, 1, 1], 0, [1, 5, 8, 9, 10], [(2, [5])]⟩]
def euclid_square.E (l0 : euclid_square.A0) : Env := ⟨T, fun n ks => none, fun n => bif Nat.beq n 0 then some (LE.of euclid_square.s0 euclid_square.x0 l0) else none, 32, 0, Gt⟩

/-! euclid_Distance: shapesearch/euclid.Distance -/
noncomputable def euclid_Distance.c : Go.Code := Try.f78.body.getD .skip
@[reducible] def euclid_Distance.sh : Sh := ⟨[q10, q10], []⟩
@[reducible] def euclid_Distance.osh : Sh := ⟨[q9, q9], []⟩
abbrev euclid_Distance.G := euclid_Distance.sh.X → Option euclid_Distance.osh.X
@[reducible] def euclid_Distance.fe (g : euclid_Distance.G) : FE := FE.of [true, true] false euclid_Distance.sh euclid_Distance.osh g
def euclid_Distance.hs : List Hint := []
def euclid_Distance.E (g_euclid_check : euclid_check.G) (g_euclid_square : euclid_square.G) : Env := ⟨T, fun n ks => bif Nat.beq n 91 && eqPath ks [] then some (euclid_check.fe g_euclid_check) else bif Nat.beq n 92 && eqPath ks [] then some (euclid_square.fe g_euclid_square) else none, fun n => none, 16, 0, Gt⟩

/-! ratio_divisor: shapesearch/ratio.divisor -/
noncomputable def ratio_divisor.c : Go.Code := Try.f73.body.getD .skip
@[reducible] def ratio_divisor.sh : Sh := ⟨[q9, q9], []⟩
@[reducible] def ratio_divisor.osh : Sh := ⟨[q9], []⟩
abbrev ratio_divisor.G := ratio_divisor.sh.X → Option ratio_divisor.osh.X
@[reducible] def ratio_divisor.fe (g : ratio_divisor.G) : FE := FE.of [true, true] false ratio_divisor.sh ratio_divisor.osh g
@[reducible] def ratio_divisor.s0 : Sh := ⟨[q9, q9], []⟩
@[reducible] def ratio_divisor.x0 : List (Ex × Sh) := [(.exit 0, ⟨[q9], []⟩)]
abbrev ratio_divisor.A0 := ratio_divisor.s0.X → Option (sumX ratio_divisor.x0)
def ratio_divisor.hs : List Hint := [⟨[0, 0, 1], 0, [0, 1], [(2, [0])]⟩]
def ratio_divisor.E (l0 : ratio_divisor.A0) : Env := ⟨T, fun n ks => none, fun n => bif Nat.beq n 0 then some (LE.of ratio_divisor.s0 ratio_divisor.x0 l0) else none, 12, 0, Gt⟩

/-! ratio_within: shapesearch/ratio.within -/
noncomputable def ratio_within.c : Go.Code := Try.f72.body.getD .skip
@[reducible] def ratio_within.sh : Sh := ⟨[q7], []⟩
@[reducible] def ratio_within.osh : Sh := ⟨[q11], []⟩
abbrev ratio_within.G := ratio_within.sh.X → Option ratio_within.osh.X
@[reducible] def ratio_within.fe (g : ratio_within.G) : FE := FE.of [true] false ratio_within.sh ratio_within.osh g
def ratio_within.hs : List Hint := []
def ratio_within.E : Env := ⟨T, fun n ks => none, fun n => none, 21, 0, Gt⟩

/-! ratio_Make: shapesearch/ratio.Make -/
noncomputable def ratio_Make.c : Go.Code := Try.f90.body.getD .skip
@[reducible] def ratio_Make.sh : Sh := ⟨[q9, q9], []⟩
@[reducible] def ratio_Make.osh : Sh := ⟨[q7, q9], []⟩
abbrev ratio_Make.G := ratio_Make.sh.X → Option ratio_Make.osh.X
@[reducible] def ratio_Make.fe (g : ratio_Make.G) : FE := FE.of [true, true] false ratio_Make.sh ratio_Make.osh g
@[reducible] def ratio_Make.s0 : Sh := ⟨[q9, q9, q12], [q1]⟩
@[reducible] def ratio_Make.x0 : List (Ex × Sh) := [(.normal, ⟨[q9, q9, q12, q11], [q1]⟩)]
abbrev ratio_Make.A0 := ratio_Make.s0.X → Option (sumX ratio_Make.x0)
def ratio_Make.hs : List Hint := [⟨[0, 0, 1], 0, [0, 1, 4], [(0, [0, 1, 4, 13])]⟩]
def ratio_Make.E (g_ratio_divisor : ratio_divisor.G) (g_ratio_within : ratio_within.G) (l0 : ratio_Make.A0) : Env := ⟨T, fun n ks => bif Nat.beq n 73 && eqPath ks [] then some (ratio_divisor.fe g_ratio_divisor) else bif Nat.beq n 72 && eqPath ks [] then some (ratio_within.fe g_ratio_within) else none, fun n => bif Nat.beq n 0 then some (LE.of ratio_Make.s0 ratio_Make.x0 l0) else none, 30, 0, Gt⟩

/-! measure_whole: shapesearch/measure.whole -/
noncomputable def measure_whole.c : Go.Code := Try.f77.body.getD .skip
@[reducible] def measure_whole.sh : Sh := ⟨[q9, q9], []⟩
@[reducible] def measure_whole.osh : Sh := ⟨[q7, q9], []⟩
abbrev measure_whole.G := measure_whole.sh.X → Option measure_whole.osh.X
@[reducible] def measure_whole.fe (g : measure_whole.G) : FE := FE.of [true, true] false measure_whole.sh measure_whole.osh g
def measure_whole.hs : List Hint := []
def measure_whole.E (g_ratio_Make : ratio_Make.G) : Env := ⟨T, fun n ks => bif Nat.beq n 90 && eqPath ks [] then some (ratio_Make.fe g_ratio_Make) else none, fun n => none, 14, 0, Gt⟩

/-! measure_distances_1: shapesearch/measure.distances$1 -/
noncomputable def measure_distances_1.c : Go.Code := Try.f76.body.getD .skip
@[reducible] def measure_distances_1.sh : Sh := ⟨[q10, q10], []⟩
@[reducible] def measure_distances_1.osh : Sh := ⟨[q7, q9], []⟩
abbrev measure_distances_1.G := measure_distances_1.sh.X → Option measure_distances_1.osh.X
@[reducible] def measure_distances_1.fe (g : measure_distances_1.G) : FE := FE.of [true, true] false measure_distances_1.sh measure_distances_1.osh g
def measure_distances_1.hs : List Hint := []
def measure_distances_1.E (g_euclid_Distance : euclid_Distance.G) (g_measure_whole : measure_whole.G) : Env := ⟨T, fun n ks => bif Nat.beq n 78 && eqPath ks [] then some (euclid_Distance.fe g_euclid_Distance) else bif Nat.beq n 77 && eqPath ks [] then some (measure_whole.fe g_measure_whole) else none, fun n => none, 14, 0, Gt⟩

/-! euclid_Shifted: shapesearch/euclid.Shifted -/
noncomputable def euclid_Shifted.c : Go.Code := Try.f79.body.getD .skip
@[reducible] def euclid_Shifted.sh : Sh := ⟨[q10, q10], []⟩
@[reducible] def euclid_Shifted.osh : Sh := ⟨[q7, q9], []⟩
abbrev euclid_Shifted.G := euclid_Shifted.sh.X → Option euclid_Shifted.osh.X
@[reducible] def euclid_Shifted.fe (g : euclid_Shifted.G) : FE := FE.of [true, true] false euclid_Shifted.sh euclid_Shifted.osh g
@[reducible] def euclid_Shifted.s0 : Sh := ⟨[q10, q10, q12, q9, q9, q10, q9, q9], [q1]⟩
@[reducible] def euclid_Shifted.x0 : List (Ex × Sh) := [(.exit 0, ⟨[q10, q10, q12, q9, q9], [q1]⟩)]
abbrev euclid_Shifted.A0 := euclid_Shifted.s0.X → Option (sumX euclid_Shifted.x0)
def euclid_Shifted.hs : List Hint := [⟨[0, 1, 0, 1, 1, 1], 0, [0, 1, 4, 7, 8, 20, 21, 22], [(2, [0, 1, 4, 7, 8])]⟩]
def euclid_Shifted.E (g_euclid_check : euclid_check.G) (g_euclid_square : euclid_square.G) (g_ratio_Make : ratio_Make.G) (l0 : euclid_Shifted.A0) : Env := ⟨T, fun n ks => bif Nat.beq n 91 && eqPath ks [] then some (euclid_check.fe g_euclid_check) else bif Nat.beq n 92 && eqPath ks [] then some (euclid_square.fe g_euclid_square) else bif Nat.beq n 90 && eqPath ks [] then some (ratio_Make.fe g_ratio_Make) else none, fun n => bif Nat.beq n 0 then some (LE.of euclid_Shifted.s0 euclid_Shifted.x0 l0) else none, 49, 0, Gt⟩

/-! window_Variance: shapesearch/window.Variance -/
noncomputable def window_Variance.c : Go.Code := Try.f105.body.getD .skip
@[reducible] def window_Variance.sh : Sh := ⟨[q8], []⟩
@[reducible] def window_Variance.osh : Sh := ⟨[q9], []⟩
abbrev window_Variance.G := window_Variance.sh.X → Option window_Variance.osh.X
@[reducible] def window_Variance.fe (g : window_Variance.G) : FE := FE.of [true] false window_Variance.sh window_Variance.osh g
@[reducible] def window_Variance.s0 : Sh := ⟨[q12], [q0]⟩
@[reducible] def window_Variance.x0 : List (Ex × Sh) := [(.normal, ⟨[q12, q11], [q0]⟩)]
abbrev window_Variance.A0 := window_Variance.s0.X → Option (sumX window_Variance.x0)
def window_Variance.hs : List Hint := [⟨[0, 0, 1], 0, [1], [(0, [1, 39])]⟩]
def window_Variance.E (l0 : window_Variance.A0) : Env := ⟨T, fun n ks => none, fun n => bif Nat.beq n 0 then some (LE.of window_Variance.s0 window_Variance.x0 l0) else none, 52, 0, Gt⟩

/-! normal_variance: shapesearch/normal.variance -/
noncomputable def normal_variance.c : Go.Code := Try.f100.body.getD .skip
@[reducible] def normal_variance.sh : Sh := ⟨[q10], []⟩
@[reducible] def normal_variance.osh : Sh := ⟨[q9], []⟩
abbrev normal_variance.G := normal_variance.sh.X → Option normal_variance.osh.X
@[reducible] def normal_variance.fe (g : normal_variance.G) : FE := FE.of [true] false normal_variance.sh normal_variance.osh g
@[reducible] def normal_variance.s0 : Sh := ⟨[q12, q10, q9, q9], [q0]⟩
@[reducible] def normal_variance.x0 : List (Ex × Sh) := [(.exit 0, ⟨[q12], [q0]⟩)]
abbrev normal_variance.A0 := normal_variance.s0.X → Option (sumX normal_variance.x0)
def normal_variance.hs : List Hint := [⟨[0, 1, 0, 1, 1], 0, [3, 9, 10, 11], [(2, [3])]⟩]
def normal_variance.E (g_window_Variance : window_Variance.G) (l0 : normal_variance.A0) : Env := ⟨T, fun n ks => bif Nat.beq n 105 && eqPath ks [] then some (window_Variance.fe g_window_Variance) else none, fun n => bif Nat.beq n 0 then some (LE.of normal_variance.s0 normal_variance.x0 l0) else none, 30, 0, Gt⟩

/-! normal_product: shapesearch/normal.product -/
noncomputable def normal_product.c : Go.Code := Try.f101.body.getD .skip
@[reducible] def normal_product.sh : Sh := ⟨[q10, q10], []⟩
@[reducible] def normal_product.osh : Sh := ⟨[q9], []⟩
abbrev normal_product.G := normal_product.sh.X → Option normal_product.osh.X
@[reducible] def normal_product.fe (g : normal_product.G) : FE := FE.of [true, true] false normal_product.sh normal_product.osh g
@[reducible] def normal_product.s0 : Sh := ⟨[q10, q10, q9, q9, q9, q10, q9, q9], []⟩
@[reducible] def normal_product.x0 : List (Ex × Sh) := [(.exit 0, ⟨[q10, q9, q9, q9], []⟩)]
abbrev normal_product.A0 := normal_product.s0.X → Option (sumX normal_product.x0)
def normal_product.hs : List Hint := [⟨[0, 1, 0, 1, 1], 0, [0, 1, 5, 6, 7, 10, 11, 12], [(2, [0, 5, 6, 7])]⟩]
def normal_product.E (l0 : normal_product.A0) : Env := ⟨T, fun n ks => none, fun n => bif Nat.beq n 0 then some (LE.of normal_product.s0 normal_product.x0 l0) else none, 43, 0, Gt⟩

/-! normal_gap: shapesearch/normal.gap -/
noncomputable def normal_gap.c : Go.Code := Try.f93.body.getD .skip
@[reducible] def normal_gap.sh : Sh := ⟨[q10, q10], []⟩
@[reducible] def normal_gap.osh : Sh := ⟨[q7, q9], []⟩
abbrev normal_gap.G := normal_gap.sh.X → Option normal_gap.osh.X
@[reducible] def normal_gap.fe (g : normal_gap.G) : FE := FE.of [true, true] false normal_gap.sh normal_gap.osh g
@[reducible] def normal_gap.s0 : Sh := ⟨[q10, q10, q12, q9, q9], [q1]⟩
@[reducible] def normal_gap.x0 : List (Ex × Sh) := [(.ret, ⟨[q12, q9], [q1]⟩), (.normal, ⟨[q10, q10, q12, q9, q9], [q1]⟩)]
abbrev normal_gap.A0 := normal_gap.s0.X → Option (sumX normal_gap.x0)
@[reducible] def normal_gap.s1 : Sh := ⟨[q10, q10, q12, q9, q9], [q1]⟩
@[reducible] def normal_gap.x1 : List (Ex × Sh) := [(.normal, ⟨[q10, q10, q12, q9, q9, q11], [q1]⟩)]
abbrev normal_gap.A1 := normal_gap.s1.X → Option (sumX normal_gap.x1)
def normal_gap.hs : List Hint := [⟨[0, 1, 1], 0, [0, 1, 4, 6, 7], [(1, [4, 5]), (0, [0, 1, 4, 6, 7])]⟩, ⟨[0, 0, 0, 1, 1], 1, [0, 1, 4, 6, 7], [(0, [0, 1, 4, 6, 7, 13])]⟩]
def normal_gap.E (g_normal_variance : normal_variance.G) (g_ratio_Make : ratio_Make.G) (g_normal_product : normal_product.G) (l0 : normal_gap.A0) (l1 : normal_gap.A1) : Env := ⟨T, fun n ks => bif Nat.beq n 100 && eqPath ks [] then some (normal_variance.fe g_normal_variance) else bif Nat.beq n 90 && eqPath ks [] then some (ratio_Make.fe g_ratio_Make) else bif Nat.beq n 101 && eqPath ks [] then some (normal_product.fe g_normal_product) else none, fun n => bif Nat.beq n 0 then some (LE.of normal_gap.s0 normal_gap.x0 l0) else bif Nat.beq n 1 then some (LE.of normal_gap.s1 normal_gap.x1 l1) else none, 64, 0, Gt⟩

/-! normal_Gap: shapesearch/normal.Gap -/
noncomputable def normal_Gap.c : Go.Code := Try.f80.body.getD .skip
@[reducible] def normal_Gap.sh : Sh := ⟨[q10, q10], []⟩
@[reducible] def normal_Gap.osh : Sh := ⟨[q7, q9], []⟩
abbrev normal_Gap.G := normal_Gap.sh.X → Option normal_Gap.osh.X
@[reducible] def normal_Gap.fe (g : normal_Gap.G) : FE := FE.of [true, true] false normal_Gap.sh normal_Gap.osh g
def normal_Gap.hs : List Hint := []
def normal_Gap.E (g_euclid_Distance : euclid_Distance.G) (g_normal_gap : normal_gap.G) : Env := ⟨T, fun n ks => bif Nat.beq n 78 && eqPath ks [] then some (euclid_Distance.fe g_euclid_Distance) else bif Nat.beq n 93 && eqPath ks [] then some (normal_gap.fe g_normal_gap) else none, fun n => none, 23, 0, Gt⟩

/-! warp_check: shapesearch/warp.check -/
noncomputable def warp_check.c : Go.Code := Try.f94.body.getD .skip
@[reducible] def warp_check.sh : Sh := ⟨[q10, q10, q9], []⟩
@[reducible] def warp_check.osh : Sh := ⟨[q9], []⟩
abbrev warp_check.G := warp_check.sh.X → Option warp_check.osh.X
@[reducible] def warp_check.fe (g : warp_check.G) : FE := FE.of [true, true, true] false warp_check.sh warp_check.osh g
@[reducible] def warp_check.s0 : Sh := ⟨[q10, q10, q9], []⟩
@[reducible] def warp_check.x0 : List (Ex × Sh) := [(.normal, ⟨[q10, q10, q9, q11], []⟩)]
abbrev warp_check.A0 := warp_check.s0.X → Option (sumX warp_check.x0)
@[reducible] def warp_check.s1 : Sh := ⟨[q10, q10, q9, q9, q9], []⟩
@[reducible] def warp_check.x1 : List (Ex × Sh) := [(.normal, ⟨[q10, q10, q9, q9, q9, q11], []⟩)]
abbrev warp_check.A1 := warp_check.s1.X → Option (sumX warp_check.x1)
def warp_check.hs : List Hint := [⟨[0, 0, 1], 0, [0, 1, 2], [(0, [0, 1, 2, 16])]⟩, ⟨[0, 0, 0, 1, 1, 1, 1], 1, [0, 1, 2, 8, 10], [(0, [0, 1, 2, 8, 10, 29])]⟩]
def warp_check.E (g_euclid_Distance : euclid_Distance.G) (l0 : warp_check.A0) (l1 : warp_check.A1) : Env := ⟨T, fun n ks => bif Nat.beq n 78 && eqPath ks [] then some (euclid_Distance.fe g_euclid_Distance) else none, fun n => bif Nat.beq n 0 then some (LE.of warp_check.s0 warp_check.x0 l0) else bif Nat.beq n 1 then some (LE.of warp_check.s1 warp_check.x1 l1) else none, 61, 0, Gt⟩

/-! warp_near: shapesearch/warp.near -/
noncomputable def warp_near.c : Go.Code := Try.f106.body.getD .skip
@[reducible] def warp_near.sh : Sh := ⟨[q9, q9, q9], []⟩
@[reducible] def warp_near.osh : Sh := ⟨[q11], []⟩
abbrev warp_near.G := warp_near.sh.X → Option warp_near.osh.X
@[reducible] def warp_near.fe (g : warp_near.G) : FE := FE.of [true, true, true] false warp_near.sh warp_near.osh g
def warp_near.hs : List Hint := []
def warp_near.E : Env := ⟨T, fun n ks => none, fun n => none, 19, 0, Gt⟩

/-! warp_fill: shapesearch/warp.fill -/
noncomputable def warp_fill.c : Go.Code := Try.f102.body.getD .skip
@[reducible] def warp_fill.sh : Sh := ⟨[q13, q10, q10, q10, q9, q9], [.row 3 (.int .i64)]⟩
@[reducible] def warp_fill.osh : Sh := ⟨[], [.row 3 (.int .i64)]⟩
abbrev warp_fill.G := warp_fill.sh.X → Option warp_fill.osh.X
@[reducible] def warp_fill.fe (g : warp_fill.G) : FE := FE.of [false, true, true, true, true, true] false warp_fill.sh warp_fill.osh g
@[reducible] def warp_fill.s0 : Sh := ⟨[q13, q10, q10, q10, q9, q9, q9, q9], [.row 3 (.int .i64)]⟩
@[reducible] def warp_fill.x0 : List (Ex × Sh) := [(.exit 0, ⟨[], [.row 3 (.int .i64)]⟩)]
abbrev warp_fill.A0 := warp_fill.s0.X → Option (sumX warp_fill.x0)
@[reducible] def warp_fill.s1 : Sh := ⟨[q13, q10, q10, q10, q9, q9, q9, q9, q9, q9], [.row 3 (.int .i64)]⟩
@[reducible] def warp_fill.x1 : List (Ex × Sh) := [(.normal, ⟨[q13, q10, q10, q10, q9, q9, q9, q9, q9, q9, q11], [.row 3 (.int .i64)]⟩)]
abbrev warp_fill.A1 := warp_fill.s1.X → Option (sumX warp_fill.x1)
@[reducible] def warp_fill.s2 : Sh := ⟨[q13, q10, q10, q10, q9, q9, q9, q9, q9, q9, q11], [.row 3 (.int .i64)]⟩
@[reducible] def warp_fill.x2 : List (Ex × Sh) := [(.normal, ⟨[q13, q10, q10, q10, q9, q9, q9, q9, q9, q9], [.row 3 (.int .i64)]⟩)]
abbrev warp_fill.A2 := warp_fill.s2.X → Option (sumX warp_fill.x2)
@[reducible] def warp_fill.s3 : Sh := ⟨[q13, q10, q10, q10, q9, q9, q9, q9, q9, q9, q11], [.row 3 (.int .i64)]⟩
@[reducible] def warp_fill.x3 : List (Ex × Sh) := [(.normal, ⟨[q13, q10, q10, q10, q9, q9, q9, q9, q9, q9], [.row 3 (.int .i64)]⟩)]
abbrev warp_fill.A3 := warp_fill.s3.X → Option (sumX warp_fill.x3)
@[reducible] def warp_fill.s4 : Sh := ⟨[q13, q10, q10, q10, q9, q9, q9, q9, q9, q9, q11], [.row 3 (.int .i64)]⟩
@[reducible] def warp_fill.x4 : List (Ex × Sh) := [(.normal, ⟨[q13, q10, q10, q10, q9, q9, q9, q9, q9, q9], [.row 3 (.int .i64)]⟩)]
abbrev warp_fill.A4 := warp_fill.s4.X → Option (sumX warp_fill.x4)
@[reducible] def warp_fill.s5 : Sh := ⟨[q13, q10, q10, q10, q9, q9, q9, q9, q9, q9], [.row 3 (.int .i64)]⟩
@[reducible] def warp_fill.x5 : List (Ex × Sh) := [(.normal, ⟨[q13, q10, q10, q10, q9, q9, q9, q9, q9, q9, q11], [.row 3 (.int .i64)]⟩)]
abbrev warp_fill.A5 := warp_fill.s5.X → Option (sumX warp_fill.x5)
def warp_fill.hs : List Hint := [⟨[0, 1], 0, [0, 1, 2, 3, 4, 5, 15, 16], [(2, [])]⟩, ⟨[0, 0, 1, 1, 1, 1, 0, 0, 1, 1, 0, 0, 1], 1, [0, 1, 2, 3, 4, 5, 12, 13, 15, 16], [(0, [0, 1, 2, 3, 4, 5, 12, 13, 15, 16, 32])]⟩, ⟨[1, 0, 1, 1, 1, 1, 0, 0, 1, 1, 0, 0, 1], 2, [0, 1, 2, 3, 4, 5, 12, 13, 15, 16, 32], [(0, [0, 1, 2, 3, 4, 5, 12, 13, 15, 16])]⟩, ⟨[1, 0, 1, 1, 1, 1, 1, 0, 0, 1, 1, 0, 0, 1], 3, [0, 1, 2, 3, 4, 5, 12, 13, 15, 16, 34], [(0, [0, 1, 2, 3, 4, 5, 12, 13, 15, 16])]⟩, ⟨[1, 0, 1, 1, 1, 1, 1, 1, 0, 0, 1, 1, 0, 0, 1], 4, [0, 1, 2, 3, 4, 5, 12, 13, 15, 16, 43], [(0, [0, 1, 2, 3, 4, 5, 12, 13, 15, 16])]⟩, ⟨[0, 0, 1, 1, 1, 1, 1, 1, 1, 0, 0, 1, 1, 0, 0, 1], 5, [0, 1, 2, 3, 4, 5, 12, 13, 15, 16], [(0, [0, 1, 2, 3, 4, 5, 12, 13, 15, 16, 55])]⟩]
def warp_fill.E (g_warp_near : warp_near.G) (l0 : warp_fill.A0) (l1 : warp_fill.A1) (l2 : warp_fill.A2) (l3 : warp_fill.A3) (l4 : warp_fill.A4) (l5 : warp_fill.A5) : Env := ⟨T, fun n ks => bif Nat.beq n 106 && eqPath ks [] then some (warp_near.fe g_warp_near) else none, fun n => bif Nat.beq n 0 then some (LE.of warp_fill.s0 warp_fill.x0 l0) else bif Nat.beq n 1 then some (LE.of warp_fill.s1 warp_fill.x1 l1) else bif Nat.beq n 2 then some (LE.of warp_fill.s2 warp_fill.x2 l2) else bif Nat.beq n 3 then some (LE.of warp_fill.s3 warp_fill.x3 l3) else bif Nat.beq n 4 then some (LE.of warp_fill.s4 warp_fill.x4 l4) else bif Nat.beq n 5 then some (LE.of warp_fill.s5 warp_fill.x5 l5) else none, 93, 1, Gt⟩

/-! slices_Min: slices.Min[[]int,int] -/
noncomputable def slices_Min.c : Go.Code := Try.f103.body.getD .skip
@[reducible] def slices_Min.sh : Sh := ⟨[q10], []⟩
@[reducible] def slices_Min.osh : Sh := ⟨[q9], []⟩
abbrev slices_Min.G := slices_Min.sh.X → Option slices_Min.osh.X
@[reducible] def slices_Min.fe (g : slices_Min.G) : FE := FE.of [true] false slices_Min.sh slices_Min.osh g
@[reducible] def slices_Min.s0 : Sh := ⟨[q10, q9, q9], []⟩
@[reducible] def slices_Min.x0 : List (Ex × Sh) := [(.exit 0, ⟨[q9], []⟩)]
abbrev slices_Min.A0 := slices_Min.s0.X → Option (sumX slices_Min.x0)
def slices_Min.hs : List Hint := [⟨[0, 1, 0, 1, 1, 1], 0, [0, 3, 4], [(2, [3])]⟩]
def slices_Min.E (l0 : slices_Min.A0) : Env := ⟨T, fun n ks => none, fun n => bif Nat.beq n 0 then some (LE.of slices_Min.s0 slices_Min.x0 l0) else none, 25, 0, Gt⟩

/-! warp_distance: shapesearch/warp.distance -/
noncomputable def warp_distance.c : Go.Code := Try.f95.body.getD .skip
@[reducible] def warp_distance.sh : Sh := ⟨[q10, q10, q9, q9], []⟩
@[reducible] def warp_distance.osh : Sh := ⟨[q9], []⟩
abbrev warp_distance.G := warp_distance.sh.X → Option warp_distance.osh.X
@[reducible] def warp_distance.fe (g : warp_distance.G) : FE := FE.of [true, true, true, true] false warp_distance.sh warp_distance.osh g
@[reducible] def warp_distance.s0 : Sh := ⟨[q10, q10, q9, q9, q13, q18, q9, q9], [.row 3 (.int .i64), .row 3 (.int .i64)]⟩
@[reducible] def warp_distance.x0 : List (Ex × Sh) := [(.exit 0, ⟨[q10, q13], [.row 3 (.int .i64)]⟩), (.ret, ⟨[q9], []⟩)]
abbrev warp_distance.A0 := warp_distance.s0.X → Option (sumX warp_distance.x0)
def warp_distance.hs : List Hint := [⟨[0, 1, 0, 1, 1], 0, [0, 1, 2, 3, 9, 10, 19, 20], [(2, [1, 10]), (1, [8])]⟩]
def warp_distance.E (g_warp_fill : warp_fill.G) (g_slices_Min : slices_Min.G) (l0 : warp_distance.A0) : Env := ⟨T, fun n ks => bif Nat.beq n 102 && eqPath ks [] then some (warp_fill.fe g_warp_fill) else bif Nat.beq n 103 && eqPath ks [] then some (slices_Min.fe g_slices_Min) else none, fun n => bif Nat.beq n 0 then some (LE.of warp_distance.s0 warp_distance.x0 l0) else none, 43, 0, Gt⟩

/-! warp_Distance: shapesearch/warp.Distance -/
noncomputable def warp_Distance.c : Go.Code := Try.f82.body.getD .skip
@[reducible] def warp_Distance.sh : Sh := ⟨[q10, q10, q9], []⟩
@[reducible] def warp_Distance.osh : Sh := ⟨[q9, q9], []⟩
abbrev warp_Distance.G := warp_Distance.sh.X → Option warp_Distance.osh.X
@[reducible] def warp_Distance.fe (g : warp_Distance.G) : FE := FE.of [true, true, true] false warp_Distance.sh warp_Distance.osh g
def warp_Distance.hs : List Hint := []
def warp_Distance.E (g_warp_check : warp_check.G) (g_warp_distance : warp_distance.G) : Env := ⟨T, fun n ks => bif Nat.beq n 94 && eqPath ks [] then some (warp_check.fe g_warp_check) else bif Nat.beq n 95 && eqPath ks [] then some (warp_distance.fe g_warp_distance) else none, fun n => none, 20, 0, Gt⟩

/-! measure_distances_2: shapesearch/measure.distances$2 -/
noncomputable def measure_distances_2.c : Go.Code := Try.f81.body.getD .skip
@[reducible] def measure_distances_2.sh : Sh := ⟨[q10, q10, q12], [q0]⟩
@[reducible] def measure_distances_2.osh : Sh := ⟨[q7, q9], [q0]⟩
abbrev measure_distances_2.G := measure_distances_2.sh.X → Option measure_distances_2.osh.X
@[reducible] def measure_distances_2.fe (g : measure_distances_2.G) : FE := FE.of [true, true] false measure_distances_2.sh measure_distances_2.osh g
def measure_distances_2.hs : List Hint := []
def measure_distances_2.E (g_warp_Distance : warp_Distance.G) (g_measure_whole : measure_whole.G) : Env := ⟨T, fun n ks => bif Nat.beq n 82 && eqPath ks [] then some (warp_Distance.fe g_warp_Distance) else bif Nat.beq n 77 && eqPath ks [] then some (measure_whole.fe g_measure_whole) else none, fun n => none, 17, 1, Gt⟩

/-! edit_check: shapesearch/edit.check -/
noncomputable def edit_check.c : Go.Code := Try.f96.body.getD .skip
@[reducible] def edit_check.sh : Sh := ⟨[q10, q10, q9], []⟩
@[reducible] def edit_check.osh : Sh := ⟨[q9], []⟩
abbrev edit_check.G := edit_check.sh.X → Option edit_check.osh.X
@[reducible] def edit_check.fe (g : edit_check.G) : FE := FE.of [true, true, true] false edit_check.sh edit_check.osh g
@[reducible] def edit_check.s0 : Sh := ⟨[q10, q10, q9], []⟩
@[reducible] def edit_check.x0 : List (Ex × Sh) := [(.normal, ⟨[q10, q10, q11], []⟩)]
abbrev edit_check.A0 := edit_check.s0.X → Option (sumX edit_check.x0)
def edit_check.hs : List Hint := [⟨[0, 0, 1], 0, [0, 1, 2], [(0, [0, 1, 16])]⟩]
def edit_check.E (g_euclid_Distance : euclid_Distance.G) (l0 : edit_check.A0) : Env := ⟨T, fun n ks => bif Nat.beq n 78 && eqPath ks [] then some (euclid_Distance.fe g_euclid_Distance) else none, fun n => bif Nat.beq n 0 then some (LE.of edit_check.s0 edit_check.x0 l0) else none, 38, 0, Gt⟩

/-! edit_apart: shapesearch/edit.apart -/
noncomputable def edit_apart.c : Go.Code := Try.f107.body.getD .skip
@[reducible] def edit_apart.sh : Sh := ⟨[q9, q9], []⟩
@[reducible] def edit_apart.osh : Sh := ⟨[q9], []⟩
abbrev edit_apart.G := edit_apart.sh.X → Option edit_apart.osh.X
@[reducible] def edit_apart.fe (g : edit_apart.G) : FE := FE.of [true, true] false edit_apart.sh edit_apart.osh g
def edit_apart.hs : List Hint := []
def edit_apart.E : Env := ⟨T, fun n ks => none, fun n => none, 12, 0, Gt⟩

/-! edit_last: shapesearch/edit.last -/
noncomputable def edit_last.c : Go.Code := Try.f104.body.getD .skip
@[reducible] def edit_last.sh : Sh := ⟨[q9, q10, q10, q9, q9, q9], []⟩
@[reducible] def edit_last.osh : Sh := ⟨[q9, q9, q9, q11], []⟩
abbrev edit_last.G := edit_last.sh.X → Option edit_last.osh.X
@[reducible] def edit_last.fe (g : edit_last.G) : FE := FE.of [true, true, true, true, true, true] false edit_last.sh edit_last.osh g
@[reducible] def edit_last.s0 : Sh := ⟨[q9, q10, q10, q9, q9, q9], []⟩
@[reducible] def edit_last.x0 : List (Ex × Sh) := [(.normal, ⟨[q9, q10, q10, q9, q9, q9, q11], []⟩)]
abbrev edit_last.A0 := edit_last.s0.X → Option (sumX edit_last.x0)
@[reducible] def edit_last.s1 : Sh := ⟨[q9, q10, q10, q9, q9, q9], []⟩
@[reducible] def edit_last.x1 : List (Ex × Sh) := [(.normal, ⟨[q9, q10, q10, q9, q9, q9, q11], []⟩)]
abbrev edit_last.A1 := edit_last.s1.X → Option (sumX edit_last.x1)
@[reducible] def edit_last.s2 : Sh := ⟨[q9, q10, q9, q9, q9], []⟩
@[reducible] def edit_last.x2 : List (Ex × Sh) := [(.normal, ⟨[q10, q9, q9, q9, q11], []⟩)]
abbrev edit_last.A2 := edit_last.s2.X → Option (sumX edit_last.x2)
def edit_last.hs : List Hint := [⟨[0, 0, 0, 1], 0, [0, 1, 2, 3, 4, 5], [(0, [0, 1, 2, 3, 4, 5, 16])]⟩, ⟨[0, 1, 1, 0, 0, 1], 1, [0, 1, 2, 3, 4, 5], [(0, [0, 1, 2, 3, 4, 5, 42])]⟩, ⟨[0, 1, 1, 1, 1, 0, 0, 1], 2, [0, 2, 3, 4, 5], [(0, [2, 3, 4, 5, 59])]⟩]
def edit_last.E (g_edit_apart : edit_apart.G) (l0 : edit_last.A0) (l1 : edit_last.A1) (l2 : edit_last.A2) : Env := ⟨T, fun n ks => bif Nat.beq n 107 && eqPath ks [] then some (edit_apart.fe g_edit_apart) else none, fun n => bif Nat.beq n 0 then some (LE.of edit_last.s0 edit_last.x0 l0) else bif Nat.beq n 1 then some (LE.of edit_last.s1 edit_last.x1 l1) else bif Nat.beq n 2 then some (LE.of edit_last.s2 edit_last.x2 l2) else none, 76, 0, Gt⟩

/-! edit_table: shapesearch/edit.table -/
noncomputable def edit_table.c : Go.Code := Try.f97.body.getD .skip
@[reducible] def edit_table.sh : Sh := ⟨[q10, q10, q9], []⟩
@[reducible] def edit_table.osh : Sh := ⟨[.one (.arr)], []⟩
abbrev edit_table.G := edit_table.sh.X → Option edit_table.osh.X
@[reducible] def edit_table.fe (g : edit_table.G) : FE := FE.of [true, true, true] false edit_table.sh edit_table.osh g
@[reducible] def edit_table.s0 : Sh := ⟨[q10, q10, q9, q12, q14, q9], [.row 108 (.int .i64), .row 108 (.int .i64)]⟩
@[reducible] def edit_table.x0 : List (Ex × Sh) := [(.exit 0, ⟨[q12, q14], [.row 108 (.int .i64), .row 108 (.int .i64)]⟩)]
abbrev edit_table.A0 := edit_table.s0.X → Option (sumX edit_table.x0)
@[reducible] def edit_table.s1 : Sh := ⟨[q10, q10, q9, q12, q14, q9, q9], [.row 108 (.int .i64), .row 108 (.int .i64)]⟩
@[reducible] def edit_table.x1 : List (Ex × Sh) := [(.exit 2, ⟨[q10, q10, q9, q12, q14, q9], [.row 108 (.int .i64), .row 108 (.int .i64)]⟩)]
abbrev edit_table.A1 := edit_table.s1.X → Option (sumX edit_table.x1)
@[reducible] def edit_table.s2 : Sh := ⟨[q10, q10, q9, q12, q14, q9, q9, q11, q9], [.row 108 (.int .i64), .row 108 (.int .i64)]⟩
@[reducible] def edit_table.x2 : List (Ex × Sh) := [(.exit 4, ⟨[q10, q10, q9, q12, q14, q9, q9], [.row 108 (.int .i64), .row 108 (.int .i64)]⟩)]
abbrev edit_table.A2 := edit_table.s2.X → Option (sumX edit_table.x2)
@[reducible] def edit_table.s3 : Sh := ⟨[q10, q10, q9, q12, q14, q9, q9, q11, q9, q9, q9, q9, q11], [.row 108 (.int .i64), .row 108 (.int .i64)]⟩
@[reducible] def edit_table.x3 : List (Ex × Sh) := [(.normal, ⟨[q10, q10, q9, q12, q14, q9, q9, q11, q9, q9, q9, q9, q11], [.row 108 (.int .i64), .row 108 (.int .i64)]⟩)]
abbrev edit_table.A3 := edit_table.s3.X → Option (sumX edit_table.x3)
def edit_table.hs : List Hint := [⟨[0, 1, 0, 1, 1], 0, [0, 1, 2, 6, 7, 8], [(2, [6, 7])]⟩, ⟨[0, 1, 0, 0, 1, 0, 0, 1, 0, 1, 1], 1, [0, 1, 2, 6, 7, 8, 9], [(4, [0, 1, 2, 6, 7, 8])]⟩, ⟨[0, 1, 1, 0, 0, 1, 0, 0, 1, 0, 0, 1, 0, 0, 1, 0, 1, 1], 2, [0, 1, 2, 6, 7, 8, 9, 10, 11], [(6, [0, 1, 2, 6, 7, 8, 9])]⟩, ⟨[0, 1, 0, 0, 1, 0, 0, 1, 1, 0, 0, 1, 0, 0, 1, 0, 0, 1, 0, 0, 1, 0, 1, 1], 3, [0, 1, 2, 6, 7, 8, 9, 10, 11, 12, 13, 14, 15], [(0, [0, 1, 2, 6, 7, 8, 9, 10, 11, 12, 13, 14, 62])]⟩]
def edit_table.E (g_edit_last : edit_last.G) (l0 : edit_table.A0) (l1 : edit_table.A1) (l2 : edit_table.A2) (l3 : edit_table.A3) : Env := ⟨T, fun n ks => bif Nat.beq n 104 && eqPath ks [] then some (edit_last.fe g_edit_last) else none, fun n => bif Nat.beq n 0 then some (LE.of edit_table.s0 edit_table.x0 l0) else bif Nat.beq n 1 then some (LE.of edit_table.s1 edit_table.x1 l1) else bif Nat.beq n 2 then some (LE.of edit_table.s2 edit_table.x2 l2) else bif Nat.beq n 3 then some (LE.of edit_table.s3 edit_table.x3 l3) else none, 75, 0, Gt⟩

/-! edit_Distance: shapesearch/edit.Distance -/
noncomputable def edit_Distance.c : Go.Code := Try.f84.body.getD .skip
@[reducible] def edit_Distance.sh : Sh := ⟨[q10, q10, q9], []⟩
@[reducible] def edit_Distance.osh : Sh := ⟨[q9, q9], []⟩
abbrev edit_Distance.G := edit_Distance.sh.X → Option edit_Distance.osh.X
@[reducible] def edit_Distance.fe (g : edit_Distance.G) : FE := FE.of [true, true, true] false edit_Distance.sh edit_Distance.osh g
def edit_Distance.hs : List Hint := []
def edit_Distance.E (g_edit_check : edit_check.G) (g_edit_table : edit_table.G) : Env := ⟨T, fun n ks => bif Nat.beq n 96 && eqPath ks [] then some (edit_check.fe g_edit_check) else bif Nat.beq n 97 && eqPath ks [] then some (edit_table.fe g_edit_table) else none, fun n => none, 26, 0, Gt⟩

/-! measure_distances_3: shapesearch/measure.distances$3 -/
noncomputable def measure_distances_3.c : Go.Code := Try.f83.body.getD .skip
@[reducible] def measure_distances_3.sh : Sh := ⟨[q10, q10, q12], [q0]⟩
@[reducible] def measure_distances_3.osh : Sh := ⟨[q7, q9], [q0]⟩
abbrev measure_distances_3.G := measure_distances_3.sh.X → Option measure_distances_3.osh.X
@[reducible] def measure_distances_3.fe (g : measure_distances_3.G) : FE := FE.of [true, true] false measure_distances_3.sh measure_distances_3.osh g
def measure_distances_3.hs : List Hint := []
def measure_distances_3.E (g_edit_Distance : edit_Distance.G) (g_measure_whole : measure_whole.G) : Env := ⟨T, fun n ks => bif Nat.beq n 84 && eqPath ks [] then some (edit_Distance.fe g_edit_Distance) else bif Nat.beq n 77 && eqPath ks [] then some (measure_whole.fe g_measure_whole) else none, fun n => none, 17, 1, Gt⟩

/-! measure_Distance: shapesearch/measure.Distance -/
noncomputable def measure_Distance.c : Go.Code := Try.f37.body.getD .skip
@[reducible] def measure_Distance.sh : Sh := ⟨[q8, q10, q10], []⟩
@[reducible] def measure_Distance.osh : Sh := ⟨[q7, q9], []⟩
abbrev measure_Distance.G := measure_Distance.sh.X → Option measure_Distance.osh.X
@[reducible] def measure_Distance.fe (g : measure_Distance.G) : FE := FE.of [true, true, true] false measure_Distance.sh measure_Distance.osh g
def measure_Distance.hs : List Hint := []
def measure_Distance.E (g_measure_Check : measure_Check.G) (g_measure_distances : measure_distances.G) (g_measure_distances_1 : measure_distances_1.G) (g_euclid_Shifted : euclid_Shifted.G) (g_normal_Gap : normal_Gap.G) (g_measure_distances_2 : measure_distances_2.G) (g_measure_distances_3 : measure_distances_3.G) : Env := ⟨T, fun n ks => bif Nat.beq n 27 && eqPath ks [] then some (measure_Check.fe g_measure_Check) else bif Nat.beq n 56 && eqPath ks [] then some (measure_distances.fe g_measure_distances) else bif Nat.beq n 76 && eqPath ks [] then some (measure_distances_1.fe g_measure_distances_1) else bif Nat.beq n 79 && eqPath ks [] then some (euclid_Shifted.fe g_euclid_Shifted) else bif Nat.beq n 80 && eqPath ks [] then some (normal_Gap.fe g_normal_Gap) else bif Nat.beq n 81 && eqPath ks [] then some (measure_distances_2.fe g_measure_distances_2) else bif Nat.beq n 83 && eqPath ks [] then some (measure_distances_3.fe g_measure_distances_3) else none, fun n => none, 25, 0, Gt⟩

/-! ratio_Valid: shapesearch/ratio.Valid -/
noncomputable def ratio_Valid.c : Go.Code := Try.f52.body.getD .skip
@[reducible] def ratio_Valid.sh : Sh := ⟨[q7], []⟩
@[reducible] def ratio_Valid.osh : Sh := ⟨[q11], []⟩
abbrev ratio_Valid.G := ratio_Valid.sh.X → Option ratio_Valid.osh.X
@[reducible] def ratio_Valid.fe (g : ratio_Valid.G) : FE := FE.of [true] false ratio_Valid.sh ratio_Valid.osh g
def ratio_Valid.hs : List Hint := []
def ratio_Valid.E (g_ratio_within : ratio_within.G) (g_ratio_divisor : ratio_divisor.G) : Env := ⟨T, fun n ks => bif Nat.beq n 72 && eqPath ks [] then some (ratio_within.fe g_ratio_within) else bif Nat.beq n 73 && eqPath ks [] then some (ratio_divisor.fe g_ratio_divisor) else none, fun n => none, 13, 0, Gt⟩

/-! bits_Mul64: math/bits.Mul64 -/
noncomputable def bits_Mul64.c : Go.Code := Try.f75.body.getD .skip
@[reducible] def bits_Mul64.sh : Sh := ⟨[q15, q15], []⟩
@[reducible] def bits_Mul64.osh : Sh := ⟨[q15, q15], []⟩
abbrev bits_Mul64.G := bits_Mul64.sh.X → Option bits_Mul64.osh.X
@[reducible] def bits_Mul64.fe (g : bits_Mul64.G) : FE := FE.of [true, true] false bits_Mul64.sh bits_Mul64.osh g
def bits_Mul64.hs : List Hint := []
def bits_Mul64.E : Env := ⟨T, fun n ks => none, fun n => none, 51, 0, Gt⟩

/-! ratio_Cmp: shapesearch/ratio.Cmp -/
noncomputable def ratio_Cmp.c : Go.Code := Try.f55.body.getD .skip
@[reducible] def ratio_Cmp.sh : Sh := ⟨[q7, q7], []⟩
@[reducible] def ratio_Cmp.osh : Sh := ⟨[q9], []⟩
abbrev ratio_Cmp.G := ratio_Cmp.sh.X → Option ratio_Cmp.osh.X
@[reducible] def ratio_Cmp.fe (g : ratio_Cmp.G) : FE := FE.of [true, true] false ratio_Cmp.sh ratio_Cmp.osh g
@[reducible] def ratio_Cmp.s0 : Sh := ⟨[q12, q14], [q1, q1]⟩
@[reducible] def ratio_Cmp.x0 : List (Ex × Sh) := [(.normal, ⟨[q12, q14, q11], [q1, q1]⟩)]
abbrev ratio_Cmp.A0 := ratio_Cmp.s0.X → Option (sumX ratio_Cmp.x0)
@[reducible] def ratio_Cmp.s1 : Sh := ⟨[q15, q15, q15, q15], []⟩
@[reducible] def ratio_Cmp.x1 : List (Ex × Sh) := [(.normal, ⟨[q15, q15, q15, q15, q11], []⟩)]
abbrev ratio_Cmp.A1 := ratio_Cmp.s1.X → Option (sumX ratio_Cmp.x1)
def ratio_Cmp.hs : List Hint := [⟨[0, 0, 1], 0, [2, 3], [(0, [2, 3, 16])]⟩, ⟨[0, 0, 0, 1, 1, 1, 1], 1, [5, 6, 7, 8], [(0, [5, 6, 7, 8, 37])]⟩]
def ratio_Cmp.E (g_ratio_Valid : ratio_Valid.G) (g_bits_Mul64 : bits_Mul64.G) (l0 : ratio_Cmp.A0) (l1 : ratio_Cmp.A1) : Env := ⟨T, fun n ks => bif Nat.beq n 52 && eqPath ks [] then some (ratio_Valid.fe g_ratio_Valid) else bif Nat.beq n 75 && eqPath ks [] then some (bits_Mul64.fe g_bits_Mul64) else none, fun n => bif Nat.beq n 0 then some (LE.of ratio_Cmp.s0 ratio_Cmp.x0 l0) else bif Nat.beq n 1 then some (LE.of ratio_Cmp.s1 ratio_Cmp.x1 l1) else none, 60, 0, Gt⟩

/-! ratio_Less: shapesearch/ratio.Less -/
noncomputable def ratio_Less.c : Go.Code := Try.f34.body.getD .skip
@[reducible] def ratio_Less.sh : Sh := ⟨[q7, q7], []⟩
@[reducible] def ratio_Less.osh : Sh := ⟨[q11], []⟩
abbrev ratio_Less.G := ratio_Less.sh.X → Option ratio_Less.osh.X
@[reducible] def ratio_Less.fe (g : ratio_Less.G) : FE := FE.of [true, true] false ratio_Less.sh ratio_Less.osh g
def ratio_Less.hs : List Hint := []
def ratio_Less.E (g_ratio_Cmp : ratio_Cmp.G) : Env := ⟨T, fun n ks => bif Nat.beq n 55 && eqPath ks [] then some (ratio_Cmp.fe g_ratio_Cmp) else none, fun n => none, 9, 0, Gt⟩

/-! profile_Nearer: shapesearch/profile.Nearer -/
noncomputable def profile_Nearer.c : Go.Code := Try.f15.body.getD .skip
@[reducible] def profile_Nearer.sh : Sh := ⟨[q8, q8], []⟩
@[reducible] def profile_Nearer.osh : Sh := ⟨[q11], []⟩
abbrev profile_Nearer.G := profile_Nearer.sh.X → Option profile_Nearer.osh.X
@[reducible] def profile_Nearer.fe (g : profile_Nearer.G) : FE := FE.of [true, true] false profile_Nearer.sh profile_Nearer.osh g
@[reducible] def profile_Nearer.s0 : Sh := ⟨[q12, q14], [q0, q0]⟩
@[reducible] def profile_Nearer.x0 : List (Ex × Sh) := [(.normal, ⟨[q12, q14, q11], [q0, q0]⟩)]
abbrev profile_Nearer.A0 := profile_Nearer.s0.X → Option (sumX profile_Nearer.x0)
def profile_Nearer.hs : List Hint := [⟨[0, 0, 1], 0, [2, 3], [(0, [2, 3, 12])]⟩]
def profile_Nearer.E (g_ratio_Less : ratio_Less.G) (l0 : profile_Nearer.A0) : Env := ⟨T, fun n ks => bif Nat.beq n 34 && eqPath ks [] then some (ratio_Less.fe g_ratio_Less) else none, fun n => bif Nat.beq n 0 then some (LE.of profile_Nearer.s0 profile_Nearer.x0 l0) else none, 36, 0, Gt⟩

/-! profile_Best: shapesearch/profile.Best -/
noncomputable def profile_Best.c : Go.Code := Try.f30.body.getD .skip
@[reducible] def profile_Best.sh : Sh := ⟨[q12, q8], [q0]⟩
@[reducible] def profile_Best.osh : Sh := ⟨[], [q0]⟩
abbrev profile_Best.G := profile_Best.sh.X → Option profile_Best.osh.X
@[reducible] def profile_Best.fe (g : profile_Best.G) : FE := FE.of [true, true] false profile_Best.sh profile_Best.osh g
def profile_Best.hs : List Hint := []
def profile_Best.E (g_profile_Nearer : profile_Nearer.G) : Env := ⟨T, fun n ks => bif Nat.beq n 15 && eqPath ks [] then some (profile_Nearer.fe g_profile_Nearer) else none, fun n => none, 12, 1, Gt⟩

/-! profile_Of: shapesearch/profile.Of -/
noncomputable def profile_Of.c : Go.Code := Try.f21.body.getD .skip
@[reducible] def profile_Of.sh : Sh := ⟨[q10, q8, q9, q9], []⟩
@[reducible] def profile_Of.osh : Sh := ⟨[.agg [.pv (.int .i64), .pv (.int .i64), .pv (.int .i64), .pv (.int .i64), .pv (.int .i64), .is (.own 0), .is (.own 1), .is (.own 2)], q9], [.row 31 (.pair (.int .i64) (.pair (.int .i64) (.int .i64))), .row 31 (.pair (.int .i64) (.pair (.int .i64) (.int .i64))), .row 31 (.pair (.int .i64) (.pair (.int .i64) (.int .i64)))]⟩
abbrev profile_Of.G := profile_Of.sh.X → Option profile_Of.osh.X
@[reducible] def profile_Of.fe (g : profile_Of.G) : FE := FE.of [true, true, true, true] false profile_Of.sh profile_Of.osh g
@[reducible] def profile_Of.s0 : Sh := ⟨[q10, q9, q9, q12, q14, q20, q21, q9, q9], [q0, q4, .row 4 .bool, q3, .row 31 (.pair (.int .i64) (.pair (.int .i64) (.int .i64))), .row 31 (.pair (.int .i64) (.pair (.int .i64) (.int .i64))), .row 31 (.pair (.int .i64) (.pair (.int .i64) (.int .i64)))]⟩
@[reducible] def profile_Of.x0 : List (Ex × Sh) := [(.exit 0, ⟨[q10, q9, q9, q12, q14, q20, q21], [q0, q4, .row 4 .bool, q3, .row 31 (.pair (.int .i64) (.pair (.int .i64) (.int .i64))), .row 31 (.pair (.int .i64) (.pair (.int .i64) (.int .i64))), .row 31 (.pair (.int .i64) (.pair (.int .i64) (.int .i64)))]⟩)]
abbrev profile_Of.A0 := profile_Of.s0.X → Option (sumX profile_Of.x0)
@[reducible] def profile_Of.s1 : Sh := ⟨[q10, q9, q9, q12, q14, q20, q21, q9, q9], [q0, q4, .row 4 .bool, q3, .row 31 (.pair (.int .i64) (.pair (.int .i64) (.int .i64))), .row 31 (.pair (.int .i64) (.pair (.int .i64) (.int .i64))), .row 31 (.pair (.int .i64) (.pair (.int .i64) (.int .i64)))]⟩
@[reducible] def profile_Of.x1 : List (Ex × Sh) := [(.exit 2, ⟨[q12, q18, q17], [q4, .row 4 .bool, .box [.pv (.int .i64), .pv (.int .i64), .pv (.int .i64), .pv (.int .i64), .pv (.int .i64), .is (.own 3), .is (.own 4), .is (.own 5)], .row 31 (.pair (.int .i64) (.pair (.int .i64) (.int .i64))), .row 31 (.pair (.int .i64) (.pair (.int .i64) (.int .i64))), .row 31 (.pair (.int .i64) (.pair (.int .i64) (.int .i64)))]⟩), (.ret, ⟨[q12, q9], [q4]⟩)]
abbrev profile_Of.A1 := profile_Of.s1.X → Option (sumX profile_Of.x1)
@[reducible] def profile_Of.s2 : Sh := ⟨[q10, q9, q9, q12, q14, q20, q21, q9, q9, q9, q9], [q0, q4, .row 4 .bool, q3, .row 31 (.pair (.int .i64) (.pair (.int .i64) (.int .i64))), .row 31 (.pair (.int .i64) (.pair (.int .i64) (.int .i64))), .row 31 (.pair (.int .i64) (.pair (.int .i64) (.int .i64)))]⟩
@[reducible] def profile_Of.x2 : List (Ex × Sh) := [(.exit 4, ⟨[q10, q9, q9, q12, q14, q20, q21, q9, q9], [q0, q4, .row 4 .bool, q3, .row 31 (.pair (.int .i64) (.pair (.int .i64) (.int .i64))), .row 31 (.pair (.int .i64) (.pair (.int .i64) (.int .i64))), .row 31 (.pair (.int .i64) (.pair (.int .i64) (.int .i64)))]⟩), (.ret, ⟨[q12, q9], [q4]⟩)]
abbrev profile_Of.A2 := profile_Of.s2.X → Option (sumX profile_Of.x2)
@[reducible] def profile_Of.s3 : Sh := ⟨[q10, q9, q9, q12, q14, q20, q21, q9, q9, q9, q9], [q0, q4, .row 4 .bool, q3, .row 31 (.pair (.int .i64) (.pair (.int .i64) (.int .i64))), .row 31 (.pair (.int .i64) (.pair (.int .i64) (.int .i64))), .row 31 (.pair (.int .i64) (.pair (.int .i64) (.int .i64)))]⟩
@[reducible] def profile_Of.x3 : List (Ex × Sh) := [(.normal, ⟨[q10, q9, q9, q12, q14, q20, q21, q9, q9, q9, q9, q11], [q0, q4, .row 4 .bool, q3, .row 31 (.pair (.int .i64) (.pair (.int .i64) (.int .i64))), .row 31 (.pair (.int .i64) (.pair (.int .i64) (.int .i64))), .row 31 (.pair (.int .i64) (.pair (.int .i64) (.int .i64)))]⟩)]
abbrev profile_Of.A3 := profile_Of.s3.X → Option (sumX profile_Of.x3)
@[reducible] def profile_Of.s4 : Sh := ⟨[q12, q14, q9, q9], [q4, q6, .row 31 (.pair (.int .i64) (.pair (.int .i64) (.int .i64))), .row 31 (.pair (.int .i64) (.pair (.int .i64) (.int .i64))), .row 31 (.pair (.int .i64) (.pair (.int .i64) (.int .i64)))]⟩
@[reducible] def profile_Of.x4 : List (Ex × Sh) := [(.exit 6, ⟨[q12, q14], [q4, q6, .row 31 (.pair (.int .i64) (.pair (.int .i64) (.int .i64))), .row 31 (.pair (.int .i64) (.pair (.int .i64) (.int .i64))), .row 31 (.pair (.int .i64) (.pair (.int .i64) (.int .i64)))]⟩)]
abbrev profile_Of.A4 := profile_Of.s4.X → Option (sumX profile_Of.x4)
def profile_Of.hs : List Hint := [⟨[0, 1, 0, 1, 1, 1, 1, 1, 1], 0, [0, 2, 3, 5, 8, 11, 13, 44, 45], [(2, [0, 2, 3, 5, 8, 11, 13])]⟩, ⟨[0, 1, 0, 1, 1, 1, 1, 1, 1, 1], 1, [0, 2, 3, 5, 8, 11, 13, 67, 68], [(4, [8, 11, 13]), (1, [8, 9])]⟩, ⟨[0, 1, 1, 0, 0, 1, 1, 0, 0, 1, 0, 1, 1, 1, 1, 1, 1, 1], 2, [0, 2, 3, 5, 8, 11, 13, 14, 15, 67, 68], [(6, [0, 2, 3, 5, 8, 11, 13, 67, 68]), (1, [8, 9])]⟩, ⟨[0, 0, 0, 0, 1, 1, 0, 0, 1, 1, 0, 0, 1, 0, 1, 1, 1, 1, 1, 1, 1], 3, [0, 2, 3, 5, 8, 11, 13, 14, 15, 67, 68], [(0, [0, 2, 3, 5, 8, 11, 13, 14, 15, 67, 68, 81])]⟩, ⟨[0, 1, 0, 1, 1, 1, 1, 1, 1, 1, 1], 4, [8, 13, 128, 129], [(8, [8, 13])]⟩]
def profile_Of.E (g_measure_Check : measure_Check.G) (g_profile_Windows : profile_Windows.G) (g_profile_Zone : profile_Zone.G) (g_profile_None : profile_None.G) (g_measure_Distance : measure_Distance.G) (g_profile_Best : profile_Best.G) (l0 : profile_Of.A0) (l1 : profile_Of.A1) (l2 : profile_Of.A2) (l3 : profile_Of.A3) (l4 : profile_Of.A4) : Env := ⟨T, fun n ks => bif Nat.beq n 27 && eqPath ks [] then some (measure_Check.fe g_measure_Check) else bif Nat.beq n 22 && eqPath ks [] then some (profile_Windows.fe g_profile_Windows) else bif Nat.beq n 29 && eqPath ks [] then some (profile_Zone.fe g_profile_Zone) else bif Nat.beq n 36 && eqPath ks [] then some (profile_None.fe g_profile_None) else bif Nat.beq n 37 && eqPath ks [] then some (measure_Distance.fe g_measure_Distance) else bif Nat.beq n 30 && eqPath ks [] then some (profile_Best.fe g_profile_Best) else none, fun n => bif Nat.beq n 0 then some (LE.of profile_Of.s0 profile_Of.x0 l0) else bif Nat.beq n 1 then some (LE.of profile_Of.s1 profile_Of.x1 l1) else bif Nat.beq n 2 then some (LE.of profile_Of.s2 profile_Of.x2 l2) else bif Nat.beq n 3 then some (LE.of profile_Of.s3 profile_Of.x3 l3) else bif Nat.beq n 4 then some (LE.of profile_Of.s4 profile_Of.x4 l4) else none, 153, 0, Gt⟩

/-! profile_neighbour: shapesearch/profile.neighbour -/
noncomputable def profile_neighbour.c : Go.Code := Try.f31.body.getD .skip
@[reducible] def profile_neighbour.sh : Sh := ⟨[q8, q9, q9, q9, q11], []⟩
@[reducible] def profile_neighbour.osh : Sh := ⟨[q11], []⟩
abbrev profile_neighbour.G := profile_neighbour.sh.X → Option profile_neighbour.osh.X
@[reducible] def profile_neighbour.fe (g : profile_neighbour.G) : FE := FE.of [true, true, true, true, true] false profile_neighbour.sh profile_neighbour.osh g
@[reducible] def profile_neighbour.s0 : Sh := ⟨[q9, q9, q9, q11, q12], [q0]⟩
@[reducible] def profile_neighbour.x0 : List (Ex × Sh) := [(.normal, ⟨[q9, q9, q11, q12, q11], [q0]⟩)]
abbrev profile_neighbour.A0 := profile_neighbour.s0.X → Option (sumX profile_neighbour.x0)
def profile_neighbour.hs : List Hint := [⟨[0, 0, 1, 1], 0, [1, 2, 3, 4, 5], [(0, [1, 3, 4, 5, 31])]⟩]
def profile_neighbour.E (g_profile_None : profile_None.G) (g_ratio_Valid : ratio_Valid.G) (l0 : profile_neighbour.A0) : Env := ⟨T, fun n ks => bif Nat.beq n 36 && eqPath ks [] then some (profile_None.fe g_profile_None) else bif Nat.beq n 52 && eqPath ks [] then some (ratio_Valid.fe g_ratio_Valid) else none, fun n => bif Nat.beq n 0 then some (LE.of profile_neighbour.s0 profile_neighbour.x0 l0) else none, 45, 0, Gt⟩

/-! profile_Valid: shapesearch/profile.Valid -/
noncomputable def profile_Valid.c : Go.Code := Try.f13.body.getD .skip
@[reducible] def profile_Valid.sh : Sh := ⟨[.agg [.pv (.int .i64), .pv (.int .i64), .pv (.int .i64), .pv (.int .i64), .pv (.int .i64), .pv (.list (.pair (.int .i64) (.pair (.int .i64) (.int .i64)))), .pv (.list (.pair (.int .i64) (.pair (.int .i64) (.int .i64)))), .pv (.list (.pair (.int .i64) (.pair (.int .i64) (.int .i64))))]], []⟩
@[reducible] def profile_Valid.osh : Sh := ⟨[q11], []⟩
abbrev profile_Valid.G := profile_Valid.sh.X → Option profile_Valid.osh.X
@[reducible] def profile_Valid.fe (g : profile_Valid.G) : FE := FE.of [true] false profile_Valid.sh profile_Valid.osh g
@[reducible] def profile_Valid.s0 : Sh := ⟨[q12, q9], [q5]⟩
@[reducible] def profile_Valid.x0 : List (Ex × Sh) := [(.normal, ⟨[q12, q9, q11], [q5]⟩)]
abbrev profile_Valid.A0 := profile_Valid.s0.X → Option (sumX profile_Valid.x0)
@[reducible] def profile_Valid.s1 : Sh := ⟨[q12, q9, q9, q9], [q5]⟩
@[reducible] def profile_Valid.x1 : List (Ex × Sh) := [(.exit 0, ⟨[], []⟩), (.ret, ⟨[q11], []⟩)]
abbrev profile_Valid.A1 := profile_Valid.s1.X → Option (sumX profile_Valid.x1)
@[reducible] def profile_Valid.s2 : Sh := ⟨[q12, q9, q9, q14, q9, q9], [q5, q0]⟩
@[reducible] def profile_Valid.x2 : List (Ex × Sh) := [(.normal, ⟨[q12, q9, q9, q9, q11], [q5]⟩)]
abbrev profile_Valid.A2 := profile_Valid.s2.X → Option (sumX profile_Valid.x2)
def profile_Valid.hs : List Hint := [⟨[0, 0, 1, 1], 0, [1, 3], [(0, [1, 3, 42])]⟩, ⟨[0, 1, 0, 1, 1, 1], 1, [1, 3, 43, 44], [(2, []), (1, [2])]⟩, ⟨[0, 1, 1, 1, 0, 0, 1, 1, 0, 0, 1, 0, 1, 1, 1], 2, [1, 3, 4, 5, 43, 44], [(0, [1, 3, 43, 44, 90])]⟩]
def profile_Valid.E (g_measure_Check : measure_Check.G) (g_profile_Length : profile_Length.G) (g_profile_Zone : profile_Zone.G) (g_profile_Best : profile_Best.G) (g_profile_neighbour : profile_neighbour.G) (l0 : profile_Valid.A0) (l1 : profile_Valid.A1) (l2 : profile_Valid.A2) : Env := ⟨T, fun n ks => bif Nat.beq n 27 && eqPath ks [] then some (measure_Check.fe g_measure_Check) else bif Nat.beq n 28 && eqPath ks [] then some (profile_Length.fe g_profile_Length) else bif Nat.beq n 29 && eqPath ks [] then some (profile_Zone.fe g_profile_Zone) else bif Nat.beq n 30 && eqPath ks [] then some (profile_Best.fe g_profile_Best) else bif Nat.beq n 31 && eqPath ks [] then some (profile_neighbour.fe g_profile_neighbour) else none, fun n => bif Nat.beq n 0 then some (LE.of profile_Valid.s0 profile_Valid.x0 l0) else bif Nat.beq n 1 then some (LE.of profile_Valid.s1 profile_Valid.x1 l1) else bif Nat.beq n 2 then some (LE.of profile_Valid.s2 profile_Valid.x2 l2) else none, 92, 0, Gt⟩

/-! law37_awake: shapesearch/shapesearchlaw37.awake -/
noncomputable def law37_awake.c : Go.Code := Try.f9.body.getD .skip
@[reducible] def law37_awake.sh : Sh := ⟨[], []⟩
@[reducible] def law37_awake.osh : Sh := ⟨[q11], []⟩
abbrev law37_awake.G := law37_awake.sh.X → Option law37_awake.osh.X
@[reducible] def law37_awake.fe (g : law37_awake.G) : FE := FE.of [] false law37_awake.sh law37_awake.osh g
@[reducible] def law37_awake.s0 : Sh := ⟨[q12, q9], [.box [.pv (.int .i64), .pv (.int .i64), .pv (.int .i64), .pv (.int .i64), .pv (.int .i64), .is (.own 1), .is (.own 2), .is (.own 3)], .row 31 (.pair (.int .i64) (.pair (.int .i64) (.int .i64))), .row 31 (.pair (.int .i64) (.pair (.int .i64) (.int .i64))), .row 31 (.pair (.int .i64) (.pair (.int .i64) (.int .i64)))]⟩
@[reducible] def law37_awake.x0 : List (Ex × Sh) := [(.normal, ⟨[q11], []⟩)]
abbrev law37_awake.A0 := law37_awake.s0.X → Option (sumX law37_awake.x0)
def law37_awake.hs : List Hint := [⟨[0, 1, 1], 0, [1, 2], [(0, [0])]⟩]
def law37_awake.E (g_profile_Of : profile_Of.G) (g_profile_Valid : profile_Valid.G) (l0 : law37_awake.A0) : Env := ⟨T, fun n ks => bif Nat.beq n 21 && eqPath ks [] then some (profile_Of.fe g_profile_Of) else bif Nat.beq n 13 && eqPath ks [] then some (profile_Valid.fe g_profile_Valid) else none, fun n => bif Nat.beq n 0 then some (LE.of law37_awake.s0 law37_awake.x0 l0) else none, 38, 0, Gt⟩

/-! second_New: shapesearch/shapesearchsecond.New -/
noncomputable def second_New.c : Go.Code := Try.f10.body.getD .skip
@[reducible] def second_New.sh : Sh := ⟨[q10], []⟩
@[reducible] def second_New.osh : Sh := ⟨[q12], [q2]⟩
abbrev second_New.G := second_New.sh.X → Option second_New.osh.X
@[reducible] def second_New.fe (g : second_New.G) : FE := FE.of [true] true second_New.sh second_New.osh g
def second_New.hs : List Hint := []
def second_New.E : Env := ⟨T, fun n ks => none, fun n => none, 6, 0, Gt⟩

/-! second_Mod: shapesearch/shapesearchsecond.Mod -/
noncomputable def second_Mod.c : Go.Code := Try.f12.body.getD .skip
@[reducible] def second_Mod.sh : Sh := ⟨[q9, q9], []⟩
@[reducible] def second_Mod.osh : Sh := ⟨[q9], []⟩
abbrev second_Mod.G := second_Mod.sh.X → Option second_Mod.osh.X
@[reducible] def second_Mod.fe (g : second_Mod.G) : FE := FE.of [true, true] false second_Mod.sh second_Mod.osh g
def second_Mod.hs : List Hint := []
def second_Mod.E : Env := ⟨T, fun n ks => none, fun n => none, 12, 0, Gt⟩

/-! second_Deck_Next: (*shapesearch/shapesearchsecond.Deck).Next -/
noncomputable def second_Deck_Next.c : Go.Code := Try.f18.body.getD .skip
@[reducible] def second_Deck_Next.sh : Sh := ⟨[q12, q9], [q2]⟩
@[reducible] def second_Deck_Next.osh : Sh := ⟨[q9], [q2]⟩
abbrev second_Deck_Next.G := second_Deck_Next.sh.X → Option second_Deck_Next.osh.X
@[reducible] def second_Deck_Next.fe (g : second_Deck_Next.G) : FE := FE.of [true, true] true second_Deck_Next.sh second_Deck_Next.osh g
@[reducible] def second_Deck_Next.s0 : Sh := ⟨[q12, q9], [q2]⟩
@[reducible] def second_Deck_Next.x0 : List (Ex × Sh) := [(.normal, ⟨[q12, q9, q11], [q2]⟩)]
abbrev second_Deck_Next.A0 := second_Deck_Next.s0.X → Option (sumX second_Deck_Next.x0)
def second_Deck_Next.hs : List Hint := [⟨[0, 0, 1], 0, [0, 1], [(0, [0, 1, 18])]⟩]
def second_Deck_Next.E (g_second_Mod : second_Mod.G) (l0 : second_Deck_Next.A0) : Env := ⟨T, fun n ks => bif Nat.beq n 12 && eqPath ks [] then some (second_Mod.fe g_second_Mod) else none, fun n => bif Nat.beq n 0 then some (LE.of second_Deck_Next.s0 second_Deck_Next.x0 l0) else none, 39, 1, Gt⟩

/-! second_Deck_Sample: (*shapesearch/shapesearchsecond.Deck).Sample -/
noncomputable def second_Deck_Sample.c : Go.Code := Try.f35.body.getD .skip
@[reducible] def second_Deck_Sample.sh : Sh := ⟨[q12], [q2]⟩
@[reducible] def second_Deck_Sample.osh : Sh := ⟨[q9], [q2]⟩
abbrev second_Deck_Sample.G := second_Deck_Sample.sh.X → Option second_Deck_Sample.osh.X
@[reducible] def second_Deck_Sample.fe (g : second_Deck_Sample.G) : FE := FE.of [true] true second_Deck_Sample.sh second_Deck_Sample.osh g
def second_Deck_Sample.hs : List Hint := []
def second_Deck_Sample.E (g_second_Deck_Next : second_Deck_Next.G) : Env := ⟨T, fun n ks => bif Nat.beq n 18 && eqPath ks [] then some (second_Deck_Next.fe g_second_Deck_Next) else none, fun n => none, 20, 1, Gt⟩

/-! second_Deck_Values: (*shapesearch/shapesearchsecond.Deck).Values -/
noncomputable def second_Deck_Values.c : Go.Code := Try.f17.body.getD .skip
@[reducible] def second_Deck_Values.sh : Sh := ⟨[q12, q9], [q2]⟩
@[reducible] def second_Deck_Values.osh : Sh := ⟨[q18], [q2, .row 3 (.int .i64)]⟩
abbrev second_Deck_Values.G := second_Deck_Values.sh.X → Option second_Deck_Values.osh.X
@[reducible] def second_Deck_Values.fe (g : second_Deck_Values.G) : FE := FE.of [true, true] true second_Deck_Values.sh second_Deck_Values.osh g
@[reducible] def second_Deck_Values.s0 : Sh := ⟨[q12, q9, q18, q9, q9, q9], [q2, .row 3 (.int .i64)]⟩
@[reducible] def second_Deck_Values.x0 : List (Ex × Sh) := [(.exit 0, ⟨[q18], [q2, .row 3 (.int .i64)]⟩)]
abbrev second_Deck_Values.A0 := second_Deck_Values.s0.X → Option (sumX second_Deck_Values.x0)
@[reducible] def second_Deck_Values.s1 : Sh := ⟨[q12, q9, q18, q9, q9, q9, q9, q9], [q2, .row 3 (.int .i64)]⟩
@[reducible] def second_Deck_Values.x1 : List (Ex × Sh) := [(.normal, ⟨[q12, q9, q18, q9, q9, q9, q9], [q2, .row 3 (.int .i64)]⟩)]
abbrev second_Deck_Values.A1 := second_Deck_Values.s1.X → Option (sumX second_Deck_Values.x1)
@[reducible] def second_Deck_Values.s2 : Sh := ⟨[q12, q9, q18, q9, q9, q9, q9, q9, q11], [q2, .row 3 (.int .i64)]⟩
@[reducible] def second_Deck_Values.x2 : List (Ex × Sh) := [(.normal, ⟨[q12, q9, q18, q9, q9, q9, q9], [q2, .row 3 (.int .i64)]⟩)]
abbrev second_Deck_Values.A2 := second_Deck_Values.s2.X → Option (sumX second_Deck_Values.x2)
def second_Deck_Values.hs : List Hint := [⟨[0, 1, 0, 1, 1, 1, 1], 0, [0, 1, 5, 6, 7, 8], [(2, [5])]⟩, ⟨[1, 0, 1, 0, 0, 1, 0, 0, 1, 0, 1, 1, 1, 1], 1, [0, 1, 5, 6, 7, 8, 9, 22], [(0, [0, 1, 5, 6, 7, 8, 9])]⟩, ⟨[1, 0, 1, 0, 1, 0, 0, 1, 0, 0, 1, 0, 1, 1, 1, 1], 2, [0, 1, 5, 6, 7, 8, 9, 22, 23], [(0, [0, 1, 5, 6, 7, 8, 9])]⟩]
def second_Deck_Values.E (g_second_Deck_Next : second_Deck_Next.G) (g_second_Deck_Sample : second_Deck_Sample.G) (l0 : second_Deck_Values.A0) (l1 : second_Deck_Values.A1) (l2 : second_Deck_Values.A2) : Env := ⟨T, fun n ks => bif Nat.beq n 18 && eqPath ks [] then some (second_Deck_Next.fe g_second_Deck_Next) else bif Nat.beq n 35 && eqPath ks [] then some (second_Deck_Sample.fe g_second_Deck_Sample) else none, fun n => bif Nat.beq n 0 then some (LE.of second_Deck_Values.s0 second_Deck_Values.x0 l0) else bif Nat.beq n 1 then some (LE.of second_Deck_Values.s1 second_Deck_Values.x1 l1) else bif Nat.beq n 2 then some (LE.of second_Deck_Values.s2 second_Deck_Values.x2 l2) else none, 52, 1, Gt⟩

/-! second_Deck_Measure: (*shapesearch/shapesearchsecond.Deck).Measure -/
noncomputable def second_Deck_Measure.c : Go.Code := Try.f19.body.getD .skip
@[reducible] def second_Deck_Measure.sh : Sh := ⟨[q12, q9], [q2]⟩
@[reducible] def second_Deck_Measure.osh : Sh := ⟨[q8], [q2]⟩
abbrev second_Deck_Measure.G := second_Deck_Measure.sh.X → Option second_Deck_Measure.osh.X
@[reducible] def second_Deck_Measure.fe (g : second_Deck_Measure.G) : FE := FE.of [true, true] true second_Deck_Measure.sh second_Deck_Measure.osh g
def second_Deck_Measure.hs : List Hint := []
def second_Deck_Measure.E (g_second_Deck_Next : second_Deck_Next.G) : Env := ⟨T, fun n ks => bif Nat.beq n 18 && eqPath ks [] then some (second_Deck_Next.fe g_second_Deck_Next) else none, fun n => none, 31, 1, Gt⟩

/-! second_Deck_Length: (*shapesearch/shapesearchsecond.Deck).Length -/
noncomputable def second_Deck_Length.c : Go.Code := Try.f20.body.getD .skip
@[reducible] def second_Deck_Length.sh : Sh := ⟨[q12], [q2]⟩
@[reducible] def second_Deck_Length.osh : Sh := ⟨[q9], [q2]⟩
abbrev second_Deck_Length.G := second_Deck_Length.sh.X → Option second_Deck_Length.osh.X
@[reducible] def second_Deck_Length.fe (g : second_Deck_Length.G) : FE := FE.of [true] true second_Deck_Length.sh second_Deck_Length.osh g
def second_Deck_Length.hs : List Hint := []
def second_Deck_Length.E (g_second_Deck_Next : second_Deck_Next.G) : Env := ⟨T, fun n ks => bif Nat.beq n 18 && eqPath ks [] then some (second_Deck_Next.fe g_second_Deck_Next) else none, fun n => none, 6, 1, Gt⟩

/-! ref04_Sample: shapesearch/shapesearchref04.Sample -/
noncomputable def ref04_Sample.c : Go.Code := Try.f53.body.getD .skip
@[reducible] def ref04_Sample.sh : Sh := ⟨[q9], []⟩
@[reducible] def ref04_Sample.osh : Sh := ⟨[q11], []⟩
abbrev ref04_Sample.G := ref04_Sample.sh.X → Option ref04_Sample.osh.X
@[reducible] def ref04_Sample.fe (g : ref04_Sample.G) : FE := FE.of [true] false ref04_Sample.sh ref04_Sample.osh g
def ref04_Sample.hs : List Hint := []
def ref04_Sample.E : Env := ⟨T, fun n ks => none, fun n => none, 9, 0, Gt⟩

/-! ref17_Check: shapesearch/shapesearchref17.Check -/
noncomputable def ref17_Check.c : Go.Code := Try.f32.body.getD .skip
@[reducible] def ref17_Check.sh : Sh := ⟨[q8], []⟩
@[reducible] def ref17_Check.osh : Sh := ⟨[q9], []⟩
abbrev ref17_Check.G := ref17_Check.sh.X → Option ref17_Check.osh.X
@[reducible] def ref17_Check.fe (g : ref17_Check.G) : FE := FE.of [true] false ref17_Check.sh ref17_Check.osh g
@[reducible] def ref17_Check.s0 : Sh := ⟨[q12], [q0]⟩
@[reducible] def ref17_Check.x0 : List (Ex × Sh) := [(.normal, ⟨[q11], []⟩)]
abbrev ref17_Check.A0 := ref17_Check.s0.X → Option (sumX ref17_Check.x0)
def ref17_Check.hs : List Hint := [⟨[0, 0, 1], 0, [1], [(0, [46])]⟩]
def ref17_Check.E (g_ref04_Sample : ref04_Sample.G) (l0 : ref17_Check.A0) : Env := ⟨T, fun n ks => bif Nat.beq n 53 && eqPath ks [] then some (ref04_Sample.fe g_ref04_Sample) else none, fun n => bif Nat.beq n 0 then some (LE.of ref17_Check.s0 ref17_Check.x0 l0) else none, 47, 0, Gt⟩

/-! ref12_Samples: shapesearch/shapesearchref12.Samples -/
noncomputable def ref12_Samples.c : Go.Code := Try.f85.body.getD .skip
@[reducible] def ref12_Samples.sh : Sh := ⟨[q10], []⟩
@[reducible] def ref12_Samples.osh : Sh := ⟨[q9], []⟩
abbrev ref12_Samples.G := ref12_Samples.sh.X → Option ref12_Samples.osh.X
@[reducible] def ref12_Samples.fe (g : ref12_Samples.G) : FE := FE.of [true] false ref12_Samples.sh ref12_Samples.osh g
@[reducible] def ref12_Samples.s0 : Sh := ⟨[q10, q9, q9], []⟩
@[reducible] def ref12_Samples.x0 : List (Ex × Sh) := [(.exit 0, ⟨[], []⟩), (.ret, ⟨[q9], []⟩)]
abbrev ref12_Samples.A0 := ref12_Samples.s0.X → Option (sumX ref12_Samples.x0)
def ref12_Samples.hs : List Hint := [⟨[0, 1, 0, 1], 0, [0, 5, 6], [(2, []), (1, [2])]⟩]
def ref12_Samples.E (g_ref04_Sample : ref04_Sample.G) (l0 : ref12_Samples.A0) : Env := ⟨T, fun n ks => bif Nat.beq n 53 && eqPath ks [] then some (ref04_Sample.fe g_ref04_Sample) else none, fun n => bif Nat.beq n 0 then some (LE.of ref12_Samples.s0 ref12_Samples.x0 l0) else none, 16, 0, Gt⟩

/-! ref12_Two: shapesearch/shapesearchref12.Two -/
noncomputable def ref12_Two.c : Go.Code := Try.f59.body.getD .skip
@[reducible] def ref12_Two.sh : Sh := ⟨[q10, q10, q9], []⟩
@[reducible] def ref12_Two.osh : Sh := ⟨[q9], []⟩
abbrev ref12_Two.G := ref12_Two.sh.X → Option ref12_Two.osh.X
@[reducible] def ref12_Two.fe (g : ref12_Two.G) : FE := FE.of [true, true, true] false ref12_Two.sh ref12_Two.osh g
@[reducible] def ref12_Two.s0 : Sh := ⟨[q10, q10, q9], []⟩
@[reducible] def ref12_Two.x0 : List (Ex × Sh) := [(.normal, ⟨[q10, q10, q9, q11], []⟩)]
abbrev ref12_Two.A0 := ref12_Two.s0.X → Option (sumX ref12_Two.x0)
@[reducible] def ref12_Two.s1 : Sh := ⟨[q10, q10, q9], []⟩
@[reducible] def ref12_Two.x1 : List (Ex × Sh) := [(.normal, ⟨[q10, q10, q9, q11], []⟩)]
abbrev ref12_Two.A1 := ref12_Two.s1.X → Option (sumX ref12_Two.x1)
def ref12_Two.hs : List Hint := [⟨[0, 0, 1], 0, [0, 1, 2], [(0, [0, 1, 2, 24])]⟩, ⟨[0, 0, 1, 1], 1, [0, 1, 2], [(0, [0, 1, 2, 32])]⟩]
def ref12_Two.E (g_ref12_Samples : ref12_Samples.G) (l0 : ref12_Two.A0) (l1 : ref12_Two.A1) : Env := ⟨T, fun n ks => bif Nat.beq n 85 && eqPath ks [] then some (ref12_Samples.fe g_ref12_Samples) else none, fun n => bif Nat.beq n 0 then some (LE.of ref12_Two.s0 ref12_Two.x0 l0) else bif Nat.beq n 1 then some (LE.of ref12_Two.s1 ref12_Two.x1 l1) else none, 49, 0, Gt⟩

/-! ref12_sums: shapesearch/shapesearchref12.sums -/
noncomputable def ref12_sums.c : Go.Code := Try.f60.body.getD .skip
@[reducible] def ref12_sums.sh : Sh := ⟨[q10, q10], []⟩
@[reducible] def ref12_sums.osh : Sh := ⟨[q9, q9], []⟩
abbrev ref12_sums.G := ref12_sums.sh.X → Option ref12_sums.osh.X
@[reducible] def ref12_sums.fe (g : ref12_sums.G) : FE := FE.of [true, true] false ref12_sums.sh ref12_sums.osh g
@[reducible] def ref12_sums.s0 : Sh := ⟨[q10, q10, q9, q9, q9, q9], []⟩
@[reducible] def ref12_sums.x0 : List (Ex × Sh) := [(.exit 0, ⟨[q9, q9], []⟩)]
abbrev ref12_sums.A0 := ref12_sums.s0.X → Option (sumX ref12_sums.x0)
def ref12_sums.hs : List Hint := [⟨[0, 1, 0, 1, 1], 0, [0, 1, 6, 7, 10, 11], [(2, [6, 7])]⟩]
def ref12_sums.E (l0 : ref12_sums.A0) : Env := ⟨T, fun n ks => none, fun n => bif Nat.beq n 0 then some (LE.of ref12_sums.s0 ref12_sums.x0 l0) else none, 49, 0, Gt⟩

/-! ref01_common: shapesearch/shapesearchref01.common -/
noncomputable def ref01_common.c : Go.Code := Try.f74.body.getD .skip
@[reducible] def ref01_common.sh : Sh := ⟨[q9, q9], []⟩
@[reducible] def ref01_common.osh : Sh := ⟨[q9], []⟩
abbrev ref01_common.G := ref01_common.sh.X → Option ref01_common.osh.X
@[reducible] def ref01_common.fe (g : ref01_common.G) : FE := FE.of [true, true] false ref01_common.sh ref01_common.osh g
@[reducible] def ref01_common.s0 : Sh := ⟨[q9, q9], []⟩
@[reducible] def ref01_common.x0 : List (Ex × Sh) := [(.exit 0, ⟨[q9], []⟩)]
abbrev ref01_common.A0 := ref01_common.s0.X → Option (sumX ref01_common.x0)
def ref01_common.hs : List Hint := [⟨[0, 0, 1], 0, [0, 1], [(2, [0])]⟩]
def ref01_common.E (l0 : ref01_common.A0) : Env := ⟨T, fun n ks => none, fun n => bif Nat.beq n 0 then some (LE.of ref01_common.s0 ref01_common.x0 l0) else none, 12, 0, Gt⟩

/-! ref01_Valid: shapesearch/shapesearchref01.Valid -/
noncomputable def ref01_Valid.c : Go.Code := Try.f54.body.getD .skip
@[reducible] def ref01_Valid.sh : Sh := ⟨[q7], []⟩
@[reducible] def ref01_Valid.osh : Sh := ⟨[q11], []⟩
abbrev ref01_Valid.G := ref01_Valid.sh.X → Option ref01_Valid.osh.X
@[reducible] def ref01_Valid.fe (g : ref01_Valid.G) : FE := FE.of [true] false ref01_Valid.sh ref01_Valid.osh g
@[reducible] def ref01_Valid.s0 : Sh := ⟨[q12], [q1]⟩
@[reducible] def ref01_Valid.x0 : List (Ex × Sh) := [(.normal, ⟨[q11], []⟩)]
abbrev ref01_Valid.A0 := ref01_Valid.s0.X → Option (sumX ref01_Valid.x0)
def ref01_Valid.hs : List Hint := [⟨[0, 1], 0, [1], [(0, [2])]⟩]
def ref01_Valid.E (g_ref01_common : ref01_common.G) (l0 : ref01_Valid.A0) : Env := ⟨T, fun n ks => bif Nat.beq n 74 && eqPath ks [] then some (ref01_common.fe g_ref01_common) else none, fun n => bif Nat.beq n 0 then some (LE.of ref01_Valid.s0 ref01_Valid.x0 l0) else none, 29, 0, Gt⟩

/-! ref01_Make: shapesearch/shapesearchref01.Make -/
noncomputable def ref01_Make.c : Go.Code := Try.f61.body.getD .skip
@[reducible] def ref01_Make.sh : Sh := ⟨[q9, q9], []⟩
@[reducible] def ref01_Make.osh : Sh := ⟨[q7, q9], []⟩
abbrev ref01_Make.G := ref01_Make.sh.X → Option ref01_Make.osh.X
@[reducible] def ref01_Make.fe (g : ref01_Make.G) : FE := FE.of [true, true] false ref01_Make.sh ref01_Make.osh g
@[reducible] def ref01_Make.s0 : Sh := ⟨[q9, q9, q12], [q1]⟩
@[reducible] def ref01_Make.x0 : List (Ex × Sh) := [(.normal, ⟨[q9, q9, q12, q11], [q1]⟩)]
abbrev ref01_Make.A0 := ref01_Make.s0.X → Option (sumX ref01_Make.x0)
def ref01_Make.hs : List Hint := [⟨[0, 0, 1], 0, [0, 1, 4], [(0, [0, 1, 4, 13])]⟩]
def ref01_Make.E (g_ref01_common : ref01_common.G) (g_ref01_Valid : ref01_Valid.G) (l0 : ref01_Make.A0) : Env := ⟨T, fun n ks => bif Nat.beq n 74 && eqPath ks [] then some (ref01_common.fe g_ref01_common) else bif Nat.beq n 54 && eqPath ks [] then some (ref01_Valid.fe g_ref01_Valid) else none, fun n => bif Nat.beq n 0 then some (LE.of ref01_Make.s0 ref01_Make.x0 l0) else none, 30, 0, Gt⟩

/-! ref12_Shifted: shapesearch/shapesearchref12.Shifted -/
noncomputable def ref12_Shifted.c : Go.Code := Try.f42.body.getD .skip
@[reducible] def ref12_Shifted.sh : Sh := ⟨[q10, q10], []⟩
@[reducible] def ref12_Shifted.osh : Sh := ⟨[q7, q9], []⟩
abbrev ref12_Shifted.G := ref12_Shifted.sh.X → Option ref12_Shifted.osh.X
@[reducible] def ref12_Shifted.fe (g : ref12_Shifted.G) : FE := FE.of [true, true] false ref12_Shifted.sh ref12_Shifted.osh g
def ref12_Shifted.hs : List Hint := []
def ref12_Shifted.E (g_ref12_Two : ref12_Two.G) (g_ref12_sums : ref12_sums.G) (g_ref01_Make : ref01_Make.G) : Env := ⟨T, fun n ks => bif Nat.beq n 59 && eqPath ks [] then some (ref12_Two.fe g_ref12_Two) else bif Nat.beq n 60 && eqPath ks [] then some (ref12_sums.fe g_ref12_sums) else bif Nat.beq n 61 && eqPath ks [] then some (ref01_Make.fe g_ref01_Make) else none, fun n => none, 35, 0, Gt⟩

/-! ref13_product: shapesearch/shapesearchref13.product -/
noncomputable def ref13_product.c : Go.Code := Try.f64.body.getD .skip
@[reducible] def ref13_product.sh : Sh := ⟨[q10, q10], []⟩
@[reducible] def ref13_product.osh : Sh := ⟨[q9], []⟩
abbrev ref13_product.G := ref13_product.sh.X → Option ref13_product.osh.X
@[reducible] def ref13_product.fe (g : ref13_product.G) : FE := FE.of [true, true] false ref13_product.sh ref13_product.osh g
@[reducible] def ref13_product.s0 : Sh := ⟨[q10, q10, q9, q9, q9, q9, q9], []⟩
@[reducible] def ref13_product.x0 : List (Ex × Sh) := [(.exit 0, ⟨[q10, q9, q9, q9], []⟩)]
abbrev ref13_product.A0 := ref13_product.s0.X → Option (sumX ref13_product.x0)
def ref13_product.hs : List Hint := [⟨[0, 1, 0, 1, 1], 0, [0, 1, 5, 6, 7, 10, 11], [(2, [0, 5, 6, 7])]⟩]
def ref13_product.E (l0 : ref13_product.A0) : Env := ⟨T, fun n ks => none, fun n => bif Nat.beq n 0 then some (LE.of ref13_product.s0 ref13_product.x0 l0) else none, 46, 0, Gt⟩

/-! ref13_Product: shapesearch/shapesearchref13.Product -/
noncomputable def ref13_Product.c : Go.Code := Try.f62.body.getD .skip
@[reducible] def ref13_Product.sh : Sh := ⟨[q10, q10], []⟩
@[reducible] def ref13_Product.osh : Sh := ⟨[q9, q9], []⟩
abbrev ref13_Product.G := ref13_Product.sh.X → Option ref13_Product.osh.X
@[reducible] def ref13_Product.fe (g : ref13_Product.G) : FE := FE.of [true, true] false ref13_Product.sh ref13_Product.osh g
def ref13_Product.hs : List Hint := []
def ref13_Product.E (g_ref12_Two : ref12_Two.G) (g_ref13_product : ref13_product.G) : Env := ⟨T, fun n ks => bif Nat.beq n 59 && eqPath ks [] then some (ref12_Two.fe g_ref12_Two) else bif Nat.beq n 64 && eqPath ks [] then some (ref13_product.fe g_ref13_product) else none, fun n => none, 16, 0, Gt⟩

/-! ref13_Between: shapesearch/shapesearchref13.Between -/
noncomputable def ref13_Between.c : Go.Code := Try.f63.body.getD .skip
@[reducible] def ref13_Between.sh : Sh := ⟨[q9, q9, q9], []⟩
@[reducible] def ref13_Between.osh : Sh := ⟨[q7], []⟩
abbrev ref13_Between.G := ref13_Between.sh.X → Option ref13_Between.osh.X
@[reducible] def ref13_Between.fe (g : ref13_Between.G) : FE := FE.of [true, true, true] false ref13_Between.sh ref13_Between.osh g
@[reducible] def ref13_Between.s0 : Sh := ⟨[q9, q9, q9, q12, q14], [q1, q1]⟩
@[reducible] def ref13_Between.x0 : List (Ex × Sh) := [(.normal, ⟨[q9, q9, q9, q12, q14, q11], [q1, q1]⟩)]
abbrev ref13_Between.A0 := ref13_Between.s0.X → Option (sumX ref13_Between.x0)
@[reducible] def ref13_Between.s1 : Sh := ⟨[q9, q9, q9, q12, q14], [q1, q1]⟩
@[reducible] def ref13_Between.x1 : List (Ex × Sh) := [(.normal, ⟨[q9, q9, q9, q12, q14, q11], [q1, q1]⟩)]
abbrev ref13_Between.A1 := ref13_Between.s1.X → Option (sumX ref13_Between.x1)
@[reducible] def ref13_Between.s2 : Sh := ⟨[q9, q9, q9, q12, q14], [q1, q1]⟩
@[reducible] def ref13_Between.x2 : List (Ex × Sh) := [(.normal, ⟨[q9, q9, q9, q12, q14, q11], [q1, q1]⟩)]
abbrev ref13_Between.A2 := ref13_Between.s2.X → Option (sumX ref13_Between.x2)
def ref13_Between.hs : List Hint := [⟨[0, 0, 0, 1, 1], 0, [0, 1, 2, 6, 7], [(0, [0, 1, 2, 6, 7, 9])]⟩, ⟨[0, 1, 1, 0, 0, 1, 1], 1, [0, 1, 2, 6, 7], [(0, [0, 1, 2, 6, 7, 17])]⟩, ⟨[0, 1, 1, 1, 1, 0, 0, 1, 1], 2, [0, 1, 2, 6, 7], [(0, [0, 1, 2, 6, 7, 42])]⟩]
def ref13_Between.E (g_ref01_Make : ref01_Make.G) (l0 : ref13_Between.A0) (l1 : ref13_Between.A1) (l2 : ref13_Between.A2) : Env := ⟨T, fun n ks => bif Nat.beq n 61 && eqPath ks [] then some (ref01_Make.fe g_ref01_Make) else none, fun n => bif Nat.beq n 0 then some (LE.of ref13_Between.s0 ref13_Between.x0 l0) else bif Nat.beq n 1 then some (LE.of ref13_Between.s1 ref13_Between.x1 l1) else bif Nat.beq n 2 then some (LE.of ref13_Between.s2 ref13_Between.x2 l2) else none, 64, 0, Gt⟩

/-! ref13_Gap: shapesearch/shapesearchref13.Gap -/
noncomputable def ref13_Gap.c : Go.Code := Try.f43.body.getD .skip
@[reducible] def ref13_Gap.sh : Sh := ⟨[q10, q10], []⟩
@[reducible] def ref13_Gap.osh : Sh := ⟨[q7, q9], []⟩
abbrev ref13_Gap.G := ref13_Gap.sh.X → Option ref13_Gap.osh.X
@[reducible] def ref13_Gap.fe (g : ref13_Gap.G) : FE := FE.of [true, true] false ref13_Gap.sh ref13_Gap.osh g
def ref13_Gap.hs : List Hint := []
def ref13_Gap.E (g_ref13_Product : ref13_Product.G) (g_ref13_product : ref13_product.G) (g_ref13_Between : ref13_Between.G) : Env := ⟨T, fun n ks => bif Nat.beq n 62 && eqPath ks [] then some (ref13_Product.fe g_ref13_Product) else bif Nat.beq n 64 && eqPath ks [] then some (ref13_product.fe g_ref13_product) else bif Nat.beq n 63 && eqPath ks [] then some (ref13_Between.fe g_ref13_Between) else none, fun n => none, 26, 0, Gt⟩

/-! ref12_Distance: shapesearch/shapesearchref12.Distance -/
noncomputable def ref12_Distance.c : Go.Code := Try.f44.body.getD .skip
@[reducible] def ref12_Distance.sh : Sh := ⟨[q10, q10], []⟩
@[reducible] def ref12_Distance.osh : Sh := ⟨[q9, q9], []⟩
abbrev ref12_Distance.G := ref12_Distance.sh.X → Option ref12_Distance.osh.X
@[reducible] def ref12_Distance.fe (g : ref12_Distance.G) : FE := FE.of [true, true] false ref12_Distance.sh ref12_Distance.osh g
def ref12_Distance.hs : List Hint := []
def ref12_Distance.E (g_ref12_Two : ref12_Two.G) (g_ref12_sums : ref12_sums.G) : Env := ⟨T, fun n ks => bif Nat.beq n 59 && eqPath ks [] then some (ref12_Two.fe g_ref12_Two) else bif Nat.beq n 60 && eqPath ks [] then some (ref12_sums.fe g_ref12_sums) else none, fun n => none, 22, 0, Gt⟩

/-! ref14_Check: shapesearch/shapesearchref14.Check -/
noncomputable def ref14_Check.c : Go.Code := Try.f65.body.getD .skip
@[reducible] def ref14_Check.sh : Sh := ⟨[q10, q10, q9], []⟩
@[reducible] def ref14_Check.osh : Sh := ⟨[q9], []⟩
abbrev ref14_Check.G := ref14_Check.sh.X → Option ref14_Check.osh.X
@[reducible] def ref14_Check.fe (g : ref14_Check.G) : FE := FE.of [true, true, true] false ref14_Check.sh ref14_Check.osh g
def ref14_Check.hs : List Hint := []
def ref14_Check.E (g_ref12_Two : ref12_Two.G) : Env := ⟨T, fun n ks => bif Nat.beq n 59 && eqPath ks [] then some (ref12_Two.fe g_ref12_Two) else none, fun n => none, 17, 0, Gt⟩

/-! ref14_Costs: shapesearch/shapesearchref14.Costs -/
noncomputable def ref14_Costs.c : Go.Code := Try.f67.body.getD .skip
@[reducible] def ref14_Costs.sh : Sh := ⟨[q10, q10], []⟩
@[reducible] def ref14_Costs.osh : Sh := ⟨[q16], []⟩
abbrev ref14_Costs.G := ref14_Costs.sh.X → Option ref14_Costs.osh.X
@[reducible] def ref14_Costs.fe (g : ref14_Costs.G) : FE := FE.of [true, true] true ref14_Costs.sh ref14_Costs.osh g
@[reducible] def ref14_Costs.s0 : Sh := ⟨[q10, q10, q13, q9, q9], [.grid 22 3]⟩
@[reducible] def ref14_Costs.x0 : List (Ex × Sh) := [(.exit 0, ⟨[q13], [.grid 22 3]⟩)]
abbrev ref14_Costs.A0 := ref14_Costs.s0.X → Option (sumX ref14_Costs.x0)
@[reducible] def ref14_Costs.s1 : Sh := ⟨[q10, q10, q13, q9, q9, q9, q9, q9], [.grid 22 3]⟩
@[reducible] def ref14_Costs.x1 : List (Ex × Sh) := [(.exit 2, ⟨[q10, q10, q13, q9, q9], [.grid 22 3]⟩)]
abbrev ref14_Costs.A1 := ref14_Costs.s1.X → Option (sumX ref14_Costs.x1)
def ref14_Costs.hs : List Hint := [⟨[0, 1, 0, 1, 1], 0, [0, 1, 5, 12, 13], [(2, [5])]⟩, ⟨[0, 1, 1, 0, 0, 1, 1, 0, 0, 1, 0, 1, 1], 1, [0, 1, 5, 6, 12, 13, 17, 18], [(4, [0, 1, 5, 12, 13])]⟩]
def ref14_Costs.E (l0 : ref14_Costs.A0) (l1 : ref14_Costs.A1) : Env := ⟨T, fun n ks => none, fun n => bif Nat.beq n 0 then some (LE.of ref14_Costs.s0 ref14_Costs.x0 l0) else bif Nat.beq n 1 then some (LE.of ref14_Costs.s1 ref14_Costs.x1 l1) else none, 52, 0, Gt⟩

/-! ref14_out: shapesearch/shapesearchref14.out -/
noncomputable def ref14_out.c : Go.Code := Try.f86.body.getD .skip
@[reducible] def ref14_out.sh : Sh := ⟨[q9, q9, q9, q9, q9], []⟩
@[reducible] def ref14_out.osh : Sh := ⟨[q11], []⟩
abbrev ref14_out.G := ref14_out.sh.X → Option ref14_out.osh.X
@[reducible] def ref14_out.fe (g : ref14_out.G) : FE := FE.of [true, true, true, true, true] false ref14_out.sh ref14_out.osh g
@[reducible] def ref14_out.s0 : Sh := ⟨[q9, q9, q9, q9, q9], []⟩
@[reducible] def ref14_out.x0 : List (Ex × Sh) := [(.normal, ⟨[q11], []⟩)]
abbrev ref14_out.A0 := ref14_out.s0.X → Option (sumX ref14_out.x0)
def ref14_out.hs : List Hint := [⟨[0, 1], 0, [0, 1, 2, 3, 4], [(0, [10])]⟩]
def ref14_out.E (l0 : ref14_out.A0) : Env := ⟨T, fun n ks => none, fun n => bif Nat.beq n 0 then some (LE.of ref14_out.s0 ref14_out.x0 l0) else none, 41, 0, Gt⟩

/-! ref14_At: shapesearch/shapesearchref14.At -/
noncomputable def ref14_At.c : Go.Code := Try.f88.body.getD .skip
@[reducible] def ref14_At.sh : Sh := ⟨[q16, q9, q9, q9], []⟩
@[reducible] def ref14_At.osh : Sh := ⟨[q9], []⟩
abbrev ref14_At.G := ref14_At.sh.X → Option ref14_At.osh.X
@[reducible] def ref14_At.fe (g : ref14_At.G) : FE := FE.of [true, true, true, true] false ref14_At.sh ref14_At.osh g
def ref14_At.hs : List Hint := []
def ref14_At.E (g_ref14_out : ref14_out.G) : Env := ⟨T, fun n ks => bif Nat.beq n 86 && eqPath ks [] then some (ref14_out.fe g_ref14_out) else none, fun n => none, 31, 0, Gt⟩

/-! ref14_Before: shapesearch/shapesearchref14.Before -/
noncomputable def ref14_Before.c : Go.Code := Try.f87.body.getD .skip
@[reducible] def ref14_Before.sh : Sh := ⟨[q16, q9, q9, q9], []⟩
@[reducible] def ref14_Before.osh : Sh := ⟨[q7], []⟩
abbrev ref14_Before.G := ref14_Before.sh.X → Option ref14_Before.osh.X
@[reducible] def ref14_Before.fe (g : ref14_Before.G) : FE := FE.of [true, true, true, true] false ref14_Before.sh ref14_Before.osh g
@[reducible] def ref14_Before.s0 : Sh := ⟨[q16, q9, q12, q14, .agg [.pv (.int .i64), .pv (.int .i64), .pv (.int .i64), .pv (.int .i64)], q9], [q1, q1]⟩
@[reducible] def ref14_Before.x0 : List (Ex × Sh) := [(.exit 0, ⟨[q12, q14], [q1, q1]⟩)]
abbrev ref14_Before.A0 := ref14_Before.s0.X → Option (sumX ref14_Before.x0)
def ref14_Before.hs : List Hint := [⟨[0, 1, 0, 1, 1], 0, [0, 1, 8, 9, 25, 26], [(2, [8, 9])]⟩]
def ref14_Before.E (g_ref14_At : ref14_At.G) (l0 : ref14_Before.A0) : Env := ⟨T, fun n ks => bif Nat.beq n 88 && eqPath ks [] then some (ref14_At.fe g_ref14_At) else none, fun n => bif Nat.beq n 0 then some (LE.of ref14_Before.s0 ref14_Before.x0 l0) else none, 47, 0, Gt⟩

/-! ref14_Fill: shapesearch/shapesearchref14.Fill -/
noncomputable def ref14_Fill.c : Go.Code := Try.f66.body.getD .skip
@[reducible] def ref14_Fill.sh : Sh := ⟨[q16, q9], []⟩
@[reducible] def ref14_Fill.osh : Sh := ⟨[q16], []⟩
abbrev ref14_Fill.G := ref14_Fill.sh.X → Option ref14_Fill.osh.X
@[reducible] def ref14_Fill.fe (g : ref14_Fill.G) : FE := FE.of [true, true] true ref14_Fill.sh ref14_Fill.osh g
@[reducible] def ref14_Fill.s0 : Sh := ⟨[q16, q9, q13, q9, q9], [.grid 22 3]⟩
@[reducible] def ref14_Fill.x0 : List (Ex × Sh) := [(.exit 0, ⟨[q16, q9, q13], [.grid 22 3]⟩)]
abbrev ref14_Fill.A0 := ref14_Fill.s0.X → Option (sumX ref14_Fill.x0)
@[reducible] def ref14_Fill.s1 : Sh := ⟨[q16, q9, q13, q9, q9], [.grid 22 3]⟩
@[reducible] def ref14_Fill.x1 : List (Ex × Sh) := [(.exit 2, ⟨[q13], [.grid 22 3]⟩)]
abbrev ref14_Fill.A1 := ref14_Fill.s1.X → Option (sumX ref14_Fill.x1)
@[reducible] def ref14_Fill.s2 : Sh := ⟨[q16, q9, q13, q9, q9, q9, q9, q9], [.grid 22 3]⟩
@[reducible] def ref14_Fill.x2 : List (Ex × Sh) := [(.exit 4, ⟨[q16, q9, q13, q9, q9], [.grid 22 3]⟩)]
abbrev ref14_Fill.A2 := ref14_Fill.s2.X → Option (sumX ref14_Fill.x2)
def ref14_Fill.hs : List Hint := [⟨[0, 1, 0, 1, 1], 0, [0, 1, 5, 14, 15], [(2, [0, 1, 5])]⟩, ⟨[0, 1, 0, 1, 1, 1], 1, [0, 1, 5, 29, 30], [(4, [5])]⟩, ⟨[0, 1, 1, 0, 0, 1, 1, 0, 0, 1, 0, 1, 1, 1], 2, [0, 1, 5, 7, 29, 30, 37, 38], [(6, [0, 1, 5, 29, 30])]⟩]
def ref14_Fill.E (g_ref14_out : ref14_out.G) (g_ref14_Before : ref14_Before.G) (g_ref14_At : ref14_At.G) (l0 : ref14_Fill.A0) (l1 : ref14_Fill.A1) (l2 : ref14_Fill.A2) : Env := ⟨T, fun n ks => bif Nat.beq n 86 && eqPath ks [] then some (ref14_out.fe g_ref14_out) else bif Nat.beq n 87 && eqPath ks [] then some (ref14_Before.fe g_ref14_Before) else bif Nat.beq n 88 && eqPath ks [] then some (ref14_At.fe g_ref14_At) else none, fun n => bif Nat.beq n 0 then some (LE.of ref14_Fill.s0 ref14_Fill.x0 l0) else bif Nat.beq n 1 then some (LE.of ref14_Fill.s1 ref14_Fill.x1 l1) else bif Nat.beq n 2 then some (LE.of ref14_Fill.s2 ref14_Fill.x2 l2) else none, 93, 0, Gt⟩

/-! ref14_Distance: shapesearch/shapesearchref14.Distance -/
noncomputable def ref14_Distance.c : Go.Code := Try.f45.body.getD .skip
@[reducible] def ref14_Distance.sh : Sh := ⟨[q10, q10, q9], []⟩
@[reducible] def ref14_Distance.osh : Sh := ⟨[q9, q9], []⟩
abbrev ref14_Distance.G := ref14_Distance.sh.X → Option ref14_Distance.osh.X
@[reducible] def ref14_Distance.fe (g : ref14_Distance.G) : FE := FE.of [true, true, true] false ref14_Distance.sh ref14_Distance.osh g
def ref14_Distance.hs : List Hint := []
def ref14_Distance.E (g_ref14_Check : ref14_Check.G) (g_ref14_Costs : ref14_Costs.G) (g_ref14_Fill : ref14_Fill.G) : Env := ⟨T, fun n ks => bif Nat.beq n 65 && eqPath ks [] then some (ref14_Check.fe g_ref14_Check) else bif Nat.beq n 67 && eqPath ks [] then some (ref14_Costs.fe g_ref14_Costs) else bif Nat.beq n 66 && eqPath ks [] then some (ref14_Fill.fe g_ref14_Fill) else none, fun n => none, 31, 0, Gt⟩

/-! ref15_check: shapesearch/shapesearchref15.check -/
noncomputable def ref15_check.c : Go.Code := Try.f68.body.getD .skip
@[reducible] def ref15_check.sh : Sh := ⟨[q10, q10, q9], []⟩
@[reducible] def ref15_check.osh : Sh := ⟨[q9], []⟩
abbrev ref15_check.G := ref15_check.sh.X → Option ref15_check.osh.X
@[reducible] def ref15_check.fe (g : ref15_check.G) : FE := FE.of [true, true, true] false ref15_check.sh ref15_check.osh g
def ref15_check.hs : List Hint := []
def ref15_check.E (g_ref04_Sample : ref04_Sample.G) (g_ref12_Two : ref12_Two.G) : Env := ⟨T, fun n ks => bif Nat.beq n 53 && eqPath ks [] then some (ref04_Sample.fe g_ref04_Sample) else bif Nat.beq n 59 && eqPath ks [] then some (ref12_Two.fe g_ref12_Two) else none, fun n => none, 13, 0, Gt⟩

/-! ref15_Abs: shapesearch/shapesearchref15.Abs -/
noncomputable def ref15_Abs.c : Go.Code := Try.f89.body.getD .skip
@[reducible] def ref15_Abs.sh : Sh := ⟨[q9], []⟩
@[reducible] def ref15_Abs.osh : Sh := ⟨[q9], []⟩
abbrev ref15_Abs.G := ref15_Abs.sh.X → Option ref15_Abs.osh.X
@[reducible] def ref15_Abs.fe (g : ref15_Abs.G) : FE := FE.of [true] false ref15_Abs.sh ref15_Abs.osh g
def ref15_Abs.hs : List Hint := []
def ref15_Abs.E : Env := ⟨T, fun n ks => none, fun n => none, 7, 0, Gt⟩

/-! ref15_table: shapesearch/shapesearchref15.table -/
noncomputable def ref15_table.c : Go.Code := Try.f69.body.getD .skip
@[reducible] def ref15_table.sh : Sh := ⟨[q10, q10, q9], []⟩
@[reducible] def ref15_table.osh : Sh := ⟨[q16], []⟩
abbrev ref15_table.G := ref15_table.sh.X → Option ref15_table.osh.X
@[reducible] def ref15_table.fe (g : ref15_table.G) : FE := FE.of [true, true, true] true ref15_table.sh ref15_table.osh g
@[reducible] def ref15_table.s0 : Sh := ⟨[q10, q10, q9, q13, q9, q9], [.grid 22 3]⟩
@[reducible] def ref15_table.x0 : List (Ex × Sh) := [(.exit 0, ⟨[q13], [.grid 22 3]⟩)]
abbrev ref15_table.A0 := ref15_table.s0.X → Option (sumX ref15_table.x0)
@[reducible] def ref15_table.s1 : Sh := ⟨[q10, q10, q9, q13, q9, q9, q9, q9, q9], [.grid 22 3]⟩
@[reducible] def ref15_table.x1 : List (Ex × Sh) := [(.exit 2, ⟨[q10, q10, q9, q13, q9, q9], [.grid 22 3]⟩)]
abbrev ref15_table.A1 := ref15_table.s1.X → Option (sumX ref15_table.x1)
@[reducible] def ref15_table.s2 : Sh := ⟨[q10, q10, q9, q13, q9, q9, q9, q9, q9, q9, q9], [.grid 22 3]⟩
@[reducible] def ref15_table.x2 : List (Ex × Sh) := [(.normal, ⟨[q10, q10, q9, q13, q9, q9, q9, q9, q9, q9, q9, q11], [.grid 22 3]⟩)]
abbrev ref15_table.A2 := ref15_table.s2.X → Option (sumX ref15_table.x2)
@[reducible] def ref15_table.s3 : Sh := ⟨[q10, q10, q9, q13, q9, q9, q9, q9, q9, q9, q9, q11], [.grid 22 3]⟩
@[reducible] def ref15_table.x3 : List (Ex × Sh) := [(.normal, ⟨[q10, q10, q9, q13, q9, q9, q9, q9, q9, q9, q9], [.grid 22 3]⟩)]
abbrev ref15_table.A3 := ref15_table.s3.X → Option (sumX ref15_table.x3)
def ref15_table.hs : List Hint := [⟨[0, 1, 0, 1, 1], 0, [0, 1, 2, 7, 16, 17], [(2, [7])]⟩, ⟨[0, 1, 1, 1, 0, 0, 1, 1, 0, 0, 1, 0, 1, 1], 1, [0, 1, 2, 7, 8, 16, 17, 31, 32], [(4, [0, 1, 2, 7, 16, 17])]⟩, ⟨[0, 0, 1, 1, 1, 0, 0, 1, 1, 0, 0, 1, 1, 1, 0, 0, 1, 1, 0, 0, 1, 0, 1, 1], 2, [0, 1, 2, 7, 8, 9, 10, 16, 17, 31, 32], [(0, [0, 1, 2, 7, 8, 9, 10, 16, 17, 31, 32, 44])]⟩, ⟨[1, 0, 1, 1, 1, 0, 0, 1, 1, 0, 0, 1, 1, 1, 0, 0, 1, 1, 0, 0, 1, 0, 1, 1], 3, [0, 1, 2, 7, 8, 9, 10, 16, 17, 31, 32, 44], [(0, [0, 1, 2, 7, 8, 9, 10, 16, 17, 31, 32])]⟩]
def ref15_table.E (g_ref15_Abs : ref15_Abs.G) (l0 : ref15_table.A0) (l1 : ref15_table.A1) (l2 : ref15_table.A2) (l3 : ref15_table.A3) : Env := ⟨T, fun n ks => bif Nat.beq n 89 && eqPath ks [] then some (ref15_Abs.fe g_ref15_Abs) else none, fun n => bif Nat.beq n 0 then some (LE.of ref15_table.s0 ref15_table.x0 l0) else bif Nat.beq n 1 then some (LE.of ref15_table.s1 ref15_table.x1 l1) else bif Nat.beq n 2 then some (LE.of ref15_table.s2 ref15_table.x2 l2) else bif Nat.beq n 3 then some (LE.of ref15_table.s3 ref15_table.x3 l3) else none, 119, 0, Gt⟩

/-! ref15_Distance: shapesearch/shapesearchref15.Distance -/
noncomputable def ref15_Distance.c : Go.Code := Try.f46.body.getD .skip
@[reducible] def ref15_Distance.sh : Sh := ⟨[q10, q10, q9], []⟩
@[reducible] def ref15_Distance.osh : Sh := ⟨[q9, q9], []⟩
abbrev ref15_Distance.G := ref15_Distance.sh.X → Option ref15_Distance.osh.X
@[reducible] def ref15_Distance.fe (g : ref15_Distance.G) : FE := FE.of [true, true, true] false ref15_Distance.sh ref15_Distance.osh g
def ref15_Distance.hs : List Hint := []
def ref15_Distance.E (g_ref15_check : ref15_check.G) (g_ref15_table : ref15_table.G) : Env := ⟨T, fun n ks => bif Nat.beq n 68 && eqPath ks [] then some (ref15_check.fe g_ref15_check) else bif Nat.beq n 69 && eqPath ks [] then some (ref15_table.fe g_ref15_table) else none, fun n => none, 28, 0, Gt⟩

/-! ref17_Distance: shapesearch/shapesearchref17.Distance -/
noncomputable def ref17_Distance.c : Go.Code := Try.f23.body.getD .skip
@[reducible] def ref17_Distance.sh : Sh := ⟨[q8, q10, q10], []⟩
@[reducible] def ref17_Distance.osh : Sh := ⟨[q7, q9], []⟩
abbrev ref17_Distance.G := ref17_Distance.sh.X → Option ref17_Distance.osh.X
@[reducible] def ref17_Distance.fe (g : ref17_Distance.G) : FE := FE.of [true, true, true] false ref17_Distance.sh ref17_Distance.osh g
def ref17_Distance.hs : List Hint := []
def ref17_Distance.E (g_ref17_Check : ref17_Check.G) (g_ref12_Shifted : ref12_Shifted.G) (g_ref13_Gap : ref13_Gap.G) (g_ref12_Distance : ref12_Distance.G) (g_ref14_Distance : ref14_Distance.G) (g_ref15_Distance : ref15_Distance.G) : Env := ⟨T, fun n ks => bif Nat.beq n 32 && eqPath ks [] then some (ref17_Check.fe g_ref17_Check) else bif Nat.beq n 42 && eqPath ks [] then some (ref12_Shifted.fe g_ref12_Shifted) else bif Nat.beq n 43 && eqPath ks [] then some (ref13_Gap.fe g_ref13_Gap) else bif Nat.beq n 44 && eqPath ks [] then some (ref12_Distance.fe g_ref12_Distance) else bif Nat.beq n 45 && eqPath ks [] then some (ref14_Distance.fe g_ref14_Distance) else bif Nat.beq n 46 && eqPath ks [] then some (ref15_Distance.fe g_ref15_Distance) else none, fun n => none, 65, 0, Gt⟩

/-! law37_ProfileNearest: shapesearch/shapesearchlaw37.ProfileNearest -/
noncomputable def law37_ProfileNearest.c : Go.Code := Try.f4.body.getD .skip
@[reducible] def law37_ProfileNearest.sh : Sh := ⟨[q10], []⟩
@[reducible] def law37_ProfileNearest.osh : Sh := ⟨[q11], []⟩
abbrev law37_ProfileNearest.G := law37_ProfileNearest.sh.X → Option law37_ProfileNearest.osh.X
@[reducible] def law37_ProfileNearest.fe (g : law37_ProfileNearest.G) : FE := FE.of [true] false law37_ProfileNearest.sh law37_ProfileNearest.osh g
@[reducible] def law37_ProfileNearest.s0 : Sh := ⟨[q13, q14, q9, q9, q17, q9, q19, q9], [.row 3 (.int .i64), q0, q3, .row 4 .bool, .row 31 (.pair (.int .i64) (.pair (.int .i64) (.int .i64))), .row 31 (.pair (.int .i64) (.pair (.int .i64) (.int .i64))), .row 31 (.pair (.int .i64) (.pair (.int .i64) (.int .i64)))]⟩
@[reducible] def law37_ProfileNearest.x0 : List (Ex × Sh) := [(.normal, ⟨[q13, q14, q9, q9, q17, q19, q11], [.row 3 (.int .i64), q0, q3, .row 4 .bool, .row 31 (.pair (.int .i64) (.pair (.int .i64) (.int .i64))), .row 31 (.pair (.int .i64) (.pair (.int .i64) (.int .i64))), .row 31 (.pair (.int .i64) (.pair (.int .i64) (.int .i64)))]⟩)]
abbrev law37_ProfileNearest.A0 := law37_ProfileNearest.s0.X → Option (sumX law37_ProfileNearest.x0)
@[reducible] def law37_ProfileNearest.s1 : Sh := ⟨[q13, q14, q9, q9, q17, q19, q9], [.row 3 (.int .i64), q0, q3, .row 4 .bool, .row 31 (.pair (.int .i64) (.pair (.int .i64) (.int .i64))), .row 31 (.pair (.int .i64) (.pair (.int .i64) (.int .i64))), .row 31 (.pair (.int .i64) (.pair (.int .i64) (.int .i64)))]⟩
@[reducible] def law37_ProfileNearest.x1 : List (Ex × Sh) := [(.exit 0, ⟨[], []⟩), (.ret, ⟨[q11], []⟩)]
abbrev law37_ProfileNearest.A1 := law37_ProfileNearest.s1.X → Option (sumX law37_ProfileNearest.x1)
@[reducible] def law37_ProfileNearest.s2 : Sh := ⟨[q13, q14, q9, q9, q17, q19, q9, q11, q9], [.row 3 (.int .i64), q0, q3, .row 4 .bool, .row 31 (.pair (.int .i64) (.pair (.int .i64) (.int .i64))), .row 31 (.pair (.int .i64) (.pair (.int .i64) (.int .i64))), .row 31 (.pair (.int .i64) (.pair (.int .i64) (.int .i64)))]⟩
@[reducible] def law37_ProfileNearest.x2 : List (Ex × Sh) := [(.exit 2, ⟨[q13, q14, q9, q9, q17, q19, q9, q11], [.row 3 (.int .i64), q0, q3, .row 4 .bool, .row 31 (.pair (.int .i64) (.pair (.int .i64) (.int .i64))), .row 31 (.pair (.int .i64) (.pair (.int .i64) (.int .i64))), .row 31 (.pair (.int .i64) (.pair (.int .i64) (.int .i64)))]⟩), (.ret, ⟨[q11], []⟩)]
abbrev law37_ProfileNearest.A2 := law37_ProfileNearest.s2.X → Option (sumX law37_ProfileNearest.x2)
@[reducible] def law37_ProfileNearest.s3 : Sh := ⟨[q13, q14, q9, q9, q17, q19, q9, q11, q9], [.row 3 (.int .i64), q0, q3, .row 4 .bool, .row 31 (.pair (.int .i64) (.pair (.int .i64) (.int .i64))), .row 31 (.pair (.int .i64) (.pair (.int .i64) (.int .i64))), .row 31 (.pair (.int .i64) (.pair (.int .i64) (.int .i64)))]⟩
@[reducible] def law37_ProfileNearest.x3 : List (Ex × Sh) := [(.normal, ⟨[q13, q14, q9, q9, q17, q19, q9, q11, q9, q11], [.row 3 (.int .i64), q0, q3, .row 4 .bool, .row 31 (.pair (.int .i64) (.pair (.int .i64) (.int .i64))), .row 31 (.pair (.int .i64) (.pair (.int .i64) (.int .i64))), .row 31 (.pair (.int .i64) (.pair (.int .i64) (.int .i64)))]⟩)]
abbrev law37_ProfileNearest.A3 := law37_ProfileNearest.s3.X → Option (sumX law37_ProfileNearest.x3)
@[reducible] def law37_ProfileNearest.s4 : Sh := ⟨[q13, q14, q9, q9, q17, q19, q9, q11, q9, q9, .one (.is (.ptr 4 0 0))], [.row 3 (.int .i64), q0, .box [.pv (.int .i64), .pv (.int .i64), .pv (.int .i64), .pv (.int .i64), .pv (.int .i64), .is (.own 5), .is (.own 6), .is (.own 7)], .row 4 .bool, q0, .row 31 (.pair (.int .i64) (.pair (.int .i64) (.int .i64))), .row 31 (.pair (.int .i64) (.pair (.int .i64) (.int .i64))), .row 31 (.pair (.int .i64) (.pair (.int .i64) (.int .i64)))]⟩
@[reducible] def law37_ProfileNearest.x4 : List (Ex × Sh) := [(.normal, ⟨[q13, q14, q9, q9, q17, q19, q9, q11, q9, q11], [.row 3 (.int .i64), q0, q3, .row 4 .bool, .row 31 (.pair (.int .i64) (.pair (.int .i64) (.int .i64))), .row 31 (.pair (.int .i64) (.pair (.int .i64) (.int .i64))), .row 31 (.pair (.int .i64) (.pair (.int .i64) (.int .i64)))]⟩)]
abbrev law37_ProfileNearest.A4 := law37_ProfileNearest.s4.X → Option (sumX law37_ProfileNearest.x4)
def law37_ProfileNearest.hs : List Hint := [⟨[0, 0, 1, 1, 1, 1, 1, 1, 1], 0, [4, 5, 6, 7, 8, 9, 10, 11], [(0, [4, 5, 6, 7, 8, 10, 83])]⟩, ⟨[0, 1, 0, 1, 1, 1, 1, 1, 1, 1, 1], 1, [4, 5, 6, 7, 8, 10, 12], [(2, []), (1, [2])]⟩, ⟨[0, 1, 0, 1, 0, 0, 1, 0, 0, 1, 0, 1, 1, 1, 1, 1, 1, 1, 1], 2, [4, 5, 6, 7, 8, 10, 12, 13, 14], [(4, [4, 5, 6, 7, 8, 10, 12, 13]), (1, [2])]⟩, ⟨[0, 0, 0, 0, 1, 0, 0, 1, 0, 1, 0, 0, 1, 0, 0, 1, 0, 1, 1, 1, 1, 1, 1, 1, 1], 3, [4, 5, 6, 7, 8, 10, 12, 13, 14], [(0, [4, 5, 6, 7, 8, 10, 12, 13, 14, 121])]⟩, ⟨[0, 1, 1, 1, 1, 0, 0, 1, 0, 0, 1, 0, 1, 0, 0, 1, 0, 0, 1, 0, 1, 1, 1, 1, 1, 1, 1, 1], 4, [4, 5, 6, 7, 8, 10, 12, 13, 14, 16, 17], [(0, [4, 5, 6, 7, 8, 10, 12, 13, 14, 199])]⟩]
def law37_ProfileNearest.E (g_second_Few : second_Few.G) (g_law37_awake : law37_awake.G) (g_second_New : second_New.G) (g_second_Deck_Next : second_Deck_Next.G) (g_second_Deck_Values : second_Deck_Values.G) (g_second_Deck_Measure : second_Deck_Measure.G) (g_second_Deck_Length : second_Deck_Length.G) (g_profile_Of : profile_Of.G) (g_profile_Windows : profile_Windows.G) (g_profile_Valid : profile_Valid.G) (g_ref17_Distance : ref17_Distance.G) (g_profile_Nearer : profile_Nearer.G) (l0 : law37_ProfileNearest.A0) (l1 : law37_ProfileNearest.A1) (l2 : law37_ProfileNearest.A2) (l3 : law37_ProfileNearest.A3) (l4 : law37_ProfileNearest.A4) : Env := ⟨T, fun n ks => bif Nat.beq n 8 && eqPath ks [] then some (second_Few.fe g_second_Few) else bif Nat.beq n 9 && eqPath ks [] then some (law37_awake.fe g_law37_awake) else bif Nat.beq n 10 && eqPath ks [] then some (second_New.fe g_second_New) else bif Nat.beq n 18 && eqPath ks [] then some (second_Deck_Next.fe g_second_Deck_Next) else bif Nat.beq n 17 && eqPath ks [] then some (second_Deck_Values.fe g_second_Deck_Values) else bif Nat.beq n 19 && eqPath ks [] then some (second_Deck_Measure.fe g_second_Deck_Measure) else bif Nat.beq n 20 && eqPath ks [] then some (second_Deck_Length.fe g_second_Deck_Length) else bif Nat.beq n 21 && eqPath ks [] then some (profile_Of.fe g_profile_Of) else bif Nat.beq n 22 && eqPath ks [] then some (profile_Windows.fe g_profile_Windows) else bif Nat.beq n 13 && eqPath ks [] then some (profile_Valid.fe g_profile_Valid) else bif Nat.beq n 23 && eqPath ks [] then some (ref17_Distance.fe g_ref17_Distance) else bif Nat.beq n 15 && eqPath ks [] then some (profile_Nearer.fe g_profile_Nearer) else none, fun n => bif Nat.beq n 0 then some (LE.of law37_ProfileNearest.s0 law37_ProfileNearest.x0 l0) else bif Nat.beq n 1 then some (LE.of law37_ProfileNearest.s1 law37_ProfileNearest.x1 l1) else bif Nat.beq n 2 then some (LE.of law37_ProfileNearest.s2 law37_ProfileNearest.x2 l2) else bif Nat.beq n 3 then some (LE.of law37_ProfileNearest.s3 law37_ProfileNearest.x3 l3) else bif Nat.beq n 4 then some (LE.of law37_ProfileNearest.s4 law37_ProfileNearest.x4 l4) else none, 210, 0, Gt⟩
end Go.Proofs.Ytefcciajemkicaa.V
