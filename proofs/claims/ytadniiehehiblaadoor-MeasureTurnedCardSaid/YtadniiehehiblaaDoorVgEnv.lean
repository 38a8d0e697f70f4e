import Derived.Test.YtadniiehehiblaaDoorProg
import Derived.KernelRfl
import Derived.Test.YtadniiehehiblaaDoorViC
set_option linter.unusedVariables false
namespace Go.Proofs.YtadniiehehiblaaDoor.V
open Go.VI
def T : Tb := [(3, ⟨.int .i64, 1, 8, some (.int .i64), true, false⟩),
  (4, ⟨.bool, 1, 1, some .bool, true, false⟩),
  (5, ⟨.int .u8, 1, 1, some (.int .u8), true, false⟩),
  (9, ⟨.str, 1, 16, some .str, true, false⟩),
  (20, ⟨.err, 1, 16, some (.err 32), false, false⟩),
  (22, ⟨.slice 3, 1, 24, some (.list (.int .i64)), false, false⟩),
  (23, ⟨.ptr 51, 1, 8, none, false, false⟩),
  (25, ⟨.struct [(0, 3), (1, 3), (2, 3)], 3, 24, some (.pair (.int .i64) (.pair (.int .i64) (.int .i64))), true, false⟩),
  (26, ⟨.struct [(0, 3), (1, 3), (2, 3)], 3, 24, some (.pair (.int .i64) (.pair (.int .i64) (.int .i64))), true, false⟩),
  (30, ⟨.struct [(0, 3), (1, 3)], 2, 16, some (.pair (.int .i64) (.int .i64)), true, false⟩),
  (31, ⟨.struct [(0, 3), (1, 3)], 2, 16, some (.pair (.int .i64) (.int .i64)), true, false⟩),
  (32, ⟨.int .i64, 1, 8, some (.int .i64), true, false⟩),
  (50, ⟨.struct [(0, 22), (1, 3)], 2, 32, some (.pair (.list (.int .i64)) (.int .i64)), false, false⟩),
  (51, ⟨.struct [(0, 22), (1, 3)], 2, 32, some (.pair (.list (.int .i64)) (.int .i64)), false, false⟩),
  (55, ⟨.fn, 1, 8, none, false, false⟩),
  (56, ⟨.fn, 1, 8, none, false, false⟩),
  (57, ⟨.map 3 56, 1, 8, none, false, false⟩),
  (64, ⟨.err, 1, 16, some (.err 32), false, false⟩),
  (65, ⟨.err, 1, 16, some (.err 32), false, false⟩),
  (80, ⟨.arr 33 3, 33, 264, none, false, true⟩),
  (81, ⟨.arr 33 80, 1089, 8712, none, false, true⟩),
  (82, ⟨.arr 33 80, 1089, 8712, none, false, true⟩),
  (93, ⟨.int .u64, 1, 8, some (.int .u64), true, false⟩),
  (100, ⟨.int .u64, 1, 8, some (.int .u64), true, false⟩),
  (112, ⟨.struct [(0, 3), (1, 3), (2, 3)], 3, 24, some (.pair (.int .i64) (.pair (.int .i64) (.int .i64))), true, false⟩),
  (113, ⟨.struct [(0, 3), (1, 3), (2, 3)], 3, 24, some (.pair (.int .i64) (.pair (.int .i64) (.int .i64))), true, false⟩)]
theorem tb : tbOk Go.Proofs.Tryd.prog T = true := by kernel_rfl
def Gt : Nat → Option (Go.IntKind × List Int) := fun g => bif Nat.beq g 3 then some (.u64, [(1 : Int), 10, 100, 1000, 10000, 100000, 1000000, 10000000, 100000000, 1000000000, 10000000000, 100000000000, 1000000000000, 10000000000000, 100000000000000, 1000000000000000, 10000000000000000, 100000000000000000, 1000000000000000000, 10000000000000000000]) else none
def TabsOk (tabs : List (Nat × Go.Obj)) : Prop := TabHas tabs 3 .u64 [(1 : Int), 10, 100, 1000, 10000, 100000, 1000000, 10000000, 100000000, 1000000000, 10000000000, 100000000000, 1000000000000, 10000000000000, 100000000000000, 1000000000000000, 10000000000000000, 100000000000000000, 1000000000000000000, 10000000000000000000] ∧ ErrHas tabs 1 ∧ ErrHas tabs 2 ∧ True
theorem gt_ok {tabs : List (Nat × Go.Obj)} (ht : TabsOk tabs) : ∀ g k zs, Gt g = some (k, zs) → TabHas tabs g k zs := by
  intro g k zs h
  unfold Gt at h
  obtain ⟨h3, _⟩ := ht
  cases hb : Nat.beq g 3 with
  | true => rw [hb] at h; obtain rfl := Nat.eq_of_beq_eq_true hb; cases h; exact h3
  | false =>
  rw [hb] at h
  cases h

/-! keep_New: shapesearch/shapesearchkeep.New -/
noncomputable def keep_New.c : Go.Code := Go.Proofs.Tryd.f8.body.getD .skip
@[reducible] def keep_New.sh : Sh := ⟨[.one (.pv (.list (.int .i64)))], []⟩
@[reducible] def keep_New.osh : Sh := ⟨[.one (.is (.ptr 0 0 0))], [.box [.pv (.list (.int .i64)), .pv (.int .i64)]]⟩
def keep_New.hs : List Hint := []
def keep_New.E : Env := ⟨T, fun n ks => none, fun n => none, 10, 0, Gt⟩

/-! keep_Src_Raw: (*shapesearch/shapesearchkeep.Src).Raw -/
noncomputable def keep_Src_Raw.c : Go.Code := Go.Proofs.Tryd.f38.body.getD .skip
@[reducible] def keep_Src_Raw.sh : Sh := ⟨[.one (.is (.ptr 0 0 0))], [.box [.pv (.list (.int .i64)), .pv (.int .i64)]]⟩
@[reducible] def keep_Src_Raw.osh : Sh := ⟨[.one (.pv (.int .i64))], [.box [.pv (.list (.int .i64)), .pv (.int .i64)]]⟩
def keep_Src_Raw.hs : List Hint := []
def keep_Src_Raw.E : Env := ⟨T, fun n ks => none, fun n => none, 31, 1, Gt⟩

/-! keep_Mod: shapesearch/shapesearchkeep.Mod -/
noncomputable def keep_Mod.c : Go.Code := Go.Proofs.Tryd.f37.body.getD .skip
@[reducible] def keep_Mod.sh : Sh := ⟨[.one (.pv (.int .i64)), .one (.pv (.int .i64))], []⟩
@[reducible] def keep_Mod.osh : Sh := ⟨[.one (.pv (.int .i64))], []⟩
def keep_Mod.hs : List Hint := []
def keep_Mod.E : Env := ⟨T, fun n ks => none, fun n => none, 16, 0, Gt⟩

/-! keep_Src_N: (*shapesearch/shapesearchkeep.Src).N -/
noncomputable def keep_Src_N.c : Go.Code := Go.Proofs.Tryd.f24.body.getD .skip
@[reducible] def keep_Src_N.sh : Sh := ⟨[.one (.is (.ptr 0 0 0)), .one (.pv (.int .i64))], [.box [.pv (.list (.int .i64)), .pv (.int .i64)]]⟩
@[reducible] def keep_Src_N.osh : Sh := ⟨[.one (.pv (.int .i64))], [.box [.pv (.list (.int .i64)), .pv (.int .i64)]]⟩
def keep_Src_N.hs : List Hint := []
def keep_Src_N.E (g_keep_Src_Raw : keep_Src_Raw.sh.X → Option keep_Src_Raw.osh.X) (g_keep_Mod : keep_Mod.sh.X → Option keep_Mod.osh.X) : Env := ⟨T, fun n ks => bif Nat.beq n 38 && eqPath ks [] then some (FE.of [true] true keep_Src_Raw.sh keep_Src_Raw.osh g_keep_Src_Raw) else bif Nat.beq n 37 && eqPath ks [] then some (FE.of [true, true] false keep_Mod.sh keep_Mod.osh g_keep_Mod) else none, fun n => none, 9, 1, Gt⟩

/-! keep_Src_Range: (*shapesearch/shapesearchkeep.Src).Range -/
noncomputable def keep_Src_Range.c : Go.Code := Go.Proofs.Tryd.f22.body.getD .skip
@[reducible] def keep_Src_Range.sh : Sh := ⟨[.one (.is (.ptr 0 0 0)), .one (.pv (.int .i64)), .one (.pv (.int .i64))], [.box [.pv (.list (.int .i64)), .pv (.int .i64)]]⟩
@[reducible] def keep_Src_Range.osh : Sh := ⟨[.one (.pv (.int .i64))], [.box [.pv (.list (.int .i64)), .pv (.int .i64)]]⟩
def keep_Src_Range.hs : List Hint := []
def keep_Src_Range.E (g_keep_Src_N : keep_Src_N.sh.X → Option keep_Src_N.osh.X) : Env := ⟨T, fun n ks => bif Nat.beq n 24 && eqPath ks [] then some (FE.of [true, true] true keep_Src_N.sh keep_Src_N.osh g_keep_Src_N) else none, fun n => none, 15, 1, Gt⟩

/-! keep_Src_Pick: (*shapesearch/shapesearchkeep.Src).Pick -/
noncomputable def keep_Src_Pick.c : Go.Code := Go.Proofs.Tryd.f23.body.getD .skip
@[reducible] def keep_Src_Pick.sh : Sh := ⟨[.one (.is (.ptr 0 0 0)), .one (.pv (.list (.int .i64)))], [.box [.pv (.list (.int .i64)), .pv (.int .i64)]]⟩
@[reducible] def keep_Src_Pick.osh : Sh := ⟨[.one (.pv (.int .i64))], [.box [.pv (.list (.int .i64)), .pv (.int .i64)]]⟩
def keep_Src_Pick.hs : List Hint := []
def keep_Src_Pick.E (g_keep_Src_N : keep_Src_N.sh.X → Option keep_Src_N.osh.X) : Env := ⟨T, fun n ks => bif Nat.beq n 24 && eqPath ks [] then some (FE.of [true, true] true keep_Src_N.sh keep_Src_N.osh g_keep_Src_N) else none, fun n => none, 12, 1, Gt⟩

/-! keep_Src_Measure: (*shapesearch/shapesearchkeep.Src).Measure -/
noncomputable def keep_Src_Measure.c : Go.Code := Go.Proofs.Tryd.f9.body.getD .skip
@[reducible] def keep_Src_Measure.sh : Sh := ⟨[.one (.is (.ptr 0 0 0))], [.box [.pv (.list (.int .i64)), .pv (.int .i64)]]⟩
@[reducible] def keep_Src_Measure.osh : Sh := ⟨[.agg [.pv (.int .i64), .pv (.int .i64), .pv (.int .i64)]], [.box [.pv (.list (.int .i64)), .pv (.int .i64)]]⟩
def keep_Src_Measure.hs : List Hint := []
def keep_Src_Measure.E (g_keep_Src_Range : keep_Src_Range.sh.X → Option keep_Src_Range.osh.X) (g_keep_Src_Pick : keep_Src_Pick.sh.X → Option keep_Src_Pick.osh.X) : Env := ⟨T, fun n ks => bif Nat.beq n 22 && eqPath ks [] then some (FE.of [true, true, true] true keep_Src_Range.sh keep_Src_Range.osh g_keep_Src_Range) else bif Nat.beq n 23 && eqPath ks [] then some (FE.of [true, true] true keep_Src_Pick.sh keep_Src_Pick.osh g_keep_Src_Pick) else none, fun n => none, 22, 1, Gt⟩

/-! keep_Src_Length: (*shapesearch/shapesearchkeep.Src).Length -/
noncomputable def keep_Src_Length.c : Go.Code := Go.Proofs.Tryd.f28.body.getD .skip
@[reducible] def keep_Src_Length.sh : Sh := ⟨[.one (.is (.ptr 0 0 0))], [.box [.pv (.list (.int .i64)), .pv (.int .i64)]]⟩
@[reducible] def keep_Src_Length.osh : Sh := ⟨[.one (.pv (.int .i64))], [.box [.pv (.list (.int .i64)), .pv (.int .i64)]]⟩
def keep_Src_Length.hs : List Hint := []
def keep_Src_Length.E (g_keep_Src_N : keep_Src_N.sh.X → Option keep_Src_N.osh.X) (g_keep_Src_Range : keep_Src_Range.sh.X → Option keep_Src_Range.osh.X) : Env := ⟨T, fun n ks => bif Nat.beq n 24 && eqPath ks [] then some (FE.of [true, true] true keep_Src_N.sh keep_Src_N.osh g_keep_Src_N) else bif Nat.beq n 22 && eqPath ks [] then some (FE.of [true, true, true] true keep_Src_Range.sh keep_Src_Range.osh g_keep_Src_Range) else none, fun n => none, 10, 1, Gt⟩

/-! keep_clip: shapesearch/shapesearchkeep.clip -/
noncomputable def keep_clip.c : Go.Code := Go.Proofs.Tryd.f48.body.getD .skip
@[reducible] def keep_clip.sh : Sh := ⟨[.one (.pv (.int .i64))], []⟩
@[reducible] def keep_clip.osh : Sh := ⟨[.one (.pv (.int .i64))], []⟩
def keep_clip.hs : List Hint := []
def keep_clip.E : Env := ⟨T, fun n ks => none, fun n => none, 6, 0, Gt⟩

/-! keep_Src_List: (*shapesearch/shapesearchkeep.Src).List -/
noncomputable def keep_Src_List.c : Go.Code := Go.Proofs.Tryd.f27.body.getD .skip
@[reducible] def keep_Src_List.sh : Sh := ⟨[.one (.is (.ptr 0 0 0)), .one (.pv (.int .i64))], [.box [.pv (.list (.int .i64)), .pv (.int .i64)]]⟩
@[reducible] def keep_Src_List.osh : Sh := ⟨[.one (.is (.own 1))], [.box [.pv (.list (.int .i64)), .pv (.int .i64)], .row 3 (.int .i64)]⟩
@[reducible] def keep_Src_List.s0 : Sh := ⟨[.one (.is (.ptr 0 0 0)), .one (.pv (.int .i64)), .one (.pv (.int .i64)), .one (.pv (.int .i64)), .one (.pv (.int .i64)), .one (.pv .bool)], [.box [.pv (.list (.int .i64)), .pv (.int .i64)]]⟩
@[reducible] def keep_Src_List.x0 : List (Ex × Sh) := [(.normal, ⟨[.one (.is (.ptr 0 0 0)), .one (.pv (.int .i64)), .one (.pv (.int .i64)), .one (.pv (.int .i64)), .one (.pv (.int .i64))], [.box [.pv (.list (.int .i64)), .pv (.int .i64)]]⟩)]
@[reducible] def keep_Src_List.s1 : Sh := ⟨[.one (.is (.ptr 0 0 0)), .one (.pv (.int .i64)), .one (.pv (.int .i64)), .one (.pv (.int .i64)), .one (.pv (.int .i64)), .one (.is (.own 1)), .one (.pv (.int .i64))], [.box [.pv (.list (.int .i64)), .pv (.int .i64)], .row 3 (.int .i64)]⟩
@[reducible] def keep_Src_List.x1 : List (Ex × Sh) := [(.exit 0, ⟨[.one (.is (.own 1))], [.box [.pv (.list (.int .i64)), .pv (.int .i64)], .row 3 (.int .i64)]⟩)]
@[reducible] def keep_Src_List.s2 : Sh := ⟨[.one (.is (.ptr 0 0 0)), .one (.pv (.int .i64)), .one (.pv (.int .i64)), .one (.pv (.int .i64)), .one (.pv (.int .i64)), .one (.is (.own 1)), .one (.pv (.int .i64)), .one (.pv (.int .i64)), .one (.pv .bool)], [.box [.pv (.list (.int .i64)), .pv (.int .i64)], .row 3 (.int .i64)]⟩
@[reducible] def keep_Src_List.x2 : List (Ex × Sh) := [(.normal, ⟨[.one (.is (.ptr 0 0 0)), .one (.pv (.int .i64)), .one (.pv (.int .i64)), .one (.pv (.int .i64)), .one (.pv (.int .i64)), .one (.is (.own 1)), .one (.pv (.int .i64)), .one (.pv (.int .i64)), .one (.pv .bool)], [.box [.pv (.list (.int .i64)), .pv (.int .i64)], .row 3 (.int .i64)]⟩)]
@[reducible] def keep_Src_List.s3 : Sh := ⟨[.one (.is (.ptr 0 0 0)), .one (.pv (.int .i64)), .one (.pv (.int .i64)), .one (.pv (.int .i64)), .one (.pv (.int .i64)), .one (.is (.own 1)), .one (.pv (.int .i64)), .one (.pv (.int .i64)), .one (.pv .bool)], [.box [.pv (.list (.int .i64)), .pv (.int .i64)], .row 3 (.int .i64)]⟩
@[reducible] def keep_Src_List.x3 : List (Ex × Sh) := [(.normal, ⟨[.one (.is (.ptr 0 0 0)), .one (.pv (.int .i64)), .one (.pv (.int .i64)), .one (.pv (.int .i64)), .one (.pv (.int .i64)), .one (.is (.own 1)), .one (.pv (.int .i64)), .one (.pv (.int .i64)), .one (.pv .bool)], [.box [.pv (.list (.int .i64)), .pv (.int .i64)], .row 3 (.int .i64)]⟩)]
def keep_Src_List.hs : List Hint := [⟨[1, 0, 1, 1], 0, [0, 1, 5, 6, 7, 17], [(0, [0, 1, 5, 6, 7])]⟩, ⟨[0, 1, 0, 1, 1, 1, 1], 1, [0, 1, 5, 6, 7, 8, 9], [(2, [8])]⟩, ⟨[1, 0, 0, 1, 0, 0, 1, 0, 0, 1, 0, 1, 1, 1, 1], 2, [0, 1, 5, 6, 7, 8, 9, 25, 32], [(0, [0, 1, 5, 6, 7, 8, 9, 25, 32])]⟩, ⟨[1, 0, 1, 1, 0, 1, 0, 0, 1, 0, 0, 1, 0, 1, 1, 1, 1], 3, [0, 1, 5, 6, 7, 8, 9, 25, 43], [(0, [0, 1, 5, 6, 7, 8, 9, 25, 43])]⟩]
def keep_Src_List.E (g_keep_Src_N : keep_Src_N.sh.X → Option keep_Src_N.osh.X) (g_keep_Src_Pick : keep_Src_Pick.sh.X → Option keep_Src_Pick.osh.X) (g_keep_Src_Range : keep_Src_Range.sh.X → Option keep_Src_Range.osh.X) (g_keep_clip : keep_clip.sh.X → Option keep_clip.osh.X) (l0 : ((Unit × Int × Int × Int × Int × Bool × Unit) × (((List Int) × Int × Unit) × Unit)) → Option (((Unit × Int × Int × Int × Int × Unit) × (((List Int) × Int × Unit) × Unit)) ⊕ Empty)) (l1 : ((Unit × Int × Int × Int × Int × Unit × Int × Unit) × (((List Int) × Int × Unit) × (List Int) × Unit)) → Option (((Unit × Unit) × (((List Int) × Int × Unit) × (List Int) × Unit)) ⊕ Empty)) (l2 : ((Unit × Int × Int × Int × Int × Unit × Int × Int × Bool × Unit) × (((List Int) × Int × Unit) × (List Int) × Unit)) → Option (((Unit × Int × Int × Int × Int × Unit × Int × Int × Bool × Unit) × (((List Int) × Int × Unit) × (List Int) × Unit)) ⊕ Empty)) (l3 : ((Unit × Int × Int × Int × Int × Unit × Int × Int × Bool × Unit) × (((List Int) × Int × Unit) × (List Int) × Unit)) → Option (((Unit × Int × Int × Int × Int × Unit × Int × Int × Bool × Unit) × (((List Int) × Int × Unit) × (List Int) × Unit)) ⊕ Empty)) : Env := ⟨T, fun n ks => bif Nat.beq n 24 && eqPath ks [] then some (FE.of [true, true] true keep_Src_N.sh keep_Src_N.osh g_keep_Src_N) else bif Nat.beq n 23 && eqPath ks [] then some (FE.of [true, true] true keep_Src_Pick.sh keep_Src_Pick.osh g_keep_Src_Pick) else bif Nat.beq n 22 && eqPath ks [] then some (FE.of [true, true, true] true keep_Src_Range.sh keep_Src_Range.osh g_keep_Src_Range) else bif Nat.beq n 48 && eqPath ks [] then some (FE.of [true] false keep_clip.sh keep_clip.osh g_keep_clip) else none, fun n => bif Nat.beq n 0 then some (LE.of keep_Src_List.s0 keep_Src_List.x0 l0) else bif Nat.beq n 1 then some (LE.of keep_Src_List.s1 keep_Src_List.x1 l1) else bif Nat.beq n 2 then some (LE.of keep_Src_List.s2 keep_Src_List.x2 l2) else bif Nat.beq n 3 then some (LE.of keep_Src_List.s3 keep_Src_List.x3 l3) else none, 73, 1, Gt⟩

/-! keep_Src_Near: (*shapesearch/shapesearchkeep.Src).Near -/
noncomputable def keep_Src_Near.c : Go.Code := Go.Proofs.Tryd.f29.body.getD .skip
@[reducible] def keep_Src_Near.sh : Sh := ⟨[.one (.is (.ptr 0 0 0)), .one (.pv (.list (.int .i64)))], [.box [.pv (.list (.int .i64)), .pv (.int .i64)]]⟩
@[reducible] def keep_Src_Near.osh : Sh := ⟨[.one (.is (.own 1))], [.box [.pv (.list (.int .i64)), .pv (.int .i64)], .row 3 (.int .i64)]⟩
@[reducible] def keep_Src_Near.s0 : Sh := ⟨[.one (.is (.ptr 0 0 0)), .one (.pv (.list (.int .i64))), .one (.pv (.int .i64)), .one (.pv (.int .i64)), .one (.pv (.int .i64)), .one (.is (.own 1)), .one (.pv (.int .i64)), .one (.pv (.int .i64))], [.box [.pv (.list (.int .i64)), .pv (.int .i64)], .row 3 (.int .i64)]⟩
@[reducible] def keep_Src_Near.x0 : List (Ex × Sh) := [(.exit 0, ⟨[.one (.is (.own 1))], [.box [.pv (.list (.int .i64)), .pv (.int .i64)], .row 3 (.int .i64)]⟩)]
def keep_Src_Near.hs : List Hint := [⟨[0, 1, 0, 1, 1, 1], 0, [0, 1, 5, 6, 7, 8, 20, 21], [(2, [8])]⟩]
def keep_Src_Near.E (g_keep_Src_N : keep_Src_N.sh.X → Option keep_Src_N.osh.X) (g_keep_Src_Range : keep_Src_Range.sh.X → Option keep_Src_Range.osh.X) (g_keep_clip : keep_clip.sh.X → Option keep_clip.osh.X) (g_keep_Mod : keep_Mod.sh.X → Option keep_Mod.osh.X) (l0 : ((Unit × (List Int) × Int × Int × Int × Unit × Int × Int × Unit) × (((List Int) × Int × Unit) × (List Int) × Unit)) → Option (((Unit × Unit) × (((List Int) × Int × Unit) × (List Int) × Unit)) ⊕ Empty)) : Env := ⟨T, fun n ks => bif Nat.beq n 24 && eqPath ks [] then some (FE.of [true, true] true keep_Src_N.sh keep_Src_N.osh g_keep_Src_N) else bif Nat.beq n 22 && eqPath ks [] then some (FE.of [true, true, true] true keep_Src_Range.sh keep_Src_Range.osh g_keep_Src_Range) else bif Nat.beq n 48 && eqPath ks [] then some (FE.of [true] false keep_clip.sh keep_clip.osh g_keep_clip) else bif Nat.beq n 37 && eqPath ks [] then some (FE.of [true, true] false keep_Mod.sh keep_Mod.osh g_keep_Mod) else none, fun n => bif Nat.beq n 0 then some (LE.of keep_Src_Near.s0 keep_Src_Near.x0 l0) else none, 108, 1, Gt⟩

/-! keep_Src_Pair: (*shapesearch/shapesearchkeep.Src).Pair -/
noncomputable def keep_Src_Pair.c : Go.Code := Go.Proofs.Tryd.f14.body.getD .skip
@[reducible] def keep_Src_Pair.sh : Sh := ⟨[.one (.is (.ptr 0 0 0))], [.box [.pv (.list (.int .i64)), .pv (.int .i64)]]⟩
@[reducible] def keep_Src_Pair.osh : Sh := ⟨[.one (.pv (.list (.int .i64))), .one (.is (.own 1))], [.box [.pv (.list (.int .i64)), .pv (.int .i64)], .row 3 (.int .i64)]⟩
def keep_Src_Pair.hs : List Hint := []
def keep_Src_Pair.E (g_keep_Src_Length : keep_Src_Length.sh.X → Option keep_Src_Length.osh.X) (g_keep_Src_List : keep_Src_List.sh.X → Option keep_Src_List.osh.X) (g_keep_Src_N : keep_Src_N.sh.X → Option keep_Src_N.osh.X) (g_keep_Src_Near : keep_Src_Near.sh.X → Option keep_Src_Near.osh.X) : Env := ⟨T, fun n ks => bif Nat.beq n 28 && eqPath ks [] then some (FE.of [true] true keep_Src_Length.sh keep_Src_Length.osh g_keep_Src_Length) else bif Nat.beq n 27 && eqPath ks [] then some (FE.of [true, true] true keep_Src_List.sh keep_Src_List.osh g_keep_Src_List) else bif Nat.beq n 24 && eqPath ks [] then some (FE.of [true, true] true keep_Src_N.sh keep_Src_N.osh g_keep_Src_N) else bif Nat.beq n 29 && eqPath ks [] then some (FE.of [true, true] true keep_Src_Near.sh keep_Src_Near.osh g_keep_Src_Near) else none, fun n => none, 21, 1, Gt⟩

/-! keep_Src_Suited: (*shapesearch/shapesearchkeep.Src).Suited -/
noncomputable def keep_Src_Suited.c : Go.Code := Go.Proofs.Tryd.f10.body.getD .skip
@[reducible] def keep_Src_Suited.sh : Sh := ⟨[.one (.is (.ptr 0 0 0)), .agg [.pv (.int .i64), .pv (.int .i64), .pv (.int .i64)]], [.box [.pv (.list (.int .i64)), .pv (.int .i64)]]⟩
@[reducible] def keep_Src_Suited.osh : Sh := ⟨[.one (.pv (.list (.int .i64))), .one (.pv (.list (.int .i64)))], [.box [.pv (.list (.int .i64)), .pv (.int .i64)]]⟩
@[reducible] def keep_Src_Suited.s0 : Sh := ⟨[.one (.is (.ptr 0 0 0)), .one (.is (.ptr 1 0 0)), .one (.pv (.list (.int .i64))), .one (.is (.own 2))], [.box [.pv (.list (.int .i64)), .pv (.int .i64)], .box [.pv (.int .i64), .pv (.int .i64), .pv (.int .i64)], .row 3 (.int .i64)]⟩
@[reducible] def keep_Src_Suited.x0 : List (Ex × Sh) := [(.normal, ⟨[.one (.is (.ptr 0 0 0)), .one (.is (.ptr 1 0 0)), .one (.pv (.list (.int .i64))), .one (.is (.own 2)), .one (.pv .bool)], [.box [.pv (.list (.int .i64)), .pv (.int .i64)], .box [.pv (.int .i64), .pv (.int .i64), .pv (.int .i64)], .row 3 (.int .i64)]⟩)]
def keep_Src_Suited.hs : List Hint := [⟨[0, 0, 1, 1], 0, [0, 3, 6, 7], [(0, [0, 3, 6, 7, 20])]⟩]
def keep_Src_Suited.E (g_keep_Src_Pair : keep_Src_Pair.sh.X → Option keep_Src_Pair.osh.X) (g_keep_Src_N : keep_Src_N.sh.X → Option keep_Src_N.osh.X) (g_keep_Src_Range : keep_Src_Range.sh.X → Option keep_Src_Range.osh.X) (l0 : ((Unit × Unit × (List Int) × Unit × Unit) × (((List Int) × Int × Unit) × (Int × Int × Int × Unit) × (List Int) × Unit)) → Option (((Unit × Unit × (List Int) × Unit × Bool × Unit) × (((List Int) × Int × Unit) × (Int × Int × Int × Unit) × (List Int) × Unit)) ⊕ Empty)) : Env := ⟨T, fun n ks => bif Nat.beq n 14 && eqPath ks [] then some (FE.of [true] true keep_Src_Pair.sh keep_Src_Pair.osh g_keep_Src_Pair) else bif Nat.beq n 24 && eqPath ks [] then some (FE.of [true, true] true keep_Src_N.sh keep_Src_N.osh g_keep_Src_N) else bif Nat.beq n 22 && eqPath ks [] then some (FE.of [true, true, true] true keep_Src_Range.sh keep_Src_Range.osh g_keep_Src_Range) else none, fun n => bif Nat.beq n 0 then some (LE.of keep_Src_Suited.s0 keep_Src_Suited.x0 l0) else none, 44, 1, Gt⟩

/-! measure_name: shapesearch/measure.name -/
noncomputable def measure_name.c : Go.Code := Go.Proofs.Tryd.f32.body.getD .skip
@[reducible] def measure_name.sh : Sh := ⟨[.one (.pv (.int .i64))], []⟩
@[reducible] def measure_name.osh : Sh := ⟨[.one (.pv .str)], []⟩
def measure_name.hs : List Hint := []
def measure_name.E : Env := ⟨T, fun n ks => none, fun n => none, 14, 0, Gt⟩

/-! measure_Check: shapesearch/measure.Check -/
noncomputable def measure_Check.c : Go.Code := Go.Proofs.Tryd.f18.body.getD .skip
@[reducible] def measure_Check.sh : Sh := ⟨[.agg [.pv (.int .i64), .pv (.int .i64), .pv (.int .i64)]], []⟩
@[reducible] def measure_Check.osh : Sh := ⟨[.one (.pv (.int .i64))], []⟩
@[reducible] def measure_Check.s0 : Sh := ⟨[.one (.is (.ptr 0 0 0)), .one (.pv .bool)], [.box [.pv (.int .i64), .pv (.int .i64), .pv (.int .i64)]]⟩
@[reducible] def measure_Check.x0 : List (Ex × Sh) := [(.normal, ⟨[.one (.pv .bool)], []⟩)]
@[reducible] def measure_Check.s1 : Sh := ⟨[.one (.is (.ptr 0 0 0))], [.box [.pv (.int .i64), .pv (.int .i64), .pv (.int .i64)]]⟩
@[reducible] def measure_Check.x1 : List (Ex × Sh) := [(.normal, ⟨[.one (.is (.ptr 0 0 0)), .one (.pv .bool)], [.box [.pv (.int .i64), .pv (.int .i64), .pv (.int .i64)]]⟩)]
@[reducible] def measure_Check.s2 : Sh := ⟨[.one (.is (.ptr 0 0 0)), .one (.pv .bool)], [.box [.pv (.int .i64), .pv (.int .i64), .pv (.int .i64)]]⟩
@[reducible] def measure_Check.x2 : List (Ex × Sh) := [(.normal, ⟨[.one (.pv .bool)], []⟩)]
def measure_Check.hs : List Hint := [⟨[1, 0, 0, 0, 1], 0, [1, 3], [(0, [3])]⟩, ⟨[0, 1, 1, 0, 0, 0, 1], 1, [1], [(0, [1, 3])]⟩, ⟨[1, 1, 1, 0, 0, 0, 1], 2, [1, 3], [(0, [3])]⟩]
def measure_Check.E (g_measure_name : measure_name.sh.X → Option measure_name.osh.X) (l0 : ((Unit × Bool × Unit) × ((Int × Int × Int × Unit) × Unit)) → Option (((Bool × Unit) × (Unit)) ⊕ Empty)) (l1 : ((Unit × Unit) × ((Int × Int × Int × Unit) × Unit)) → Option (((Unit × Bool × Unit) × ((Int × Int × Int × Unit) × Unit)) ⊕ Empty)) (l2 : ((Unit × Bool × Unit) × ((Int × Int × Int × Unit) × Unit)) → Option (((Bool × Unit) × (Unit)) ⊕ Empty)) : Env := ⟨T, fun n ks => bif Nat.beq n 32 && eqPath ks [] then some (FE.of [true] false measure_name.sh measure_name.osh g_measure_name) else none, fun n => bif Nat.beq n 0 then some (LE.of measure_Check.s0 measure_Check.x0 l0) else bif Nat.beq n 1 then some (LE.of measure_Check.s1 measure_Check.x1 l1) else bif Nat.beq n 2 then some (LE.of measure_Check.s2 measure_Check.x2 l2) else none, 44, 0, Gt⟩

/-! measure_distances: shapesearch/measure.distances -/
noncomputable def measure_distances.c : Go.Code := Go.Proofs.Tryd.f25.body.getD .skip
@[reducible] def measure_distances.sh : Sh := ⟨[.agg [.pv (.int .i64), .pv (.int .i64), .pv (.int .i64)]], []⟩
@[reducible] def measure_distances.osh : Sh := ⟨[.one (.is (.fmap [(1, 39, []), (2, 42, []), (3, 43, []), (4, 44, [(0, 0)]), (5, 46, [(0, 0)])]))], [.box [.pv (.int .i64), .pv (.int .i64), .pv (.int .i64)]]⟩
def measure_distances.hs : List Hint := []
def measure_distances.E : Env := ⟨T, fun n ks => none, fun n => none, 7, 0, Gt⟩

/-! euclid_length: shapesearch/euclid.length -/
noncomputable def euclid_length.c : Go.Code := Go.Proofs.Tryd.f72.body.getD .skip
@[reducible] def euclid_length.sh : Sh := ⟨[.one (.pv (.list (.int .i64)))], []⟩
@[reducible] def euclid_length.osh : Sh := ⟨[.one (.pv .bool)], []⟩
def euclid_length.hs : List Hint := []
def euclid_length.E : Env := ⟨T, fun n ks => none, fun n => none, 11, 0, Gt⟩

/-! euclid_samples: shapesearch/euclid.samples -/
noncomputable def euclid_samples.c : Go.Code := Go.Proofs.Tryd.f73.body.getD .skip
@[reducible] def euclid_samples.sh : Sh := ⟨[.one (.pv (.list (.int .i64)))], []⟩
@[reducible] def euclid_samples.osh : Sh := ⟨[.one (.pv .bool)], []⟩
@[reducible] def euclid_samples.s0 : Sh := ⟨[.one (.pv (.list (.int .i64))), .one (.pv (.int .i64)), .one (.pv (.int .i64))], []⟩
@[reducible] def euclid_samples.x0 : List (Ex × Sh) := [(.exit 0, ⟨[], []⟩), (.ret, ⟨[.one (.pv .bool)], []⟩)]
def euclid_samples.hs : List Hint := [⟨[0, 1, 0, 1], 0, [5, 6, 7], [(2, []), (1, [2])]⟩]
def euclid_samples.E (l0 : (((List Int) × Int × Int × Unit) × (Unit)) → Option (((Unit) × (Unit)) ⊕ ((Bool × Unit) × (Unit)) ⊕ Empty)) : Env := ⟨T, fun n ks => none, fun n => bif Nat.beq n 0 then some (LE.of euclid_samples.s0 euclid_samples.x0 l0) else none, 18, 0, Gt⟩

/-! euclid_check: shapesearch/euclid.check -/
noncomputable def euclid_check.c : Go.Code := Go.Proofs.Tryd.f57.body.getD .skip
@[reducible] def euclid_check.sh : Sh := ⟨[.one (.pv (.list (.int .i64))), .one (.pv (.list (.int .i64)))], []⟩
@[reducible] def euclid_check.osh : Sh := ⟨[.one (.pv (.int .i64))], []⟩
@[reducible] def euclid_check.s0 : Sh := ⟨[.one (.pv (.list (.int .i64))), .one (.pv (.list (.int .i64)))], []⟩
@[reducible] def euclid_check.x0 : List (Ex × Sh) := [(.normal, ⟨[.one (.pv (.list (.int .i64))), .one (.pv (.list (.int .i64))), .one (.pv .bool)], []⟩)]
@[reducible] def euclid_check.s1 : Sh := ⟨[.one (.pv (.list (.int .i64))), .one (.pv (.list (.int .i64)))], []⟩
@[reducible] def euclid_check.x1 : List (Ex × Sh) := [(.normal, ⟨[.one (.pv (.list (.int .i64))), .one (.pv (.list (.int .i64))), .one (.pv .bool)], []⟩)]
def euclid_check.hs : List Hint := [⟨[0, 0, 0, 1], 0, [0, 1], [(0, [0, 1, 5])]⟩, ⟨[0, 1, 1, 0, 0, 1], 1, [0, 1], [(0, [0, 1, 14])]⟩]
def euclid_check.E (g_euclid_length : euclid_length.sh.X → Option euclid_length.osh.X) (g_euclid_samples : euclid_samples.sh.X → Option euclid_samples.osh.X) (l0 : (((List Int) × (List Int) × Unit) × (Unit)) → Option ((((List Int) × (List Int) × Bool × Unit) × (Unit)) ⊕ Empty)) (l1 : (((List Int) × (List Int) × Unit) × (Unit)) → Option ((((List Int) × (List Int) × Bool × Unit) × (Unit)) ⊕ Empty)) : Env := ⟨T, fun n ks => bif Nat.beq n 72 && eqPath ks [] then some (FE.of [true] false euclid_length.sh euclid_length.osh g_euclid_length) else bif Nat.beq n 73 && eqPath ks [] then some (FE.of [true] false euclid_samples.sh euclid_samples.osh g_euclid_samples) else none, fun n => bif Nat.beq n 0 then some (LE.of euclid_check.s0 euclid_check.x0 l0) else bif Nat.beq n 1 then some (LE.of euclid_check.s1 euclid_check.x1 l1) else none, 29, 0, Gt⟩

/-! euclid_square: shapesearch/euclid.square -/
noncomputable def euclid_square.c : Go.Code := Go.Proofs.Tryd.f58.body.getD .skip
@[reducible] def euclid_square.sh : Sh := ⟨[.one (.pv (.list (.int .i64))), .one (.pv (.list (.int .i64)))], []⟩
@[reducible] def euclid_square.osh : Sh := ⟨[.one (.pv (.int .i64))], []⟩
@[reducible] def euclid_square.s0 : Sh := ⟨[.one (.pv (.list (.int .i64))), .one (.pv (.int .i64)), .one (.pv (.list (.int .i64))), .one (.pv (.int .i64)), .one (.pv (.int .i64))], []⟩
@[reducible] def euclid_square.x0 : List (Ex × Sh) := [(.exit 0, ⟨[.one (.pv (.int .i64))], []⟩)]
def euclid_square.hs : List Hint := [⟨[0, 1, 0, 1, 1], 0, [1, 5, 8, 9, 10], [(2, [5])]⟩]
def euclid_square.E (l0 : (((List Int) × Int × (List Int) × Int × Int × Unit) × (Unit)) → Option (((Int × Unit) × (Unit)) ⊕ Empty)) : Env := ⟨T, fun n ks => none, fun n => bif Nat.beq n 0 then some (LE.of euclid_square.s0 euclid_square.x0 l0) else none, 32, 0, Gt⟩

/-! euclid_Distance: shapesearch/euclid.Distance -/
noncomputable def euclid_Distance.c : Go.Code := Go.Proofs.Tryd.f41.body.getD .skip
@[reducible] def euclid_Distance.sh : Sh := ⟨[.one (.pv (.list (.int .i64))), .one (.pv (.list (.int .i64)))], []⟩
@[reducible] def euclid_Distance.osh : Sh := ⟨[.one (.pv (.int .i64)), .one (.pv (.int .i64))], []⟩
def euclid_Distance.hs : List Hint := []
def euclid_Distance.E (g_euclid_check : euclid_check.sh.X → Option euclid_check.osh.X) (g_euclid_square : euclid_square.sh.X → Option euclid_square.osh.X) : Env := ⟨T, fun n ks => bif Nat.beq n 57 && eqPath ks [] then some (FE.of [true, true] false euclid_check.sh euclid_check.osh g_euclid_check) else bif Nat.beq n 58 && eqPath ks [] then some (FE.of [true, true] false euclid_square.sh euclid_square.osh g_euclid_square) else none, fun n => none, 16, 0, Gt⟩

/-! ratio_divisor: shapesearch/ratio.divisor -/
noncomputable def ratio_divisor.c : Go.Code := Go.Proofs.Tryd.f54.body.getD .skip
@[reducible] def ratio_divisor.sh : Sh := ⟨[.one (.pv (.int .i64)), .one (.pv (.int .i64))], []⟩
@[reducible] def ratio_divisor.osh : Sh := ⟨[.one (.pv (.int .i64))], []⟩
@[reducible] def ratio_divisor.s0 : Sh := ⟨[.one (.pv (.int .i64)), .one (.pv (.int .i64))], []⟩
@[reducible] def ratio_divisor.x0 : List (Ex × Sh) := [(.exit 0, ⟨[.one (.pv (.int .i64))], []⟩)]
def ratio_divisor.hs : List Hint := [⟨[0, 0, 1], 0, [0, 1], [(2, [0])]⟩]
def ratio_divisor.E (l0 : ((Int × Int × Unit) × (Unit)) → Option (((Int × Unit) × (Unit)) ⊕ Empty)) : Env := ⟨T, fun n ks => none, fun n => bif Nat.beq n 0 then some (LE.of ratio_divisor.s0 ratio_divisor.x0 l0) else none, 12, 0, Gt⟩

/-! ratio_within: shapesearch/ratio.within -/
noncomputable def ratio_within.c : Go.Code := Go.Proofs.Tryd.f53.body.getD .skip
@[reducible] def ratio_within.sh : Sh := ⟨[.agg [.pv (.int .i64), .pv (.int .i64)]], []⟩
@[reducible] def ratio_within.osh : Sh := ⟨[.one (.pv .bool)], []⟩
def ratio_within.hs : List Hint := []
def ratio_within.E : Env := ⟨T, fun n ks => none, fun n => none, 21, 0, Gt⟩

/-! ratio_Make: shapesearch/ratio.Make -/
noncomputable def ratio_Make.c : Go.Code := Go.Proofs.Tryd.f56.body.getD .skip
@[reducible] def ratio_Make.sh : Sh := ⟨[.one (.pv (.int .i64)), .one (.pv (.int .i64))], []⟩
@[reducible] def ratio_Make.osh : Sh := ⟨[.agg [.pv (.int .i64), .pv (.int .i64)], .one (.pv (.int .i64))], []⟩
@[reducible] def ratio_Make.s0 : Sh := ⟨[.one (.pv (.int .i64)), .one (.pv (.int .i64)), .one (.is (.ptr 0 0 0))], [.box [.pv (.int .i64), .pv (.int .i64)]]⟩
@[reducible] def ratio_Make.x0 : List (Ex × Sh) := [(.normal, ⟨[.one (.pv (.int .i64)), .one (.pv (.int .i64)), .one (.is (.ptr 0 0 0)), .one (.pv .bool)], [.box [.pv (.int .i64), .pv (.int .i64)]]⟩)]
def ratio_Make.hs : List Hint := [⟨[0, 0, 1], 0, [0, 1, 4], [(0, [0, 1, 4, 13])]⟩]
def ratio_Make.E (g_ratio_divisor : ratio_divisor.sh.X → Option ratio_divisor.osh.X) (g_ratio_within : ratio_within.sh.X → Option ratio_within.osh.X) (l0 : ((Int × Int × Unit × Unit) × ((Int × Int × Unit) × Unit)) → Option (((Int × Int × Unit × Bool × Unit) × ((Int × Int × Unit) × Unit)) ⊕ Empty)) : Env := ⟨T, fun n ks => bif Nat.beq n 54 && eqPath ks [] then some (FE.of [true, true] false ratio_divisor.sh ratio_divisor.osh g_ratio_divisor) else bif Nat.beq n 53 && eqPath ks [] then some (FE.of [true] false ratio_within.sh ratio_within.osh g_ratio_within) else none, fun n => bif Nat.beq n 0 then some (LE.of ratio_Make.s0 ratio_Make.x0 l0) else none, 30, 0, Gt⟩

/-! measure_whole: shapesearch/measure.whole -/
noncomputable def measure_whole.c : Go.Code := Go.Proofs.Tryd.f40.body.getD .skip
@[reducible] def measure_whole.sh : Sh := ⟨[.one (.pv (.int .i64)), .one (.pv (.int .i64))], []⟩
@[reducible] def measure_whole.osh : Sh := ⟨[.agg [.pv (.int .i64), .pv (.int .i64)], .one (.pv (.int .i64))], []⟩
def measure_whole.hs : List Hint := []
def measure_whole.E (g_ratio_Make : ratio_Make.sh.X → Option ratio_Make.osh.X) : Env := ⟨T, fun n ks => bif Nat.beq n 56 && eqPath ks [] then some (FE.of [true, true] false ratio_Make.sh ratio_Make.osh g_ratio_Make) else none, fun n => none, 14, 0, Gt⟩

/-! measure_distances_1: shapesearch/measure.distances$1 -/
noncomputable def measure_distances_1.c : Go.Code := Go.Proofs.Tryd.f39.body.getD .skip
@[reducible] def measure_distances_1.sh : Sh := ⟨[.one (.pv (.list (.int .i64))), .one (.pv (.list (.int .i64)))], []⟩
@[reducible] def measure_distances_1.osh : Sh := ⟨[.agg [.pv (.int .i64), .pv (.int .i64)], .one (.pv (.int .i64))], []⟩
def measure_distances_1.hs : List Hint := []
def measure_distances_1.E (g_euclid_Distance : euclid_Distance.sh.X → Option euclid_Distance.osh.X) (g_measure_whole : measure_whole.sh.X → Option measure_whole.osh.X) : Env := ⟨T, fun n ks => bif Nat.beq n 41 && eqPath ks [] then some (FE.of [true, true] false euclid_Distance.sh euclid_Distance.osh g_euclid_Distance) else bif Nat.beq n 40 && eqPath ks [] then some (FE.of [true, true] false measure_whole.sh measure_whole.osh g_measure_whole) else none, fun n => none, 14, 0, Gt⟩

/-! euclid_Shifted: shapesearch/euclid.Shifted -/
noncomputable def euclid_Shifted.c : Go.Code := Go.Proofs.Tryd.f42.body.getD .skip
@[reducible] def euclid_Shifted.sh : Sh := ⟨[.one (.pv (.list (.int .i64))), .one (.pv (.list (.int .i64)))], []⟩
@[reducible] def euclid_Shifted.osh : Sh := ⟨[.agg [.pv (.int .i64), .pv (.int .i64)], .one (.pv (.int .i64))], []⟩
@[reducible] def euclid_Shifted.s0 : Sh := ⟨[.one (.pv (.list (.int .i64))), .one (.pv (.list (.int .i64))), .one (.is (.ptr 0 0 0)), .one (.pv (.int .i64)), .one (.pv (.int .i64)), .one (.pv (.list (.int .i64))), .one (.pv (.int .i64)), .one (.pv (.int .i64))], [.box [.pv (.int .i64), .pv (.int .i64)]]⟩
@[reducible] def euclid_Shifted.x0 : List (Ex × Sh) := [(.exit 0, ⟨[.one (.pv (.list (.int .i64))), .one (.pv (.list (.int .i64))), .one (.is (.ptr 0 0 0)), .one (.pv (.int .i64)), .one (.pv (.int .i64))], [.box [.pv (.int .i64), .pv (.int .i64)]]⟩)]
def euclid_Shifted.hs : List Hint := [⟨[0, 1, 0, 1, 1, 1], 0, [0, 1, 4, 7, 8, 20, 21, 22], [(2, [0, 1, 4, 7, 8])]⟩]
def euclid_Shifted.E (g_euclid_check : euclid_check.sh.X → Option euclid_check.osh.X) (g_euclid_square : euclid_square.sh.X → Option euclid_square.osh.X) (g_ratio_Make : ratio_Make.sh.X → Option ratio_Make.osh.X) (l0 : (((List Int) × (List Int) × Unit × Int × Int × (List Int) × Int × Int × Unit) × ((Int × Int × Unit) × Unit)) → Option ((((List Int) × (List Int) × Unit × Int × Int × Unit) × ((Int × Int × Unit) × Unit)) ⊕ Empty)) : Env := ⟨T, fun n ks => bif Nat.beq n 57 && eqPath ks [] then some (FE.of [true, true] false euclid_check.sh euclid_check.osh g_euclid_check) else bif Nat.beq n 58 && eqPath ks [] then some (FE.of [true, true] false euclid_square.sh euclid_square.osh g_euclid_square) else bif Nat.beq n 56 && eqPath ks [] then some (FE.of [true, true] false ratio_Make.sh ratio_Make.osh g_ratio_Make) else none, fun n => bif Nat.beq n 0 then some (LE.of euclid_Shifted.s0 euclid_Shifted.x0 l0) else none, 49, 0, Gt⟩

/-! window_Variance: shapesearch/window.Variance -/
noncomputable def window_Variance.c : Go.Code := Go.Proofs.Tryd.f90.body.getD .skip
@[reducible] def window_Variance.sh : Sh := ⟨[.agg [.pv (.int .i64), .pv (.int .i64), .pv (.int .i64)]], []⟩
@[reducible] def window_Variance.osh : Sh := ⟨[.one (.pv (.int .i64))], []⟩
@[reducible] def window_Variance.s0 : Sh := ⟨[.one (.is (.ptr 0 0 0))], [.box [.pv (.int .i64), .pv (.int .i64), .pv (.int .i64)]]⟩
@[reducible] def window_Variance.x0 : List (Ex × Sh) := [(.normal, ⟨[.one (.is (.ptr 0 0 0)), .one (.pv .bool)], [.box [.pv (.int .i64), .pv (.int .i64), .pv (.int .i64)]]⟩)]
def window_Variance.hs : List Hint := [⟨[0, 0, 1], 0, [1], [(0, [1, 39])]⟩]
def window_Variance.E (l0 : ((Unit × Unit) × ((Int × Int × Int × Unit) × Unit)) → Option (((Unit × Bool × Unit) × ((Int × Int × Int × Unit) × Unit)) ⊕ Empty)) : Env := ⟨T, fun n ks => none, fun n => bif Nat.beq n 0 then some (LE.of window_Variance.s0 window_Variance.x0 l0) else none, 52, 0, Gt⟩

/-! normal_variance: shapesearch/normal.variance -/
noncomputable def normal_variance.c : Go.Code := Go.Proofs.Tryd.f74.body.getD .skip
@[reducible] def normal_variance.sh : Sh := ⟨[.one (.pv (.list (.int .i64)))], []⟩
@[reducible] def normal_variance.osh : Sh := ⟨[.one (.pv (.int .i64))], []⟩
@[reducible] def normal_variance.s0 : Sh := ⟨[.one (.is (.ptr 0 0 0)), .one (.pv (.list (.int .i64))), .one (.pv (.int .i64)), .one (.pv (.int .i64))], [.box [.pv (.int .i64), .pv (.int .i64), .pv (.int .i64)]]⟩
@[reducible] def normal_variance.x0 : List (Ex × Sh) := [(.exit 0, ⟨[.one (.is (.ptr 0 0 0))], [.box [.pv (.int .i64), .pv (.int .i64), .pv (.int .i64)]]⟩)]
def normal_variance.hs : List Hint := [⟨[0, 1, 0, 1, 1], 0, [3, 9, 10, 11], [(2, [3])]⟩]
def normal_variance.E (g_window_Variance : window_Variance.sh.X → Option window_Variance.osh.X) (l0 : ((Unit × (List Int) × Int × Int × Unit) × ((Int × Int × Int × Unit) × Unit)) → Option (((Unit × Unit) × ((Int × Int × Int × Unit) × Unit)) ⊕ Empty)) : Env := ⟨T, fun n ks => bif Nat.beq n 90 && eqPath ks [] then some (FE.of [true] false window_Variance.sh window_Variance.osh g_window_Variance) else none, fun n => bif Nat.beq n 0 then some (LE.of normal_variance.s0 normal_variance.x0 l0) else none, 30, 0, Gt⟩

/-! normal_product: shapesearch/normal.product -/
noncomputable def normal_product.c : Go.Code := Go.Proofs.Tryd.f75.body.getD .skip
@[reducible] def normal_product.sh : Sh := ⟨[.one (.pv (.list (.int .i64))), .one (.pv (.list (.int .i64)))], []⟩
@[reducible] def normal_product.osh : Sh := ⟨[.one (.pv (.int .i64))], []⟩
@[reducible] def normal_product.s0 : Sh := ⟨[.one (.pv (.list (.int .i64))), .one (.pv (.list (.int .i64))), .one (.pv (.int .i64)), .one (.pv (.int .i64)), .one (.pv (.int .i64)), .one (.pv (.list (.int .i64))), .one (.pv (.int .i64)), .one (.pv (.int .i64))], []⟩
@[reducible] def normal_product.x0 : List (Ex × Sh) := [(.exit 0, ⟨[.one (.pv (.list (.int .i64))), .one (.pv (.int .i64)), .one (.pv (.int .i64)), .one (.pv (.int .i64))], []⟩)]
def normal_product.hs : List Hint := [⟨[0, 1, 0, 1, 1], 0, [0, 1, 5, 6, 7, 10, 11, 12], [(2, [0, 5, 6, 7])]⟩]
def normal_product.E (l0 : (((List Int) × (List Int) × Int × Int × Int × (List Int) × Int × Int × Unit) × (Unit)) → Option ((((List Int) × Int × Int × Int × Unit) × (Unit)) ⊕ Empty)) : Env := ⟨T, fun n ks => none, fun n => bif Nat.beq n 0 then some (LE.of normal_product.s0 normal_product.x0 l0) else none, 43, 0, Gt⟩

/-! normal_gap: shapesearch/normal.gap -/
noncomputable def normal_gap.c : Go.Code := Go.Proofs.Tryd.f59.body.getD .skip
@[reducible] def normal_gap.sh : Sh := ⟨[.one (.pv (.list (.int .i64))), .one (.pv (.list (.int .i64)))], []⟩
@[reducible] def normal_gap.osh : Sh := ⟨[.agg [.pv (.int .i64), .pv (.int .i64)], .one (.pv (.int .i64))], []⟩
@[reducible] def normal_gap.s0 : Sh := ⟨[.one (.pv (.list (.int .i64))), .one (.pv (.list (.int .i64))), .one (.is (.ptr 0 0 0)), .one (.pv (.int .i64)), .one (.pv (.int .i64))], [.box [.pv (.int .i64), .pv (.int .i64)]]⟩
@[reducible] def normal_gap.x0 : List (Ex × Sh) := [(.ret, ⟨[.one (.is (.ptr 0 0 0)), .one (.pv (.int .i64))], [.box [.pv (.int .i64), .pv (.int .i64)]]⟩), (.normal, ⟨[.one (.pv (.list (.int .i64))), .one (.pv (.list (.int .i64))), .one (.is (.ptr 0 0 0)), .one (.pv (.int .i64)), .one (.pv (.int .i64))], [.box [.pv (.int .i64), .pv (.int .i64)]]⟩)]
@[reducible] def normal_gap.s1 : Sh := ⟨[.one (.pv (.list (.int .i64))), .one (.pv (.list (.int .i64))), .one (.is (.ptr 0 0 0)), .one (.pv (.int .i64)), .one (.pv (.int .i64))], [.box [.pv (.int .i64), .pv (.int .i64)]]⟩
@[reducible] def normal_gap.x1 : List (Ex × Sh) := [(.normal, ⟨[.one (.pv (.list (.int .i64))), .one (.pv (.list (.int .i64))), .one (.is (.ptr 0 0 0)), .one (.pv (.int .i64)), .one (.pv (.int .i64)), .one (.pv .bool)], [.box [.pv (.int .i64), .pv (.int .i64)]]⟩)]
def normal_gap.hs : List Hint := [⟨[0, 1, 1], 0, [0, 1, 4, 6, 7], [(1, [4, 5]), (0, [0, 1, 4, 6, 7])]⟩, ⟨[0, 0, 0, 1, 1], 1, [0, 1, 4, 6, 7], [(0, [0, 1, 4, 6, 7, 13])]⟩]
def normal_gap.E (g_normal_variance : normal_variance.sh.X → Option normal_variance.osh.X) (g_ratio_Make : ratio_Make.sh.X → Option ratio_Make.osh.X) (g_normal_product : normal_product.sh.X → Option normal_product.osh.X) (l0 : (((List Int) × (List Int) × Unit × Int × Int × Unit) × ((Int × Int × Unit) × Unit)) → Option (((Unit × Int × Unit) × ((Int × Int × Unit) × Unit)) ⊕ (((List Int) × (List Int) × Unit × Int × Int × Unit) × ((Int × Int × Unit) × Unit)) ⊕ Empty)) (l1 : (((List Int) × (List Int) × Unit × Int × Int × Unit) × ((Int × Int × Unit) × Unit)) → Option ((((List Int) × (List Int) × Unit × Int × Int × Bool × Unit) × ((Int × Int × Unit) × Unit)) ⊕ Empty)) : Env := ⟨T, fun n ks => bif Nat.beq n 74 && eqPath ks [] then some (FE.of [true] false normal_variance.sh normal_variance.osh g_normal_variance) else bif Nat.beq n 56 && eqPath ks [] then some (FE.of [true, true] false ratio_Make.sh ratio_Make.osh g_ratio_Make) else bif Nat.beq n 75 && eqPath ks [] then some (FE.of [true, true] false normal_product.sh normal_product.osh g_normal_product) else none, fun n => bif Nat.beq n 0 then some (LE.of normal_gap.s0 normal_gap.x0 l0) else bif Nat.beq n 1 then some (LE.of normal_gap.s1 normal_gap.x1 l1) else none, 64, 0, Gt⟩

/-! normal_Gap: shapesearch/normal.Gap -/
noncomputable def normal_Gap.c : Go.Code := Go.Proofs.Tryd.f43.body.getD .skip
@[reducible] def normal_Gap.sh : Sh := ⟨[.one (.pv (.list (.int .i64))), .one (.pv (.list (.int .i64)))], []⟩
@[reducible] def normal_Gap.osh : Sh := ⟨[.agg [.pv (.int .i64), .pv (.int .i64)], .one (.pv (.int .i64))], []⟩
def normal_Gap.hs : List Hint := []
def normal_Gap.E (g_euclid_Distance : euclid_Distance.sh.X → Option euclid_Distance.osh.X) (g_normal_gap : normal_gap.sh.X → Option normal_gap.osh.X) : Env := ⟨T, fun n ks => bif Nat.beq n 41 && eqPath ks [] then some (FE.of [true, true] false euclid_Distance.sh euclid_Distance.osh g_euclid_Distance) else bif Nat.beq n 59 && eqPath ks [] then some (FE.of [true, true] false normal_gap.sh normal_gap.osh g_normal_gap) else none, fun n => none, 23, 0, Gt⟩

/-! warp_check: shapesearch/warp.check -/
noncomputable def warp_check.c : Go.Code := Go.Proofs.Tryd.f60.body.getD .skip
@[reducible] def warp_check.sh : Sh := ⟨[.one (.pv (.list (.int .i64))), .one (.pv (.list (.int .i64))), .one (.pv (.int .i64))], []⟩
@[reducible] def warp_check.osh : Sh := ⟨[.one (.pv (.int .i64))], []⟩
@[reducible] def warp_check.s0 : Sh := ⟨[.one (.pv (.list (.int .i64))), .one (.pv (.list (.int .i64))), .one (.pv (.int .i64))], []⟩
@[reducible] def warp_check.x0 : List (Ex × Sh) := [(.normal, ⟨[.one (.pv (.list (.int .i64))), .one (.pv (.list (.int .i64))), .one (.pv (.int .i64)), .one (.pv .bool)], []⟩)]
@[reducible] def warp_check.s1 : Sh := ⟨[.one (.pv (.list (.int .i64))), .one (.pv (.list (.int .i64))), .one (.pv (.int .i64)), .one (.pv (.int .i64)), .one (.pv (.int .i64))], []⟩
@[reducible] def warp_check.x1 : List (Ex × Sh) := [(.normal, ⟨[.one (.pv (.list (.int .i64))), .one (.pv (.list (.int .i64))), .one (.pv (.int .i64)), .one (.pv (.int .i64)), .one (.pv (.int .i64)), .one (.pv .bool)], []⟩)]
def warp_check.hs : List Hint := [⟨[0, 0, 1], 0, [0, 1, 2], [(0, [0, 1, 2, 16])]⟩, ⟨[0, 0, 0, 1, 1, 1, 1], 1, [0, 1, 2, 8, 10], [(0, [0, 1, 2, 8, 10, 29])]⟩]
def warp_check.E (g_euclid_Distance : euclid_Distance.sh.X → Option euclid_Distance.osh.X) (l0 : (((List Int) × (List Int) × Int × Unit) × (Unit)) → Option ((((List Int) × (List Int) × Int × Bool × Unit) × (Unit)) ⊕ Empty)) (l1 : (((List Int) × (List Int) × Int × Int × Int × Unit) × (Unit)) → Option ((((List Int) × (List Int) × Int × Int × Int × Bool × Unit) × (Unit)) ⊕ Empty)) : Env := ⟨T, fun n ks => bif Nat.beq n 41 && eqPath ks [] then some (FE.of [true, true] false euclid_Distance.sh euclid_Distance.osh g_euclid_Distance) else none, fun n => bif Nat.beq n 0 then some (LE.of warp_check.s0 warp_check.x0 l0) else bif Nat.beq n 1 then some (LE.of warp_check.s1 warp_check.x1 l1) else none, 61, 0, Gt⟩

/-! warp_near: shapesearch/warp.near -/
noncomputable def warp_near.c : Go.Code := Go.Proofs.Tryd.f91.body.getD .skip
@[reducible] def warp_near.sh : Sh := ⟨[.one (.pv (.int .i64)), .one (.pv (.int .i64)), .one (.pv (.int .i64))], []⟩
@[reducible] def warp_near.osh : Sh := ⟨[.one (.pv .bool)], []⟩
def warp_near.hs : List Hint := []
def warp_near.E : Env := ⟨T, fun n ks => none, fun n => none, 19, 0, Gt⟩

/-! warp_fill: shapesearch/warp.fill -/
noncomputable def warp_fill.c : Go.Code := Go.Proofs.Tryd.f76.body.getD .skip
@[reducible] def warp_fill.sh : Sh := ⟨[.one (.is (.own 0)), .one (.pv (.list (.int .i64))), .one (.pv (.list (.int .i64))), .one (.pv (.list (.int .i64))), .one (.pv (.int .i64)), .one (.pv (.int .i64))], [.row 3 (.int .i64)]⟩
@[reducible] def warp_fill.osh : Sh := ⟨[], [.row 3 (.int .i64)]⟩
@[reducible] def warp_fill.s0 : Sh := ⟨[.one (.is (.own 0)), .one (.pv (.list (.int .i64))), .one (.pv (.list (.int .i64))), .one (.pv (.list (.int .i64))), .one (.pv (.int .i64)), .one (.pv (.int .i64)), .one (.pv (.int .i64)), .one (.pv (.int .i64))], [.row 3 (.int .i64)]⟩
@[reducible] def warp_fill.x0 : List (Ex × Sh) := [(.exit 0, ⟨[], [.row 3 (.int .i64)]⟩)]
@[reducible] def warp_fill.s1 : Sh := ⟨[.one (.is (.own 0)), .one (.pv (.list (.int .i64))), .one (.pv (.list (.int .i64))), .one (.pv (.list (.int .i64))), .one (.pv (.int .i64)), .one (.pv (.int .i64)), .one (.pv (.int .i64)), .one (.pv (.int .i64)), .one (.pv (.int .i64)), .one (.pv (.int .i64))], [.row 3 (.int .i64)]⟩
@[reducible] def warp_fill.x1 : List (Ex × Sh) := [(.normal, ⟨[.one (.is (.own 0)), .one (.pv (.list (.int .i64))), .one (.pv (.list (.int .i64))), .one (.pv (.list (.int .i64))), .one (.pv (.int .i64)), .one (.pv (.int .i64)), .one (.pv (.int .i64)), .one (.pv (.int .i64)), .one (.pv (.int .i64)), .one (.pv (.int .i64)), .one (.pv .bool)], [.row 3 (.int .i64)]⟩)]
@[reducible] def warp_fill.s2 : Sh := ⟨[.one (.is (.own 0)), .one (.pv (.list (.int .i64))), .one (.pv (.list (.int .i64))), .one (.pv (.list (.int .i64))), .one (.pv (.int .i64)), .one (.pv (.int .i64)), .one (.pv (.int .i64)), .one (.pv (.int .i64)), .one (.pv (.int .i64)), .one (.pv (.int .i64)), .one (.pv .bool)], [.row 3 (.int .i64)]⟩
@[reducible] def warp_fill.x2 : List (Ex × Sh) := [(.normal, ⟨[.one (.is (.own 0)), .one (.pv (.list (.int .i64))), .one (.pv (.list (.int .i64))), .one (.pv (.list (.int .i64))), .one (.pv (.int .i64)), .one (.pv (.int .i64)), .one (.pv (.int .i64)), .one (.pv (.int .i64)), .one (.pv (.int .i64)), .one (.pv (.int .i64))], [.row 3 (.int .i64)]⟩)]
@[reducible] def warp_fill.s3 : Sh := ⟨[.one (.is (.own 0)), .one (.pv (.list (.int .i64))), .one (.pv (.list (.int .i64))), .one (.pv (.list (.int .i64))), .one (.pv (.int .i64)), .one (.pv (.int .i64)), .one (.pv (.int .i64)), .one (.pv (.int .i64)), .one (.pv (.int .i64)), .one (.pv (.int .i64)), .one (.pv .bool)], [.row 3 (.int .i64)]⟩
@[reducible] def warp_fill.x3 : List (Ex × Sh) := [(.normal, ⟨[.one (.is (.own 0)), .one (.pv (.list (.int .i64))), .one (.pv (.list (.int .i64))), .one (.pv (.list (.int .i64))), .one (.pv (.int .i64)), .one (.pv (.int .i64)), .one (.pv (.int .i64)), .one (.pv (.int .i64)), .one (.pv (.int .i64)), .one (.pv (.int .i64))], [.row 3 (.int .i64)]⟩)]
@[reducible] def warp_fill.s4 : Sh := ⟨[.one (.is (.own 0)), .one (.pv (.list (.int .i64))), .one (.pv (.list (.int .i64))), .one (.pv (.list (.int .i64))), .one (.pv (.int .i64)), .one (.pv (.int .i64)), .one (.pv (.int .i64)), .one (.pv (.int .i64)), .one (.pv (.int .i64)), .one (.pv (.int .i64)), .one (.pv .bool)], [.row 3 (.int .i64)]⟩
@[reducible] def warp_fill.x4 : List (Ex × Sh) := [(.normal, ⟨[.one (.is (.own 0)), .one (.pv (.list (.int .i64))), .one (.pv (.list (.int .i64))), .one (.pv (.list (.int .i64))), .one (.pv (.int .i64)), .one (.pv (.int .i64)), .one (.pv (.int .i64)), .one (.pv (.int .i64)), .one (.pv (.int .i64)), .one (.pv (.int .i64))], [.row 3 (.int .i64)]⟩)]
@[reducible] def warp_fill.s5 : Sh := ⟨[.one (.is (.own 0)), .one (.pv (.list (.int .i64))), .one (.pv (.list (.int .i64))), .one (.pv (.list (.int .i64))), .one (.pv (.int .i64)), .one (.pv (.int .i64)), .one (.pv (.int .i64)), .one (.pv (.int .i64)), .one (.pv (.int .i64)), .one (.pv (.int .i64))], [.row 3 (.int .i64)]⟩
@[reducible] def warp_fill.x5 : List (Ex × Sh) := [(.normal, ⟨[.one (.is (.own 0)), .one (.pv (.list (.int .i64))), .one (.pv (.list (.int .i64))), .one (.pv (.list (.int .i64))), .one (.pv (.int .i64)), .one (.pv (.int .i64)), .one (.pv (.int .i64)), .one (.pv (.int .i64)), .one (.pv (.int .i64)), .one (.pv (.int .i64)), .one (.pv .bool)], [.row 3 (.int .i64)]⟩)]
def warp_fill.hs : List Hint := [⟨[0, 1], 0, [0, 1, 2, 3, 4, 5, 15, 16], [(2, [])]⟩, ⟨[0, 0, 1, 1, 1, 1, 0, 0, 1, 1, 0, 0, 1], 1, [0, 1, 2, 3, 4, 5, 12, 13, 15, 16], [(0, [0, 1, 2, 3, 4, 5, 12, 13, 15, 16, 32])]⟩, ⟨[1, 0, 1, 1, 1, 1, 0, 0, 1, 1, 0, 0, 1], 2, [0, 1, 2, 3, 4, 5, 12, 13, 15, 16, 32], [(0, [0, 1, 2, 3, 4, 5, 12, 13, 15, 16])]⟩, ⟨[1, 0, 1, 1, 1, 1, 1, 0, 0, 1, 1, 0, 0, 1], 3, [0, 1, 2, 3, 4, 5, 12, 13, 15, 16, 34], [(0, [0, 1, 2, 3, 4, 5, 12, 13, 15, 16])]⟩, ⟨[1, 0, 1, 1, 1, 1, 1, 1, 0, 0, 1, 1, 0, 0, 1], 4, [0, 1, 2, 3, 4, 5, 12, 13, 15, 16, 43], [(0, [0, 1, 2, 3, 4, 5, 12, 13, 15, 16])]⟩, ⟨[0, 0, 1, 1, 1, 1, 1, 1, 1, 0, 0, 1, 1, 0, 0, 1], 5, [0, 1, 2, 3, 4, 5, 12, 13, 15, 16], [(0, [0, 1, 2, 3, 4, 5, 12, 13, 15, 16, 55])]⟩]
def warp_fill.E (g_warp_near : warp_near.sh.X → Option warp_near.osh.X) (l0 : ((Unit × (List Int) × (List Int) × (List Int) × Int × Int × Int × Int × Unit) × ((List Int) × Unit)) → Option (((Unit) × ((List Int) × Unit)) ⊕ Empty)) (l1 : ((Unit × (List Int) × (List Int) × (List Int) × Int × Int × Int × Int × Int × Int × Unit) × ((List Int) × Unit)) → Option (((Unit × (List Int) × (List Int) × (List Int) × Int × Int × Int × Int × Int × Int × Bool × Unit) × ((List Int) × Unit)) ⊕ Empty)) (l2 : ((Unit × (List Int) × (List Int) × (List Int) × Int × Int × Int × Int × Int × Int × Bool × Unit) × ((List Int) × Unit)) → Option (((Unit × (List Int) × (List Int) × (List Int) × Int × Int × Int × Int × Int × Int × Unit) × ((List Int) × Unit)) ⊕ Empty)) (l3 : ((Unit × (List Int) × (List Int) × (List Int) × Int × Int × Int × Int × Int × Int × Bool × Unit) × ((List Int) × Unit)) → Option (((Unit × (List Int) × (List Int) × (List Int) × Int × Int × Int × Int × Int × Int × Unit) × ((List Int) × Unit)) ⊕ Empty)) (l4 : ((Unit × (List Int) × (List Int) × (List Int) × Int × Int × Int × Int × Int × Int × Bool × Unit) × ((List Int) × Unit)) → Option (((Unit × (List Int) × (List Int) × (List Int) × Int × Int × Int × Int × Int × Int × Unit) × ((List Int) × Unit)) ⊕ Empty)) (l5 : ((Unit × (List Int) × (List Int) × (List Int) × Int × Int × Int × Int × Int × Int × Unit) × ((List Int) × Unit)) → Option (((Unit × (List Int) × (List Int) × (List Int) × Int × Int × Int × Int × Int × Int × Bool × Unit) × ((List Int) × Unit)) ⊕ Empty)) : Env := ⟨T, fun n ks => bif Nat.beq n 91 && eqPath ks [] then some (FE.of [true, true, true] false warp_near.sh warp_near.osh g_warp_near) else none, fun n => bif Nat.beq n 0 then some (LE.of warp_fill.s0 warp_fill.x0 l0) else bif Nat.beq n 1 then some (LE.of warp_fill.s1 warp_fill.x1 l1) else bif Nat.beq n 2 then some (LE.of warp_fill.s2 warp_fill.x2 l2) else bif Nat.beq n 3 then some (LE.of warp_fill.s3 warp_fill.x3 l3) else bif Nat.beq n 4 then some (LE.of warp_fill.s4 warp_fill.x4 l4) else bif Nat.beq n 5 then some (LE.of warp_fill.s5 warp_fill.x5 l5) else none, 93, 1, Gt⟩

/-! slices_Min: slices.Min[[]int,int] -/
noncomputable def slices_Min.c : Go.Code := Go.Proofs.Tryd.f77.body.getD .skip
@[reducible] def slices_Min.sh : Sh := ⟨[.one (.pv (.list (.int .i64)))], []⟩
@[reducible] def slices_Min.osh : Sh := ⟨[.one (.pv (.int .i64))], []⟩
@[reducible] def slices_Min.s0 : Sh := ⟨[.one (.pv (.list (.int .i64))), .one (.pv (.int .i64)), .one (.pv (.int .i64))], []⟩
@[reducible] def slices_Min.x0 : List (Ex × Sh) := [(.exit 0, ⟨[.one (.pv (.int .i64))], []⟩)]
def slices_Min.hs : List Hint := [⟨[0, 1, 0, 1, 1, 1], 0, [0, 3, 4], [(2, [3])]⟩]
def slices_Min.E (l0 : (((List Int) × Int × Int × Unit) × (Unit)) → Option (((Int × Unit) × (Unit)) ⊕ Empty)) : Env := ⟨T, fun n ks => none, fun n => bif Nat.beq n 0 then some (LE.of slices_Min.s0 slices_Min.x0 l0) else none, 25, 0, Gt⟩

/-! warp_distance: shapesearch/warp.distance -/
noncomputable def warp_distance.c : Go.Code := Go.Proofs.Tryd.f61.body.getD .skip
@[reducible] def warp_distance.sh : Sh := ⟨[.one (.pv (.list (.int .i64))), .one (.pv (.list (.int .i64))), .one (.pv (.int .i64)), .one (.pv (.int .i64))], []⟩
@[reducible] def warp_distance.osh : Sh := ⟨[.one (.pv (.int .i64))], []⟩
@[reducible] def warp_distance.s0 : Sh := ⟨[.one (.pv (.list (.int .i64))), .one (.pv (.list (.int .i64))), .one (.pv (.int .i64)), .one (.pv (.int .i64)), .one (.is (.own 0)), .one (.is (.own 1)), .one (.pv (.int .i64)), .one (.pv (.int .i64))], [.row 3 (.int .i64), .row 3 (.int .i64)]⟩
@[reducible] def warp_distance.x0 : List (Ex × Sh) := [(.exit 0, ⟨[.one (.pv (.list (.int .i64))), .one (.is (.own 0))], [.row 3 (.int .i64)]⟩), (.ret, ⟨[.one (.pv (.int .i64))], []⟩)]
def warp_distance.hs : List Hint := [⟨[0, 1, 0, 1, 1], 0, [0, 1, 2, 3, 9, 10, 19, 20], [(2, [1, 10]), (1, [8])]⟩]
def warp_distance.E (g_warp_fill : warp_fill.sh.X → Option warp_fill.osh.X) (g_slices_Min : slices_Min.sh.X → Option slices_Min.osh.X) (l0 : (((List Int) × (List Int) × Int × Int × Unit × Unit × Int × Int × Unit) × ((List Int) × (List Int) × Unit)) → Option ((((List Int) × Unit × Unit) × ((List Int) × Unit)) ⊕ ((Int × Unit) × (Unit)) ⊕ Empty)) : Env := ⟨T, fun n ks => bif Nat.beq n 76 && eqPath ks [] then some (FE.of [false, true, true, true, true, true] false warp_fill.sh warp_fill.osh g_warp_fill) else bif Nat.beq n 77 && eqPath ks [] then some (FE.of [true] false slices_Min.sh slices_Min.osh g_slices_Min) else none, fun n => bif Nat.beq n 0 then some (LE.of warp_distance.s0 warp_distance.x0 l0) else none, 43, 0, Gt⟩

/-! warp_Distance: shapesearch/warp.Distance -/
noncomputable def warp_Distance.c : Go.Code := Go.Proofs.Tryd.f45.body.getD .skip
@[reducible] def warp_Distance.sh : Sh := ⟨[.one (.pv (.list (.int .i64))), .one (.pv (.list (.int .i64))), .one (.pv (.int .i64))], []⟩
@[reducible] def warp_Distance.osh : Sh := ⟨[.one (.pv (.int .i64)), .one (.pv (.int .i64))], []⟩
def warp_Distance.hs : List Hint := []
def warp_Distance.E (g_warp_check : warp_check.sh.X → Option warp_check.osh.X) (g_warp_distance : warp_distance.sh.X → Option warp_distance.osh.X) : Env := ⟨T, fun n ks => bif Nat.beq n 60 && eqPath ks [] then some (FE.of [true, true, true] false warp_check.sh warp_check.osh g_warp_check) else bif Nat.beq n 61 && eqPath ks [] then some (FE.of [true, true, true, true] false warp_distance.sh warp_distance.osh g_warp_distance) else none, fun n => none, 20, 0, Gt⟩

/-! measure_distances_2: shapesearch/measure.distances$2 -/
noncomputable def measure_distances_2.c : Go.Code := Go.Proofs.Tryd.f44.body.getD .skip
@[reducible] def measure_distances_2.sh : Sh := ⟨[.one (.pv (.list (.int .i64))), .one (.pv (.list (.int .i64))), .one (.is (.ptr 0 0 0))], [.box [.pv (.int .i64), .pv (.int .i64), .pv (.int .i64)]]⟩
@[reducible] def measure_distances_2.osh : Sh := ⟨[.agg [.pv (.int .i64), .pv (.int .i64)], .one (.pv (.int .i64))], [.box [.pv (.int .i64), .pv (.int .i64), .pv (.int .i64)]]⟩
def measure_distances_2.hs : List Hint := []
def measure_distances_2.E (g_warp_Distance : warp_Distance.sh.X → Option warp_Distance.osh.X) (g_measure_whole : measure_whole.sh.X → Option measure_whole.osh.X) : Env := ⟨T, fun n ks => bif Nat.beq n 45 && eqPath ks [] then some (FE.of [true, true, true] false warp_Distance.sh warp_Distance.osh g_warp_Distance) else bif Nat.beq n 40 && eqPath ks [] then some (FE.of [true, true] false measure_whole.sh measure_whole.osh g_measure_whole) else none, fun n => none, 17, 1, Gt⟩

/-! edit_check: shapesearch/edit.check -/
noncomputable def edit_check.c : Go.Code := Go.Proofs.Tryd.f62.body.getD .skip
@[reducible] def edit_check.sh : Sh := ⟨[.one (.pv (.list (.int .i64))), .one (.pv (.list (.int .i64))), .one (.pv (.int .i64))], []⟩
@[reducible] def edit_check.osh : Sh := ⟨[.one (.pv (.int .i64))], []⟩
@[reducible] def edit_check.s0 : Sh := ⟨[.one (.pv (.list (.int .i64))), .one (.pv (.list (.int .i64))), .one (.pv (.int .i64))], []⟩
@[reducible] def edit_check.x0 : List (Ex × Sh) := [(.normal, ⟨[.one (.pv (.list (.int .i64))), .one (.pv (.list (.int .i64))), .one (.pv .bool)], []⟩)]
def edit_check.hs : List Hint := [⟨[0, 0, 1], 0, [0, 1, 2], [(0, [0, 1, 16])]⟩]
def edit_check.E (g_euclid_Distance : euclid_Distance.sh.X → Option euclid_Distance.osh.X) (l0 : (((List Int) × (List Int) × Int × Unit) × (Unit)) → Option ((((List Int) × (List Int) × Bool × Unit) × (Unit)) ⊕ Empty)) : Env := ⟨T, fun n ks => bif Nat.beq n 41 && eqPath ks [] then some (FE.of [true, true] false euclid_Distance.sh euclid_Distance.osh g_euclid_Distance) else none, fun n => bif Nat.beq n 0 then some (LE.of edit_check.s0 edit_check.x0 l0) else none, 38, 0, Gt⟩

/-! edit_apart: shapesearch/edit.apart -/
noncomputable def edit_apart.c : Go.Code := Go.Proofs.Tryd.f92.body.getD .skip
@[reducible] def edit_apart.sh : Sh := ⟨[.one (.pv (.int .i64)), .one (.pv (.int .i64))], []⟩
@[reducible] def edit_apart.osh : Sh := ⟨[.one (.pv (.int .i64))], []⟩
def edit_apart.hs : List Hint := []
def edit_apart.E : Env := ⟨T, fun n ks => none, fun n => none, 12, 0, Gt⟩

/-! edit_last: shapesearch/edit.last -/
noncomputable def edit_last.c : Go.Code := Go.Proofs.Tryd.f78.body.getD .skip
@[reducible] def edit_last.sh : Sh := ⟨[.one (.pv (.int .i64)), .one (.pv (.list (.int .i64))), .one (.pv (.list (.int .i64))), .one (.pv (.int .i64)), .one (.pv (.int .i64)), .one (.pv (.int .i64))], []⟩
@[reducible] def edit_last.osh : Sh := ⟨[.one (.pv (.int .i64)), .one (.pv (.int .i64)), .one (.pv (.int .i64)), .one (.pv .bool)], []⟩
@[reducible] def edit_last.s0 : Sh := ⟨[.one (.pv (.int .i64)), .one (.pv (.list (.int .i64))), .one (.pv (.list (.int .i64))), .one (.pv (.int .i64)), .one (.pv (.int .i64)), .one (.pv (.int .i64))], []⟩
@[reducible] def edit_last.x0 : List (Ex × Sh) := [(.normal, ⟨[.one (.pv (.int .i64)), .one (.pv (.list (.int .i64))), .one (.pv (.list (.int .i64))), .one (.pv (.int .i64)), .one (.pv (.int .i64)), .one (.pv (.int .i64)), .one (.pv .bool)], []⟩)]
@[reducible] def edit_last.s1 : Sh := ⟨[.one (.pv (.int .i64)), .one (.pv (.list (.int .i64))), .one (.pv (.list (.int .i64))), .one (.pv (.int .i64)), .one (.pv (.int .i64)), .one (.pv (.int .i64))], []⟩
@[reducible] def edit_last.x1 : List (Ex × Sh) := [(.normal, ⟨[.one (.pv (.int .i64)), .one (.pv (.list (.int .i64))), .one (.pv (.list (.int .i64))), .one (.pv (.int .i64)), .one (.pv (.int .i64)), .one (.pv (.int .i64)), .one (.pv .bool)], []⟩)]
@[reducible] def edit_last.s2 : Sh := ⟨[.one (.pv (.int .i64)), .one (.pv (.list (.int .i64))), .one (.pv (.int .i64)), .one (.pv (.int .i64)), .one (.pv (.int .i64))], []⟩
@[reducible] def edit_last.x2 : List (Ex × Sh) := [(.normal, ⟨[.one (.pv (.list (.int .i64))), .one (.pv (.int .i64)), .one (.pv (.int .i64)), .one (.pv (.int .i64)), .one (.pv .bool)], []⟩)]
def edit_last.hs : List Hint := [⟨[0, 0, 0, 1], 0, [0, 1, 2, 3, 4, 5], [(0, [0, 1, 2, 3, 4, 5, 16])]⟩, ⟨[0, 1, 1, 0, 0, 1], 1, [0, 1, 2, 3, 4, 5], [(0, [0, 1, 2, 3, 4, 5, 42])]⟩, ⟨[0, 1, 1, 1, 1, 0, 0, 1], 2, [0, 2, 3, 4, 5], [(0, [2, 3, 4, 5, 59])]⟩]
def edit_last.E (g_edit_apart : edit_apart.sh.X → Option edit_apart.osh.X) (l0 : ((Int × (List Int) × (List Int) × Int × Int × Int × Unit) × (Unit)) → Option (((Int × (List Int) × (List Int) × Int × Int × Int × Bool × Unit) × (Unit)) ⊕ Empty)) (l1 : ((Int × (List Int) × (List Int) × Int × Int × Int × Unit) × (Unit)) → Option (((Int × (List Int) × (List Int) × Int × Int × Int × Bool × Unit) × (Unit)) ⊕ Empty)) (l2 : ((Int × (List Int) × Int × Int × Int × Unit) × (Unit)) → Option ((((List Int) × Int × Int × Int × Bool × Unit) × (Unit)) ⊕ Empty)) : Env := ⟨T, fun n ks => bif Nat.beq n 92 && eqPath ks [] then some (FE.of [true, true] false edit_apart.sh edit_apart.osh g_edit_apart) else none, fun n => bif Nat.beq n 0 then some (LE.of edit_last.s0 edit_last.x0 l0) else bif Nat.beq n 1 then some (LE.of edit_last.s1 edit_last.x1 l1) else bif Nat.beq n 2 then some (LE.of edit_last.s2 edit_last.x2 l2) else none, 76, 0, Gt⟩

/-! edit_table: shapesearch/edit.table -/
noncomputable def edit_table.c : Go.Code := Go.Proofs.Tryd.f63.body.getD .skip
@[reducible] def edit_table.sh : Sh := ⟨[.one (.pv (.list (.int .i64))), .one (.pv (.list (.int .i64))), .one (.pv (.int .i64))], []⟩
@[reducible] def edit_table.osh : Sh := ⟨[.one (.arr)], []⟩
@[reducible] def edit_table.s0 : Sh := ⟨[.one (.pv (.list (.int .i64))), .one (.pv (.list (.int .i64))), .one (.pv (.int .i64)), .one (.is (.ptr 0 0 0)), .one (.is (.ptr 1 0 0)), .one (.pv (.int .i64))], [.row 82 (.int .i64), .row 82 (.int .i64)]⟩
@[reducible] def edit_table.x0 : List (Ex × Sh) := [(.exit 0, ⟨[.one (.is (.ptr 0 0 0)), .one (.is (.ptr 1 0 0))], [.row 82 (.int .i64), .row 82 (.int .i64)]⟩)]
@[reducible] def edit_table.s1 : Sh := ⟨[.one (.pv (.list (.int .i64))), .one (.pv (.list (.int .i64))), .one (.pv (.int .i64)), .one (.is (.ptr 0 0 0)), .one (.is (.ptr 1 0 0)), .one (.pv (.int .i64)), .one (.pv (.int .i64))], [.row 82 (.int .i64), .row 82 (.int .i64)]⟩
@[reducible] def edit_table.x1 : List (Ex × Sh) := [(.exit 2, ⟨[.one (.pv (.list (.int .i64))), .one (.pv (.list (.int .i64))), .one (.pv (.int .i64)), .one (.is (.ptr 0 0 0)), .one (.is (.ptr 1 0 0)), .one (.pv (.int .i64))], [.row 82 (.int .i64), .row 82 (.int .i64)]⟩)]
@[reducible] def edit_table.s2 : Sh := ⟨[.one (.pv (.list (.int .i64))), .one (.pv (.list (.int .i64))), .one (.pv (.int .i64)), .one (.is (.ptr 0 0 0)), .one (.is (.ptr 1 0 0)), .one (.pv (.int .i64)), .one (.pv (.int .i64)), .one (.pv .bool), .one (.pv (.int .i64))], [.row 82 (.int .i64), .row 82 (.int .i64)]⟩
@[reducible] def edit_table.x2 : List (Ex × Sh) := [(.exit 4, ⟨[.one (.pv (.list (.int .i64))), .one (.pv (.list (.int .i64))), .one (.pv (.int .i64)), .one (.is (.ptr 0 0 0)), .one (.is (.ptr 1 0 0)), .one (.pv (.int .i64)), .one (.pv (.int .i64))], [.row 82 (.int .i64), .row 82 (.int .i64)]⟩)]
@[reducible] def edit_table.s3 : Sh := ⟨[.one (.pv (.list (.int .i64))), .one (.pv (.list (.int .i64))), .one (.pv (.int .i64)), .one (.is (.ptr 0 0 0)), .one (.is (.ptr 1 0 0)), .one (.pv (.int .i64)), .one (.pv (.int .i64)), .one (.pv .bool), .one (.pv (.int .i64)), .one (.pv (.int .i64)), .one (.pv (.int .i64)), .one (.pv (.int .i64)), .one (.pv .bool)], [.row 82 (.int .i64), .row 82 (.int .i64)]⟩
@[reducible] def edit_table.x3 : List (Ex × Sh) := [(.normal, ⟨[.one (.pv (.list (.int .i64))), .one (.pv (.list (.int .i64))), .one (.pv (.int .i64)), .one (.is (.ptr 0 0 0)), .one (.is (.ptr 1 0 0)), .one (.pv (.int .i64)), .one (.pv (.int .i64)), .one (.pv .bool), .one (.pv (.int .i64)), .one (.pv (.int .i64)), .one (.pv (.int .i64)), .one (.pv (.int .i64)), .one (.pv .bool)], [.row 82 (.int .i64), .row 82 (.int .i64)]⟩)]
def edit_table.hs : List Hint := [⟨[0, 1, 0, 1, 1], 0, [0, 1, 2, 6, 7, 8], [(2, [6, 7])]⟩, ⟨[0, 1, 0, 0, 1, 0, 0, 1, 0, 1, 1], 1, [0, 1, 2, 6, 7, 8, 9], [(4, [0, 1, 2, 6, 7, 8])]⟩, ⟨[0, 1, 1, 0, 0, 1, 0, 0, 1, 0, 0, 1, 0, 0, 1, 0, 1, 1], 2, [0, 1, 2, 6, 7, 8, 9, 10, 11], [(6, [0, 1, 2, 6, 7, 8, 9])]⟩, ⟨[0, 1, 0, 0, 1, 0, 0, 1, 1, 0, 0, 1, 0, 0, 1, 0, 0, 1, 0, 0, 1, 0, 1, 1], 3, [0, 1, 2, 6, 7, 8, 9, 10, 11, 12, 13, 14, 15], [(0, [0, 1, 2, 6, 7, 8, 9, 10, 11, 12, 13, 14, 62])]⟩]
def edit_table.E (g_edit_last : edit_last.sh.X → Option edit_last.osh.X) (l0 : (((List Int) × (List Int) × Int × Unit × Unit × Int × Unit) × ((List Int) × (List Int) × Unit)) → Option (((Unit × Unit × Unit) × ((List Int) × (List Int) × Unit)) ⊕ Empty)) (l1 : (((List Int) × (List Int) × Int × Unit × Unit × Int × Int × Unit) × ((List Int) × (List Int) × Unit)) → Option ((((List Int) × (List Int) × Int × Unit × Unit × Int × Unit) × ((List Int) × (List Int) × Unit)) ⊕ Empty)) (l2 : (((List Int) × (List Int) × Int × Unit × Unit × Int × Int × Bool × Int × Unit) × ((List Int) × (List Int) × Unit)) → Option ((((List Int) × (List Int) × Int × Unit × Unit × Int × Int × Unit) × ((List Int) × (List Int) × Unit)) ⊕ Empty)) (l3 : (((List Int) × (List Int) × Int × Unit × Unit × Int × Int × Bool × Int × Int × Int × Int × Bool × Unit) × ((List Int) × (List Int) × Unit)) → Option ((((List Int) × (List Int) × Int × Unit × Unit × Int × Int × Bool × Int × Int × Int × Int × Bool × Unit) × ((List Int) × (List Int) × Unit)) ⊕ Empty)) : Env := ⟨T, fun n ks => bif Nat.beq n 78 && eqPath ks [] then some (FE.of [true, true, true, true, true, true] false edit_last.sh edit_last.osh g_edit_last) else none, fun n => bif Nat.beq n 0 then some (LE.of edit_table.s0 edit_table.x0 l0) else bif Nat.beq n 1 then some (LE.of edit_table.s1 edit_table.x1 l1) else bif Nat.beq n 2 then some (LE.of edit_table.s2 edit_table.x2 l2) else bif Nat.beq n 3 then some (LE.of edit_table.s3 edit_table.x3 l3) else none, 75, 0, Gt⟩

/-! edit_Distance: shapesearch/edit.Distance -/
noncomputable def edit_Distance.c : Go.Code := Go.Proofs.Tryd.f47.body.getD .skip
@[reducible] def edit_Distance.sh : Sh := ⟨[.one (.pv (.list (.int .i64))), .one (.pv (.list (.int .i64))), .one (.pv (.int .i64))], []⟩
@[reducible] def edit_Distance.osh : Sh := ⟨[.one (.pv (.int .i64)), .one (.pv (.int .i64))], []⟩
def edit_Distance.hs : List Hint := []
def edit_Distance.E (g_edit_check : edit_check.sh.X → Option edit_check.osh.X) (g_edit_table : edit_table.sh.X → Option edit_table.osh.X) : Env := ⟨T, fun n ks => bif Nat.beq n 62 && eqPath ks [] then some (FE.of [true, true, true] false edit_check.sh edit_check.osh g_edit_check) else bif Nat.beq n 63 && eqPath ks [] then some (FE.of [true, true, true] false edit_table.sh edit_table.osh g_edit_table) else none, fun n => none, 26, 0, Gt⟩

/-! measure_distances_3: shapesearch/measure.distances$3 -/
noncomputable def measure_distances_3.c : Go.Code := Go.Proofs.Tryd.f46.body.getD .skip
@[reducible] def measure_distances_3.sh : Sh := ⟨[.one (.pv (.list (.int .i64))), .one (.pv (.list (.int .i64))), .one (.is (.ptr 0 0 0))], [.box [.pv (.int .i64), .pv (.int .i64), .pv (.int .i64)]]⟩
@[reducible] def measure_distances_3.osh : Sh := ⟨[.agg [.pv (.int .i64), .pv (.int .i64)], .one (.pv (.int .i64))], [.box [.pv (.int .i64), .pv (.int .i64), .pv (.int .i64)]]⟩
def measure_distances_3.hs : List Hint := []
def measure_distances_3.E (g_edit_Distance : edit_Distance.sh.X → Option edit_Distance.osh.X) (g_measure_whole : measure_whole.sh.X → Option measure_whole.osh.X) : Env := ⟨T, fun n ks => bif Nat.beq n 47 && eqPath ks [] then some (FE.of [true, true, true] false edit_Distance.sh edit_Distance.osh g_edit_Distance) else bif Nat.beq n 40 && eqPath ks [] then some (FE.of [true, true] false measure_whole.sh measure_whole.osh g_measure_whole) else none, fun n => none, 17, 1, Gt⟩

/-! measure_Distance: shapesearch/measure.Distance -/
noncomputable def measure_Distance.c : Go.Code := Go.Proofs.Tryd.f11.body.getD .skip
@[reducible] def measure_Distance.sh : Sh := ⟨[.agg [.pv (.int .i64), .pv (.int .i64), .pv (.int .i64)], .one (.pv (.list (.int .i64))), .one (.pv (.list (.int .i64)))], []⟩
@[reducible] def measure_Distance.osh : Sh := ⟨[.agg [.pv (.int .i64), .pv (.int .i64)], .one (.pv (.int .i64))], []⟩
def measure_Distance.hs : List Hint := []
def measure_Distance.E (g_measure_Check : measure_Check.sh.X → Option measure_Check.osh.X) (g_measure_distances : measure_distances.sh.X → Option measure_distances.osh.X) (g_measure_distances_1 : measure_distances_1.sh.X → Option measure_distances_1.osh.X) (g_euclid_Shifted : euclid_Shifted.sh.X → Option euclid_Shifted.osh.X) (g_normal_Gap : normal_Gap.sh.X → Option normal_Gap.osh.X) (g_measure_distances_2 : measure_distances_2.sh.X → Option measure_distances_2.osh.X) (g_measure_distances_3 : measure_distances_3.sh.X → Option measure_distances_3.osh.X) : Env := ⟨T, fun n ks => bif Nat.beq n 18 && eqPath ks [] then some (FE.of [true] false measure_Check.sh measure_Check.osh g_measure_Check) else bif Nat.beq n 25 && eqPath ks [] then some (FE.of [true] true measure_distances.sh measure_distances.osh g_measure_distances) else bif Nat.beq n 39 && eqPath ks [] then some (FE.of [true, true] false measure_distances_1.sh measure_distances_1.osh g_measure_distances_1) else bif Nat.beq n 42 && eqPath ks [] then some (FE.of [true, true] false euclid_Shifted.sh euclid_Shifted.osh g_euclid_Shifted) else bif Nat.beq n 43 && eqPath ks [] then some (FE.of [true, true] false normal_Gap.sh normal_Gap.osh g_normal_Gap) else bif Nat.beq n 44 && eqPath ks [] then some (FE.of [true, true] false measure_distances_2.sh measure_distances_2.osh g_measure_distances_2) else bif Nat.beq n 46 && eqPath ks [] then some (FE.of [true, true] false measure_distances_3.sh measure_distances_3.osh g_measure_distances_3) else none, fun n => none, 25, 0, Gt⟩

/-! ref01_common: shapesearch/shapesearchref01.common -/
noncomputable def ref01_common.c : Go.Code := Go.Proofs.Tryd.f26.body.getD .skip
@[reducible] def ref01_common.sh : Sh := ⟨[.one (.pv (.int .i64)), .one (.pv (.int .i64))], []⟩
@[reducible] def ref01_common.osh : Sh := ⟨[.one (.pv (.int .i64))], []⟩
@[reducible] def ref01_common.s0 : Sh := ⟨[.one (.pv (.int .i64)), .one (.pv (.int .i64))], []⟩
@[reducible] def ref01_common.x0 : List (Ex × Sh) := [(.exit 0, ⟨[.one (.pv (.int .i64))], []⟩)]
def ref01_common.hs : List Hint := [⟨[0, 0, 1], 0, [0, 1], [(2, [0])]⟩]
def ref01_common.E (l0 : ((Int × Int × Unit) × (Unit)) → Option (((Int × Unit) × (Unit)) ⊕ Empty)) : Env := ⟨T, fun n ks => none, fun n => bif Nat.beq n 0 then some (LE.of ref01_common.s0 ref01_common.x0 l0) else none, 12, 0, Gt⟩

/-! ref01_Valid: shapesearch/shapesearchref01.Valid -/
noncomputable def ref01_Valid.c : Go.Code := Go.Proofs.Tryd.f12.body.getD .skip
@[reducible] def ref01_Valid.sh : Sh := ⟨[.agg [.pv (.int .i64), .pv (.int .i64)]], []⟩
@[reducible] def ref01_Valid.osh : Sh := ⟨[.one (.pv .bool)], []⟩
@[reducible] def ref01_Valid.s0 : Sh := ⟨[.one (.is (.ptr 0 0 0))], [.box [.pv (.int .i64), .pv (.int .i64)]]⟩
@[reducible] def ref01_Valid.x0 : List (Ex × Sh) := [(.normal, ⟨[.one (.pv .bool)], []⟩)]
def ref01_Valid.hs : List Hint := [⟨[0, 1], 0, [1], [(0, [2])]⟩]
def ref01_Valid.E (g_ref01_common : ref01_common.sh.X → Option ref01_common.osh.X) (l0 : ((Unit × Unit) × ((Int × Int × Unit) × Unit)) → Option (((Bool × Unit) × (Unit)) ⊕ Empty)) : Env := ⟨T, fun n ks => bif Nat.beq n 26 && eqPath ks [] then some (FE.of [true, true] false ref01_common.sh ref01_common.osh g_ref01_common) else none, fun n => bif Nat.beq n 0 then some (LE.of ref01_Valid.s0 ref01_Valid.x0 l0) else none, 29, 0, Gt⟩

/-! stringslite_IndexByte: internal/stringslite.IndexByte -/
noncomputable def stringslite_IndexByte.c : Go.Code := Go.Proofs.Tryd.f79.body.getD .skip
@[reducible] def stringslite_IndexByte.sh : Sh := ⟨[.one (.pv .str), .one (.pv (.int .u8))], []⟩
@[reducible] def stringslite_IndexByte.osh : Sh := ⟨[.one (.pv (.int .i64))], []⟩
def stringslite_IndexByte.hs : List Hint := []
def stringslite_IndexByte.E : Env := ⟨T, fun n ks => none, fun n => none, 8, 0, Gt⟩

/-! stringslite_Index: internal/stringslite.Index -/
noncomputable def stringslite_Index.c : Go.Code := Go.Proofs.Tryd.f64.body.getD .skip
@[reducible] def stringslite_Index.sh : Sh := ⟨[.one (.pv .str), .one (.pv .str)], []⟩
@[reducible] def stringslite_Index.osh : Sh := ⟨[.one (.pv (.int .i64))], []⟩
@[reducible] def stringslite_Index.s0 : Sh := ⟨[.one (.pv .str), .one (.pv .str), .one (.pv (.int .i64))], []⟩
@[reducible] def stringslite_Index.x0 : List (Ex × Sh) := [(.ret, ⟨[.one (.pv (.int .i64))], []⟩)]
@[reducible] def stringslite_Index.s1 : Sh := ⟨[.one (.pv .str), .one (.pv .str), .one (.pv (.int .i64))], []⟩
@[reducible] def stringslite_Index.x1 : List (Ex × Sh) := [(.normal, ⟨[.one (.pv .str), .one (.pv .str), .one (.pv (.int .i64)), .one (.pv .bool)], []⟩)]
def stringslite_Index.hs : List Hint := [⟨[0, 1, 1], 0, [0, 1, 5], [(1, [4])]⟩, ⟨[0, 0, 0, 1, 1], 1, [0, 1, 5], [(0, [0, 1, 5, 16])]⟩]
def stringslite_Index.E (g_stringslite_IndexByte : stringslite_IndexByte.sh.X → Option stringslite_IndexByte.osh.X) (l0 : ((ByteArray × ByteArray × Int × Unit) × (Unit)) → Option (((Int × Unit) × (Unit)) ⊕ Empty)) (l1 : ((ByteArray × ByteArray × Int × Unit) × (Unit)) → Option (((ByteArray × ByteArray × Int × Bool × Unit) × (Unit)) ⊕ Empty)) : Env := ⟨T, fun n ks => bif Nat.beq n 79 && eqPath ks [] then some (FE.of [true, true] false stringslite_IndexByte.sh stringslite_IndexByte.osh g_stringslite_IndexByte) else none, fun n => bif Nat.beq n 0 then some (LE.of stringslite_Index.s0 stringslite_Index.x0 l0) else bif Nat.beq n 1 then some (LE.of stringslite_Index.s1 stringslite_Index.x1 l1) else none, 143, 0, Gt⟩

/-! stringslite_Cut: internal/stringslite.Cut -/
noncomputable def stringslite_Cut.c : Go.Code := Go.Proofs.Tryd.f49.body.getD .skip
@[reducible] def stringslite_Cut.sh : Sh := ⟨[.one (.pv .str), .one (.pv .str)], []⟩
@[reducible] def stringslite_Cut.osh : Sh := ⟨[.one (.pv .str), .one (.pv .str), .one (.pv .bool)], []⟩
def stringslite_Cut.hs : List Hint := []
def stringslite_Cut.E (g_stringslite_Index : stringslite_Index.sh.X → Option stringslite_Index.osh.X) : Env := ⟨T, fun n ks => bif Nat.beq n 64 && eqPath ks [] then some (FE.of [true, true] false stringslite_Index.sh stringslite_Index.osh g_stringslite_Index) else none, fun n => none, 23, 0, Gt⟩

/-! strings_Cut: strings.Cut -/
noncomputable def strings_Cut.c : Go.Code := Go.Proofs.Tryd.f30.body.getD .skip
@[reducible] def strings_Cut.sh : Sh := ⟨[.one (.pv .str), .one (.pv .str)], []⟩
@[reducible] def strings_Cut.osh : Sh := ⟨[.one (.pv .str), .one (.pv .str), .one (.pv .bool)], []⟩
def strings_Cut.hs : List Hint := []
def strings_Cut.E (g_stringslite_Cut : stringslite_Cut.sh.X → Option stringslite_Cut.osh.X) : Env := ⟨T, fun n ks => bif Nat.beq n 49 && eqPath ks [] then some (FE.of [true, true] false stringslite_Cut.sh stringslite_Cut.osh g_stringslite_Cut) else none, fun n => none, 13, 0, Gt⟩

/-! strconv_Atoi: strconv.Atoi -/
noncomputable def strconv_Atoi.c : Go.Code := Go.Proofs.Tryd.f31.body.getD .skip
@[reducible] def strconv_Atoi.sh : Sh := ⟨[.one (.pv .str)], []⟩
@[reducible] def strconv_Atoi.osh : Sh := ⟨[.one (.pv (.int .i64)), .one (.pv (.err 32))], []⟩
def strconv_Atoi.hs : List Hint := []
def strconv_Atoi.E : Env := ⟨T, fun n ks => none, fun n => none, 18, 0, Gt⟩

/-! strconv_Itoa: strconv.Itoa -/
noncomputable def strconv_Itoa.c : Go.Code := Go.Proofs.Tryd.f33.body.getD .skip
@[reducible] def strconv_Itoa.sh : Sh := ⟨[.one (.pv (.int .i64))], []⟩
@[reducible] def strconv_Itoa.osh : Sh := ⟨[.one (.pv .str)], []⟩
def strconv_Itoa.hs : List Hint := []
def strconv_Itoa.E : Env := ⟨T, fun n ks => none, fun n => none, 5, 0, Gt⟩

/-! measure_Format: shapesearch/measure.Format -/
noncomputable def measure_Format.c : Go.Code := Go.Proofs.Tryd.f17.body.getD .skip
@[reducible] def measure_Format.sh : Sh := ⟨[.agg [.pv (.int .i64), .pv (.int .i64), .pv (.int .i64)]], []⟩
@[reducible] def measure_Format.osh : Sh := ⟨[.one (.pv .str)], []⟩
def measure_Format.hs : List Hint := []
def measure_Format.E (g_measure_Check : measure_Check.sh.X → Option measure_Check.osh.X) (g_measure_name : measure_name.sh.X → Option measure_name.osh.X) (g_strconv_Itoa : strconv_Itoa.sh.X → Option strconv_Itoa.osh.X) : Env := ⟨T, fun n ks => bif Nat.beq n 18 && eqPath ks [] then some (FE.of [true] false measure_Check.sh measure_Check.osh g_measure_Check) else bif Nat.beq n 32 && eqPath ks [] then some (FE.of [true] false measure_name.sh measure_name.osh g_measure_name) else bif Nat.beq n 33 && eqPath ks [] then some (FE.of [true] false strconv_Itoa.sh strconv_Itoa.osh g_strconv_Itoa) else none, fun n => none, 31, 0, Gt⟩

/-! measure_Parse: shapesearch/measure.Parse -/
noncomputable def measure_Parse.c : Go.Code := Go.Proofs.Tryd.f16.body.getD .skip
@[reducible] def measure_Parse.sh : Sh := ⟨[.one (.pv .str)], []⟩
@[reducible] def measure_Parse.osh : Sh := ⟨[.agg [.pv (.int .i64), .pv (.int .i64), .pv (.int .i64)], .one (.pv (.int .i64))], []⟩
@[reducible] def measure_Parse.s0 : Sh := ⟨[.one (.pv .str), .one (.is (.ptr 0 0 0)), .one (.pv .str), .one (.pv (.int .i64)), .one (.pv (.int .i64))], [.box [.pv (.int .i64), .pv (.int .i64), .pv (.int .i64)]]⟩
@[reducible] def measure_Parse.x0 : List (Ex × Sh) := [(.exit 0, ⟨[.one (.is (.ptr 0 0 0))], [.box [.pv (.int .i64), .pv (.int .i64), .pv (.int .i64)]]⟩), (.ret, ⟨[.one (.is (.ptr 0 0 0)), .one (.pv (.int .i64))], [.box [.pv (.int .i64), .pv (.int .i64), .pv (.int .i64)]]⟩)]
def measure_Parse.hs : List Hint := [⟨[0, 1, 0, 1, 1, 1], 0, [0, 2, 4, 7, 9], [(2, [2]), (1, [2, 3])]⟩]
def measure_Parse.E (g_strings_Cut : strings_Cut.sh.X → Option strings_Cut.osh.X) (g_strconv_Atoi : strconv_Atoi.sh.X → Option strconv_Atoi.osh.X) (g_measure_name : measure_name.sh.X → Option measure_name.osh.X) (g_measure_Format : measure_Format.sh.X → Option measure_Format.osh.X) (l0 : ((ByteArray × Unit × ByteArray × Int × Int × Unit) × ((Int × Int × Int × Unit) × Unit)) → Option (((Unit × Unit) × ((Int × Int × Int × Unit) × Unit)) ⊕ ((Unit × Int × Unit) × ((Int × Int × Int × Unit) × Unit)) ⊕ Empty)) : Env := ⟨T, fun n ks => bif Nat.beq n 30 && eqPath ks [] then some (FE.of [true, true] false strings_Cut.sh strings_Cut.osh g_strings_Cut) else bif Nat.beq n 31 && eqPath ks [] then some (FE.of [true] false strconv_Atoi.sh strconv_Atoi.osh g_strconv_Atoi) else bif Nat.beq n 32 && eqPath ks [] then some (FE.of [true] false measure_name.sh measure_name.osh g_measure_name) else bif Nat.beq n 17 && eqPath ks [] then some (FE.of [true] false measure_Format.sh measure_Format.osh g_measure_Format) else none, fun n => bif Nat.beq n 0 then some (LE.of measure_Parse.s0 measure_Parse.x0 l0) else none, 47, 0, Gt⟩

/-! law17_awake: shapesearch/shapesearchlaw17.awake -/
noncomputable def law17_awake.c : Go.Code := Go.Proofs.Tryd.f13.body.getD .skip
@[reducible] def law17_awake.sh : Sh := ⟨[], []⟩
@[reducible] def law17_awake.osh : Sh := ⟨[.one (.pv .bool)], []⟩
@[reducible] def law17_awake.s0 : Sh := ⟨[.one (.is (.ptr 0 0 0)), .one (.pv (.int .i64)), .one (.is (.ptr 1 0 0)), .one (.pv (.int .i64))], [.box [.pv (.int .i64), .pv (.int .i64), .pv (.int .i64)], .box [.pv (.int .i64), .pv (.int .i64)]]⟩
@[reducible] def law17_awake.x0 : List (Ex × Sh) := [(.normal, ⟨[.one (.pv .bool)], []⟩)]
def law17_awake.hs : List Hint := [⟨[0, 1, 1, 1], 0, [1, 2, 3, 4], [(0, [0])]⟩]
def law17_awake.E (g_measure_Parse : measure_Parse.sh.X → Option measure_Parse.osh.X) (g_measure_Distance : measure_Distance.sh.X → Option measure_Distance.osh.X) (g_measure_Check : measure_Check.sh.X → Option measure_Check.osh.X) (l0 : ((Unit × Int × Unit × Int × Unit) × ((Int × Int × Int × Unit) × (Int × Int × Unit) × Unit)) → Option (((Bool × Unit) × (Unit)) ⊕ Empty)) : Env := ⟨T, fun n ks => bif Nat.beq n 16 && eqPath ks [] then some (FE.of [true] false measure_Parse.sh measure_Parse.osh g_measure_Parse) else bif Nat.beq n 11 && eqPath ks [] then some (FE.of [true, true, true] false measure_Distance.sh measure_Distance.osh g_measure_Distance) else bif Nat.beq n 18 && eqPath ks [] then some (FE.of [true] false measure_Check.sh measure_Check.osh g_measure_Check) else none, fun n => bif Nat.beq n 0 then some (LE.of law17_awake.s0 law17_awake.x0 l0) else none, 37, 0, Gt⟩

/-! law17_MeasureSymmetric: shapesearch/shapesearchlaw17.MeasureSymmetric -/
noncomputable def law17_MeasureSymmetric.c : Go.Code := Go.Proofs.Tryd.f3.body.getD .skip
@[reducible] def law17_MeasureSymmetric.sh : Sh := ⟨[.one (.pv (.list (.int .i64)))], []⟩
@[reducible] def law17_MeasureSymmetric.osh : Sh := ⟨[.one (.pv .bool)], []⟩
@[reducible] def law17_MeasureSymmetric.s0 : Sh := ⟨[.one (.is (.ptr 0 0 0)), .one (.pv (.int .i64)), .one (.is (.ptr 1 0 0)), .one (.pv (.int .i64)), .one (.is (.ptr 2 0 0)), .one (.pv (.int .i64))], [.box [.pv (.int .i64), .pv (.int .i64)], .box [.pv (.int .i64), .pv (.int .i64)], .box [.pv (.int .i64), .pv (.int .i64)]]⟩
@[reducible] def law17_MeasureSymmetric.x0 : List (Ex × Sh) := [(.normal, ⟨[.one (.pv .bool)], []⟩)]
def law17_MeasureSymmetric.hs : List Hint := [⟨[0, 1, 1, 1, 1, 1, 1, 1], 0, [7, 8, 9, 10, 11, 12], [(0, [2])]⟩]
def law17_MeasureSymmetric.E (g_keep_New : keep_New.sh.X → Option keep_New.osh.X) (g_keep_Src_Measure : keep_Src_Measure.sh.X → Option keep_Src_Measure.osh.X) (g_keep_Src_Suited : keep_Src_Suited.sh.X → Option keep_Src_Suited.osh.X) (g_measure_Distance : measure_Distance.sh.X → Option measure_Distance.osh.X) (g_ref01_Valid : ref01_Valid.sh.X → Option ref01_Valid.osh.X) (g_law17_awake : law17_awake.sh.X → Option law17_awake.osh.X) (l0 : ((Unit × Int × Unit × Int × Unit × Int × Unit) × ((Int × Int × Unit) × (Int × Int × Unit) × (Int × Int × Unit) × Unit)) → Option (((Bool × Unit) × (Unit)) ⊕ Empty)) : Env := ⟨T, fun n ks => bif Nat.beq n 8 && eqPath ks [] then some (FE.of [true] true keep_New.sh keep_New.osh g_keep_New) else bif Nat.beq n 9 && eqPath ks [] then some (FE.of [true] true keep_Src_Measure.sh keep_Src_Measure.osh g_keep_Src_Measure) else bif Nat.beq n 10 && eqPath ks [] then some (FE.of [true, true] true keep_Src_Suited.sh keep_Src_Suited.osh g_keep_Src_Suited) else bif Nat.beq n 11 && eqPath ks [] then some (FE.of [true, true, true] false measure_Distance.sh measure_Distance.osh g_measure_Distance) else bif Nat.beq n 12 && eqPath ks [] then some (FE.of [true] false ref01_Valid.sh ref01_Valid.osh g_ref01_Valid) else bif Nat.beq n 13 && eqPath ks [] then some (FE.of [] false law17_awake.sh law17_awake.osh g_law17_awake) else none, fun n => bif Nat.beq n 0 then some (LE.of law17_MeasureSymmetric.s0 law17_MeasureSymmetric.x0 l0) else none, 71, 0, Gt⟩

/-! law17_MeasureTurned: shapesearch/shapesearchlaw17.MeasureTurned -/
noncomputable def law17_MeasureTurned.c : Go.Code := Go.Proofs.Tryd.f4.body.getD .skip
@[reducible] def law17_MeasureTurned.sh : Sh := ⟨[.one (.pv (.list (.int .i64)))], []⟩
@[reducible] def law17_MeasureTurned.osh : Sh := ⟨[.one (.pv .bool)], []⟩
@[reducible] def law17_MeasureTurned.s0 : Sh := ⟨[.one (.is (.ptr 0 0 0)), .one (.pv (.list (.int .i64))), .one (.is (.own 1)), .one (.is (.own 2)), .one (.is (.own 3)), .one (.pv (.int .i64)), .one (.pv (.int .i64))], [.box [.pv (.int .i64), .pv (.int .i64), .pv (.int .i64)], .row 3 (.int .i64), .row 3 (.int .i64), .row 3 (.int .i64)]⟩
@[reducible] def law17_MeasureTurned.x0 : List (Ex × Sh) := [(.exit 0, ⟨[.one (.is (.ptr 0 0 0)), .one (.pv (.list (.int .i64))), .one (.is (.own 1)), .one (.is (.own 2)), .one (.is (.own 3))], [.box [.pv (.int .i64), .pv (.int .i64), .pv (.int .i64)], .row 3 (.int .i64), .row 3 (.int .i64), .row 3 (.int .i64)]⟩)]
def law17_MeasureTurned.hs : List Hint := [⟨[0, 1, 0, 1, 1, 1, 1, 1], 0, [4, 5, 6, 7, 8, 24, 25], [(2, [4, 5, 6, 7, 8])]⟩]
def law17_MeasureTurned.E (g_keep_New : keep_New.sh.X → Option keep_New.osh.X) (g_keep_Src_Measure : keep_Src_Measure.sh.X → Option keep_Src_Measure.osh.X) (g_keep_Src_Pair : keep_Src_Pair.sh.X → Option keep_Src_Pair.osh.X) (g_measure_Distance : measure_Distance.sh.X → Option measure_Distance.osh.X) (g_law17_awake : law17_awake.sh.X → Option law17_awake.osh.X) (l0 : ((Unit × (List Int) × Unit × Unit × Unit × Int × Int × Unit) × ((Int × Int × Int × Unit) × (List Int) × (List Int) × (List Int) × Unit)) → Option (((Unit × (List Int) × Unit × Unit × Unit × Unit) × ((Int × Int × Int × Unit) × (List Int) × (List Int) × (List Int) × Unit)) ⊕ Empty)) : Env := ⟨T, fun n ks => bif Nat.beq n 8 && eqPath ks [] then some (FE.of [true] true keep_New.sh keep_New.osh g_keep_New) else bif Nat.beq n 9 && eqPath ks [] then some (FE.of [true] true keep_Src_Measure.sh keep_Src_Measure.osh g_keep_Src_Measure) else bif Nat.beq n 14 && eqPath ks [] then some (FE.of [true] true keep_Src_Pair.sh keep_Src_Pair.osh g_keep_Src_Pair) else bif Nat.beq n 11 && eqPath ks [] then some (FE.of [true, true, true] false measure_Distance.sh measure_Distance.osh g_measure_Distance) else bif Nat.beq n 13 && eqPath ks [] then some (FE.of [] false law17_awake.sh law17_awake.osh g_law17_awake) else none, fun n => bif Nat.beq n 0 then some (LE.of law17_MeasureTurned.s0 law17_MeasureTurned.x0 l0) else none, 79, 0, Gt⟩

/-! keep_Src_Ratio: (*shapesearch/shapesearchkeep.Src).Ratio -/
noncomputable def keep_Src_Ratio.c : Go.Code := Go.Proofs.Tryd.f19.body.getD .skip
@[reducible] def keep_Src_Ratio.sh : Sh := ⟨[.one (.is (.ptr 0 0 0))], [.box [.pv (.list (.int .i64)), .pv (.int .i64)]]⟩
@[reducible] def keep_Src_Ratio.osh : Sh := ⟨[.agg [.pv (.int .i64), .pv (.int .i64)]], [.box [.pv (.list (.int .i64)), .pv (.int .i64)]]⟩
@[reducible] def keep_Src_Ratio.s0 : Sh := ⟨[.one (.is (.ptr 1 0 0)), .one (.pv (.int .i64)), .one (.pv (.int .i64)), .one (.pv (.int .i64)), .one (.pv (.int .i64))], [.box [.pv (.list (.int .i64)), .pv (.int .i64)], .box [.pv (.int .i64), .pv (.int .i64)]]⟩
@[reducible] def keep_Src_Ratio.x0 : List (Ex × Sh) := [(.exit 0, ⟨[.one (.is (.ptr 1 0 0)), .one (.pv (.int .i64)), .one (.pv (.int .i64)), .one (.pv (.int .i64))], [.box [.pv (.list (.int .i64)), .pv (.int .i64)], .box [.pv (.int .i64), .pv (.int .i64)]]⟩)]
def keep_Src_Ratio.hs : List Hint := [⟨[0, 0, 1, 1, 1, 1], 0, [2, 3, 4, 5, 6], [(2, [2, 3, 4, 5])]⟩]
def keep_Src_Ratio.E (g_keep_Src_Pick : keep_Src_Pick.sh.X → Option keep_Src_Pick.osh.X) (g_keep_Src_N : keep_Src_N.sh.X → Option keep_Src_N.osh.X) (l0 : ((Unit × Int × Int × Int × Int × Unit) × (((List Int) × Int × Unit) × (Int × Int × Unit) × Unit)) → Option (((Unit × Int × Int × Int × Unit) × (((List Int) × Int × Unit) × (Int × Int × Unit) × Unit)) ⊕ Empty)) : Env := ⟨T, fun n ks => bif Nat.beq n 23 && eqPath ks [] then some (FE.of [true, true] true keep_Src_Pick.sh keep_Src_Pick.osh g_keep_Src_Pick) else bif Nat.beq n 24 && eqPath ks [] then some (FE.of [true, true] true keep_Src_N.sh keep_Src_N.osh g_keep_Src_N) else none, fun n => bif Nat.beq n 0 then some (LE.of keep_Src_Ratio.s0 keep_Src_Ratio.x0 l0) else none, 33, 1, Gt⟩

/-! ratio_Valid: shapesearch/ratio.Valid -/
noncomputable def ratio_Valid.c : Go.Code := Go.Proofs.Tryd.f34.body.getD .skip
@[reducible] def ratio_Valid.sh : Sh := ⟨[.agg [.pv (.int .i64), .pv (.int .i64)]], []⟩
@[reducible] def ratio_Valid.osh : Sh := ⟨[.one (.pv .bool)], []⟩
def ratio_Valid.hs : List Hint := []
def ratio_Valid.E (g_ratio_within : ratio_within.sh.X → Option ratio_within.osh.X) (g_ratio_divisor : ratio_divisor.sh.X → Option ratio_divisor.osh.X) : Env := ⟨T, fun n ks => bif Nat.beq n 53 && eqPath ks [] then some (FE.of [true] false ratio_within.sh ratio_within.osh g_ratio_within) else bif Nat.beq n 54 && eqPath ks [] then some (FE.of [true, true] false ratio_divisor.sh ratio_divisor.osh g_ratio_divisor) else none, fun n => none, 13, 0, Gt⟩

/-! bits_Mul64: math/bits.Mul64 -/
noncomputable def bits_Mul64.c : Go.Code := Go.Proofs.Tryd.f71.body.getD .skip
@[reducible] def bits_Mul64.sh : Sh := ⟨[.one (.pv (.int .u64)), .one (.pv (.int .u64))], []⟩
@[reducible] def bits_Mul64.osh : Sh := ⟨[.one (.pv (.int .u64)), .one (.pv (.int .u64))], []⟩
def bits_Mul64.hs : List Hint := []
def bits_Mul64.E : Env := ⟨T, fun n ks => none, fun n => none, 51, 0, Gt⟩

/-! ratio_Cmp: shapesearch/ratio.Cmp -/
noncomputable def ratio_Cmp.c : Go.Code := Go.Proofs.Tryd.f55.body.getD .skip
@[reducible] def ratio_Cmp.sh : Sh := ⟨[.agg [.pv (.int .i64), .pv (.int .i64)], .agg [.pv (.int .i64), .pv (.int .i64)]], []⟩
@[reducible] def ratio_Cmp.osh : Sh := ⟨[.one (.pv (.int .i64))], []⟩
@[reducible] def ratio_Cmp.s0 : Sh := ⟨[.one (.is (.ptr 0 0 0)), .one (.is (.ptr 1 0 0))], [.box [.pv (.int .i64), .pv (.int .i64)], .box [.pv (.int .i64), .pv (.int .i64)]]⟩
@[reducible] def ratio_Cmp.x0 : List (Ex × Sh) := [(.normal, ⟨[.one (.is (.ptr 0 0 0)), .one (.is (.ptr 1 0 0)), .one (.pv .bool)], [.box [.pv (.int .i64), .pv (.int .i64)], .box [.pv (.int .i64), .pv (.int .i64)]]⟩)]
@[reducible] def ratio_Cmp.s1 : Sh := ⟨[.one (.pv (.int .u64)), .one (.pv (.int .u64)), .one (.pv (.int .u64)), .one (.pv (.int .u64))], []⟩
@[reducible] def ratio_Cmp.x1 : List (Ex × Sh) := [(.normal, ⟨[.one (.pv (.int .u64)), .one (.pv (.int .u64)), .one (.pv (.int .u64)), .one (.pv (.int .u64)), .one (.pv .bool)], []⟩)]
def ratio_Cmp.hs : List Hint := [⟨[0, 0, 1], 0, [2, 3], [(0, [2, 3, 16])]⟩, ⟨[0, 0, 0, 1, 1, 1, 1], 1, [5, 6, 7, 8], [(0, [5, 6, 7, 8, 37])]⟩]
def ratio_Cmp.E (g_ratio_Valid : ratio_Valid.sh.X → Option ratio_Valid.osh.X) (g_bits_Mul64 : bits_Mul64.sh.X → Option bits_Mul64.osh.X) (l0 : ((Unit × Unit × Unit) × ((Int × Int × Unit) × (Int × Int × Unit) × Unit)) → Option (((Unit × Unit × Bool × Unit) × ((Int × Int × Unit) × (Int × Int × Unit) × Unit)) ⊕ Empty)) (l1 : ((Int × Int × Int × Int × Unit) × (Unit)) → Option (((Int × Int × Int × Int × Bool × Unit) × (Unit)) ⊕ Empty)) : Env := ⟨T, fun n ks => bif Nat.beq n 34 && eqPath ks [] then some (FE.of [true] false ratio_Valid.sh ratio_Valid.osh g_ratio_Valid) else bif Nat.beq n 71 && eqPath ks [] then some (FE.of [true, true] false bits_Mul64.sh bits_Mul64.osh g_bits_Mul64) else none, fun n => bif Nat.beq n 0 then some (LE.of ratio_Cmp.s0 ratio_Cmp.x0 l0) else bif Nat.beq n 1 then some (LE.of ratio_Cmp.s1 ratio_Cmp.x1 l1) else none, 60, 0, Gt⟩

/-! ratio_Less: shapesearch/ratio.Less -/
noncomputable def ratio_Less.c : Go.Code := Go.Proofs.Tryd.f35.body.getD .skip
@[reducible] def ratio_Less.sh : Sh := ⟨[.agg [.pv (.int .i64), .pv (.int .i64)], .agg [.pv (.int .i64), .pv (.int .i64)]], []⟩
@[reducible] def ratio_Less.osh : Sh := ⟨[.one (.pv .bool)], []⟩
def ratio_Less.hs : List Hint := []
def ratio_Less.E (g_ratio_Cmp : ratio_Cmp.sh.X → Option ratio_Cmp.osh.X) : Env := ⟨T, fun n ks => bif Nat.beq n 55 && eqPath ks [] then some (FE.of [true, true] false ratio_Cmp.sh ratio_Cmp.osh g_ratio_Cmp) else none, fun n => none, 9, 0, Gt⟩

/-! measure_Within: shapesearch/measure.Within -/
noncomputable def measure_Within.c : Go.Code := Go.Proofs.Tryd.f20.body.getD .skip
@[reducible] def measure_Within.sh : Sh := ⟨[.agg [.pv (.int .i64), .pv (.int .i64), .pv (.int .i64)], .one (.pv (.list (.int .i64))), .one (.pv (.list (.int .i64))), .agg [.pv (.int .i64), .pv (.int .i64)]], []⟩
@[reducible] def measure_Within.osh : Sh := ⟨[.agg [.pv (.int .i64), .pv (.int .i64)], .one (.pv .bool)], []⟩
@[reducible] def measure_Within.s0 : Sh := ⟨[.one (.is (.ptr 0 0 0)), .one (.is (.ptr 1 0 0)), .one (.is (.ptr 2 0 0)), .one (.pv (.int .i64))], [.box [.pv (.int .i64), .pv (.int .i64)], .box [.pv (.int .i64), .pv (.int .i64)], .box [.pv (.int .i64), .pv (.int .i64)]]⟩
@[reducible] def measure_Within.x0 : List (Ex × Sh) := [(.normal, ⟨[.one (.is (.ptr 0 0 0)), .one (.is (.ptr 1 0 0)), .one (.pv .bool)], [.box [.pv (.int .i64), .pv (.int .i64)], .box [.pv (.int .i64), .pv (.int .i64)]]⟩)]
def measure_Within.hs : List Hint := [⟨[0, 0, 1, 1], 0, [7, 8, 10, 11], [(0, [8, 10, 30])]⟩]
def measure_Within.E (g_measure_Distance : measure_Distance.sh.X → Option measure_Distance.osh.X) (g_ratio_Valid : ratio_Valid.sh.X → Option ratio_Valid.osh.X) (g_ratio_Less : ratio_Less.sh.X → Option ratio_Less.osh.X) (l0 : ((Unit × Unit × Unit × Int × Unit) × ((Int × Int × Unit) × (Int × Int × Unit) × (Int × Int × Unit) × Unit)) → Option (((Unit × Unit × Bool × Unit) × ((Int × Int × Unit) × (Int × Int × Unit) × Unit)) ⊕ Empty)) : Env := ⟨T, fun n ks => bif Nat.beq n 11 && eqPath ks [] then some (FE.of [true, true, true] false measure_Distance.sh measure_Distance.osh g_measure_Distance) else bif Nat.beq n 34 && eqPath ks [] then some (FE.of [true] false ratio_Valid.sh ratio_Valid.osh g_ratio_Valid) else bif Nat.beq n 35 && eqPath ks [] then some (FE.of [true, true] false ratio_Less.sh ratio_Less.osh g_ratio_Less) else none, fun n => bif Nat.beq n 0 then some (LE.of measure_Within.s0 measure_Within.x0 l0) else none, 33, 0, Gt⟩

/-! ref01_order: shapesearch/shapesearchref01.order -/
noncomputable def ref01_order.c : Go.Code := Go.Proofs.Tryd.f36.body.getD .skip
@[reducible] def ref01_order.sh : Sh := ⟨[.one (.pv (.int .i64)), .one (.pv (.int .i64)), .one (.pv (.int .i64)), .one (.pv (.int .i64))], []⟩
@[reducible] def ref01_order.osh : Sh := ⟨[.one (.pv (.int .i64))], []⟩
@[reducible] def ref01_order.s0 : Sh := ⟨[.one (.pv (.int .i64)), .one (.pv (.int .i64)), .one (.pv (.int .i64)), .one (.pv (.int .i64))], []⟩
@[reducible] def ref01_order.x0 : List (Ex × Sh) := [(.normal, ⟨[.one (.pv (.int .i64)), .one (.pv (.int .i64)), .one (.pv (.int .i64)), .one (.pv (.int .i64)), .one (.pv .bool)], []⟩)]
def ref01_order.hs : List Hint := [⟨[0, 0, 0, 1, 1, 1, 1], 0, [0, 1, 2, 3], [(0, [0, 1, 2, 3, 29])]⟩]
def ref01_order.E (g_ref01_order : ref01_order.sh.X → Option ref01_order.osh.X) (l0 : ((Int × Int × Int × Int × Unit) × (Unit)) → Option (((Int × Int × Int × Int × Bool × Unit) × (Unit)) ⊕ Empty)) : Env := ⟨T, fun n ks => bif Nat.beq n 36 && eqPath ks [] then some (FE.of [true, true, true, true] false ref01_order.sh ref01_order.osh g_ref01_order) else none, fun n => bif Nat.beq n 0 then some (LE.of ref01_order.s0 ref01_order.x0 l0) else none, 47, 0, Gt⟩

/-! ref01_Cmp: shapesearch/shapesearchref01.Cmp -/
noncomputable def ref01_Cmp.c : Go.Code := Go.Proofs.Tryd.f21.body.getD .skip
@[reducible] def ref01_Cmp.sh : Sh := ⟨[.agg [.pv (.int .i64), .pv (.int .i64)], .agg [.pv (.int .i64), .pv (.int .i64)]], []⟩
@[reducible] def ref01_Cmp.osh : Sh := ⟨[.one (.pv (.int .i64))], []⟩
@[reducible] def ref01_Cmp.s0 : Sh := ⟨[.one (.is (.ptr 0 0 0)), .one (.is (.ptr 1 0 0))], [.box [.pv (.int .i64), .pv (.int .i64)], .box [.pv (.int .i64), .pv (.int .i64)]]⟩
@[reducible] def ref01_Cmp.x0 : List (Ex × Sh) := [(.normal, ⟨[.one (.is (.ptr 0 0 0)), .one (.is (.ptr 1 0 0)), .one (.pv .bool)], [.box [.pv (.int .i64), .pv (.int .i64)], .box [.pv (.int .i64), .pv (.int .i64)]]⟩)]
def ref01_Cmp.hs : List Hint := [⟨[0, 0, 1], 0, [2, 3], [(0, [2, 3, 12])]⟩]
def ref01_Cmp.E (g_ref01_Valid : ref01_Valid.sh.X → Option ref01_Valid.osh.X) (g_ref01_order : ref01_order.sh.X → Option ref01_order.osh.X) (l0 : ((Unit × Unit × Unit) × ((Int × Int × Unit) × (Int × Int × Unit) × Unit)) → Option (((Unit × Unit × Bool × Unit) × ((Int × Int × Unit) × (Int × Int × Unit) × Unit)) ⊕ Empty)) : Env := ⟨T, fun n ks => bif Nat.beq n 12 && eqPath ks [] then some (FE.of [true] false ref01_Valid.sh ref01_Valid.osh g_ref01_Valid) else bif Nat.beq n 36 && eqPath ks [] then some (FE.of [true, true, true, true] false ref01_order.sh ref01_order.osh g_ref01_order) else none, fun n => bif Nat.beq n 0 then some (LE.of ref01_Cmp.s0 ref01_Cmp.x0 l0) else none, 22, 0, Gt⟩

/-! law17_MeasureWithin: shapesearch/shapesearchlaw17.MeasureWithin -/
noncomputable def law17_MeasureWithin.c : Go.Code := Go.Proofs.Tryd.f7.body.getD .skip
@[reducible] def law17_MeasureWithin.sh : Sh := ⟨[.one (.pv (.list (.int .i64)))], []⟩
@[reducible] def law17_MeasureWithin.osh : Sh := ⟨[.one (.pv .bool)], []⟩
@[reducible] def law17_MeasureWithin.s0 : Sh := ⟨[.one (.is (.ptr 0 0 0)), .one (.is (.ptr 1 0 0)), .one (.pv (.int .i64)), .one (.is (.ptr 2 0 0)), .one (.pv .bool), .one (.is (.ptr 3 0 0)), .one (.pv .bool), .one (.is (.ptr 4 0 0))], [.box [.pv (.int .i64), .pv (.int .i64)], .box [.pv (.int .i64), .pv (.int .i64)], .box [.pv (.int .i64), .pv (.int .i64)], .box [.pv (.int .i64), .pv (.int .i64)], .box [.pv (.int .i64), .pv (.int .i64)]]⟩
@[reducible] def law17_MeasureWithin.x0 : List (Ex × Sh) := [(.normal, ⟨[.one (.pv .bool)], []⟩)]
def law17_MeasureWithin.hs : List Hint := [⟨[0, 1, 1, 1, 1, 1, 1, 1, 1, 1], 0, [7, 8, 9, 10, 11, 12, 13, 14], [(0, [2])]⟩]
def law17_MeasureWithin.E (g_keep_New : keep_New.sh.X → Option keep_New.osh.X) (g_keep_Src_Measure : keep_Src_Measure.sh.X → Option keep_Src_Measure.osh.X) (g_keep_Src_Suited : keep_Src_Suited.sh.X → Option keep_Src_Suited.osh.X) (g_keep_Src_Ratio : keep_Src_Ratio.sh.X → Option keep_Src_Ratio.osh.X) (g_measure_Distance : measure_Distance.sh.X → Option measure_Distance.osh.X) (g_measure_Within : measure_Within.sh.X → Option measure_Within.osh.X) (g_ref01_Cmp : ref01_Cmp.sh.X → Option ref01_Cmp.osh.X) (g_law17_awake : law17_awake.sh.X → Option law17_awake.osh.X) (l0 : ((Unit × Unit × Int × Unit × Bool × Unit × Bool × Unit × Unit) × ((Int × Int × Unit) × (Int × Int × Unit) × (Int × Int × Unit) × (Int × Int × Unit) × (Int × Int × Unit) × Unit)) → Option (((Bool × Unit) × (Unit)) ⊕ Empty)) : Env := ⟨T, fun n ks => bif Nat.beq n 8 && eqPath ks [] then some (FE.of [true] true keep_New.sh keep_New.osh g_keep_New) else bif Nat.beq n 9 && eqPath ks [] then some (FE.of [true] true keep_Src_Measure.sh keep_Src_Measure.osh g_keep_Src_Measure) else bif Nat.beq n 10 && eqPath ks [] then some (FE.of [true, true] true keep_Src_Suited.sh keep_Src_Suited.osh g_keep_Src_Suited) else bif Nat.beq n 19 && eqPath ks [] then some (FE.of [true] true keep_Src_Ratio.sh keep_Src_Ratio.osh g_keep_Src_Ratio) else bif Nat.beq n 11 && eqPath ks [] then some (FE.of [true, true, true] false measure_Distance.sh measure_Distance.osh g_measure_Distance) else bif Nat.beq n 20 && eqPath ks [] then some (FE.of [true, true, true, true] false measure_Within.sh measure_Within.osh g_measure_Within) else bif Nat.beq n 21 && eqPath ks [] then some (FE.of [true, true] false ref01_Cmp.sh ref01_Cmp.osh g_ref01_Cmp) else bif Nat.beq n 13 && eqPath ks [] then some (FE.of [] false law17_awake.sh law17_awake.osh g_law17_awake) else none, fun n => bif Nat.beq n 0 then some (LE.of law17_MeasureWithin.s0 law17_MeasureWithin.x0 l0) else none, 89, 0, Gt⟩
end Go.Proofs.YtadniiehehiblaaDoor.V
