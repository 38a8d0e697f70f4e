import Derived.Test.YtdfdecpplnjdcaaDoorProg
import Derived.KernelRfl
import Derived.Test.YtdfdecpplnjdcaaDoorViC
set_option linter.unusedVariables false
namespace Go.Proofs.YtdfdecpplnjdcaaDoor.V
open Go.VI
def T : Tb := [(3, ⟨.int .i64, 1, 8, some (.int .i64), true⟩),
  (4, ⟨.bool, 1, 1, some .bool, true⟩),
  (5, ⟨.int .u8, 1, 1, some (.int .u8), true⟩),
  (9, ⟨.str, 1, 16, some .str, true⟩),
  (23, ⟨.struct [(0, 3), (1, 3)], 2, 16, some (.pair (.int .i64) (.int .i64)), true⟩),
  (24, ⟨.struct [(0, 3), (1, 3)], 2, 16, some (.pair (.int .i64) (.int .i64)), true⟩),
  (25, ⟨.int .i64, 1, 8, some (.int .i64), true⟩),
  (31, ⟨.slice 3, 1, 24, some (.list (.int .i64)), false⟩),
  (32, ⟨.ptr 54, 1, 8, none, false⟩),
  (53, ⟨.struct [(0, 31), (1, 3)], 2, 32, some (.pair (.list (.int .i64)) (.int .i64)), false⟩),
  (54, ⟨.struct [(0, 31), (1, 3)], 2, 32, some (.pair (.list (.int .i64)) (.int .i64)), false⟩),
  (56, ⟨.int .u64, 1, 8, some (.int .u64), true⟩),
  (63, ⟨.err, 1, 16, some (.err 25), false⟩),
  (64, ⟨.err, 1, 16, some (.err 25), false⟩),
  (73, ⟨.int .u64, 1, 8, some (.int .u64), true⟩)]
theorem tb : tbOk Go.Proofs.Tryd.prog T = true := by kernel_rfl
def Gt : Nat → Option (Go.IntKind × List Int) := fun g => bif Nat.beq g 5 then some (.u64, [(1 : Int), 10, 100, 1000, 10000, 100000, 1000000, 10000000, 100000000, 1000000000, 10000000000, 100000000000, 1000000000000, 10000000000000, 100000000000000, 1000000000000000, 10000000000000000, 100000000000000000, 1000000000000000000, 10000000000000000000]) else none
def TabsOk (tabs : List (Nat × Go.Obj)) : Prop := TabHas tabs 5 .u64 [(1 : Int), 10, 100, 1000, 10000, 100000, 1000000, 10000000, 100000000, 1000000000, 10000000000, 100000000000, 1000000000000, 10000000000000, 100000000000000, 1000000000000000, 10000000000000000, 100000000000000000, 1000000000000000000, 10000000000000000000] ∧ ErrHas tabs 3 ∧ ErrHas tabs 4 ∧ True
theorem gt_ok {tabs : List (Nat × Go.Obj)} (ht : TabsOk tabs) : ∀ g k zs, Gt g = some (k, zs) → TabHas tabs g k zs := by
  intro g k zs h
  unfold Gt at h
  obtain ⟨h5, _⟩ := ht
  cases hb : Nat.beq g 5 with
  | true => rw [hb] at h; obtain rfl := Nat.eq_of_beq_eq_true hb; cases h; exact h5
  | false =>
  rw [hb] at h
  cases h

/-! ratio_divisor: shapesearch/ratio.divisor -/
noncomputable def ratio_divisor.c : Go.Code := Go.Proofs.Tryd.f35.body.getD .skip
@[reducible] def ratio_divisor.sh : Sh := ⟨[.one (.pv (.int .i64)), .one (.pv (.int .i64))], []⟩
@[reducible] def ratio_divisor.osh : Sh := ⟨[.one (.pv (.int .i64))], []⟩
@[reducible] def ratio_divisor.s0 : Sh := ⟨[.one (.pv (.int .i64)), .one (.pv (.int .i64))], []⟩
@[reducible] def ratio_divisor.x0 : List (Ex × Sh) := [(.exit 0, ⟨[.one (.pv (.int .i64))], []⟩)]
def ratio_divisor.hs : List Hint := [⟨[0, 0, 1], 0, [0, 1], [(2, [0])]⟩]
def ratio_divisor.E (l0 : ((Int × Int × Unit) × (Unit)) → Option (((Int × Unit) × (Unit)) ⊕ Empty)) : Env := ⟨T, fun n ks => none, fun n => bif Nat.beq n 0 then some (LE.of ratio_divisor.s0 ratio_divisor.x0 l0) else none, 12, 0, Gt⟩

/-! ratio_within: shapesearch/ratio.within -/
noncomputable def ratio_within.c : Go.Code := Go.Proofs.Tryd.f36.body.getD .skip
@[reducible] def ratio_within.sh : Sh := ⟨[.agg [.pv (.int .i64), .pv (.int .i64)]], []⟩
@[reducible] def ratio_within.osh : Sh := ⟨[.one (.pv .bool)], []⟩
def ratio_within.hs : List Hint := []
def ratio_within.E : Env := ⟨T, fun n ks => none, fun n => none, 21, 0, Gt⟩

/-! ratio_Make: shapesearch/ratio.Make -/
noncomputable def ratio_Make.c : Go.Code := Go.Proofs.Tryd.f11.body.getD .skip
@[reducible] def ratio_Make.sh : Sh := ⟨[.one (.pv (.int .i64)), .one (.pv (.int .i64))], []⟩
@[reducible] def ratio_Make.osh : Sh := ⟨[.agg [.pv (.int .i64), .pv (.int .i64)], .one (.pv (.int .i64))], []⟩
@[reducible] def ratio_Make.s0 : Sh := ⟨[.one (.pv (.int .i64)), .one (.pv (.int .i64)), .one (.is (.ptr 0 0 0))], [.box [.pv (.int .i64), .pv (.int .i64)]]⟩
@[reducible] def ratio_Make.x0 : List (Ex × Sh) := [(.normal, ⟨[.one (.pv (.int .i64)), .one (.pv (.int .i64)), .one (.is (.ptr 0 0 0)), .one (.pv .bool)], [.box [.pv (.int .i64), .pv (.int .i64)]]⟩)]
def ratio_Make.hs : List Hint := [⟨[0, 0, 1], 0, [0, 1, 4], [(0, [0, 1, 4, 13])]⟩]
def ratio_Make.E (g_ratio_divisor : ratio_divisor.sh.X → Option ratio_divisor.osh.X) (g_ratio_within : ratio_within.sh.X → Option ratio_within.osh.X) (l0 : ((Int × Int × Unit × Unit) × ((Int × Int × Unit) × Unit)) → Option (((Int × Int × Unit × Bool × Unit) × ((Int × Int × Unit) × Unit)) ⊕ Empty)) : Env := ⟨T, fun n ks => bif Nat.beq n 35 && eqPath ks [] then some (FE.of [true, true] false ratio_divisor.sh ratio_divisor.osh g_ratio_divisor) else bif Nat.beq n 36 && eqPath ks [] then some (FE.of [true] false ratio_within.sh ratio_within.osh g_ratio_within) else none, fun n => bif Nat.beq n 0 then some (LE.of ratio_Make.s0 ratio_Make.x0 l0) else none, 30, 0, Gt⟩

/-! ratio_Add: shapesearch/ratio.Add -/
noncomputable def ratio_Add.c : Go.Code := Go.Proofs.Tryd.f18.body.getD .skip
@[reducible] def ratio_Add.sh : Sh := ⟨[.agg [.pv (.int .i64), .pv (.int .i64)], .agg [.pv (.int .i64), .pv (.int .i64)]], []⟩
@[reducible] def ratio_Add.osh : Sh := ⟨[.agg [.pv (.int .i64), .pv (.int .i64)], .one (.pv (.int .i64))], []⟩
def ratio_Add.hs : List Hint := []
def ratio_Add.E : Env := ⟨T, fun n ks => none, fun n => none, 127, 0, Gt⟩

/-! ratio_Valid: shapesearch/ratio.Valid -/
noncomputable def ratio_Valid.c : Go.Code := Go.Proofs.Tryd.f12.body.getD .skip
@[reducible] def ratio_Valid.sh : Sh := ⟨[.agg [.pv (.int .i64), .pv (.int .i64)]], []⟩
@[reducible] def ratio_Valid.osh : Sh := ⟨[.one (.pv .bool)], []⟩
def ratio_Valid.hs : List Hint := []
def ratio_Valid.E (g_ratio_within : ratio_within.sh.X → Option ratio_within.osh.X) (g_ratio_divisor : ratio_divisor.sh.X → Option ratio_divisor.osh.X) : Env := ⟨T, fun n ks => bif Nat.beq n 36 && eqPath ks [] then some (FE.of [true] false ratio_within.sh ratio_within.osh g_ratio_within) else bif Nat.beq n 35 && eqPath ks [] then some (FE.of [true, true] false ratio_divisor.sh ratio_divisor.osh g_ratio_divisor) else none, fun n => none, 13, 0, Gt⟩

/-! ratio_Ceil: shapesearch/ratio.Ceil -/
noncomputable def ratio_Ceil.c : Go.Code := Go.Proofs.Tryd.f20.body.getD .skip
@[reducible] def ratio_Ceil.sh : Sh := ⟨[.agg [.pv (.int .i64), .pv (.int .i64)]], []⟩
@[reducible] def ratio_Ceil.osh : Sh := ⟨[.one (.pv (.int .i64))], []⟩
def ratio_Ceil.hs : List Hint := []
def ratio_Ceil.E (g_ratio_Valid : ratio_Valid.sh.X → Option ratio_Valid.osh.X) : Env := ⟨T, fun n ks => bif Nat.beq n 12 && eqPath ks [] then some (FE.of [true] false ratio_Valid.sh ratio_Valid.osh g_ratio_Valid) else none, fun n => none, 21, 0, Gt⟩

/-! strconv_Itoa: strconv.Itoa -/
noncomputable def strconv_Itoa.c : Go.Code := Go.Proofs.Tryd.f45.body.getD .skip
@[reducible] def strconv_Itoa.sh : Sh := ⟨[.one (.pv (.int .i64))], []⟩
@[reducible] def strconv_Itoa.osh : Sh := ⟨[.one (.pv .str)], []⟩
def strconv_Itoa.hs : List Hint := []
def strconv_Itoa.E : Env := ⟨T, fun n ks => none, fun n => none, 5, 0, Gt⟩

/-! ratio_Format: shapesearch/ratio.Format -/
noncomputable def ratio_Format.c : Go.Code := Go.Proofs.Tryd.f24.body.getD .skip
@[reducible] def ratio_Format.sh : Sh := ⟨[.agg [.pv (.int .i64), .pv (.int .i64)]], []⟩
@[reducible] def ratio_Format.osh : Sh := ⟨[.one (.pv .str)], []⟩
def ratio_Format.hs : List Hint := []
def ratio_Format.E (g_ratio_Valid : ratio_Valid.sh.X → Option ratio_Valid.osh.X) (g_strconv_Itoa : strconv_Itoa.sh.X → Option strconv_Itoa.osh.X) : Env := ⟨T, fun n ks => bif Nat.beq n 12 && eqPath ks [] then some (FE.of [true] false ratio_Valid.sh ratio_Valid.osh g_ratio_Valid) else bif Nat.beq n 45 && eqPath ks [] then some (FE.of [true] false strconv_Itoa.sh strconv_Itoa.osh g_strconv_Itoa) else none, fun n => none, 20, 0, Gt⟩

/-! law01_awake: shapesearch/shapesearchlaw01.awake -/
noncomputable def law01_awake.c : Go.Code := Go.Proofs.Tryd.f13.body.getD .skip
@[reducible] def law01_awake.sh : Sh := ⟨[], []⟩
@[reducible] def law01_awake.osh : Sh := ⟨[.one (.pv .bool)], []⟩
@[reducible] def law01_awake.s0 : Sh := ⟨[.one (.is (.ptr 0 0 0)), .one (.pv (.int .i64)), .one (.is (.ptr 1 0 0)), .one (.pv (.int .i64))], [.box [.pv (.int .i64), .pv (.int .i64)], .box [.pv (.int .i64), .pv (.int .i64)]]⟩
@[reducible] def law01_awake.x0 : List (Ex × Sh) := [(.normal, ⟨[.one (.pv .bool)], []⟩)]
def law01_awake.hs : List Hint := [⟨[0, 1, 1, 1], 0, [1, 2, 3, 4], [(0, [0])]⟩]
def law01_awake.E (g_ratio_Make : ratio_Make.sh.X → Option ratio_Make.osh.X) (g_ratio_Add : ratio_Add.sh.X → Option ratio_Add.osh.X) (g_ratio_Ceil : ratio_Ceil.sh.X → Option ratio_Ceil.osh.X) (g_ratio_Format : ratio_Format.sh.X → Option ratio_Format.osh.X) (l0 : ((Unit × Int × Unit × Int × Unit) × ((Int × Int × Unit) × (Int × Int × Unit) × Unit)) → Option (((Bool × Unit) × (Unit)) ⊕ Empty)) : Env := ⟨T, fun n ks => bif Nat.beq n 11 && eqPath ks [] then some (FE.of [true, true] false ratio_Make.sh ratio_Make.osh g_ratio_Make) else bif Nat.beq n 18 && eqPath ks [] then some (FE.of [true, true] false ratio_Add.sh ratio_Add.osh g_ratio_Add) else bif Nat.beq n 20 && eqPath ks [] then some (FE.of [true] false ratio_Ceil.sh ratio_Ceil.osh g_ratio_Ceil) else bif Nat.beq n 24 && eqPath ks [] then some (FE.of [true] false ratio_Format.sh ratio_Format.osh g_ratio_Format) else none, fun n => bif Nat.beq n 0 then some (LE.of law01_awake.s0 law01_awake.x0 l0) else none, 41, 0, Gt⟩

/-! keep_New: shapesearch/shapesearchkeep.New -/
noncomputable def keep_New.c : Go.Code := Go.Proofs.Tryd.f14.body.getD .skip
@[reducible] def keep_New.sh : Sh := ⟨[.one (.pv (.list (.int .i64)))], []⟩
@[reducible] def keep_New.osh : Sh := ⟨[.one (.is (.ptr 0 0 0))], [.box [.pv (.list (.int .i64)), .pv (.int .i64)]]⟩
def keep_New.hs : List Hint := []
def keep_New.E : Env := ⟨T, fun n ks => none, fun n => none, 10, 0, Gt⟩

/-! keep_Src_Raw: (*shapesearch/shapesearchkeep.Src).Raw -/
noncomputable def keep_Src_Raw.c : Go.Code := Go.Proofs.Tryd.f42.body.getD .skip
@[reducible] def keep_Src_Raw.sh : Sh := ⟨[.one (.is (.ptr 0 0 0))], [.box [.pv (.list (.int .i64)), .pv (.int .i64)]]⟩
@[reducible] def keep_Src_Raw.osh : Sh := ⟨[.one (.pv (.int .i64))], [.box [.pv (.list (.int .i64)), .pv (.int .i64)]]⟩
def keep_Src_Raw.hs : List Hint := []
def keep_Src_Raw.E : Env := ⟨T, fun n ks => none, fun n => none, 31, 1, Gt⟩

/-! keep_Mod: shapesearch/shapesearchkeep.Mod -/
noncomputable def keep_Mod.c : Go.Code := Go.Proofs.Tryd.f41.body.getD .skip
@[reducible] def keep_Mod.sh : Sh := ⟨[.one (.pv (.int .i64)), .one (.pv (.int .i64))], []⟩
@[reducible] def keep_Mod.osh : Sh := ⟨[.one (.pv (.int .i64))], []⟩
def keep_Mod.hs : List Hint := []
def keep_Mod.E : Env := ⟨T, fun n ks => none, fun n => none, 16, 0, Gt⟩

/-! keep_Src_N: (*shapesearch/shapesearchkeep.Src).N -/
noncomputable def keep_Src_N.c : Go.Code := Go.Proofs.Tryd.f21.body.getD .skip
@[reducible] def keep_Src_N.sh : Sh := ⟨[.one (.is (.ptr 0 0 0)), .one (.pv (.int .i64))], [.box [.pv (.list (.int .i64)), .pv (.int .i64)]]⟩
@[reducible] def keep_Src_N.osh : Sh := ⟨[.one (.pv (.int .i64))], [.box [.pv (.list (.int .i64)), .pv (.int .i64)]]⟩
def keep_Src_N.hs : List Hint := []
def keep_Src_N.E (g_keep_Src_Raw : keep_Src_Raw.sh.X → Option keep_Src_Raw.osh.X) (g_keep_Mod : keep_Mod.sh.X → Option keep_Mod.osh.X) : Env := ⟨T, fun n ks => bif Nat.beq n 42 && eqPath ks [] then some (FE.of [true] true keep_Src_Raw.sh keep_Src_Raw.osh g_keep_Src_Raw) else bif Nat.beq n 41 && eqPath ks [] then some (FE.of [true, true] false keep_Mod.sh keep_Mod.osh g_keep_Mod) else none, fun n => none, 9, 1, Gt⟩

/-! keep_Src_Pick: (*shapesearch/shapesearchkeep.Src).Pick -/
noncomputable def keep_Src_Pick.c : Go.Code := Go.Proofs.Tryd.f37.body.getD .skip
@[reducible] def keep_Src_Pick.sh : Sh := ⟨[.one (.is (.ptr 0 0 0)), .one (.pv (.list (.int .i64)))], [.box [.pv (.list (.int .i64)), .pv (.int .i64)]]⟩
@[reducible] def keep_Src_Pick.osh : Sh := ⟨[.one (.pv (.int .i64))], [.box [.pv (.list (.int .i64)), .pv (.int .i64)]]⟩
def keep_Src_Pick.hs : List Hint := []
def keep_Src_Pick.E (g_keep_Src_N : keep_Src_N.sh.X → Option keep_Src_N.osh.X) : Env := ⟨T, fun n ks => bif Nat.beq n 21 && eqPath ks [] then some (FE.of [true, true] true keep_Src_N.sh keep_Src_N.osh g_keep_Src_N) else none, fun n => none, 12, 1, Gt⟩

/-! keep_Src_Ratio: (*shapesearch/shapesearchkeep.Src).Ratio -/
noncomputable def keep_Src_Ratio.c : Go.Code := Go.Proofs.Tryd.f15.body.getD .skip
@[reducible] def keep_Src_Ratio.sh : Sh := ⟨[.one (.is (.ptr 0 0 0))], [.box [.pv (.list (.int .i64)), .pv (.int .i64)]]⟩
@[reducible] def keep_Src_Ratio.osh : Sh := ⟨[.agg [.pv (.int .i64), .pv (.int .i64)]], [.box [.pv (.list (.int .i64)), .pv (.int .i64)]]⟩
@[reducible] def keep_Src_Ratio.s0 : Sh := ⟨[.one (.is (.ptr 1 0 0)), .one (.pv (.int .i64)), .one (.pv (.int .i64)), .one (.pv (.int .i64)), .one (.pv (.int .i64))], [.box [.pv (.list (.int .i64)), .pv (.int .i64)], .box [.pv (.int .i64), .pv (.int .i64)]]⟩
@[reducible] def keep_Src_Ratio.x0 : List (Ex × Sh) := [(.exit 0, ⟨[.one (.is (.ptr 1 0 0)), .one (.pv (.int .i64)), .one (.pv (.int .i64)), .one (.pv (.int .i64))], [.box [.pv (.list (.int .i64)), .pv (.int .i64)], .box [.pv (.int .i64), .pv (.int .i64)]]⟩)]
def keep_Src_Ratio.hs : List Hint := [⟨[0, 0, 1, 1, 1, 1], 0, [2, 3, 4, 5, 6], [(2, [2, 3, 4, 5])]⟩]
def keep_Src_Ratio.E (g_keep_Src_Pick : keep_Src_Pick.sh.X → Option keep_Src_Pick.osh.X) (g_keep_Src_N : keep_Src_N.sh.X → Option keep_Src_N.osh.X) (l0 : ((Unit × Int × Int × Int × Int × Unit) × (((List Int) × Int × Unit) × (Int × Int × Unit) × Unit)) → Option (((Unit × Int × Int × Int × Unit) × (((List Int) × Int × Unit) × (Int × Int × Unit) × Unit)) ⊕ Empty)) : Env := ⟨T, fun n ks => bif Nat.beq n 37 && eqPath ks [] then some (FE.of [true, true] true keep_Src_Pick.sh keep_Src_Pick.osh g_keep_Src_Pick) else bif Nat.beq n 21 && eqPath ks [] then some (FE.of [true, true] true keep_Src_N.sh keep_Src_N.osh g_keep_Src_N) else none, fun n => bif Nat.beq n 0 then some (LE.of keep_Src_Ratio.s0 keep_Src_Ratio.x0 l0) else none, 33, 1, Gt⟩

/-! stringslite_IndexByte: internal/stringslite.IndexByte -/
noncomputable def stringslite_IndexByte.c : Go.Code := Go.Proofs.Tryd.f70.body.getD .skip
@[reducible] def stringslite_IndexByte.sh : Sh := ⟨[.one (.pv .str), .one (.pv (.int .u8))], []⟩
@[reducible] def stringslite_IndexByte.osh : Sh := ⟨[.one (.pv (.int .i64))], []⟩
def stringslite_IndexByte.hs : List Hint := []
def stringslite_IndexByte.E : Env := ⟨T, fun n ks => none, fun n => none, 8, 0, Gt⟩

/-! stringslite_Index: internal/stringslite.Index -/
noncomputable def stringslite_Index.c : Go.Code := Go.Proofs.Tryd.f63.body.getD .skip
@[reducible] def stringslite_Index.sh : Sh := ⟨[.one (.pv .str), .one (.pv .str)], []⟩
@[reducible] def stringslite_Index.osh : Sh := ⟨[.one (.pv (.int .i64))], []⟩
@[reducible] def stringslite_Index.s0 : Sh := ⟨[.one (.pv .str), .one (.pv .str), .one (.pv (.int .i64))], []⟩
@[reducible] def stringslite_Index.x0 : List (Ex × Sh) := [(.ret, ⟨[.one (.pv (.int .i64))], []⟩)]
@[reducible] def stringslite_Index.s1 : Sh := ⟨[.one (.pv .str), .one (.pv .str), .one (.pv (.int .i64))], []⟩
@[reducible] def stringslite_Index.x1 : List (Ex × Sh) := [(.normal, ⟨[.one (.pv .str), .one (.pv .str), .one (.pv (.int .i64)), .one (.pv .bool)], []⟩)]
def stringslite_Index.hs : List Hint := [⟨[0, 1, 1], 0, [0, 1, 5], [(1, [4])]⟩, ⟨[0, 0, 0, 1, 1], 1, [0, 1, 5], [(0, [0, 1, 5, 16])]⟩]
def stringslite_Index.E (g_stringslite_IndexByte : stringslite_IndexByte.sh.X → Option stringslite_IndexByte.osh.X) (l0 : ((ByteArray × ByteArray × Int × Unit) × (Unit)) → Option (((Int × Unit) × (Unit)) ⊕ Empty)) (l1 : ((ByteArray × ByteArray × Int × Unit) × (Unit)) → Option (((ByteArray × ByteArray × Int × Bool × Unit) × (Unit)) ⊕ Empty)) : Env := ⟨T, fun n ks => bif Nat.beq n 70 && eqPath ks [] then some (FE.of [true, true] false stringslite_IndexByte.sh stringslite_IndexByte.osh g_stringslite_IndexByte) else none, fun n => bif Nat.beq n 0 then some (LE.of stringslite_Index.s0 stringslite_Index.x0 l0) else bif Nat.beq n 1 then some (LE.of stringslite_Index.s1 stringslite_Index.x1 l1) else none, 143, 0, Gt⟩

/-! stringslite_Cut: internal/stringslite.Cut -/
noncomputable def stringslite_Cut.c : Go.Code := Go.Proofs.Tryd.f53.body.getD .skip
@[reducible] def stringslite_Cut.sh : Sh := ⟨[.one (.pv .str), .one (.pv .str)], []⟩
@[reducible] def stringslite_Cut.osh : Sh := ⟨[.one (.pv .str), .one (.pv .str), .one (.pv .bool)], []⟩
def stringslite_Cut.hs : List Hint := []
def stringslite_Cut.E (g_stringslite_Index : stringslite_Index.sh.X → Option stringslite_Index.osh.X) : Env := ⟨T, fun n ks => bif Nat.beq n 63 && eqPath ks [] then some (FE.of [true, true] false stringslite_Index.sh stringslite_Index.osh g_stringslite_Index) else none, fun n => none, 23, 0, Gt⟩

/-! strings_Cut: strings.Cut -/
noncomputable def strings_Cut.c : Go.Code := Go.Proofs.Tryd.f43.body.getD .skip
@[reducible] def strings_Cut.sh : Sh := ⟨[.one (.pv .str), .one (.pv .str)], []⟩
@[reducible] def strings_Cut.osh : Sh := ⟨[.one (.pv .str), .one (.pv .str), .one (.pv .bool)], []⟩
def strings_Cut.hs : List Hint := []
def strings_Cut.E (g_stringslite_Cut : stringslite_Cut.sh.X → Option stringslite_Cut.osh.X) : Env := ⟨T, fun n ks => bif Nat.beq n 53 && eqPath ks [] then some (FE.of [true, true] false stringslite_Cut.sh stringslite_Cut.osh g_stringslite_Cut) else none, fun n => none, 13, 0, Gt⟩

/-! strconv_Atoi: strconv.Atoi -/
noncomputable def strconv_Atoi.c : Go.Code := Go.Proofs.Tryd.f44.body.getD .skip
@[reducible] def strconv_Atoi.sh : Sh := ⟨[.one (.pv .str)], []⟩
@[reducible] def strconv_Atoi.osh : Sh := ⟨[.one (.pv (.int .i64)), .one (.pv (.err 25))], []⟩
def strconv_Atoi.hs : List Hint := []
def strconv_Atoi.E : Env := ⟨T, fun n ks => none, fun n => none, 18, 0, Gt⟩

/-! ratio_Parse: shapesearch/ratio.Parse -/
noncomputable def ratio_Parse.c : Go.Code := Go.Proofs.Tryd.f23.body.getD .skip
@[reducible] def ratio_Parse.sh : Sh := ⟨[.one (.pv .str)], []⟩
@[reducible] def ratio_Parse.osh : Sh := ⟨[.agg [.pv (.int .i64), .pv (.int .i64)], .one (.pv (.int .i64))], []⟩
def ratio_Parse.hs : List Hint := []
def ratio_Parse.E (g_strings_Cut : strings_Cut.sh.X → Option strings_Cut.osh.X) (g_strconv_Atoi : strconv_Atoi.sh.X → Option strconv_Atoi.osh.X) (g_ratio_Valid : ratio_Valid.sh.X → Option ratio_Valid.osh.X) (g_ratio_Format : ratio_Format.sh.X → Option ratio_Format.osh.X) : Env := ⟨T, fun n ks => bif Nat.beq n 43 && eqPath ks [] then some (FE.of [true, true] false strings_Cut.sh strings_Cut.osh g_strings_Cut) else bif Nat.beq n 44 && eqPath ks [] then some (FE.of [true] false strconv_Atoi.sh strconv_Atoi.osh g_strconv_Atoi) else bif Nat.beq n 12 && eqPath ks [] then some (FE.of [true] false ratio_Valid.sh ratio_Valid.osh g_ratio_Valid) else bif Nat.beq n 24 && eqPath ks [] then some (FE.of [true] false ratio_Format.sh ratio_Format.osh g_ratio_Format) else none, fun n => none, 46, 0, Gt⟩

/-! law01_RatioReads: shapesearch/shapesearchlaw01.RatioReads -/
noncomputable def law01_RatioReads.c : Go.Code := Go.Proofs.Tryd.f9.body.getD .skip
@[reducible] def law01_RatioReads.sh : Sh := ⟨[.one (.pv (.list (.int .i64))), .one (.pv .str)], []⟩
@[reducible] def law01_RatioReads.osh : Sh := ⟨[.one (.pv .bool)], []⟩
@[reducible] def law01_RatioReads.s0 : Sh := ⟨[.one (.pv .str), .one (.is (.ptr 0 0 0)), .one (.is (.ptr 1 0 0)), .one (.pv (.int .i64)), .one (.is (.ptr 2 0 0)), .one (.pv (.int .i64))], [.box [.pv (.int .i64), .pv (.int .i64)], .box [.pv (.int .i64), .pv (.int .i64)], .box [.pv (.int .i64), .pv (.int .i64)]]⟩
@[reducible] def law01_RatioReads.x0 : List (Ex × Sh) := [(.normal, ⟨[.one (.pv .bool)], []⟩)]
def law01_RatioReads.hs : List Hint := [⟨[0, 1, 1, 1, 1, 1], 0, [1, 5, 6, 7, 8, 9], [(0, [4])]⟩]
def law01_RatioReads.E (g_law01_awake : law01_awake.sh.X → Option law01_awake.osh.X) (g_keep_New : keep_New.sh.X → Option keep_New.osh.X) (g_keep_Src_Ratio : keep_Src_Ratio.sh.X → Option keep_Src_Ratio.osh.X) (g_ratio_Format : ratio_Format.sh.X → Option ratio_Format.osh.X) (g_ratio_Parse : ratio_Parse.sh.X → Option ratio_Parse.osh.X) (g_ratio_Valid : ratio_Valid.sh.X → Option ratio_Valid.osh.X) (l0 : ((ByteArray × Unit × Unit × Int × Unit × Int × Unit) × ((Int × Int × Unit) × (Int × Int × Unit) × (Int × Int × Unit) × Unit)) → Option (((Bool × Unit) × (Unit)) ⊕ Empty)) : Env := ⟨T, fun n ks => bif Nat.beq n 13 && eqPath ks [] then some (FE.of [] false law01_awake.sh law01_awake.osh g_law01_awake) else bif Nat.beq n 14 && eqPath ks [] then some (FE.of [true] true keep_New.sh keep_New.osh g_keep_New) else bif Nat.beq n 15 && eqPath ks [] then some (FE.of [true] true keep_Src_Ratio.sh keep_Src_Ratio.osh g_keep_Src_Ratio) else bif Nat.beq n 24 && eqPath ks [] then some (FE.of [true] false ratio_Format.sh ratio_Format.osh g_ratio_Format) else bif Nat.beq n 23 && eqPath ks [] then some (FE.of [true] false ratio_Parse.sh ratio_Parse.osh g_ratio_Parse) else bif Nat.beq n 12 && eqPath ks [] then some (FE.of [true] false ratio_Valid.sh ratio_Valid.osh g_ratio_Valid) else none, fun n => bif Nat.beq n 0 then some (LE.of law01_RatioReads.s0 law01_RatioReads.x0 l0) else none, 52, 0, Gt⟩
end Go.Proofs.YtdfdecpplnjdcaaDoor.V
