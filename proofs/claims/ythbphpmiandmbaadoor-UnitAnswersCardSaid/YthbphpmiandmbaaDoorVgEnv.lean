import Derived.Test.YthbphpmiandmbaaDoorProg
import Derived.KernelRfl
import Derived.Test.YthbphpmiandmbaaDoorViC
set_option linter.unusedVariables false
namespace Go.Proofs.YthbphpmiandmbaaDoor.V
open Go.VI
def T : Tb := [(3, ⟨.int .i64, 1, 8, some (.int .i64), true⟩),
  (4, ⟨.bool, 1, 1, some .bool, true⟩),
  (5, ⟨.int .u8, 1, 1, some (.int .u8), true⟩),
  (9, ⟨.str, 1, 16, some .str, true⟩),
  (20, ⟨.err, 1, 16, some (.err 25), false⟩),
  (23, ⟨.struct [(0, 9), (1, 3), (2, 3), (3, 3)], 4, 40, some (.pair .str (.pair (.int .i64) (.pair (.int .i64) (.int .i64)))), true⟩),
  (24, ⟨.struct [(0, 9), (1, 3), (2, 3), (3, 3)], 4, 40, some (.pair .str (.pair (.int .i64) (.pair (.int .i64) (.int .i64)))), true⟩),
  (25, ⟨.int .i64, 1, 8, some (.int .i64), true⟩),
  (28, ⟨.struct [(0, 3), (1, 3)], 2, 16, some (.pair (.int .i64) (.int .i64)), true⟩),
  (29, ⟨.struct [(0, 3), (1, 3)], 2, 16, some (.pair (.int .i64) (.int .i64)), true⟩),
  (32, ⟨.slice 3, 1, 24, some (.list (.int .i64)), false⟩),
  (39, ⟨.slice 9, 1, 24, some (.list .str), false⟩),
  (42, ⟨.slice 29, 1, 24, some (.list (.pair (.int .i64) (.int .i64))), false⟩),
  (43, ⟨.slice 24, 1, 24, some (.list (.pair .str (.pair (.int .i64) (.pair (.int .i64) (.int .i64))))), false⟩),
  (49, ⟨.arr 7 3, 7, 56, some (.pair (.int .i64) (.pair (.int .i64) (.pair (.int .i64) (.pair (.int .i64) (.pair (.int .i64) (.pair (.int .i64) (.int .i64))))))), false⟩),
  (50, ⟨.ptr 65, 1, 8, none, false⟩),
  (64, ⟨.struct [(0, 32), (1, 3)], 2, 32, some (.pair (.list (.int .i64)) (.int .i64)), false⟩),
  (65, ⟨.struct [(0, 32), (1, 3)], 2, 32, some (.pair (.list (.int .i64)) (.int .i64)), false⟩),
  (67, ⟨.slice 5, 1, 24, some (.list (.int .u8)), false⟩),
  (70, ⟨.arr 256 4, 256, 256, none, false⟩),
  (71, ⟨.arr 256 4, 256, 256, none, false⟩),
  (75, ⟨.ptr 71, 1, 8, none, false⟩),
  (76, ⟨.int .u64, 1, 8, some (.int .u64), true⟩),
  (80, ⟨.ptr 82, 1, 8, none, false⟩),
  (81, ⟨.struct [(0, 80), (1, 67)], 2, 32, none, false⟩),
  (82, ⟨.struct [(0, 80), (1, 67)], 2, 32, none, false⟩)]
theorem tb : tbOk Go.Proofs.Tryd.prog T = true := by kernel_rfl
def Gt : Nat → Option (Go.IntKind × List Int) := fun g => bif Nat.beq g 0 then some (.i64, [(1 : Int), 10, 100, 1000, 10000, 100000, 1000000]) else bif Nat.beq g 4 then some (.u64, [(1 : Int), 10, 100, 1000, 10000, 100000, 1000000, 10000000, 100000000, 1000000000, 10000000000, 100000000000, 1000000000000, 10000000000000, 100000000000000, 1000000000000000, 10000000000000000, 100000000000000000, 1000000000000000000, 10000000000000000000]) else none
def TabsOk (tabs : List (Nat × Go.Obj)) : Prop := TabHas tabs 0 .i64 [(1 : Int), 10, 100, 1000, 10000, 100000, 1000000] ∧ TabHas tabs 4 .u64 [(1 : Int), 10, 100, 1000, 10000, 100000, 1000000, 10000000, 100000000, 1000000000, 10000000000, 100000000000, 1000000000000, 10000000000000, 100000000000000, 1000000000000000, 10000000000000000, 100000000000000000, 1000000000000000000, 10000000000000000000] ∧ True
theorem gt_ok {tabs : List (Nat × Go.Obj)} (ht : TabsOk tabs) : ∀ g k zs, Gt g = some (k, zs) → TabHas tabs g k zs := by
  intro g k zs h
  unfold Gt at h
  obtain ⟨h0, h4, _⟩ := ht
  cases hb : Nat.beq g 0 with
  | true => rw [hb] at h; obtain rfl := Nat.eq_of_beq_eq_true hb; cases h; exact h0
  | false =>
  rw [hb] at h
  cases hb : Nat.beq g 4 with
  | true => rw [hb] at h; obtain rfl := Nat.eq_of_beq_eq_true hb; cases h; exact h4
  | false =>
  rw [hb] at h
  cases h

/-! stringslite_HasPrefix: internal/stringslite.HasPrefix -/
noncomputable def stringslite_HasPrefix.c : Go.Code := Go.Proofs.Tryd.f54.body.getD .skip
@[reducible] def stringslite_HasPrefix.sh : Sh := ⟨[.one (.pv .str), .one (.pv .str)], []⟩
@[reducible] def stringslite_HasPrefix.osh : Sh := ⟨[.one (.pv .bool)], []⟩
def stringslite_HasPrefix.hs : List Hint := []
def stringslite_HasPrefix.E : Env := ⟨T, fun n ks => none, fun n => none, 18, 0, Gt⟩

/-! stringslite_CutPrefix: internal/stringslite.CutPrefix -/
noncomputable def stringslite_CutPrefix.c : Go.Code := Go.Proofs.Tryd.f39.body.getD .skip
@[reducible] def stringslite_CutPrefix.sh : Sh := ⟨[.one (.pv .str), .one (.pv .str)], []⟩
@[reducible] def stringslite_CutPrefix.osh : Sh := ⟨[.one (.pv .str), .one (.pv .bool)], []⟩
def stringslite_CutPrefix.hs : List Hint := []
def stringslite_CutPrefix.E (g_stringslite_HasPrefix : stringslite_HasPrefix.sh.X → Option stringslite_HasPrefix.osh.X) : Env := ⟨T, fun n ks => bif Nat.beq n 54 && eqPath ks [] then some (FE.of [true, true] false stringslite_HasPrefix.sh stringslite_HasPrefix.osh g_stringslite_HasPrefix) else none, fun n => none, 15, 0, Gt⟩

/-! strings_CutPrefix: strings.CutPrefix -/
noncomputable def strings_CutPrefix.c : Go.Code := Go.Proofs.Tryd.f29.body.getD .skip
@[reducible] def strings_CutPrefix.sh : Sh := ⟨[.one (.pv .str), .one (.pv .str)], []⟩
@[reducible] def strings_CutPrefix.osh : Sh := ⟨[.one (.pv .str), .one (.pv .bool)], []⟩
def strings_CutPrefix.hs : List Hint := []
def strings_CutPrefix.E (g_stringslite_CutPrefix : stringslite_CutPrefix.sh.X → Option stringslite_CutPrefix.osh.X) : Env := ⟨T, fun n ks => bif Nat.beq n 39 && eqPath ks [] then some (FE.of [true, true] false stringslite_CutPrefix.sh stringslite_CutPrefix.osh g_stringslite_CutPrefix) else none, fun n => none, 11, 0, Gt⟩

/-! stringslite_IndexByte: internal/stringslite.IndexByte -/
noncomputable def stringslite_IndexByte.c : Go.Code := Go.Proofs.Tryd.f64.body.getD .skip
@[reducible] def stringslite_IndexByte.sh : Sh := ⟨[.one (.pv .str), .one (.pv (.int .u8))], []⟩
@[reducible] def stringslite_IndexByte.osh : Sh := ⟨[.one (.pv (.int .i64))], []⟩
def stringslite_IndexByte.hs : List Hint := []
def stringslite_IndexByte.E : Env := ⟨T, fun n ks => none, fun n => none, 8, 0, Gt⟩

/-! stringslite_Index: internal/stringslite.Index -/
noncomputable def stringslite_Index.c : Go.Code := Go.Proofs.Tryd.f55.body.getD .skip
@[reducible] def stringslite_Index.sh : Sh := ⟨[.one (.pv .str), .one (.pv .str)], []⟩
@[reducible] def stringslite_Index.osh : Sh := ⟨[.one (.pv (.int .i64))], []⟩
@[reducible] def stringslite_Index.s0 : Sh := ⟨[.one (.pv .str), .one (.pv .str), .one (.pv (.int .i64))], []⟩
@[reducible] def stringslite_Index.x0 : List (Ex × Sh) := [(.ret, ⟨[.one (.pv (.int .i64))], []⟩)]
@[reducible] def stringslite_Index.s1 : Sh := ⟨[.one (.pv .str), .one (.pv .str), .one (.pv (.int .i64))], []⟩
@[reducible] def stringslite_Index.x1 : List (Ex × Sh) := [(.normal, ⟨[.one (.pv .str), .one (.pv .str), .one (.pv (.int .i64)), .one (.pv .bool)], []⟩)]
def stringslite_Index.hs : List Hint := [⟨[0, 1, 1], 0, [0, 1, 5], [(1, [4])]⟩, ⟨[0, 0, 0, 1, 1], 1, [0, 1, 5], [(0, [0, 1, 5, 16])]⟩]
def stringslite_Index.E (g_stringslite_IndexByte : stringslite_IndexByte.sh.X → Option stringslite_IndexByte.osh.X) (l0 : ((ByteArray × ByteArray × Int × Unit) × (Unit)) → Option (((Int × Unit) × (Unit)) ⊕ Empty)) (l1 : ((ByteArray × ByteArray × Int × Unit) × (Unit)) → Option (((ByteArray × ByteArray × Int × Bool × Unit) × (Unit)) ⊕ Empty)) : Env := ⟨T, fun n ks => bif Nat.beq n 64 && eqPath ks [] then some (FE.of [true, true] false stringslite_IndexByte.sh stringslite_IndexByte.osh g_stringslite_IndexByte) else none, fun n => bif Nat.beq n 0 then some (LE.of stringslite_Index.s0 stringslite_Index.x0 l0) else bif Nat.beq n 1 then some (LE.of stringslite_Index.s1 stringslite_Index.x1 l1) else none, 143, 0, Gt⟩

/-! stringslite_Cut: internal/stringslite.Cut -/
noncomputable def stringslite_Cut.c : Go.Code := Go.Proofs.Tryd.f40.body.getD .skip
@[reducible] def stringslite_Cut.sh : Sh := ⟨[.one (.pv .str), .one (.pv .str)], []⟩
@[reducible] def stringslite_Cut.osh : Sh := ⟨[.one (.pv .str), .one (.pv .str), .one (.pv .bool)], []⟩
def stringslite_Cut.hs : List Hint := []
def stringslite_Cut.E (g_stringslite_Index : stringslite_Index.sh.X → Option stringslite_Index.osh.X) : Env := ⟨T, fun n ks => bif Nat.beq n 55 && eqPath ks [] then some (FE.of [true, true] false stringslite_Index.sh stringslite_Index.osh g_stringslite_Index) else none, fun n => none, 23, 0, Gt⟩

/-! strings_Cut: strings.Cut -/
noncomputable def strings_Cut.c : Go.Code := Go.Proofs.Tryd.f30.body.getD .skip
@[reducible] def strings_Cut.sh : Sh := ⟨[.one (.pv .str), .one (.pv .str)], []⟩
@[reducible] def strings_Cut.osh : Sh := ⟨[.one (.pv .str), .one (.pv .str), .one (.pv .bool)], []⟩
def strings_Cut.hs : List Hint := []
def strings_Cut.E (g_stringslite_Cut : stringslite_Cut.sh.X → Option stringslite_Cut.osh.X) : Env := ⟨T, fun n ks => bif Nat.beq n 40 && eqPath ks [] then some (FE.of [true, true] false stringslite_Cut.sh stringslite_Cut.osh g_stringslite_Cut) else none, fun n => none, 13, 0, Gt⟩

/-! unit_class: shapesearch/unit.class -/
noncomputable def unit_class.c : Go.Code := Go.Proofs.Tryd.f41.body.getD .skip
@[reducible] def unit_class.sh : Sh := ⟨[.one (.pv (.int .u8))], []⟩
@[reducible] def unit_class.osh : Sh := ⟨[.one (.pv (.int .i64))], []⟩
def unit_class.hs : List Hint := []
def unit_class.E : Env := ⟨T, fun n ks => none, fun n => none, 9, 0, Gt⟩

/-! unit_digits: shapesearch/unit.digits -/
noncomputable def unit_digits.c : Go.Code := Go.Proofs.Tryd.f31.body.getD .skip
@[reducible] def unit_digits.sh : Sh := ⟨[.one (.pv .str)], []⟩
@[reducible] def unit_digits.osh : Sh := ⟨[.one (.pv .bool)], []⟩
@[reducible] def unit_digits.s0 : Sh := ⟨[.one (.pv .str), .one (.pv (.int .i64)), .one (.pv (.int .i64))], []⟩
@[reducible] def unit_digits.x0 : List (Ex × Sh) := [(.exit 0, ⟨[.one (.pv .str)], []⟩), (.ret, ⟨[.one (.pv .bool)], []⟩)]
def unit_digits.hs : List Hint := [⟨[0, 1, 0, 1], 0, [0, 5, 6], [(2, [0]), (1, [2])]⟩]
def unit_digits.E (g_unit_class : unit_class.sh.X → Option unit_class.osh.X) (l0 : ((ByteArray × Int × Int × Unit) × (Unit)) → Option (((ByteArray × Unit) × (Unit)) ⊕ ((Bool × Unit) × (Unit)) ⊕ Empty)) : Env := ⟨T, fun n ks => bif Nat.beq n 41 && eqPath ks [] then some (FE.of [true] false unit_class.sh unit_class.osh g_unit_class) else none, fun n => bif Nat.beq n 0 then some (LE.of unit_digits.s0 unit_digits.x0 l0) else none, 17, 0, Gt⟩

/-! strings_trimLeftByte: strings.trimLeftByte -/
noncomputable def strings_trimLeftByte.c : Go.Code := Go.Proofs.Tryd.f42.body.getD .skip
@[reducible] def strings_trimLeftByte.sh : Sh := ⟨[.one (.pv .str), .one (.pv (.int .u8))], []⟩
@[reducible] def strings_trimLeftByte.osh : Sh := ⟨[.one (.pv .str)], []⟩
@[reducible] def strings_trimLeftByte.s0 : Sh := ⟨[.one (.pv .str), .one (.pv (.int .u8))], []⟩
@[reducible] def strings_trimLeftByte.x0 : List (Ex × Sh) := [(.exit 0, ⟨[.one (.pv .str)], []⟩)]
def strings_trimLeftByte.hs : List Hint := [⟨[0, 0, 1], 0, [0, 1], [(2, [0])]⟩]
def strings_trimLeftByte.E (l0 : ((ByteArray × Int × Unit) × (Unit)) → Option (((ByteArray × Unit) × (Unit)) ⊕ Empty)) : Env := ⟨T, fun n ks => none, fun n => bif Nat.beq n 0 then some (LE.of strings_trimLeftByte.s0 strings_trimLeftByte.x0 l0) else none, 17, 0, Gt⟩

/-! strings_TrimLeft: strings.TrimLeft -/
noncomputable def strings_TrimLeft.c : Go.Code := Go.Proofs.Tryd.f32.body.getD .skip
@[reducible] def strings_TrimLeft.sh : Sh := ⟨[.one (.pv .str), .one (.pv .str)], []⟩
@[reducible] def strings_TrimLeft.osh : Sh := ⟨[.one (.pv .str)], []⟩
@[reducible] def strings_TrimLeft.s0 : Sh := ⟨[.one (.pv .str), .one (.pv .str)], []⟩
@[reducible] def strings_TrimLeft.x0 : List (Ex × Sh) := [(.normal, ⟨[.one (.pv .str), .one (.pv .str), .one (.pv .bool)], []⟩)]
@[reducible] def strings_TrimLeft.s1 : Sh := ⟨[.one (.pv .str), .one (.pv .str)], []⟩
@[reducible] def strings_TrimLeft.x1 : List (Ex × Sh) := [(.normal, ⟨[.one (.pv .str), .one (.pv .str), .one (.pv .bool)], []⟩)]
def strings_TrimLeft.hs : List Hint := [⟨[0, 0, 1], 0, [0, 1], [(0, [0, 1, 12])]⟩, ⟨[0, 0, 1, 1], 1, [0, 1], [(0, [0, 1, 21])]⟩]
def strings_TrimLeft.E (g_strings_trimLeftByte : strings_trimLeftByte.sh.X → Option strings_trimLeftByte.osh.X) (l0 : ((ByteArray × ByteArray × Unit) × (Unit)) → Option (((ByteArray × ByteArray × Bool × Unit) × (Unit)) ⊕ Empty)) (l1 : ((ByteArray × ByteArray × Unit) × (Unit)) → Option (((ByteArray × ByteArray × Bool × Unit) × (Unit)) ⊕ Empty)) : Env := ⟨T, fun n ks => bif Nat.beq n 42 && eqPath ks [] then some (FE.of [true, true] false strings_trimLeftByte.sh strings_trimLeftByte.osh g_strings_trimLeftByte) else none, fun n => bif Nat.beq n 0 then some (LE.of strings_TrimLeft.s0 strings_TrimLeft.x0 l0) else bif Nat.beq n 1 then some (LE.of strings_TrimLeft.s1 strings_TrimLeft.x1 l1) else none, 37, 0, Gt⟩

/-! unit_Parse: shapesearch/unit.Parse -/
noncomputable def unit_Parse.c : Go.Code := Go.Proofs.Tryd.f13.body.getD .skip
@[reducible] def unit_Parse.sh : Sh := ⟨[.one (.pv .str)], []⟩
@[reducible] def unit_Parse.osh : Sh := ⟨[.agg [.pv (.int .i64), .pv (.int .i64)], .one (.pv (.int .i64))], []⟩
@[reducible] def unit_Parse.s0 : Sh := ⟨[.one (.is (.ptr 0 0 0)), .one (.pv .bool), .one (.pv .str), .one (.pv .str), .one (.pv .bool)], [.box [.pv (.int .i64), .pv (.int .i64)]]⟩
@[reducible] def unit_Parse.x0 : List (Ex × Sh) := [(.normal, ⟨[.one (.is (.ptr 0 0 0)), .one (.pv .bool), .one (.pv .str), .one (.pv .str), .one (.pv .bool)], [.box [.pv (.int .i64), .pv (.int .i64)]]⟩)]
@[reducible] def unit_Parse.s1 : Sh := ⟨[.one (.is (.ptr 0 0 0)), .one (.pv .bool), .one (.pv .str), .one (.pv .str)], [.box [.pv (.int .i64), .pv (.int .i64)]]⟩
@[reducible] def unit_Parse.x1 : List (Ex × Sh) := [(.normal, ⟨[.one (.is (.ptr 0 0 0)), .one (.pv .bool), .one (.pv .str), .one (.pv .str), .one (.pv .bool)], [.box [.pv (.int .i64), .pv (.int .i64)]]⟩)]
@[reducible] def unit_Parse.s2 : Sh := ⟨[.one (.is (.ptr 0 0 0)), .one (.pv .bool), .one (.pv .str), .one (.pv .str), .one (.pv (.int .i64)), .one (.pv (.int .i64)), .one (.pv (.int .i64))], [.box [.pv (.int .i64), .pv (.int .i64)]]⟩
@[reducible] def unit_Parse.x2 : List (Ex × Sh) := [(.exit 0, ⟨[.one (.is (.ptr 0 0 0)), .one (.pv .bool), .one (.pv .str), .one (.pv (.int .i64))], [.box [.pv (.int .i64), .pv (.int .i64)]]⟩), (.ret, ⟨[.one (.is (.ptr 0 0 0)), .one (.pv (.int .i64))], [.box [.pv (.int .i64), .pv (.int .i64)]]⟩)]
def unit_Parse.hs : List Hint := [⟨[0, 0, 1, 1, 1], 0, [2, 5, 6, 7, 8], [(0, [2, 5, 6, 7, 48])]⟩, ⟨[0, 0, 1, 1, 1, 1, 1], 1, [2, 5, 7, 9], [(0, [2, 5, 7, 9, 58])]⟩, ⟨[0, 1, 0, 1, 1, 1, 1, 1, 1, 1], 2, [2, 5, 7, 9, 10, 61, 62], [(2, [2, 5, 7, 10]), (1, [2, 3])]⟩]
def unit_Parse.E (g_strings_CutPrefix : strings_CutPrefix.sh.X → Option strings_CutPrefix.osh.X) (g_strings_Cut : strings_Cut.sh.X → Option strings_Cut.osh.X) (g_unit_digits : unit_digits.sh.X → Option unit_digits.osh.X) (g_strings_TrimLeft : strings_TrimLeft.sh.X → Option strings_TrimLeft.osh.X) (l0 : ((Unit × Bool × ByteArray × ByteArray × Bool × Unit) × ((Int × Int × Unit) × Unit)) → Option (((Unit × Bool × ByteArray × ByteArray × Bool × Unit) × ((Int × Int × Unit) × Unit)) ⊕ Empty)) (l1 : ((Unit × Bool × ByteArray × ByteArray × Unit) × ((Int × Int × Unit) × Unit)) → Option (((Unit × Bool × ByteArray × ByteArray × Bool × Unit) × ((Int × Int × Unit) × Unit)) ⊕ Empty)) (l2 : ((Unit × Bool × ByteArray × ByteArray × Int × Int × Int × Unit) × ((Int × Int × Unit) × Unit)) → Option (((Unit × Bool × ByteArray × Int × Unit) × ((Int × Int × Unit) × Unit)) ⊕ ((Unit × Int × Unit) × ((Int × Int × Unit) × Unit)) ⊕ Empty)) : Env := ⟨T, fun n ks => bif Nat.beq n 29 && eqPath ks [] then some (FE.of [true, true] false strings_CutPrefix.sh strings_CutPrefix.osh g_strings_CutPrefix) else bif Nat.beq n 30 && eqPath ks [] then some (FE.of [true, true] false strings_Cut.sh strings_Cut.osh g_strings_Cut) else bif Nat.beq n 31 && eqPath ks [] then some (FE.of [true] false unit_digits.sh unit_digits.osh g_unit_digits) else bif Nat.beq n 32 && eqPath ks [] then some (FE.of [true, true] false strings_TrimLeft.sh strings_TrimLeft.osh g_strings_TrimLeft) else none, fun n => bif Nat.beq n 0 then some (LE.of unit_Parse.s0 unit_Parse.x0 l0) else bif Nat.beq n 1 then some (LE.of unit_Parse.s1 unit_Parse.x1 l1) else bif Nat.beq n 2 then some (LE.of unit_Parse.s2 unit_Parse.x2 l2) else none, 84, 0, Gt⟩

/-! law04_raw: shapesearch/shapesearchlaw04.raw -/
noncomputable def law04_raw.c : Go.Code := Go.Proofs.Tryd.f11.body.getD .skip
@[reducible] def law04_raw.sh : Sh := ⟨[], []⟩
@[reducible] def law04_raw.osh : Sh := ⟨[.agg [.pv .str, .pv (.int .i64), .pv (.int .i64), .pv (.int .i64)]], []⟩
def law04_raw.hs : List Hint := []
def law04_raw.E : Env := ⟨T, fun n ks => none, fun n => none, 2, 0, Gt⟩

/-! unit_proper: shapesearch/unit.proper -/
noncomputable def unit_proper.c : Go.Code := Go.Proofs.Tryd.f19.body.getD .skip
@[reducible] def unit_proper.sh : Sh := ⟨[.agg [.pv (.int .i64), .pv (.int .i64)]], []⟩
@[reducible] def unit_proper.osh : Sh := ⟨[.one (.pv .bool)], []⟩
def unit_proper.hs : List Hint := []
def unit_proper.E : Env := ⟨T, fun n ks => none, fun n => none, 21, 0, Gt⟩

/-! unit_Valid: shapesearch/unit.Valid -/
noncomputable def unit_Valid.c : Go.Code := Go.Proofs.Tryd.f17.body.getD .skip
@[reducible] def unit_Valid.sh : Sh := ⟨[.agg [.pv .str, .pv (.int .i64), .pv (.int .i64), .pv (.int .i64)]], []⟩
@[reducible] def unit_Valid.osh : Sh := ⟨[.one (.pv .bool)], []⟩
@[reducible] def unit_Valid.s0 : Sh := ⟨[.one (.is (.ptr 0 0 0))], [.box [.pv .str, .pv (.int .i64), .pv (.int .i64), .pv (.int .i64)]]⟩
@[reducible] def unit_Valid.x0 : List (Ex × Sh) := [(.normal, ⟨[.one (.is (.ptr 0 0 0)), .one (.pv .bool)], [.box [.pv .str, .pv (.int .i64), .pv (.int .i64), .pv (.int .i64)]]⟩)]
@[reducible] def unit_Valid.s1 : Sh := ⟨[.one (.is (.ptr 0 0 0)), .one (.pv (.int .i64)), .one (.pv (.int .i64))], [.box [.pv .str, .pv (.int .i64), .pv (.int .i64), .pv (.int .i64)]]⟩
@[reducible] def unit_Valid.x1 : List (Ex × Sh) := [(.exit 0, ⟨[.one (.is (.ptr 0 0 0))], [.box [.pv .str, .pv (.int .i64), .pv (.int .i64), .pv (.int .i64)]]⟩), (.ret, ⟨[.one (.pv .bool)], []⟩)]
@[reducible] def unit_Valid.s2 : Sh := ⟨[.one (.is (.ptr 0 0 0))], [.box [.pv .str, .pv (.int .i64), .pv (.int .i64), .pv (.int .i64)]]⟩
@[reducible] def unit_Valid.x2 : List (Ex × Sh) := [(.normal, ⟨[.one (.pv .bool)], []⟩)]
def unit_Valid.hs : List Hint := [⟨[0, 0, 1], 0, [1], [(0, [1, 13])]⟩, ⟨[0, 1, 0, 1, 1], 1, [1, 16, 17], [(2, [1]), (1, [2])]⟩, ⟨[0, 1, 1, 1], 2, [1], [(0, [2])]⟩]
def unit_Valid.E (l0 : ((Unit × Unit) × ((ByteArray × Int × Int × Int × Unit) × Unit)) → Option (((Unit × Bool × Unit) × ((ByteArray × Int × Int × Int × Unit) × Unit)) ⊕ Empty)) (l1 : ((Unit × Int × Int × Unit) × ((ByteArray × Int × Int × Int × Unit) × Unit)) → Option (((Unit × Unit) × ((ByteArray × Int × Int × Int × Unit) × Unit)) ⊕ ((Bool × Unit) × (Unit)) ⊕ Empty)) (l2 : ((Unit × Unit) × ((ByteArray × Int × Int × Int × Unit) × Unit)) → Option (((Bool × Unit) × (Unit)) ⊕ Empty)) : Env := ⟨T, fun n ks => none, fun n => bif Nat.beq n 0 then some (LE.of unit_Valid.s0 unit_Valid.x0 l0) else bif Nat.beq n 1 then some (LE.of unit_Valid.s1 unit_Valid.x1 l1) else bif Nat.beq n 2 then some (LE.of unit_Valid.s2 unit_Valid.x2 l2) else none, 61, 0, Gt⟩

/-! unit_half: shapesearch/unit.half -/
noncomputable def unit_half.c : Go.Code := Go.Proofs.Tryd.f20.body.getD .skip
@[reducible] def unit_half.sh : Sh := ⟨[.one (.pv (.int .i64)), .one (.pv (.int .i64))], []⟩
@[reducible] def unit_half.osh : Sh := ⟨[.one (.pv (.int .i64))], []⟩
def unit_half.hs : List Hint := []
def unit_half.E : Env := ⟨T, fun n ks => none, fun n => none, 24, 0, Gt⟩

/-! unit_Convert: shapesearch/unit.Convert -/
noncomputable def unit_Convert.c : Go.Code := Go.Proofs.Tryd.f8.body.getD .skip
@[reducible] def unit_Convert.sh : Sh := ⟨[.agg [.pv (.int .i64), .pv (.int .i64)], .agg [.pv .str, .pv (.int .i64), .pv (.int .i64), .pv (.int .i64)]], []⟩
@[reducible] def unit_Convert.osh : Sh := ⟨[.one (.pv (.int .i64)), .one (.pv (.int .i64))], []⟩
def unit_Convert.hs : List Hint := []
def unit_Convert.E (g_unit_proper : unit_proper.sh.X → Option unit_proper.osh.X) (g_unit_Valid : unit_Valid.sh.X → Option unit_Valid.osh.X) (g_unit_half : unit_half.sh.X → Option unit_half.osh.X) : Env := ⟨T, fun n ks => bif Nat.beq n 19 && eqPath ks [] then some (FE.of [true] false unit_proper.sh unit_proper.osh g_unit_proper) else bif Nat.beq n 17 && eqPath ks [] then some (FE.of [true] false unit_Valid.sh unit_Valid.osh g_unit_Valid) else bif Nat.beq n 20 && eqPath ks [] then some (FE.of [true, true] false unit_half.sh unit_half.osh g_unit_half) else none, fun n => none, 41, 0, Gt⟩

/-! law04_awake: shapesearch/shapesearchlaw04.awake -/
noncomputable def law04_awake.c : Go.Code := Go.Proofs.Tryd.f9.body.getD .skip
@[reducible] def law04_awake.sh : Sh := ⟨[], []⟩
@[reducible] def law04_awake.osh : Sh := ⟨[.one (.pv .bool)], []⟩
@[reducible] def law04_awake.s0 : Sh := ⟨[.one (.is (.ptr 0 0 0)), .one (.pv (.int .i64)), .one (.pv (.int .i64)), .one (.pv (.int .i64)), .one (.pv (.int .i64)), .one (.pv (.int .i64))], [.box [.pv (.int .i64), .pv (.int .i64)]]⟩
@[reducible] def law04_awake.x0 : List (Ex × Sh) := [(.normal, ⟨[.one (.pv .bool)], []⟩)]
def law04_awake.hs : List Hint := [⟨[0, 1, 1, 1, 1], 0, [1, 2, 3, 4, 5, 6], [(0, [0])]⟩]
def law04_awake.E (g_unit_Parse : unit_Parse.sh.X → Option unit_Parse.osh.X) (g_law04_raw : law04_raw.sh.X → Option law04_raw.osh.X) (g_unit_Convert : unit_Convert.sh.X → Option unit_Convert.osh.X) (l0 : ((Unit × Int × Int × Int × Int × Int × Unit) × ((Int × Int × Unit) × Unit)) → Option (((Bool × Unit) × (Unit)) ⊕ Empty)) : Env := ⟨T, fun n ks => bif Nat.beq n 13 && eqPath ks [] then some (FE.of [true] false unit_Parse.sh unit_Parse.osh g_unit_Parse) else bif Nat.beq n 11 && eqPath ks [] then some (FE.of [] false law04_raw.sh law04_raw.osh g_law04_raw) else bif Nat.beq n 8 && eqPath ks [] then some (FE.of [true, true] false unit_Convert.sh unit_Convert.osh g_unit_Convert) else none, fun n => bif Nat.beq n 0 then some (LE.of law04_awake.s0 law04_awake.x0 l0) else none, 46, 0, Gt⟩

/-! keep_New: shapesearch/shapesearchkeep.New -/
noncomputable def keep_New.c : Go.Code := Go.Proofs.Tryd.f21.body.getD .skip
@[reducible] def keep_New.sh : Sh := ⟨[.one (.pv (.list (.int .i64)))], []⟩
@[reducible] def keep_New.osh : Sh := ⟨[.one (.is (.ptr 0 0 0))], [.box [.pv (.list (.int .i64)), .pv (.int .i64)]]⟩
def keep_New.hs : List Hint := []
def keep_New.E : Env := ⟨T, fun n ks => none, fun n => none, 10, 0, Gt⟩

/-! keep_Src_Raw: (*shapesearch/shapesearchkeep.Src).Raw -/
noncomputable def keep_Src_Raw.c : Go.Code := Go.Proofs.Tryd.f38.body.getD .skip
@[reducible] def keep_Src_Raw.sh : Sh := ⟨[.one (.is (.ptr 0 0 0))], [.box [.pv (.list (.int .i64)), .pv (.int .i64)]]⟩
@[reducible] def keep_Src_Raw.osh : Sh := ⟨[.one (.pv (.int .i64))], [.box [.pv (.list (.int .i64)), .pv (.int .i64)]]⟩
def keep_Src_Raw.hs : List Hint := []
def keep_Src_Raw.E : Env := ⟨T, fun n ks => none, fun n => none, 31, 1, Gt⟩

/-! keep_Mod: shapesearch/shapesearchkeep.Mod -/
noncomputable def keep_Mod.c : Go.Code := Go.Proofs.Tryd.f37.body.getD .skip
@[reducible] def keep_Mod.sh : Sh := ⟨[.one (.pv (.int .i64)), .one (.pv (.int .i64))], []⟩
@[reducible] def keep_Mod.osh : Sh := ⟨[.one (.pv (.int .i64))], []⟩
def keep_Mod.hs : List Hint := []
def keep_Mod.E : Env := ⟨T, fun n ks => none, fun n => none, 16, 0, Gt⟩

/-! keep_Src_N: (*shapesearch/shapesearchkeep.Src).N -/
noncomputable def keep_Src_N.c : Go.Code := Go.Proofs.Tryd.f24.body.getD .skip
@[reducible] def keep_Src_N.sh : Sh := ⟨[.one (.is (.ptr 0 0 0)), .one (.pv (.int .i64))], [.box [.pv (.list (.int .i64)), .pv (.int .i64)]]⟩
@[reducible] def keep_Src_N.osh : Sh := ⟨[.one (.pv (.int .i64))], [.box [.pv (.list (.int .i64)), .pv (.int .i64)]]⟩
def keep_Src_N.hs : List Hint := []
def keep_Src_N.E (g_keep_Src_Raw : keep_Src_Raw.sh.X → Option keep_Src_Raw.osh.X) (g_keep_Mod : keep_Mod.sh.X → Option keep_Mod.osh.X) : Env := ⟨T, fun n ks => bif Nat.beq n 38 && eqPath ks [] then some (FE.of [true] true keep_Src_Raw.sh keep_Src_Raw.osh g_keep_Src_Raw) else bif Nat.beq n 37 && eqPath ks [] then some (FE.of [true, true] false keep_Mod.sh keep_Mod.osh g_keep_Mod) else none, fun n => none, 9, 1, Gt⟩

/-! keep_Src_Pick: (*shapesearch/shapesearchkeep.Src).Pick -/
noncomputable def keep_Src_Pick.c : Go.Code := Go.Proofs.Tryd.f23.body.getD .skip
@[reducible] def keep_Src_Pick.sh : Sh := ⟨[.one (.is (.ptr 0 0 0)), .one (.pv (.list (.int .i64)))], [.box [.pv (.list (.int .i64)), .pv (.int .i64)]]⟩
@[reducible] def keep_Src_Pick.osh : Sh := ⟨[.one (.pv (.int .i64))], [.box [.pv (.list (.int .i64)), .pv (.int .i64)]]⟩
def keep_Src_Pick.hs : List Hint := []
def keep_Src_Pick.E (g_keep_Src_N : keep_Src_N.sh.X → Option keep_Src_N.osh.X) : Env := ⟨T, fun n ks => bif Nat.beq n 24 && eqPath ks [] then some (FE.of [true, true] true keep_Src_N.sh keep_Src_N.osh g_keep_Src_N) else none, fun n => none, 12, 1, Gt⟩

/-! keep_Src_Range: (*shapesearch/shapesearchkeep.Src).Range -/
noncomputable def keep_Src_Range.c : Go.Code := Go.Proofs.Tryd.f22.body.getD .skip
@[reducible] def keep_Src_Range.sh : Sh := ⟨[.one (.is (.ptr 0 0 0)), .one (.pv (.int .i64)), .one (.pv (.int .i64))], [.box [.pv (.list (.int .i64)), .pv (.int .i64)]]⟩
@[reducible] def keep_Src_Range.osh : Sh := ⟨[.one (.pv (.int .i64))], [.box [.pv (.list (.int .i64)), .pv (.int .i64)]]⟩
def keep_Src_Range.hs : List Hint := []
def keep_Src_Range.E (g_keep_Src_N : keep_Src_N.sh.X → Option keep_Src_N.osh.X) : Env := ⟨T, fun n ks => bif Nat.beq n 24 && eqPath ks [] then some (FE.of [true, true] true keep_Src_N.sh keep_Src_N.osh g_keep_Src_N) else none, fun n => none, 15, 1, Gt⟩

/-! keep_Src_Text: (*shapesearch/shapesearchkeep.Src).Text -/
noncomputable def keep_Src_Text.c : Go.Code := Go.Proofs.Tryd.f25.body.getD .skip
@[reducible] def keep_Src_Text.sh : Sh := ⟨[.one (.is (.ptr 0 0 0)), .one (.pv (.list .str))], [.box [.pv (.list (.int .i64)), .pv (.int .i64)]]⟩
@[reducible] def keep_Src_Text.osh : Sh := ⟨[.one (.pv .str)], [.box [.pv (.list (.int .i64)), .pv (.int .i64)]]⟩
def keep_Src_Text.hs : List Hint := []
def keep_Src_Text.E (g_keep_Src_N : keep_Src_N.sh.X → Option keep_Src_N.osh.X) : Env := ⟨T, fun n ks => bif Nat.beq n 24 && eqPath ks [] then some (FE.of [true, true] true keep_Src_N.sh keep_Src_N.osh g_keep_Src_N) else none, fun n => none, 12, 1, Gt⟩

/-! law04_made: shapesearch/shapesearchlaw04.made -/
noncomputable def law04_made.c : Go.Code := Go.Proofs.Tryd.f10.body.getD .skip
@[reducible] def law04_made.sh : Sh := ⟨[.one (.pv (.list (.int .i64)))], []⟩
@[reducible] def law04_made.osh : Sh := ⟨[.agg [.pv (.int .i64), .pv (.int .i64)], .agg [.pv .str, .pv (.int .i64), .pv (.int .i64), .pv (.int .i64)]], []⟩
def law04_made.hs : List Hint := []
def law04_made.E (g_keep_New : keep_New.sh.X → Option keep_New.osh.X) (g_keep_Src_Pick : keep_Src_Pick.sh.X → Option keep_Src_Pick.osh.X) (g_keep_Src_Range : keep_Src_Range.sh.X → Option keep_Src_Range.osh.X) (g_keep_Src_N : keep_Src_N.sh.X → Option keep_Src_N.osh.X) (g_keep_Src_Text : keep_Src_Text.sh.X → Option keep_Src_Text.osh.X) : Env := ⟨T, fun n ks => bif Nat.beq n 21 && eqPath ks [] then some (FE.of [true] true keep_New.sh keep_New.osh g_keep_New) else bif Nat.beq n 23 && eqPath ks [] then some (FE.of [true, true] true keep_Src_Pick.sh keep_Src_Pick.osh g_keep_Src_Pick) else bif Nat.beq n 22 && eqPath ks [] then some (FE.of [true, true, true] true keep_Src_Range.sh keep_Src_Range.osh g_keep_Src_Range) else bif Nat.beq n 24 && eqPath ks [] then some (FE.of [true, true] true keep_Src_N.sh keep_Src_N.osh g_keep_Src_N) else bif Nat.beq n 25 && eqPath ks [] then some (FE.of [true, true] true keep_Src_Text.sh keep_Src_Text.osh g_keep_Src_Text) else none, fun n => none, 40, 0, Gt⟩

/-! strconv_Itoa: strconv.Itoa -/
noncomputable def strconv_Itoa.c : Go.Code := Go.Proofs.Tryd.f33.body.getD .skip
@[reducible] def strconv_Itoa.sh : Sh := ⟨[.one (.pv (.int .i64))], []⟩
@[reducible] def strconv_Itoa.osh : Sh := ⟨[.one (.pv .str)], []⟩
def strconv_Itoa.hs : List Hint := []
def strconv_Itoa.E : Env := ⟨T, fun n ks => none, fun n => none, 5, 0, Gt⟩

/-! strings_Repeat: strings.Repeat -/
noncomputable def strings_Repeat.c : Go.Code := Go.Proofs.Tryd.f34.body.getD .skip
@[reducible] def strings_Repeat.sh : Sh := ⟨[.one (.pv .str), .one (.pv (.int .i64))], []⟩
@[reducible] def strings_Repeat.osh : Sh := ⟨[.one (.pv .str)], []⟩
def strings_Repeat.hs : List Hint := []
def strings_Repeat.E : Env := ⟨T, fun n ks => none, fun n => none, 125, 0, Gt⟩

/-! unit_Format: shapesearch/unit.Format -/
noncomputable def unit_Format.c : Go.Code := Go.Proofs.Tryd.f15.body.getD .skip
@[reducible] def unit_Format.sh : Sh := ⟨[.agg [.pv (.int .i64), .pv (.int .i64)]], []⟩
@[reducible] def unit_Format.osh : Sh := ⟨[.one (.pv .str)], []⟩
def unit_Format.hs : List Hint := []
def unit_Format.E (g_unit_proper : unit_proper.sh.X → Option unit_proper.osh.X) (g_strconv_Itoa : strconv_Itoa.sh.X → Option strconv_Itoa.osh.X) (g_strings_CutPrefix : strings_CutPrefix.sh.X → Option strings_CutPrefix.osh.X) (g_strings_Repeat : strings_Repeat.sh.X → Option strings_Repeat.osh.X) : Env := ⟨T, fun n ks => bif Nat.beq n 19 && eqPath ks [] then some (FE.of [true] false unit_proper.sh unit_proper.osh g_unit_proper) else bif Nat.beq n 33 && eqPath ks [] then some (FE.of [true] false strconv_Itoa.sh strconv_Itoa.osh g_strconv_Itoa) else bif Nat.beq n 29 && eqPath ks [] then some (FE.of [true, true] false strings_CutPrefix.sh strings_CutPrefix.osh g_strings_CutPrefix) else bif Nat.beq n 34 && eqPath ks [] then some (FE.of [true, true] false strings_Repeat.sh strings_Repeat.osh g_strings_Repeat) else none, fun n => none, 49, 0, Gt⟩

/-! law04_UnitReads: shapesearch/shapesearchlaw04.UnitReads -/
noncomputable def law04_UnitReads.c : Go.Code := Go.Proofs.Tryd.f7.body.getD .skip
@[reducible] def law04_UnitReads.sh : Sh := ⟨[.one (.pv .str), .one (.pv (.list (.int .i64)))], []⟩
@[reducible] def law04_UnitReads.osh : Sh := ⟨[.one (.pv .bool)], []⟩
@[reducible] def law04_UnitReads.s0 : Sh := ⟨[.one (.pv .str), .one (.is (.ptr 0 0 0)), .one (.is (.ptr 1 0 0)), .one (.pv (.int .i64)), .one (.is (.ptr 2 0 0)), .one (.pv (.int .i64))], [.box [.pv (.int .i64), .pv (.int .i64)], .box [.pv (.int .i64), .pv (.int .i64)], .box [.pv (.int .i64), .pv (.int .i64)]]⟩
@[reducible] def law04_UnitReads.x0 : List (Ex × Sh) := [(.normal, ⟨[.one (.pv .bool)], []⟩)]
def law04_UnitReads.hs : List Hint := [⟨[0, 1, 1, 1, 1, 1], 0, [0, 5, 7, 8, 9, 10], [(0, [4])]⟩]
def law04_UnitReads.E (g_law04_awake : law04_awake.sh.X → Option law04_awake.osh.X) (g_law04_made : law04_made.sh.X → Option law04_made.osh.X) (g_unit_Format : unit_Format.sh.X → Option unit_Format.osh.X) (g_unit_Parse : unit_Parse.sh.X → Option unit_Parse.osh.X) (l0 : ((ByteArray × Unit × Unit × Int × Unit × Int × Unit) × ((Int × Int × Unit) × (Int × Int × Unit) × (Int × Int × Unit) × Unit)) → Option (((Bool × Unit) × (Unit)) ⊕ Empty)) : Env := ⟨T, fun n ks => bif Nat.beq n 9 && eqPath ks [] then some (FE.of [] false law04_awake.sh law04_awake.osh g_law04_awake) else bif Nat.beq n 10 && eqPath ks [] then some (FE.of [true] false law04_made.sh law04_made.osh g_law04_made) else bif Nat.beq n 15 && eqPath ks [] then some (FE.of [true] false unit_Format.sh unit_Format.osh g_unit_Format) else bif Nat.beq n 13 && eqPath ks [] then some (FE.of [true] false unit_Parse.sh unit_Parse.osh g_unit_Parse) else none, fun n => bif Nat.beq n 0 then some (LE.of law04_UnitReads.s0 law04_UnitReads.x0 l0) else none, 51, 0, Gt⟩

/-! ref04_proper: shapesearch/shapesearchref04.proper -/
noncomputable def ref04_proper.c : Go.Code := Go.Proofs.Tryd.f26.body.getD .skip
@[reducible] def ref04_proper.sh : Sh := ⟨[.agg [.pv (.int .i64), .pv (.int .i64)]], []⟩
@[reducible] def ref04_proper.osh : Sh := ⟨[.one (.pv .bool)], []⟩
def ref04_proper.hs : List Hint := []
def ref04_proper.E : Env := ⟨T, fun n ks => none, fun n => none, 21, 0, Gt⟩

/-! ref04_Power: shapesearch/shapesearchref04.Power -/
noncomputable def ref04_Power.c : Go.Code := Go.Proofs.Tryd.f27.body.getD .skip
@[reducible] def ref04_Power.sh : Sh := ⟨[.one (.pv (.int .i64))], []⟩
@[reducible] def ref04_Power.osh : Sh := ⟨[.one (.pv (.int .i64))], []⟩
@[reducible] def ref04_Power.s0 : Sh := ⟨[.one (.pv (.int .i64)), .one (.pv (.int .i64)), .one (.pv (.int .i64))], []⟩
@[reducible] def ref04_Power.x0 : List (Ex × Sh) := [(.exit 0, ⟨[.one (.pv (.int .i64))], []⟩)]
def ref04_Power.hs : List Hint := [⟨[0, 1, 0, 1, 1], 0, [0, 3, 4], [(2, [3])]⟩]
def ref04_Power.E (l0 : ((Int × Int × Int × Unit) × (Unit)) → Option (((Int × Unit) × (Unit)) ⊕ Empty)) : Env := ⟨T, fun n ks => none, fun n => bif Nat.beq n 0 then some (LE.of ref04_Power.s0 ref04_Power.x0 l0) else none, 13, 0, Gt⟩

/-! ref01_Decimal: shapesearch/shapesearchref01.Decimal -/
noncomputable def ref01_Decimal.c : Go.Code := Go.Proofs.Tryd.f28.body.getD .skip
@[reducible] def ref01_Decimal.sh : Sh := ⟨[.one (.pv (.int .i64))], []⟩
@[reducible] def ref01_Decimal.osh : Sh := ⟨[.one (.pv .str)], []⟩
@[reducible] def ref01_Decimal.s0 : Sh := ⟨[.one (.pv (.int .i64)), .one (.pv .str)], []⟩
@[reducible] def ref01_Decimal.x0 : List (Ex × Sh) := [(.ret, ⟨[.one (.pv .str)], []⟩)]
def ref01_Decimal.hs : List Hint := [⟨[0, 1, 1], 0, [0, 3], [(1, [2])]⟩]
def ref01_Decimal.E (l0 : ((Int × ByteArray × Unit) × (Unit)) → Option (((ByteArray × Unit) × (Unit)) ⊕ Empty)) : Env := ⟨T, fun n ks => none, fun n => bif Nat.beq n 0 then some (LE.of ref01_Decimal.s0 ref01_Decimal.x0 l0) else none, 17, 0, Gt⟩

/-! ref04_Format: shapesearch/shapesearchref04.Format -/
noncomputable def ref04_Format.c : Go.Code := Go.Proofs.Tryd.f12.body.getD .skip
@[reducible] def ref04_Format.sh : Sh := ⟨[.agg [.pv (.int .i64), .pv (.int .i64)]], []⟩
@[reducible] def ref04_Format.osh : Sh := ⟨[.one (.pv .str)], []⟩
def ref04_Format.hs : List Hint := []
def ref04_Format.E (g_ref04_proper : ref04_proper.sh.X → Option ref04_proper.osh.X) (g_ref04_Power : ref04_Power.sh.X → Option ref04_Power.osh.X) (g_ref01_Decimal : ref01_Decimal.sh.X → Option ref01_Decimal.osh.X) : Env := ⟨T, fun n ks => bif Nat.beq n 26 && eqPath ks [] then some (FE.of [true] false ref04_proper.sh ref04_proper.osh g_ref04_proper) else bif Nat.beq n 27 && eqPath ks [] then some (FE.of [true] false ref04_Power.sh ref04_Power.osh g_ref04_Power) else bif Nat.beq n 28 && eqPath ks [] then some (FE.of [true] false ref01_Decimal.sh ref01_Decimal.osh g_ref01_Decimal) else none, fun n => none, 40, 0, Gt⟩

/-! ref04_Parse: shapesearch/shapesearchref04.Parse -/
noncomputable def ref04_Parse.c : Go.Code := Go.Proofs.Tryd.f14.body.getD .skip
@[reducible] def ref04_Parse.sh : Sh := ⟨[.one (.pv .str)], []⟩
@[reducible] def ref04_Parse.osh : Sh := ⟨[.agg [.pv (.int .i64), .pv (.int .i64)], .one (.pv (.int .i64))], []⟩
@[reducible] def ref04_Parse.s0 : Sh := ⟨[.one (.pv .str), .one (.is (.ptr 0 0 0))], [.box [.pv (.int .i64), .pv (.int .i64)]]⟩
@[reducible] def ref04_Parse.x0 : List (Ex × Sh) := [(.normal, ⟨[.one (.pv .str), .one (.is (.ptr 0 0 0)), .one (.pv .bool)], [.box [.pv (.int .i64), .pv (.int .i64)]]⟩)]
@[reducible] def ref04_Parse.s1 : Sh := ⟨[.one (.pv .str), .one (.is (.ptr 0 0 0)), .one (.pv .bool), .one (.pv .bool)], [.box [.pv (.int .i64), .pv (.int .i64)]]⟩
@[reducible] def ref04_Parse.x1 : List (Ex × Sh) := [(.normal, ⟨[.one (.pv .str), .one (.is (.ptr 0 0 0)), .one (.pv .bool)], [.box [.pv (.int .i64), .pv (.int .i64)]]⟩)]
@[reducible] def ref04_Parse.s2 : Sh := ⟨[.one (.pv .str), .one (.is (.ptr 0 0 0)), .one (.pv .bool), .one (.pv (.int .i64)), .one (.pv .bool), .one (.pv (.int .i64))], [.box [.pv (.int .i64), .pv (.int .i64)]]⟩
@[reducible] def ref04_Parse.x2 : List (Ex × Sh) := [(.exit 0, ⟨[.one (.pv .str), .one (.is (.ptr 0 0 0)), .one (.pv .bool), .one (.pv (.int .i64)), .one (.pv .bool)], [.box [.pv (.int .i64), .pv (.int .i64)]]⟩), (.ret, ⟨[.one (.is (.ptr 0 0 0)), .one (.pv (.int .i64))], [.box [.pv (.int .i64), .pv (.int .i64)]]⟩)]
@[reducible] def ref04_Parse.s3 : Sh := ⟨[.one (.pv .str), .one (.is (.ptr 0 0 0)), .one (.pv .bool), .one (.pv (.int .i64)), .one (.pv .bool), .one (.pv (.int .i64))], [.box [.pv (.int .i64), .pv (.int .i64)]]⟩
@[reducible] def ref04_Parse.x3 : List (Ex × Sh) := [(.normal, ⟨[.one (.pv .str), .one (.is (.ptr 0 0 0)), .one (.pv .bool), .one (.pv (.int .i64)), .one (.pv .bool), .one (.pv (.int .i64)), .one (.pv .bool)], [.box [.pv (.int .i64), .pv (.int .i64)]]⟩)]
@[reducible] def ref04_Parse.s4 : Sh := ⟨[.one (.pv .str), .one (.is (.ptr 0 0 0)), .one (.pv .bool), .one (.pv (.int .i64)), .one (.pv .bool), .one (.pv (.int .i64))], [.box [.pv (.int .i64), .pv (.int .i64)]]⟩
@[reducible] def ref04_Parse.x4 : List (Ex × Sh) := [(.normal, ⟨[.one (.pv .str), .one (.is (.ptr 0 0 0)), .one (.pv .bool), .one (.pv (.int .i64)), .one (.pv .bool), .one (.pv (.int .i64)), .one (.pv .bool)], [.box [.pv (.int .i64), .pv (.int .i64)]]⟩)]
@[reducible] def ref04_Parse.s5 : Sh := ⟨[.one (.pv .str), .one (.is (.ptr 0 0 0)), .one (.pv .bool), .one (.pv (.int .i64)), .one (.pv .bool), .one (.pv .str), .one (.is (.ptr 1 0 0)), .one (.pv .bool)], [.box [.pv (.int .i64), .pv (.int .i64)], .box [.pv (.int .i64), .pv (.int .i64)]]⟩
@[reducible] def ref04_Parse.x5 : List (Ex × Sh) := [(.ret, ⟨[.one (.is (.ptr 0 0 0)), .one (.pv (.int .i64))], [.box [.pv (.int .i64), .pv (.int .i64)]]⟩), (.normal, ⟨[.one (.pv .str), .one (.is (.ptr 0 0 0)), .one (.pv .bool), .one (.pv .bool), .one (.pv .str), .one (.is (.ptr 1 0 0))], [.box [.pv (.int .i64), .pv (.int .i64)], .box [.pv (.int .i64), .pv (.int .i64)]]⟩)]
@[reducible] def ref04_Parse.s6 : Sh := ⟨[.one (.pv .str), .one (.is (.ptr 0 0 0)), .one (.pv .bool), .one (.pv .bool), .one (.pv .str), .one (.is (.ptr 1 0 0))], [.box [.pv (.int .i64), .pv (.int .i64)], .box [.pv (.int .i64), .pv (.int .i64)]]⟩
@[reducible] def ref04_Parse.x6 : List (Ex × Sh) := [(.normal, ⟨[.one (.pv .str), .one (.is (.ptr 0 0 0)), .one (.pv .bool), .one (.is (.ptr 1 0 0)), .one (.pv .bool)], [.box [.pv (.int .i64), .pv (.int .i64)], .box [.pv (.int .i64), .pv (.int .i64)]]⟩)]
@[reducible] def ref04_Parse.s7 : Sh := ⟨[.one (.pv .str), .one (.is (.ptr 0 0 0)), .one (.pv .bool), .one (.is (.ptr 1 0 0)), .one (.pv (.int .i64))], [.box [.pv (.int .i64), .pv (.int .i64)], .box [.pv (.int .i64), .pv (.int .i64)]]⟩
@[reducible] def ref04_Parse.x7 : List (Ex × Sh) := [(.exit 3, ⟨[.one (.is (.ptr 0 0 0)), .one (.pv .bool), .one (.is (.ptr 1 0 0))], [.box [.pv (.int .i64), .pv (.int .i64)], .box [.pv (.int .i64), .pv (.int .i64)]]⟩), (.ret, ⟨[.one (.is (.ptr 0 0 0)), .one (.pv (.int .i64))], [.box [.pv (.int .i64), .pv (.int .i64)]]⟩)]
def ref04_Parse.hs : List Hint := [⟨[0, 1], 0, [0, 2], [(0, [0, 2, 4])]⟩, ⟨[1, 0, 1, 1], 1, [0, 2, 4, 19], [(0, [0, 2, 4])]⟩, ⟨[0, 1, 0, 1, 1, 1, 1], 2, [0, 2, 4, 5, 6, 7], [(2, [0, 2, 4, 5, 6]), (1, [2, 3])]⟩, ⟨[0, 0, 0, 0, 1, 0, 0, 1, 0, 1, 1, 1, 1], 3, [0, 2, 4, 5, 6, 7], [(0, [0, 2, 4, 5, 6, 7, 28])]⟩, ⟨[0, 1, 1, 0, 0, 0, 1, 0, 0, 1, 0, 1, 1, 1, 1], 4, [0, 2, 4, 5, 6, 7], [(0, [0, 2, 4, 5, 6, 7, 38])]⟩, ⟨[1, 0, 1, 1, 1, 1, 1, 1], 5, [0, 2, 4, 5, 6, 8, 9, 58], [(1, [2, 3]), (0, [0, 2, 4, 6, 8, 9])]⟩, ⟨[0, 0, 1, 1, 1, 1, 1, 1, 1], 6, [0, 2, 4, 6, 8, 9], [(0, [0, 2, 4, 9, 94])]⟩, ⟨[0, 1, 0, 1, 1, 1, 1, 1, 1, 1, 1], 7, [0, 2, 4, 9, 10], [(5, [2, 4, 9]), (1, [2, 3])]⟩]
def ref04_Parse.E (l0 : ((ByteArray × Unit × Unit) × ((Int × Int × Unit) × Unit)) → Option (((ByteArray × Unit × Bool × Unit) × ((Int × Int × Unit) × Unit)) ⊕ Empty)) (l1 : ((ByteArray × Unit × Bool × Bool × Unit) × ((Int × Int × Unit) × Unit)) → Option (((ByteArray × Unit × Bool × Unit) × ((Int × Int × Unit) × Unit)) ⊕ Empty)) (l2 : ((ByteArray × Unit × Bool × Int × Bool × Int × Unit) × ((Int × Int × Unit) × Unit)) → Option (((ByteArray × Unit × Bool × Int × Bool × Unit) × ((Int × Int × Unit) × Unit)) ⊕ ((Unit × Int × Unit) × ((Int × Int × Unit) × Unit)) ⊕ Empty)) (l3 : ((ByteArray × Unit × Bool × Int × Bool × Int × Unit) × ((Int × Int × Unit) × Unit)) → Option (((ByteArray × Unit × Bool × Int × Bool × Int × Bool × Unit) × ((Int × Int × Unit) × Unit)) ⊕ Empty)) (l4 : ((ByteArray × Unit × Bool × Int × Bool × Int × Unit) × ((Int × Int × Unit) × Unit)) → Option (((ByteArray × Unit × Bool × Int × Bool × Int × Bool × Unit) × ((Int × Int × Unit) × Unit)) ⊕ Empty)) (l5 : ((ByteArray × Unit × Bool × Int × Bool × ByteArray × Unit × Bool × Unit) × ((Int × Int × Unit) × (Int × Int × Unit) × Unit)) → Option (((Unit × Int × Unit) × ((Int × Int × Unit) × Unit)) ⊕ ((ByteArray × Unit × Bool × Bool × ByteArray × Unit × Unit) × ((Int × Int × Unit) × (Int × Int × Unit) × Unit)) ⊕ Empty)) (l6 : ((ByteArray × Unit × Bool × Bool × ByteArray × Unit × Unit) × ((Int × Int × Unit) × (Int × Int × Unit) × Unit)) → Option (((ByteArray × Unit × Bool × Unit × Bool × Unit) × ((Int × Int × Unit) × (Int × Int × Unit) × Unit)) ⊕ Empty)) (l7 : ((ByteArray × Unit × Bool × Unit × Int × Unit) × ((Int × Int × Unit) × (Int × Int × Unit) × Unit)) → Option (((Unit × Bool × Unit × Unit) × ((Int × Int × Unit) × (Int × Int × Unit) × Unit)) ⊕ ((Unit × Int × Unit) × ((Int × Int × Unit) × Unit)) ⊕ Empty)) : Env := ⟨T, fun n ks => none, fun n => bif Nat.beq n 0 then some (LE.of ref04_Parse.s0 ref04_Parse.x0 l0) else bif Nat.beq n 1 then some (LE.of ref04_Parse.s1 ref04_Parse.x1 l1) else bif Nat.beq n 2 then some (LE.of ref04_Parse.s2 ref04_Parse.x2 l2) else bif Nat.beq n 3 then some (LE.of ref04_Parse.s3 ref04_Parse.x3 l3) else bif Nat.beq n 4 then some (LE.of ref04_Parse.s4 ref04_Parse.x4 l4) else bif Nat.beq n 5 then some (LE.of ref04_Parse.s5 ref04_Parse.x5 l5) else bif Nat.beq n 6 then some (LE.of ref04_Parse.s6 ref04_Parse.x6 l6) else bif Nat.beq n 7 then some (LE.of ref04_Parse.s7 ref04_Parse.x7 l7) else none, 126, 0, Gt⟩

/-! ref04_Valid: shapesearch/shapesearchref04.Valid -/
noncomputable def ref04_Valid.c : Go.Code := Go.Proofs.Tryd.f18.body.getD .skip
@[reducible] def ref04_Valid.sh : Sh := ⟨[.agg [.pv .str, .pv (.int .i64), .pv (.int .i64), .pv (.int .i64)]], []⟩
@[reducible] def ref04_Valid.osh : Sh := ⟨[.one (.pv .bool)], []⟩
@[reducible] def ref04_Valid.s0 : Sh := ⟨[.one (.is (.ptr 0 0 0)), .one (.pv (.int .i64))], [.box [.pv .str, .pv (.int .i64), .pv (.int .i64), .pv (.int .i64)]]⟩
@[reducible] def ref04_Valid.x0 : List (Ex × Sh) := [(.exit 0, ⟨[.one (.is (.ptr 0 0 0))], [.box [.pv .str, .pv (.int .i64), .pv (.int .i64), .pv (.int .i64)]]⟩), (.ret, ⟨[.one (.pv .bool)], []⟩)]
@[reducible] def ref04_Valid.s1 : Sh := ⟨[.one (.is (.ptr 0 0 0))], [.box [.pv .str, .pv (.int .i64), .pv (.int .i64), .pv (.int .i64)]]⟩
@[reducible] def ref04_Valid.x1 : List (Ex × Sh) := [(.normal, ⟨[.one (.pv .bool)], []⟩)]
def ref04_Valid.hs : List Hint := [⟨[0, 1, 0, 1], 0, [1, 3], [(2, [1]), (1, [2])]⟩, ⟨[0, 1, 1], 1, [1], [(0, [2])]⟩]
def ref04_Valid.E (l0 : ((Unit × Int × Unit) × ((ByteArray × Int × Int × Int × Unit) × Unit)) → Option (((Unit × Unit) × ((ByteArray × Int × Int × Int × Unit) × Unit)) ⊕ ((Bool × Unit) × (Unit)) ⊕ Empty)) (l1 : ((Unit × Unit) × ((ByteArray × Int × Int × Int × Unit) × Unit)) → Option (((Bool × Unit) × (Unit)) ⊕ Empty)) : Env := ⟨T, fun n ks => none, fun n => bif Nat.beq n 0 then some (LE.of ref04_Valid.s0 ref04_Valid.x0 l0) else bif Nat.beq n 1 then some (LE.of ref04_Valid.s1 ref04_Valid.x1 l1) else none, 63, 0, Gt⟩

/-! ref04_Down: shapesearch/shapesearchref04.Down -/
noncomputable def ref04_Down.c : Go.Code := Go.Proofs.Tryd.f53.body.getD .skip
@[reducible] def ref04_Down.sh : Sh := ⟨[.one (.pv (.int .i64)), .one (.pv (.int .i64))], []⟩
@[reducible] def ref04_Down.osh : Sh := ⟨[.one (.pv (.int .i64))], []⟩
def ref04_Down.hs : List Hint := []
def ref04_Down.E : Env := ⟨T, fun n ks => none, fun n => none, 16, 0, Gt⟩

/-! ref04_Half: shapesearch/shapesearchref04.Half -/
noncomputable def ref04_Half.c : Go.Code := Go.Proofs.Tryd.f35.body.getD .skip
@[reducible] def ref04_Half.sh : Sh := ⟨[.one (.pv (.int .i64)), .one (.pv (.int .i64))], []⟩
@[reducible] def ref04_Half.osh : Sh := ⟨[.one (.pv (.int .i64))], []⟩
def ref04_Half.hs : List Hint := []
def ref04_Half.E (g_ref04_Down : ref04_Down.sh.X → Option ref04_Down.osh.X) : Env := ⟨T, fun n ks => bif Nat.beq n 53 && eqPath ks [] then some (FE.of [true, true] false ref04_Down.sh ref04_Down.osh g_ref04_Down) else none, fun n => none, 12, 0, Gt⟩

/-! ref04_Sample: shapesearch/shapesearchref04.Sample -/
noncomputable def ref04_Sample.c : Go.Code := Go.Proofs.Tryd.f36.body.getD .skip
@[reducible] def ref04_Sample.sh : Sh := ⟨[.one (.pv (.int .i64))], []⟩
@[reducible] def ref04_Sample.osh : Sh := ⟨[.one (.pv .bool)], []⟩
def ref04_Sample.hs : List Hint := []
def ref04_Sample.E : Env := ⟨T, fun n ks => none, fun n => none, 9, 0, Gt⟩

/-! ref04_Convert: shapesearch/shapesearchref04.Convert -/
noncomputable def ref04_Convert.c : Go.Code := Go.Proofs.Tryd.f16.body.getD .skip
@[reducible] def ref04_Convert.sh : Sh := ⟨[.agg [.pv (.int .i64), .pv (.int .i64)], .agg [.pv .str, .pv (.int .i64), .pv (.int .i64), .pv (.int .i64)]], []⟩
@[reducible] def ref04_Convert.osh : Sh := ⟨[.one (.pv (.int .i64)), .one (.pv (.int .i64))], []⟩
def ref04_Convert.hs : List Hint := []
def ref04_Convert.E (g_ref04_proper : ref04_proper.sh.X → Option ref04_proper.osh.X) (g_ref04_Valid : ref04_Valid.sh.X → Option ref04_Valid.osh.X) (g_ref04_Power : ref04_Power.sh.X → Option ref04_Power.osh.X) (g_ref04_Half : ref04_Half.sh.X → Option ref04_Half.osh.X) (g_ref04_Sample : ref04_Sample.sh.X → Option ref04_Sample.osh.X) : Env := ⟨T, fun n ks => bif Nat.beq n 26 && eqPath ks [] then some (FE.of [true] false ref04_proper.sh ref04_proper.osh g_ref04_proper) else bif Nat.beq n 18 && eqPath ks [] then some (FE.of [true] false ref04_Valid.sh ref04_Valid.osh g_ref04_Valid) else bif Nat.beq n 27 && eqPath ks [] then some (FE.of [true] false ref04_Power.sh ref04_Power.osh g_ref04_Power) else bif Nat.beq n 35 && eqPath ks [] then some (FE.of [true, true] false ref04_Half.sh ref04_Half.osh g_ref04_Half) else bif Nat.beq n 36 && eqPath ks [] then some (FE.of [true] false ref04_Sample.sh ref04_Sample.osh g_ref04_Sample) else none, fun n => none, 36, 0, Gt⟩

/-! law04_UnitAnswers: shapesearch/shapesearchlaw04.UnitAnswers -/
noncomputable def law04_UnitAnswers.c : Go.Code := Go.Proofs.Tryd.f6.body.getD .skip
@[reducible] def law04_UnitAnswers.sh : Sh := ⟨[.one (.pv .str), .agg [.pv (.int .i64), .pv (.int .i64)], .agg [.pv .str, .pv (.int .i64), .pv (.int .i64), .pv (.int .i64)], .one (.pv (.list (.int .i64)))], []⟩
@[reducible] def law04_UnitAnswers.osh : Sh := ⟨[.one (.pv .bool)], []⟩
@[reducible] def law04_UnitAnswers.s0 : Sh := ⟨[.one (.pv .str), .one (.pv (.list (.int .i64))), .one (.is (.ptr 0 0 0)), .one (.is (.ptr 1 0 0))], [.box [.pv (.int .i64), .pv (.int .i64)], .box [.pv .str, .pv (.int .i64), .pv (.int .i64), .pv (.int .i64)]]⟩
@[reducible] def law04_UnitAnswers.x0 : List (Ex × Sh) := [(.normal, ⟨[.one (.pv .str), .one (.pv (.list (.int .i64))), .one (.is (.ptr 0 0 0)), .one (.is (.ptr 1 0 0)), .one (.pv .bool)], [.box [.pv (.int .i64), .pv (.int .i64)], .box [.pv .str, .pv (.int .i64), .pv (.int .i64), .pv (.int .i64)]]⟩)]
@[reducible] def law04_UnitAnswers.s1 : Sh := ⟨[.one (.is (.ptr 0 0 0)), .one (.is (.ptr 1 0 0)), .one (.is (.ptr 2 0 0)), .one (.is (.ptr 3 0 0)), .one (.is (.ptr 4 0 0)), .one (.is (.own 5)), .one (.pv (.int .i64)), .one (.pv (.int .i64))], [.box [.pv (.int .i64), .pv (.int .i64)], .box [.pv .str, .pv (.int .i64), .pv (.int .i64), .pv (.int .i64)], .box [.pv (.int .i64), .pv (.int .i64)], .box [.pv .str, .pv (.int .i64), .pv (.int .i64), .pv (.int .i64)], .box [.pv .str, .pv (.int .i64), .pv (.int .i64), .pv (.int .i64)], .row 9 .str]⟩
@[reducible] def law04_UnitAnswers.x1 : List (Ex × Sh) := [(.exit 0, ⟨[.one (.is (.ptr 0 0 0)), .one (.is (.ptr 1 0 0)), .one (.is (.ptr 2 0 0)), .one (.is (.ptr 3 0 0)), .one (.is (.ptr 4 0 0))], [.box [.pv (.int .i64), .pv (.int .i64)], .box [.pv .str, .pv (.int .i64), .pv (.int .i64), .pv (.int .i64)], .box [.pv (.int .i64), .pv (.int .i64)], .box [.pv .str, .pv (.int .i64), .pv (.int .i64), .pv (.int .i64)], .box [.pv .str, .pv (.int .i64), .pv (.int .i64), .pv (.int .i64)]]⟩), (.ret, ⟨[.one (.pv .bool)], []⟩)]
@[reducible] def law04_UnitAnswers.s2 : Sh := ⟨[.one (.is (.ptr 0 0 0)), .one (.is (.ptr 1 0 0)), .one (.is (.ptr 2 0 0)), .one (.is (.own 3)), .one (.pv (.int .i64)), .one (.pv (.int .i64))], [.box [.pv .str, .pv (.int .i64), .pv (.int .i64), .pv (.int .i64)], .box [.pv .str, .pv (.int .i64), .pv (.int .i64), .pv (.int .i64)], .box [.pv .str, .pv (.int .i64), .pv (.int .i64), .pv (.int .i64)], .row 29 (.pair (.int .i64) (.int .i64))]⟩
@[reducible] def law04_UnitAnswers.x2 : List (Ex × Sh) := [(.exit 2, ⟨[], []⟩), (.ret, ⟨[.one (.pv .bool)], []⟩)]
@[reducible] def law04_UnitAnswers.s3 : Sh := ⟨[.one (.is (.ptr 0 0 0)), .one (.is (.ptr 1 0 0)), .one (.is (.ptr 2 0 0)), .one (.is (.ptr 3 0 0)), .one (.is (.own 4)), .one (.pv (.int .i64)), .one (.pv (.int .i64)), .one (.is (.own 5)), .one (.pv (.int .i64)), .one (.pv (.int .i64))], [.box [.pv .str, .pv (.int .i64), .pv (.int .i64), .pv (.int .i64)], .box [.pv .str, .pv (.int .i64), .pv (.int .i64), .pv (.int .i64)], .box [.pv .str, .pv (.int .i64), .pv (.int .i64), .pv (.int .i64)], .box [.pv (.int .i64), .pv (.int .i64)], .row 29 (.pair (.int .i64) (.int .i64)), .row 24 (.pair .str (.pair (.int .i64) (.pair (.int .i64) (.int .i64))))]⟩
@[reducible] def law04_UnitAnswers.x3 : List (Ex × Sh) := [(.exit 4, ⟨[.one (.is (.ptr 0 0 0)), .one (.is (.ptr 1 0 0)), .one (.is (.ptr 2 0 0)), .one (.is (.own 3)), .one (.pv (.int .i64)), .one (.pv (.int .i64))], [.box [.pv .str, .pv (.int .i64), .pv (.int .i64), .pv (.int .i64)], .box [.pv .str, .pv (.int .i64), .pv (.int .i64), .pv (.int .i64)], .box [.pv .str, .pv (.int .i64), .pv (.int .i64), .pv (.int .i64)], .row 29 (.pair (.int .i64) (.int .i64))]⟩), (.ret, ⟨[.one (.pv .bool)], []⟩)]
@[reducible] def law04_UnitAnswers.s4 : Sh := ⟨[.one (.is (.ptr 0 0 0)), .one (.is (.ptr 1 0 0)), .one (.is (.ptr 2 0 0)), .one (.is (.ptr 3 0 0)), .one (.is (.ptr 4 0 0)), .one (.pv (.int .i64)), .one (.pv (.int .i64)), .one (.pv (.int .i64)), .one (.pv (.int .i64)), .one (.is (.own 5)), .one (.pv (.int .i64)), .one (.pv (.int .i64)), .one (.is (.own 6)), .one (.pv (.int .i64)), .one (.pv (.int .i64))], [.box [.pv .str, .pv (.int .i64), .pv (.int .i64), .pv (.int .i64)], .box [.pv .str, .pv (.int .i64), .pv (.int .i64), .pv (.int .i64)], .box [.pv .str, .pv (.int .i64), .pv (.int .i64), .pv (.int .i64)], .box [.pv (.int .i64), .pv (.int .i64)], .box [.pv .str, .pv (.int .i64), .pv (.int .i64), .pv (.int .i64)], .row 29 (.pair (.int .i64) (.int .i64)), .row 24 (.pair .str (.pair (.int .i64) (.pair (.int .i64) (.int .i64))))]⟩
@[reducible] def law04_UnitAnswers.x4 : List (Ex × Sh) := [(.normal, ⟨[.one (.is (.ptr 0 0 0)), .one (.is (.ptr 1 0 0)), .one (.is (.ptr 2 0 0)), .one (.is (.ptr 3 0 0)), .one (.is (.own 4)), .one (.pv (.int .i64)), .one (.pv (.int .i64)), .one (.is (.own 5)), .one (.pv (.int .i64)), .one (.pv (.int .i64)), .one (.pv .bool)], [.box [.pv .str, .pv (.int .i64), .pv (.int .i64), .pv (.int .i64)], .box [.pv .str, .pv (.int .i64), .pv (.int .i64), .pv (.int .i64)], .box [.pv .str, .pv (.int .i64), .pv (.int .i64), .pv (.int .i64)], .box [.pv (.int .i64), .pv (.int .i64)], .row 29 (.pair (.int .i64) (.int .i64)), .row 24 (.pair .str (.pair (.int .i64) (.pair (.int .i64) (.int .i64))))]⟩)]
def law04_UnitAnswers.hs : List Hint := [⟨[0, 0, 1], 0, [0, 3, 5, 6], [(0, [0, 3, 5, 6, 34])]⟩, ⟨[0, 1, 0, 1, 1, 1, 1, 1], 1, [5, 6, 9, 10, 11, 63, 64, 65], [(2, [5, 6, 9, 10, 11]), (1, [8])]⟩, ⟨[0, 1, 0, 1, 1, 1, 1, 1, 1], 2, [6, 10, 11, 95, 96, 97], [(4, []), (1, [8])]⟩, ⟨[0, 1, 1, 1, 0, 0, 1, 1, 0, 0, 1, 0, 1, 1, 1, 1, 1, 1], 3, [6, 10, 11, 19, 95, 96, 97, 109, 110, 111], [(6, [6, 10, 11, 95, 96, 97]), (1, [8])]⟩, ⟨[0, 1, 1, 1, 0, 0, 1, 1, 0, 0, 1, 1, 1, 0, 0, 1, 1, 0, 0, 1, 0, 1, 1, 1, 1, 1, 1], 4, [6, 10, 11, 19, 21, 22, 23, 24, 25, 95, 96, 97, 109, 110, 111], [(0, [6, 10, 11, 19, 95, 96, 97, 109, 110, 111, 141])]⟩]
def law04_UnitAnswers.E (g_law04_awake : law04_awake.sh.X → Option law04_awake.osh.X) (g_law04_made : law04_made.sh.X → Option law04_made.osh.X) (g_ref04_Format : ref04_Format.sh.X → Option ref04_Format.osh.X) (g_unit_Parse : unit_Parse.sh.X → Option unit_Parse.osh.X) (g_ref04_Parse : ref04_Parse.sh.X → Option ref04_Parse.osh.X) (g_unit_Format : unit_Format.sh.X → Option unit_Format.osh.X) (g_unit_Convert : unit_Convert.sh.X → Option unit_Convert.osh.X) (g_ref04_Convert : ref04_Convert.sh.X → Option ref04_Convert.osh.X) (g_unit_Valid : unit_Valid.sh.X → Option unit_Valid.osh.X) (g_ref04_Valid : ref04_Valid.sh.X → Option ref04_Valid.osh.X) (l0 : ((ByteArray × (List Int) × Unit × Unit × Unit) × ((Int × Int × Unit) × (ByteArray × Int × Int × Int × Unit) × Unit)) → Option (((ByteArray × (List Int) × Unit × Unit × Bool × Unit) × ((Int × Int × Unit) × (ByteArray × Int × Int × Int × Unit) × Unit)) ⊕ Empty)) (l1 : ((Unit × Unit × Unit × Unit × Unit × Unit × Int × Int × Unit) × ((Int × Int × Unit) × (ByteArray × Int × Int × Int × Unit) × (Int × Int × Unit) × (ByteArray × Int × Int × Int × Unit) × (ByteArray × Int × Int × Int × Unit) × (List ByteArray) × Unit)) → Option (((Unit × Unit × Unit × Unit × Unit × Unit) × ((Int × Int × Unit) × (ByteArray × Int × Int × Int × Unit) × (Int × Int × Unit) × (ByteArray × Int × Int × Int × Unit) × (ByteArray × Int × Int × Int × Unit) × Unit)) ⊕ ((Bool × Unit) × (Unit)) ⊕ Empty)) (l2 : ((Unit × Unit × Unit × Unit × Int × Int × Unit) × ((ByteArray × Int × Int × Int × Unit) × (ByteArray × Int × Int × Int × Unit) × (ByteArray × Int × Int × Int × Unit) × (List (Int × Int)) × Unit)) → Option (((Unit) × (Unit)) ⊕ ((Bool × Unit) × (Unit)) ⊕ Empty)) (l3 : ((Unit × Unit × Unit × Unit × Unit × Int × Int × Unit × Int × Int × Unit) × ((ByteArray × Int × Int × Int × Unit) × (ByteArray × Int × Int × Int × Unit) × (ByteArray × Int × Int × Int × Unit) × (Int × Int × Unit) × (List (Int × Int)) × (List (ByteArray × (Int × (Int × Int)))) × Unit)) → Option (((Unit × Unit × Unit × Unit × Int × Int × Unit) × ((ByteArray × Int × Int × Int × Unit) × (ByteArray × Int × Int × Int × Unit) × (ByteArray × Int × Int × Int × Unit) × (List (Int × Int)) × Unit)) ⊕ ((Bool × Unit) × (Unit)) ⊕ Empty)) (l4 : ((Unit × Unit × Unit × Unit × Unit × Int × Int × Int × Int × Unit × Int × Int × Unit × Int × Int × Unit) × ((ByteArray × Int × Int × Int × Unit) × (ByteArray × Int × Int × Int × Unit) × (ByteArray × Int × Int × Int × Unit) × (Int × Int × Unit) × (ByteArray × Int × Int × Int × Unit) × (List (Int × Int)) × (List (ByteArray × (Int × (Int × Int)))) × Unit)) → Option (((Unit × Unit × Unit × Unit × Unit × Int × Int × Unit × Int × Int × Bool × Unit) × ((ByteArray × Int × Int × Int × Unit) × (ByteArray × Int × Int × Int × Unit) × (ByteArray × Int × Int × Int × Unit) × (Int × Int × Unit) × (List (Int × Int)) × (List (ByteArray × (Int × (Int × Int)))) × Unit)) ⊕ Empty)) : Env := ⟨T, fun n ks => bif Nat.beq n 9 && eqPath ks [] then some (FE.of [] false law04_awake.sh law04_awake.osh g_law04_awake) else bif Nat.beq n 10 && eqPath ks [] then some (FE.of [true] false law04_made.sh law04_made.osh g_law04_made) else bif Nat.beq n 12 && eqPath ks [] then some (FE.of [true] false ref04_Format.sh ref04_Format.osh g_ref04_Format) else bif Nat.beq n 13 && eqPath ks [] then some (FE.of [true] false unit_Parse.sh unit_Parse.osh g_unit_Parse) else bif Nat.beq n 14 && eqPath ks [] then some (FE.of [true] false ref04_Parse.sh ref04_Parse.osh g_ref04_Parse) else bif Nat.beq n 15 && eqPath ks [] then some (FE.of [true] false unit_Format.sh unit_Format.osh g_unit_Format) else bif Nat.beq n 8 && eqPath ks [] then some (FE.of [true, true] false unit_Convert.sh unit_Convert.osh g_unit_Convert) else bif Nat.beq n 16 && eqPath ks [] then some (FE.of [true, true] false ref04_Convert.sh ref04_Convert.osh g_ref04_Convert) else bif Nat.beq n 17 && eqPath ks [] then some (FE.of [true] false unit_Valid.sh unit_Valid.osh g_unit_Valid) else bif Nat.beq n 18 && eqPath ks [] then some (FE.of [true] false ref04_Valid.sh ref04_Valid.osh g_ref04_Valid) else none, fun n => bif Nat.beq n 0 then some (LE.of law04_UnitAnswers.s0 law04_UnitAnswers.x0 l0) else bif Nat.beq n 1 then some (LE.of law04_UnitAnswers.s1 law04_UnitAnswers.x1 l1) else bif Nat.beq n 2 then some (LE.of law04_UnitAnswers.s2 law04_UnitAnswers.x2 l2) else bif Nat.beq n 3 then some (LE.of law04_UnitAnswers.s3 law04_UnitAnswers.x3 l3) else bif Nat.beq n 4 then some (LE.of law04_UnitAnswers.s4 law04_UnitAnswers.x4 l4) else none, 145, 0, Gt⟩
end Go.Proofs.YthbphpmiandmbaaDoor.V
