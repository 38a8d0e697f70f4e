import Derived.Test.YtefcciajemkicaaProg
import Derived.KernelRfl
import Derived.Test.YtefcciajemkicaaViC
import Derived.WalkKit
set_option linter.unusedVariables false
set_option maxRecDepth 100000
namespace Go.Proofs.Ytefcciajemkicaa.V
open Go (IntKind)
open Go.VI
def T : Tb := [(3, ⟨.int .i64, 1, 8, some (.int .i64), true, false⟩),
  (4, ⟨.bool, 1, 1, some .bool, true, false⟩),
  (5, ⟨.int .u8, 1, 1, some (.int .u8), true, false⟩),
  (9, ⟨.str, 1, 16, some .str, true, false⟩),
  (20, ⟨.err, 1, 16, some (.err 46), false, false⟩),
  (22, ⟨.slice 3, 1, 24, some (.list (.int .i64)), false, false⟩),
  (23, ⟨.struct [(0, 3), (1, 3), (2, 3)], 3, 24, some (.pair (.int .i64) (.pair (.int .i64) (.int .i64))), true, false⟩),
  (24, ⟨.struct [(0, 3), (1, 3), (2, 3)], 3, 24, some (.pair (.int .i64) (.pair (.int .i64) (.int .i64))), true, false⟩),
  (25, ⟨.slice 31, 1, 24, some (.list (.pair (.int .i64) (.pair (.int .i64) (.int .i64)))), false, false⟩),
  (26, ⟨.struct [(0, 24), (3, 3), (4, 3), (5, 25), (6, 25), (7, 25)], 8, 112, some (.pair (.pair (.int .i64) (.pair (.int .i64) (.int .i64))) (.pair (.int .i64) (.pair (.int .i64) (.pair (.list (.pair (.int .i64) (.pair (.int .i64) (.int .i64)))) (.pair (.list (.pair (.int .i64) (.pair (.int .i64) (.int .i64)))) (.list (.pair (.int .i64) (.pair (.int .i64) (.int .i64))))))))), false, false⟩),
  (27, ⟨.struct [(0, 24), (3, 3), (4, 3), (5, 25), (6, 25), (7, 25)], 8, 112, some (.pair (.pair (.int .i64) (.pair (.int .i64) (.int .i64))) (.pair (.int .i64) (.pair (.int .i64) (.pair (.list (.pair (.int .i64) (.pair (.int .i64) (.int .i64)))) (.pair (.list (.pair (.int .i64) (.pair (.int .i64) (.int .i64)))) (.list (.pair (.int .i64) (.pair (.int .i64) (.int .i64))))))))), false, false⟩),
  (28, ⟨.struct [(0, 3), (1, 3)], 2, 16, some (.pair (.int .i64) (.int .i64)), true, false⟩),
  (29, ⟨.struct [(0, 3), (1, 3)], 2, 16, some (.pair (.int .i64) (.int .i64)), true, false⟩),
  (30, ⟨.struct [(0, 3), (1, 29)], 3, 24, some (.pair (.int .i64) (.pair (.int .i64) (.int .i64))), true, false⟩),
  (31, ⟨.struct [(0, 3), (1, 29)], 3, 24, some (.pair (.int .i64) (.pair (.int .i64) (.int .i64))), true, false⟩),
  (35, ⟨.ptr 59, 1, 8, none, false, false⟩),
  (46, ⟨.int .i64, 1, 8, some (.int .i64), true, false⟩),
  (49, ⟨.slice 4, 1, 24, some (.list .bool), false, false⟩),
  (58, ⟨.struct [(0, 22), (1, 3)], 2, 32, some (.pair (.list (.int .i64)) (.int .i64)), false, false⟩),
  (59, ⟨.struct [(0, 22), (1, 3)], 2, 32, some (.pair (.list (.int .i64)) (.int .i64)), false, false⟩),
  (61, ⟨.fn, 1, 8, none, false, false⟩),
  (63, ⟨.ptr 31, 1, 8, none, false, false⟩),
  (69, ⟨.fn, 1, 8, none, false, false⟩),
  (77, ⟨.fn, 1, 8, none, false, false⟩),
  (78, ⟨.map 3 77, 1, 8, none, false, false⟩),
  (88, ⟨.slice 22, 1, 24, some (.list (.list (.int .i64))), false, true⟩),
  (93, ⟨.int .u64, 1, 8, some (.int .u64), true, false⟩),
  (99, ⟨.struct [(0, 3), (1, 3)], 2, 16, some (.pair (.int .i64) (.int .i64)), true, false⟩),
  (100, ⟨.struct [(0, 3), (1, 3)], 2, 16, some (.pair (.int .i64) (.int .i64)), true, false⟩),
  (103, ⟨.int .u64, 1, 8, some (.int .u64), true, false⟩),
  (106, ⟨.arr 33 3, 33, 264, none, false, true⟩),
  (107, ⟨.arr 33 106, 1089, 8712, none, false, true⟩),
  (108, ⟨.arr 33 106, 1089, 8712, none, false, true⟩),
  (110, ⟨.arr 2 100, 4, 32, some (.pair (.pair (.int .i64) (.int .i64)) (.pair (.int .i64) (.int .i64))), false, false⟩),
  (115, ⟨.struct [(0, 3), (1, 3), (2, 3)], 3, 24, some (.pair (.int .i64) (.pair (.int .i64) (.int .i64))), true, false⟩),
  (116, ⟨.struct [(0, 3), (1, 3), (2, 3)], 3, 24, some (.pair (.int .i64) (.pair (.int .i64) (.int .i64))), true, false⟩)]
theorem tb : tbOk Try.prog T = true := by kernel_rfl
theorem pw : Try.prog.follows .mixedOrders = true := by kernel_rfl
def Gt : Nat → Option (Go.IntKind × List Int) := fun g => none
def TabsOk (tabs : List (Nat × Go.Obj)) : Prop := True
theorem gt_ok {tabs : List (Nat × Go.Obj)} (ht : TabsOk tabs) : ∀ g k zs, Gt g = some (k, zs) → TabHas tabs g k zs := by
  intro g k zs h; cases h
abbrev q0 : OS := .box [.pv (.int .i64), .pv (.int .i64), .pv (.int .i64)]
abbrev q1 : OS := .box [.pv (.int .i64), .pv (.int .i64)]
abbrev q2 : OS := .box [.pv (.list (.int .i64)), .pv (.int .i64)]
abbrev q3 : OS := .box [.pv (.int .i64), .pv (.int .i64), .pv (.int .i64), .pv (.int .i64), .pv (.int .i64), .is (.own 4), .is (.own 5), .is (.own 6)]
abbrev q4 : OS := .box [.pv (.int .i64), .pv (.int .i64), .pv (.int .i64), .pv (.int .i64), .pv (.int .i64), .is (.own 2), .is (.own 3), .is (.own 4)]
abbrev q5 : OS := .box [.pv (.int .i64), .pv (.int .i64), .pv (.int .i64), .pv (.int .i64), .pv (.int .i64), .is (.own 5), .is (.own 6), .is (.own 7)]
abbrev q6 : OS := .box [.pv (.int .i64), .pv (.int .i64), .pv (.int .i64), .pv (.int .i64), .pv (.int .i64), .is .nils, .is .nils, .is .nils]
abbrev q7 : OS := .box [.pv (.int .i64), .pv (.int .i64), .pv (.int .i64), .pv (.int .i64), .pv (.int .i64), .pv (.list (.pair (.int .i64) (.pair (.int .i64) (.int .i64)))), .pv (.list (.pair (.int .i64) (.pair (.int .i64) (.int .i64)))), .pv (.list (.pair (.int .i64) (.pair (.int .i64) (.int .i64))))]
abbrev q8 : OS := .box [.pv (.int .i64), .pv (.int .i64), .pv (.int .i64), .pv (.int .i64), .pv (.int .i64), .is (.own 1), .is (.own 2), .is (.own 3)]
abbrev q9 : OS := .box [.pv (.int .i64), .pv (.int .i64), .pv (.int .i64), .pv (.int .i64), .pv (.int .i64), .is (.own 3), .is (.own 4), .is (.own 5)]
abbrev q10 : DS := .agg [.pv (.int .i64), .pv (.int .i64)]
abbrev q11 : DS := .agg [.pv (.int .i64), .pv (.int .i64), .pv (.int .i64)]
abbrev q12 : DS := .agg [.pv (.int .i64), .pv (.int .i64), .pv (.int .i64), .pv (.int .i64), .pv (.int .i64), .pv (.list (.pair (.int .i64) (.pair (.int .i64) (.int .i64)))), .pv (.list (.pair (.int .i64) (.pair (.int .i64) (.int .i64)))), .pv (.list (.pair (.int .i64) (.pair (.int .i64) (.int .i64))))]
abbrev q13 : DS := .one (.pv (.int .i64))
abbrev q14 : DS := .one (.pv (.list (.int .i64)))
abbrev q15 : DS := .one (.pv .bool)
abbrev q16 : DS := .one (.is (.ptr 0 0 0))
abbrev q17 : DS := .one (.is (.ptr 1 0 0))
abbrev q18 : DS := .one (.is (.own 0))
abbrev q19 : DS := .one (.is (.own 2))
abbrev q20 : DS := .one (.pv (.int .u64))
abbrev q21 : DS := .one (.pv (.list (.list (.int .i64))))
abbrev q22 : DS := .one (.is (.ptr 2 0 0))
abbrev q23 : DS := .one (.is (.own 1))
abbrev q24 : DS := .one (.is (.own 3))
abbrev q25 : DS := .one (.pv (.int .u8))
abbrev q26 : DS := .one (.is (.ptr 3 0 0))
abbrev q27 : DS := .one (.pv (.list (.pair (.int .i64) (.pair (.int .i64) (.int .i64)))))
abbrev q28 : DS := .one (.is (.fn 39 []))
abbrev Y166 : Type := ((Unit) × (Unit))
abbrev Y165 : Type := (Int × (Int × Int))
abbrev Y164 : Type := ((Int × Unit) × (Unit))
abbrev Y163 : Type := ((Bool × Unit) × (Unit))
abbrev Y162 : Type := ((ByteArray × Unit) × (Unit))
abbrev Y161 : Type := ((Int × Int × Unit) × (Unit))
abbrev Y160 : Type := ((Unit) × ((List Int) × Unit))
abbrev Y159 : Type := (((List Int) × Unit) × (Unit))
abbrev Y158 : Type := (Y164 ⊕ Empty)
abbrev Y157 : Type := (Y163 ⊕ Empty)
abbrev Y156 : Type := ((Int × Int × Int × Unit) × (Unit))
abbrev Y155 : Type := (((List Int) × Int × Unit) × (Unit))
abbrev Y154 : Type := (((List Int) × Unit × Unit) × (Unit))
abbrev Y153 : Type := (((List (List Int)) × Unit) × (Unit))
abbrev Y152 : Type := (((Int × Int × Unit) × Unit) × (Unit))
abbrev Y151 : Type := (Y161 ⊕ Empty)
abbrev Y150 : Type := (Y160 ⊕ Empty)
abbrev Y149 : Type := ((Int × Int × Int × Int × Unit) × (Unit))
abbrev Y148 : Type := (((List Int) × Int × Int × Unit) × (Unit))
abbrev Y147 : Type := ((Int × Int × Int × Bool × Unit) × (Unit))
abbrev Y146 : Type := (((List (List Int)) × Int × Unit) × (Unit))
abbrev Y145 : Type := (((List Int) × (List Int) × Unit) × (Unit))
abbrev Y144 : Type := ((Unit × Int × Unit) × ((List Bool) × Unit))
abbrev Y143 : Type := ((Unit) × ((Int × Int × Int × Unit) × Unit))
abbrev Y142 : Type := (((Int × Int × Unit) × Int × Unit) × (Unit))
abbrev Y141 : Type := (((Int × Int × Int × Unit) × Unit) × (Unit))
abbrev Y140 : Type := ((Unit × Unit) × ((Int × Int × Unit) × Unit))
abbrev Y139 : Type := ((Int × Int × Int × Int × Int × Unit) × (Unit))
abbrev Y138 : Type := (((List Int) × Int × Int × Int × Unit) × (Unit))
abbrev Y137 : Type := (((Unit × Unit) × ((List Bool) × Unit)) ⊕ Empty)
abbrev Y136 : Type := (((List Int) × (List Int) × Int × Unit) × (Unit))
abbrev Y135 : Type := (((List Int) × Unit × Int × Int × Unit) × (Unit))
abbrev Y134 : Type := ((Int × Unit) × (((List Int) × Int × Unit) × Unit))
abbrev Y133 : Type := ((Unit × Unit) × ((Int × Int × Int × Unit) × Unit))
abbrev Y132 : Type := ((Unit × Unit) × (((List Int) × Int × Unit) × Unit))
abbrev Y131 : Type := (Y166 ⊕ Y164 ⊕ Empty)
abbrev Y130 : Type := (Y166 ⊕ Y163 ⊕ Empty)
abbrev Y129 : Type := ((Int × (List Int) × Int × Int × Int × Unit) × (Unit))
abbrev Y128 : Type := (((Unit × Unit) × ((List (List Int)) × Unit)) ⊕ Empty)
abbrev Y127 : Type := (((List Int) × (List Int) × Int × Int × Unit) × (Unit))
abbrev Y126 : Type := (((List (List Int)) × Int × Int × Int × Unit) × (Unit))
abbrev Y125 : Type := ((Int × Int × Unit × Unit) × ((Int × Int × Unit) × Unit))
abbrev Y124 : Type := ((Unit × Bool × Unit) × ((Int × Int × Int × Unit) × Unit))
abbrev Y123 : Type := (Y138 ⊕ Empty)
abbrev Y122 : Type := ((Unit × Int × Unit) × (((List Int) × Int × Unit) × Unit))
abbrev Y121 : Type := (((Int × Int × Int × Int × Bool × Unit) × (Unit)) ⊕ Empty)
abbrev Y120 : Type := (((Int × Int × Unit) × (Int × Int × Unit) × Unit) × (Unit))
abbrev Y119 : Type := ((((List Int) × (List Int) × Bool × Unit) × (Unit)) ⊕ Empty)
abbrev Y118 : Type := (((List Int) × (List Int) × Int × Int × Int × Unit) × (Unit))
abbrev Y117 : Type := (((List Int) × Int × (List Int) × Int × Int × Unit) × (Unit))
abbrev Y116 : Type := (Y133 ⊕ Empty)
abbrev Y115 : Type := ((Unit × Unit) × (((List Int) × Int × Unit) × (List Int) × Unit))
abbrev Y114 : Type := ((((List Int) × Int × Int × Int × Bool × Unit) × (Unit)) ⊕ Empty)
abbrev Y113 : Type := ((((List Int) × (List Int) × Int × Bool × Unit) × (Unit)) ⊕ Empty)
abbrev Y112 : Type := (((List Int) × (List Int) × Int × Int × Int × Int × Unit) × (Unit))
abbrev Y111 : Type := (((Unit × Unit × Unit) × ((List Int) × (List Int) × Unit)) ⊕ Empty)
abbrev Y110 : Type := ((Int × (List Int) × (List Int) × Int × Int × Int × Unit) × (Unit))
abbrev Y109 : Type := (Y124 ⊕ Empty)
abbrev Y108 : Type := (((List Int) × Int × Unit × Int × Int × Unit) × ((List Bool) × Unit))
abbrev Y107 : Type := (((List Int) × (Int × Int × Int × Unit) × Int × Int × Unit) × (Unit))
abbrev Y106 : Type := (((Int × Int × Int × Unit) × Int × Int × Int × Bool × Unit) × (Unit))
abbrev Y105 : Type := (((Int × Int × Int × Unit) × (List Int) × (List Int) × Unit) × (Unit))
abbrev Y104 : Type := (((Int × Int × Int × Unit) × (Int × Int × Int × Unit) × Unit) × (Unit))
abbrev Y103 : Type := (((Int × Int × Unit) × Int × Unit) × ((Int × Int × Int × Unit) × Unit))
abbrev Y102 : Type := (((Int × Int × Int × Unit) × Unit) × (((List Int) × Int × Unit) × Unit))
abbrev Y101 : Type := (((Int × Unit × Int × Int × Bool × Unit) × ((List Int) × Unit)) ⊕ Empty)
abbrev Y100 : Type := (((List Int) × (List Int) × Int × Int × Int × Int × Int × Unit) × (Unit))
abbrev Y99 : Type := ((Unit × Unit × Unit) × ((Int × Int × Unit) × (Int × Int × Unit) × Unit))
abbrev Y98 : Type := (((Int × Int × Unit × Bool × Unit) × ((Int × Int × Unit) × Unit)) ⊕ Empty)
abbrev Y97 : Type := (Y115 ⊕ Empty)
abbrev Y96 : Type := (((Unit × Int × Bool × Unit) × (((List Int) × Int × Unit) × Unit)) ⊕ Empty)
abbrev Y95 : Type := (((List Y165) × (List Y165) × Unit) × (Unit))
abbrev Y94 : Type := ((Unit × (List Int) × Int × Int × Unit) × ((Int × Int × Int × Unit) × Unit))
abbrev Y93 : Type := ((Int × Int × Int × Bool × Unit × Unit) × ((Int × Int × Int × Unit) × Unit))
abbrev Y92 : Type := (((List Int) × (List Int) × Unit × Unit) × ((Int × Int × Int × Unit) × Unit))
abbrev Y91 : Type := ((((List Int) × (List Int) × Int × Int × Int × Bool × Unit) × (Unit)) ⊕ Empty)
abbrev Y90 : Type := ((Unit × (Int × Int × Int × Unit) × Unit) × ((Int × Int × Int × Unit) × Unit))
abbrev Y89 : Type := ((((List (List Int)) × Int × Unit × Unit) × ((List (List Int)) × Unit)) ⊕ Empty)
abbrev Y88 : Type := (((List Y165) × (List Y165) × Int × Unit) × (Unit))
abbrev Y87 : Type := (((List (List Int)) × Int × Unit × Int × Int × Unit) × ((List (List Int)) × Unit))
abbrev Y86 : Type := (((List Int) × (List Int) × Unit × Int × Int × Unit) × ((List (List Int)) × Unit))
abbrev Y85 : Type := (Y99 ⊕ Empty)
abbrev Y84 : Type := (((List Int) × (List Int) × Unit × Int × Int × Unit) × ((Int × Int × Unit) × Unit))
abbrev Y83 : Type := (((Int × (List Int) × (List Int) × Int × Int × Int × Bool × Unit) × (Unit)) ⊕ Empty)
abbrev Y82 : Type := ((Unit × Unit × Unit) × ((Int × Int × Int × Unit) × (Int × Int × Int × Unit) × Unit))
abbrev Y81 : Type := ((((List Int) × Unit × Unit) × ((List Int) × Unit)) ⊕ Y164 ⊕ Empty)
abbrev Y80 : Type := (((List Int) × (List Int) × Int × Int × Int × (List Int) × Int × Int × Unit) × (Unit))
abbrev Y79 : Type := (((Int × Int × Bool × Unit × Bool × Unit) × ((Int × Int × Int × Unit) × Unit)) ⊕ Empty)
abbrev Y78 : Type := ((Unit × (List Int) × (List Int) × (List Int) × Int × Int × Unit) × ((List Int) × Unit))
abbrev Y77 : Type := (((List Int) × (List Int) × Int × Unit × Int × Int × Unit) × ((List (List Int)) × Unit))
abbrev Y76 : Type := (((Unit × Unit × Bool × Unit) × ((Int × Int × Unit) × (Int × Int × Unit) × Unit)) ⊕ Empty)
abbrev Y75 : Type := ((Int × Int × Int × Unit × Unit × Unit) × ((Int × Int × Unit) × (Int × Int × Unit) × Unit))
abbrev Y74 : Type := (Y86 ⊕ Empty)
abbrev Y73 : Type := (Y87 ⊕ Empty)
abbrev Y72 : Type := (Y84 ⊕ Empty)
abbrev Y71 : Type := (((List Int) × (List Int) × Int × Unit × Unit × Int × Unit) × ((List Int) × (List Int) × Unit))
abbrev Y70 : Type := ((Unit × Int × Unit × Int × Int × Int × Unit) × (((List Int) × Int × Unit) × (List Int) × Unit))
abbrev Y69 : Type := (Y77 ⊕ Empty)
abbrev Y68 : Type := (((List Int) × (List Int) × Unit × Int × Int × Int × Int × Int × Unit) × ((List (List Int)) × Unit))
abbrev Y67 : Type := ((((List Int) × (List Int) × Unit × Int × Int × Bool × Unit) × ((Int × Int × Unit) × Unit)) ⊕ Empty)
abbrev Y66 : Type := (((List (List Int)) × Int × Unit × Int × Int × Int × Int × Int × Unit) × ((List (List Int)) × Unit))
abbrev Y65 : Type := ((Unit × (List Int) × (List Int) × (List Int) × Int × Int × Int × Int × Unit) × ((List Int) × Unit))
abbrev Y64 : Type := (((List Int) × (List Int) × Int × Unit × Unit × Int × Int × Unit) × ((List Int) × (List Int) × Unit))
abbrev Y63 : Type := (((Unit × Unit × Bool × Unit) × ((Int × Int × Int × Unit) × (Int × Int × Int × Unit) × Unit)) ⊕ Empty)
abbrev Y62 : Type := (Y71 ⊕ Empty)
abbrev Y61 : Type := (((List Int) × (List Int) × Int × Unit × Int × Int × Int × Int × Int × Unit) × ((List (List Int)) × Unit))
abbrev Y60 : Type := (((List Int) × (List Int) × Int × Int × Unit × Unit × Int × Int × Unit) × ((List Int) × (List Int) × Unit))
abbrev Y59 : Type := ((Unit × Int × Unit × Int × Int × Int × Int × Int × Unit) × (((List Int) × Int × Unit) × (List Int) × Unit))
abbrev Y58 : Type := (((Int × Int × Int × Unit × Unit × Bool × Unit) × ((Int × Int × Unit) × (Int × Int × Unit) × Unit)) ⊕ Empty)
abbrev Y57 : Type := (((List Int) × (List Int) × Unit × Int × Int × (List Int) × Int × Int × Unit) × ((Int × Int × Unit) × Unit))
abbrev Y56 : Type := ((Unit × Unit × Int × Int × Unit × Int × Unit) × ((List Int) × (Int × Int × Int × Unit) × (List Int) × Unit))
abbrev Y55 : Type := (Y64 ⊕ Empty)
abbrev Y54 : Type := (((Unit × Int × Unit × Int × Int × Int × Int × Unit) × (((List Int) × Int × Unit) × (List Int) × Unit)) ⊕ Empty)
abbrev Y53 : Type := ((Unit × (List Int) × (List Int) × (List Int) × Int × Int × Int × Int × Int × Int × Unit) × ((List Int) × Unit))
abbrev Y52 : Type := (((Unit × Int × Int × Unit × Unit × Unit) × ((List Int) × (Int × Int × Int × Unit) × (List Int) × Unit)) ⊕ Empty)
abbrev Y51 : Type := (((Unit × Unit × Int × Int × Unit × Unit) × ((List Int) × (Int × Int × Int × Unit) × (List Int) × Unit)) ⊕ Empty)
abbrev Y50 : Type := (((List Int) × (List Int) × Int × Unit × Unit × Int × Int × Bool × Int × Unit) × ((List Int) × (List Int) × Unit))
abbrev Y49 : Type := ((Unit × Int × Int × Int × Unit × Unit × Int × Unit) × ((List Int) × (Int × Int × Int × Unit) × (List Int) × Unit))
abbrev Y48 : Type := ((Unit × Int × Unit × Int × Int × Int × Int × Int × Bool × Unit) × (((List Int) × Int × Unit) × (List Int) × Unit))
abbrev Y47 : Type := (((List Int) × (List Int) × Int × Unit × Int × Int × Int × Int × Int × Int × Int × Unit) × ((List (List Int)) × Unit))
abbrev Y46 : Type := ((Unit × (List Int) × (List Int) × (List Int) × Int × Int × Int × Int × Int × Int × Bool × Unit) × ((List Int) × Unit))
abbrev Y45 : Type := (((Int × Unit × Unit × Int × Int × Unit × Unit) × ((List Int) × (Int × Int × Int × Unit) × (List Int) × Unit)) ⊕ Empty)
abbrev Y44 : Type := ((Int × Int × Unit × Unit × Int × Int × Unit × Int × Unit) × ((List Int) × (Int × Int × Int × Unit) × (List Int) × Unit))
abbrev Y43 : Type := (Y53 ⊕ Empty)
abbrev Y42 : Type := (((List Int) × (List Int) × Int × Unit × Int × Int × Int × Int × Int × Int × Int × Bool × Unit) × ((List (List Int)) × Unit))
abbrev Y41 : Type := (Y47 ⊕ Empty)
abbrev Y40 : Type := (Y46 ⊕ Empty)
abbrev Y39 : Type := (Y42 ⊕ Empty)
abbrev Y38 : Type := (((List (List Int)) × Int × Unit × Unit × (Int × Int × Int × Int × Unit) × Int × Unit) × ((Int × Int × Unit) × (Int × Int × Unit) × Unit))
abbrev Y37 : Type := (((List Int) × (List Int) × Int × Unit × Unit × Int × Int × Bool × Int × Int × Int × Int × Bool × Unit) × ((List Int) × (List Int) × Unit))
abbrev Y36 : Type := (((Int × Int × Int × Int × Int × (List Y165) × (List Y165) × (List Y165) × Unit) × Unit) × (Unit))
abbrev Y35 : Type := (((Unit × Int × Unit) × ((Int × Int × Unit) × Unit)) ⊕ Y84 ⊕ Empty)
abbrev Y34 : Type := (Y37 ⊕ Empty)
abbrev Y33 : Type := ((Unit × Int × Unit) × ((Int × Int × Int × Int × Int × (List Y165) × (List Y165) × (List Y165) × Unit) × Unit))
abbrev Y32 : Type := ((Unit × Int × Int × Int × Unit) × ((Int × Int × Int × Int × Int × (List Y165) × (List Y165) × (List Y165) × Unit) × Unit))
abbrev Y31 : Type := (((Int × Int × Int × Int × Int × Unit × Unit × Unit × Unit) × Int × Unit) × ((List Y165) × (List Y165) × (List Y165) × Unit))
abbrev Y30 : Type := (((Unit × Int × Bool × Unit) × ((Int × Int × Int × Int × Int × (List Y165) × (List Y165) × (List Y165) × Unit) × Unit)) ⊕ Empty)
abbrev Y29 : Type := ((Unit × Int × Unit) × ((Int × Int × Int × Int × Int × Unit × Unit × Unit × Unit) × (List Y165) × (List Y165) × (List Y165) × Unit))
abbrev Y28 : Type := ((Unit × Int × Int × Unit) × ((Int × Int × Int × Int × Int × Unit × Unit × Unit × Unit) × (List Y165) × (List Y165) × (List Y165) × Unit))
abbrev Y27 : Type := (((Unit × Int × Int × Int × Bool × Unit) × ((Int × Int × Int × Int × Int × (List Y165) × (List Y165) × (List Y165) × Unit) × Unit)) ⊕ Empty)
abbrev Y26 : Type := ((Unit × Int × Int × Unit × Int × Int × Unit) × ((Int × Int × Int × Int × Int × (List Y165) × (List Y165) × (List Y165) × Unit) × (Int × Int × Int × Unit) × Unit))
abbrev Y25 : Type := (Y29 ⊕ Y163 ⊕ Empty)
abbrev Y24 : Type := (((Unit × Unit × Unit) × ((Int × Int × Int × Int × Int × Unit × Unit × Unit × Unit) × (Int × Int × Int × Int × Int × Unit × Unit × Unit × Unit) × (List Y165) × (List Y165) × (List Y165) × Unit)) ⊕ Empty)
abbrev Y23 : Type := ((Unit × Unit × Int × Int × Unit) × ((Int × Int × Int × Int × Int × Unit × Unit × Unit × Unit) × (Int × Int × Int × Int × Int × Unit × Unit × Unit × Unit) × (List Y165) × (List Y165) × (List Y165) × Unit))
abbrev Y22 : Type := ((Unit × Unit × Int × Int × Unit × Unit × Int × Unit) × ((List Int) × (Int × Int × Int × Unit) × (Int × Int × Int × Int × Int × Unit × Unit × Unit × Unit) × (List Bool) × (List Y165) × (List Y165) × (List Y165) × Unit))
abbrev Y21 : Type := (((Int × Int × Int × Int × Int × (List Y165) × (List Y165) × (List Y165) × Unit) × (Int × Int × Int × Int × Int × (List Y165) × (List Y165) × (List Y165) × Unit) × Unit) × (Unit))
abbrev Y20 : Type := ((Unit × Unit × Int × Int × Unit × Int × Unit × Int × Unit) × ((List Int) × (Int × Int × Int × Unit) × (Int × Int × Int × Int × Int × Unit × Unit × Unit × Unit) × (List Bool) × (List Y165) × (List Y165) × (List Y165) × Unit))
abbrev Y19 : Type := (((Unit × Unit × Int × Int × Unit × Unit × Bool × Unit) × ((List Int) × (Int × Int × Int × Unit) × (Int × Int × Int × Int × Int × Unit × Unit × Unit × Unit) × (List Bool) × (List Y165) × (List Y165) × (List Y165) × Unit)) ⊕ Empty)
abbrev Y18 : Type := ((Unit × Unit × Int × Int × Unit × Unit × Int × Bool × Int × Unit) × ((List Int) × (Int × Int × Int × Unit) × (Int × Int × Int × Int × Int × Unit × Unit × Unit × Unit) × (List Bool) × (List Y165) × (List Y165) × (List Y165) × Unit))
abbrev Y17 : Type := ((Unit × Unit × Unit) × ((Int × Int × Int × Int × Int × (List Y165) × (List Y165) × (List Y165) × Unit) × (Int × Int × Int × Int × Int × (List Y165) × (List Y165) × (List Y165) × Unit) × Unit))
abbrev Y16 : Type := (((Unit × Unit × Int × Int × Unit × Unit × Int × Bool × Int × Bool × Unit) × ((List Int) × (Int × Int × Int × Unit) × (Int × Int × Int × Int × Int × Unit × Unit × Unit × Unit) × (List Bool) × (List Y165) × (List Y165) × (List Y165) × Unit)) ⊕ Empty)
abbrev Y15 : Type := (((Unit × Unit × Int × Int × Unit × Unit × Int × Bool × Unit) × ((List Int) × (Int × Int × Int × Unit) × (Int × Int × Int × Int × Int × Unit × Unit × Unit × Unit) × (List Bool) × (List Y165) × (List Y165) × (List Y165) × Unit)) ⊕ Y163 ⊕ Empty)
abbrev Y14 : Type := ((Unit × Unit × Int × Int × Unit × Unit × Int × Bool × Int × Int × Unit × Unit) × ((List Int) × (Int × Int × Int × Unit) × (Int × Int × Int × Int × Int × Unit × Unit × Unit × Unit) × (List Bool) × (Int × Int × Int × Unit) × (List Y165) × (List Y165) × (List Y165) × Unit))
abbrev Y13 : Type := ((((List Int) × Int × Int × Unit × Unit × Unit × Unit × Unit) × ((Int × Int × Int × Unit) × (Int × Int × Int × Int × Int × Unit × Unit × Unit × Unit) × (List Bool) × (Int × Int × Int × Int × Int × Unit × Unit × Unit × Unit) × (List Y165) × (List Y165) × (List Y165) × Unit)) ⊕ Empty)
abbrev Y12 : Type := (((List Int) × Int × Int × Unit × Unit × Unit × Unit × Int × Int × Unit) × ((Int × Int × Int × Unit) × (Int × Int × Int × Int × Int × Unit × Unit × Unit × Unit) × (List Bool) × (Int × Int × Int × Int × Int × Unit × Unit × Unit × Unit) × (List Y165) × (List Y165) × (List Y165) × Unit))
abbrev Y11 : Type := ((Unit × Unit × Int × Int × Unit) × ((Int × Int × Int × Int × Int × Unit × Unit × Unit × Unit) × (Int × Int × Int × Int × Int × Unit × Unit × Unit × Unit) × (List Y165) × (List Y165) × (List Y165) × (List Y165) × (List Y165) × (List Y165) × Unit))
abbrev Y10 : Type := ((Unit × Int × Unit × Int × Unit) × ((Int × Int × Int × Int × Int × Unit × Unit × Unit × Unit) × (Int × Int × Int × Int × Int × Unit × Unit × Unit × Unit) × (List Y165) × (List Y165) × (List Y165) × (List Y165) × (List Y165) × (List Y165) × Unit))
abbrev Y9 : Type := (((List Int) × Int × Int × Unit × Unit × Unit × Unit × Int × Int × Int × Int × Unit) × ((Int × Int × Int × Unit) × (Int × Int × Int × Int × Int × Unit × Unit × Unit × Unit) × (List Bool) × (Int × Int × Int × Int × Int × Unit × Unit × Unit × Unit) × (List Y165) × (List Y165) × (List Y165) × Unit))
abbrev Y8 : Type := (((Unit × Unit × Bool × Unit) × ((Int × Int × Int × Int × Int × Unit × Unit × Unit × Unit) × (Int × Int × Int × Int × Int × Unit × Unit × Unit × Unit) × (List Y165) × (List Y165) × (List Y165) × (List Y165) × (List Y165) × (List Y165) × Unit)) ⊕ Empty)
abbrev Y7 : Type := ((Unit × Unit × Int × Int × Int × Unit) × ((Int × Int × Int × Int × Int × Unit × Unit × Unit × Unit) × (Int × Int × Int × Int × Int × Unit × Unit × Unit × Unit) × (List Y165) × (List Y165) × (List Y165) × (List Y165) × (List Y165) × (List Y165) × Unit))
abbrev Y6 : Type := ((Unit × Int × Unit × Int × Int × Unit) × ((Int × Int × Int × Int × Int × Unit × Unit × Unit × Unit) × (Int × Int × Int × Int × Int × Unit × Unit × Unit × Unit) × (List Y165) × (List Y165) × (List Y165) × (List Y165) × (List Y165) × (List Y165) × Unit))
abbrev Y5 : Type := (((Unit × Unit × Int × Bool × Unit) × ((Int × Int × Int × Int × Int × Unit × Unit × Unit × Unit) × (Int × Int × Int × Int × Int × Unit × Unit × Unit × Unit) × (List Y165) × (List Y165) × (List Y165) × (List Y165) × (List Y165) × (List Y165) × Unit)) ⊕ Empty)
abbrev Y4 : Type := (((Unit × Unit × Int × Int × Bool × Unit) × ((Int × Int × Int × Int × Int × Unit × Unit × Unit × Unit) × (Int × Int × Int × Int × Int × Unit × Unit × Unit × Unit) × (List Y165) × (List Y165) × (List Y165) × (List Y165) × (List Y165) × (List Y165) × Unit)) ⊕ Empty)
abbrev Y3 : Type := ((((List Int) × Int × Int × Unit × Unit × Unit × Unit × Int × Int × Int × Int × Bool × Unit) × ((Int × Int × Int × Unit) × (Int × Int × Int × Int × Int × Unit × Unit × Unit × Unit) × (List Bool) × (Int × Int × Int × Int × Int × Unit × Unit × Unit × Unit) × (List Y165) × (List Y165) × (List Y165) × Unit)) ⊕ Empty)
abbrev Y2 : Type := (((Unit × Unit × Unit × Unit) × ((Int × Int × Int × Int × Int × Unit × Unit × Unit × Unit) × (List Bool) × (Int × Int × Int × Int × Int × Unit × Unit × Unit × Unit) × (List Y165) × (List Y165) × (List Y165) × Unit)) ⊕ ((Unit × Int × Unit) × ((Int × Int × Int × Int × Int × Unit × Unit × Unit × Unit) × Unit)) ⊕ Empty)
abbrev Y1 : Type := ((Int × Unit × Int × Int × Unit × Int × Unit × Int × Unit) × ((List Int) × (Int × Int × Int × Int × Int × Unit × Unit × Unit × Unit) × (Int × Int × Int × Int × Int × Unit × Unit × Unit × Unit) × (List Y165) × (List Y165) × (List Y165) × (List Y165) × (List Y165) × (List Y165) × Unit))
abbrev Y0 : Type := (Y12 ⊕ ((Unit × Int × Unit) × ((Int × Int × Int × Int × Int × Unit × Unit × Unit × Unit) × Unit)) ⊕ Empty)
/-! second_Few -/
namespace second_Few
noncomputable def c : Go.Code := Try.f8.body.getD .skip
abbrev sh : Sh := ⟨[q14], []⟩
abbrev osh : Sh := ⟨[q15], []⟩
abbrev G := sh.X → Option osh.X
abbrev fe (g : G) : FE := FE.of [true] false sh osh g
def f (a : List Int) : Option Y163 :=
 some ((decide ((a.length:Int) ≤ 400),()),())
def u (x : Y159) := f x.1.1
section
def E : Env := ⟨T,cE [],lE [],6,0,Gt⟩
theorem e (x : sh.X) : bodO (E) [] c Try.f8 sh osh x = u x := by
 show _ = (_ : Option _)
 kernel_rfl
end
noncomputable def F : Y159 → Option Y163 := u
noncomputable abbrev R : Env := E
theorem F_eq (a : List Int) : F ((a,()),()) = f a := rfl
theorem ok {tabs} (ht : TabsOk tabs) : FOK Try.prog tabs 8 (fe F) :=
 fn_keep3 (E := R) (hs := []) Try.func8 e pw tb (gt_ok ht) (by kernel_rfl) (by kernel_rfl) rfl trivial 0 (by kernel_rfl) trivial
end second_Few
/-! measure_name -/
namespace measure_name
noncomputable def c : Go.Code := Try.f51.body.getD .skip
abbrev sh : Sh := ⟨[q13], []⟩
abbrev osh : Sh := ⟨[.one (.pv .str)], []⟩
abbrev G := sh.X → Option osh.X
abbrev fe (g : G) : FE := FE.of [true] false sh osh g
def f (a : Int) : Option Y162 :=
 bif a == 1 then
 some ((ByteArray.mk #[(101:UInt8),(117:UInt8),(99:UInt8),(108:UInt8),(105:UInt8),(100:UInt8)],()),())
 else
 bif a == 2 then
 some ((ByteArray.mk #[(115:UInt8),(104:UInt8),(105:UInt8),(102:UInt8),(116:UInt8),(101:UInt8),(100:UInt8)],()),())
 else
 bif a == 3 then
 some ((ByteArray.mk #[(110:UInt8),(111:UInt8),(114:UInt8),(109:UInt8),(97:UInt8),(108:UInt8)],()),())
 else
 bif a == 4 then
 some ((ByteArray.mk #[(119:UInt8),(97:UInt8),(114:UInt8),(112:UInt8)],()),())
 else
 bif a == 5 then
 some ((ByteArray.mk #[(101:UInt8),(100:UInt8),(105:UInt8),(116:UInt8)],()),())
 else
 some ((ByteArray.mk #[],()),())
def u (x : Y164) := f x.1.1
section
def E : Env := ⟨T,cE [],lE [],14,0,Gt⟩
theorem e (x : sh.X) : bodO (E) [] c Try.f51 sh osh x = u x := by
 show _ = (_ : Option _)
 kernel_rfl
end
noncomputable def F : Y164 → Option Y162 := u
noncomputable abbrev R : Env := E
theorem F_eq (a : Int) : F ((a,()),()) = f a := rfl
theorem ok {tabs} (ht : TabsOk tabs) : FOK Try.prog tabs 51 (fe F) :=
 fn_keep3 (E := R) (hs := []) Try.func51 e pw tb (gt_ok ht) (by kernel_rfl) (by kernel_rfl) rfl trivial 0 (by kernel_rfl) trivial
end measure_name
/-! measure_Check -/
namespace measure_Check
noncomputable def c : Go.Code := Try.f27.body.getD .skip
abbrev sh : Sh := ⟨[q11], []⟩
abbrev osh : Sh := ⟨[q13], []⟩
abbrev G := sh.X → Option osh.X
abbrev fe (g : G) : FE := FE.of [true] false sh osh g
abbrev s0 : Sh := ⟨[q16, q15], [q0]⟩
abbrev x0 : List (Ex × Sh) := [(.normal, ⟨[q15], []⟩)]
abbrev A0 := s0.X → Option (sumX x0)
abbrev s1 : Sh := ⟨[q16], [q0]⟩
abbrev x1 : List (Ex × Sh) := [(.normal, ⟨[q16, q15], [q0]⟩)]
abbrev A1 := s1.X → Option (sumX x1)
abbrev s2 : Sh := ⟨[q16, q15], [q0]⟩
abbrev x2 : List (Ex × Sh) := [(.normal, ⟨[q15], []⟩)]
abbrev A2 := s2.X → Option (sumX x2)
def hs : List Hint := [⟨[1,0,0,0,1],0,[1,3],[(0,[3])]⟩,⟨[0,1,1,0,0,0,1],1,[1],[(0,[1,3])]⟩,⟨[1,1,1,0,0,0,1],2,[1,3],[(0,[3])]⟩]
def f1 (a b c : Int) : Option Y109 :=
 bif decide (b < 0) then
 some (Sum.inl (((),true,()),(a,b,c,()),()))
 else
 bif decide (b > 32) then
 some (Sum.inl (((),true,()),(a,b,c,()),()))
 else
 bif b != 0 then
 some (Sum.inl (((),a != 4,()),(a,b,c,()),()))
 else
 some (Sum.inl (((),false,()),(a,b,c,()),()))
def u1 (x : Y133) := f1 x.2.1.1 x.2.1.2.1 x.2.1.2.2.1
def f2 (a : Bool) (b c d : Int) : Option Y157 :=
 bif a then
 some (Sum.inl ((a,()),()))
 else
 bif decide (d < -1000) then
 some (Sum.inl ((true,()),()))
 else
 bif decide (d > 1000) then
 some (Sum.inl ((true,()),()))
 else
 bif d != 0 then
 some (Sum.inl ((b != 5,()),()))
 else
 some (Sum.inl ((false,()),()))
def u2 (x : Y124) := f2 x.1.2.1 x.2.1.1 x.2.1.2.1 x.2.1.2.2.1
def f0 (l1 : Y133 → Option Y109) (l2 : Y124 → Option Y157) (a : Bool) (b c d : Int) : Option Y157 :=
 bif a then
 some (Sum.inl ((a,()),()))
 else
 (l1 (((),()),(b,c,d,()),())).bind fun y1 =>
 y1.elim (fun a2 => (l2 (((),a2.1.2.1,()),(a2.2.1.1,a2.2.1.2.1,a2.2.1.2.2.1,()),())).bind fun y3 =>
 y3.elim (fun a4 => some (Sum.inl ((a4.1.1,()),()))) Empty.elim) Empty.elim
def u0 (l1 : Y133 → Option Y109) (l2 : Y124 → Option Y157) (x : Y124) := f0 l1 l2 x.1.2.1 x.2.1.1 x.2.1.2.1 x.2.1.2.2.1
def f (g0 : Y164 → Option Y162) (l0 : Y124 → Option Y157) (a b c : Int) : Option Y164 :=
 (g0 ((a,()),())).bind fun y0 =>
 (l0 (((),ByteArray.toList y0.1.1 == ByteArray.toList (ByteArray.mk #[]),()),(a,b,c,()),())).bind fun y1 =>
 y1.elim (fun a2 => bif a2.1.1 then
 some ((9,()),())
 else
 some ((0,()),())) Empty.elim
def u (g0 : Y164 → Option Y162) (l0 : Y124 → Option Y157) (x : Y141) := f g0 l0 x.1.1.1 x.1.1.2.1 x.1.1.2.2.1
section
variable (g0 : measure_name.G) (l0 : A0) (l1 : A1) (l2 : A2)
def E : Env := ⟨T,cE [(51,[],measure_name.fe g0)],lE [LE.of s0 x0 l0,LE.of s1 x1 l1,LE.of s2 x2 l2],44,0,Gt⟩
variable {g0 l0 l1 l2}
theorem e1 (L : A1) (x : s1.X) : rndO (E g0 l0 l1 l2) hs c s1 x1 1 false L x = u1 x := by
 show _ = (_ : Option _)
 kernel_rfl
theorem e2 (L : A2) (x : s2.X) : rndO (E g0 l0 l1 l2) hs c s2 x2 2 false L x = u2 x := by
 show _ = (_ : Option _)
 kernel_rfl
theorem e0 (L : A0) (x : s0.X) : rndO (E g0 l0 l1 l2) hs c s0 x0 0 false L x = u0 l1 l2 x := by
 show _ = (_ : Option _)
 kernel_rfl
theorem e (x : sh.X) : bodO (E g0 l0 l1 l2) hs c Try.f27 sh osh x = u g0 l0 x := by
 show _ = (_ : Option _)
 kernel_rfl
end
noncomputable def L1 : Y133 → Option Y109 := u1
noncomputable def L2 : Y124 → Option Y157 := u2
noncomputable def L0 : Y124 → Option Y157 := u0 L1 L2
noncomputable def F : Y141 → Option Y164 := u measure_name.F L0
noncomputable abbrev R : Env := E measure_name.F L0 L1 L2
theorem L0_eq (a : Bool) (b c d : Int) : L0 (((),a,()),((b,c,d,()),())) = f0 L1 L2 a b c d := rfl
theorem L1_eq (a b c : Int) : L1 (((),()),((a,b,c,()),())) = f1 a b c := rfl
theorem L2_eq (a : Bool) (b c d : Int) : L2 (((),a,()),((b,c,d,()),())) = f2 a b c d := rfl
theorem F_eq (a b c : Int) : F (((a,b,c,()),()),()) = f measure_name.F L0 a b c := rfl
theorem ok {tabs} (ht : TabsOk tabs) : FOK Try.prog tabs 27 (fe F) :=
 fn_keep3 (E := R) (hs := hs) Try.func27 e pw tb (gt_ok ht) (by kernel_rfl) (by kernel_rfl) rfl ⟨measure_name.ok ht,trivial⟩ 3 (by kernel_rfl) ⟨cA e0 (by kernel_rfl) (by kernel_rfl),cA e1 (by kernel_rfl) (by kernel_rfl),cA e2 (by kernel_rfl) (by kernel_rfl),trivial⟩
end measure_Check
/-! profile_Sample -/
namespace profile_Sample
noncomputable def c : Go.Code := Try.f40.body.getD .skip
abbrev sh : Sh := ⟨[q13], []⟩
abbrev osh : Sh := ⟨[q15], []⟩
abbrev G := sh.X → Option osh.X
abbrev fe (g : G) : FE := FE.of [true] false sh osh g
def f (a : Int) : Option Y163 :=
 bif a == 1073741824 then
 some ((true,()),())
 else
 bif decide (a ≥ -1000) then
 some ((decide (a ≤ 1000),()),())
 else
 some ((false,()),())
def u (x : Y164) := f x.1.1
section
def E : Env := ⟨T,cE [],lE [],13,0,Gt⟩
theorem e (x : sh.X) : bodO (E) [] c Try.f40 sh osh x = u x := by
 show _ = (_ : Option _)
 kernel_rfl
end
noncomputable def F : Y164 → Option Y163 := u
noncomputable abbrev R : Env := E
theorem F_eq (a : Int) : F ((a,()),()) = f a := rfl
theorem ok {tabs} (ht : TabsOk tabs) : FOK Try.prog tabs 40 (fe F) :=
 fn_keep3 (E := R) (hs := []) Try.func40 e pw tb (gt_ok ht) (by kernel_rfl) (by kernel_rfl) rfl trivial 0 (by kernel_rfl) trivial
end profile_Sample
/-! profile_Windows_1 -/
namespace profile_Windows_1
noncomputable def c : Go.Code := Try.f39.body.getD .skip
abbrev sh : Sh := ⟨[q13], []⟩
abbrev osh : Sh := ⟨[q15], []⟩
abbrev G := sh.X → Option osh.X
abbrev fe (g : G) : FE := FE.of [true] false sh osh g
def f (g0 : Y164 → Option Y163) (a : Int) : Option Y163 :=
 (g0 ((a,()),())).bind fun y0 =>
 some ((!y0.1.1,()),())
def u (g0 : Y164 → Option Y163) (x : Y164) := f g0 x.1.1
section
variable (g0 : profile_Sample.G)
def E : Env := ⟨T,cE [(40,[],profile_Sample.fe g0)],lE [],6,0,Gt⟩
variable {g0}
theorem e (x : sh.X) : bodO (E g0) [] c Try.f39 sh osh x = u g0 x := by
 show _ = (_ : Option _)
 kernel_rfl
end
noncomputable def F : Y164 → Option Y163 := u profile_Sample.F
noncomputable abbrev R : Env := E profile_Sample.F
theorem F_eq (a : Int) : F ((a,()),()) = f profile_Sample.F a := rfl
theorem ok {tabs} (ht : TabsOk tabs) : FOK Try.prog tabs 39 (fe F) :=
 fn_keep3 (E := R) (hs := []) Try.func39 e pw tb (gt_ok ht) (by kernel_rfl) (by kernel_rfl) rfl ⟨profile_Sample.ok ht,trivial⟩ 0 (by kernel_rfl) trivial
end profile_Windows_1
/-! slices_IndexFunc -/
namespace slices_IndexFunc
noncomputable def c : Go.Code := Try.f57.body.getD .skip
abbrev sh : Sh := ⟨[q14, q28], []⟩
abbrev osh : Sh := ⟨[q13], []⟩
abbrev G := sh.X → Option osh.X
abbrev fe (g : G) : FE := FE.of [true,true] false sh osh g
abbrev s0 : Sh := ⟨[q14, q28, q13, q13], []⟩
abbrev x0 : List (Ex × Sh) := [(.exit 0, ⟨[], []⟩), (.ret, ⟨[q13], []⟩)]
abbrev A0 := s0.X → Option (sumX x0)
def hs : List Hint := [⟨[0,1,0,1],0,[0,1,7,8],[(2,[]),(1,[4])]⟩]
def f0 (g0 : Y164 → Option Y163) (L : Y135 → Option Y131) (a : List Int) (b c : Int) : Option Y131 :=
 bif decide (c < b) then
 bif decide (0 ≤ c) then
 bif decide (c < (a.length:Int)) then
 (g0 ((a.getD (c.toNat) 0,()),())).bind fun y3 =>
 bif y3.1.1 then
 some (Sum.inr (Sum.inl ((c,()),())))
 else
 (L ((a,(),b,IntKind.wrap .i64 (c + 1),()),())).bind fun y5 =>
 some y5
 else none
 else none
 else
 some (Sum.inl ((),()))
def u0 (g0 : Y164 → Option Y163) (L : Y135 → Option Y131) (x : Y135) := f0 g0 L x.1.1 x.1.2.2.1 x.1.2.2.2.1
def f (l0 : Y135 → Option Y131) (a : List Int) : Option Y164 :=
 (l0 ((a,(),(a.length:Int),0,()),())).bind fun y0 =>
 y0.elim (fun a1 => some ((-1,()),())) (fun b1 => b1.elim (fun a2 => some ((a2.1.1,()),())) Empty.elim)
def u (l0 : Y135 → Option Y131) (x : Y154) := f l0 x.1.1
section
variable (g0 : profile_Windows_1.G) (l0 : A0)
def E : Env := ⟨T,cE [(39,[],profile_Windows_1.fe g0)],lE [LE.of s0 x0 l0],19,0,Gt⟩
variable {g0 l0}
theorem e0 (L : A0) (x : s0.X) : rndO (E g0 l0) hs c s0 x0 0 true L x = u0 g0 L x := by
 show _ = (_ : Option _)
 kernel_rfl
theorem e (x : sh.X) : bodO (E g0 l0) hs c Try.f57 sh osh x = u l0 x := by
 show _ = (_ : Option _)
 kernel_rfl
end
noncomputable def L0 : Y135 → Option Y131 := loop (u0 profile_Windows_1.F)
noncomputable def F : Y154 → Option Y164 := u L0
noncomputable abbrev R : Env := E profile_Windows_1.F L0
theorem L0_eq (a : List Int) (b c : Int) : L0 ((a,(),b,c,()),()) = f0 profile_Windows_1.F L0 a b c :=
 loopE (E := R) e0 ((a,(),b,c,()),())
theorem F_eq (a : List Int) : F ((a,(),()),()) = f L0 a := rfl
theorem ok {tabs} (ht : TabsOk tabs) : FOK Try.prog tabs 57 (fe F) :=
 fn_keep3 (E := R) (hs := hs) Try.func57 e pw tb (gt_ok ht) (by kernel_rfl) (by kernel_rfl) rfl ⟨profile_Windows_1.ok ht,trivial⟩ 1 (by kernel_rfl) ⟨lA e0 (by kernel_rfl) (by kernel_rfl),trivial⟩
end slices_IndexFunc
/-! slices_ContainsFunc -/
namespace slices_ContainsFunc
noncomputable def c : Go.Code := Try.f38.body.getD .skip
abbrev sh : Sh := ⟨[q14, q28], []⟩
abbrev osh : Sh := ⟨[q15], []⟩
abbrev G := sh.X → Option osh.X
abbrev fe (g : G) : FE := FE.of [true,true] false sh osh g
def f (g0 : Y154 → Option Y164) (a : List Int) : Option Y163 :=
 (g0 ((a,(),()),())).bind fun y0 =>
 some ((decide (y0.1.1 ≥ 0),()),())
def u (g0 : Y154 → Option Y164) (x : Y154) := f g0 x.1.1
section
variable (g0 : slices_IndexFunc.G)
def E : Env := ⟨T,cE [(57,[39],slices_IndexFunc.fe g0)],lE [],9,0,Gt⟩
variable {g0}
theorem e (x : sh.X) : bodO (E g0) [] c Try.f38 sh osh x = u g0 x := by
 show _ = (_ : Option _)
 kernel_rfl
end
noncomputable def F : Y154 → Option Y163 := u slices_IndexFunc.F
noncomputable abbrev R : Env := E slices_IndexFunc.F
theorem F_eq (a : List Int) : F ((a,(),()),()) = f slices_IndexFunc.F a := rfl
theorem ok {tabs} (ht : TabsOk tabs) : FOK Try.prog tabs 38 (fe F) :=
 fn_keep3 (E := R) (hs := []) Try.func38 e pw tb (gt_ok ht) (by kernel_rfl) (by kernel_rfl) rfl ⟨slices_IndexFunc.ok ht,trivial⟩ 0 (by kernel_rfl) trivial
end slices_ContainsFunc
/-! profile_Length -/
namespace profile_Length
noncomputable def c : Go.Code := Try.f28.body.getD .skip
abbrev sh : Sh := ⟨[q13], []⟩
abbrev osh : Sh := ⟨[q15], []⟩
abbrev G := sh.X → Option osh.X
abbrev fe (g : G) : FE := FE.of [true] false sh osh g
def f (a : Int) : Option Y163 :=
 bif decide (a ≥ 2) then
 some ((decide (a ≤ 32),()),())
 else
 some ((false,()),())
def u (x : Y164) := f x.1.1
section
def E : Env := ⟨T,cE [],lE [],9,0,Gt⟩
theorem e (x : sh.X) : bodO (E) [] c Try.f28 sh osh x = u x := by
 show _ = (_ : Option _)
 kernel_rfl
end
noncomputable def F : Y164 → Option Y163 := u
noncomputable abbrev R : Env := E
theorem F_eq (a : Int) : F ((a,()),()) = f a := rfl
theorem ok {tabs} (ht : TabsOk tabs) : FOK Try.prog tabs 28 (fe F) :=
 fn_keep3 (E := R) (hs := []) Try.func28 e pw tb (gt_ok ht) (by kernel_rfl) (by kernel_rfl) rfl trivial 0 (by kernel_rfl) trivial
end profile_Length
/-! slices_Index -/
namespace slices_Index
noncomputable def c : Go.Code := Try.f58.body.getD .skip
abbrev sh : Sh := ⟨[q14, q13], []⟩
abbrev osh : Sh := ⟨[q13], []⟩
abbrev G := sh.X → Option osh.X
abbrev fe (g : G) : FE := FE.of [true,true] false sh osh g
abbrev s0 : Sh := ⟨[q14, q13, q13, q13], []⟩
abbrev x0 : List (Ex × Sh) := [(.exit 0, ⟨[], []⟩), (.ret, ⟨[q13], []⟩)]
abbrev A0 := s0.X → Option (sumX x0)
def hs : List Hint := [⟨[0,1,0,1],0,[0,1,7,8],[(2,[]),(1,[4])]⟩]
def f0 (L : Y138 → Option Y131) (a : List Int) (b c d : Int) : Option Y131 :=
 bif decide (d < c) then
 bif decide (0 ≤ d) then
 bif decide (d < (a.length:Int)) then
 bif b == a.getD (d.toNat) 0 then
 some (Sum.inr (Sum.inl ((d,()),())))
 else
 (L ((a,b,c,IntKind.wrap .i64 (d + 1),()),())).bind fun y4 =>
 some y4
 else none
 else none
 else
 some (Sum.inl ((),()))
def u0 (L : Y138 → Option Y131) (x : Y138) := f0 L x.1.1 x.1.2.1 x.1.2.2.1 x.1.2.2.2.1
def f (l0 : Y138 → Option Y131) (a : List Int) (b : Int) : Option Y164 :=
 (l0 ((a,b,(a.length:Int),0,()),())).bind fun y0 =>
 y0.elim (fun a1 => some ((-1,()),())) (fun b1 => b1.elim (fun a2 => some ((a2.1.1,()),())) Empty.elim)
def u (l0 : Y138 → Option Y131) (x : Y155) := f l0 x.1.1 x.1.2.1
section
variable (l0 : A0)
def E : Env := ⟨T,cE [],lE [LE.of s0 x0 l0],19,0,Gt⟩
variable {l0}
theorem e0 (L : A0) (x : s0.X) : rndO (E l0) hs c s0 x0 0 true L x = u0 L x := by
 show _ = (_ : Option _)
 kernel_rfl
theorem e (x : sh.X) : bodO (E l0) hs c Try.f58 sh osh x = u l0 x := by
 show _ = (_ : Option _)
 kernel_rfl
end
noncomputable def L0 : Y138 → Option Y131 := loop u0
noncomputable def F : Y155 → Option Y164 := u L0
noncomputable abbrev R : Env := E L0
theorem L0_eq (a : List Int) (b c d : Int) : L0 ((a,b,c,d,()),()) = f0 L0 a b c d :=
 loopE (E := R) e0 ((a,b,c,d,()),())
theorem F_eq (a : List Int) (b : Int) : F ((a,b,()),()) = f L0 a b := rfl
theorem ok {tabs} (ht : TabsOk tabs) : FOK Try.prog tabs 58 (fe F) :=
 fn_keep3 (E := R) (hs := hs) Try.func58 e pw tb (gt_ok ht) (by kernel_rfl) (by kernel_rfl) rfl trivial 1 (by kernel_rfl) ⟨lA e0 (by kernel_rfl) (by kernel_rfl),trivial⟩
end slices_Index
/-! slices_Contains -/
namespace slices_Contains
noncomputable def c : Go.Code := Try.f41.body.getD .skip
abbrev sh : Sh := ⟨[q14, q13], []⟩
abbrev osh : Sh := ⟨[q15], []⟩
abbrev G := sh.X → Option osh.X
abbrev fe (g : G) : FE := FE.of [true,true] false sh osh g
def f (g0 : Y155 → Option Y164) (a : List Int) (b : Int) : Option Y163 :=
 (g0 ((a,b,()),())).bind fun y0 =>
 some ((decide (y0.1.1 ≥ 0),()),())
def u (g0 : Y155 → Option Y164) (x : Y155) := f g0 x.1.1 x.1.2.1
section
variable (g0 : slices_Index.G)
def E : Env := ⟨T,cE [(58,[],slices_Index.fe g0)],lE [],9,0,Gt⟩
variable {g0}
theorem e (x : sh.X) : bodO (E g0) [] c Try.f41 sh osh x = u g0 x := by
 show _ = (_ : Option _)
 kernel_rfl
end
noncomputable def F : Y155 → Option Y163 := u slices_Index.F
noncomputable abbrev R : Env := E slices_Index.F
theorem F_eq (a : List Int) (b : Int) : F ((a,b,()),()) = f slices_Index.F a b := rfl
theorem ok {tabs} (ht : TabsOk tabs) : FOK Try.prog tabs 41 (fe F) :=
 fn_keep3 (E := R) (hs := []) Try.func41 e pw tb (gt_ok ht) (by kernel_rfl) (by kernel_rfl) rfl ⟨slices_Index.ok ht,trivial⟩ 0 (by kernel_rfl) trivial
end slices_Contains
/-! profile_Windows -/
namespace profile_Windows
noncomputable def c : Go.Code := Try.f22.body.getD .skip
abbrev sh : Sh := ⟨[q14, q13], []⟩
abbrev osh : Sh := ⟨[q18, q13], [.row 4 .bool]⟩
abbrev G := sh.X → Option osh.X
abbrev fe (g : G) : FE := FE.of [true,true] false sh osh g
abbrev s0 : Sh := ⟨[q14, q13, q18, q13, q13], [.row 4 .bool]⟩
abbrev x0 : List (Ex × Sh) := [(.exit 1, ⟨[q18], [.row 4 .bool]⟩)]
abbrev A0 := s0.X → Option (sumX x0)
def hs : List Hint := [⟨[0,1,0,1,1,1],0,[0,1,6,27,28],[(3,[6])]⟩]
def f0 (g2 : Y155 → Option Y163) (L : Y108 → Option Y137) (a : List Int) (b c d : Int) (h : List Bool) : Option Y137 :=
 bif decide (d < c) then
 bif decide (0 ≤ d) then
 bif decide (d ≤ IntKind.wrap .i64 (d + b)) then
 bif decide (IntKind.wrap .i64 (d + b) ≤ (a.length:Int)) then
 (g2 ((List.drop (d.toNat) (List.take (Int.toNat (IntKind.wrap .i64 (d + b))) a),1073741824,()),())).bind fun y4 =>
 bif decide (0 ≤ d) then
 bif decide (d < (h.length:Int)) then
 (L ((a,b,(),c,IntKind.wrap .i64 (d + 1),()),h.set (d.toNat) (!y4.1.1),())).bind fun y7 =>
 some y7
 else none
 else none
 else none
 else none
 else none
 else
 some (Sum.inl (((),()),h,()))
def u0 (g2 : Y155 → Option Y163) (L : Y108 → Option Y137) (x : Y108) := f0 g2 L x.1.1 x.1.2.1 x.1.2.2.2.1 x.1.2.2.2.2.1 x.2.1
def f (g0 : Y154 → Option Y163) (g1 : Y164 → Option Y163) (l0 : Y108 → Option Y137) (a : List Int) (b : Int) : Option Y144 :=
 bif decide ((a.length:Int) > 2000) then
 some (((),4,()),([]:List Bool),())
 else
 (g0 ((a,(),()),())).bind fun y1 =>
 bif y1.1.1 then
 some (((),12,()),([]:List Bool),())
 else
 (g1 ((b,()),())).bind fun y3 =>
 bif !y3.1.1 then
 some (((),8,()),([]:List Bool),())
 else
 bif decide (Go.VI.mx 0 (IntKind.wrap .i64 ((IntKind.wrap .i64 ((a.length:Int) + 1)) - b)) = Go.VI.mx 0 (IntKind.wrap .i64 ((IntKind.wrap .i64 ((a.length:Int) + 1)) - b))) then
 bif decide (0 ≤ Go.VI.mx 0 (IntKind.wrap .i64 ((IntKind.wrap .i64 ((a.length:Int) + 1)) - b))) then
 bif decide (((((1:Nat):Nat):Int) * (Go.VI.mx 0 (IntKind.wrap .i64 ((IntKind.wrap .i64 ((a.length:Int) + 1)) - b)))) ≤ 281474976710656) && true then
 (l0 ((a,b,(),(List.length (List.replicate (Int.toNat (Go.VI.mx 0 (IntKind.wrap .i64 ((IntKind.wrap .i64 ((a.length:Int) + 1)) - b)))) false):Int),0,()),List.replicate (Int.toNat (Go.VI.mx 0 (IntKind.wrap .i64 ((IntKind.wrap .i64 ((a.length:Int) + 1)) - b)))) false,())).bind fun y8 =>
 y8.elim (fun a9 => some (((),0,()),a9.2.1,())) Empty.elim
 else none
 else none
 else none
def u (g0 : Y154 → Option Y163) (g1 : Y164 → Option Y163) (l0 : Y108 → Option Y137) (x : Y155) := f g0 g1 l0 x.1.1 x.1.2.1
section
variable (g0 : slices_ContainsFunc.G) (g1 : profile_Length.G) (g2 : slices_Contains.G) (l0 : A0)
def E : Env := ⟨T,cE [(38,[39],slices_ContainsFunc.fe g0),(28,[],profile_Length.fe g1),(41,[],slices_Contains.fe g2)],lE [LE.of s0 x0 l0],44,0,Gt⟩
variable {g0 g1 g2 l0}
theorem e0 (L : A0) (x : s0.X) : rndO (E g0 g1 g2 l0) hs c s0 x0 0 true L x = u0 g2 L x := by
 show _ = (_ : Option _)
 kernel_rfl
theorem e (x : sh.X) : bodO (E g0 g1 g2 l0) hs c Try.f22 sh osh x = u g0 g1 l0 x := by
 show _ = (_ : Option _)
 kernel_rfl
end
noncomputable def L0 : Y108 → Option Y137 := loop (u0 slices_Contains.F)
noncomputable def F : Y155 → Option Y144 := u slices_ContainsFunc.F profile_Length.F L0
noncomputable abbrev R : Env := E slices_ContainsFunc.F profile_Length.F slices_Contains.F L0
theorem L0_eq (a : List Int) (b c d : Int) (h : List Bool) : L0 ((a,b,(),c,d,()),(h,())) = f0 slices_Contains.F L0 a b c d h :=
 loopE (E := R) e0 ((a,b,(),c,d,()),(h,()))
theorem F_eq (a : List Int) (b : Int) : F ((a,b,()),()) = f slices_ContainsFunc.F profile_Length.F L0 a b := rfl
theorem ok {tabs} (ht : TabsOk tabs) : FOK Try.prog tabs 22 (fe F) :=
 fn_keep3 (E := R) (hs := hs) Try.func22 e pw tb (gt_ok ht) (by kernel_rfl) (by kernel_rfl) rfl ⟨slices_ContainsFunc.ok ht,profile_Length.ok ht,slices_Contains.ok ht,trivial⟩ 1 (by kernel_rfl) ⟨lA e0 (by kernel_rfl) (by kernel_rfl),trivial⟩
end profile_Windows
/-! profile_Zone -/
namespace profile_Zone
noncomputable def c : Go.Code := Try.f29.body.getD .skip
abbrev sh : Sh := ⟨[q13], []⟩
abbrev osh : Sh := ⟨[q15], []⟩
abbrev G := sh.X → Option osh.X
abbrev fe (g : G) : FE := FE.of [true] false sh osh g
def f (a : Int) : Option Y163 :=
 bif decide (a ≥ 1) then
 some ((decide (a ≤ 64),()),())
 else
 some ((false,()),())
def u (x : Y164) := f x.1.1
section
def E : Env := ⟨T,cE [],lE [],9,0,Gt⟩
theorem e (x : sh.X) : bodO (E) [] c Try.f29 sh osh x = u x := by
 show _ = (_ : Option _)
 kernel_rfl
end
noncomputable def F : Y164 → Option Y163 := u
noncomputable abbrev R : Env := E
theorem F_eq (a : Int) : F ((a,()),()) = f a := rfl
theorem ok {tabs} (ht : TabsOk tabs) : FOK Try.prog tabs 29 (fe F) :=
 fn_keep3 (E := R) (hs := []) Try.func29 e pw tb (gt_ok ht) (by kernel_rfl) (by kernel_rfl) rfl trivial 0 (by kernel_rfl) trivial
end profile_Zone
/-! profile_None -/
namespace profile_None
noncomputable def c : Go.Code := Try.f36.body.getD .skip
abbrev sh : Sh := ⟨[], []⟩
abbrev osh : Sh := ⟨[q11], []⟩
abbrev G := sh.X → Option osh.X
abbrev fe (g : G) : FE := FE.of [] false sh osh g
def f : Option Y141 :=
 some (((-1,0,1,()),()),())
def u (x : Y166) := f
section
def E : Env := ⟨T,cE [],lE [],3,0,Gt⟩
theorem e (x : sh.X) : bodO (E) [] c Try.f36 sh osh x = u x := by
 show _ = (_ : Option _)
 kernel_rfl
end
noncomputable def F : Y166 → Option Y141 := u
noncomputable abbrev R : Env := E
theorem F_eq : F ((),()) = f := rfl
theorem ok {tabs} (ht : TabsOk tabs) : FOK Try.prog tabs 36 (fe F) :=
 fn_keep3 (E := R) (hs := []) Try.func36 e pw tb (gt_ok ht) (by kernel_rfl) (by kernel_rfl) rfl trivial 0 (by kernel_rfl) trivial
end profile_None
/-! measure_distances -/
namespace measure_distances
noncomputable def c : Go.Code := Try.f56.body.getD .skip
abbrev sh : Sh := ⟨[q11], []⟩
abbrev osh : Sh := ⟨[.one (.is (.fmap [(1, 76, []), (2, 79, []), (3, 80, []), (4, 81, [(0, 0)]), (5, 83, [(0, 0)])]))], [q0]⟩
abbrev G := sh.X → Option osh.X
abbrev fe (g : G) : FE := FE.of [true] true sh osh g
end measure_distances
def measure_distances.ents : List (Int × Nat × List (Nat × Nat)) := [(1, 76, []), (2, 79, []), (3, 80, []), (4, 81, [(0, 0)]), (5, 83, [(0, 0)])]
noncomputable def measure_distances.F : measure_distances.sh.X → Option measure_distances.osh.X := mapF measure_distances.ents
theorem measure_distances.F_eq (k b g : Int) : measure_distances.F (((k, b, g, ()), ()), ()) = some (((), ()), ((k, b, g, ()), ())) := rfl
section
open Go.RowKit
theorem measure_distances.walk (k b g : Int) (w : Go.World) : Go.Calls Try.prog 56 #[.agg #[.int .i64 k, .int .i64 b, .int .i64 g]] w fun e w' => e = .returned (.map (some (w.heap.size + 1))) ∧
    w' = mapW w (.cells #[.int .i64 k, .int .i64 b, .int .i64 g] 24) #[{ key := .int .i64 1, val := .func (.func 76) #[] #[], born := 0 }, { key := .int .i64 2, val := .func (.func 79) #[] #[], born := 1 }, { key := .int .i64 3, val := .func (.func 80) #[] #[], born := 2 }, { key := .int .i64 4, val := .func (.func 81) #[] #[.pointer (some ⟨w.heap.size, 0, none⟩)], born := 3 }, { key := .int .i64 5, val := .func (.func 83) #[] #[.pointer (some ⟨w.heap.size, 0, none⟩)], born := 4 }] 5 := by
  have hmf : ∀ (fn : Go.Fn) (first cap : Array Go.Value) (w : Go.World), (Go.Instr.makeFunc fn first cap).run Try.prog w = .ok (.func fn first cap) w := fun _ _ _ _ => rfl
  have hmm := @run_makeMap_mapW Try.prog 78 w (.cells #[.int .i64 k, .int .i64 b, .int .i64 g] 24)
  have hi0 := @run_insert_mapW Try.prog 78 3 77 w (.cells #[.int .i64 k, .int .i64 b, .int .i64 g] 24) #[] 0 1 (.func (.func 76) #[] #[]) Try.underlying78 Try.underlying3 rfl
  have hi1 := @run_insert_mapW Try.prog 78 3 77 w (.cells #[.int .i64 k, .int .i64 b, .int .i64 g] 24) #[{ key := .int .i64 1, val := .func (.func 76) #[] #[], born := 0 }] 1 2 (.func (.func 79) #[] #[]) Try.underlying78 Try.underlying3 rfl
  have hi2 := @run_insert_mapW Try.prog 78 3 77 w (.cells #[.int .i64 k, .int .i64 b, .int .i64 g] 24) #[{ key := .int .i64 1, val := .func (.func 76) #[] #[], born := 0 }, { key := .int .i64 2, val := .func (.func 79) #[] #[], born := 1 }] 2 3 (.func (.func 80) #[] #[]) Try.underlying78 Try.underlying3 rfl
  have hi3 := @run_insert_mapW Try.prog 78 3 77 w (.cells #[.int .i64 k, .int .i64 b, .int .i64 g] 24) #[{ key := .int .i64 1, val := .func (.func 76) #[] #[], born := 0 }, { key := .int .i64 2, val := .func (.func 79) #[] #[], born := 1 }, { key := .int .i64 3, val := .func (.func 80) #[] #[], born := 2 }] 3 4 (.func (.func 81) #[] #[.pointer (some ⟨w.heap.size, 0, none⟩)]) Try.underlying78 Try.underlying3 rfl
  have hi4 := @run_insert_mapW Try.prog 78 3 77 w (.cells #[.int .i64 k, .int .i64 b, .int .i64 g] 24) #[{ key := .int .i64 1, val := .func (.func 76) #[] #[], born := 0 }, { key := .int .i64 2, val := .func (.func 79) #[] #[], born := 1 }, { key := .int .i64 3, val := .func (.func 80) #[] #[], born := 2 }, { key := .int .i64 4, val := .func (.func 81) #[] #[.pointer (some ⟨w.heap.size, 0, none⟩)], born := 3 }] 4 5 (.func (.func 83) #[] #[.pointer (some ⟨w.heap.size, 0, none⟩)]) Try.underlying78 Try.underlying3 rfl
  simp only [List.push_toArray, List.cons_append, List.nil_append, Nat.zero_add, Nat.reduceAdd] at hi0 hi1 hi2 hi3 hi4
  go_enter Try.func56, Try.ntmps56
  go_wp2
  simp [Go.bodyPost, Go.results, Try.results56]
end
theorem measure_distances.ok {tabs : List (Nat × Go.Obj)} (ht : TabsOk tabs) : FOK Try.prog tabs 56 (FE.of [true] true measure_distances.sh measure_distances.osh measure_distances.F) :=
  fok_map Try.func56 (c := measure_distances.c) (by kernel_rfl) (by kernel_rfl) (fun B => #[{ key := .int .i64 1, val := .func (.func 76) #[] #[], born := 0 }, { key := .int .i64 2, val := .func (.func 79) #[] #[], born := 1 }, { key := .int .i64 3, val := .func (.func 80) #[] #[], born := 2 }, { key := .int .i64 4, val := .func (.func 81) #[] #[B], born := 3 }, { key := .int .i64 5, val := .func (.func 83) #[] #[B], born := 4 }]) (fun k b g w => measure_distances.walk k b g w) (fun α h B hB => ⟨⟨rfl, _, rfl, trivial⟩, ⟨rfl, _, rfl, trivial⟩, ⟨rfl, _, rfl, trivial⟩, ⟨rfl, _, rfl, ⟨hB, trivial⟩⟩, ⟨rfl, _, rfl, ⟨hB, trivial⟩⟩, trivial⟩)

/-! euclid_length -/
namespace euclid_length
noncomputable def c : Go.Code := Try.f98.body.getD .skip
abbrev sh : Sh := ⟨[q14], []⟩
abbrev osh : Sh := ⟨[q15], []⟩
abbrev G := sh.X → Option osh.X
abbrev fe (g : G) : FE := FE.of [true] false sh osh g
def f (a : List Int) : Option Y163 :=
 bif decide ((a.length:Int) ≥ 2) then
 some ((decide ((a.length:Int) ≤ 32),()),())
 else
 some ((false,()),())
def u (x : Y159) := f x.1.1
section
def E : Env := ⟨T,cE [],lE [],11,0,Gt⟩
theorem e (x : sh.X) : bodO (E) [] c Try.f98 sh osh x = u x := by
 show _ = (_ : Option _)
 kernel_rfl
end
noncomputable def F : Y159 → Option Y163 := u
noncomputable abbrev R : Env := E
theorem F_eq (a : List Int) : F ((a,()),()) = f a := rfl
theorem ok {tabs} (ht : TabsOk tabs) : FOK Try.prog tabs 98 (fe F) :=
 fn_keep3 (E := R) (hs := []) Try.func98 e pw tb (gt_ok ht) (by kernel_rfl) (by kernel_rfl) rfl trivial 0 (by kernel_rfl) trivial
end euclid_length
/-! euclid_samples -/
namespace euclid_samples
noncomputable def c : Go.Code := Try.f99.body.getD .skip
abbrev sh : Sh := ⟨[q14], []⟩
abbrev osh : Sh := ⟨[q15], []⟩
abbrev G := sh.X → Option osh.X
abbrev fe (g : G) : FE := FE.of [true] false sh osh g
abbrev s0 : Sh := ⟨[q14, q13, q13], []⟩
abbrev x0 : List (Ex × Sh) := [(.exit 0, ⟨[], []⟩), (.ret, ⟨[q15], []⟩)]
abbrev A0 := s0.X → Option (sumX x0)
def hs : List Hint := [⟨[0,1,0,1],0,[5,6,7],[(2,[]),(1,[2])]⟩]
def f0 (L : Y148 → Option Y130) (a : List Int) (b c : Int) : Option Y130 :=
 bif decide (c < b) then
 bif decide (0 ≤ c) then
 bif decide (c < (a.length:Int)) then
 bif decide (a.getD (c.toNat) 0 < -1000) then
 some (Sum.inr (Sum.inl ((false,()),())))
 else
 bif decide (a.getD (c.toNat) 0 > 1000) then
 some (Sum.inr (Sum.inl ((false,()),())))
 else
 (L ((a,b,IntKind.wrap .i64 (c + 1),()),())).bind fun y5 =>
 some y5
 else none
 else none
 else
 some (Sum.inl ((),()))
def u0 (L : Y148 → Option Y130) (x : Y148) := f0 L x.1.1 x.1.2.1 x.1.2.2.1
def f (l0 : Y148 → Option Y130) (a : List Int) : Option Y163 :=
 (l0 ((a,(a.length:Int),0,()),())).bind fun y0 =>
 y0.elim (fun a1 => some ((true,()),())) (fun b1 => b1.elim (fun a2 => some ((a2.1.1,()),())) Empty.elim)
def u (l0 : Y148 → Option Y130) (x : Y159) := f l0 x.1.1
section
variable (l0 : A0)
def E : Env := ⟨T,cE [],lE [LE.of s0 x0 l0],18,0,Gt⟩
variable {l0}
theorem e0 (L : A0) (x : s0.X) : rndO (E l0) hs c s0 x0 0 true L x = u0 L x := by
 show _ = (_ : Option _)
 kernel_rfl
theorem e (x : sh.X) : bodO (E l0) hs c Try.f99 sh osh x = u l0 x := by
 show _ = (_ : Option _)
 kernel_rfl
end
noncomputable def L0 : Y148 → Option Y130 := loop u0
noncomputable def F : Y159 → Option Y163 := u L0
noncomputable abbrev R : Env := E L0
theorem L0_eq (a : List Int) (b c : Int) : L0 ((a,b,c,()),()) = f0 L0 a b c :=
 loopE (E := R) e0 ((a,b,c,()),())
theorem F_eq (a : List Int) : F ((a,()),()) = f L0 a := rfl
theorem ok {tabs} (ht : TabsOk tabs) : FOK Try.prog tabs 99 (fe F) :=
 fn_keep3 (E := R) (hs := hs) Try.func99 e pw tb (gt_ok ht) (by kernel_rfl) (by kernel_rfl) rfl trivial 1 (by kernel_rfl) ⟨lA e0 (by kernel_rfl) (by kernel_rfl),trivial⟩
end euclid_samples
/-! euclid_check -/
namespace euclid_check
noncomputable def c : Go.Code := Try.f91.body.getD .skip
abbrev sh : Sh := ⟨[q14, q14], []⟩
abbrev osh : Sh := ⟨[q13], []⟩
abbrev G := sh.X → Option osh.X
abbrev fe (g : G) : FE := FE.of [true,true] false sh osh g
abbrev s0 : Sh := ⟨[q14, q14], []⟩
abbrev x0 : List (Ex × Sh) := [(.normal, ⟨[q14, q14, q15], []⟩)]
abbrev A0 := s0.X → Option (sumX x0)
abbrev s1 : Sh := ⟨[q14, q14], []⟩
abbrev x1 : List (Ex × Sh) := [(.normal, ⟨[q14, q14, q15], []⟩)]
abbrev A1 := s1.X → Option (sumX x1)
def hs : List Hint := [⟨[0,0,0,1],0,[0,1],[(0,[0,1,5])]⟩,⟨[0,1,1,0,0,1],1,[0,1],[(0,[0,1,14])]⟩]
def f0 (g0 : Y159 → Option Y163) (a b : List Int) : Option Y119 :=
 (g0 ((a,()),())).bind fun y0 =>
 bif !y0.1.1 then
 some (Sum.inl ((a,b,true,()),()))
 else
 (g0 ((b,()),())).bind fun y2 =>
 some (Sum.inl ((a,b,!y2.1.1,()),()))
def u0 (g0 : Y159 → Option Y163) (x : Y145) := f0 g0 x.1.1 x.1.2.1
def f1 (g1 : Y159 → Option Y163) (a b : List Int) : Option Y119 :=
 (g1 ((a,()),())).bind fun y0 =>
 bif !y0.1.1 then
 some (Sum.inl ((a,b,true,()),()))
 else
 (g1 ((b,()),())).bind fun y2 =>
 some (Sum.inl ((a,b,!y2.1.1,()),()))
def u1 (g1 : Y159 → Option Y163) (x : Y145) := f1 g1 x.1.1 x.1.2.1
def f (l0 : Y145 → Option Y119) (l1 : Y145 → Option Y119) (a b : List Int) : Option Y164 :=
 (l0 ((a,b,()),())).bind fun y0 =>
 y0.elim (fun a1 => bif a1.1.2.2.1 then
 some ((8,()),())
 else
 (l1 ((a1.1.1,a1.1.2.1,()),())).bind fun y3 =>
 y3.elim (fun a4 => bif a4.1.2.2.1 then
 some ((12,()),())
 else
 bif (a4.1.1.length:Int) != (a4.1.2.1.length:Int) then
 some ((8,()),())
 else
 some ((0,()),())) Empty.elim) Empty.elim
def u (l0 : Y145 → Option Y119) (l1 : Y145 → Option Y119) (x : Y145) := f l0 l1 x.1.1 x.1.2.1
section
variable (g0 : euclid_length.G) (g1 : euclid_samples.G) (l0 : A0) (l1 : A1)
def E : Env := ⟨T,cE [(98,[],euclid_length.fe g0),(99,[],euclid_samples.fe g1)],lE [LE.of s0 x0 l0,LE.of s1 x1 l1],29,0,Gt⟩
variable {g0 g1 l0 l1}
theorem e0 (L : A0) (x : s0.X) : rndO (E g0 g1 l0 l1) hs c s0 x0 0 false L x = u0 g0 x := by
 show _ = (_ : Option _)
 kernel_rfl
theorem e1 (L : A1) (x : s1.X) : rndO (E g0 g1 l0 l1) hs c s1 x1 1 false L x = u1 g1 x := by
 show _ = (_ : Option _)
 kernel_rfl
theorem e (x : sh.X) : bodO (E g0 g1 l0 l1) hs c Try.f91 sh osh x = u l0 l1 x := by
 show _ = (_ : Option _)
 kernel_rfl
end
noncomputable def L0 : Y145 → Option Y119 := u0 euclid_length.F
noncomputable def L1 : Y145 → Option Y119 := u1 euclid_samples.F
noncomputable def F : Y145 → Option Y164 := u L0 L1
noncomputable abbrev R : Env := E euclid_length.F euclid_samples.F L0 L1
theorem L0_eq (a b : List Int) : L0 ((a,b,()),()) = f0 euclid_length.F a b := rfl
theorem L1_eq (a b : List Int) : L1 ((a,b,()),()) = f1 euclid_samples.F a b := rfl
theorem F_eq (a b : List Int) : F ((a,b,()),()) = f L0 L1 a b := rfl
theorem ok {tabs} (ht : TabsOk tabs) : FOK Try.prog tabs 91 (fe F) :=
 fn_keep3 (E := R) (hs := hs) Try.func91 e pw tb (gt_ok ht) (by kernel_rfl) (by kernel_rfl) rfl ⟨euclid_length.ok ht,euclid_samples.ok ht,trivial⟩ 2 (by kernel_rfl) ⟨cA e0 (by kernel_rfl) (by kernel_rfl),cA e1 (by kernel_rfl) (by kernel_rfl),trivial⟩
end euclid_check
end Go.Proofs.Ytefcciajemkicaa.V
