import Derived.Test.YtefcciajemkicaaVgEnv
import Derived.WalkKit
set_option linter.unusedVariables false
set_option maxRecDepth 100000
namespace Go.Proofs.Ytefcciajemkicaa.V
open Go.VI
abbrev Y145 : Type := ((Unit) × (Unit))
abbrev Y144 : Type := (Int × (Int × Int))
abbrev Y143 : Type := ((Int × Unit) × (Unit))
abbrev Y142 : Type := ((Bool × Unit) × (Unit))
abbrev Y141 : Type := ((ByteArray × Unit) × (Unit))
abbrev Y140 : Type := ((Int × Int × Unit) × (Unit))
abbrev Y139 : Type := (((List Int) × Unit) × (Unit))
abbrev Y138 : Type := ((Unit) × ((List Int) × Unit))
abbrev Y137 : Type := (Y143 ⊕ Empty)
abbrev Y136 : Type := (Y142 ⊕ Empty)
abbrev Y135 : Type := ((Int × Int × Int × Unit) × (Unit))
abbrev Y134 : Type := (((List Int) × Int × Unit) × (Unit))
abbrev Y133 : Type := (((List Int) × Unit × Unit) × (Unit))
abbrev Y132 : Type := (((List (List Int)) × Unit) × (Unit))
abbrev Y131 : Type := (((Int × Int × Unit) × Unit) × (Unit))
abbrev Y130 : Type := (Y140 ⊕ Empty)
abbrev Y129 : Type := (Y138 ⊕ Empty)
abbrev Y128 : Type := ((Int × Int × Int × Int × Unit) × (Unit))
abbrev Y127 : Type := (((List Int) × Int × Int × Unit) × (Unit))
abbrev Y126 : Type := ((Int × Int × Int × Bool × Unit) × (Unit))
abbrev Y125 : Type := (((List (List Int)) × Int × Unit) × (Unit))
abbrev Y124 : Type := (((List Int) × (List Int) × Unit) × (Unit))
abbrev Y123 : Type := ((Unit × Int × Unit) × ((List Bool) × Unit))
abbrev Y122 : Type := (((Int × Int × Unit) × Int × Unit) × (Unit))
abbrev Y121 : Type := ((Unit) × ((Int × Int × Int × Unit) × Unit))
abbrev Y120 : Type := (((Int × Int × Int × Unit) × Unit) × (Unit))
abbrev Y119 : Type := ((Unit × Unit) × ((Int × Int × Unit) × Unit))
abbrev Y118 : Type := ((Int × Int × Int × Int × Int × Unit) × (Unit))
abbrev Y117 : Type := (((Unit × Unit) × ((List Bool) × Unit)) ⊕ Empty)
abbrev Y116 : Type := (((List Int) × Int × Int × Int × Unit) × (Unit))
abbrev Y115 : Type := (((List Int) × (List Int) × Int × Unit) × (Unit))
abbrev Y114 : Type := (((List Int) × Unit × Int × Int × Unit) × (Unit))
abbrev Y113 : Type := ((Int × Unit) × (((List Int) × Int × Unit) × Unit))
abbrev Y112 : Type := ((Unit × Unit) × ((Int × Int × Int × Unit) × Unit))
abbrev Y111 : Type := ((Unit × Unit) × (((List Int) × Int × Unit) × Unit))
abbrev Y110 : Type := (Y145 ⊕ Y143 ⊕ Empty)
abbrev Y109 : Type := (((Unit × Unit) × ((List (List Int)) × Unit)) ⊕ Empty)
abbrev Y108 : Type := (Y145 ⊕ Y142 ⊕ Empty)
abbrev Y107 : Type := ((Int × (List Int) × Int × Int × Int × Unit) × (Unit))
abbrev Y106 : Type := (((List Int) × (List Int) × Int × Int × Unit) × (Unit))
abbrev Y105 : Type := (((List (List Int)) × Int × Int × Int × Unit) × (Unit))
abbrev Y104 : Type := ((Int × Int × Unit × Unit) × ((Int × Int × Unit) × Unit))
abbrev Y103 : Type := ((Unit × Bool × Unit) × ((Int × Int × Int × Unit) × Unit))
abbrev Y102 : Type := ((Unit × Int × Unit) × (((List Int) × Int × Unit) × Unit))
abbrev Y101 : Type := (Y116 ⊕ Empty)
abbrev Y100 : Type := (((Int × Int × Int × Int × Bool × Unit) × (Unit)) ⊕ Empty)
abbrev Y99 : Type := (((Int × Int × Unit) × (Int × Int × Unit) × Unit) × (Unit))
abbrev Y98 : Type := ((((List Int) × (List Int) × Bool × Unit) × (Unit)) ⊕ Empty)
abbrev Y97 : Type := (((List Int) × Int × (List Int) × Int × Int × Unit) × (Unit))
abbrev Y96 : Type := (((List Int) × (List Int) × Int × Int × Int × Unit) × (Unit))
abbrev Y95 : Type := (Y112 ⊕ Empty)
abbrev Y94 : Type := ((Unit × Unit) × (((List Int) × Int × Unit) × (List Int) × Unit))
abbrev Y93 : Type := ((((List Int) × Int × Int × Int × Bool × Unit) × (Unit)) ⊕ Empty)
abbrev Y92 : Type := ((((List Int) × (List Int) × Int × Bool × Unit) × (Unit)) ⊕ Empty)
abbrev Y91 : Type := (((List Int) × (List Int) × Int × Int × Int × Int × Unit) × (Unit))
abbrev Y90 : Type := ((Int × (List Int) × (List Int) × Int × Int × Int × Unit) × (Unit))
abbrev Y89 : Type := (((Unit × Unit × Unit) × ((List Int) × (List Int) × Unit)) ⊕ Empty)
abbrev Y88 : Type := (Y103 ⊕ Empty)
abbrev Y87 : Type := (((List Int) × (Int × Int × Int × Unit) × Int × Int × Unit) × (Unit))
abbrev Y86 : Type := (((Int × Int × Int × Unit) × Int × Int × Int × Bool × Unit) × (Unit))
abbrev Y85 : Type := (((List Int) × Int × Unit × Int × Int × Unit) × ((List Bool) × Unit))
abbrev Y84 : Type := (((Int × Int × Int × Unit) × (List Int) × (List Int) × Unit) × (Unit))
abbrev Y83 : Type := (((Int × Int × Int × Unit) × (Int × Int × Int × Unit) × Unit) × (Unit))
abbrev Y82 : Type := (((Int × Int × Unit) × Int × Unit) × ((Int × Int × Int × Unit) × Unit))
abbrev Y81 : Type := (((Int × Int × Int × Unit) × Unit) × (((List Int) × Int × Unit) × Unit))
abbrev Y80 : Type := ((Unit × Unit × Unit) × ((Int × Int × Unit) × (Int × Int × Unit) × Unit))
abbrev Y79 : Type := (((List Int) × (List Int) × Int × Int × Int × Int × Int × Unit) × (Unit))
abbrev Y78 : Type := (((Int × Int × Unit × Bool × Unit) × ((Int × Int × Unit) × Unit)) ⊕ Empty)
abbrev Y77 : Type := (((Unit × Int × Bool × Unit) × (((List Int) × Int × Unit) × Unit)) ⊕ Empty)
abbrev Y76 : Type := (Y94 ⊕ Empty)
abbrev Y75 : Type := ((Unit × (List Int) × Int × Int × Unit) × ((Int × Int × Int × Unit) × Unit))
abbrev Y74 : Type := ((Int × Int × Int × Bool × Unit × Unit) × ((Int × Int × Int × Unit) × Unit))
abbrev Y73 : Type := (((List Int) × (List Int) × Unit × Unit) × ((Int × Int × Int × Unit) × Unit))
abbrev Y72 : Type := ((((List Int) × (List Int) × Int × Int × Int × Bool × Unit) × (Unit)) ⊕ Empty)
abbrev Y71 : Type := ((Unit × (Int × Int × Int × Unit) × Unit) × ((Int × Int × Int × Unit) × Unit))
abbrev Y70 : Type := ((((List (List Int)) × Int × Unit × Unit) × ((List (List Int)) × Unit)) ⊕ Empty)
abbrev Y69 : Type := (((List (List Int)) × Int × Unit × Int × Int × Unit) × ((List (List Int)) × Unit))
abbrev Y68 : Type := (((List Int) × (List Int) × Unit × Int × Int × Unit) × ((List (List Int)) × Unit))
abbrev Y67 : Type := (Y80 ⊕ Empty)
abbrev Y66 : Type := (((List Int) × (List Int) × Unit × Int × Int × Unit) × ((Int × Int × Unit) × Unit))
abbrev Y65 : Type := (((Int × (List Int) × (List Int) × Int × Int × Int × Bool × Unit) × (Unit)) ⊕ Empty)
abbrev Y64 : Type := ((Unit × Unit × Unit) × ((Int × Int × Int × Unit) × (Int × Int × Int × Unit) × Unit))
abbrev Y63 : Type := ((((List Int) × Unit × Unit) × ((List Int) × Unit)) ⊕ Y143 ⊕ Empty)
abbrev Y62 : Type := (((List Int) × (List Int) × Int × Int × Int × (List Int) × Int × Int × Unit) × (Unit))
abbrev Y61 : Type := (((Int × Int × Bool × Unit × Bool × Unit) × ((Int × Int × Int × Unit) × Unit)) ⊕ Empty)
abbrev Y60 : Type := ((Unit × (List Int) × (List Int) × (List Int) × Int × Int × Unit) × ((List Int) × Unit))
abbrev Y59 : Type := (((List Int) × (List Int) × Int × Unit × Int × Int × Unit) × ((List (List Int)) × Unit))
abbrev Y58 : Type := (((Unit × Unit × Bool × Unit) × ((Int × Int × Unit) × (Int × Int × Unit) × Unit)) ⊕ Empty)
abbrev Y57 : Type := ((Int × Int × Int × Unit × Unit × Unit) × ((Int × Int × Unit) × (Int × Int × Unit) × Unit))
abbrev Y56 : Type := (Y68 ⊕ Empty)
abbrev Y55 : Type := (Y69 ⊕ Empty)
abbrev Y54 : Type := (Y66 ⊕ Empty)
abbrev Y53 : Type := (((List Int) × (List Int) × Int × Unit × Unit × Int × Unit) × ((List Int) × (List Int) × Unit))
abbrev Y52 : Type := ((Unit × Int × Unit × Int × Int × Int × Unit) × (((List Int) × Int × Unit) × (List Int) × Unit))
abbrev Y51 : Type := (Y59 ⊕ Empty)
abbrev Y50 : Type := (((List (List Int)) × Int × Unit × Int × Int × Int × Int × Int × Unit) × ((List (List Int)) × Unit))
abbrev Y49 : Type := (((List Int) × (List Int) × Unit × Int × Int × Int × Int × Int × Unit) × ((List (List Int)) × Unit))
abbrev Y48 : Type := ((((List Int) × (List Int) × Unit × Int × Int × Bool × Unit) × ((Int × Int × Unit) × Unit)) ⊕ Empty)
abbrev Y47 : Type := ((Unit × (List Int) × (List Int) × (List Int) × Int × Int × Int × Int × Unit) × ((List Int) × Unit))
abbrev Y46 : Type := (((List Int) × (List Int) × Int × Unit × Unit × Int × Int × Unit) × ((List Int) × (List Int) × Unit))
abbrev Y45 : Type := (((Unit × Unit × Bool × Unit) × ((Int × Int × Int × Unit) × (Int × Int × Int × Unit) × Unit)) ⊕ Empty)
abbrev Y44 : Type := (Y53 ⊕ Empty)
abbrev Y43 : Type := (((List Int) × (List Int) × Int × Unit × Int × Int × Int × Int × Int × Unit) × ((List (List Int)) × Unit))
abbrev Y42 : Type := (((List Int) × (List Int) × Int × Int × Unit × Unit × Int × Int × Unit) × ((List Int) × (List Int) × Unit))
abbrev Y41 : Type := (((List Int) × (List Int) × Unit × Int × Int × (List Int) × Int × Int × Unit) × ((Int × Int × Unit) × Unit))
abbrev Y40 : Type := (((Int × Int × Int × Unit × Unit × Bool × Unit) × ((Int × Int × Unit) × (Int × Int × Unit) × Unit)) ⊕ Empty)
abbrev Y39 : Type := ((Unit × Int × Unit × Int × Int × Int × Int × Int × Unit) × (((List Int) × Int × Unit) × (List Int) × Unit))
abbrev Y38 : Type := (Y46 ⊕ Empty)
abbrev Y37 : Type := ((Unit × (List Int) × (List Int) × (List Int) × Int × Int × Int × Int × Int × Int × Unit) × ((List Int) × Unit))
abbrev Y36 : Type := (((Unit × Int × Unit × Int × Int × Int × Int × Unit) × (((List Int) × Int × Unit) × (List Int) × Unit)) ⊕ Empty)
abbrev Y35 : Type := (((List Int) × (List Int) × Int × Unit × Unit × Int × Int × Bool × Int × Unit) × ((List Int) × (List Int) × Unit))
abbrev Y34 : Type := ((Unit × Int × Unit × Int × Int × Int × Int × Int × Bool × Unit) × (((List Int) × Int × Unit) × (List Int) × Unit))
abbrev Y33 : Type := (((List Int) × (List Int) × Int × Unit × Int × Int × Int × Int × Int × Int × Int × Unit) × ((List (List Int)) × Unit))
abbrev Y32 : Type := ((Unit × (List Int) × (List Int) × (List Int) × Int × Int × Int × Int × Int × Int × Bool × Unit) × ((List Int) × Unit))
abbrev Y31 : Type := (Y37 ⊕ Empty)
abbrev Y30 : Type := (((List Int) × (List Int) × Int × Unit × Int × Int × Int × Int × Int × Int × Int × Bool × Unit) × ((List (List Int)) × Unit))
abbrev Y29 : Type := (Y33 ⊕ Empty)
abbrev Y28 : Type := (Y32 ⊕ Empty)
abbrev Y27 : Type := (Y30 ⊕ Empty)
abbrev Y26 : Type := (((List (List Int)) × Int × Unit × Unit × (Int × Int × Int × Int × Unit) × Int × Unit) × ((Int × Int × Unit) × (Int × Int × Unit) × Unit))
abbrev Y25 : Type := (((List Int) × (List Int) × Int × Unit × Unit × Int × Int × Bool × Int × Int × Int × Int × Bool × Unit) × ((List Int) × (List Int) × Unit))
abbrev Y24 : Type := (((Int × Int × Int × Int × Int × (List Y144) × (List Y144) × (List Y144) × Unit) × Unit) × (Unit))
abbrev Y23 : Type := (((Unit × Int × Unit) × ((Int × Int × Unit) × Unit)) ⊕ Y66 ⊕ Empty)
abbrev Y22 : Type := (Y25 ⊕ Empty)
abbrev Y21 : Type := ((Unit × Int × Unit) × ((Int × Int × Int × Int × Int × (List Y144) × (List Y144) × (List Y144) × Unit) × Unit))
abbrev Y20 : Type := ((Unit × Int × Int × Int × Unit) × ((Int × Int × Int × Int × Int × (List Y144) × (List Y144) × (List Y144) × Unit) × Unit))
abbrev Y19 : Type := (((Int × Int × Int × Int × Int × Unit × Unit × Unit × Unit) × Int × Unit) × ((List Y144) × (List Y144) × (List Y144) × Unit))
abbrev Y18 : Type := (((Unit × Int × Bool × Unit) × ((Int × Int × Int × Int × Int × (List Y144) × (List Y144) × (List Y144) × Unit) × Unit)) ⊕ Empty)
abbrev Y17 : Type := ((Unit × Int × Unit) × ((Int × Int × Int × Int × Int × Unit × Unit × Unit × Unit) × (List Y144) × (List Y144) × (List Y144) × Unit))
abbrev Y16 : Type := (((Unit × Int × Int × Int × Bool × Unit) × ((Int × Int × Int × Int × Int × (List Y144) × (List Y144) × (List Y144) × Unit) × Unit)) ⊕ Empty)
abbrev Y15 : Type := ((Unit × Int × Int × Unit × Int × Int × Unit) × ((Int × Int × Int × Int × Int × (List Y144) × (List Y144) × (List Y144) × Unit) × (Int × Int × Int × Unit) × Unit))
abbrev Y14 : Type := (((Unit × Unit × Unit) × ((Int × Int × Int × Int × Int × Unit × Unit × Unit × Unit) × (Int × Int × Int × Int × Int × Unit × Unit × Unit × Unit) × (List Y144) × (List Y144) × (List Y144) × Unit)) ⊕ Empty)
abbrev Y13 : Type := ((Unit × Unit × Int × Int × Unit) × ((Int × Int × Int × Int × Int × Unit × Unit × Unit × Unit) × (Int × Int × Int × Int × Int × Unit × Unit × Unit × Unit) × (List Y144) × (List Y144) × (List Y144) × Unit))
abbrev Y12 : Type := ((Unit × Unit × Int × Int × Unit × Unit × Int × Unit) × ((List Int) × (Int × Int × Int × Unit) × (Int × Int × Int × Int × Int × Unit × Unit × Unit × Unit) × (List Bool) × (List Y144) × (List Y144) × (List Y144) × Unit))
abbrev Y11 : Type := ((Unit × Unit × Int × Int × Unit × Int × Unit × Int × Unit) × ((List Int) × (Int × Int × Int × Unit) × (Int × Int × Int × Int × Int × Unit × Unit × Unit × Unit) × (List Bool) × (List Y144) × (List Y144) × (List Y144) × Unit))
abbrev Y10 : Type := (((Unit × Unit × Int × Int × Unit × Unit × Bool × Unit) × ((List Int) × (Int × Int × Int × Unit) × (Int × Int × Int × Int × Int × Unit × Unit × Unit × Unit) × (List Bool) × (List Y144) × (List Y144) × (List Y144) × Unit)) ⊕ Empty)
abbrev Y9 : Type := ((Unit × Unit × Int × Int × Unit × Unit × Int × Bool × Int × Unit) × ((List Int) × (Int × Int × Int × Unit) × (Int × Int × Int × Int × Int × Unit × Unit × Unit × Unit) × (List Bool) × (List Y144) × (List Y144) × (List Y144) × Unit))
abbrev Y8 : Type := (((Unit × Unit × Int × Int × Unit × Unit × Int × Bool × Int × Bool × Unit) × ((List Int) × (Int × Int × Int × Unit) × (Int × Int × Int × Int × Int × Unit × Unit × Unit × Unit) × (List Bool) × (List Y144) × (List Y144) × (List Y144) × Unit)) ⊕ Empty)
abbrev Y7 : Type := (((Unit × Unit × Int × Int × Unit × Unit × Int × Bool × Unit) × ((List Int) × (Int × Int × Int × Unit) × (Int × Int × Int × Int × Int × Unit × Unit × Unit × Unit) × (List Bool) × (List Y144) × (List Y144) × (List Y144) × Unit)) ⊕ Y142 ⊕ Empty)
abbrev Y6 : Type := ((Unit × Unit × Int × Int × Unit × Unit × Int × Bool × Int × Int × Unit × Unit) × ((List Int) × (Int × Int × Int × Unit) × (Int × Int × Int × Int × Int × Unit × Unit × Unit × Unit) × (List Bool) × (Int × Int × Int × Unit) × (List Y144) × (List Y144) × (List Y144) × Unit))
abbrev Y5 : Type := ((((List Int) × Int × Int × Unit × Unit × Unit × Unit × Unit) × ((Int × Int × Int × Unit) × (Int × Int × Int × Int × Int × Unit × Unit × Unit × Unit) × (List Bool) × (Int × Int × Int × Int × Int × Unit × Unit × Unit × Unit) × (List Y144) × (List Y144) × (List Y144) × Unit)) ⊕ Empty)
abbrev Y4 : Type := (((List Int) × Int × Int × Unit × Unit × Unit × Unit × Int × Int × Unit) × ((Int × Int × Int × Unit) × (Int × Int × Int × Int × Int × Unit × Unit × Unit × Unit) × (List Bool) × (Int × Int × Int × Int × Int × Unit × Unit × Unit × Unit) × (List Y144) × (List Y144) × (List Y144) × Unit))
abbrev Y3 : Type := (((List Int) × Int × Int × Unit × Unit × Unit × Unit × Int × Int × Int × Int × Unit) × ((Int × Int × Int × Unit) × (Int × Int × Int × Int × Int × Unit × Unit × Unit × Unit) × (List Bool) × (Int × Int × Int × Int × Int × Unit × Unit × Unit × Unit) × (List Y144) × (List Y144) × (List Y144) × Unit))
abbrev Y2 : Type := ((((List Int) × Int × Int × Unit × Unit × Unit × Unit × Int × Int × Int × Int × Bool × Unit) × ((Int × Int × Int × Unit) × (Int × Int × Int × Int × Int × Unit × Unit × Unit × Unit) × (List Bool) × (Int × Int × Int × Int × Int × Unit × Unit × Unit × Unit) × (List Y144) × (List Y144) × (List Y144) × Unit)) ⊕ Empty)
abbrev Y1 : Type := (((Unit × Unit × Unit × Unit) × ((Int × Int × Int × Int × Int × Unit × Unit × Unit × Unit) × (List Bool) × (Int × Int × Int × Int × Int × Unit × Unit × Unit × Unit) × (List Y144) × (List Y144) × (List Y144) × Unit)) ⊕ ((Unit × Int × Unit) × ((Int × Int × Int × Int × Int × Unit × Unit × Unit × Unit) × Unit)) ⊕ Empty)
abbrev Y0 : Type := (Y4 ⊕ ((Unit × Int × Unit) × ((Int × Int × Int × Int × Int × Unit × Unit × Unit × Unit) × Unit)) ⊕ Empty)

/-! second_Few -/
def second_Few.f (l : List Int) : Option Y142 :=
  (some (((decide ((((List.length l) : Nat) : Int) ≤ (400:Int))), ()), ()))
theorem second_Few.eq (x : second_Few.sh.X) : bodO (second_Few.E) second_Few.hs second_Few.c Try.f8 second_Few.sh second_Few.osh x = second_Few.f x.1.1 := by
  show _ = (_ : Option _)
  kernel_rfl
noncomputable def second_Few (l : List Int) : Option Y142 := second_Few.f l
noncomputable def second_Few.F (x : Y139) : Option Y142 := second_Few x.1.1
theorem second_Few.F_eq (l : List Int) : second_Few.F ((l, ()), ()) = second_Few.f l := rfl
theorem second_Few.ok {tabs : List (Nat × Go.Obj)} (ht : TabsOk tabs) : FOK Try.prog tabs 8 (second_Few.fe second_Few.F) := by
  refine fn_keep2 Try.func8 (second_Few.eq) pw tb (gt_ok ht) (by kernel_rfl) (by kernel_rfl) (fun g ks fe h => ?_) ?_
  · cases h
  · exact known_at 0 (by kernel_rfl) fun i hi => absurd hi (Nat.not_lt_zero i)

/-! measure_name -/
def measure_name.f (kind : Int) : Option Y141 :=
  (bif (kind == (1:Int)) then
 (some (((ByteArray.mk #[(101:UInt8), (117:UInt8), (99:UInt8), (108:UInt8), (105:UInt8), (100:UInt8)]), ()), ()))
 else
 (bif (kind == (2:Int)) then
 (some (((ByteArray.mk #[(115:UInt8), (104:UInt8), (105:UInt8), (102:UInt8), (116:UInt8), (101:UInt8), (100:UInt8)]), ()), ()))
 else
 (bif (kind == (3:Int)) then
 (some (((ByteArray.mk #[(110:UInt8), (111:UInt8), (114:UInt8), (109:UInt8), (97:UInt8), (108:UInt8)]), ()), ()))
 else
 (bif (kind == (4:Int)) then
 (some (((ByteArray.mk #[(119:UInt8), (97:UInt8), (114:UInt8), (112:UInt8)]), ()), ()))
 else
 (bif (kind == (5:Int)) then
 (some (((ByteArray.mk #[(101:UInt8), (100:UInt8), (105:UInt8), (116:UInt8)]), ()), ()))
 else
 (some (((ByteArray.mk #[]), ()), ())))))))
theorem measure_name.eq (x : measure_name.sh.X) : bodO (measure_name.E) measure_name.hs measure_name.c Try.f51 measure_name.sh measure_name.osh x = measure_name.f x.1.1 := by
  show _ = (_ : Option _)
  kernel_rfl
noncomputable def measure_name (kind : Int) : Option Y141 := measure_name.f kind
noncomputable def measure_name.F (x : Y143) : Option Y141 := measure_name x.1.1
theorem measure_name.F_eq (kind : Int) : measure_name.F ((kind, ()), ()) = measure_name.f kind := rfl
theorem measure_name.ok {tabs : List (Nat × Go.Obj)} (ht : TabsOk tabs) : FOK Try.prog tabs 51 (measure_name.fe measure_name.F) := by
  refine fn_keep2 Try.func51 (measure_name.eq) pw tb (gt_ok ht) (by kernel_rfl) (by kernel_rfl) (fun g ks fe h => ?_) ?_
  · cases h
  · exact known_at 0 (by kernel_rfl) fun i hi => absurd hi (Nat.not_lt_zero i)

/-! measure_Check -/
def measure_Check.f1 (o0_0 o0_1 o0_2 : Int) : Option Y88 :=
  (bif (decide (o0_1 < (0:Int))) then
 (some (Sum.inl (((), (Bool.true, ())), ((o0_0, (o0_1, (o0_2, ()))), ()))))
 else
 (bif (decide (o0_1 > (32:Int))) then
 (some (Sum.inl (((), (Bool.true, ())), ((o0_0, (o0_1, (o0_2, ()))), ()))))
 else
 (bif (o0_1 != (0:Int)) then
 (some (Sum.inl (((), ((o0_0 != (4:Int)), ())), ((o0_0, (o0_1, (o0_2, ()))), ()))))
 else
 (some (Sum.inl (((), (Bool.false, ())), ((o0_0, (o0_1, (o0_2, ()))), ())))))))
theorem measure_Check.eq1 (g_measure_name : measure_name.G) (l0 : measure_Check.A0) (l1 : measure_Check.A1) (l2 : measure_Check.A2) (L : measure_Check.A1) (x : measure_Check.s1.X) : rndO (measure_Check.E g_measure_name l0 l1 l2) measure_Check.hs measure_Check.c measure_Check.s1 measure_Check.x1 1 false L x = measure_Check.f1 x.2.1.1 x.2.1.2.1 x.2.1.2.2.1 := by
  show _ = (_ : Option _)
  kernel_rfl
noncomputable def measure_Check.L1 : Y112 → Option Y88 := fun x => measure_Check.f1 x.2.1.1 x.2.1.2.1 x.2.1.2.2.1
def measure_Check.f2 (v3 : Bool) (o0_0 o0_1 o0_2 : Int) : Option Y136 :=
  (bif v3 then
 (some (Sum.inl ((v3, ()), ())))
 else
 (bif (decide (o0_2 < (-(1000:Int)))) then
 (some (Sum.inl ((Bool.true, ()), ())))
 else
 (bif (decide (o0_2 > (1000:Int))) then
 (some (Sum.inl ((Bool.true, ()), ())))
 else
 (bif (o0_2 != (0:Int)) then
 (some (Sum.inl (((o0_0 != (5:Int)), ()), ())))
 else
 (some (Sum.inl ((Bool.false, ()), ())))))))
theorem measure_Check.eq2 (g_measure_name : measure_name.G) (l0 : measure_Check.A0) (l1 : measure_Check.A1) (l2 : measure_Check.A2) (L : measure_Check.A2) (x : measure_Check.s2.X) : rndO (measure_Check.E g_measure_name l0 l1 l2) measure_Check.hs measure_Check.c measure_Check.s2 measure_Check.x2 2 false L x = measure_Check.f2 x.1.2.1 x.2.1.1 x.2.1.2.1 x.2.1.2.2.1 := by
  show _ = (_ : Option _)
  kernel_rfl
noncomputable def measure_Check.L2 : Y103 → Option Y136 := fun x => measure_Check.f2 x.1.2.1 x.2.1.1 x.2.1.2.1 x.2.1.2.2.1
def measure_Check.f0 (l1 : Y112 → Option Y88) (l2 : Y103 → Option Y136) (v3 : Bool) (o0_0 o0_1 o0_2 : Int) : Option Y136 :=
  (bif v3 then
 (some (Sum.inl ((v3, ()), ())))
 else
 (Option.bind (l1 (((), ()), ((o0_0, (o0_1, (o0_2, ()))), ()))) (fun y1 =>
 (Sum.elim (fun a2 =>
 (Option.bind (l2 (((), (a2.1.2.1, ())), ((a2.2.1.1, (a2.2.1.2.1, (a2.2.1.2.2.1, ()))), ()))) (fun y3 =>
 (Sum.elim (fun a4 =>
 (some (Sum.inl ((a4.1.1, ()), ())))) (fun b4 =>
 (Empty.elim b4)) y3)))) (fun b2 =>
 (Empty.elim b2)) y1))))
theorem measure_Check.eq0 (g_measure_name : measure_name.G) (l0 : measure_Check.A0) (l1 : measure_Check.A1) (l2 : measure_Check.A2) (L : measure_Check.A0) (x : measure_Check.s0.X) : rndO (measure_Check.E g_measure_name l0 l1 l2) measure_Check.hs measure_Check.c measure_Check.s0 measure_Check.x0 0 false L x = measure_Check.f0 l1 l2 x.1.2.1 x.2.1.1 x.2.1.2.1 x.2.1.2.2.1 := by
  show _ = (_ : Option _)
  kernel_rfl
noncomputable def measure_Check.L0 : Y103 → Option Y136 := fun x => measure_Check.f0 measure_Check.L1 measure_Check.L2 x.1.2.1 x.2.1.1 x.2.1.2.1 x.2.1.2.2.1
def measure_Check.f (g_measure_name : Y143 → Option Y141) (l0 : Y103 → Option Y136) (m_Kind m_Band m_Gap : Int) : Option Y143 :=
  (Option.bind (g_measure_name ((m_Kind, ()), ())) (fun y0 =>
 (Option.bind (l0 (((), (((ByteArray.toList y0.1.1) == (ByteArray.toList (ByteArray.mk #[]))), ())), ((m_Kind, (m_Band, (m_Gap, ()))), ()))) (fun y1 =>
 (Sum.elim (fun a2 =>
 (bif a2.1.1 then
 (some (((9:Int), ()), ()))
 else
 (some (((0:Int), ()), ())))) (fun b2 =>
 (Empty.elim b2)) y1)))))
theorem measure_Check.eq (g_measure_name : measure_name.G) (l0 : measure_Check.A0) (l1 : measure_Check.A1) (l2 : measure_Check.A2) (x : measure_Check.sh.X) : bodO (measure_Check.E g_measure_name l0 l1 l2) measure_Check.hs measure_Check.c Try.f27 measure_Check.sh measure_Check.osh x = measure_Check.f g_measure_name l0 x.1.1.1 x.1.1.2.1 x.1.1.2.2.1 := by
  show _ = (_ : Option _)
  kernel_rfl
noncomputable def measure_Check (m_Kind m_Band m_Gap : Int) : Option Y143 := measure_Check.f measure_name.F measure_Check.L0 m_Kind m_Band m_Gap
noncomputable def measure_Check.F (x : Y120) : Option Y143 := measure_Check x.1.1.1 x.1.1.2.1 x.1.1.2.2.1
theorem measure_Check.L0_eq (v3 : Bool) (o0_0 o0_1 o0_2 : Int) : measure_Check.L0 (((), v3, ()), ((o0_0, o0_1, o0_2, ()), ())) = measure_Check.f0 measure_Check.L1 measure_Check.L2 v3 o0_0 o0_1 o0_2 := rfl
theorem measure_Check.L1_eq (o0_0 o0_1 o0_2 : Int) : measure_Check.L1 (((), ()), ((o0_0, o0_1, o0_2, ()), ())) = measure_Check.f1 o0_0 o0_1 o0_2 := rfl
theorem measure_Check.L2_eq (v3 : Bool) (o0_0 o0_1 o0_2 : Int) : measure_Check.L2 (((), v3, ()), ((o0_0, o0_1, o0_2, ()), ())) = measure_Check.f2 v3 o0_0 o0_1 o0_2 := rfl
theorem measure_Check.F_eq (m_Kind m_Band m_Gap : Int) : measure_Check.F (((m_Kind, m_Band, m_Gap, ()), ()), ()) = measure_Check.f measure_name.F measure_Check.L0 m_Kind m_Band m_Gap := rfl
theorem measure_Check.ok {tabs : List (Nat × Go.Obj)} (ht : TabsOk tabs) : FOK Try.prog tabs 27 (measure_Check.fe measure_Check.F) := by
  refine fn_keep2 Try.func27 (measure_Check.eq measure_name.F measure_Check.L0 measure_Check.L1 measure_Check.L2) pw tb (gt_ok ht) (by kernel_rfl) (by kernel_rfl) (fun g ks fe h => ?_) ?_
  · rcases c_cons h with ⟨rfl, rfl⟩ | h
    · exact measure_name.ok ht
    cases h
  · refine known_at 3 (by kernel_rfl) fun i hi => ?_
    match i, hi with
    | 0, _ => exact atomH (cut_ok (es := measure_Check.x0) rfl (measure_Check.eq0 measure_name.F measure_Check.L0 measure_Check.L1 measure_Check.L2)) (by kernel_rfl)
    | 1, _ => exact atomH (cut_ok (es := measure_Check.x1) rfl (measure_Check.eq1 measure_name.F measure_Check.L0 measure_Check.L1 measure_Check.L2)) (by kernel_rfl)
    | 2, _ => exact atomH (cut_ok (es := measure_Check.x2) rfl (measure_Check.eq2 measure_name.F measure_Check.L0 measure_Check.L1 measure_Check.L2)) (by kernel_rfl)
    | n + 3, h => exact absurd h (by omega)

/-! profile_Sample -/
def profile_Sample.f (n : Int) : Option Y142 :=
  (bif (n == (1073741824:Int)) then
 (some ((Bool.true, ()), ()))
 else
 (bif (decide (n ≥ (-(1000:Int)))) then
 (some (((decide (n ≤ (1000:Int))), ()), ()))
 else
 (some ((Bool.false, ()), ()))))
theorem profile_Sample.eq (x : profile_Sample.sh.X) : bodO (profile_Sample.E) profile_Sample.hs profile_Sample.c Try.f40 profile_Sample.sh profile_Sample.osh x = profile_Sample.f x.1.1 := by
  show _ = (_ : Option _)
  kernel_rfl
noncomputable def profile_Sample (n : Int) : Option Y142 := profile_Sample.f n
noncomputable def profile_Sample.F (x : Y143) : Option Y142 := profile_Sample x.1.1
theorem profile_Sample.F_eq (n : Int) : profile_Sample.F ((n, ()), ()) = profile_Sample.f n := rfl
theorem profile_Sample.ok {tabs : List (Nat × Go.Obj)} (ht : TabsOk tabs) : FOK Try.prog tabs 40 (profile_Sample.fe profile_Sample.F) := by
  refine fn_keep2 Try.func40 (profile_Sample.eq) pw tb (gt_ok ht) (by kernel_rfl) (by kernel_rfl) (fun g ks fe h => ?_) ?_
  · cases h
  · exact known_at 0 (by kernel_rfl) fun i hi => absurd hi (Nat.not_lt_zero i)

/-! profile_Windows_1 -/
def profile_Windows_1.f (g_profile_Sample : Y143 → Option Y142) (n : Int) : Option Y142 :=
  (Option.bind (g_profile_Sample ((n, ()), ())) (fun y0 =>
 (some (((!y0.1.1), ()), ()))))
theorem profile_Windows_1.eq (g_profile_Sample : profile_Sample.G) (x : profile_Windows_1.sh.X) : bodO (profile_Windows_1.E g_profile_Sample) profile_Windows_1.hs profile_Windows_1.c Try.f39 profile_Windows_1.sh profile_Windows_1.osh x = profile_Windows_1.f g_profile_Sample x.1.1 := by
  show _ = (_ : Option _)
  kernel_rfl
noncomputable def profile_Windows_1 (n : Int) : Option Y142 := profile_Windows_1.f profile_Sample.F n
noncomputable def profile_Windows_1.F (x : Y143) : Option Y142 := profile_Windows_1 x.1.1
theorem profile_Windows_1.F_eq (n : Int) : profile_Windows_1.F ((n, ()), ()) = profile_Windows_1.f profile_Sample.F n := rfl
theorem profile_Windows_1.ok {tabs : List (Nat × Go.Obj)} (ht : TabsOk tabs) : FOK Try.prog tabs 39 (profile_Windows_1.fe profile_Windows_1.F) := by
  refine fn_keep2 Try.func39 (profile_Windows_1.eq profile_Sample.F) pw tb (gt_ok ht) (by kernel_rfl) (by kernel_rfl) (fun g ks fe h => ?_) ?_
  · rcases c_cons h with ⟨rfl, rfl⟩ | h
    · exact profile_Sample.ok ht
    cases h
  · exact known_at 0 (by kernel_rfl) fun i hi => absurd hi (Nat.not_lt_zero i)

/-! slices_IndexFunc -/
def slices_IndexFunc.f0 (g_profile_Windows_1 : Y143 → Option Y142) (L : Y114 → Option Y110) (s_0 : List Int) (v7 v8 : Int) : Option Y110 :=
  (bif (decide (v8 < v7)) then
 (bif (decide ((0:Int) ≤ v8)) then
 (bif (decide (v8 < (((List.length s_0) : Nat) : Int))) then
 (Option.bind (g_profile_Windows_1 (((List.getD s_0 (Int.toNat v8) (0:Int)), ()), ())) (fun y3 =>
 (bif y3.1.1 then
 (some (Sum.inr (Sum.inl ((v8, ()), ()))))
 else
 (Option.bind (L ((s_0, ((), (v7, ((Go.IntKind.wrap Go.IntKind.i64 (v8 + (1:Int))), ())))), ())) (fun y5 =>
 (some y5))))))
 else
 none)
 else
 none)
 else
 (some (Sum.inl ((), ()))))
theorem slices_IndexFunc.eq0 (g_profile_Windows_1 : profile_Windows_1.G) (l0 : slices_IndexFunc.A0) (L : slices_IndexFunc.A0) (x : slices_IndexFunc.s0.X) : rndO (slices_IndexFunc.E g_profile_Windows_1 l0) slices_IndexFunc.hs slices_IndexFunc.c slices_IndexFunc.s0 slices_IndexFunc.x0 0 true L x = slices_IndexFunc.f0 g_profile_Windows_1 L x.1.1 x.1.2.2.1 x.1.2.2.2.1 := by
  show _ = (_ : Option _)
  kernel_rfl
noncomputable def slices_IndexFunc.L0 : Y114 → Option Y110 := loop fun L x => slices_IndexFunc.f0 profile_Windows_1.F L x.1.1 x.1.2.2.1 x.1.2.2.2.1
def slices_IndexFunc.f (l0 : Y114 → Option Y110) (s : List Int) : Option Y143 :=
  (Option.bind (l0 ((s, ((), ((((List.length s) : Nat) : Int), ((0:Int), ())))), ())) (fun y0 =>
 (Sum.elim (fun a1 =>
 (some (((-(1:Int)), ()), ()))) (fun b1 =>
 (Sum.elim (fun a2 =>
 (some ((a2.1.1, ()), ()))) (fun b2 =>
 (Empty.elim b2)) b1)) y0)))
theorem slices_IndexFunc.eq (g_profile_Windows_1 : profile_Windows_1.G) (l0 : slices_IndexFunc.A0) (x : slices_IndexFunc.sh.X) : bodO (slices_IndexFunc.E g_profile_Windows_1 l0) slices_IndexFunc.hs slices_IndexFunc.c Try.f57 slices_IndexFunc.sh slices_IndexFunc.osh x = slices_IndexFunc.f l0 x.1.1 := by
  show _ = (_ : Option _)
  kernel_rfl
noncomputable def slices_IndexFunc (s : List Int) : Option Y143 := slices_IndexFunc.f slices_IndexFunc.L0 s
noncomputable def slices_IndexFunc.F (x : Y133) : Option Y143 := slices_IndexFunc x.1.1
theorem slices_IndexFunc.L0_eq (s_0 : List Int) (v7 v8 : Int) : slices_IndexFunc.L0 ((s_0, (), v7, v8, ()), ()) = slices_IndexFunc.f0 profile_Windows_1.F slices_IndexFunc.L0 s_0 v7 v8 :=
  loop_eq (E := (slices_IndexFunc.E profile_Windows_1.F slices_IndexFunc.L0)) (sh := slices_IndexFunc.s0) (es := slices_IndexFunc.x0) (lp := true) (H := fun L x => slices_IndexFunc.eq0 profile_Windows_1.F slices_IndexFunc.L0 L x) ((s_0, (), v7, v8, ()), ())
theorem slices_IndexFunc.F_eq (s : List Int) : slices_IndexFunc.F ((s, (), ()), ()) = slices_IndexFunc.f slices_IndexFunc.L0 s := rfl
theorem slices_IndexFunc.ok {tabs : List (Nat × Go.Obj)} (ht : TabsOk tabs) : FOK Try.prog tabs 57 (slices_IndexFunc.fe slices_IndexFunc.F) := by
  refine fn_keep2 Try.func57 (slices_IndexFunc.eq profile_Windows_1.F slices_IndexFunc.L0) pw tb (gt_ok ht) (by kernel_rfl) (by kernel_rfl) (fun g ks fe h => ?_) ?_
  · rcases c_cons h with ⟨rfl, rfl⟩ | h
    · exact profile_Windows_1.ok ht
    cases h
  · refine known_at 1 (by kernel_rfl) fun i hi => ?_
    match i, hi with
    | 0, _ => exact atomH (loop_ok (es := slices_IndexFunc.x0) rfl (slices_IndexFunc.eq0 profile_Windows_1.F slices_IndexFunc.L0)) (by kernel_rfl)
    | n + 1, h => exact absurd h (by omega)

/-! slices_ContainsFunc -/
def slices_ContainsFunc.f (g_slices_IndexFunc : Y133 → Option Y143) (s : List Int) : Option Y142 :=
  (Option.bind (g_slices_IndexFunc ((s, ((), ())), ())) (fun y0 =>
 (some (((decide (y0.1.1 ≥ (0:Int))), ()), ()))))
theorem slices_ContainsFunc.eq (g_slices_IndexFunc : slices_IndexFunc.G) (x : slices_ContainsFunc.sh.X) : bodO (slices_ContainsFunc.E g_slices_IndexFunc) slices_ContainsFunc.hs slices_ContainsFunc.c Try.f38 slices_ContainsFunc.sh slices_ContainsFunc.osh x = slices_ContainsFunc.f g_slices_IndexFunc x.1.1 := by
  show _ = (_ : Option _)
  kernel_rfl
noncomputable def slices_ContainsFunc (s : List Int) : Option Y142 := slices_ContainsFunc.f slices_IndexFunc.F s
noncomputable def slices_ContainsFunc.F (x : Y133) : Option Y142 := slices_ContainsFunc x.1.1
theorem slices_ContainsFunc.F_eq (s : List Int) : slices_ContainsFunc.F ((s, (), ()), ()) = slices_ContainsFunc.f slices_IndexFunc.F s := rfl
theorem slices_ContainsFunc.ok {tabs : List (Nat × Go.Obj)} (ht : TabsOk tabs) : FOK Try.prog tabs 38 (slices_ContainsFunc.fe slices_ContainsFunc.F) := by
  refine fn_keep2 Try.func38 (slices_ContainsFunc.eq slices_IndexFunc.F) pw tb (gt_ok ht) (by kernel_rfl) (by kernel_rfl) (fun g ks fe h => ?_) ?_
  · rcases c_cons h with ⟨rfl, rfl⟩ | h
    · exact slices_IndexFunc.ok ht
    cases h
  · exact known_at 0 (by kernel_rfl) fun i hi => absurd hi (Nat.not_lt_zero i)

/-! profile_Length -/
def profile_Length.f (n : Int) : Option Y142 :=
  (bif (decide (n ≥ (2:Int))) then
 (some (((decide (n ≤ (32:Int))), ()), ()))
 else
 (some ((Bool.false, ()), ())))
theorem profile_Length.eq (x : profile_Length.sh.X) : bodO (profile_Length.E) profile_Length.hs profile_Length.c Try.f28 profile_Length.sh profile_Length.osh x = profile_Length.f x.1.1 := by
  show _ = (_ : Option _)
  kernel_rfl
noncomputable def profile_Length (n : Int) : Option Y142 := profile_Length.f n
noncomputable def profile_Length.F (x : Y143) : Option Y142 := profile_Length x.1.1
theorem profile_Length.F_eq (n : Int) : profile_Length.F ((n, ()), ()) = profile_Length.f n := rfl
theorem profile_Length.ok {tabs : List (Nat × Go.Obj)} (ht : TabsOk tabs) : FOK Try.prog tabs 28 (profile_Length.fe profile_Length.F) := by
  refine fn_keep2 Try.func28 (profile_Length.eq) pw tb (gt_ok ht) (by kernel_rfl) (by kernel_rfl) (fun g ks fe h => ?_) ?_
  · cases h
  · exact known_at 0 (by kernel_rfl) fun i hi => absurd hi (Nat.not_lt_zero i)

/-! slices_Index -/
def slices_Index.f0 (L : Y116 → Option Y110) (s_0 : List Int) (v_1 v7 v8 : Int) : Option Y110 :=
  (bif (decide (v8 < v7)) then
 (bif (decide ((0:Int) ≤ v8)) then
 (bif (decide (v8 < (((List.length s_0) : Nat) : Int))) then
 (bif (v_1 == (List.getD s_0 (Int.toNat v8) (0:Int))) then
 (some (Sum.inr (Sum.inl ((v8, ()), ()))))
 else
 (Option.bind (L ((s_0, (v_1, (v7, ((Go.IntKind.wrap Go.IntKind.i64 (v8 + (1:Int))), ())))), ())) (fun y4 =>
 (some y4))))
 else
 none)
 else
 none)
 else
 (some (Sum.inl ((), ()))))
theorem slices_Index.eq0 (l0 : slices_Index.A0) (L : slices_Index.A0) (x : slices_Index.s0.X) : rndO (slices_Index.E l0) slices_Index.hs slices_Index.c slices_Index.s0 slices_Index.x0 0 true L x = slices_Index.f0 L x.1.1 x.1.2.1 x.1.2.2.1 x.1.2.2.2.1 := by
  show _ = (_ : Option _)
  kernel_rfl
noncomputable def slices_Index.L0 : Y116 → Option Y110 := loop fun L x => slices_Index.f0 L x.1.1 x.1.2.1 x.1.2.2.1 x.1.2.2.2.1
def slices_Index.f (l0 : Y116 → Option Y110) (s : List Int) (v : Int) : Option Y143 :=
  (Option.bind (l0 ((s, (v, ((((List.length s) : Nat) : Int), ((0:Int), ())))), ())) (fun y0 =>
 (Sum.elim (fun a1 =>
 (some (((-(1:Int)), ()), ()))) (fun b1 =>
 (Sum.elim (fun a2 =>
 (some ((a2.1.1, ()), ()))) (fun b2 =>
 (Empty.elim b2)) b1)) y0)))
theorem slices_Index.eq (l0 : slices_Index.A0) (x : slices_Index.sh.X) : bodO (slices_Index.E l0) slices_Index.hs slices_Index.c Try.f58 slices_Index.sh slices_Index.osh x = slices_Index.f l0 x.1.1 x.1.2.1 := by
  show _ = (_ : Option _)
  kernel_rfl
noncomputable def slices_Index (s : List Int) (v : Int) : Option Y143 := slices_Index.f slices_Index.L0 s v
noncomputable def slices_Index.F (x : Y134) : Option Y143 := slices_Index x.1.1 x.1.2.1
theorem slices_Index.L0_eq (s_0 : List Int) (v_1 v7 v8 : Int) : slices_Index.L0 ((s_0, v_1, v7, v8, ()), ()) = slices_Index.f0 slices_Index.L0 s_0 v_1 v7 v8 :=
  loop_eq (E := (slices_Index.E slices_Index.L0)) (sh := slices_Index.s0) (es := slices_Index.x0) (lp := true) (H := fun L x => slices_Index.eq0 slices_Index.L0 L x) ((s_0, v_1, v7, v8, ()), ())
theorem slices_Index.F_eq (s : List Int) (v : Int) : slices_Index.F ((s, v, ()), ()) = slices_Index.f slices_Index.L0 s v := rfl
theorem slices_Index.ok {tabs : List (Nat × Go.Obj)} (ht : TabsOk tabs) : FOK Try.prog tabs 58 (slices_Index.fe slices_Index.F) := by
  refine fn_keep2 Try.func58 (slices_Index.eq slices_Index.L0) pw tb (gt_ok ht) (by kernel_rfl) (by kernel_rfl) (fun g ks fe h => ?_) ?_
  · cases h
  · refine known_at 1 (by kernel_rfl) fun i hi => ?_
    match i, hi with
    | 0, _ => exact atomH (loop_ok (es := slices_Index.x0) rfl (slices_Index.eq0 slices_Index.L0)) (by kernel_rfl)
    | n + 1, h => exact absurd h (by omega)

/-! slices_Contains -/
def slices_Contains.f (g_slices_Index : Y134 → Option Y143) (s : List Int) (v : Int) : Option Y142 :=
  (Option.bind (g_slices_Index ((s, (v, ())), ())) (fun y0 =>
 (some (((decide (y0.1.1 ≥ (0:Int))), ()), ()))))
theorem slices_Contains.eq (g_slices_Index : slices_Index.G) (x : slices_Contains.sh.X) : bodO (slices_Contains.E g_slices_Index) slices_Contains.hs slices_Contains.c Try.f41 slices_Contains.sh slices_Contains.osh x = slices_Contains.f g_slices_Index x.1.1 x.1.2.1 := by
  show _ = (_ : Option _)
  kernel_rfl
noncomputable def slices_Contains (s : List Int) (v : Int) : Option Y142 := slices_Contains.f slices_Index.F s v
noncomputable def slices_Contains.F (x : Y134) : Option Y142 := slices_Contains x.1.1 x.1.2.1
theorem slices_Contains.F_eq (s : List Int) (v : Int) : slices_Contains.F ((s, v, ()), ()) = slices_Contains.f slices_Index.F s v := rfl
theorem slices_Contains.ok {tabs : List (Nat × Go.Obj)} (ht : TabsOk tabs) : FOK Try.prog tabs 41 (slices_Contains.fe slices_Contains.F) := by
  refine fn_keep2 Try.func41 (slices_Contains.eq slices_Index.F) pw tb (gt_ok ht) (by kernel_rfl) (by kernel_rfl) (fun g ks fe h => ?_) ?_
  · rcases c_cons h with ⟨rfl, rfl⟩ | h
    · exact slices_Index.ok ht
    cases h
  · exact known_at 0 (by kernel_rfl) fun i hi => absurd hi (Nat.not_lt_zero i)

/-! profile_Windows -/
def profile_Windows.f0 (g_slices_Contains : Y134 → Option Y142) (L : Y85 → Option Y117) (l_0 : List Int) (length_1 v27 v28 : Int) (o0 : List Bool) : Option Y117 :=
  (bif (decide (v28 < v27)) then
 (bif (decide ((0:Int) ≤ v28)) then
 (bif (decide (v28 ≤ (Go.IntKind.wrap Go.IntKind.i64 (v28 + length_1)))) then
 (bif (decide ((Go.IntKind.wrap Go.IntKind.i64 (v28 + length_1)) ≤ (((List.length l_0) : Nat) : Int))) then
 (Option.bind (g_slices_Contains (((List.drop (Int.toNat v28) (List.take (Int.toNat (Go.IntKind.wrap Go.IntKind.i64 (v28 + length_1))) l_0)), ((1073741824:Int), ())), ())) (fun y4 =>
 (bif (decide ((0:Int) ≤ v28)) then
 (bif (decide (v28 < (((List.length o0) : Nat) : Int))) then
 (Option.bind (L ((l_0, (length_1, ((), (v27, ((Go.IntKind.wrap Go.IntKind.i64 (v28 + (1:Int))), ()))))), ((List.set o0 (Int.toNat v28) (!y4.1.1)), ()))) (fun y7 =>
 (some y7)))
 else
 none)
 else
 none)))
 else
 none)
 else
 none)
 else
 none)
 else
 (some (Sum.inl (((), ()), (o0, ())))))
theorem profile_Windows.eq0 (g_slices_ContainsFunc : slices_ContainsFunc.G) (g_profile_Length : profile_Length.G) (g_slices_Contains : slices_Contains.G) (l0 : profile_Windows.A0) (L : profile_Windows.A0) (x : profile_Windows.s0.X) : rndO (profile_Windows.E g_slices_ContainsFunc g_profile_Length g_slices_Contains l0) profile_Windows.hs profile_Windows.c profile_Windows.s0 profile_Windows.x0 0 true L x = profile_Windows.f0 g_slices_Contains L x.1.1 x.1.2.1 x.1.2.2.2.1 x.1.2.2.2.2.1 x.2.1 := by
  show _ = (_ : Option _)
  kernel_rfl
noncomputable def profile_Windows.L0 : Y85 → Option Y117 := loop fun L x => profile_Windows.f0 slices_Contains.F L x.1.1 x.1.2.1 x.1.2.2.2.1 x.1.2.2.2.2.1 x.2.1
def profile_Windows.f (g_slices_ContainsFunc : Y133 → Option Y142) (g_profile_Length : Y143 → Option Y142) (l0 : Y85 → Option Y117) (l : List Int) (length : Int) : Option Y123 :=
  (bif (decide ((((List.length l) : Nat) : Int) > (2000:Int))) then
 (some (((), ((4:Int), ())), (([] : List Bool), ())))
 else
 (Option.bind (g_slices_ContainsFunc ((l, ((), ())), ())) (fun y1 =>
 (bif y1.1.1 then
 (some (((), ((12:Int), ())), (([] : List Bool), ())))
 else
 (Option.bind (g_profile_Length ((length, ()), ())) (fun y3 =>
 (bif (!y3.1.1) then
 (some (((), ((8:Int), ())), (([] : List Bool), ())))
 else
 (bif (decide ((Go.VI.mx (0:Int) (Go.IntKind.wrap Go.IntKind.i64 ((Go.IntKind.wrap Go.IntKind.i64 ((((List.length l) : Nat) : Int) + (1:Int))) - length))) = (Go.VI.mx (0:Int) (Go.IntKind.wrap Go.IntKind.i64 ((Go.IntKind.wrap Go.IntKind.i64 ((((List.length l) : Nat) : Int) + (1:Int))) - length))))) then
 (bif (decide ((0:Int) ≤ (Go.VI.mx (0:Int) (Go.IntKind.wrap Go.IntKind.i64 ((Go.IntKind.wrap Go.IntKind.i64 ((((List.length l) : Nat) : Int) + (1:Int))) - length))))) then
 (bif ((decide (((((1:Nat) : Nat) : Int) * (Go.VI.mx (0:Int) (Go.IntKind.wrap Go.IntKind.i64 ((Go.IntKind.wrap Go.IntKind.i64 ((((List.length l) : Nat) : Int) + (1:Int))) - length)))) ≤ (281474976710656:Int))) && Bool.true) then
 (Option.bind (l0 ((l, (length, ((), ((((List.length (List.replicate (Int.toNat (Go.VI.mx (0:Int) (Go.IntKind.wrap Go.IntKind.i64 ((Go.IntKind.wrap Go.IntKind.i64 ((((List.length l) : Nat) : Int) + (1:Int))) - length)))) Bool.false)) : Nat) : Int), ((0:Int), ()))))), ((List.replicate (Int.toNat (Go.VI.mx (0:Int) (Go.IntKind.wrap Go.IntKind.i64 ((Go.IntKind.wrap Go.IntKind.i64 ((((List.length l) : Nat) : Int) + (1:Int))) - length)))) Bool.false), ()))) (fun y8 =>
 (Sum.elim (fun a9 =>
 (some (((), ((0:Int), ())), (a9.2.1, ())))) (fun b9 =>
 (Empty.elim b9)) y8)))
 else
 none)
 else
 none)
 else
 none))))))))
theorem profile_Windows.eq (g_slices_ContainsFunc : slices_ContainsFunc.G) (g_profile_Length : profile_Length.G) (g_slices_Contains : slices_Contains.G) (l0 : profile_Windows.A0) (x : profile_Windows.sh.X) : bodO (profile_Windows.E g_slices_ContainsFunc g_profile_Length g_slices_Contains l0) profile_Windows.hs profile_Windows.c Try.f22 profile_Windows.sh profile_Windows.osh x = profile_Windows.f g_slices_ContainsFunc g_profile_Length l0 x.1.1 x.1.2.1 := by
  show _ = (_ : Option _)
  kernel_rfl
noncomputable def profile_Windows (l : List Int) (length : Int) : Option Y123 := profile_Windows.f slices_ContainsFunc.F profile_Length.F profile_Windows.L0 l length
noncomputable def profile_Windows.F (x : Y134) : Option Y123 := profile_Windows x.1.1 x.1.2.1
theorem profile_Windows.L0_eq (l_0 : List Int) (length_1 v27 v28 : Int) (o0 : List Bool) : profile_Windows.L0 ((l_0, length_1, (), v27, v28, ()), (o0, ())) = profile_Windows.f0 slices_Contains.F profile_Windows.L0 l_0 length_1 v27 v28 o0 :=
  loop_eq (E := (profile_Windows.E slices_ContainsFunc.F profile_Length.F slices_Contains.F profile_Windows.L0)) (sh := profile_Windows.s0) (es := profile_Windows.x0) (lp := true) (H := fun L x => profile_Windows.eq0 slices_ContainsFunc.F profile_Length.F slices_Contains.F profile_Windows.L0 L x) ((l_0, length_1, (), v27, v28, ()), (o0, ()))
theorem profile_Windows.F_eq (l : List Int) (length : Int) : profile_Windows.F ((l, length, ()), ()) = profile_Windows.f slices_ContainsFunc.F profile_Length.F profile_Windows.L0 l length := rfl
theorem profile_Windows.ok {tabs : List (Nat × Go.Obj)} (ht : TabsOk tabs) : FOK Try.prog tabs 22 (profile_Windows.fe profile_Windows.F) := by
  refine fn_keep2 Try.func22 (profile_Windows.eq slices_ContainsFunc.F profile_Length.F slices_Contains.F profile_Windows.L0) pw tb (gt_ok ht) (by kernel_rfl) (by kernel_rfl) (fun g ks fe h => ?_) ?_
  · rcases c_cons h with ⟨rfl, rfl⟩ | h
    · exact slices_ContainsFunc.ok ht
    rcases c_cons h with ⟨rfl, rfl⟩ | h
    · exact profile_Length.ok ht
    rcases c_cons h with ⟨rfl, rfl⟩ | h
    · exact slices_Contains.ok ht
    cases h
  · refine known_at 1 (by kernel_rfl) fun i hi => ?_
    match i, hi with
    | 0, _ => exact atomH (loop_ok (es := profile_Windows.x0) rfl (profile_Windows.eq0 slices_ContainsFunc.F profile_Length.F slices_Contains.F profile_Windows.L0)) (by kernel_rfl)
    | n + 1, h => exact absurd h (by omega)

/-! profile_Zone -/
def profile_Zone.f (n : Int) : Option Y142 :=
  (bif (decide (n ≥ (1:Int))) then
 (some (((decide (n ≤ (64:Int))), ()), ()))
 else
 (some ((Bool.false, ()), ())))
theorem profile_Zone.eq (x : profile_Zone.sh.X) : bodO (profile_Zone.E) profile_Zone.hs profile_Zone.c Try.f29 profile_Zone.sh profile_Zone.osh x = profile_Zone.f x.1.1 := by
  show _ = (_ : Option _)
  kernel_rfl
noncomputable def profile_Zone (n : Int) : Option Y142 := profile_Zone.f n
noncomputable def profile_Zone.F (x : Y143) : Option Y142 := profile_Zone x.1.1
theorem profile_Zone.F_eq (n : Int) : profile_Zone.F ((n, ()), ()) = profile_Zone.f n := rfl
theorem profile_Zone.ok {tabs : List (Nat × Go.Obj)} (ht : TabsOk tabs) : FOK Try.prog tabs 29 (profile_Zone.fe profile_Zone.F) := by
  refine fn_keep2 Try.func29 (profile_Zone.eq) pw tb (gt_ok ht) (by kernel_rfl) (by kernel_rfl) (fun g ks fe h => ?_) ?_
  · cases h
  · exact known_at 0 (by kernel_rfl) fun i hi => absurd hi (Nat.not_lt_zero i)

/-! profile_None -/
def profile_None.f : Option Y120 :=
  (some ((((-(1:Int)), ((0:Int), ((1:Int), ()))), ()), ()))
theorem profile_None.eq (x : profile_None.sh.X) : bodO (profile_None.E) profile_None.hs profile_None.c Try.f36 profile_None.sh profile_None.osh x = profile_None.f := by
  show _ = (_ : Option _)
  kernel_rfl
noncomputable def profile_None : Option Y120 := profile_None.f
noncomputable def profile_None.F (x : Y145) : Option Y120 := profile_None
theorem profile_None.F_eq : profile_None.F ((), ()) = profile_None.f := rfl
theorem profile_None.ok {tabs : List (Nat × Go.Obj)} (ht : TabsOk tabs) : FOK Try.prog tabs 36 (profile_None.fe profile_None.F) := by
  refine fn_keep2 Try.func36 (profile_None.eq) pw tb (gt_ok ht) (by kernel_rfl) (by kernel_rfl) (fun g ks fe h => ?_) ?_
  · cases h
  · exact known_at 0 (by kernel_rfl) fun i hi => absurd hi (Nat.not_lt_zero i)

/-! measure_distances -/
def measure_distances.ents : List (Int × Nat × List (Nat × Nat)) := [(1, 76, []), (2, 79, []), (3, 80, []), (4, 81, [(0, 0)]), (5, 83, [(0, 0)])]
noncomputable def measure_distances.F : measure_distances.sh.X → Option measure_distances.osh.X := mapF measure_distances.ents
theorem measure_distances.F_eq (k b g : Int) : measure_distances.F (((k, b, g, ()), ()), ()) = some (((), ()), ((k, b, g, ()), ())) := rfl
section
open Go.RowKit
theorem measure_distances.walk (k b g : Int) (w : Go.World) : Go.Calls Try.prog 56 #[.agg #[.int .i64 k, .int .i64 b, .int .i64 g]] w fun e w' => e = .returned (.map (some (w.heap.size + 1))) ∧
    w' = mapW w (.cells #[.int .i64 k, .int .i64 b, .int .i64 g] 24) #[{ key := .int .i64 1, val := .func (.func 76) #[] #[], born := 0 }, { key := .int .i64 2, val := .func (.func 79) #[] #[], born := 1 }, { key := .int .i64 3, val := .func (.func 80) #[] #[], born := 2 }, { key := .int .i64 4, val := .func (.func 81) #[] #[.pointer (some ⟨w.heap.size, 0, none⟩)], born := 3 }, { key := .int .i64 5, val := .func (.func 83) #[] #[.pointer (some ⟨w.heap.size, 0, none⟩)], born := 4 }] 5 := by
  have hmf : ∀ (fn : Go.Fn) (first cap : Array Go.Value) (w : Go.World), (Go.Instr.makeFunc fn first cap).run Try.prog w = .ok (.func fn first cap) w := fun _ _ _ _ => rfl
  have hmm := @run_makeMap_mapW Try.prog 78 w (.cells #[.int .i64 k, .int .i64 b, .int .i64 g] 24)
  have hi0 := @run_insert_mapW Try.prog 78 3 77 w (.cells #[.int .i64 k, .int .i64 b, .int .i64 g] 24) #[] 0 1 (.func (.func 76) #[] #[]) Try.underlying78 Try.underlying3 rfl
  have hi1 := @run_insert_mapW Try.prog 78 3 77 w (.cells #[.int .i64 k, .int .i64 b, .int .i64 g] 24) #[{ key := .int .i64 1, val := .func (.func 76) #[] #[], born := 0 }] 1 2 (.func (.func 79) #[] #[]) Try.underlying78 Try.underlying3 rfl
  have hi2 := @run_insert_mapW Try.prog 78 3 77 w (.cells #[.int .i64 k, .int .i64 b, .int .i64 g] 24) #[{ key := .int .i64 1, val := .func (.func 76) #[] #[], born := 0 }, { key := .int .i64 2, val := .func (.func 79) #[] #[], born := 1 }] 2 3 (.func (.func 80) #[] #[]) Try.underlying78 Try.underlying3 rfl
  have hi3 := @run_insert_mapW Try.prog 78 3 77 w (.cells #[.int .i64 k, .int .i64 b, .int .i64 g] 24) #[{ key := .int .i64 1, val := .func (.func 76) #[] #[], born := 0 }, { key := .int .i64 2, val := .func (.func 79) #[] #[], born := 1 }, { key := .int .i64 3, val := .func (.func 80) #[] #[], born := 2 }] 3 4 (.func (.func 81) #[] #[.pointer (some ⟨w.heap.size, 0, none⟩)]) Try.underlying78 Try.underlying3 rfl
  have hi4 := @run_insert_mapW Try.prog 78 3 77 w (.cells #[.int .i64 k, .int .i64 b, .int .i64 g] 24) #[{ key := .int .i64 1, val := .func (.func 76) #[] #[], born := 0 }, { key := .int .i64 2, val := .func (.func 79) #[] #[], born := 1 }, { key := .int .i64 3, val := .func (.func 80) #[] #[], born := 2 }, { key := .int .i64 4, val := .func (.func 81) #[] #[.pointer (some ⟨w.heap.size, 0, none⟩)], born := 3 }] 4 5 (.func (.func 83) #[] #[.pointer (some ⟨w.heap.size, 0, none⟩)]) Try.underlying78 Try.underlying3 rfl
  simp only [List.push_toArray, List.cons_append, List.nil_append, Nat.zero_add, Nat.reduceAdd] at hi0 hi1 hi2 hi3 hi4
  go_enter Try.func56, Try.ntmps56
  go_wp2
  simp [Go.bodyPost, Go.results, Try.results56]
end
theorem measure_distances.ok {tabs : List (Nat × Go.Obj)} (ht : TabsOk tabs) : FOK Try.prog tabs 56 (FE.of [true] true measure_distances.sh measure_distances.osh measure_distances.F) :=
  fok_map Try.func56 (c := measure_distances.c) (by kernel_rfl) (by kernel_rfl) (fun B => #[{ key := .int .i64 1, val := .func (.func 76) #[] #[], born := 0 }, { key := .int .i64 2, val := .func (.func 79) #[] #[], born := 1 }, { key := .int .i64 3, val := .func (.func 80) #[] #[], born := 2 }, { key := .int .i64 4, val := .func (.func 81) #[] #[B], born := 3 }, { key := .int .i64 5, val := .func (.func 83) #[] #[B], born := 4 }]) (fun k b g w => measure_distances.walk k b g w) (fun α h B hB => ⟨⟨rfl, _, rfl, trivial⟩, ⟨rfl, _, rfl, trivial⟩, ⟨rfl, _, rfl, trivial⟩, ⟨rfl, _, rfl, ⟨hB, trivial⟩⟩, ⟨rfl, _, rfl, ⟨hB, trivial⟩⟩, trivial⟩)


/-! euclid_length -/
def euclid_length.f (x_ : List Int) : Option Y142 :=
  (bif (decide ((((List.length x_) : Nat) : Int) ≥ (2:Int))) then
 (some (((decide ((((List.length x_) : Nat) : Int) ≤ (32:Int))), ()), ()))
 else
 (some ((Bool.false, ()), ())))
theorem euclid_length.eq (x : euclid_length.sh.X) : bodO (euclid_length.E) euclid_length.hs euclid_length.c Try.f98 euclid_length.sh euclid_length.osh x = euclid_length.f x.1.1 := by
  show _ = (_ : Option _)
  kernel_rfl
noncomputable def euclid_length (x_ : List Int) : Option Y142 := euclid_length.f x_
noncomputable def euclid_length.F (x : Y139) : Option Y142 := euclid_length x.1.1
theorem euclid_length.F_eq (x_ : List Int) : euclid_length.F ((x_, ()), ()) = euclid_length.f x_ := rfl
theorem euclid_length.ok {tabs : List (Nat × Go.Obj)} (ht : TabsOk tabs) : FOK Try.prog tabs 98 (euclid_length.fe euclid_length.F) := by
  refine fn_keep2 Try.func98 (euclid_length.eq) pw tb (gt_ok ht) (by kernel_rfl) (by kernel_rfl) (fun g ks fe h => ?_) ?_
  · cases h
  · exact known_at 0 (by kernel_rfl) fun i hi => absurd hi (Nat.not_lt_zero i)

/-! euclid_samples -/
def euclid_samples.f0 (L : Y127 → Option Y108) (v5 : List Int) (v6 v7 : Int) : Option Y108 :=
  (bif (decide (v7 < v6)) then
 (bif (decide ((0:Int) ≤ v7)) then
 (bif (decide (v7 < (((List.length v5) : Nat) : Int))) then
 (bif (decide ((List.getD v5 (Int.toNat v7) (0:Int)) < (-(1000:Int)))) then
 (some (Sum.inr (Sum.inl ((Bool.false, ()), ()))))
 else
 (bif (decide ((List.getD v5 (Int.toNat v7) (0:Int)) > (1000:Int))) then
 (some (Sum.inr (Sum.inl ((Bool.false, ()), ()))))
 else
 (Option.bind (L ((v5, (v6, ((Go.IntKind.wrap Go.IntKind.i64 (v7 + (1:Int))), ()))), ())) (fun y5 =>
 (some y5)))))
 else
 none)
 else
 none)
 else
 (some (Sum.inl ((), ()))))
theorem euclid_samples.eq0 (l0 : euclid_samples.A0) (L : euclid_samples.A0) (x : euclid_samples.s0.X) : rndO (euclid_samples.E l0) euclid_samples.hs euclid_samples.c euclid_samples.s0 euclid_samples.x0 0 true L x = euclid_samples.f0 L x.1.1 x.1.2.1 x.1.2.2.1 := by
  show _ = (_ : Option _)
  kernel_rfl
noncomputable def euclid_samples.L0 : Y127 → Option Y108 := loop fun L x => euclid_samples.f0 L x.1.1 x.1.2.1 x.1.2.2.1
def euclid_samples.f (l0 : Y127 → Option Y108) (x_ : List Int) : Option Y142 :=
  (Option.bind (l0 ((x_, ((((List.length x_) : Nat) : Int), ((0:Int), ()))), ())) (fun y0 =>
 (Sum.elim (fun a1 =>
 (some ((Bool.true, ()), ()))) (fun b1 =>
 (Sum.elim (fun a2 =>
 (some ((a2.1.1, ()), ()))) (fun b2 =>
 (Empty.elim b2)) b1)) y0)))
theorem euclid_samples.eq (l0 : euclid_samples.A0) (x : euclid_samples.sh.X) : bodO (euclid_samples.E l0) euclid_samples.hs euclid_samples.c Try.f99 euclid_samples.sh euclid_samples.osh x = euclid_samples.f l0 x.1.1 := by
  show _ = (_ : Option _)
  kernel_rfl
noncomputable def euclid_samples (x_ : List Int) : Option Y142 := euclid_samples.f euclid_samples.L0 x_
noncomputable def euclid_samples.F (x : Y139) : Option Y142 := euclid_samples x.1.1
theorem euclid_samples.L0_eq (v5 : List Int) (v6 v7 : Int) : euclid_samples.L0 ((v5, v6, v7, ()), ()) = euclid_samples.f0 euclid_samples.L0 v5 v6 v7 :=
  loop_eq (E := (euclid_samples.E euclid_samples.L0)) (sh := euclid_samples.s0) (es := euclid_samples.x0) (lp := true) (H := fun L x => euclid_samples.eq0 euclid_samples.L0 L x) ((v5, v6, v7, ()), ())
theorem euclid_samples.F_eq (x_ : List Int) : euclid_samples.F ((x_, ()), ()) = euclid_samples.f euclid_samples.L0 x_ := rfl
theorem euclid_samples.ok {tabs : List (Nat × Go.Obj)} (ht : TabsOk tabs) : FOK Try.prog tabs 99 (euclid_samples.fe euclid_samples.F) := by
  refine fn_keep2 Try.func99 (euclid_samples.eq euclid_samples.L0) pw tb (gt_ok ht) (by kernel_rfl) (by kernel_rfl) (fun g ks fe h => ?_) ?_
  · cases h
  · refine known_at 1 (by kernel_rfl) fun i hi => ?_
    match i, hi with
    | 0, _ => exact atomH (loop_ok (es := euclid_samples.x0) rfl (euclid_samples.eq0 euclid_samples.L0)) (by kernel_rfl)
    | n + 1, h => exact absurd h (by omega)

/-! euclid_check -/
def euclid_check.f0 (g_euclid_length : Y139 → Option Y142) (x_0 y_1 : List Int) : Option Y98 :=
  (Option.bind (g_euclid_length ((x_0, ()), ())) (fun y0 =>
 (bif (!y0.1.1) then
 (some (Sum.inl ((x_0, (y_1, (Bool.true, ()))), ())))
 else
 (Option.bind (g_euclid_length ((y_1, ()), ())) (fun y2 =>
 (some (Sum.inl ((x_0, (y_1, ((!y2.1.1), ()))), ()))))))))
theorem euclid_check.eq0 (g_euclid_length : euclid_length.G) (g_euclid_samples : euclid_samples.G) (l0 : euclid_check.A0) (l1 : euclid_check.A1) (L : euclid_check.A0) (x : euclid_check.s0.X) : rndO (euclid_check.E g_euclid_length g_euclid_samples l0 l1) euclid_check.hs euclid_check.c euclid_check.s0 euclid_check.x0 0 false L x = euclid_check.f0 g_euclid_length x.1.1 x.1.2.1 := by
  show _ = (_ : Option _)
  kernel_rfl
noncomputable def euclid_check.L0 : Y124 → Option Y98 := fun x => euclid_check.f0 euclid_length.F x.1.1 x.1.2.1
def euclid_check.f1 (g_euclid_samples : Y139 → Option Y142) (x_0 y_1 : List Int) : Option Y98 :=
  (Option.bind (g_euclid_samples ((x_0, ()), ())) (fun y0 =>
 (bif (!y0.1.1) then
 (some (Sum.inl ((x_0, (y_1, (Bool.true, ()))), ())))
 else
 (Option.bind (g_euclid_samples ((y_1, ()), ())) (fun y2 =>
 (some (Sum.inl ((x_0, (y_1, ((!y2.1.1), ()))), ()))))))))
theorem euclid_check.eq1 (g_euclid_length : euclid_length.G) (g_euclid_samples : euclid_samples.G) (l0 : euclid_check.A0) (l1 : euclid_check.A1) (L : euclid_check.A1) (x : euclid_check.s1.X) : rndO (euclid_check.E g_euclid_length g_euclid_samples l0 l1) euclid_check.hs euclid_check.c euclid_check.s1 euclid_check.x1 1 false L x = euclid_check.f1 g_euclid_samples x.1.1 x.1.2.1 := by
  show _ = (_ : Option _)
  kernel_rfl
noncomputable def euclid_check.L1 : Y124 → Option Y98 := fun x => euclid_check.f1 euclid_samples.F x.1.1 x.1.2.1
def euclid_check.f (l0 : Y124 → Option Y98) (l1 : Y124 → Option Y98) (x_ y : List Int) : Option Y143 :=
  (Option.bind (l0 ((x_, (y, ())), ())) (fun y0 =>
 (Sum.elim (fun a1 =>
 (bif a1.1.2.2.1 then
 (some (((8:Int), ()), ()))
 else
 (Option.bind (l1 ((a1.1.1, (a1.1.2.1, ())), ())) (fun y3 =>
 (Sum.elim (fun a4 =>
 (bif a4.1.2.2.1 then
 (some (((12:Int), ()), ()))
 else
 (bif ((((List.length a4.1.1) : Nat) : Int) != (((List.length a4.1.2.1) : Nat) : Int)) then
 (some (((8:Int), ()), ()))
 else
 (some (((0:Int), ()), ()))))) (fun b4 =>
 (Empty.elim b4)) y3))))) (fun b1 =>
 (Empty.elim b1)) y0)))
theorem euclid_check.eq (g_euclid_length : euclid_length.G) (g_euclid_samples : euclid_samples.G) (l0 : euclid_check.A0) (l1 : euclid_check.A1) (x : euclid_check.sh.X) : bodO (euclid_check.E g_euclid_length g_euclid_samples l0 l1) euclid_check.hs euclid_check.c Try.f91 euclid_check.sh euclid_check.osh x = euclid_check.f l0 l1 x.1.1 x.1.2.1 := by
  show _ = (_ : Option _)
  kernel_rfl
noncomputable def euclid_check (x_ y : List Int) : Option Y143 := euclid_check.f euclid_check.L0 euclid_check.L1 x_ y
noncomputable def euclid_check.F (x : Y124) : Option Y143 := euclid_check x.1.1 x.1.2.1
theorem euclid_check.L0_eq (x_0 y_1 : List Int) : euclid_check.L0 ((x_0, y_1, ()), ()) = euclid_check.f0 euclid_length.F x_0 y_1 := rfl
theorem euclid_check.L1_eq (x_0 y_1 : List Int) : euclid_check.L1 ((x_0, y_1, ()), ()) = euclid_check.f1 euclid_samples.F x_0 y_1 := rfl
theorem euclid_check.F_eq (x_ y : List Int) : euclid_check.F ((x_, y, ()), ()) = euclid_check.f euclid_check.L0 euclid_check.L1 x_ y := rfl
theorem euclid_check.ok {tabs : List (Nat × Go.Obj)} (ht : TabsOk tabs) : FOK Try.prog tabs 91 (euclid_check.fe euclid_check.F) := by
  refine fn_keep2 Try.func91 (euclid_check.eq euclid_length.F euclid_samples.F euclid_check.L0 euclid_check.L1) pw tb (gt_ok ht) (by kernel_rfl) (by kernel_rfl) (fun g ks fe h => ?_) ?_
  · rcases c_cons h with ⟨rfl, rfl⟩ | h
    · exact euclid_length.ok ht
    rcases c_cons h with ⟨rfl, rfl⟩ | h
    · exact euclid_samples.ok ht
    cases h
  · refine known_at 2 (by kernel_rfl) fun i hi => ?_
    match i, hi with
    | 0, _ => exact atomH (cut_ok (es := euclid_check.x0) rfl (euclid_check.eq0 euclid_length.F euclid_samples.F euclid_check.L0 euclid_check.L1)) (by kernel_rfl)
    | 1, _ => exact atomH (cut_ok (es := euclid_check.x1) rfl (euclid_check.eq1 euclid_length.F euclid_samples.F euclid_check.L0 euclid_check.L1)) (by kernel_rfl)
    | n + 2, h => exact absurd h (by omega)

/-! euclid_square -/
def euclid_square.f0 (L : Y97 → Option Y137) (y_1 : List Int) (sum_5 : Int) (v8 : List Int) (v9 v10 : Int) : Option Y137 :=
  (bif (decide (v10 < v9)) then
 (bif (decide ((0:Int) ≤ v10)) then
 (bif (decide (v10 < (((List.length v8) : Nat) : Int))) then
 (bif (decide ((0:Int) ≤ v10)) then
 (bif (decide (v10 < (((List.length y_1) : Nat) : Int))) then
 (bif (decide ((0:Int) ≤ v10)) then
 (bif (decide (v10 < (((List.length y_1) : Nat) : Int))) then
 (Option.bind (L ((y_1, ((Go.IntKind.wrap Go.IntKind.i64 (sum_5 + (Go.IntKind.wrap Go.IntKind.i64 ((Go.IntKind.wrap Go.IntKind.i64 ((List.getD v8 (Int.toNat v10) (0:Int)) - (List.getD y_1 (Int.toNat v10) (0:Int)))) * (Go.IntKind.wrap Go.IntKind.i64 ((List.getD v8 (Int.toNat v10) (0:Int)) - (List.getD y_1 (Int.toNat v10) (0:Int)))))))), (v8, (v9, ((Go.IntKind.wrap Go.IntKind.i64 (v10 + (1:Int))), ()))))), ())) (fun y7 =>
 (some y7)))
 else
 none)
 else
 none)
 else
 none)
 else
 none)
 else
 none)
 else
 none)
 else
 (some (Sum.inl ((sum_5, ()), ()))))
theorem euclid_square.eq0 (l0 : euclid_square.A0) (L : euclid_square.A0) (x : euclid_square.s0.X) : rndO (euclid_square.E l0) euclid_square.hs euclid_square.c euclid_square.s0 euclid_square.x0 0 true L x = euclid_square.f0 L x.1.1 x.1.2.1 x.1.2.2.1 x.1.2.2.2.1 x.1.2.2.2.2.1 := by
  show _ = (_ : Option _)
  kernel_rfl
noncomputable def euclid_square.L0 : Y97 → Option Y137 := loop fun L x => euclid_square.f0 L x.1.1 x.1.2.1 x.1.2.2.1 x.1.2.2.2.1 x.1.2.2.2.2.1
def euclid_square.f (l0 : Y97 → Option Y137) (x_ y : List Int) : Option Y143 :=
  (Option.bind (l0 ((y, ((0:Int), (x_, ((((List.length x_) : Nat) : Int), ((0:Int), ()))))), ())) (fun y0 =>
 (Sum.elim (fun a1 =>
 (some ((a1.1.1, ()), ()))) (fun b1 =>
 (Empty.elim b1)) y0)))
theorem euclid_square.eq (l0 : euclid_square.A0) (x : euclid_square.sh.X) : bodO (euclid_square.E l0) euclid_square.hs euclid_square.c Try.f92 euclid_square.sh euclid_square.osh x = euclid_square.f l0 x.1.1 x.1.2.1 := by
  show _ = (_ : Option _)
  kernel_rfl
noncomputable def euclid_square (x_ y : List Int) : Option Y143 := euclid_square.f euclid_square.L0 x_ y
noncomputable def euclid_square.F (x : Y124) : Option Y143 := euclid_square x.1.1 x.1.2.1
theorem euclid_square.L0_eq (y_1 : List Int) (sum_5 : Int) (v8 : List Int) (v9 v10 : Int) : euclid_square.L0 ((y_1, sum_5, v8, v9, v10, ()), ()) = euclid_square.f0 euclid_square.L0 y_1 sum_5 v8 v9 v10 :=
  loop_eq (E := (euclid_square.E euclid_square.L0)) (sh := euclid_square.s0) (es := euclid_square.x0) (lp := true) (H := fun L x => euclid_square.eq0 euclid_square.L0 L x) ((y_1, sum_5, v8, v9, v10, ()), ())
theorem euclid_square.F_eq (x_ y : List Int) : euclid_square.F ((x_, y, ()), ()) = euclid_square.f euclid_square.L0 x_ y := rfl
theorem euclid_square.ok {tabs : List (Nat × Go.Obj)} (ht : TabsOk tabs) : FOK Try.prog tabs 92 (euclid_square.fe euclid_square.F) := by
  refine fn_keep2 Try.func92 (euclid_square.eq euclid_square.L0) pw tb (gt_ok ht) (by kernel_rfl) (by kernel_rfl) (fun g ks fe h => ?_) ?_
  · cases h
  · refine known_at 1 (by kernel_rfl) fun i hi => ?_
    match i, hi with
    | 0, _ => exact atomH (loop_ok (es := euclid_square.x0) rfl (euclid_square.eq0 euclid_square.L0)) (by kernel_rfl)
    | n + 1, h => exact absurd h (by omega)
end Go.Proofs.Ytefcciajemkicaa.V
