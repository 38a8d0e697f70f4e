import Derived.Test.YtefcciajemkicaaVg0
import Derived.WalkKit
set_option linter.unusedVariables false
set_option maxRecDepth 100000
namespace Go.Proofs.Ytefcciajemkicaa.V
open Go.VI
/-! euclid_Distance -/
def euclid_Distance.f (g_euclid_check : Y124 → Option Y143) (g_euclid_square : Y124 → Option Y143) (x_ y : List Int) : Option Y140 :=
  (Option.bind (g_euclid_check ((x_, (y, ())), ())) (fun y0 =>
 (bif (y0.1.1 != (0:Int)) then
 (some (((0:Int), (y0.1.1, ())), ()))
 else
 (Option.bind (g_euclid_square ((x_, (y, ())), ())) (fun y2 =>
 (some ((y2.1.1, ((0:Int), ())), ())))))))
theorem euclid_Distance.eq (g_euclid_check : euclid_check.G) (g_euclid_square : euclid_square.G) (x : euclid_Distance.sh.X) : bodO (euclid_Distance.E g_euclid_check g_euclid_square) euclid_Distance.hs euclid_Distance.c Try.f78 euclid_Distance.sh euclid_Distance.osh x = euclid_Distance.f g_euclid_check g_euclid_square x.1.1 x.1.2.1 := by
  show _ = (_ : Option _)
  kernel_rfl
noncomputable def euclid_Distance (x_ y : List Int) : Option Y140 := euclid_Distance.f euclid_check.F euclid_square.F x_ y
noncomputable def euclid_Distance.F (x : Y124) : Option Y140 := euclid_Distance x.1.1 x.1.2.1
theorem euclid_Distance.F_eq (x_ y : List Int) : euclid_Distance.F ((x_, y, ()), ()) = euclid_Distance.f euclid_check.F euclid_square.F x_ y := rfl
theorem euclid_Distance.ok {tabs : List (Nat × Go.Obj)} (ht : TabsOk tabs) : FOK Try.prog tabs 78 (euclid_Distance.fe euclid_Distance.F) := by
  refine fn_keep2 Try.func78 (euclid_Distance.eq euclid_check.F euclid_square.F) pw tb (gt_ok ht) (by kernel_rfl) (by kernel_rfl) (fun g ks fe h => ?_) ?_
  · rcases c_cons h with ⟨rfl, rfl⟩ | h
    · exact euclid_check.ok ht
    rcases c_cons h with ⟨rfl, rfl⟩ | h
    · exact euclid_square.ok ht
    cases h
  · exact known_at 0 (by kernel_rfl) fun i hi => absurd hi (Nat.not_lt_zero i)

/-! ratio_divisor -/
def ratio_divisor.f0 (L : Y140 → Option Y137) (a_0 b_1 : Int) : Option Y137 :=
  (bif (b_1 != (0:Int)) then
 (bif (!(decide (b_1 = (0:Int)))) then
 (Option.bind (L ((b_1, ((Int.tmod a_0 b_1), ())), ())) (fun y2 =>
 (some y2)))
 else
 none)
 else
 (some (Sum.inl ((a_0, ()), ()))))
theorem ratio_divisor.eq0 (l0 : ratio_divisor.A0) (L : ratio_divisor.A0) (x : ratio_divisor.s0.X) : rndO (ratio_divisor.E l0) ratio_divisor.hs ratio_divisor.c ratio_divisor.s0 ratio_divisor.x0 0 true L x = ratio_divisor.f0 L x.1.1 x.1.2.1 := by
  show _ = (_ : Option _)
  kernel_rfl
noncomputable def ratio_divisor.L0 : Y140 → Option Y137 := loop fun L x => ratio_divisor.f0 L x.1.1 x.1.2.1
def ratio_divisor.f (l0 : Y140 → Option Y137) (a b : Int) : Option Y143 :=
  (Option.bind (l0 ((a, (b, ())), ())) (fun y0 =>
 (Sum.elim (fun a1 =>
 (some ((a1.1.1, ()), ()))) (fun b1 =>
 (Empty.elim b1)) y0)))
theorem ratio_divisor.eq (l0 : ratio_divisor.A0) (x : ratio_divisor.sh.X) : bodO (ratio_divisor.E l0) ratio_divisor.hs ratio_divisor.c Try.f73 ratio_divisor.sh ratio_divisor.osh x = ratio_divisor.f l0 x.1.1 x.1.2.1 := by
  show _ = (_ : Option _)
  kernel_rfl
noncomputable def ratio_divisor (a b : Int) : Option Y143 := ratio_divisor.f ratio_divisor.L0 a b
noncomputable def ratio_divisor.F (x : Y140) : Option Y143 := ratio_divisor x.1.1 x.1.2.1
theorem ratio_divisor.L0_eq (a_0 b_1 : Int) : ratio_divisor.L0 ((a_0, b_1, ()), ()) = ratio_divisor.f0 ratio_divisor.L0 a_0 b_1 :=
  loop_eq (E := (ratio_divisor.E ratio_divisor.L0)) (sh := ratio_divisor.s0) (es := ratio_divisor.x0) (lp := true) (H := fun L x => ratio_divisor.eq0 ratio_divisor.L0 L x) ((a_0, b_1, ()), ())
theorem ratio_divisor.F_eq (a b : Int) : ratio_divisor.F ((a, b, ()), ()) = ratio_divisor.f ratio_divisor.L0 a b := rfl
theorem ratio_divisor.ok {tabs : List (Nat × Go.Obj)} (ht : TabsOk tabs) : FOK Try.prog tabs 73 (ratio_divisor.fe ratio_divisor.F) := by
  refine fn_keep2 Try.func73 (ratio_divisor.eq ratio_divisor.L0) pw tb (gt_ok ht) (by kernel_rfl) (by kernel_rfl) (fun g ks fe h => ?_) ?_
  · cases h
  · refine known_at 1 (by kernel_rfl) fun i hi => ?_
    match i, hi with
    | 0, _ => exact atomH (loop_ok (es := ratio_divisor.x0) rfl (ratio_divisor.eq0 ratio_divisor.L0)) (by kernel_rfl)
    | n + 1, h => exact absurd h (by omega)

/-! ratio_within -/
def ratio_within.f (a_Num a_Den : Int) : Option Y142 :=
  (bif (decide (a_Num ≥ (0:Int))) then
 (bif (decide (a_Num ≤ (2305843009213693952:Int))) then
 (bif (decide (a_Den ≥ (1:Int))) then
 (some (((decide (a_Den ≤ (1152921504606846976:Int))), ()), ()))
 else
 (some ((Bool.false, ()), ())))
 else
 (some ((Bool.false, ()), ())))
 else
 (some ((Bool.false, ()), ())))
theorem ratio_within.eq (x : ratio_within.sh.X) : bodO (ratio_within.E) ratio_within.hs ratio_within.c Try.f72 ratio_within.sh ratio_within.osh x = ratio_within.f x.1.1.1 x.1.1.2.1 := by
  show _ = (_ : Option _)
  kernel_rfl
noncomputable def ratio_within (a_Num a_Den : Int) : Option Y142 := ratio_within.f a_Num a_Den
noncomputable def ratio_within.F (x : Y131) : Option Y142 := ratio_within x.1.1.1 x.1.1.2.1
theorem ratio_within.F_eq (a_Num a_Den : Int) : ratio_within.F (((a_Num, a_Den, ()), ()), ()) = ratio_within.f a_Num a_Den := rfl
theorem ratio_within.ok {tabs : List (Nat × Go.Obj)} (ht : TabsOk tabs) : FOK Try.prog tabs 72 (ratio_within.fe ratio_within.F) := by
  refine fn_keep2 Try.func72 (ratio_within.eq) pw tb (gt_ok ht) (by kernel_rfl) (by kernel_rfl) (fun g ks fe h => ?_) ?_
  · cases h
  · exact known_at 0 (by kernel_rfl) fun i hi => absurd hi (Nat.not_lt_zero i)

/-! ratio_Make -/
def ratio_Make.f0 (num_0 den_1 o0_0 o0_1 : Int) : Option Y78 :=
  (bif (decide (num_0 < (0:Int))) then
 (some (Sum.inl ((num_0, (den_1, ((), (Bool.true, ())))), ((o0_0, (o0_1, ())), ()))))
 else
 (some (Sum.inl ((num_0, (den_1, ((), ((decide (den_1 < (1:Int))), ())))), ((o0_0, (o0_1, ())), ())))))
theorem ratio_Make.eq0 (g_ratio_divisor : ratio_divisor.G) (g_ratio_within : ratio_within.G) (l0 : ratio_Make.A0) (L : ratio_Make.A0) (x : ratio_Make.s0.X) : rndO (ratio_Make.E g_ratio_divisor g_ratio_within l0) ratio_Make.hs ratio_Make.c ratio_Make.s0 ratio_Make.x0 0 false L x = ratio_Make.f0 x.1.1 x.1.2.1 x.2.1.1 x.2.1.2.1 := by
  show _ = (_ : Option _)
  kernel_rfl
noncomputable def ratio_Make.L0 : Y104 → Option Y78 := fun x => ratio_Make.f0 x.1.1 x.1.2.1 x.2.1.1 x.2.1.2.1
def ratio_Make.f (g_ratio_divisor : Y140 → Option Y143) (g_ratio_within : Y131 → Option Y142) (l0 : Y104 → Option Y78) (num den : Int) : Option Y122 :=
  (Option.bind (l0 ((num, (den, ((), ()))), (((0:Int), ((0:Int), ())), ()))) (fun y0 =>
 (Sum.elim (fun a1 =>
 (bif a1.1.2.2.2.1 then
 (some ((((0:Int), ((0:Int), ())), ((1:Int), ())), ()))
 else
 (Option.bind (g_ratio_divisor ((a1.1.1, (a1.1.2.1, ())), ())) (fun y3 =>
 (bif (!(decide (y3.1.1 = (0:Int)))) then
 (bif (!(decide (y3.1.1 = (0:Int)))) then
 (Option.bind (g_ratio_within ((((Go.IntKind.wrap Go.IntKind.i64 (Int.tdiv a1.1.1 y3.1.1)), ((Go.IntKind.wrap Go.IntKind.i64 (Int.tdiv a1.1.2.1 y3.1.1)), ())), ()), ())) (fun y6 =>
 (bif (!y6.1.1) then
 (some ((((0:Int), ((0:Int), ())), ((1:Int), ())), ()))
 else
 (some ((((Go.IntKind.wrap Go.IntKind.i64 (Int.tdiv a1.1.1 y3.1.1)), ((Go.IntKind.wrap Go.IntKind.i64 (Int.tdiv a1.1.2.1 y3.1.1)), ())), ((0:Int), ())), ())))))
 else
 none)
 else
 none))))) (fun b1 =>
 (Empty.elim b1)) y0)))
theorem ratio_Make.eq (g_ratio_divisor : ratio_divisor.G) (g_ratio_within : ratio_within.G) (l0 : ratio_Make.A0) (x : ratio_Make.sh.X) : bodO (ratio_Make.E g_ratio_divisor g_ratio_within l0) ratio_Make.hs ratio_Make.c Try.f90 ratio_Make.sh ratio_Make.osh x = ratio_Make.f g_ratio_divisor g_ratio_within l0 x.1.1 x.1.2.1 := by
  show _ = (_ : Option _)
  kernel_rfl
noncomputable def ratio_Make (num den : Int) : Option Y122 := ratio_Make.f ratio_divisor.F ratio_within.F ratio_Make.L0 num den
noncomputable def ratio_Make.F (x : Y140) : Option Y122 := ratio_Make x.1.1 x.1.2.1
theorem ratio_Make.L0_eq (num_0 den_1 o0_0 o0_1 : Int) : ratio_Make.L0 ((num_0, den_1, (), ()), ((o0_0, o0_1, ()), ())) = ratio_Make.f0 num_0 den_1 o0_0 o0_1 := rfl
theorem ratio_Make.F_eq (num den : Int) : ratio_Make.F ((num, den, ()), ()) = ratio_Make.f ratio_divisor.F ratio_within.F ratio_Make.L0 num den := rfl
theorem ratio_Make.ok {tabs : List (Nat × Go.Obj)} (ht : TabsOk tabs) : FOK Try.prog tabs 90 (ratio_Make.fe ratio_Make.F) := by
  refine fn_keep2 Try.func90 (ratio_Make.eq ratio_divisor.F ratio_within.F ratio_Make.L0) pw tb (gt_ok ht) (by kernel_rfl) (by kernel_rfl) (fun g ks fe h => ?_) ?_
  · rcases c_cons h with ⟨rfl, rfl⟩ | h
    · exact ratio_divisor.ok ht
    rcases c_cons h with ⟨rfl, rfl⟩ | h
    · exact ratio_within.ok ht
    cases h
  · refine known_at 1 (by kernel_rfl) fun i hi => ?_
    match i, hi with
    | 0, _ => exact atomH (cut_ok (es := ratio_Make.x0) rfl (ratio_Make.eq0 ratio_divisor.F ratio_within.F ratio_Make.L0)) (by kernel_rfl)
    | n + 1, h => exact absurd h (by omega)

/-! measure_whole -/
def measure_whole.f (g_ratio_Make : Y140 → Option Y122) (d e : Int) : Option Y122 :=
  (bif (e != (0:Int)) then
 (some ((((0:Int), ((0:Int), ())), (e, ())), ()))
 else
 (Option.bind (g_ratio_Make ((d, ((1:Int), ())), ())) (fun y1 =>
 (some (((y1.1.1.1, (y1.1.1.2.1, ())), (y1.1.2.1, ())), ())))))
theorem measure_whole.eq (g_ratio_Make : ratio_Make.G) (x : measure_whole.sh.X) : bodO (measure_whole.E g_ratio_Make) measure_whole.hs measure_whole.c Try.f77 measure_whole.sh measure_whole.osh x = measure_whole.f g_ratio_Make x.1.1 x.1.2.1 := by
  show _ = (_ : Option _)
  kernel_rfl
noncomputable def measure_whole (d e : Int) : Option Y122 := measure_whole.f ratio_Make.F d e
noncomputable def measure_whole.F (x : Y140) : Option Y122 := measure_whole x.1.1 x.1.2.1
theorem measure_whole.F_eq (d e : Int) : measure_whole.F ((d, e, ()), ()) = measure_whole.f ratio_Make.F d e := rfl
theorem measure_whole.ok {tabs : List (Nat × Go.Obj)} (ht : TabsOk tabs) : FOK Try.prog tabs 77 (measure_whole.fe measure_whole.F) := by
  refine fn_keep2 Try.func77 (measure_whole.eq ratio_Make.F) pw tb (gt_ok ht) (by kernel_rfl) (by kernel_rfl) (fun g ks fe h => ?_) ?_
  · rcases c_cons h with ⟨rfl, rfl⟩ | h
    · exact ratio_Make.ok ht
    cases h
  · exact known_at 0 (by kernel_rfl) fun i hi => absurd hi (Nat.not_lt_zero i)

/-! measure_distances_1 -/
def measure_distances_1.f (g_euclid_Distance : Y124 → Option Y140) (g_measure_whole : Y140 → Option Y122) (x_ y : List Int) : Option Y122 :=
  (Option.bind (g_euclid_Distance ((x_, (y, ())), ())) (fun y0 =>
 (Option.bind (g_measure_whole ((y0.1.1, (y0.1.2.1, ())), ())) (fun y1 =>
 (some (((y1.1.1.1, (y1.1.1.2.1, ())), (y1.1.2.1, ())), ()))))))
theorem measure_distances_1.eq (g_euclid_Distance : euclid_Distance.G) (g_measure_whole : measure_whole.G) (x : measure_distances_1.sh.X) : bodO (measure_distances_1.E g_euclid_Distance g_measure_whole) measure_distances_1.hs measure_distances_1.c Try.f76 measure_distances_1.sh measure_distances_1.osh x = measure_distances_1.f g_euclid_Distance g_measure_whole x.1.1 x.1.2.1 := by
  show _ = (_ : Option _)
  kernel_rfl
noncomputable def measure_distances_1 (x_ y : List Int) : Option Y122 := measure_distances_1.f euclid_Distance.F measure_whole.F x_ y
noncomputable def measure_distances_1.F (x : Y124) : Option Y122 := measure_distances_1 x.1.1 x.1.2.1
theorem measure_distances_1.F_eq (x_ y : List Int) : measure_distances_1.F ((x_, y, ()), ()) = measure_distances_1.f euclid_Distance.F measure_whole.F x_ y := rfl
theorem measure_distances_1.ok {tabs : List (Nat × Go.Obj)} (ht : TabsOk tabs) : FOK Try.prog tabs 76 (measure_distances_1.fe measure_distances_1.F) := by
  refine fn_keep2 Try.func76 (measure_distances_1.eq euclid_Distance.F measure_whole.F) pw tb (gt_ok ht) (by kernel_rfl) (by kernel_rfl) (fun g ks fe h => ?_) ?_
  · rcases c_cons h with ⟨rfl, rfl⟩ | h
    · exact euclid_Distance.ok ht
    rcases c_cons h with ⟨rfl, rfl⟩ | h
    · exact measure_whole.ok ht
    cases h
  · exact known_at 0 (by kernel_rfl) fun i hi => absurd hi (Nat.not_lt_zero i)

/-! euclid_Shifted -/
def euclid_Shifted.f0 (L : Y41 → Option Y54) (x_0 y_1 : List Int) (sum_7 m_8 : Int) (v20 : List Int) (v21 v22 o0_0 o0_1 : Int) : Option Y54 :=
  (bif (decide (v22 < v21)) then
 (bif (decide ((0:Int) ≤ v22)) then
 (bif (decide (v22 < (((List.length v20) : Nat) : Int))) then
 (bif (decide ((0:Int) ≤ v22)) then
 (bif (decide (v22 < (((List.length y_1) : Nat) : Int))) then
 (Option.bind (L ((x_0, (y_1, ((), ((Go.IntKind.wrap Go.IntKind.i64 (sum_7 + (Go.IntKind.wrap Go.IntKind.i64 ((List.getD v20 (Int.toNat v22) (0:Int)) - (List.getD y_1 (Int.toNat v22) (0:Int)))))), (m_8, (v20, (v21, ((Go.IntKind.wrap Go.IntKind.i64 (v22 + (1:Int))), ())))))))), ((o0_0, (o0_1, ())), ()))) (fun y5 =>
 (some y5)))
 else
 none)
 else
 none)
 else
 none)
 else
 none)
 else
 (some (Sum.inl ((x_0, (y_1, ((), (sum_7, (m_8, ()))))), ((o0_0, (o0_1, ())), ())))))
theorem euclid_Shifted.eq0 (g_euclid_check : euclid_check.G) (g_euclid_square : euclid_square.G) (g_ratio_Make : ratio_Make.G) (l0 : euclid_Shifted.A0) (L : euclid_Shifted.A0) (x : euclid_Shifted.s0.X) : rndO (euclid_Shifted.E g_euclid_check g_euclid_square g_ratio_Make l0) euclid_Shifted.hs euclid_Shifted.c euclid_Shifted.s0 euclid_Shifted.x0 0 true L x = euclid_Shifted.f0 L x.1.1 x.1.2.1 x.1.2.2.2.1 x.1.2.2.2.2.1 x.1.2.2.2.2.2.1 x.1.2.2.2.2.2.2.1 x.1.2.2.2.2.2.2.2.1 x.2.1.1 x.2.1.2.1 := by
  show _ = (_ : Option _)
  kernel_rfl
noncomputable def euclid_Shifted.L0 : Y41 → Option Y54 := loop fun L x => euclid_Shifted.f0 L x.1.1 x.1.2.1 x.1.2.2.2.1 x.1.2.2.2.2.1 x.1.2.2.2.2.2.1 x.1.2.2.2.2.2.2.1 x.1.2.2.2.2.2.2.2.1 x.2.1.1 x.2.1.2.1
def euclid_Shifted.f (g_euclid_check : Y124 → Option Y143) (g_euclid_square : Y124 → Option Y143) (g_ratio_Make : Y140 → Option Y122) (l0 : Y41 → Option Y54) (x_ y : List Int) : Option Y122 :=
  (Option.bind (g_euclid_check ((x_, (y, ())), ())) (fun y0 =>
 (bif (y0.1.1 != (0:Int)) then
 (some ((((0:Int), ((0:Int), ())), (y0.1.1, ())), ()))
 else
 (Option.bind (l0 ((x_, (y, ((), ((0:Int), ((((List.length x_) : Nat) : Int), (x_, ((((List.length x_) : Nat) : Int), ((0:Int), ())))))))), (((0:Int), ((0:Int), ())), ()))) (fun y2 =>
 (Sum.elim (fun a3 =>
 (Option.bind (g_euclid_square ((a3.1.1, (a3.1.2.1, ())), ())) (fun y4 =>
 (Option.bind (g_ratio_Make (((Go.IntKind.wrap Go.IntKind.i64 ((Go.IntKind.wrap Go.IntKind.i64 (a3.1.2.2.2.2.1 * y4.1.1)) - (Go.IntKind.wrap Go.IntKind.i64 (a3.1.2.2.2.1 * a3.1.2.2.2.1)))), (a3.1.2.2.2.2.1, ())), ())) (fun y5 =>
 (some (((y5.1.1.1, (y5.1.1.2.1, ())), (y5.1.2.1, ())), ()))))))) (fun b3 =>
 (Empty.elim b3)) y2))))))
theorem euclid_Shifted.eq (g_euclid_check : euclid_check.G) (g_euclid_square : euclid_square.G) (g_ratio_Make : ratio_Make.G) (l0 : euclid_Shifted.A0) (x : euclid_Shifted.sh.X) : bodO (euclid_Shifted.E g_euclid_check g_euclid_square g_ratio_Make l0) euclid_Shifted.hs euclid_Shifted.c Try.f79 euclid_Shifted.sh euclid_Shifted.osh x = euclid_Shifted.f g_euclid_check g_euclid_square g_ratio_Make l0 x.1.1 x.1.2.1 := by
  show _ = (_ : Option _)
  kernel_rfl
noncomputable def euclid_Shifted (x_ y : List Int) : Option Y122 := euclid_Shifted.f euclid_check.F euclid_square.F ratio_Make.F euclid_Shifted.L0 x_ y
noncomputable def euclid_Shifted.F (x : Y124) : Option Y122 := euclid_Shifted x.1.1 x.1.2.1
theorem euclid_Shifted.L0_eq (x_0 y_1 : List Int) (sum_7 m_8 : Int) (v20 : List Int) (v21 v22 o0_0 o0_1 : Int) : euclid_Shifted.L0 ((x_0, y_1, (), sum_7, m_8, v20, v21, v22, ()), ((o0_0, o0_1, ()), ())) = euclid_Shifted.f0 euclid_Shifted.L0 x_0 y_1 sum_7 m_8 v20 v21 v22 o0_0 o0_1 :=
  loop_eq (E := (euclid_Shifted.E euclid_check.F euclid_square.F ratio_Make.F euclid_Shifted.L0)) (sh := euclid_Shifted.s0) (es := euclid_Shifted.x0) (lp := true) (H := fun L x => euclid_Shifted.eq0 euclid_check.F euclid_square.F ratio_Make.F euclid_Shifted.L0 L x) ((x_0, y_1, (), sum_7, m_8, v20, v21, v22, ()), ((o0_0, o0_1, ()), ()))
theorem euclid_Shifted.F_eq (x_ y : List Int) : euclid_Shifted.F ((x_, y, ()), ()) = euclid_Shifted.f euclid_check.F euclid_square.F ratio_Make.F euclid_Shifted.L0 x_ y := rfl
theorem euclid_Shifted.ok {tabs : List (Nat × Go.Obj)} (ht : TabsOk tabs) : FOK Try.prog tabs 79 (euclid_Shifted.fe euclid_Shifted.F) := by
  refine fn_keep2 Try.func79 (euclid_Shifted.eq euclid_check.F euclid_square.F ratio_Make.F euclid_Shifted.L0) pw tb (gt_ok ht) (by kernel_rfl) (by kernel_rfl) (fun g ks fe h => ?_) ?_
  · rcases c_cons h with ⟨rfl, rfl⟩ | h
    · exact euclid_check.ok ht
    rcases c_cons h with ⟨rfl, rfl⟩ | h
    · exact euclid_square.ok ht
    rcases c_cons h with ⟨rfl, rfl⟩ | h
    · exact ratio_Make.ok ht
    cases h
  · refine known_at 1 (by kernel_rfl) fun i hi => ?_
    match i, hi with
    | 0, _ => exact atomH (loop_ok (es := euclid_Shifted.x0) rfl (euclid_Shifted.eq0 euclid_check.F euclid_square.F ratio_Make.F euclid_Shifted.L0)) (by kernel_rfl)
    | n + 1, h => exact absurd h (by omega)

/-! window_Variance -/
def window_Variance.f0 (o0_0 o0_1 o0_2 : Int) : Option Y88 :=
  (bif (decide (o0_0 < (1:Int))) then
 (some (Sum.inl (((), (Bool.true, ())), ((o0_0, (o0_1, (o0_2, ()))), ()))))
 else
 (bif (decide (o0_0 > (2000:Int))) then
 (some (Sum.inl (((), (Bool.true, ())), ((o0_0, (o0_1, (o0_2, ()))), ()))))
 else
 (bif (decide (o0_1 < (Go.IntKind.wrap Go.IntKind.i64 ((-(1000:Int)) * o0_0)))) then
 (some (Sum.inl (((), (Bool.true, ())), ((o0_0, (o0_1, (o0_2, ()))), ()))))
 else
 (bif (decide (o0_1 > (Go.IntKind.wrap Go.IntKind.i64 ((1000:Int) * o0_0)))) then
 (some (Sum.inl (((), (Bool.true, ())), ((o0_0, (o0_1, (o0_2, ()))), ()))))
 else
 (bif (decide (o0_2 < (0:Int))) then
 (some (Sum.inl (((), (Bool.true, ())), ((o0_0, (o0_1, (o0_2, ()))), ()))))
 else
 (some (Sum.inl (((), ((decide (o0_2 > (Go.IntKind.wrap Go.IntKind.i64 ((1000000:Int) * o0_0)))), ())), ((o0_0, (o0_1, (o0_2, ()))), ())))))))))
theorem window_Variance.eq0 (l0 : window_Variance.A0) (L : window_Variance.A0) (x : window_Variance.s0.X) : rndO (window_Variance.E l0) window_Variance.hs window_Variance.c window_Variance.s0 window_Variance.x0 0 false L x = window_Variance.f0 x.2.1.1 x.2.1.2.1 x.2.1.2.2.1 := by
  show _ = (_ : Option _)
  kernel_rfl
noncomputable def window_Variance.L0 : Y112 → Option Y88 := fun x => window_Variance.f0 x.2.1.1 x.2.1.2.1 x.2.1.2.2.1
def window_Variance.f (l0 : Y112 → Option Y88) (x_Count x_Sum x_Square : Int) : Option Y143 :=
  (Option.bind (l0 (((), ()), ((x_Count, (x_Sum, (x_Square, ()))), ()))) (fun y0 =>
 (Sum.elim (fun a1 =>
 (bif a1.1.2.1 then
 (some (((0:Int), ()), ()))
 else
 (some (((Go.VI.mx (0:Int) (Go.IntKind.wrap Go.IntKind.i64 ((Go.IntKind.wrap Go.IntKind.i64 (a1.2.1.1 * a1.2.1.2.2.1)) - (Go.IntKind.wrap Go.IntKind.i64 (a1.2.1.2.1 * a1.2.1.2.1))))), ()), ())))) (fun b1 =>
 (Empty.elim b1)) y0)))
theorem window_Variance.eq (l0 : window_Variance.A0) (x : window_Variance.sh.X) : bodO (window_Variance.E l0) window_Variance.hs window_Variance.c Try.f105 window_Variance.sh window_Variance.osh x = window_Variance.f l0 x.1.1.1 x.1.1.2.1 x.1.1.2.2.1 := by
  show _ = (_ : Option _)
  kernel_rfl
noncomputable def window_Variance (x_Count x_Sum x_Square : Int) : Option Y143 := window_Variance.f window_Variance.L0 x_Count x_Sum x_Square
noncomputable def window_Variance.F (x : Y120) : Option Y143 := window_Variance x.1.1.1 x.1.1.2.1 x.1.1.2.2.1
theorem window_Variance.L0_eq (o0_0 o0_1 o0_2 : Int) : window_Variance.L0 (((), ()), ((o0_0, o0_1, o0_2, ()), ())) = window_Variance.f0 o0_0 o0_1 o0_2 := rfl
theorem window_Variance.F_eq (x_Count x_Sum x_Square : Int) : window_Variance.F (((x_Count, x_Sum, x_Square, ()), ()), ()) = window_Variance.f window_Variance.L0 x_Count x_Sum x_Square := rfl
theorem window_Variance.ok {tabs : List (Nat × Go.Obj)} (ht : TabsOk tabs) : FOK Try.prog tabs 105 (window_Variance.fe window_Variance.F) := by
  refine fn_keep2 Try.func105 (window_Variance.eq window_Variance.L0) pw tb (gt_ok ht) (by kernel_rfl) (by kernel_rfl) (fun g ks fe h => ?_) ?_
  · cases h
  · refine known_at 1 (by kernel_rfl) fun i hi => ?_
    match i, hi with
    | 0, _ => exact atomH (cut_ok (es := window_Variance.x0) rfl (window_Variance.eq0 window_Variance.L0)) (by kernel_rfl)
    | n + 1, h => exact absurd h (by omega)

/-! normal_variance -/
def normal_variance.f0 (L : Y75 → Option Y95) (v9 : List Int) (v10 v11 o0_0 o0_1 o0_2 : Int) : Option Y95 :=
  (bif (decide (v11 < v10)) then
 (bif (decide ((0:Int) ≤ v11)) then
 (bif (decide (v11 < (((List.length v9) : Nat) : Int))) then
 (Option.bind (L (((), (v9, (v10, ((Go.IntKind.wrap Go.IntKind.i64 (v11 + (1:Int))), ())))), ((o0_0, ((Go.IntKind.wrap Go.IntKind.i64 (o0_1 + (List.getD v9 (Int.toNat v11) (0:Int)))), ((Go.IntKind.wrap Go.IntKind.i64 (o0_2 + (Go.IntKind.wrap Go.IntKind.i64 ((List.getD v9 (Int.toNat v11) (0:Int)) * (List.getD v9 (Int.toNat v11) (0:Int)))))), ()))), ()))) (fun y3 =>
 (some y3)))
 else
 none)
 else
 none)
 else
 (some (Sum.inl (((), ()), ((o0_0, (o0_1, (o0_2, ()))), ())))))
theorem normal_variance.eq0 (g_window_Variance : window_Variance.G) (l0 : normal_variance.A0) (L : normal_variance.A0) (x : normal_variance.s0.X) : rndO (normal_variance.E g_window_Variance l0) normal_variance.hs normal_variance.c normal_variance.s0 normal_variance.x0 0 true L x = normal_variance.f0 L x.1.2.1 x.1.2.2.1 x.1.2.2.2.1 x.2.1.1 x.2.1.2.1 x.2.1.2.2.1 := by
  show _ = (_ : Option _)
  kernel_rfl
noncomputable def normal_variance.L0 : Y75 → Option Y95 := loop fun L x => normal_variance.f0 L x.1.2.1 x.1.2.2.1 x.1.2.2.2.1 x.2.1.1 x.2.1.2.1 x.2.1.2.2.1
def normal_variance.f (g_window_Variance : Y120 → Option Y143) (l0 : Y75 → Option Y95) (x_ : List Int) : Option Y143 :=
  (Option.bind (l0 (((), (x_, ((((List.length x_) : Nat) : Int), ((0:Int), ())))), (((((List.length x_) : Nat) : Int), ((0:Int), ((0:Int), ()))), ()))) (fun y0 =>
 (Sum.elim (fun a1 =>
 (Option.bind (g_window_Variance (((a1.2.1.1, (a1.2.1.2.1, (a1.2.1.2.2.1, ()))), ()), ())) (fun y2 =>
 (some ((y2.1.1, ()), ()))))) (fun b1 =>
 (Empty.elim b1)) y0)))
theorem normal_variance.eq (g_window_Variance : window_Variance.G) (l0 : normal_variance.A0) (x : normal_variance.sh.X) : bodO (normal_variance.E g_window_Variance l0) normal_variance.hs normal_variance.c Try.f100 normal_variance.sh normal_variance.osh x = normal_variance.f g_window_Variance l0 x.1.1 := by
  show _ = (_ : Option _)
  kernel_rfl
noncomputable def normal_variance (x_ : List Int) : Option Y143 := normal_variance.f window_Variance.F normal_variance.L0 x_
noncomputable def normal_variance.F (x : Y139) : Option Y143 := normal_variance x.1.1
theorem normal_variance.L0_eq (v9 : List Int) (v10 v11 o0_0 o0_1 o0_2 : Int) : normal_variance.L0 (((), v9, v10, v11, ()), ((o0_0, o0_1, o0_2, ()), ())) = normal_variance.f0 normal_variance.L0 v9 v10 v11 o0_0 o0_1 o0_2 :=
  loop_eq (E := (normal_variance.E window_Variance.F normal_variance.L0)) (sh := normal_variance.s0) (es := normal_variance.x0) (lp := true) (H := fun L x => normal_variance.eq0 window_Variance.F normal_variance.L0 L x) (((), v9, v10, v11, ()), ((o0_0, o0_1, o0_2, ()), ()))
theorem normal_variance.F_eq (x_ : List Int) : normal_variance.F ((x_, ()), ()) = normal_variance.f window_Variance.F normal_variance.L0 x_ := rfl
theorem normal_variance.ok {tabs : List (Nat × Go.Obj)} (ht : TabsOk tabs) : FOK Try.prog tabs 100 (normal_variance.fe normal_variance.F) := by
  refine fn_keep2 Try.func100 (normal_variance.eq window_Variance.F normal_variance.L0) pw tb (gt_ok ht) (by kernel_rfl) (by kernel_rfl) (fun g ks fe h => ?_) ?_
  · rcases c_cons h with ⟨rfl, rfl⟩ | h
    · exact window_Variance.ok ht
    cases h
  · refine known_at 1 (by kernel_rfl) fun i hi => ?_
    match i, hi with
    | 0, _ => exact atomH (loop_ok (es := normal_variance.x0) rfl (normal_variance.eq0 window_Variance.F normal_variance.L0)) (by kernel_rfl)
    | n + 1, h => exact absurd h (by omega)

/-! normal_product -/
def normal_product.f0 (L : Y62 → Option Y101) (x_0 y_1 : List Int) (p_5 s_6 t_7 : Int) (v10 : List Int) (v11 v12 : Int) : Option Y101 :=
  (bif (decide (v12 < v11)) then
 (bif (decide ((0:Int) ≤ v12)) then
 (bif (decide (v12 < (((List.length v10) : Nat) : Int))) then
 (bif (decide ((0:Int) ≤ v12)) then
 (bif (decide (v12 < (((List.length y_1) : Nat) : Int))) then
 (bif (decide ((0:Int) ≤ v12)) then
 (bif (decide (v12 < (((List.length y_1) : Nat) : Int))) then
 (Option.bind (L ((x_0, (y_1, ((Go.IntKind.wrap Go.IntKind.i64 (p_5 + (Go.IntKind.wrap Go.IntKind.i64 ((List.getD v10 (Int.toNat v12) (0:Int)) * (List.getD y_1 (Int.toNat v12) (0:Int)))))), ((Go.IntKind.wrap Go.IntKind.i64 (s_6 + (List.getD v10 (Int.toNat v12) (0:Int)))), ((Go.IntKind.wrap Go.IntKind.i64 (t_7 + (List.getD y_1 (Int.toNat v12) (0:Int)))), (v10, (v11, ((Go.IntKind.wrap Go.IntKind.i64 (v12 + (1:Int))), ())))))))), ())) (fun y7 =>
 (some y7)))
 else
 none)
 else
 none)
 else
 none)
 else
 none)
 else
 none)
 else
 none)
 else
 (some (Sum.inl ((x_0, (p_5, (s_6, (t_7, ())))), ()))))
theorem normal_product.eq0 (l0 : normal_product.A0) (L : normal_product.A0) (x : normal_product.s0.X) : rndO (normal_product.E l0) normal_product.hs normal_product.c normal_product.s0 normal_product.x0 0 true L x = normal_product.f0 L x.1.1 x.1.2.1 x.1.2.2.1 x.1.2.2.2.1 x.1.2.2.2.2.1 x.1.2.2.2.2.2.1 x.1.2.2.2.2.2.2.1 x.1.2.2.2.2.2.2.2.1 := by
  show _ = (_ : Option _)
  kernel_rfl
noncomputable def normal_product.L0 : Y62 → Option Y101 := loop fun L x => normal_product.f0 L x.1.1 x.1.2.1 x.1.2.2.1 x.1.2.2.2.1 x.1.2.2.2.2.1 x.1.2.2.2.2.2.1 x.1.2.2.2.2.2.2.1 x.1.2.2.2.2.2.2.2.1
def normal_product.f (l0 : Y62 → Option Y101) (x_ y : List Int) : Option Y143 :=
  (Option.bind (l0 ((x_, (y, ((0:Int), ((0:Int), ((0:Int), (x_, ((((List.length x_) : Nat) : Int), ((0:Int), ())))))))), ())) (fun y0 =>
 (Sum.elim (fun a1 =>
 (some (((Go.IntKind.wrap Go.IntKind.i64 ((Go.IntKind.wrap Go.IntKind.i64 ((((List.length a1.1.1) : Nat) : Int) * a1.1.2.1)) - (Go.IntKind.wrap Go.IntKind.i64 (a1.1.2.2.1 * a1.1.2.2.2.1)))), ()), ()))) (fun b1 =>
 (Empty.elim b1)) y0)))
theorem normal_product.eq (l0 : normal_product.A0) (x : normal_product.sh.X) : bodO (normal_product.E l0) normal_product.hs normal_product.c Try.f101 normal_product.sh normal_product.osh x = normal_product.f l0 x.1.1 x.1.2.1 := by
  show _ = (_ : Option _)
  kernel_rfl
noncomputable def normal_product (x_ y : List Int) : Option Y143 := normal_product.f normal_product.L0 x_ y
noncomputable def normal_product.F (x : Y124) : Option Y143 := normal_product x.1.1 x.1.2.1
theorem normal_product.L0_eq (x_0 y_1 : List Int) (p_5 s_6 t_7 : Int) (v10 : List Int) (v11 v12 : Int) : normal_product.L0 ((x_0, y_1, p_5, s_6, t_7, v10, v11, v12, ()), ()) = normal_product.f0 normal_product.L0 x_0 y_1 p_5 s_6 t_7 v10 v11 v12 :=
  loop_eq (E := (normal_product.E normal_product.L0)) (sh := normal_product.s0) (es := normal_product.x0) (lp := true) (H := fun L x => normal_product.eq0 normal_product.L0 L x) ((x_0, y_1, p_5, s_6, t_7, v10, v11, v12, ()), ())
theorem normal_product.F_eq (x_ y : List Int) : normal_product.F ((x_, y, ()), ()) = normal_product.f normal_product.L0 x_ y := rfl
theorem normal_product.ok {tabs : List (Nat × Go.Obj)} (ht : TabsOk tabs) : FOK Try.prog tabs 101 (normal_product.fe normal_product.F) := by
  refine fn_keep2 Try.func101 (normal_product.eq normal_product.L0) pw tb (gt_ok ht) (by kernel_rfl) (by kernel_rfl) (fun g ks fe h => ?_) ?_
  · cases h
  · refine known_at 1 (by kernel_rfl) fun i hi => ?_
    match i, hi with
    | 0, _ => exact atomH (loop_ok (es := normal_product.x0) rfl (normal_product.eq0 normal_product.L0)) (by kernel_rfl)
    | n + 1, h => exact absurd h (by omega)

/-! normal_gap -/
def normal_gap.f1 (x_0 y_1 : List Int) (v_6 w_7 o0_0 o0_1 : Int) : Option Y48 :=
  (bif (v_6 == (0:Int)) then
 (some (Sum.inl ((x_0, (y_1, ((), (v_6, (w_7, ((w_7 == (0:Int)), ())))))), ((o0_0, (o0_1, ())), ()))))
 else
 (some (Sum.inl ((x_0, (y_1, ((), (v_6, (w_7, (Bool.false, ())))))), ((o0_0, (o0_1, ())), ())))))
theorem normal_gap.eq1 (g_normal_variance : normal_variance.G) (g_ratio_Make : ratio_Make.G) (g_normal_product : normal_product.G) (l0 : normal_gap.A0) (l1 : normal_gap.A1) (L : normal_gap.A1) (x : normal_gap.s1.X) : rndO (normal_gap.E g_normal_variance g_ratio_Make g_normal_product l0 l1) normal_gap.hs normal_gap.c normal_gap.s1 normal_gap.x1 1 false L x = normal_gap.f1 x.1.1 x.1.2.1 x.1.2.2.2.1 x.1.2.2.2.2.1 x.2.1.1 x.2.1.2.1 := by
  show _ = (_ : Option _)
  kernel_rfl
noncomputable def normal_gap.L1 : Y66 → Option Y48 := fun x => normal_gap.f1 x.1.1 x.1.2.1 x.1.2.2.2.1 x.1.2.2.2.2.1 x.2.1.1 x.2.1.2.1
def normal_gap.f0 (g_ratio_Make : Y140 → Option Y122) (l1 : Y66 → Option Y48) (x_0 y_1 : List Int) (v_6 w_7 o0_0 o0_1 : Int) : Option Y23 :=
  (Option.bind (l1 ((x_0, (y_1, ((), (v_6, (w_7, ()))))), ((o0_0, (o0_1, ())), ()))) (fun y0 =>
 (Sum.elim (fun a1 =>
 (bif a1.1.2.2.2.2.2.1 then
 (Option.bind (g_ratio_Make (((0:Int), ((1:Int), ())), ())) (fun y3 =>
 (some (Sum.inl (((), (y3.1.2.1, ())), ((y3.1.1.1, (y3.1.1.2.1, ())), ()))))))
 else
 (bif (a1.1.2.2.2.1 == (0:Int)) then
 (Option.bind (g_ratio_Make (((1:Int), ((1:Int), ())), ())) (fun y4 =>
 (some (Sum.inl (((), (y4.1.2.1, ())), ((y4.1.1.1, (y4.1.1.2.1, ())), ()))))))
 else
 (bif (a1.1.2.2.2.2.1 == (0:Int)) then
 (Option.bind (g_ratio_Make (((1:Int), ((1:Int), ())), ())) (fun y5 =>
 (some (Sum.inl (((), (y5.1.2.1, ())), ((y5.1.1.1, (y5.1.1.2.1, ())), ()))))))
 else
 (some (Sum.inr (Sum.inl ((a1.1.1, (a1.1.2.1, ((), (a1.1.2.2.2.1, (a1.1.2.2.2.2.1, ()))))), ((a1.2.1.1, (a1.2.1.2.1, ())), ()))))))))) (fun b1 =>
 (Empty.elim b1)) y0)))
theorem normal_gap.eq0 (g_normal_variance : normal_variance.G) (g_ratio_Make : ratio_Make.G) (g_normal_product : normal_product.G) (l0 : normal_gap.A0) (l1 : normal_gap.A1) (L : normal_gap.A0) (x : normal_gap.s0.X) : rndO (normal_gap.E g_normal_variance g_ratio_Make g_normal_product l0 l1) normal_gap.hs normal_gap.c normal_gap.s0 normal_gap.x0 0 false L x = normal_gap.f0 g_ratio_Make l1 x.1.1 x.1.2.1 x.1.2.2.2.1 x.1.2.2.2.2.1 x.2.1.1 x.2.1.2.1 := by
  show _ = (_ : Option _)
  kernel_rfl
noncomputable def normal_gap.L0 : Y66 → Option Y23 := fun x => normal_gap.f0 ratio_Make.F normal_gap.L1 x.1.1 x.1.2.1 x.1.2.2.2.1 x.1.2.2.2.2.1 x.2.1.1 x.2.1.2.1
def normal_gap.f (g_normal_variance : Y139 → Option Y143) (g_ratio_Make : Y140 → Option Y122) (g_normal_product : Y124 → Option Y143) (l0 : Y66 → Option Y23) (x_ y : List Int) : Option Y122 :=
  (Option.bind (g_normal_variance ((x_, ()), ())) (fun y0 =>
 (Option.bind (g_normal_variance ((y, ()), ())) (fun y1 =>
 (Option.bind (l0 ((x_, (y, ((), (y0.1.1, (y1.1.1, ()))))), (((0:Int), ((0:Int), ())), ()))) (fun y2 =>
 (Sum.elim (fun a3 =>
 (some (((a3.2.1.1, (a3.2.1.2.1, ())), (a3.1.2.1, ())), ()))) (fun b3 =>
 (Sum.elim (fun a4 =>
 (Option.bind (g_normal_product ((a4.1.1, (a4.1.2.1, ())), ())) (fun y5 =>
 (bif (decide (y5.1.1 < (0:Int))) then
 (Option.bind (g_ratio_Make (((Go.IntKind.wrap Go.IntKind.i64 ((Go.IntKind.wrap Go.IntKind.i64 (a4.1.2.2.2.1 * a4.1.2.2.2.2.1)) + (Go.IntKind.wrap Go.IntKind.i64 (y5.1.1 * y5.1.1)))), ((Go.IntKind.wrap Go.IntKind.i64 (a4.1.2.2.2.1 * a4.1.2.2.2.2.1)), ())), ())) (fun y7 =>
 (some (((y7.1.1.1, (y7.1.1.2.1, ())), (y7.1.2.1, ())), ()))))
 else
 (Option.bind (g_ratio_Make (((Go.IntKind.wrap Go.IntKind.i64 ((Go.IntKind.wrap Go.IntKind.i64 (a4.1.2.2.2.1 * a4.1.2.2.2.2.1)) - (Go.IntKind.wrap Go.IntKind.i64 (y5.1.1 * y5.1.1)))), ((Go.IntKind.wrap Go.IntKind.i64 (a4.1.2.2.2.1 * a4.1.2.2.2.2.1)), ())), ())) (fun y7 =>
 (some (((y7.1.1.1, (y7.1.1.2.1, ())), (y7.1.2.1, ())), ())))))))) (fun b4 =>
 (Empty.elim b4)) b3)) y2)))))))
theorem normal_gap.eq (g_normal_variance : normal_variance.G) (g_ratio_Make : ratio_Make.G) (g_normal_product : normal_product.G) (l0 : normal_gap.A0) (l1 : normal_gap.A1) (x : normal_gap.sh.X) : bodO (normal_gap.E g_normal_variance g_ratio_Make g_normal_product l0 l1) normal_gap.hs normal_gap.c Try.f93 normal_gap.sh normal_gap.osh x = normal_gap.f g_normal_variance g_ratio_Make g_normal_product l0 x.1.1 x.1.2.1 := by
  show _ = (_ : Option _)
  kernel_rfl
noncomputable def normal_gap (x_ y : List Int) : Option Y122 := normal_gap.f normal_variance.F ratio_Make.F normal_product.F normal_gap.L0 x_ y
noncomputable def normal_gap.F (x : Y124) : Option Y122 := normal_gap x.1.1 x.1.2.1
theorem normal_gap.L0_eq (x_0 y_1 : List Int) (v_6 w_7 o0_0 o0_1 : Int) : normal_gap.L0 ((x_0, y_1, (), v_6, w_7, ()), ((o0_0, o0_1, ()), ())) = normal_gap.f0 ratio_Make.F normal_gap.L1 x_0 y_1 v_6 w_7 o0_0 o0_1 := rfl
theorem normal_gap.L1_eq (x_0 y_1 : List Int) (v_6 w_7 o0_0 o0_1 : Int) : normal_gap.L1 ((x_0, y_1, (), v_6, w_7, ()), ((o0_0, o0_1, ()), ())) = normal_gap.f1 x_0 y_1 v_6 w_7 o0_0 o0_1 := rfl
theorem normal_gap.F_eq (x_ y : List Int) : normal_gap.F ((x_, y, ()), ()) = normal_gap.f normal_variance.F ratio_Make.F normal_product.F normal_gap.L0 x_ y := rfl
theorem normal_gap.ok {tabs : List (Nat × Go.Obj)} (ht : TabsOk tabs) : FOK Try.prog tabs 93 (normal_gap.fe normal_gap.F) := by
  refine fn_keep2 Try.func93 (normal_gap.eq normal_variance.F ratio_Make.F normal_product.F normal_gap.L0 normal_gap.L1) pw tb (gt_ok ht) (by kernel_rfl) (by kernel_rfl) (fun g ks fe h => ?_) ?_
  · rcases c_cons h with ⟨rfl, rfl⟩ | h
    · exact normal_variance.ok ht
    rcases c_cons h with ⟨rfl, rfl⟩ | h
    · exact ratio_Make.ok ht
    rcases c_cons h with ⟨rfl, rfl⟩ | h
    · exact normal_product.ok ht
    cases h
  · refine known_at 2 (by kernel_rfl) fun i hi => ?_
    match i, hi with
    | 0, _ => exact atomH (cut_ok (es := normal_gap.x0) rfl (normal_gap.eq0 normal_variance.F ratio_Make.F normal_product.F normal_gap.L0 normal_gap.L1)) (by kernel_rfl)
    | 1, _ => exact atomH (cut_ok (es := normal_gap.x1) rfl (normal_gap.eq1 normal_variance.F ratio_Make.F normal_product.F normal_gap.L0 normal_gap.L1)) (by kernel_rfl)
    | n + 2, h => exact absurd h (by omega)

/-! normal_Gap -/
def normal_Gap.f (g_euclid_Distance : Y124 → Option Y140) (g_normal_gap : Y124 → Option Y122) (x_ y : List Int) : Option Y122 :=
  (Option.bind (g_euclid_Distance ((x_, (y, ())), ())) (fun y0 =>
 (bif (y0.1.2.1 != (0:Int)) then
 (some ((((0:Int), ((0:Int), ())), (y0.1.2.1, ())), ()))
 else
 (Option.bind (g_normal_gap ((x_, (y, ())), ())) (fun y2 =>
 (some (((y2.1.1.1, (y2.1.1.2.1, ())), (y2.1.2.1, ())), ())))))))
theorem normal_Gap.eq (g_euclid_Distance : euclid_Distance.G) (g_normal_gap : normal_gap.G) (x : normal_Gap.sh.X) : bodO (normal_Gap.E g_euclid_Distance g_normal_gap) normal_Gap.hs normal_Gap.c Try.f80 normal_Gap.sh normal_Gap.osh x = normal_Gap.f g_euclid_Distance g_normal_gap x.1.1 x.1.2.1 := by
  show _ = (_ : Option _)
  kernel_rfl
noncomputable def normal_Gap (x_ y : List Int) : Option Y122 := normal_Gap.f euclid_Distance.F normal_gap.F x_ y
noncomputable def normal_Gap.F (x : Y124) : Option Y122 := normal_Gap x.1.1 x.1.2.1
theorem normal_Gap.F_eq (x_ y : List Int) : normal_Gap.F ((x_, y, ()), ()) = normal_Gap.f euclid_Distance.F normal_gap.F x_ y := rfl
theorem normal_Gap.ok {tabs : List (Nat × Go.Obj)} (ht : TabsOk tabs) : FOK Try.prog tabs 80 (normal_Gap.fe normal_Gap.F) := by
  refine fn_keep2 Try.func80 (normal_Gap.eq euclid_Distance.F normal_gap.F) pw tb (gt_ok ht) (by kernel_rfl) (by kernel_rfl) (fun g ks fe h => ?_) ?_
  · rcases c_cons h with ⟨rfl, rfl⟩ | h
    · exact euclid_Distance.ok ht
    rcases c_cons h with ⟨rfl, rfl⟩ | h
    · exact normal_gap.ok ht
    cases h
  · exact known_at 0 (by kernel_rfl) fun i hi => absurd hi (Nat.not_lt_zero i)

/-! warp_check -/
def warp_check.f0 (x_0 y_1 : List Int) (band_2 : Int) : Option Y92 :=
  (bif (decide (band_2 < (0:Int))) then
 (some (Sum.inl ((x_0, (y_1, (band_2, (Bool.true, ())))), ())))
 else
 (some (Sum.inl ((x_0, (y_1, (band_2, ((decide (band_2 > (32:Int))), ())))), ()))))
theorem warp_check.eq0 (g_euclid_Distance : euclid_Distance.G) (l0 : warp_check.A0) (l1 : warp_check.A1) (L : warp_check.A0) (x : warp_check.s0.X) : rndO (warp_check.E g_euclid_Distance l0 l1) warp_check.hs warp_check.c warp_check.s0 warp_check.x0 0 false L x = warp_check.f0 x.1.1 x.1.2.1 x.1.2.2.1 := by
  show _ = (_ : Option _)
  kernel_rfl
noncomputable def warp_check.L0 : Y115 → Option Y92 := fun x => warp_check.f0 x.1.1 x.1.2.1 x.1.2.2.1
def warp_check.f1 (x_0 y_1 : List Int) (band_2 e_8 f_10 : Int) : Option Y72 :=
  (bif (e_8 == (8:Int)) then
 (some (Sum.inl ((x_0, (y_1, (band_2, (e_8, (f_10, (Bool.true, ())))))), ())))
 else
 (some (Sum.inl ((x_0, (y_1, (band_2, (e_8, (f_10, ((f_10 == (8:Int)), ())))))), ()))))
theorem warp_check.eq1 (g_euclid_Distance : euclid_Distance.G) (l0 : warp_check.A0) (l1 : warp_check.A1) (L : warp_check.A1) (x : warp_check.s1.X) : rndO (warp_check.E g_euclid_Distance l0 l1) warp_check.hs warp_check.c warp_check.s1 warp_check.x1 1 false L x = warp_check.f1 x.1.1 x.1.2.1 x.1.2.2.1 x.1.2.2.2.1 x.1.2.2.2.2.1 := by
  show _ = (_ : Option _)
  kernel_rfl
noncomputable def warp_check.L1 : Y96 → Option Y72 := fun x => warp_check.f1 x.1.1 x.1.2.1 x.1.2.2.1 x.1.2.2.2.1 x.1.2.2.2.2.1
def warp_check.f (g_euclid_Distance : Y124 → Option Y140) (l0 : Y115 → Option Y92) (l1 : Y96 → Option Y72) (x_ y : List Int) (band : Int) : Option Y143 :=
  (Option.bind (l0 ((x_, (y, (band, ()))), ())) (fun y0 =>
 (Sum.elim (fun a1 =>
 (bif a1.1.2.2.2.1 then
 (some (((1:Int), ()), ()))
 else
 (Option.bind (g_euclid_Distance ((a1.1.1, (a1.1.1, ())), ())) (fun y3 =>
 (Option.bind (g_euclid_Distance ((a1.1.2.1, (a1.1.2.1, ())), ())) (fun y4 =>
 (Option.bind (l1 ((a1.1.1, (a1.1.2.1, (a1.1.2.2.1, (y3.1.2.1, (y4.1.2.1, ()))))), ())) (fun y5 =>
 (Sum.elim (fun a6 =>
 (bif a6.1.2.2.2.2.2.1 then
 (some (((8:Int), ()), ()))
 else
 (bif (a6.1.2.2.2.1 != (0:Int)) then
 (some ((a6.1.2.2.2.1, ()), ()))
 else
 (bif (a6.1.2.2.2.2.1 != (0:Int)) then
 (some ((a6.1.2.2.2.2.1, ()), ()))
 else
 (bif (decide ((Go.IntKind.wrap Go.IntKind.i64 ((((List.length a6.1.1) : Nat) : Int) - (((List.length a6.1.2.1) : Nat) : Int))) > a6.1.2.2.1)) then
 (some (((8:Int), ()), ()))
 else
 (bif (decide ((Go.IntKind.wrap Go.IntKind.i64 ((((List.length a6.1.2.1) : Nat) : Int) - (((List.length a6.1.1) : Nat) : Int))) > a6.1.2.2.1)) then
 (some (((8:Int), ()), ()))
 else
 (some (((0:Int), ()), ())))))))) (fun b6 =>
 (Empty.elim b6)) y5))))))))) (fun b1 =>
 (Empty.elim b1)) y0)))
theorem warp_check.eq (g_euclid_Distance : euclid_Distance.G) (l0 : warp_check.A0) (l1 : warp_check.A1) (x : warp_check.sh.X) : bodO (warp_check.E g_euclid_Distance l0 l1) warp_check.hs warp_check.c Try.f94 warp_check.sh warp_check.osh x = warp_check.f g_euclid_Distance l0 l1 x.1.1 x.1.2.1 x.1.2.2.1 := by
  show _ = (_ : Option _)
  kernel_rfl
noncomputable def warp_check (x_ y : List Int) (band : Int) : Option Y143 := warp_check.f euclid_Distance.F warp_check.L0 warp_check.L1 x_ y band
noncomputable def warp_check.F (x : Y115) : Option Y143 := warp_check x.1.1 x.1.2.1 x.1.2.2.1
theorem warp_check.L0_eq (x_0 y_1 : List Int) (band_2 : Int) : warp_check.L0 ((x_0, y_1, band_2, ()), ()) = warp_check.f0 x_0 y_1 band_2 := rfl
theorem warp_check.L1_eq (x_0 y_1 : List Int) (band_2 e_8 f_10 : Int) : warp_check.L1 ((x_0, y_1, band_2, e_8, f_10, ()), ()) = warp_check.f1 x_0 y_1 band_2 e_8 f_10 := rfl
theorem warp_check.F_eq (x_ y : List Int) (band : Int) : warp_check.F ((x_, y, band, ()), ()) = warp_check.f euclid_Distance.F warp_check.L0 warp_check.L1 x_ y band := rfl
theorem warp_check.ok {tabs : List (Nat × Go.Obj)} (ht : TabsOk tabs) : FOK Try.prog tabs 94 (warp_check.fe warp_check.F) := by
  refine fn_keep2 Try.func94 (warp_check.eq euclid_Distance.F warp_check.L0 warp_check.L1) pw tb (gt_ok ht) (by kernel_rfl) (by kernel_rfl) (fun g ks fe h => ?_) ?_
  · rcases c_cons h with ⟨rfl, rfl⟩ | h
    · exact euclid_Distance.ok ht
    cases h
  · refine known_at 2 (by kernel_rfl) fun i hi => ?_
    match i, hi with
    | 0, _ => exact atomH (cut_ok (es := warp_check.x0) rfl (warp_check.eq0 euclid_Distance.F warp_check.L0 warp_check.L1)) (by kernel_rfl)
    | 1, _ => exact atomH (cut_ok (es := warp_check.x1) rfl (warp_check.eq1 euclid_Distance.F warp_check.L0 warp_check.L1)) (by kernel_rfl)
    | n + 2, h => exact absurd h (by omega)

/-! warp_near -/
def warp_near.f (i j band : Int) : Option Y142 :=
  (bif (decide ((Go.IntKind.wrap Go.IntKind.i64 (i - j)) ≤ band)) then
 (some (((decide ((Go.IntKind.wrap Go.IntKind.i64 (j - i)) ≤ band)), ()), ()))
 else
 (some ((Bool.false, ()), ())))
theorem warp_near.eq (x : warp_near.sh.X) : bodO (warp_near.E) warp_near.hs warp_near.c Try.f106 warp_near.sh warp_near.osh x = warp_near.f x.1.1 x.1.2.1 x.1.2.2.1 := by
  show _ = (_ : Option _)
  kernel_rfl
noncomputable def warp_near (i j band : Int) : Option Y142 := warp_near.f i j band
noncomputable def warp_near.F (x : Y135) : Option Y142 := warp_near x.1.1 x.1.2.1 x.1.2.2.1
theorem warp_near.F_eq (i j band : Int) : warp_near.F ((i, j, band, ()), ()) = warp_near.f i j band := rfl
theorem warp_near.ok {tabs : List (Nat × Go.Obj)} (ht : TabsOk tabs) : FOK Try.prog tabs 106 (warp_near.fe warp_near.F) := by
  refine fn_keep2 Try.func106 (warp_near.eq) pw tb (gt_ok ht) (by kernel_rfl) (by kernel_rfl) (fun g ks fe h => ?_) ?_
  · cases h
  · exact known_at 0 (by kernel_rfl) fun i hi => absurd hi (Nat.not_lt_zero i)

/-! warp_fill -/
def warp_fill.f1 (before_1 x_2 y_3 : List Int) (band_4 i_5 j_12 least_13 v15 v16 : Int) (o0 : List Int) : Option Y28 :=
  (bif (i_5 == (0:Int)) then
 (some (Sum.inl (((), (before_1, (x_2, (y_3, (band_4, (i_5, (j_12, (least_13, (v15, (v16, ((j_12 == (0:Int)), ()))))))))))), (o0, ()))))
 else
 (some (Sum.inl (((), (before_1, (x_2, (y_3, (band_4, (i_5, (j_12, (least_13, (v15, (v16, (Bool.false, ()))))))))))), (o0, ())))))
theorem warp_fill.eq1 (g_warp_near : warp_near.G) (l0 : warp_fill.A0) (l1 : warp_fill.A1) (l2 : warp_fill.A2) (l3 : warp_fill.A3) (l4 : warp_fill.A4) (l5 : warp_fill.A5) (L : warp_fill.A1) (x : warp_fill.s1.X) : rndO (warp_fill.E g_warp_near l0 l1 l2 l3 l4 l5) warp_fill.hs warp_fill.c warp_fill.s1 warp_fill.x1 1 false L x = warp_fill.f1 x.1.2.1 x.1.2.2.1 x.1.2.2.2.1 x.1.2.2.2.2.1 x.1.2.2.2.2.2.1 x.1.2.2.2.2.2.2.1 x.1.2.2.2.2.2.2.2.1 x.1.2.2.2.2.2.2.2.2.1 x.1.2.2.2.2.2.2.2.2.2.1 x.2.1 := by
  show _ = (_ : Option _)
  kernel_rfl
noncomputable def warp_fill.L1 : Y37 → Option Y28 := fun x => warp_fill.f1 x.1.2.1 x.1.2.2.1 x.1.2.2.2.1 x.1.2.2.2.2.1 x.1.2.2.2.2.2.1 x.1.2.2.2.2.2.2.1 x.1.2.2.2.2.2.2.2.1 x.1.2.2.2.2.2.2.2.2.1 x.1.2.2.2.2.2.2.2.2.2.1 x.2.1
def warp_fill.f2 (before_1 x_2 y_3 : List Int) (band_4 i_5 j_12 least_13 v15 v16 : Int) (v32 : Bool) (o0 : List Int) : Option Y31 :=
  (bif v32 then
 (some (Sum.inl (((), (before_1, (x_2, (y_3, (band_4, (i_5, (j_12, ((0:Int), (v15, (v16, ())))))))))), (o0, ()))))
 else
 (some (Sum.inl (((), (before_1, (x_2, (y_3, (band_4, (i_5, (j_12, (least_13, (v15, (v16, ())))))))))), (o0, ())))))
theorem warp_fill.eq2 (g_warp_near : warp_near.G) (l0 : warp_fill.A0) (l1 : warp_fill.A1) (l2 : warp_fill.A2) (l3 : warp_fill.A3) (l4 : warp_fill.A4) (l5 : warp_fill.A5) (L : warp_fill.A2) (x : warp_fill.s2.X) : rndO (warp_fill.E g_warp_near l0 l1 l2 l3 l4 l5) warp_fill.hs warp_fill.c warp_fill.s2 warp_fill.x2 2 false L x = warp_fill.f2 x.1.2.1 x.1.2.2.1 x.1.2.2.2.1 x.1.2.2.2.2.1 x.1.2.2.2.2.2.1 x.1.2.2.2.2.2.2.1 x.1.2.2.2.2.2.2.2.1 x.1.2.2.2.2.2.2.2.2.1 x.1.2.2.2.2.2.2.2.2.2.1 x.1.2.2.2.2.2.2.2.2.2.2.1 x.2.1 := by
  show _ = (_ : Option _)
  kernel_rfl
noncomputable def warp_fill.L2 : Y32 → Option Y31 := fun x => warp_fill.f2 x.1.2.1 x.1.2.2.1 x.1.2.2.2.1 x.1.2.2.2.2.1 x.1.2.2.2.2.2.1 x.1.2.2.2.2.2.2.1 x.1.2.2.2.2.2.2.2.1 x.1.2.2.2.2.2.2.2.2.1 x.1.2.2.2.2.2.2.2.2.2.1 x.1.2.2.2.2.2.2.2.2.2.2.1 x.2.1
def warp_fill.f3 (before_1 x_2 y_3 : List Int) (band_4 i_5 j_12 least_13 v15 v16 : Int) (v34 : Bool) (o0 : List Int) : Option Y31 :=
  (bif v34 then
 (bif (decide ((0:Int) ≤ (Go.IntKind.wrap Go.IntKind.i64 (j_12 - (1:Int))))) then
 (bif (decide ((Go.IntKind.wrap Go.IntKind.i64 (j_12 - (1:Int))) < (((List.length o0) : Nat) : Int))) then
 (some (Sum.inl (((), (before_1, (x_2, (y_3, (band_4, (i_5, (j_12, ((Go.VI.mn least_13 (List.getD o0 (Int.toNat (Go.IntKind.wrap Go.IntKind.i64 (j_12 - (1:Int)))) (0:Int))), (v15, (v16, ())))))))))), (o0, ()))))
 else
 none)
 else
 none)
 else
 (some (Sum.inl (((), (before_1, (x_2, (y_3, (band_4, (i_5, (j_12, (least_13, (v15, (v16, ())))))))))), (o0, ())))))
theorem warp_fill.eq3 (g_warp_near : warp_near.G) (l0 : warp_fill.A0) (l1 : warp_fill.A1) (l2 : warp_fill.A2) (l3 : warp_fill.A3) (l4 : warp_fill.A4) (l5 : warp_fill.A5) (L : warp_fill.A3) (x : warp_fill.s3.X) : rndO (warp_fill.E g_warp_near l0 l1 l2 l3 l4 l5) warp_fill.hs warp_fill.c warp_fill.s3 warp_fill.x3 3 false L x = warp_fill.f3 x.1.2.1 x.1.2.2.1 x.1.2.2.2.1 x.1.2.2.2.2.1 x.1.2.2.2.2.2.1 x.1.2.2.2.2.2.2.1 x.1.2.2.2.2.2.2.2.1 x.1.2.2.2.2.2.2.2.2.1 x.1.2.2.2.2.2.2.2.2.2.1 x.1.2.2.2.2.2.2.2.2.2.2.1 x.2.1 := by
  show _ = (_ : Option _)
  kernel_rfl
noncomputable def warp_fill.L3 : Y32 → Option Y31 := fun x => warp_fill.f3 x.1.2.1 x.1.2.2.1 x.1.2.2.2.1 x.1.2.2.2.2.1 x.1.2.2.2.2.2.1 x.1.2.2.2.2.2.2.1 x.1.2.2.2.2.2.2.2.1 x.1.2.2.2.2.2.2.2.2.1 x.1.2.2.2.2.2.2.2.2.2.1 x.1.2.2.2.2.2.2.2.2.2.2.1 x.2.1
def warp_fill.f4 (before_1 x_2 y_3 : List Int) (band_4 i_5 j_12 least_13 v15 v16 : Int) (v43 : Bool) (o0 : List Int) : Option Y31 :=
  (bif v43 then
 (bif (decide ((0:Int) ≤ j_12)) then
 (bif (decide (j_12 < (((List.length before_1) : Nat) : Int))) then
 (some (Sum.inl (((), (before_1, (x_2, (y_3, (band_4, (i_5, (j_12, ((Go.VI.mn least_13 (List.getD before_1 (Int.toNat j_12) (0:Int))), (v15, (v16, ())))))))))), (o0, ()))))
 else
 none)
 else
 none)
 else
 (some (Sum.inl (((), (before_1, (x_2, (y_3, (band_4, (i_5, (j_12, (least_13, (v15, (v16, ())))))))))), (o0, ())))))
theorem warp_fill.eq4 (g_warp_near : warp_near.G) (l0 : warp_fill.A0) (l1 : warp_fill.A1) (l2 : warp_fill.A2) (l3 : warp_fill.A3) (l4 : warp_fill.A4) (l5 : warp_fill.A5) (L : warp_fill.A4) (x : warp_fill.s4.X) : rndO (warp_fill.E g_warp_near l0 l1 l2 l3 l4 l5) warp_fill.hs warp_fill.c warp_fill.s4 warp_fill.x4 4 false L x = warp_fill.f4 x.1.2.1 x.1.2.2.1 x.1.2.2.2.1 x.1.2.2.2.2.1 x.1.2.2.2.2.2.1 x.1.2.2.2.2.2.2.1 x.1.2.2.2.2.2.2.2.1 x.1.2.2.2.2.2.2.2.2.1 x.1.2.2.2.2.2.2.2.2.2.1 x.1.2.2.2.2.2.2.2.2.2.2.1 x.2.1 := by
  show _ = (_ : Option _)
  kernel_rfl
noncomputable def warp_fill.L4 : Y32 → Option Y31 := fun x => warp_fill.f4 x.1.2.1 x.1.2.2.1 x.1.2.2.2.1 x.1.2.2.2.2.1 x.1.2.2.2.2.2.1 x.1.2.2.2.2.2.2.1 x.1.2.2.2.2.2.2.2.1 x.1.2.2.2.2.2.2.2.2.1 x.1.2.2.2.2.2.2.2.2.2.1 x.1.2.2.2.2.2.2.2.2.2.2.1 x.2.1
def warp_fill.f5 (before_1 x_2 y_3 : List Int) (band_4 i_5 j_12 least_13 v15 v16 : Int) (o0 : List Int) : Option Y28 :=
  (bif (decide (i_5 > (0:Int))) then
 (some (Sum.inl (((), (before_1, (x_2, (y_3, (band_4, (i_5, (j_12, (least_13, (v15, (v16, ((decide (j_12 > (0:Int))), ()))))))))))), (o0, ()))))
 else
 (some (Sum.inl (((), (before_1, (x_2, (y_3, (band_4, (i_5, (j_12, (least_13, (v15, (v16, (Bool.false, ()))))))))))), (o0, ())))))
theorem warp_fill.eq5 (g_warp_near : warp_near.G) (l0 : warp_fill.A0) (l1 : warp_fill.A1) (l2 : warp_fill.A2) (l3 : warp_fill.A3) (l4 : warp_fill.A4) (l5 : warp_fill.A5) (L : warp_fill.A5) (x : warp_fill.s5.X) : rndO (warp_fill.E g_warp_near l0 l1 l2 l3 l4 l5) warp_fill.hs warp_fill.c warp_fill.s5 warp_fill.x5 5 false L x = warp_fill.f5 x.1.2.1 x.1.2.2.1 x.1.2.2.2.1 x.1.2.2.2.2.1 x.1.2.2.2.2.2.1 x.1.2.2.2.2.2.2.1 x.1.2.2.2.2.2.2.2.1 x.1.2.2.2.2.2.2.2.2.1 x.1.2.2.2.2.2.2.2.2.2.1 x.2.1 := by
  show _ = (_ : Option _)
  kernel_rfl
noncomputable def warp_fill.L5 : Y37 → Option Y28 := fun x => warp_fill.f5 x.1.2.1 x.1.2.2.1 x.1.2.2.2.1 x.1.2.2.2.2.1 x.1.2.2.2.2.2.1 x.1.2.2.2.2.2.2.1 x.1.2.2.2.2.2.2.2.1 x.1.2.2.2.2.2.2.2.2.1 x.1.2.2.2.2.2.2.2.2.2.1 x.2.1
def warp_fill.f0 (g_warp_near : Y135 → Option Y142) (l1 : Y37 → Option Y28) (l2 : Y32 → Option Y31) (l3 : Y32 → Option Y31) (l4 : Y32 → Option Y31) (l5 : Y37 → Option Y28) (L : Y47 → Option Y129) (before_1 x_2 y_3 : List Int) (band_4 i_5 v15 v16 : Int) (o0 : List Int) : Option Y129 :=
  (bif (decide (v16 < v15)) then
 (bif (decide ((0:Int) ≤ v16)) then
 (bif (decide (v16 < (((List.length o0) : Nat) : Int))) then
 (Option.bind (g_warp_near ((i_5, (v16, (band_4, ()))), ())) (fun y3 =>
 (bif (!y3.1.1) then
 (Option.bind (L (((), (before_1, (x_2, (y_3, (band_4, (i_5, (v15, ((Go.IntKind.wrap Go.IntKind.i64 (v16 + (1:Int))), ())))))))), ((List.set o0 (Int.toNat v16) (4611686018427387904:Int)), ()))) (fun y5 =>
 (some y5)))
 else
 (Option.bind (l1 (((), (before_1, (x_2, (y_3, (band_4, (i_5, (v16, ((4611686018427387904:Int), (v15, (v16, ())))))))))), ((List.set o0 (Int.toNat v16) (4611686018427387904:Int)), ()))) (fun y5 =>
 (Sum.elim (fun a6 =>
 (Option.bind (l2 (((), (a6.1.2.1, (a6.1.2.2.1, (a6.1.2.2.2.1, (a6.1.2.2.2.2.1, (a6.1.2.2.2.2.2.1, (a6.1.2.2.2.2.2.2.1, (a6.1.2.2.2.2.2.2.2.1, (a6.1.2.2.2.2.2.2.2.2.1, (a6.1.2.2.2.2.2.2.2.2.2.1, (a6.1.2.2.2.2.2.2.2.2.2.2.1, ()))))))))))), (a6.2.1, ()))) (fun y7 =>
 (Sum.elim (fun a8 =>
 (Option.bind (l3 (((), (a8.1.2.1, (a8.1.2.2.1, (a8.1.2.2.2.1, (a8.1.2.2.2.2.1, (a8.1.2.2.2.2.2.1, (a8.1.2.2.2.2.2.2.1, (a8.1.2.2.2.2.2.2.2.1, (a8.1.2.2.2.2.2.2.2.2.1, (a8.1.2.2.2.2.2.2.2.2.2.1, ((decide (a8.1.2.2.2.2.2.2.1 > (0:Int))), ()))))))))))), (a8.2.1, ()))) (fun y9 =>
 (Sum.elim (fun a10 =>
 (Option.bind (l4 (((), (a10.1.2.1, (a10.1.2.2.1, (a10.1.2.2.2.1, (a10.1.2.2.2.2.1, (a10.1.2.2.2.2.2.1, (a10.1.2.2.2.2.2.2.1, (a10.1.2.2.2.2.2.2.2.1, (a10.1.2.2.2.2.2.2.2.2.1, (a10.1.2.2.2.2.2.2.2.2.2.1, ((decide (a10.1.2.2.2.2.2.1 > (0:Int))), ()))))))))))), (a10.2.1, ()))) (fun y11 =>
 (Sum.elim (fun a12 =>
 (Option.bind (l5 (((), (a12.1.2.1, (a12.1.2.2.1, (a12.1.2.2.2.1, (a12.1.2.2.2.2.1, (a12.1.2.2.2.2.2.1, (a12.1.2.2.2.2.2.2.1, (a12.1.2.2.2.2.2.2.2.1, (a12.1.2.2.2.2.2.2.2.2.1, (a12.1.2.2.2.2.2.2.2.2.2.1, ())))))))))), (a12.2.1, ()))) (fun y13 =>
 (Sum.elim (fun a14 =>
 (bif a14.1.2.2.2.2.2.2.2.2.2.2.1 then
 (bif (decide ((0:Int) ≤ a14.1.2.2.2.2.2.2.1)) then
 (bif (decide (a14.1.2.2.2.2.2.2.1 < (((List.length a14.1.2.1) : Nat) : Int))) then
 (bif (decide ((0:Int) ≤ (Go.IntKind.wrap Go.IntKind.i64 (a14.1.2.2.2.2.2.2.1 - (1:Int))))) then
 (bif (decide ((Go.IntKind.wrap Go.IntKind.i64 (a14.1.2.2.2.2.2.2.1 - (1:Int))) < (((List.length a14.1.2.1) : Nat) : Int))) then
 (bif (decide ((0:Int) ≤ a14.1.2.2.2.2.2.1)) then
 (bif (decide (a14.1.2.2.2.2.2.1 < (((List.length a14.1.2.2.1) : Nat) : Int))) then
 (bif (decide ((0:Int) ≤ a14.1.2.2.2.2.2.2.1)) then
 (bif (decide (a14.1.2.2.2.2.2.2.1 < (((List.length a14.1.2.2.2.1) : Nat) : Int))) then
 (bif (decide ((0:Int) ≤ a14.1.2.2.2.2.2.1)) then
 (bif (decide (a14.1.2.2.2.2.2.1 < (((List.length a14.1.2.2.1) : Nat) : Int))) then
 (bif (decide ((0:Int) ≤ a14.1.2.2.2.2.2.2.1)) then
 (bif (decide (a14.1.2.2.2.2.2.2.1 < (((List.length a14.1.2.2.2.1) : Nat) : Int))) then
 (bif (decide ((0:Int) ≤ a14.1.2.2.2.2.2.2.1)) then
 (bif (decide (a14.1.2.2.2.2.2.2.1 < (((List.length a14.2.1) : Nat) : Int))) then
 (Option.bind (L (((), (a14.1.2.1, (a14.1.2.2.1, (a14.1.2.2.2.1, (a14.1.2.2.2.2.1, (a14.1.2.2.2.2.2.1, (a14.1.2.2.2.2.2.2.2.2.1, ((Go.IntKind.wrap Go.IntKind.i64 (a14.1.2.2.2.2.2.2.2.2.2.1 + (1:Int))), ())))))))), ((List.set a14.2.1 (Int.toNat a14.1.2.2.2.2.2.2.1) (Go.VI.mn (4611686018427387904:Int) (Go.IntKind.wrap Go.IntKind.i64 ((Go.VI.mn (Go.VI.mn a14.1.2.2.2.2.2.2.2.1 (List.getD a14.1.2.1 (Int.toNat a14.1.2.2.2.2.2.2.1) (0:Int))) (List.getD a14.1.2.1 (Int.toNat (Go.IntKind.wrap Go.IntKind.i64 (a14.1.2.2.2.2.2.2.1 - (1:Int)))) (0:Int))) + (Go.IntKind.wrap Go.IntKind.i64 ((Go.IntKind.wrap Go.IntKind.i64 ((List.getD a14.1.2.2.1 (Int.toNat a14.1.2.2.2.2.2.1) (0:Int)) - (List.getD a14.1.2.2.2.1 (Int.toNat a14.1.2.2.2.2.2.2.1) (0:Int)))) * (Go.IntKind.wrap Go.IntKind.i64 ((List.getD a14.1.2.2.1 (Int.toNat a14.1.2.2.2.2.2.1) (0:Int)) - (List.getD a14.1.2.2.2.1 (Int.toNat a14.1.2.2.2.2.2.2.1) (0:Int)))))))))), ()))) (fun y30 =>
 (some y30)))
 else
 none)
 else
 none)
 else
 none)
 else
 none)
 else
 none)
 else
 none)
 else
 none)
 else
 none)
 else
 none)
 else
 none)
 else
 none)
 else
 none)
 else
 none)
 else
 none)
 else
 (bif (decide ((0:Int) ≤ a14.1.2.2.2.2.2.1)) then
 (bif (decide (a14.1.2.2.2.2.2.1 < (((List.length a14.1.2.2.1) : Nat) : Int))) then
 (bif (decide ((0:Int) ≤ a14.1.2.2.2.2.2.2.1)) then
 (bif (decide (a14.1.2.2.2.2.2.2.1 < (((List.length a14.1.2.2.2.1) : Nat) : Int))) then
 (bif (decide ((0:Int) ≤ a14.1.2.2.2.2.2.1)) then
 (bif (decide (a14.1.2.2.2.2.2.1 < (((List.length a14.1.2.2.1) : Nat) : Int))) then
 (bif (decide ((0:Int) ≤ a14.1.2.2.2.2.2.2.1)) then
 (bif (decide (a14.1.2.2.2.2.2.2.1 < (((List.length a14.1.2.2.2.1) : Nat) : Int))) then
 (bif (decide ((0:Int) ≤ a14.1.2.2.2.2.2.2.1)) then
 (bif (decide (a14.1.2.2.2.2.2.2.1 < (((List.length a14.2.1) : Nat) : Int))) then
 (Option.bind (L (((), (a14.1.2.1, (a14.1.2.2.1, (a14.1.2.2.2.1, (a14.1.2.2.2.2.1, (a14.1.2.2.2.2.2.1, (a14.1.2.2.2.2.2.2.2.2.1, ((Go.IntKind.wrap Go.IntKind.i64 (a14.1.2.2.2.2.2.2.2.2.2.1 + (1:Int))), ())))))))), ((List.set a14.2.1 (Int.toNat a14.1.2.2.2.2.2.2.1) (Go.VI.mn (4611686018427387904:Int) (Go.IntKind.wrap Go.IntKind.i64 (a14.1.2.2.2.2.2.2.2.1 + (Go.IntKind.wrap Go.IntKind.i64 ((Go.IntKind.wrap Go.IntKind.i64 ((List.getD a14.1.2.2.1 (Int.toNat a14.1.2.2.2.2.2.1) (0:Int)) - (List.getD a14.1.2.2.2.1 (Int.toNat a14.1.2.2.2.2.2.2.1) (0:Int)))) * (Go.IntKind.wrap Go.IntKind.i64 ((List.getD a14.1.2.2.1 (Int.toNat a14.1.2.2.2.2.2.1) (0:Int)) - (List.getD a14.1.2.2.2.1 (Int.toNat a14.1.2.2.2.2.2.2.1) (0:Int)))))))))), ()))) (fun y26 =>
 (some y26)))
 else
 none)
 else
 none)
 else
 none)
 else
 none)
 else
 none)
 else
 none)
 else
 none)
 else
 none)
 else
 none)
 else
 none))) (fun b14 =>
 (Empty.elim b14)) y13)))) (fun b12 =>
 (Empty.elim b12)) y11)))) (fun b10 =>
 (Empty.elim b10)) y9)))) (fun b8 =>
 (Empty.elim b8)) y7)))) (fun b6 =>
 (Empty.elim b6)) y5))))))
 else
 none)
 else
 none)
 else
 (some (Sum.inl ((), (o0, ())))))
theorem warp_fill.eq0 (g_warp_near : warp_near.G) (l0 : warp_fill.A0) (l1 : warp_fill.A1) (l2 : warp_fill.A2) (l3 : warp_fill.A3) (l4 : warp_fill.A4) (l5 : warp_fill.A5) (L : warp_fill.A0) (x : warp_fill.s0.X) : rndO (warp_fill.E g_warp_near l0 l1 l2 l3 l4 l5) warp_fill.hs warp_fill.c warp_fill.s0 warp_fill.x0 0 true L x = warp_fill.f0 g_warp_near l1 l2 l3 l4 l5 L x.1.2.1 x.1.2.2.1 x.1.2.2.2.1 x.1.2.2.2.2.1 x.1.2.2.2.2.2.1 x.1.2.2.2.2.2.2.1 x.1.2.2.2.2.2.2.2.1 x.2.1 := by
  show _ = (_ : Option _)
  kernel_rfl
noncomputable def warp_fill.L0 : Y47 → Option Y129 := loop fun L x => warp_fill.f0 warp_near.F warp_fill.L1 warp_fill.L2 warp_fill.L3 warp_fill.L4 warp_fill.L5 L x.1.2.1 x.1.2.2.1 x.1.2.2.2.1 x.1.2.2.2.2.1 x.1.2.2.2.2.2.1 x.1.2.2.2.2.2.2.1 x.1.2.2.2.2.2.2.2.1 x.2.1
def warp_fill.f (l0 : Y47 → Option Y129) (before x_ y : List Int) (band i : Int) (o0 : List Int) : Option Y138 :=
  (Option.bind (l0 (((), (before, (x_, (y, (band, (i, ((((List.length y) : Nat) : Int), ((0:Int), ())))))))), (o0, ()))) (fun y0 =>
 (Sum.elim (fun a1 =>
 (some ((), (a1.2.1, ())))) (fun b1 =>
 (Empty.elim b1)) y0)))
theorem warp_fill.eq (g_warp_near : warp_near.G) (l0 : warp_fill.A0) (l1 : warp_fill.A1) (l2 : warp_fill.A2) (l3 : warp_fill.A3) (l4 : warp_fill.A4) (l5 : warp_fill.A5) (x : warp_fill.sh.X) : bodO (warp_fill.E g_warp_near l0 l1 l2 l3 l4 l5) warp_fill.hs warp_fill.c Try.f102 warp_fill.sh warp_fill.osh x = warp_fill.f l0 x.1.2.1 x.1.2.2.1 x.1.2.2.2.1 x.1.2.2.2.2.1 x.1.2.2.2.2.2.1 x.2.1 := by
  show _ = (_ : Option _)
  kernel_rfl
noncomputable def warp_fill (before x_ y : List Int) (band i : Int) (o0 : List Int) : Option Y138 := warp_fill.f warp_fill.L0 before x_ y band i o0
noncomputable def warp_fill.F (x : Y60) : Option Y138 := warp_fill x.1.2.1 x.1.2.2.1 x.1.2.2.2.1 x.1.2.2.2.2.1 x.1.2.2.2.2.2.1 x.2.1
theorem warp_fill.L0_eq (before_1 x_2 y_3 : List Int) (band_4 i_5 v15 v16 : Int) (o0 : List Int) : warp_fill.L0 (((), before_1, x_2, y_3, band_4, i_5, v15, v16, ()), (o0, ())) = warp_fill.f0 warp_near.F warp_fill.L1 warp_fill.L2 warp_fill.L3 warp_fill.L4 warp_fill.L5 warp_fill.L0 before_1 x_2 y_3 band_4 i_5 v15 v16 o0 :=
  loop_eq (E := (warp_fill.E warp_near.F warp_fill.L0 warp_fill.L1 warp_fill.L2 warp_fill.L3 warp_fill.L4 warp_fill.L5)) (sh := warp_fill.s0) (es := warp_fill.x0) (lp := true) (H := fun L x => warp_fill.eq0 warp_near.F warp_fill.L0 warp_fill.L1 warp_fill.L2 warp_fill.L3 warp_fill.L4 warp_fill.L5 L x) (((), before_1, x_2, y_3, band_4, i_5, v15, v16, ()), (o0, ()))
theorem warp_fill.L1_eq (before_1 x_2 y_3 : List Int) (band_4 i_5 j_12 least_13 v15 v16 : Int) (o0 : List Int) : warp_fill.L1 (((), before_1, x_2, y_3, band_4, i_5, j_12, least_13, v15, v16, ()), (o0, ())) = warp_fill.f1 before_1 x_2 y_3 band_4 i_5 j_12 least_13 v15 v16 o0 := rfl
theorem warp_fill.L2_eq (before_1 x_2 y_3 : List Int) (band_4 i_5 j_12 least_13 v15 v16 : Int) (v32 : Bool) (o0 : List Int) : warp_fill.L2 (((), before_1, x_2, y_3, band_4, i_5, j_12, least_13, v15, v16, v32, ()), (o0, ())) = warp_fill.f2 before_1 x_2 y_3 band_4 i_5 j_12 least_13 v15 v16 v32 o0 := rfl
theorem warp_fill.L3_eq (before_1 x_2 y_3 : List Int) (band_4 i_5 j_12 least_13 v15 v16 : Int) (v34 : Bool) (o0 : List Int) : warp_fill.L3 (((), before_1, x_2, y_3, band_4, i_5, j_12, least_13, v15, v16, v34, ()), (o0, ())) = warp_fill.f3 before_1 x_2 y_3 band_4 i_5 j_12 least_13 v15 v16 v34 o0 := rfl
theorem warp_fill.L4_eq (before_1 x_2 y_3 : List Int) (band_4 i_5 j_12 least_13 v15 v16 : Int) (v43 : Bool) (o0 : List Int) : warp_fill.L4 (((), before_1, x_2, y_3, band_4, i_5, j_12, least_13, v15, v16, v43, ()), (o0, ())) = warp_fill.f4 before_1 x_2 y_3 band_4 i_5 j_12 least_13 v15 v16 v43 o0 := rfl
theorem warp_fill.L5_eq (before_1 x_2 y_3 : List Int) (band_4 i_5 j_12 least_13 v15 v16 : Int) (o0 : List Int) : warp_fill.L5 (((), before_1, x_2, y_3, band_4, i_5, j_12, least_13, v15, v16, ()), (o0, ())) = warp_fill.f5 before_1 x_2 y_3 band_4 i_5 j_12 least_13 v15 v16 o0 := rfl
theorem warp_fill.F_eq (before x_ y : List Int) (band i : Int) (o0 : List Int) : warp_fill.F (((), before, x_, y, band, i, ()), (o0, ())) = warp_fill.f warp_fill.L0 before x_ y band i o0 := rfl
theorem warp_fill.ok {tabs : List (Nat × Go.Obj)} (ht : TabsOk tabs) : FOK Try.prog tabs 102 (warp_fill.fe warp_fill.F) := by
  refine fn_keep2 Try.func102 (warp_fill.eq warp_near.F warp_fill.L0 warp_fill.L1 warp_fill.L2 warp_fill.L3 warp_fill.L4 warp_fill.L5) pw tb (gt_ok ht) (by kernel_rfl) (by kernel_rfl) (fun g ks fe h => ?_) ?_
  · rcases c_cons h with ⟨rfl, rfl⟩ | h
    · exact warp_near.ok ht
    cases h
  · refine known_at 6 (by kernel_rfl) fun i hi => ?_
    match i, hi with
    | 0, _ => exact atomH (loop_ok (es := warp_fill.x0) rfl (warp_fill.eq0 warp_near.F warp_fill.L0 warp_fill.L1 warp_fill.L2 warp_fill.L3 warp_fill.L4 warp_fill.L5)) (by kernel_rfl)
    | 1, _ => exact atomH (cut_ok (es := warp_fill.x1) rfl (warp_fill.eq1 warp_near.F warp_fill.L0 warp_fill.L1 warp_fill.L2 warp_fill.L3 warp_fill.L4 warp_fill.L5)) (by kernel_rfl)
    | 2, _ => exact atomH (cut_ok (es := warp_fill.x2) rfl (warp_fill.eq2 warp_near.F warp_fill.L0 warp_fill.L1 warp_fill.L2 warp_fill.L3 warp_fill.L4 warp_fill.L5)) (by kernel_rfl)
    | 3, _ => exact atomH (cut_ok (es := warp_fill.x3) rfl (warp_fill.eq3 warp_near.F warp_fill.L0 warp_fill.L1 warp_fill.L2 warp_fill.L3 warp_fill.L4 warp_fill.L5)) (by kernel_rfl)
    | 4, _ => exact atomH (cut_ok (es := warp_fill.x4) rfl (warp_fill.eq4 warp_near.F warp_fill.L0 warp_fill.L1 warp_fill.L2 warp_fill.L3 warp_fill.L4 warp_fill.L5)) (by kernel_rfl)
    | 5, _ => exact atomH (cut_ok (es := warp_fill.x5) rfl (warp_fill.eq5 warp_near.F warp_fill.L0 warp_fill.L1 warp_fill.L2 warp_fill.L3 warp_fill.L4 warp_fill.L5)) (by kernel_rfl)
    | n + 6, h => exact absurd h (by omega)
end Go.Proofs.Ytefcciajemkicaa.V
