/- One warping distance, on closed windows. -/
import Derived.Test.YtadniiehehiblaaDoorVg3
import Derived.Test.YtadniiehehiblaaDoorVBase
import Derived.Test.YtadniiehehiblaaDoorVLoop
set_option linter.unusedVariables false
set_option maxRecDepth 100000
namespace Go.Proofs.YtadniiehehiblaaDoor.V
open Go Go.VI
@[reducible] def X3 : List Int := [0, 0, 5]
@[reducible] def Y3 : List Int := [0, 5, 5]
@[reducible] def Z3 : List Int := [0, 0, 0]
@[reducible] def R0 : List Int := [0, 25, 4611686018427387904]
@[reducible] def R1 : List Int := [0, 25, 50]
@[reducible] def R2 : List Int := [4611686018427387904, 0, 0]
theorem sampX : euclid_samples.F ((X3, ()), ()) = some ((true, ()), ()) := by
  have h : euclid_samples.L0 ((X3, 3, 0, ()), ()) = some (Sum.inl ((), ())) := loop_it (E := (euclid_samples.E euclid_samples.L0)) (sh := euclid_samples.s0) (es := euclid_samples.x0) (lp := true) (H := fun L x => euclid_samples.eq0 euclid_samples.L0 L x) 5 (by kernel_rfl)
  rw [euclid_samples.F_eq, euclid_samples.f, show (((List.length X3) : Nat) : Int) = 3 from rfl, h]; rfl
theorem sqX : euclid_square.F ((X3, X3, ()), ()) = some ((0, ()), ()) := by
  have h : euclid_square.L0 ((X3, 0, X3, 3, 0, ()), ()) = some (Sum.inl ((0, ()), ())) := loop_it (E := (euclid_square.E euclid_square.L0)) (sh := euclid_square.s0) (es := euclid_square.x0) (lp := true) (H := fun L x => euclid_square.eq0 euclid_square.L0 L x) 5 (by kernel_rfl)
  rw [euclid_square.F_eq, euclid_square.f, show (((List.length X3) : Nat) : Int) = 3 from rfl, h]; rfl
theorem chkX : euclid_check.F ((X3, X3, ()), ()) = some ((0, ()), ()) := by
  have hl : euclid_length.F ((X3, ()), ()) = some ((true, ()), ()) := by kernel_rfl
  rw [euclid_check.F_eq, euclid_check.f, euclid_check.L0_eq, euclid_check.f0, hl]
  simp only [Option.bind_some, Bool.not_true, cond_false, Sum.elim_inl]
  rw [euclid_check.L1_eq, euclid_check.f1, sampX]
  rfl
theorem distX : euclid_Distance.F ((X3, X3, ()), ()) = some ((0, 0, ()), ()) := by
  rw [euclid_Distance.F_eq, euclid_Distance.f, chkX]
  simp only [Option.bind_some]
  rw [nt rfl, sqX]; rfl
theorem sampY : euclid_samples.F ((Y3, ()), ()) = some ((true, ()), ()) := by
  have h : euclid_samples.L0 ((Y3, 3, 0, ()), ()) = some (Sum.inl ((), ())) := loop_it (E := (euclid_samples.E euclid_samples.L0)) (sh := euclid_samples.s0) (es := euclid_samples.x0) (lp := true) (H := fun L x => euclid_samples.eq0 euclid_samples.L0 L x) 5 (by kernel_rfl)
  rw [euclid_samples.F_eq, euclid_samples.f, show (((List.length Y3) : Nat) : Int) = 3 from rfl, h]; rfl
theorem sqY : euclid_square.F ((Y3, Y3, ()), ()) = some ((0, ()), ()) := by
  have h : euclid_square.L0 ((Y3, 0, Y3, 3, 0, ()), ()) = some (Sum.inl ((0, ()), ())) := loop_it (E := (euclid_square.E euclid_square.L0)) (sh := euclid_square.s0) (es := euclid_square.x0) (lp := true) (H := fun L x => euclid_square.eq0 euclid_square.L0 L x) 5 (by kernel_rfl)
  rw [euclid_square.F_eq, euclid_square.f, show (((List.length Y3) : Nat) : Int) = 3 from rfl, h]; rfl
theorem chkY : euclid_check.F ((Y3, Y3, ()), ()) = some ((0, ()), ()) := by
  have hl : euclid_length.F ((Y3, ()), ()) = some ((true, ()), ()) := by kernel_rfl
  rw [euclid_check.F_eq, euclid_check.f, euclid_check.L0_eq, euclid_check.f0, hl]
  simp only [Option.bind_some, Bool.not_true, cond_false, Sum.elim_inl]
  rw [euclid_check.L1_eq, euclid_check.f1, sampY]
  rfl
theorem distY : euclid_Distance.F ((Y3, Y3, ()), ()) = some ((0, 0, ()), ()) := by
  rw [euclid_Distance.F_eq, euclid_Distance.f, chkY]
  simp only [Option.bind_some]
  rw [nt rfl, sqY]; rfl
theorem fill0 : warp_fill.F (((), Z3, X3, Y3, 1, 0, ()), (Z3, ())) = some ((), (R0, ())) := by
  have h : warp_fill.L0 (((), Z3, X3, Y3, 1, 0, 3, 0, ()), (Z3, ())) = some (Sum.inl ((), (R0, ()))) := loop_it (E := (warp_fill.E warp_near.F warp_fill.L0 warp_fill.L1 warp_fill.L2 warp_fill.L3 warp_fill.L4 warp_fill.L5)) (sh := warp_fill.s0) (es := warp_fill.x0) (lp := true) (H := fun L x => warp_fill.eq0 warp_near.F warp_fill.L0 warp_fill.L1 warp_fill.L2 warp_fill.L3 warp_fill.L4 warp_fill.L5 L x) 5 (by kernel_rfl)
  rw [warp_fill.F_eq, warp_fill.f, show (((List.length Y3) : Nat) : Int) = 3 from rfl, h]; rfl
theorem min0 : slices_Min.F ((R0, ()), ()) = some ((0, ()), ()) := by
  have h : slices_Min.L0 ((R0, 0, 1, ()), ()) = some (Sum.inl ((0, ()), ())) := loop_it (E := (slices_Min.E slices_Min.L0)) (sh := slices_Min.s0) (es := slices_Min.x0) (lp := true) (H := fun L x => slices_Min.eq0 slices_Min.L0 L x) 5 (by kernel_rfl)
  rw [slices_Min.F_eq, slices_Min.f, show (((List.length R0) : Nat) : Int) = 3 from rfl, df (by omega : ¬ (3 : Int) < 1), dt (by omega : (0 : Int) < 3), show List.getD R0 (Int.toNat 0) 0 = 0 from rfl]
  simp only [cond_true, cond_false]
  rw [h]; rfl
theorem fill1 : warp_fill.F (((), R0, X3, Y3, 1, 1, ()), (Z3, ())) = some ((), (R1, ())) := by
  have h : warp_fill.L0 (((), R0, X3, Y3, 1, 1, 3, 0, ()), (Z3, ())) = some (Sum.inl ((), (R1, ()))) := loop_it (E := (warp_fill.E warp_near.F warp_fill.L0 warp_fill.L1 warp_fill.L2 warp_fill.L3 warp_fill.L4 warp_fill.L5)) (sh := warp_fill.s0) (es := warp_fill.x0) (lp := true) (H := fun L x => warp_fill.eq0 warp_near.F warp_fill.L0 warp_fill.L1 warp_fill.L2 warp_fill.L3 warp_fill.L4 warp_fill.L5 L x) 5 (by kernel_rfl)
  rw [warp_fill.F_eq, warp_fill.f, show (((List.length Y3) : Nat) : Int) = 3 from rfl, h]; rfl
theorem min1 : slices_Min.F ((R1, ()), ()) = some ((0, ()), ()) := by
  have h : slices_Min.L0 ((R1, 0, 1, ()), ()) = some (Sum.inl ((0, ()), ())) := loop_it (E := (slices_Min.E slices_Min.L0)) (sh := slices_Min.s0) (es := slices_Min.x0) (lp := true) (H := fun L x => slices_Min.eq0 slices_Min.L0 L x) 5 (by kernel_rfl)
  rw [slices_Min.F_eq, slices_Min.f, show (((List.length R1) : Nat) : Int) = 3 from rfl, df (by omega : ¬ (3 : Int) < 1), dt (by omega : (0 : Int) < 3), show List.getD R1 (Int.toNat 0) 0 = 0 from rfl]
  simp only [cond_true, cond_false]
  rw [h]; rfl
theorem fill2 : warp_fill.F (((), R1, X3, Y3, 1, 2, ()), (R0, ())) = some ((), (R2, ())) := by
  have h : warp_fill.L0 (((), R1, X3, Y3, 1, 2, 3, 0, ()), (R0, ())) = some (Sum.inl ((), (R2, ()))) := loop_it (E := (warp_fill.E warp_near.F warp_fill.L0 warp_fill.L1 warp_fill.L2 warp_fill.L3 warp_fill.L4 warp_fill.L5)) (sh := warp_fill.s0) (es := warp_fill.x0) (lp := true) (H := fun L x => warp_fill.eq0 warp_near.F warp_fill.L0 warp_fill.L1 warp_fill.L2 warp_fill.L3 warp_fill.L4 warp_fill.L5 L x) 5 (by kernel_rfl)
  rw [warp_fill.F_eq, warp_fill.f, show (((List.length Y3) : Nat) : Int) = 3 from rfl, h]; rfl
theorem min2 : slices_Min.F ((R2, ()), ()) = some ((0, ()), ()) := by
  have h : slices_Min.L0 ((R2, 4611686018427387904, 1, ()), ()) = some (Sum.inl ((0, ()), ())) := loop_it (E := (slices_Min.E slices_Min.L0)) (sh := slices_Min.s0) (es := slices_Min.x0) (lp := true) (H := fun L x => slices_Min.eq0 slices_Min.L0 L x) 5 (by kernel_rfl)
  rw [slices_Min.F_eq, slices_Min.f, show (((List.length R2) : Nat) : Int) = 3 from rfl, df (by omega : ¬ (3 : Int) < 1), dt (by omega : (0 : Int) < 3), show List.getD R2 (Int.toNat 0) 0 = 4611686018427387904 from rfl]
  simp only [cond_true, cond_false]
  rw [h]; rfl
theorem wdist : warp_distance.F ((X3, Y3, 1, 4611686018427387904, ()), ()) = some ((0, ()), ()) := by
  have s3 : warp_distance.L0 ((X3, Y3, 1, 4611686018427387904, (), (), 3, 3, ()), (R1, R2, ())) = some (Sum.inl ((Y3, (), ()), (R2, ()))) := by
    rw [warp_distance.L0_eq, warp_distance.f0, df (by omega : ¬ (3 : Int) < 3)]; rfl
  have s2 : warp_distance.L0 ((X3, Y3, 1, 4611686018427387904, (), (), 3, 2, ()), (R0, R1, ())) = some (Sum.inl ((Y3, (), ()), (R2, ()))) := by
    rw [warp_distance.L0_eq, warp_distance.f0, dt (by omega : (2 : Int) < 3), show warp_fill.F (((), (R1, (X3, (Y3, (1, (2, ())))))), (R0, ())) = _ from fill2]
    simp only [cond_true, Option.bind_some]
    rw [min2]
    simp only [Option.bind_some]
    rw [df (by omega : ¬ (0 : Int) > 4611686018427387904), w64 (n := 2 + 1) (by omega)]
    simp only [cond_false]
    rw [show (2 : Int) + 1 = 3 from rfl, show warp_distance.L0 ((X3, (Y3, (1, (4611686018427387904, ((), ((), (3, (3, ())))))))), (R1, (R2, ()))) = _ from s3]; rfl
  have s1 : warp_distance.L0 ((X3, Y3, 1, 4611686018427387904, (), (), 3, 1, ()), (Z3, R0, ())) = some (Sum.inl ((Y3, (), ()), (R2, ()))) := by
    rw [warp_distance.L0_eq, warp_distance.f0, dt (by omega : (1 : Int) < 3), show warp_fill.F (((), (R0, (X3, (Y3, (1, (1, ())))))), (Z3, ())) = _ from fill1]
    simp only [cond_true, Option.bind_some]
    rw [min1]
    simp only [Option.bind_some]
    rw [df (by omega : ¬ (0 : Int) > 4611686018427387904), w64 (n := 1 + 1) (by omega)]
    simp only [cond_false]
    rw [show (1 : Int) + 1 = 2 from rfl, show warp_distance.L0 ((X3, (Y3, (1, (4611686018427387904, ((), ((), (3, (2, ())))))))), (R0, (R1, ()))) = _ from s2]; rfl
  have s0 : warp_distance.L0 ((X3, Y3, 1, 4611686018427387904, (), (), 3, 0, ()), (Z3, Z3, ())) = some (Sum.inl ((Y3, (), ()), (R2, ()))) := by
    rw [warp_distance.L0_eq, warp_distance.f0, dt (by omega : (0 : Int) < 3), show warp_fill.F (((), (Z3, (X3, (Y3, (1, (0, ())))))), (Z3, ())) = _ from fill0]
    simp only [cond_true, Option.bind_some]
    rw [min0]
    simp only [Option.bind_some]
    rw [df (by omega : ¬ (0 : Int) > 4611686018427387904), w64 (n := 0 + 1) (by omega)]
    simp only [cond_false]
    rw [show (0 : Int) + 1 = 1 from rfl, show warp_distance.L0 ((X3, (Y3, (1, (4611686018427387904, ((), ((), (3, (1, ())))))))), (Z3, (R0, ()))) = _ from s1]; rfl
  rw [warp_distance.F_eq, warp_distance.f, show (((List.length Y3) : Nat) : Int) = 3 from rfl, show (((List.length X3) : Nat) : Int) = 3 from rfl, dt (rfl : (3 : Int) = 3), dt (by omega : (((8:Nat) : Nat) : Int) * 3 ≤ 281474976710656), show List.replicate (Int.toNat 3) (0 : Int) = Z3 from rfl]
  simp only [cond_true, Bool.and_self]
  rw [show warp_distance.L0 ((X3, (Y3, (1, (4611686018427387904, ((), ((), (3, (0, ())))))))), (Z3, (Z3, ()))) = _ from s0]
  rfl
theorem wcheck : warp_check.F ((X3, Y3, 1, ()), ()) = some ((0, ()), ()) := by
  rw [warp_check.F_eq, warp_check.f, show warp_check.L0 ((X3, (Y3, (1, ()))), ()) = some (Sum.inl ((X3, (Y3, (1, (false, ())))), ())) from by kernel_rfl]
  simp only [Option.bind_some, Sum.elim_inl, cond_false]
  rw [distX, distY]
  simp only [Option.bind_some]
  rfl
theorem wDistance : warp_Distance.F ((X3, Y3, 1, ()), ()) = some ((0, 0, ()), ()) := by
  rw [warp_Distance.F_eq, warp_Distance.f, wcheck]
  simp only [Option.bind_some]
  rw [nt rfl, wdist]; rfl
theorem make01 : ratio_Make.F ((0, 1, ()), ()) = some (((0, 1, ()), 0, ()), ()) := by
  have h : ratio_divisor.L0 ((0, 1, ()), ()) = some (Sum.inl ((1, ()), ())) := loop_it (E := (ratio_divisor.E ratio_divisor.L0)) (sh := ratio_divisor.s0) (es := ratio_divisor.x0) (lp := true) (H := fun L x => ratio_divisor.eq0 ratio_divisor.L0 L x) 4 (by kernel_rfl)
  have hd : ratio_divisor.F ((0, 1, ()), ()) = some ((1, ()), ()) := by
    rw [ratio_divisor.F_eq, ratio_divisor.f, h]; rfl
  rw [ratio_Make.F_eq, ratio_Make.f, show ratio_Make.L0 ((0, (1, ((), ()))), ((0, (0, ())), ())) = some (Sum.inl ((0, (1, ((), (false, ())))), ((0, (0, ())), ()))) from by kernel_rfl]
  simp only [Option.bind_some, Sum.elim_inl, cond_false]
  rw [hd]
  show _ = (_ : Option _)
  kernel_rfl
theorem closure2 : measure_distances_2.F ((X3, Y3, (), ()), ((4, 1, 0, ()), ())) = some (((0, 1, ()), 0, ()), ((4, 1, 0, ()), ())) := by
  rw [measure_distances_2.F_eq, measure_distances_2.f, wDistance]
  simp only [Option.bind_some]
  rw [measure_whole.F_eq, measure_whole.f, nt rfl, make01]; rfl
end Go.Proofs.YtadniiehehiblaaDoor.V
