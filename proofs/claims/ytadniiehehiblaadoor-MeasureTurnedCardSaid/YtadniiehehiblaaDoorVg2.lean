import Derived.Test.YtadniiehehiblaaDoorVg1
import Derived.Test.YtadniiehehiblaaDoorShelf
import Derived.WalkKit
set_option linter.unusedVariables false
set_option maxRecDepth 100000
namespace Go.Proofs.YtadniiehehiblaaDoor.V
open Go.VI
/-! euclid_Shifted -/
def euclid_Shifted.f0 (L : (((List Int) × (List Int) × Unit × Int × Int × (List Int) × Int × Int × Unit) × ((Int × Int × Unit) × Unit)) → Option ((((List Int) × (List Int) × Unit × Int × Int × Unit) × ((Int × Int × Unit) × Unit)) ⊕ Empty)) (x_0 : (List Int)) (y_1 : (List Int)) (sum_7 : Int) (m_8 : Int) (v20 : (List Int)) (v21 : Int) (v22 : Int) (o0_0 : Int) (o0_1 : Int) : Option ((((List Int) × (List Int) × Unit × Int × Int × Unit) × ((Int × Int × Unit) × Unit)) ⊕ Empty) :=
  (bif (decide (v22 < v21)) then
   (bif (decide ((0:Int) ≤ v22)) then
    (bif (decide (v22 < (((List.length v20) : Nat) : Int))) then
     (bif (decide ((0:Int) ≤ v22)) then
      (bif (decide (v22 < (((List.length y_1) : Nat) : Int))) then
       (Option.bind (L ((x_0, (y_1, ((), ((Go.IntKind.wrap Go.IntKind.i64 (sum_7 + (Go.IntKind.wrap Go.IntKind.i64 ((List.getD v20 (Int.toNat v22) (0:Int)) - (List.getD y_1 (Int.toNat v22) (0:Int)))))), (m_8, (v20, (v21, ((Go.IntKind.wrap Go.IntKind.i64 (v22 + (1:Int))), ())))))))), ((o0_0, (o0_1, ())), ()))) (fun y5 =>
       (some y5)))
      else
       none)
     else
      none)
    else
     none)
   else
    none)
  else
   (some (Sum.inl ((x_0, (y_1, ((), (sum_7, (m_8, ()))))), ((o0_0, (o0_1, ())), ())))))
theorem euclid_Shifted.eq0 (g_euclid_check : euclid_check.sh.X → Option euclid_check.osh.X) (g_euclid_square : euclid_square.sh.X → Option euclid_square.osh.X) (g_ratio_Make : ratio_Make.sh.X → Option ratio_Make.osh.X) (l0 : euclid_Shifted.s0.X → Option (sumX euclid_Shifted.x0)) (L : (((List Int) × (List Int) × Unit × Int × Int × (List Int) × Int × Int × Unit) × ((Int × Int × Unit) × Unit)) → Option ((((List Int) × (List Int) × Unit × Int × Int × Unit) × ((Int × Int × Unit) × Unit)) ⊕ Empty)) (x : (((List Int) × (List Int) × Unit × Int × Int × (List Int) × Int × Int × Unit) × ((Int × Int × Unit) × Unit))) : (roundK (euclid_Shifted.E g_euclid_check g_euclid_square g_ratio_Make l0) euclid_Shifted.s0 [0, 1, 4, 7, 8, 20, 21, 22] [(2, [0, 1, 4, 7, 8])] true (((mk euclid_Shifted.hs euclid_Shifted.c []).atoms.getD 0 .bad).body) euclid_Shifted.x0 L x).run _ some = euclid_Shifted.f0 L x.1.1 x.1.2.1 x.1.2.2.2.1 x.1.2.2.2.2.1 x.1.2.2.2.2.2.1 x.1.2.2.2.2.2.2.1 x.1.2.2.2.2.2.2.2.1 x.2.1.1 x.2.1.2.1 := by
  show _ = (_ : Option _)
  kernel_rfl
noncomputable def euclid_Shifted.L0 : (((List Int) × (List Int) × Unit × Int × Int × (List Int) × Int × Int × Unit) × ((Int × Int × Unit) × Unit)) → Option ((((List Int) × (List Int) × Unit × Int × Int × Unit) × ((Int × Int × Unit) × Unit)) ⊕ Empty) := loop fun L x => euclid_Shifted.f0 L x.1.1 x.1.2.1 x.1.2.2.2.1 x.1.2.2.2.2.1 x.1.2.2.2.2.2.1 x.1.2.2.2.2.2.2.1 x.1.2.2.2.2.2.2.2.1 x.2.1.1 x.2.1.2.1
def euclid_Shifted.f (g_euclid_check : (((List Int) × (List Int) × Unit) × (Unit)) → Option ((Int × Unit) × (Unit))) (g_euclid_square : (((List Int) × (List Int) × Unit) × (Unit)) → Option ((Int × Unit) × (Unit))) (g_ratio_Make : ((Int × Int × Unit) × (Unit)) → Option (((Int × Int × Unit) × Int × Unit) × (Unit))) (l0 : (((List Int) × (List Int) × Unit × Int × Int × (List Int) × Int × Int × Unit) × ((Int × Int × Unit) × Unit)) → Option ((((List Int) × (List Int) × Unit × Int × Int × Unit) × ((Int × Int × Unit) × Unit)) ⊕ Empty)) (x_ : (List Int)) (y : (List Int)) : Option (((Int × Int × Unit) × Int × Unit) × (Unit)) :=
  (Option.bind (g_euclid_check ((x_, (y, ())), ())) (fun y0 =>
  (bif (y0.1.1 != (0:Int)) then
   (some ((((0:Int), ((0:Int), ())), (y0.1.1, ())), ()))
  else
   (Option.bind (l0 ((x_, (y, ((), ((0:Int), ((((List.length x_) : Nat) : Int), (x_, ((((List.length x_) : Nat) : Int), ((0:Int), ())))))))), (((0:Int), ((0:Int), ())), ()))) (fun y2 =>
   (Sum.elim (fun a3 =>
    (Option.bind (g_euclid_square ((a3.1.1, (a3.1.2.1, ())), ())) (fun y4 =>
    (Option.bind (g_ratio_Make (((Go.IntKind.wrap Go.IntKind.i64 ((Go.IntKind.wrap Go.IntKind.i64 (a3.1.2.2.2.2.1 * y4.1.1)) - (Go.IntKind.wrap Go.IntKind.i64 (a3.1.2.2.2.1 * a3.1.2.2.2.1)))), (a3.1.2.2.2.2.1, ())), ())) (fun y5 =>
    (some (((y5.1.1.1, (y5.1.1.2.1, ())), (y5.1.2.1, ())), ()))))))) (fun b3 =>
    (Empty.elim b3)) y2))))))
theorem euclid_Shifted.eq (g_euclid_check : euclid_check.sh.X → Option euclid_check.osh.X) (g_euclid_square : euclid_square.sh.X → Option euclid_square.osh.X) (g_ratio_Make : ratio_Make.sh.X → Option ratio_Make.osh.X) (l0 : euclid_Shifted.s0.X → Option (sumX euclid_Shifted.x0)) (x : (((List Int) × (List Int) × Unit) × (Unit))) : (bodyO (euclid_Shifted.E g_euclid_check g_euclid_square g_ratio_Make l0) (mk euclid_Shifted.hs euclid_Shifted.c []) Go.Proofs.Tryd.f42.results.toList euclid_Shifted.sh euclid_Shifted.osh x).run _ some = euclid_Shifted.f g_euclid_check g_euclid_square g_ratio_Make l0 x.1.1 x.1.2.1 := by
  show _ = (_ : Option _)
  kernel_rfl
noncomputable def euclid_Shifted (x_ : (List Int)) (y : (List Int)) : Option (((Int × Int × Unit) × Int × Unit) × (Unit)) := euclid_Shifted.f euclid_check.F euclid_square.F ratio_Make.F euclid_Shifted.L0 x_ y
noncomputable def euclid_Shifted.F (x : (((List Int) × (List Int) × Unit) × (Unit))) : Option (((Int × Int × Unit) × Int × Unit) × (Unit)) := euclid_Shifted x.1.1 x.1.2.1
theorem euclid_Shifted.L0_eq (x_0 : (List Int)) (y_1 : (List Int)) (sum_7 : Int) (m_8 : Int) (v20 : (List Int)) (v21 : Int) (v22 : Int) (o0_0 : Int) (o0_1 : Int) : euclid_Shifted.L0 ((x_0, y_1, (), sum_7, m_8, v20, v21, v22, ()), ((o0_0, o0_1, ()), ())) = euclid_Shifted.f0 euclid_Shifted.L0 x_0 y_1 sum_7 m_8 v20 v21 v22 o0_0 o0_1 :=
  loop_eq (E := (euclid_Shifted.E euclid_check.F euclid_square.F ratio_Make.F euclid_Shifted.L0)) (sh := euclid_Shifted.s0) (es := euclid_Shifted.x0) (lp := true) (H := fun L x => euclid_Shifted.eq0 euclid_check.F euclid_square.F ratio_Make.F euclid_Shifted.L0 L x) ((x_0, y_1, (), sum_7, m_8, v20, v21, v22, ()), ((o0_0, o0_1, ()), ()))
theorem euclid_Shifted.F_eq (x_ : (List Int)) (y : (List Int)) : euclid_Shifted.F ((x_, y, ()), ()) = euclid_Shifted.f euclid_check.F euclid_square.F ratio_Make.F euclid_Shifted.L0 x_ y := rfl
theorem euclid_Shifted.ok {tabs : List (Nat × Go.Obj)} (ht : TabsOk tabs) : FOK Go.Proofs.Tryd.prog tabs 42 (FE.of [true, true] false euclid_Shifted.sh euclid_Shifted.osh euclid_Shifted.F) := by
  refine fn_keeps (E := (euclid_Shifted.E euclid_check.F euclid_square.F ratio_Make.F euclid_Shifted.L0)) (c := euclid_Shifted.c) (fn := Go.Proofs.Tryd.f42) (hs := euclid_Shifted.hs) (by kernel_rfl) Go.Proofs.Tryd.func42 ⟨by kernel_rfl, by kernel_rfl, tb, by kernel_rfl, by kernel_rfl, by kernel_rfl, by kernel_rfl, by kernel_rfl⟩ ⟨fun g ks fe h => ?_, gt_ok ht⟩ ?_ (fun x => euclid_Shifted.eq euclid_check.F euclid_square.F ratio_Make.F euclid_Shifted.L0 x)
  · rcases c_cons h with ⟨rfl, rfl⟩ | h
    · exact euclid_check.ok ht
    rcases c_cons h with ⟨rfl, rfl⟩ | h
    · exact euclid_square.ok ht
    rcases c_cons h with ⟨rfl, rfl⟩ | h
    · exact ratio_Make.ok ht
    cases h
  · refine known_at 1 (by kernel_rfl) fun i hi => ?_
    match i, hi with
    | 0, _ => exact atom_at (id := 0) (live := [0, 1, 4, 7, 8, 20, 21, 22]) (outs := [(2, [0, 1, 4, 7, 8])]) (loop := true) (by kernel_rfl) (loop_ok (E := (euclid_Shifted.E euclid_check.F euclid_square.F ratio_Make.F euclid_Shifted.L0)) (sh := euclid_Shifted.s0) (es := euclid_Shifted.x0) rfl (fun L x => euclid_Shifted.eq0 euclid_check.F euclid_square.F ratio_Make.F euclid_Shifted.L0 L x))
    | n + 1, h => exact absurd h (by omega)

/-! window_Variance -/
def window_Variance.f0 (o0_0 : Int) (o0_1 : Int) (o0_2 : Int) : Option (((Unit × Bool × Unit) × ((Int × Int × Int × Unit) × Unit)) ⊕ Empty) :=
  (bif (decide (o0_0 < (1:Int))) then
   (some (Sum.inl (((), (Bool.true, ())), ((o0_0, (o0_1, (o0_2, ()))), ()))))
  else
   (bif (decide (o0_0 > (2000:Int))) then
    (some (Sum.inl (((), (Bool.true, ())), ((o0_0, (o0_1, (o0_2, ()))), ()))))
   else
    (bif (decide (o0_1 < (Go.IntKind.wrap Go.IntKind.i64 ((-(1000:Int)) * o0_0)))) then
     (some (Sum.inl (((), (Bool.true, ())), ((o0_0, (o0_1, (o0_2, ()))), ()))))
    else
     (bif (decide (o0_1 > (Go.IntKind.wrap Go.IntKind.i64 ((1000:Int) * o0_0)))) then
      (some (Sum.inl (((), (Bool.true, ())), ((o0_0, (o0_1, (o0_2, ()))), ()))))
     else
      (bif (decide (o0_2 < (0:Int))) then
       (some (Sum.inl (((), (Bool.true, ())), ((o0_0, (o0_1, (o0_2, ()))), ()))))
      else
       (some (Sum.inl (((), ((decide (o0_2 > (Go.IntKind.wrap Go.IntKind.i64 ((1000000:Int) * o0_0)))), ())), ((o0_0, (o0_1, (o0_2, ()))), ())))))))))
theorem window_Variance.eq0 (l0 : window_Variance.s0.X → Option (sumX window_Variance.x0)) (L : ((Unit × Unit) × ((Int × Int × Int × Unit) × Unit)) → Option (((Unit × Bool × Unit) × ((Int × Int × Int × Unit) × Unit)) ⊕ Empty)) (x : ((Unit × Unit) × ((Int × Int × Int × Unit) × Unit))) : (roundK (window_Variance.E l0) window_Variance.s0 [1] [(0, [1, 39])] false (((mk window_Variance.hs window_Variance.c []).atoms.getD 0 .bad).body) window_Variance.x0 L x).run _ some = window_Variance.f0 x.2.1.1 x.2.1.2.1 x.2.1.2.2.1 := by
  show _ = (_ : Option _)
  kernel_rfl
noncomputable def window_Variance.L0 : ((Unit × Unit) × ((Int × Int × Int × Unit) × Unit)) → Option (((Unit × Bool × Unit) × ((Int × Int × Int × Unit) × Unit)) ⊕ Empty) := fun x => window_Variance.f0 x.2.1.1 x.2.1.2.1 x.2.1.2.2.1
def window_Variance.f (l0 : ((Unit × Unit) × ((Int × Int × Int × Unit) × Unit)) → Option (((Unit × Bool × Unit) × ((Int × Int × Int × Unit) × Unit)) ⊕ Empty)) (x_Count : Int) (x_Sum : Int) (x_Square : Int) : Option ((Int × Unit) × (Unit)) :=
  (Option.bind (l0 (((), ()), ((x_Count, (x_Sum, (x_Square, ()))), ()))) (fun y0 =>
  (Sum.elim (fun a1 =>
   (bif a1.1.2.1 then
    (some (((0:Int), ()), ()))
   else
    (some (((Go.VI.mx (0:Int) (Go.IntKind.wrap Go.IntKind.i64 ((Go.IntKind.wrap Go.IntKind.i64 (a1.2.1.1 * a1.2.1.2.2.1)) - (Go.IntKind.wrap Go.IntKind.i64 (a1.2.1.2.1 * a1.2.1.2.1))))), ()), ())))) (fun b1 =>
   (Empty.elim b1)) y0)))
theorem window_Variance.eq (l0 : window_Variance.s0.X → Option (sumX window_Variance.x0)) (x : (((Int × Int × Int × Unit) × Unit) × (Unit))) : (bodyO (window_Variance.E l0) (mk window_Variance.hs window_Variance.c []) Go.Proofs.Tryd.f90.results.toList window_Variance.sh window_Variance.osh x).run _ some = window_Variance.f l0 x.1.1.1 x.1.1.2.1 x.1.1.2.2.1 := by
  show _ = (_ : Option _)
  kernel_rfl
noncomputable def window_Variance (x_Count : Int) (x_Sum : Int) (x_Square : Int) : Option ((Int × Unit) × (Unit)) := window_Variance.f window_Variance.L0 x_Count x_Sum x_Square
noncomputable def window_Variance.F (x : (((Int × Int × Int × Unit) × Unit) × (Unit))) : Option ((Int × Unit) × (Unit)) := window_Variance x.1.1.1 x.1.1.2.1 x.1.1.2.2.1
theorem window_Variance.L0_eq (o0_0 : Int) (o0_1 : Int) (o0_2 : Int) : window_Variance.L0 (((), ()), ((o0_0, o0_1, o0_2, ()), ())) = window_Variance.f0 o0_0 o0_1 o0_2 := rfl
theorem window_Variance.F_eq (x_Count : Int) (x_Sum : Int) (x_Square : Int) : window_Variance.F (((x_Count, x_Sum, x_Square, ()), ()), ()) = window_Variance.f window_Variance.L0 x_Count x_Sum x_Square := rfl
theorem window_Variance.ok {tabs : List (Nat × Go.Obj)} (ht : TabsOk tabs) : FOK Go.Proofs.Tryd.prog tabs 90 (FE.of [true] false window_Variance.sh window_Variance.osh window_Variance.F) := by
  refine fn_keeps (E := (window_Variance.E window_Variance.L0)) (c := window_Variance.c) (fn := Go.Proofs.Tryd.f90) (hs := window_Variance.hs) (by kernel_rfl) Go.Proofs.Tryd.func90 ⟨by kernel_rfl, by kernel_rfl, tb, by kernel_rfl, by kernel_rfl, by kernel_rfl, by kernel_rfl, by kernel_rfl⟩ ⟨fun g ks fe h => ?_, gt_ok ht⟩ ?_ (fun x => window_Variance.eq window_Variance.L0 x)
  · cases h
  · refine known_at 1 (by kernel_rfl) fun i hi => ?_
    match i, hi with
    | 0, _ => exact atom_at (id := 0) (live := [1]) (outs := [(0, [1, 39])]) (loop := false) (by kernel_rfl) (cut_ok (E := (window_Variance.E window_Variance.L0)) (sh := window_Variance.s0) (es := window_Variance.x0) rfl (fun L x => window_Variance.eq0 window_Variance.L0 L x))
    | n + 1, h => exact absurd h (by omega)

/-! normal_variance -/
def normal_variance.f0 (L : ((Unit × (List Int) × Int × Int × Unit) × ((Int × Int × Int × Unit) × Unit)) → Option (((Unit × Unit) × ((Int × Int × Int × Unit) × Unit)) ⊕ Empty)) (v9 : (List Int)) (v10 : Int) (v11 : Int) (o0_0 : Int) (o0_1 : Int) (o0_2 : Int) : Option (((Unit × Unit) × ((Int × Int × Int × Unit) × Unit)) ⊕ Empty) :=
  (bif (decide (v11 < v10)) then
   (bif (decide ((0:Int) ≤ v11)) then
    (bif (decide (v11 < (((List.length v9) : Nat) : Int))) then
     (Option.bind (L (((), (v9, (v10, ((Go.IntKind.wrap Go.IntKind.i64 (v11 + (1:Int))), ())))), ((o0_0, ((Go.IntKind.wrap Go.IntKind.i64 (o0_1 + (List.getD v9 (Int.toNat v11) (0:Int)))), ((Go.IntKind.wrap Go.IntKind.i64 (o0_2 + (Go.IntKind.wrap Go.IntKind.i64 ((List.getD v9 (Int.toNat v11) (0:Int)) * (List.getD v9 (Int.toNat v11) (0:Int)))))), ()))), ()))) (fun y3 =>
     (some y3)))
    else
     none)
   else
    none)
  else
   (some (Sum.inl (((), ()), ((o0_0, (o0_1, (o0_2, ()))), ())))))
theorem normal_variance.eq0 (g_window_Variance : window_Variance.sh.X → Option window_Variance.osh.X) (l0 : normal_variance.s0.X → Option (sumX normal_variance.x0)) (L : ((Unit × (List Int) × Int × Int × Unit) × ((Int × Int × Int × Unit) × Unit)) → Option (((Unit × Unit) × ((Int × Int × Int × Unit) × Unit)) ⊕ Empty)) (x : ((Unit × (List Int) × Int × Int × Unit) × ((Int × Int × Int × Unit) × Unit))) : (roundK (normal_variance.E g_window_Variance l0) normal_variance.s0 [3, 9, 10, 11] [(2, [3])] true (((mk normal_variance.hs normal_variance.c []).atoms.getD 0 .bad).body) normal_variance.x0 L x).run _ some = normal_variance.f0 L x.1.2.1 x.1.2.2.1 x.1.2.2.2.1 x.2.1.1 x.2.1.2.1 x.2.1.2.2.1 := by
  show _ = (_ : Option _)
  kernel_rfl
noncomputable def normal_variance.L0 : ((Unit × (List Int) × Int × Int × Unit) × ((Int × Int × Int × Unit) × Unit)) → Option (((Unit × Unit) × ((Int × Int × Int × Unit) × Unit)) ⊕ Empty) := loop fun L x => normal_variance.f0 L x.1.2.1 x.1.2.2.1 x.1.2.2.2.1 x.2.1.1 x.2.1.2.1 x.2.1.2.2.1
def normal_variance.f (g_window_Variance : (((Int × Int × Int × Unit) × Unit) × (Unit)) → Option ((Int × Unit) × (Unit))) (l0 : ((Unit × (List Int) × Int × Int × Unit) × ((Int × Int × Int × Unit) × Unit)) → Option (((Unit × Unit) × ((Int × Int × Int × Unit) × Unit)) ⊕ Empty)) (x_ : (List Int)) : Option ((Int × Unit) × (Unit)) :=
  (Option.bind (l0 (((), (x_, ((((List.length x_) : Nat) : Int), ((0:Int), ())))), (((((List.length x_) : Nat) : Int), ((0:Int), ((0:Int), ()))), ()))) (fun y0 =>
  (Sum.elim (fun a1 =>
   (Option.bind (g_window_Variance (((a1.2.1.1, (a1.2.1.2.1, (a1.2.1.2.2.1, ()))), ()), ())) (fun y2 =>
   (some ((y2.1.1, ()), ()))))) (fun b1 =>
   (Empty.elim b1)) y0)))
theorem normal_variance.eq (g_window_Variance : window_Variance.sh.X → Option window_Variance.osh.X) (l0 : normal_variance.s0.X → Option (sumX normal_variance.x0)) (x : (((List Int) × Unit) × (Unit))) : (bodyO (normal_variance.E g_window_Variance l0) (mk normal_variance.hs normal_variance.c []) Go.Proofs.Tryd.f74.results.toList normal_variance.sh normal_variance.osh x).run _ some = normal_variance.f g_window_Variance l0 x.1.1 := by
  show _ = (_ : Option _)
  kernel_rfl
noncomputable def normal_variance (x_ : (List Int)) : Option ((Int × Unit) × (Unit)) := normal_variance.f window_Variance.F normal_variance.L0 x_
noncomputable def normal_variance.F (x : (((List Int) × Unit) × (Unit))) : Option ((Int × Unit) × (Unit)) := normal_variance x.1.1
theorem normal_variance.L0_eq (v9 : (List Int)) (v10 : Int) (v11 : Int) (o0_0 : Int) (o0_1 : Int) (o0_2 : Int) : normal_variance.L0 (((), v9, v10, v11, ()), ((o0_0, o0_1, o0_2, ()), ())) = normal_variance.f0 normal_variance.L0 v9 v10 v11 o0_0 o0_1 o0_2 :=
  loop_eq (E := (normal_variance.E window_Variance.F normal_variance.L0)) (sh := normal_variance.s0) (es := normal_variance.x0) (lp := true) (H := fun L x => normal_variance.eq0 window_Variance.F normal_variance.L0 L x) (((), v9, v10, v11, ()), ((o0_0, o0_1, o0_2, ()), ()))
theorem normal_variance.F_eq (x_ : (List Int)) : normal_variance.F ((x_, ()), ()) = normal_variance.f window_Variance.F normal_variance.L0 x_ := rfl
theorem normal_variance.ok {tabs : List (Nat × Go.Obj)} (ht : TabsOk tabs) : FOK Go.Proofs.Tryd.prog tabs 74 (FE.of [true] false normal_variance.sh normal_variance.osh normal_variance.F) := by
  refine fn_keeps (E := (normal_variance.E window_Variance.F normal_variance.L0)) (c := normal_variance.c) (fn := Go.Proofs.Tryd.f74) (hs := normal_variance.hs) (by kernel_rfl) Go.Proofs.Tryd.func74 ⟨by kernel_rfl, by kernel_rfl, tb, by kernel_rfl, by kernel_rfl, by kernel_rfl, by kernel_rfl, by kernel_rfl⟩ ⟨fun g ks fe h => ?_, gt_ok ht⟩ ?_ (fun x => normal_variance.eq window_Variance.F normal_variance.L0 x)
  · rcases c_cons h with ⟨rfl, rfl⟩ | h
    · exact window_Variance.ok ht
    cases h
  · refine known_at 1 (by kernel_rfl) fun i hi => ?_
    match i, hi with
    | 0, _ => exact atom_at (id := 0) (live := [3, 9, 10, 11]) (outs := [(2, [3])]) (loop := true) (by kernel_rfl) (loop_ok (E := (normal_variance.E window_Variance.F normal_variance.L0)) (sh := normal_variance.s0) (es := normal_variance.x0) rfl (fun L x => normal_variance.eq0 window_Variance.F normal_variance.L0 L x))
    | n + 1, h => exact absurd h (by omega)

/-! normal_product -/
def normal_product.f0 (L : (((List Int) × (List Int) × Int × Int × Int × (List Int) × Int × Int × Unit) × (Unit)) → Option ((((List Int) × Int × Int × Int × Unit) × (Unit)) ⊕ Empty)) (x_0 : (List Int)) (y_1 : (List Int)) (p_5 : Int) (s_6 : Int) (t_7 : Int) (v10 : (List Int)) (v11 : Int) (v12 : Int) : Option ((((List Int) × Int × Int × Int × Unit) × (Unit)) ⊕ Empty) :=
  (bif (decide (v12 < v11)) then
   (bif (decide ((0:Int) ≤ v12)) then
    (bif (decide (v12 < (((List.length v10) : Nat) : Int))) then
     (bif (decide ((0:Int) ≤ v12)) then
      (bif (decide (v12 < (((List.length y_1) : Nat) : Int))) then
       (bif (decide ((0:Int) ≤ v12)) then
        (bif (decide (v12 < (((List.length y_1) : Nat) : Int))) then
         (Option.bind (L ((x_0, (y_1, ((Go.IntKind.wrap Go.IntKind.i64 (p_5 + (Go.IntKind.wrap Go.IntKind.i64 ((List.getD v10 (Int.toNat v12) (0:Int)) * (List.getD y_1 (Int.toNat v12) (0:Int)))))), ((Go.IntKind.wrap Go.IntKind.i64 (s_6 + (List.getD v10 (Int.toNat v12) (0:Int)))), ((Go.IntKind.wrap Go.IntKind.i64 (t_7 + (List.getD y_1 (Int.toNat v12) (0:Int)))), (v10, (v11, ((Go.IntKind.wrap Go.IntKind.i64 (v12 + (1:Int))), ())))))))), ())) (fun y7 =>
         (some y7)))
        else
         none)
       else
        none)
      else
       none)
     else
      none)
    else
     none)
   else
    none)
  else
   (some (Sum.inl ((x_0, (p_5, (s_6, (t_7, ())))), ()))))
theorem normal_product.eq0 (l0 : normal_product.s0.X → Option (sumX normal_product.x0)) (L : (((List Int) × (List Int) × Int × Int × Int × (List Int) × Int × Int × Unit) × (Unit)) → Option ((((List Int) × Int × Int × Int × Unit) × (Unit)) ⊕ Empty)) (x : (((List Int) × (List Int) × Int × Int × Int × (List Int) × Int × Int × Unit) × (Unit))) : (roundK (normal_product.E l0) normal_product.s0 [0, 1, 5, 6, 7, 10, 11, 12] [(2, [0, 5, 6, 7])] true (((mk normal_product.hs normal_product.c []).atoms.getD 0 .bad).body) normal_product.x0 L x).run _ some = normal_product.f0 L x.1.1 x.1.2.1 x.1.2.2.1 x.1.2.2.2.1 x.1.2.2.2.2.1 x.1.2.2.2.2.2.1 x.1.2.2.2.2.2.2.1 x.1.2.2.2.2.2.2.2.1 := by
  show _ = (_ : Option _)
  kernel_rfl
noncomputable def normal_product.L0 : (((List Int) × (List Int) × Int × Int × Int × (List Int) × Int × Int × Unit) × (Unit)) → Option ((((List Int) × Int × Int × Int × Unit) × (Unit)) ⊕ Empty) := loop fun L x => normal_product.f0 L x.1.1 x.1.2.1 x.1.2.2.1 x.1.2.2.2.1 x.1.2.2.2.2.1 x.1.2.2.2.2.2.1 x.1.2.2.2.2.2.2.1 x.1.2.2.2.2.2.2.2.1
def normal_product.f (l0 : (((List Int) × (List Int) × Int × Int × Int × (List Int) × Int × Int × Unit) × (Unit)) → Option ((((List Int) × Int × Int × Int × Unit) × (Unit)) ⊕ Empty)) (x_ : (List Int)) (y : (List Int)) : Option ((Int × Unit) × (Unit)) :=
  (Option.bind (l0 ((x_, (y, ((0:Int), ((0:Int), ((0:Int), (x_, ((((List.length x_) : Nat) : Int), ((0:Int), ())))))))), ())) (fun y0 =>
  (Sum.elim (fun a1 =>
   (some (((Go.IntKind.wrap Go.IntKind.i64 ((Go.IntKind.wrap Go.IntKind.i64 ((((List.length a1.1.1) : Nat) : Int) * a1.1.2.1)) - (Go.IntKind.wrap Go.IntKind.i64 (a1.1.2.2.1 * a1.1.2.2.2.1)))), ()), ()))) (fun b1 =>
   (Empty.elim b1)) y0)))
theorem normal_product.eq (l0 : normal_product.s0.X → Option (sumX normal_product.x0)) (x : (((List Int) × (List Int) × Unit) × (Unit))) : (bodyO (normal_product.E l0) (mk normal_product.hs normal_product.c []) Go.Proofs.Tryd.f75.results.toList normal_product.sh normal_product.osh x).run _ some = normal_product.f l0 x.1.1 x.1.2.1 := by
  show _ = (_ : Option _)
  kernel_rfl
noncomputable def normal_product (x_ : (List Int)) (y : (List Int)) : Option ((Int × Unit) × (Unit)) := normal_product.f normal_product.L0 x_ y
noncomputable def normal_product.F (x : (((List Int) × (List Int) × Unit) × (Unit))) : Option ((Int × Unit) × (Unit)) := normal_product x.1.1 x.1.2.1
theorem normal_product.L0_eq (x_0 : (List Int)) (y_1 : (List Int)) (p_5 : Int) (s_6 : Int) (t_7 : Int) (v10 : (List Int)) (v11 : Int) (v12 : Int) : normal_product.L0 ((x_0, y_1, p_5, s_6, t_7, v10, v11, v12, ()), ()) = normal_product.f0 normal_product.L0 x_0 y_1 p_5 s_6 t_7 v10 v11 v12 :=
  loop_eq (E := (normal_product.E normal_product.L0)) (sh := normal_product.s0) (es := normal_product.x0) (lp := true) (H := fun L x => normal_product.eq0 normal_product.L0 L x) ((x_0, y_1, p_5, s_6, t_7, v10, v11, v12, ()), ())
theorem normal_product.F_eq (x_ : (List Int)) (y : (List Int)) : normal_product.F ((x_, y, ()), ()) = normal_product.f normal_product.L0 x_ y := rfl
theorem normal_product.ok {tabs : List (Nat × Go.Obj)} (ht : TabsOk tabs) : FOK Go.Proofs.Tryd.prog tabs 75 (FE.of [true, true] false normal_product.sh normal_product.osh normal_product.F) := by
  refine fn_keeps (E := (normal_product.E normal_product.L0)) (c := normal_product.c) (fn := Go.Proofs.Tryd.f75) (hs := normal_product.hs) (by kernel_rfl) Go.Proofs.Tryd.func75 ⟨by kernel_rfl, by kernel_rfl, tb, by kernel_rfl, by kernel_rfl, by kernel_rfl, by kernel_rfl, by kernel_rfl⟩ ⟨fun g ks fe h => ?_, gt_ok ht⟩ ?_ (fun x => normal_product.eq normal_product.L0 x)
  · cases h
  · refine known_at 1 (by kernel_rfl) fun i hi => ?_
    match i, hi with
    | 0, _ => exact atom_at (id := 0) (live := [0, 1, 5, 6, 7, 10, 11, 12]) (outs := [(2, [0, 5, 6, 7])]) (loop := true) (by kernel_rfl) (loop_ok (E := (normal_product.E normal_product.L0)) (sh := normal_product.s0) (es := normal_product.x0) rfl (fun L x => normal_product.eq0 normal_product.L0 L x))
    | n + 1, h => exact absurd h (by omega)

/-! normal_gap -/
def normal_gap.f1 (x_0 : (List Int)) (y_1 : (List Int)) (v_6 : Int) (w_7 : Int) (o0_0 : Int) (o0_1 : Int) : Option ((((List Int) × (List Int) × Unit × Int × Int × Bool × Unit) × ((Int × Int × Unit) × Unit)) ⊕ Empty) :=
  (bif (v_6 == (0:Int)) then
   (some (Sum.inl ((x_0, (y_1, ((), (v_6, (w_7, ((w_7 == (0:Int)), ())))))), ((o0_0, (o0_1, ())), ()))))
  else
   (some (Sum.inl ((x_0, (y_1, ((), (v_6, (w_7, (Bool.false, ())))))), ((o0_0, (o0_1, ())), ())))))
theorem normal_gap.eq1 (g_normal_variance : normal_variance.sh.X → Option normal_variance.osh.X) (g_ratio_Make : ratio_Make.sh.X → Option ratio_Make.osh.X) (g_normal_product : normal_product.sh.X → Option normal_product.osh.X) (l0 : normal_gap.s0.X → Option (sumX normal_gap.x0)) (l1 : normal_gap.s1.X → Option (sumX normal_gap.x1)) (L : (((List Int) × (List Int) × Unit × Int × Int × Unit) × ((Int × Int × Unit) × Unit)) → Option ((((List Int) × (List Int) × Unit × Int × Int × Bool × Unit) × ((Int × Int × Unit) × Unit)) ⊕ Empty)) (x : (((List Int) × (List Int) × Unit × Int × Int × Unit) × ((Int × Int × Unit) × Unit))) : (roundK (normal_gap.E g_normal_variance g_ratio_Make g_normal_product l0 l1) normal_gap.s1 [0, 1, 4, 6, 7] [(0, [0, 1, 4, 6, 7, 13])] false (((mk normal_gap.hs normal_gap.c []).atoms.getD 1 .bad).body) normal_gap.x1 L x).run _ some = normal_gap.f1 x.1.1 x.1.2.1 x.1.2.2.2.1 x.1.2.2.2.2.1 x.2.1.1 x.2.1.2.1 := by
  show _ = (_ : Option _)
  kernel_rfl
noncomputable def normal_gap.L1 : (((List Int) × (List Int) × Unit × Int × Int × Unit) × ((Int × Int × Unit) × Unit)) → Option ((((List Int) × (List Int) × Unit × Int × Int × Bool × Unit) × ((Int × Int × Unit) × Unit)) ⊕ Empty) := fun x => normal_gap.f1 x.1.1 x.1.2.1 x.1.2.2.2.1 x.1.2.2.2.2.1 x.2.1.1 x.2.1.2.1
def normal_gap.f0 (g_ratio_Make : ((Int × Int × Unit) × (Unit)) → Option (((Int × Int × Unit) × Int × Unit) × (Unit))) (l1 : (((List Int) × (List Int) × Unit × Int × Int × Unit) × ((Int × Int × Unit) × Unit)) → Option ((((List Int) × (List Int) × Unit × Int × Int × Bool × Unit) × ((Int × Int × Unit) × Unit)) ⊕ Empty)) (x_0 : (List Int)) (y_1 : (List Int)) (v_6 : Int) (w_7 : Int) (o0_0 : Int) (o0_1 : Int) : Option (((Unit × Int × Unit) × ((Int × Int × Unit) × Unit)) ⊕ (((List Int) × (List Int) × Unit × Int × Int × Unit) × ((Int × Int × Unit) × Unit)) ⊕ Empty) :=
  (Option.bind (l1 ((x_0, (y_1, ((), (v_6, (w_7, ()))))), ((o0_0, (o0_1, ())), ()))) (fun y0 =>
  (Sum.elim (fun a1 =>
   (bif a1.1.2.2.2.2.2.1 then
    (Option.bind (g_ratio_Make (((0:Int), ((1:Int), ())), ())) (fun y3 =>
    (some (Sum.inl (((), (y3.1.2.1, ())), ((y3.1.1.1, (y3.1.1.2.1, ())), ()))))))
   else
    (bif (a1.1.2.2.2.1 == (0:Int)) then
     (Option.bind (g_ratio_Make (((1:Int), ((1:Int), ())), ())) (fun y4 =>
     (some (Sum.inl (((), (y4.1.2.1, ())), ((y4.1.1.1, (y4.1.1.2.1, ())), ()))))))
    else
     (bif (a1.1.2.2.2.2.1 == (0:Int)) then
      (Option.bind (g_ratio_Make (((1:Int), ((1:Int), ())), ())) (fun y5 =>
      (some (Sum.inl (((), (y5.1.2.1, ())), ((y5.1.1.1, (y5.1.1.2.1, ())), ()))))))
     else
      (some (Sum.inr (Sum.inl ((a1.1.1, (a1.1.2.1, ((), (a1.1.2.2.2.1, (a1.1.2.2.2.2.1, ()))))), ((a1.2.1.1, (a1.2.1.2.1, ())), ()))))))))) (fun b1 =>
   (Empty.elim b1)) y0)))
theorem normal_gap.eq0 (g_normal_variance : normal_variance.sh.X → Option normal_variance.osh.X) (g_ratio_Make : ratio_Make.sh.X → Option ratio_Make.osh.X) (g_normal_product : normal_product.sh.X → Option normal_product.osh.X) (l0 : normal_gap.s0.X → Option (sumX normal_gap.x0)) (l1 : normal_gap.s1.X → Option (sumX normal_gap.x1)) (L : (((List Int) × (List Int) × Unit × Int × Int × Unit) × ((Int × Int × Unit) × Unit)) → Option (((Unit × Int × Unit) × ((Int × Int × Unit) × Unit)) ⊕ (((List Int) × (List Int) × Unit × Int × Int × Unit) × ((Int × Int × Unit) × Unit)) ⊕ Empty)) (x : (((List Int) × (List Int) × Unit × Int × Int × Unit) × ((Int × Int × Unit) × Unit))) : (roundK (normal_gap.E g_normal_variance g_ratio_Make g_normal_product l0 l1) normal_gap.s0 [0, 1, 4, 6, 7] [(1, [4, 5]), (0, [0, 1, 4, 6, 7])] false (((mk normal_gap.hs normal_gap.c []).atoms.getD 0 .bad).body) normal_gap.x0 L x).run _ some = normal_gap.f0 g_ratio_Make l1 x.1.1 x.1.2.1 x.1.2.2.2.1 x.1.2.2.2.2.1 x.2.1.1 x.2.1.2.1 := by
  show _ = (_ : Option _)
  kernel_rfl
noncomputable def normal_gap.L0 : (((List Int) × (List Int) × Unit × Int × Int × Unit) × ((Int × Int × Unit) × Unit)) → Option (((Unit × Int × Unit) × ((Int × Int × Unit) × Unit)) ⊕ (((List Int) × (List Int) × Unit × Int × Int × Unit) × ((Int × Int × Unit) × Unit)) ⊕ Empty) := fun x => normal_gap.f0 ratio_Make.F normal_gap.L1 x.1.1 x.1.2.1 x.1.2.2.2.1 x.1.2.2.2.2.1 x.2.1.1 x.2.1.2.1
def normal_gap.f (g_normal_variance : (((List Int) × Unit) × (Unit)) → Option ((Int × Unit) × (Unit))) (g_ratio_Make : ((Int × Int × Unit) × (Unit)) → Option (((Int × Int × Unit) × Int × Unit) × (Unit))) (g_normal_product : (((List Int) × (List Int) × Unit) × (Unit)) → Option ((Int × Unit) × (Unit))) (l0 : (((List Int) × (List Int) × Unit × Int × Int × Unit) × ((Int × Int × Unit) × Unit)) → Option (((Unit × Int × Unit) × ((Int × Int × Unit) × Unit)) ⊕ (((List Int) × (List Int) × Unit × Int × Int × Unit) × ((Int × Int × Unit) × Unit)) ⊕ Empty)) (x_ : (List Int)) (y : (List Int)) : Option (((Int × Int × Unit) × Int × Unit) × (Unit)) :=
  (Option.bind (g_normal_variance ((x_, ()), ())) (fun y0 =>
  (Option.bind (g_normal_variance ((y, ()), ())) (fun y1 =>
  (Option.bind (l0 ((x_, (y, ((), (y0.1.1, (y1.1.1, ()))))), (((0:Int), ((0:Int), ())), ()))) (fun y2 =>
  (Sum.elim (fun a3 =>
   (some (((a3.2.1.1, (a3.2.1.2.1, ())), (a3.1.2.1, ())), ()))) (fun b3 =>
   (Sum.elim (fun a4 =>
    (Option.bind (g_normal_product ((a4.1.1, (a4.1.2.1, ())), ())) (fun y5 =>
    (bif (decide (y5.1.1 < (0:Int))) then
     (Option.bind (g_ratio_Make (((Go.IntKind.wrap Go.IntKind.i64 ((Go.IntKind.wrap Go.IntKind.i64 (a4.1.2.2.2.1 * a4.1.2.2.2.2.1)) + (Go.IntKind.wrap Go.IntKind.i64 (y5.1.1 * y5.1.1)))), ((Go.IntKind.wrap Go.IntKind.i64 (a4.1.2.2.2.1 * a4.1.2.2.2.2.1)), ())), ())) (fun y7 =>
     (some (((y7.1.1.1, (y7.1.1.2.1, ())), (y7.1.2.1, ())), ()))))
    else
     (Option.bind (g_ratio_Make (((Go.IntKind.wrap Go.IntKind.i64 ((Go.IntKind.wrap Go.IntKind.i64 (a4.1.2.2.2.1 * a4.1.2.2.2.2.1)) - (Go.IntKind.wrap Go.IntKind.i64 (y5.1.1 * y5.1.1)))), ((Go.IntKind.wrap Go.IntKind.i64 (a4.1.2.2.2.1 * a4.1.2.2.2.2.1)), ())), ())) (fun y7 =>
     (some (((y7.1.1.1, (y7.1.1.2.1, ())), (y7.1.2.1, ())), ())))))))) (fun b4 =>
    (Empty.elim b4)) b3)) y2)))))))
theorem normal_gap.eq (g_normal_variance : normal_variance.sh.X → Option normal_variance.osh.X) (g_ratio_Make : ratio_Make.sh.X → Option ratio_Make.osh.X) (g_normal_product : normal_product.sh.X → Option normal_product.osh.X) (l0 : normal_gap.s0.X → Option (sumX normal_gap.x0)) (l1 : normal_gap.s1.X → Option (sumX normal_gap.x1)) (x : (((List Int) × (List Int) × Unit) × (Unit))) : (bodyO (normal_gap.E g_normal_variance g_ratio_Make g_normal_product l0 l1) (mk normal_gap.hs normal_gap.c []) Go.Proofs.Tryd.f59.results.toList normal_gap.sh normal_gap.osh x).run _ some = normal_gap.f g_normal_variance g_ratio_Make g_normal_product l0 x.1.1 x.1.2.1 := by
  show _ = (_ : Option _)
  kernel_rfl
noncomputable def normal_gap (x_ : (List Int)) (y : (List Int)) : Option (((Int × Int × Unit) × Int × Unit) × (Unit)) := normal_gap.f normal_variance.F ratio_Make.F normal_product.F normal_gap.L0 x_ y
noncomputable def normal_gap.F (x : (((List Int) × (List Int) × Unit) × (Unit))) : Option (((Int × Int × Unit) × Int × Unit) × (Unit)) := normal_gap x.1.1 x.1.2.1
theorem normal_gap.L0_eq (x_0 : (List Int)) (y_1 : (List Int)) (v_6 : Int) (w_7 : Int) (o0_0 : Int) (o0_1 : Int) : normal_gap.L0 ((x_0, y_1, (), v_6, w_7, ()), ((o0_0, o0_1, ()), ())) = normal_gap.f0 ratio_Make.F normal_gap.L1 x_0 y_1 v_6 w_7 o0_0 o0_1 := rfl
theorem normal_gap.L1_eq (x_0 : (List Int)) (y_1 : (List Int)) (v_6 : Int) (w_7 : Int) (o0_0 : Int) (o0_1 : Int) : normal_gap.L1 ((x_0, y_1, (), v_6, w_7, ()), ((o0_0, o0_1, ()), ())) = normal_gap.f1 x_0 y_1 v_6 w_7 o0_0 o0_1 := rfl
theorem normal_gap.F_eq (x_ : (List Int)) (y : (List Int)) : normal_gap.F ((x_, y, ()), ()) = normal_gap.f normal_variance.F ratio_Make.F normal_product.F normal_gap.L0 x_ y := rfl
theorem normal_gap.ok {tabs : List (Nat × Go.Obj)} (ht : TabsOk tabs) : FOK Go.Proofs.Tryd.prog tabs 59 (FE.of [true, true] false normal_gap.sh normal_gap.osh normal_gap.F) := by
  refine fn_keeps (E := (normal_gap.E normal_variance.F ratio_Make.F normal_product.F normal_gap.L0 normal_gap.L1)) (c := normal_gap.c) (fn := Go.Proofs.Tryd.f59) (hs := normal_gap.hs) (by kernel_rfl) Go.Proofs.Tryd.func59 ⟨by kernel_rfl, by kernel_rfl, tb, by kernel_rfl, by kernel_rfl, by kernel_rfl, by kernel_rfl, by kernel_rfl⟩ ⟨fun g ks fe h => ?_, gt_ok ht⟩ ?_ (fun x => normal_gap.eq normal_variance.F ratio_Make.F normal_product.F normal_gap.L0 normal_gap.L1 x)
  · rcases c_cons h with ⟨rfl, rfl⟩ | h
    · exact normal_variance.ok ht
    rcases c_cons h with ⟨rfl, rfl⟩ | h
    · exact ratio_Make.ok ht
    rcases c_cons h with ⟨rfl, rfl⟩ | h
    · exact normal_product.ok ht
    cases h
  · refine known_at 2 (by kernel_rfl) fun i hi => ?_
    match i, hi with
    | 0, _ => exact atom_at (id := 0) (live := [0, 1, 4, 6, 7]) (outs := [(1, [4, 5]), (0, [0, 1, 4, 6, 7])]) (loop := false) (by kernel_rfl) (cut_ok (E := (normal_gap.E normal_variance.F ratio_Make.F normal_product.F normal_gap.L0 normal_gap.L1)) (sh := normal_gap.s0) (es := normal_gap.x0) rfl (fun L x => normal_gap.eq0 normal_variance.F ratio_Make.F normal_product.F normal_gap.L0 normal_gap.L1 L x))
    | 1, _ => exact atom_at (id := 1) (live := [0, 1, 4, 6, 7]) (outs := [(0, [0, 1, 4, 6, 7, 13])]) (loop := false) (by kernel_rfl) (cut_ok (E := (normal_gap.E normal_variance.F ratio_Make.F normal_product.F normal_gap.L0 normal_gap.L1)) (sh := normal_gap.s1) (es := normal_gap.x1) rfl (fun L x => normal_gap.eq1 normal_variance.F ratio_Make.F normal_product.F normal_gap.L0 normal_gap.L1 L x))
    | n + 2, h => exact absurd h (by omega)

/-! normal_Gap -/
def normal_Gap.f (g_euclid_Distance : (((List Int) × (List Int) × Unit) × (Unit)) → Option ((Int × Int × Unit) × (Unit))) (g_normal_gap : (((List Int) × (List Int) × Unit) × (Unit)) → Option (((Int × Int × Unit) × Int × Unit) × (Unit))) (x_ : (List Int)) (y : (List Int)) : Option (((Int × Int × Unit) × Int × Unit) × (Unit)) :=
  (Option.bind (g_euclid_Distance ((x_, (y, ())), ())) (fun y0 =>
  (bif (y0.1.2.1 != (0:Int)) then
   (some ((((0:Int), ((0:Int), ())), (y0.1.2.1, ())), ()))
  else
   (Option.bind (g_normal_gap ((x_, (y, ())), ())) (fun y2 =>
   (some (((y2.1.1.1, (y2.1.1.2.1, ())), (y2.1.2.1, ())), ())))))))
theorem normal_Gap.eq (g_euclid_Distance : euclid_Distance.sh.X → Option euclid_Distance.osh.X) (g_normal_gap : normal_gap.sh.X → Option normal_gap.osh.X) (x : (((List Int) × (List Int) × Unit) × (Unit))) : (bodyO (normal_Gap.E g_euclid_Distance g_normal_gap) (mk normal_Gap.hs normal_Gap.c []) Go.Proofs.Tryd.f43.results.toList normal_Gap.sh normal_Gap.osh x).run _ some = normal_Gap.f g_euclid_Distance g_normal_gap x.1.1 x.1.2.1 := by
  show _ = (_ : Option _)
  kernel_rfl
noncomputable def normal_Gap (x_ : (List Int)) (y : (List Int)) : Option (((Int × Int × Unit) × Int × Unit) × (Unit)) := normal_Gap.f euclid_Distance.F normal_gap.F x_ y
noncomputable def normal_Gap.F (x : (((List Int) × (List Int) × Unit) × (Unit))) : Option (((Int × Int × Unit) × Int × Unit) × (Unit)) := normal_Gap x.1.1 x.1.2.1
theorem normal_Gap.F_eq (x_ : (List Int)) (y : (List Int)) : normal_Gap.F ((x_, y, ()), ()) = normal_Gap.f euclid_Distance.F normal_gap.F x_ y := rfl
theorem normal_Gap.ok {tabs : List (Nat × Go.Obj)} (ht : TabsOk tabs) : FOK Go.Proofs.Tryd.prog tabs 43 (FE.of [true, true] false normal_Gap.sh normal_Gap.osh normal_Gap.F) := by
  refine fn_keeps (E := (normal_Gap.E euclid_Distance.F normal_gap.F)) (c := normal_Gap.c) (fn := Go.Proofs.Tryd.f43) (hs := normal_Gap.hs) (by kernel_rfl) Go.Proofs.Tryd.func43 ⟨by kernel_rfl, by kernel_rfl, tb, by kernel_rfl, by kernel_rfl, by kernel_rfl, by kernel_rfl, by kernel_rfl⟩ ⟨fun g ks fe h => ?_, gt_ok ht⟩ ?_ (fun x => normal_Gap.eq euclid_Distance.F normal_gap.F x)
  · rcases c_cons h with ⟨rfl, rfl⟩ | h
    · exact euclid_Distance.ok ht
    rcases c_cons h with ⟨rfl, rfl⟩ | h
    · exact normal_gap.ok ht
    cases h
  · exact known_at 0 (by kernel_rfl) fun i hi => absurd hi (Nat.not_lt_zero i)

/-! warp_check -/
def warp_check.f0 (x_0 : (List Int)) (y_1 : (List Int)) (band_2 : Int) : Option ((((List Int) × (List Int) × Int × Bool × Unit) × (Unit)) ⊕ Empty) :=
  (bif (decide (band_2 < (0:Int))) then
   (some (Sum.inl ((x_0, (y_1, (band_2, (Bool.true, ())))), ())))
  else
   (some (Sum.inl ((x_0, (y_1, (band_2, ((decide (band_2 > (32:Int))), ())))), ()))))
theorem warp_check.eq0 (g_euclid_Distance : euclid_Distance.sh.X → Option euclid_Distance.osh.X) (l0 : warp_check.s0.X → Option (sumX warp_check.x0)) (l1 : warp_check.s1.X → Option (sumX warp_check.x1)) (L : (((List Int) × (List Int) × Int × Unit) × (Unit)) → Option ((((List Int) × (List Int) × Int × Bool × Unit) × (Unit)) ⊕ Empty)) (x : (((List Int) × (List Int) × Int × Unit) × (Unit))) : (roundK (warp_check.E g_euclid_Distance l0 l1) warp_check.s0 [0, 1, 2] [(0, [0, 1, 2, 16])] false (((mk warp_check.hs warp_check.c []).atoms.getD 0 .bad).body) warp_check.x0 L x).run _ some = warp_check.f0 x.1.1 x.1.2.1 x.1.2.2.1 := by
  show _ = (_ : Option _)
  kernel_rfl
noncomputable def warp_check.L0 : (((List Int) × (List Int) × Int × Unit) × (Unit)) → Option ((((List Int) × (List Int) × Int × Bool × Unit) × (Unit)) ⊕ Empty) := fun x => warp_check.f0 x.1.1 x.1.2.1 x.1.2.2.1
def warp_check.f1 (x_0 : (List Int)) (y_1 : (List Int)) (band_2 : Int) (e_8 : Int) (f_10 : Int) : Option ((((List Int) × (List Int) × Int × Int × Int × Bool × Unit) × (Unit)) ⊕ Empty) :=
  (bif (e_8 == (8:Int)) then
   (some (Sum.inl ((x_0, (y_1, (band_2, (e_8, (f_10, (Bool.true, ())))))), ())))
  else
   (some (Sum.inl ((x_0, (y_1, (band_2, (e_8, (f_10, ((f_10 == (8:Int)), ())))))), ()))))
theorem warp_check.eq1 (g_euclid_Distance : euclid_Distance.sh.X → Option euclid_Distance.osh.X) (l0 : warp_check.s0.X → Option (sumX warp_check.x0)) (l1 : warp_check.s1.X → Option (sumX warp_check.x1)) (L : (((List Int) × (List Int) × Int × Int × Int × Unit) × (Unit)) → Option ((((List Int) × (List Int) × Int × Int × Int × Bool × Unit) × (Unit)) ⊕ Empty)) (x : (((List Int) × (List Int) × Int × Int × Int × Unit) × (Unit))) : (roundK (warp_check.E g_euclid_Distance l0 l1) warp_check.s1 [0, 1, 2, 8, 10] [(0, [0, 1, 2, 8, 10, 29])] false (((mk warp_check.hs warp_check.c []).atoms.getD 1 .bad).body) warp_check.x1 L x).run _ some = warp_check.f1 x.1.1 x.1.2.1 x.1.2.2.1 x.1.2.2.2.1 x.1.2.2.2.2.1 := by
  show _ = (_ : Option _)
  kernel_rfl
noncomputable def warp_check.L1 : (((List Int) × (List Int) × Int × Int × Int × Unit) × (Unit)) → Option ((((List Int) × (List Int) × Int × Int × Int × Bool × Unit) × (Unit)) ⊕ Empty) := fun x => warp_check.f1 x.1.1 x.1.2.1 x.1.2.2.1 x.1.2.2.2.1 x.1.2.2.2.2.1
def warp_check.f (g_euclid_Distance : (((List Int) × (List Int) × Unit) × (Unit)) → Option ((Int × Int × Unit) × (Unit))) (l0 : (((List Int) × (List Int) × Int × Unit) × (Unit)) → Option ((((List Int) × (List Int) × Int × Bool × Unit) × (Unit)) ⊕ Empty)) (l1 : (((List Int) × (List Int) × Int × Int × Int × Unit) × (Unit)) → Option ((((List Int) × (List Int) × Int × Int × Int × Bool × Unit) × (Unit)) ⊕ Empty)) (x_ : (List Int)) (y : (List Int)) (band : Int) : Option ((Int × Unit) × (Unit)) :=
  (Option.bind (l0 ((x_, (y, (band, ()))), ())) (fun y0 =>
  (Sum.elim (fun a1 =>
   (bif a1.1.2.2.2.1 then
    (some (((1:Int), ()), ()))
   else
    (Option.bind (g_euclid_Distance ((a1.1.1, (a1.1.1, ())), ())) (fun y3 =>
    (Option.bind (g_euclid_Distance ((a1.1.2.1, (a1.1.2.1, ())), ())) (fun y4 =>
    (Option.bind (l1 ((a1.1.1, (a1.1.2.1, (a1.1.2.2.1, (y3.1.2.1, (y4.1.2.1, ()))))), ())) (fun y5 =>
    (Sum.elim (fun a6 =>
     (bif a6.1.2.2.2.2.2.1 then
      (some (((8:Int), ()), ()))
     else
      (bif (a6.1.2.2.2.1 != (0:Int)) then
       (some ((a6.1.2.2.2.1, ()), ()))
      else
       (bif (a6.1.2.2.2.2.1 != (0:Int)) then
        (some ((a6.1.2.2.2.2.1, ()), ()))
       else
        (bif (decide ((Go.IntKind.wrap Go.IntKind.i64 ((((List.length a6.1.1) : Nat) : Int) - (((List.length a6.1.2.1) : Nat) : Int))) > a6.1.2.2.1)) then
         (some (((8:Int), ()), ()))
        else
         (bif (decide ((Go.IntKind.wrap Go.IntKind.i64 ((((List.length a6.1.2.1) : Nat) : Int) - (((List.length a6.1.1) : Nat) : Int))) > a6.1.2.2.1)) then
          (some (((8:Int), ()), ()))
         else
          (some (((0:Int), ()), ())))))))) (fun b6 =>
     (Empty.elim b6)) y5))))))))) (fun b1 =>
   (Empty.elim b1)) y0)))
theorem warp_check.eq (g_euclid_Distance : euclid_Distance.sh.X → Option euclid_Distance.osh.X) (l0 : warp_check.s0.X → Option (sumX warp_check.x0)) (l1 : warp_check.s1.X → Option (sumX warp_check.x1)) (x : (((List Int) × (List Int) × Int × Unit) × (Unit))) : (bodyO (warp_check.E g_euclid_Distance l0 l1) (mk warp_check.hs warp_check.c []) Go.Proofs.Tryd.f60.results.toList warp_check.sh warp_check.osh x).run _ some = warp_check.f g_euclid_Distance l0 l1 x.1.1 x.1.2.1 x.1.2.2.1 := by
  show _ = (_ : Option _)
  kernel_rfl
noncomputable def warp_check (x_ : (List Int)) (y : (List Int)) (band : Int) : Option ((Int × Unit) × (Unit)) := warp_check.f euclid_Distance.F warp_check.L0 warp_check.L1 x_ y band
noncomputable def warp_check.F (x : (((List Int) × (List Int) × Int × Unit) × (Unit))) : Option ((Int × Unit) × (Unit)) := warp_check x.1.1 x.1.2.1 x.1.2.2.1
theorem warp_check.L0_eq (x_0 : (List Int)) (y_1 : (List Int)) (band_2 : Int) : warp_check.L0 ((x_0, y_1, band_2, ()), ()) = warp_check.f0 x_0 y_1 band_2 := rfl
theorem warp_check.L1_eq (x_0 : (List Int)) (y_1 : (List Int)) (band_2 : Int) (e_8 : Int) (f_10 : Int) : warp_check.L1 ((x_0, y_1, band_2, e_8, f_10, ()), ()) = warp_check.f1 x_0 y_1 band_2 e_8 f_10 := rfl
theorem warp_check.F_eq (x_ : (List Int)) (y : (List Int)) (band : Int) : warp_check.F ((x_, y, band, ()), ()) = warp_check.f euclid_Distance.F warp_check.L0 warp_check.L1 x_ y band := rfl
theorem warp_check.ok {tabs : List (Nat × Go.Obj)} (ht : TabsOk tabs) : FOK Go.Proofs.Tryd.prog tabs 60 (FE.of [true, true, true] false warp_check.sh warp_check.osh warp_check.F) := by
  refine fn_keeps (E := (warp_check.E euclid_Distance.F warp_check.L0 warp_check.L1)) (c := warp_check.c) (fn := Go.Proofs.Tryd.f60) (hs := warp_check.hs) (by kernel_rfl) Go.Proofs.Tryd.func60 ⟨by kernel_rfl, by kernel_rfl, tb, by kernel_rfl, by kernel_rfl, by kernel_rfl, by kernel_rfl, by kernel_rfl⟩ ⟨fun g ks fe h => ?_, gt_ok ht⟩ ?_ (fun x => warp_check.eq euclid_Distance.F warp_check.L0 warp_check.L1 x)
  · rcases c_cons h with ⟨rfl, rfl⟩ | h
    · exact euclid_Distance.ok ht
    cases h
  · refine known_at 2 (by kernel_rfl) fun i hi => ?_
    match i, hi with
    | 0, _ => exact atom_at (id := 0) (live := [0, 1, 2]) (outs := [(0, [0, 1, 2, 16])]) (loop := false) (by kernel_rfl) (cut_ok (E := (warp_check.E euclid_Distance.F warp_check.L0 warp_check.L1)) (sh := warp_check.s0) (es := warp_check.x0) rfl (fun L x => warp_check.eq0 euclid_Distance.F warp_check.L0 warp_check.L1 L x))
    | 1, _ => exact atom_at (id := 1) (live := [0, 1, 2, 8, 10]) (outs := [(0, [0, 1, 2, 8, 10, 29])]) (loop := false) (by kernel_rfl) (cut_ok (E := (warp_check.E euclid_Distance.F warp_check.L0 warp_check.L1)) (sh := warp_check.s1) (es := warp_check.x1) rfl (fun L x => warp_check.eq1 euclid_Distance.F warp_check.L0 warp_check.L1 L x))
    | n + 2, h => exact absurd h (by omega)

/-! warp_near -/
def warp_near.f (i : Int) (j : Int) (band : Int) : Option ((Bool × Unit) × (Unit)) :=
  (bif (decide ((Go.IntKind.wrap Go.IntKind.i64 (i - j)) ≤ band)) then
   (some (((decide ((Go.IntKind.wrap Go.IntKind.i64 (j - i)) ≤ band)), ()), ()))
  else
   (some ((Bool.false, ()), ())))
theorem warp_near.eq (x : ((Int × Int × Int × Unit) × (Unit))) : (bodyO (warp_near.E) (mk warp_near.hs warp_near.c []) Go.Proofs.Tryd.f91.results.toList warp_near.sh warp_near.osh x).run _ some = warp_near.f x.1.1 x.1.2.1 x.1.2.2.1 := by
  show _ = (_ : Option _)
  kernel_rfl
noncomputable def warp_near (i : Int) (j : Int) (band : Int) : Option ((Bool × Unit) × (Unit)) := warp_near.f i j band
noncomputable def warp_near.F (x : ((Int × Int × Int × Unit) × (Unit))) : Option ((Bool × Unit) × (Unit)) := warp_near x.1.1 x.1.2.1 x.1.2.2.1
theorem warp_near.F_eq (i : Int) (j : Int) (band : Int) : warp_near.F ((i, j, band, ()), ()) = warp_near.f i j band := rfl
theorem warp_near.ok {tabs : List (Nat × Go.Obj)} (ht : TabsOk tabs) : FOK Go.Proofs.Tryd.prog tabs 91 (FE.of [true, true, true] false warp_near.sh warp_near.osh warp_near.F) := by
  refine fn_keeps (E := (warp_near.E)) (c := warp_near.c) (fn := Go.Proofs.Tryd.f91) (hs := warp_near.hs) (by kernel_rfl) Go.Proofs.Tryd.func91 ⟨by kernel_rfl, by kernel_rfl, tb, by kernel_rfl, by kernel_rfl, by kernel_rfl, by kernel_rfl, by kernel_rfl⟩ ⟨fun g ks fe h => ?_, gt_ok ht⟩ ?_ (fun x => warp_near.eq x)
  · cases h
  · exact known_at 0 (by kernel_rfl) fun i hi => absurd hi (Nat.not_lt_zero i)
end Go.Proofs.YtadniiehehiblaaDoor.V
