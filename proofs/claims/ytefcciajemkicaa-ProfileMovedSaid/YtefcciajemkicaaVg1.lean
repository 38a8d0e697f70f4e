import Derived.Test.YtefcciajemkicaaVg0
import Derived.WalkKit
set_option linter.unusedVariables false
set_option maxRecDepth 100000
namespace Go.Proofs.Ytefcciajemkicaa.V
open Go.VI
/-! euclid_square -/
def euclid_square.f0 (L : (((List Int) × Int × (List Int) × Int × Int × Unit) × (Unit)) → Option (((Int × Unit) × (Unit)) ⊕ Empty)) (y_1 : (List Int)) (sum_5 : Int) (v8 : (List Int)) (v9 : Int) (v10 : Int) : Option (((Int × Unit) × (Unit)) ⊕ Empty) :=
  (bif (decide (v10 < v9)) then
   (bif (decide ((0:Int) ≤ v10)) then
    (bif (decide (v10 < (((List.length v8) : Nat) : Int))) then
     (bif (decide ((0:Int) ≤ v10)) then
      (bif (decide (v10 < (((List.length y_1) : Nat) : Int))) then
       (bif (decide ((0:Int) ≤ v10)) then
        (bif (decide (v10 < (((List.length y_1) : Nat) : Int))) then
         (Option.bind (L ((y_1, ((Go.IntKind.wrap Go.IntKind.i64 (sum_5 + (Go.IntKind.wrap Go.IntKind.i64 ((Go.IntKind.wrap Go.IntKind.i64 ((List.getD v8 (Int.toNat v10) (0:Int)) - (List.getD y_1 (Int.toNat v10) (0:Int)))) * (Go.IntKind.wrap Go.IntKind.i64 ((List.getD v8 (Int.toNat v10) (0:Int)) - (List.getD y_1 (Int.toNat v10) (0:Int)))))))), (v8, (v9, ((Go.IntKind.wrap Go.IntKind.i64 (v10 + (1:Int))), ()))))), ())) (fun y7 =>
         (some y7)))
        else
         none)
       else
        none)
      else
       none)
     else
      none)
    else
     none)
   else
    none)
  else
   (some (Sum.inl ((sum_5, ()), ()))))
theorem euclid_square.eq0 (l0 : euclid_square.s0.X → Option (sumX euclid_square.x0)) (L : (((List Int) × Int × (List Int) × Int × Int × Unit) × (Unit)) → Option (((Int × Unit) × (Unit)) ⊕ Empty)) (x : (((List Int) × Int × (List Int) × Int × Int × Unit) × (Unit))) : (roundK (euclid_square.E l0) euclid_square.s0 [1, 5, 8, 9, 10] [(2, [5])] true (((mk euclid_square.hs euclid_square.c []).atoms.getD 0 .bad).body) euclid_square.x0 L x).run _ some = euclid_square.f0 L x.1.1 x.1.2.1 x.1.2.2.1 x.1.2.2.2.1 x.1.2.2.2.2.1 := by
  show _ = (_ : Option _)
  kernel_rfl
noncomputable def euclid_square.L0 : (((List Int) × Int × (List Int) × Int × Int × Unit) × (Unit)) → Option (((Int × Unit) × (Unit)) ⊕ Empty) := loop fun L x => euclid_square.f0 L x.1.1 x.1.2.1 x.1.2.2.1 x.1.2.2.2.1 x.1.2.2.2.2.1
def euclid_square.f (l0 : (((List Int) × Int × (List Int) × Int × Int × Unit) × (Unit)) → Option (((Int × Unit) × (Unit)) ⊕ Empty)) (x_ : (List Int)) (y : (List Int)) : Option ((Int × Unit) × (Unit)) :=
  (Option.bind (l0 ((y, ((0:Int), (x_, ((((List.length x_) : Nat) : Int), ((0:Int), ()))))), ())) (fun y0 =>
  (Sum.elim (fun a1 =>
   (some ((a1.1.1, ()), ()))) (fun b1 =>
   (Empty.elim b1)) y0)))
theorem euclid_square.eq (l0 : euclid_square.s0.X → Option (sumX euclid_square.x0)) (x : (((List Int) × (List Int) × Unit) × (Unit))) : (bodyO (euclid_square.E l0) (mk euclid_square.hs euclid_square.c []) Go.Proofs.Try.f92.results.toList euclid_square.sh euclid_square.osh x).run _ some = euclid_square.f l0 x.1.1 x.1.2.1 := by
  show _ = (_ : Option _)
  kernel_rfl
noncomputable def euclid_square (x_ : (List Int)) (y : (List Int)) : Option ((Int × Unit) × (Unit)) := euclid_square.f euclid_square.L0 x_ y
noncomputable def euclid_square.F (x : (((List Int) × (List Int) × Unit) × (Unit))) : Option ((Int × Unit) × (Unit)) := euclid_square x.1.1 x.1.2.1
theorem euclid_square.L0_eq (y_1 : (List Int)) (sum_5 : Int) (v8 : (List Int)) (v9 : Int) (v10 : Int) : euclid_square.L0 ((y_1, sum_5, v8, v9, v10, ()), ()) = euclid_square.f0 euclid_square.L0 y_1 sum_5 v8 v9 v10 :=
  loop_eq (E := (euclid_square.E euclid_square.L0)) (sh := euclid_square.s0) (es := euclid_square.x0) (lp := true) (H := fun L x => euclid_square.eq0 euclid_square.L0 L x) ((y_1, sum_5, v8, v9, v10, ()), ())
theorem euclid_square.F_eq (x_ : (List Int)) (y : (List Int)) : euclid_square.F ((x_, y, ()), ()) = euclid_square.f euclid_square.L0 x_ y := rfl
theorem euclid_square.ok {tabs : List (Nat × Go.Obj)} (ht : TabsOk tabs) : FOK Go.Proofs.Try.prog tabs 92 (FE.of [true, true] false euclid_square.sh euclid_square.osh euclid_square.F) := by
  refine fn_keeps (E := (euclid_square.E euclid_square.L0)) (c := euclid_square.c) (fn := Go.Proofs.Try.f92) (hs := euclid_square.hs) (by kernel_rfl) Go.Proofs.Try.func92 ⟨by kernel_rfl, by kernel_rfl, tb, by kernel_rfl, by kernel_rfl, by kernel_rfl, by kernel_rfl, by kernel_rfl⟩ ⟨fun g ks fe h => ?_, gt_ok ht⟩ ?_ (fun x => euclid_square.eq euclid_square.L0 x)
  · cases h
  · refine known_at 1 (by kernel_rfl) fun i hi => ?_
    match i, hi with
    | 0, _ => exact atom_at (id := 0) (live := [1, 5, 8, 9, 10]) (outs := [(2, [5])]) (loop := true) (by kernel_rfl) (loop_ok (E := (euclid_square.E euclid_square.L0)) (sh := euclid_square.s0) (es := euclid_square.x0) rfl (fun L x => euclid_square.eq0 euclid_square.L0 L x))
    | n + 1, h => exact absurd h (by omega)

/-! euclid_Distance -/
def euclid_Distance.f (g_euclid_check : (((List Int) × (List Int) × Unit) × (Unit)) → Option ((Int × Unit) × (Unit))) (g_euclid_square : (((List Int) × (List Int) × Unit) × (Unit)) → Option ((Int × Unit) × (Unit))) (x_ : (List Int)) (y : (List Int)) : Option ((Int × Int × Unit) × (Unit)) :=
  (Option.bind (g_euclid_check ((x_, (y, ())), ())) (fun y0 =>
  (bif (y0.1.1 != (0:Int)) then
   (some (((0:Int), (y0.1.1, ())), ()))
  else
   (Option.bind (g_euclid_square ((x_, (y, ())), ())) (fun y2 =>
   (some ((y2.1.1, ((0:Int), ())), ())))))))
theorem euclid_Distance.eq (g_euclid_check : euclid_check.sh.X → Option euclid_check.osh.X) (g_euclid_square : euclid_square.sh.X → Option euclid_square.osh.X) (x : (((List Int) × (List Int) × Unit) × (Unit))) : (bodyO (euclid_Distance.E g_euclid_check g_euclid_square) (mk euclid_Distance.hs euclid_Distance.c []) Go.Proofs.Try.f78.results.toList euclid_Distance.sh euclid_Distance.osh x).run _ some = euclid_Distance.f g_euclid_check g_euclid_square x.1.1 x.1.2.1 := by
  show _ = (_ : Option _)
  kernel_rfl
noncomputable def euclid_Distance (x_ : (List Int)) (y : (List Int)) : Option ((Int × Int × Unit) × (Unit)) := euclid_Distance.f euclid_check.F euclid_square.F x_ y
noncomputable def euclid_Distance.F (x : (((List Int) × (List Int) × Unit) × (Unit))) : Option ((Int × Int × Unit) × (Unit)) := euclid_Distance x.1.1 x.1.2.1
theorem euclid_Distance.F_eq (x_ : (List Int)) (y : (List Int)) : euclid_Distance.F ((x_, y, ()), ()) = euclid_Distance.f euclid_check.F euclid_square.F x_ y := rfl
theorem euclid_Distance.ok {tabs : List (Nat × Go.Obj)} (ht : TabsOk tabs) : FOK Go.Proofs.Try.prog tabs 78 (FE.of [true, true] false euclid_Distance.sh euclid_Distance.osh euclid_Distance.F) := by
  refine fn_keeps (E := (euclid_Distance.E euclid_check.F euclid_square.F)) (c := euclid_Distance.c) (fn := Go.Proofs.Try.f78) (hs := euclid_Distance.hs) (by kernel_rfl) Go.Proofs.Try.func78 ⟨by kernel_rfl, by kernel_rfl, tb, by kernel_rfl, by kernel_rfl, by kernel_rfl, by kernel_rfl, by kernel_rfl⟩ ⟨fun g ks fe h => ?_, gt_ok ht⟩ ?_ (fun x => euclid_Distance.eq euclid_check.F euclid_square.F x)
  · rcases c_cons h with ⟨rfl, rfl⟩ | h
    · exact euclid_check.ok ht
    rcases c_cons h with ⟨rfl, rfl⟩ | h
    · exact euclid_square.ok ht
    cases h
  · exact known_at 0 (by kernel_rfl) fun i hi => absurd hi (Nat.not_lt_zero i)

/-! ratio_divisor -/
def ratio_divisor.f0 (L : ((Int × Int × Unit) × (Unit)) → Option (((Int × Unit) × (Unit)) ⊕ Empty)) (a_0 : Int) (b_1 : Int) : Option (((Int × Unit) × (Unit)) ⊕ Empty) :=
  (bif (b_1 != (0:Int)) then
   (bif (!(decide (b_1 = (0:Int)))) then
    (Option.bind (L ((b_1, ((Int.tmod a_0 b_1), ())), ())) (fun y2 =>
    (some y2)))
   else
    none)
  else
   (some (Sum.inl ((a_0, ()), ()))))
theorem ratio_divisor.eq0 (l0 : ratio_divisor.s0.X → Option (sumX ratio_divisor.x0)) (L : ((Int × Int × Unit) × (Unit)) → Option (((Int × Unit) × (Unit)) ⊕ Empty)) (x : ((Int × Int × Unit) × (Unit))) : (roundK (ratio_divisor.E l0) ratio_divisor.s0 [0, 1] [(2, [0])] true (((mk ratio_divisor.hs ratio_divisor.c []).atoms.getD 0 .bad).body) ratio_divisor.x0 L x).run _ some = ratio_divisor.f0 L x.1.1 x.1.2.1 := by
  show _ = (_ : Option _)
  kernel_rfl
noncomputable def ratio_divisor.L0 : ((Int × Int × Unit) × (Unit)) → Option (((Int × Unit) × (Unit)) ⊕ Empty) := loop fun L x => ratio_divisor.f0 L x.1.1 x.1.2.1
def ratio_divisor.f (l0 : ((Int × Int × Unit) × (Unit)) → Option (((Int × Unit) × (Unit)) ⊕ Empty)) (a : Int) (b : Int) : Option ((Int × Unit) × (Unit)) :=
  (Option.bind (l0 ((a, (b, ())), ())) (fun y0 =>
  (Sum.elim (fun a1 =>
   (some ((a1.1.1, ()), ()))) (fun b1 =>
   (Empty.elim b1)) y0)))
theorem ratio_divisor.eq (l0 : ratio_divisor.s0.X → Option (sumX ratio_divisor.x0)) (x : ((Int × Int × Unit) × (Unit))) : (bodyO (ratio_divisor.E l0) (mk ratio_divisor.hs ratio_divisor.c []) Go.Proofs.Try.f73.results.toList ratio_divisor.sh ratio_divisor.osh x).run _ some = ratio_divisor.f l0 x.1.1 x.1.2.1 := by
  show _ = (_ : Option _)
  kernel_rfl
noncomputable def ratio_divisor (a : Int) (b : Int) : Option ((Int × Unit) × (Unit)) := ratio_divisor.f ratio_divisor.L0 a b
noncomputable def ratio_divisor.F (x : ((Int × Int × Unit) × (Unit))) : Option ((Int × Unit) × (Unit)) := ratio_divisor x.1.1 x.1.2.1
theorem ratio_divisor.L0_eq (a_0 : Int) (b_1 : Int) : ratio_divisor.L0 ((a_0, b_1, ()), ()) = ratio_divisor.f0 ratio_divisor.L0 a_0 b_1 :=
  loop_eq (E := (ratio_divisor.E ratio_divisor.L0)) (sh := ratio_divisor.s0) (es := ratio_divisor.x0) (lp := true) (H := fun L x => ratio_divisor.eq0 ratio_divisor.L0 L x) ((a_0, b_1, ()), ())
theorem ratio_divisor.F_eq (a : Int) (b : Int) : ratio_divisor.F ((a, b, ()), ()) = ratio_divisor.f ratio_divisor.L0 a b := rfl
theorem ratio_divisor.ok {tabs : List (Nat × Go.Obj)} (ht : TabsOk tabs) : FOK Go.Proofs.Try.prog tabs 73 (FE.of [true, true] false ratio_divisor.sh ratio_divisor.osh ratio_divisor.F) := by
  refine fn_keeps (E := (ratio_divisor.E ratio_divisor.L0)) (c := ratio_divisor.c) (fn := Go.Proofs.Try.f73) (hs := ratio_divisor.hs) (by kernel_rfl) Go.Proofs.Try.func73 ⟨by kernel_rfl, by kernel_rfl, tb, by kernel_rfl, by kernel_rfl, by kernel_rfl, by kernel_rfl, by kernel_rfl⟩ ⟨fun g ks fe h => ?_, gt_ok ht⟩ ?_ (fun x => ratio_divisor.eq ratio_divisor.L0 x)
  · cases h
  · refine known_at 1 (by kernel_rfl) fun i hi => ?_
    match i, hi with
    | 0, _ => exact atom_at (id := 0) (live := [0, 1]) (outs := [(2, [0])]) (loop := true) (by kernel_rfl) (loop_ok (E := (ratio_divisor.E ratio_divisor.L0)) (sh := ratio_divisor.s0) (es := ratio_divisor.x0) rfl (fun L x => ratio_divisor.eq0 ratio_divisor.L0 L x))
    | n + 1, h => exact absurd h (by omega)

/-! ratio_within -/
def ratio_within.f (a_Num : Int) (a_Den : Int) : Option ((Bool × Unit) × (Unit)) :=
  (bif (decide (a_Num ≥ (0:Int))) then
   (bif (decide (a_Num ≤ (2305843009213693952:Int))) then
    (bif (decide (a_Den ≥ (1:Int))) then
     (some (((decide (a_Den ≤ (1152921504606846976:Int))), ()), ()))
    else
     (some ((Bool.false, ()), ())))
   else
    (some ((Bool.false, ()), ())))
  else
   (some ((Bool.false, ()), ())))
theorem ratio_within.eq (x : (((Int × Int × Unit) × Unit) × (Unit))) : (bodyO (ratio_within.E) (mk ratio_within.hs ratio_within.c []) Go.Proofs.Try.f72.results.toList ratio_within.sh ratio_within.osh x).run _ some = ratio_within.f x.1.1.1 x.1.1.2.1 := by
  show _ = (_ : Option _)
  kernel_rfl
noncomputable def ratio_within (a_Num : Int) (a_Den : Int) : Option ((Bool × Unit) × (Unit)) := ratio_within.f a_Num a_Den
noncomputable def ratio_within.F (x : (((Int × Int × Unit) × Unit) × (Unit))) : Option ((Bool × Unit) × (Unit)) := ratio_within x.1.1.1 x.1.1.2.1
theorem ratio_within.F_eq (a_Num : Int) (a_Den : Int) : ratio_within.F (((a_Num, a_Den, ()), ()), ()) = ratio_within.f a_Num a_Den := rfl
theorem ratio_within.ok {tabs : List (Nat × Go.Obj)} (ht : TabsOk tabs) : FOK Go.Proofs.Try.prog tabs 72 (FE.of [true] false ratio_within.sh ratio_within.osh ratio_within.F) := by
  refine fn_keeps (E := (ratio_within.E)) (c := ratio_within.c) (fn := Go.Proofs.Try.f72) (hs := ratio_within.hs) (by kernel_rfl) Go.Proofs.Try.func72 ⟨by kernel_rfl, by kernel_rfl, tb, by kernel_rfl, by kernel_rfl, by kernel_rfl, by kernel_rfl, by kernel_rfl⟩ ⟨fun g ks fe h => ?_, gt_ok ht⟩ ?_ (fun x => ratio_within.eq x)
  · cases h
  · exact known_at 0 (by kernel_rfl) fun i hi => absurd hi (Nat.not_lt_zero i)

/-! ratio_Make -/
def ratio_Make.f0 (num_0 : Int) (den_1 : Int) (o0_0 : Int) (o0_1 : Int) : Option (((Int × Int × Unit × Bool × Unit) × ((Int × Int × Unit) × Unit)) ⊕ Empty) :=
  (bif (decide (num_0 < (0:Int))) then
   (some (Sum.inl ((num_0, (den_1, ((), (Bool.true, ())))), ((o0_0, (o0_1, ())), ()))))
  else
   (some (Sum.inl ((num_0, (den_1, ((), ((decide (den_1 < (1:Int))), ())))), ((o0_0, (o0_1, ())), ())))))
theorem ratio_Make.eq0 (g_ratio_divisor : ratio_divisor.sh.X → Option ratio_divisor.osh.X) (g_ratio_within : ratio_within.sh.X → Option ratio_within.osh.X) (l0 : ratio_Make.s0.X → Option (sumX ratio_Make.x0)) (L : ((Int × Int × Unit × Unit) × ((Int × Int × Unit) × Unit)) → Option (((Int × Int × Unit × Bool × Unit) × ((Int × Int × Unit) × Unit)) ⊕ Empty)) (x : ((Int × Int × Unit × Unit) × ((Int × Int × Unit) × Unit))) : (roundK (ratio_Make.E g_ratio_divisor g_ratio_within l0) ratio_Make.s0 [0, 1, 4] [(0, [0, 1, 4, 13])] false (((mk ratio_Make.hs ratio_Make.c []).atoms.getD 0 .bad).body) ratio_Make.x0 L x).run _ some = ratio_Make.f0 x.1.1 x.1.2.1 x.2.1.1 x.2.1.2.1 := by
  show _ = (_ : Option _)
  kernel_rfl
noncomputable def ratio_Make.L0 : ((Int × Int × Unit × Unit) × ((Int × Int × Unit) × Unit)) → Option (((Int × Int × Unit × Bool × Unit) × ((Int × Int × Unit) × Unit)) ⊕ Empty) := fun x => ratio_Make.f0 x.1.1 x.1.2.1 x.2.1.1 x.2.1.2.1
def ratio_Make.f (g_ratio_divisor : ((Int × Int × Unit) × (Unit)) → Option ((Int × Unit) × (Unit))) (g_ratio_within : (((Int × Int × Unit) × Unit) × (Unit)) → Option ((Bool × Unit) × (Unit))) (l0 : ((Int × Int × Unit × Unit) × ((Int × Int × Unit) × Unit)) → Option (((Int × Int × Unit × Bool × Unit) × ((Int × Int × Unit) × Unit)) ⊕ Empty)) (num : Int) (den : Int) : Option (((Int × Int × Unit) × Int × Unit) × (Unit)) :=
  (Option.bind (l0 ((num, (den, ((), ()))), (((0:Int), ((0:Int), ())), ()))) (fun y0 =>
  (Sum.elim (fun a1 =>
   (bif a1.1.2.2.2.1 then
    (some ((((0:Int), ((0:Int), ())), ((1:Int), ())), ()))
   else
    (Option.bind (g_ratio_divisor ((a1.1.1, (a1.1.2.1, ())), ())) (fun y3 =>
    (bif (!(decide (y3.1.1 = (0:Int)))) then
     (bif (!(decide (y3.1.1 = (0:Int)))) then
      (Option.bind (g_ratio_within ((((Go.IntKind.wrap Go.IntKind.i64 (Int.tdiv a1.1.1 y3.1.1)), ((Go.IntKind.wrap Go.IntKind.i64 (Int.tdiv a1.1.2.1 y3.1.1)), ())), ()), ())) (fun y6 =>
      (bif (!y6.1.1) then
       (some ((((0:Int), ((0:Int), ())), ((1:Int), ())), ()))
      else
       (some ((((Go.IntKind.wrap Go.IntKind.i64 (Int.tdiv a1.1.1 y3.1.1)), ((Go.IntKind.wrap Go.IntKind.i64 (Int.tdiv a1.1.2.1 y3.1.1)), ())), ((0:Int), ())), ())))))
     else
      none)
    else
     none))))) (fun b1 =>
   (Empty.elim b1)) y0)))
theorem ratio_Make.eq (g_ratio_divisor : ratio_divisor.sh.X → Option ratio_divisor.osh.X) (g_ratio_within : ratio_within.sh.X → Option ratio_within.osh.X) (l0 : ratio_Make.s0.X → Option (sumX ratio_Make.x0)) (x : ((Int × Int × Unit) × (Unit))) : (bodyO (ratio_Make.E g_ratio_divisor g_ratio_within l0) (mk ratio_Make.hs ratio_Make.c []) Go.Proofs.Try.f90.results.toList ratio_Make.sh ratio_Make.osh x).run _ some = ratio_Make.f g_ratio_divisor g_ratio_within l0 x.1.1 x.1.2.1 := by
  show _ = (_ : Option _)
  kernel_rfl
noncomputable def ratio_Make (num : Int) (den : Int) : Option (((Int × Int × Unit) × Int × Unit) × (Unit)) := ratio_Make.f ratio_divisor.F ratio_within.F ratio_Make.L0 num den
noncomputable def ratio_Make.F (x : ((Int × Int × Unit) × (Unit))) : Option (((Int × Int × Unit) × Int × Unit) × (Unit)) := ratio_Make x.1.1 x.1.2.1
theorem ratio_Make.L0_eq (num_0 : Int) (den_1 : Int) (o0_0 : Int) (o0_1 : Int) : ratio_Make.L0 ((num_0, den_1, (), ()), ((o0_0, o0_1, ()), ())) = ratio_Make.f0 num_0 den_1 o0_0 o0_1 := rfl
theorem ratio_Make.F_eq (num : Int) (den : Int) : ratio_Make.F ((num, den, ()), ()) = ratio_Make.f ratio_divisor.F ratio_within.F ratio_Make.L0 num den := rfl
theorem ratio_Make.ok {tabs : List (Nat × Go.Obj)} (ht : TabsOk tabs) : FOK Go.Proofs.Try.prog tabs 90 (FE.of [true, true] false ratio_Make.sh ratio_Make.osh ratio_Make.F) := by
  refine fn_keeps (E := (ratio_Make.E ratio_divisor.F ratio_within.F ratio_Make.L0)) (c := ratio_Make.c) (fn := Go.Proofs.Try.f90) (hs := ratio_Make.hs) (by kernel_rfl) Go.Proofs.Try.func90 ⟨by kernel_rfl, by kernel_rfl, tb, by kernel_rfl, by kernel_rfl, by kernel_rfl, by kernel_rfl, by kernel_rfl⟩ ⟨fun g ks fe h => ?_, gt_ok ht⟩ ?_ (fun x => ratio_Make.eq ratio_divisor.F ratio_within.F ratio_Make.L0 x)
  · rcases c_cons h with ⟨rfl, rfl⟩ | h
    · exact ratio_divisor.ok ht
    rcases c_cons h with ⟨rfl, rfl⟩ | h
    · exact ratio_within.ok ht
    cases h
  · refine known_at 1 (by kernel_rfl) fun i hi => ?_
    match i, hi with
    | 0, _ => exact atom_at (id := 0) (live := [0, 1, 4]) (outs := [(0, [0, 1, 4, 13])]) (loop := false) (by kernel_rfl) (cut_ok (E := (ratio_Make.E ratio_divisor.F ratio_within.F ratio_Make.L0)) (sh := ratio_Make.s0) (es := ratio_Make.x0) rfl (fun L x => ratio_Make.eq0 ratio_divisor.F ratio_within.F ratio_Make.L0 L x))
    | n + 1, h => exact absurd h (by omega)

/-! measure_whole -/
def measure_whole.f (g_ratio_Make : ((Int × Int × Unit) × (Unit)) → Option (((Int × Int × Unit) × Int × Unit) × (Unit))) (d : Int) (e : Int) : Option (((Int × Int × Unit) × Int × Unit) × (Unit)) :=
  (bif (e != (0:Int)) then
   (some ((((0:Int), ((0:Int), ())), (e, ())), ()))
  else
   (Option.bind (g_ratio_Make ((d, ((1:Int), ())), ())) (fun y1 =>
   (some (((y1.1.1.1, (y1.1.1.2.1, ())), (y1.1.2.1, ())), ())))))
theorem measure_whole.eq (g_ratio_Make : ratio_Make.sh.X → Option ratio_Make.osh.X) (x : ((Int × Int × Unit) × (Unit))) : (bodyO (measure_whole.E g_ratio_Make) (mk measure_whole.hs measure_whole.c []) Go.Proofs.Try.f77.results.toList measure_whole.sh measure_whole.osh x).run _ some = measure_whole.f g_ratio_Make x.1.1 x.1.2.1 := by
  show _ = (_ : Option _)
  kernel_rfl
noncomputable def measure_whole (d : Int) (e : Int) : Option (((Int × Int × Unit) × Int × Unit) × (Unit)) := measure_whole.f ratio_Make.F d e
noncomputable def measure_whole.F (x : ((Int × Int × Unit) × (Unit))) : Option (((Int × Int × Unit) × Int × Unit) × (Unit)) := measure_whole x.1.1 x.1.2.1
theorem measure_whole.F_eq (d : Int) (e : Int) : measure_whole.F ((d, e, ()), ()) = measure_whole.f ratio_Make.F d e := rfl
theorem measure_whole.ok {tabs : List (Nat × Go.Obj)} (ht : TabsOk tabs) : FOK Go.Proofs.Try.prog tabs 77 (FE.of [true, true] false measure_whole.sh measure_whole.osh measure_whole.F) := by
  refine fn_keeps (E := (measure_whole.E ratio_Make.F)) (c := measure_whole.c) (fn := Go.Proofs.Try.f77) (hs := measure_whole.hs) (by kernel_rfl) Go.Proofs.Try.func77 ⟨by kernel_rfl, by kernel_rfl, tb, by kernel_rfl, by kernel_rfl, by kernel_rfl, by kernel_rfl, by kernel_rfl⟩ ⟨fun g ks fe h => ?_, gt_ok ht⟩ ?_ (fun x => measure_whole.eq ratio_Make.F x)
  · rcases c_cons h with ⟨rfl, rfl⟩ | h
    · exact ratio_Make.ok ht
    cases h
  · exact known_at 0 (by kernel_rfl) fun i hi => absurd hi (Nat.not_lt_zero i)

/-! measure_distances_1 -/
def measure_distances_1.f (g_euclid_Distance : (((List Int) × (List Int) × Unit) × (Unit)) → Option ((Int × Int × Unit) × (Unit))) (g_measure_whole : ((Int × Int × Unit) × (Unit)) → Option (((Int × Int × Unit) × Int × Unit) × (Unit))) (x_ : (List Int)) (y : (List Int)) : Option (((Int × Int × Unit) × Int × Unit) × (Unit)) :=
  (Option.bind (g_euclid_Distance ((x_, (y, ())), ())) (fun y0 =>
  (Option.bind (g_measure_whole ((y0.1.1, (y0.1.2.1, ())), ())) (fun y1 =>
  (some (((y1.1.1.1, (y1.1.1.2.1, ())), (y1.1.2.1, ())), ()))))))
theorem measure_distances_1.eq (g_euclid_Distance : euclid_Distance.sh.X → Option euclid_Distance.osh.X) (g_measure_whole : measure_whole.sh.X → Option measure_whole.osh.X) (x : (((List Int) × (List Int) × Unit) × (Unit))) : (bodyO (measure_distances_1.E g_euclid_Distance g_measure_whole) (mk measure_distances_1.hs measure_distances_1.c []) Go.Proofs.Try.f76.results.toList measure_distances_1.sh measure_distances_1.osh x).run _ some = measure_distances_1.f g_euclid_Distance g_measure_whole x.1.1 x.1.2.1 := by
  show _ = (_ : Option _)
  kernel_rfl
noncomputable def measure_distances_1 (x_ : (List Int)) (y : (List Int)) : Option (((Int × Int × Unit) × Int × Unit) × (Unit)) := measure_distances_1.f euclid_Distance.F measure_whole.F x_ y
noncomputable def measure_distances_1.F (x : (((List Int) × (List Int) × Unit) × (Unit))) : Option (((Int × Int × Unit) × Int × Unit) × (Unit)) := measure_distances_1 x.1.1 x.1.2.1
theorem measure_distances_1.F_eq (x_ : (List Int)) (y : (List Int)) : measure_distances_1.F ((x_, y, ()), ()) = measure_distances_1.f euclid_Distance.F measure_whole.F x_ y := rfl
theorem measure_distances_1.ok {tabs : List (Nat × Go.Obj)} (ht : TabsOk tabs) : FOK Go.Proofs.Try.prog tabs 76 (FE.of [true, true] false measure_distances_1.sh measure_distances_1.osh measure_distances_1.F) := by
  refine fn_keeps (E := (measure_distances_1.E euclid_Distance.F measure_whole.F)) (c := measure_distances_1.c) (fn := Go.Proofs.Try.f76) (hs := measure_distances_1.hs) (by kernel_rfl) Go.Proofs.Try.func76 ⟨by kernel_rfl, by kernel_rfl, tb, by kernel_rfl, by kernel_rfl, by kernel_rfl, by kernel_rfl, by kernel_rfl⟩ ⟨fun g ks fe h => ?_, gt_ok ht⟩ ?_ (fun x => measure_distances_1.eq euclid_Distance.F measure_whole.F x)
  · rcases c_cons h with ⟨rfl, rfl⟩ | h
    · exact euclid_Distance.ok ht
    rcases c_cons h with ⟨rfl, rfl⟩ | h
    · exact measure_whole.ok ht
    cases h
  · exact known_at 0 (by kernel_rfl) fun i hi => absurd hi (Nat.not_lt_zero i)

/-! euclid_Shifted -/
def euclid_Shifted.f0 (L : (((List Int) × (List Int) × Unit × Int × Int × (List Int) × Int × Int × Unit) × ((Int × Int × Unit) × Unit)) → Option ((((List Int) × (List Int) × Unit × Int × Int × Unit) × ((Int × Int × Unit) × Unit)) ⊕ Empty)) (x_0 : (List Int)) (y_1 : (List Int)) (sum_7 : Int) (m_8 : Int) (v20 : (List Int)) (v21 : Int) (v22 : Int) (o0_0 : Int) (o0_1 : Int) : Option ((((List Int) × (List Int) × Unit × Int × Int × Unit) × ((Int × Int × Unit) × Unit)) ⊕ Empty) :=
  (bif (decide (v22 < v21)) then
   (bif (decide ((0:Int) ≤ v22)) then
    (bif (decide (v22 < (((List.length v20) : Nat) : Int))) then
     (bif (decide ((0:Int) ≤ v22)) then
      (bif (decide (v22 < (((List.length y_1) : Nat) : Int))) then
       (Option.bind (L ((x_0, (y_1, ((), ((Go.IntKind.wrap Go.IntKind.i64 (sum_7 + (Go.IntKind.wrap Go.IntKind.i64 ((List.getD v20 (Int.toNat v22) (0:Int)) - (List.getD y_1 (Int.toNat v22) (0:Int)))))), (m_8, (v20, (v21, ((Go.IntKind.wrap Go.IntKind.i64 (v22 + (1:Int))), ())))))))), ((o0_0, (o0_1, ())), ()))) (fun y5 =>
       (some y5)))
      else
       none)
     else
      none)
    else
     none)
   else
    none)
  else
   (some (Sum.inl ((x_0, (y_1, ((), (sum_7, (m_8, ()))))), ((o0_0, (o0_1, ())), ())))))
theorem euclid_Shifted.eq0 (g_euclid_check : euclid_check.sh.X → Option euclid_check.osh.X) (g_euclid_square : euclid_square.sh.X → Option euclid_square.osh.X) (g_ratio_Make : ratio_Make.sh.X → Option ratio_Make.osh.X) (l0 : euclid_Shifted.s0.X → Option (sumX euclid_Shifted.x0)) (L : (((List Int) × (List Int) × Unit × Int × Int × (List Int) × Int × Int × Unit) × ((Int × Int × Unit) × Unit)) → Option ((((List Int) × (List Int) × Unit × Int × Int × Unit) × ((Int × Int × Unit) × Unit)) ⊕ Empty)) (x : (((List Int) × (List Int) × Unit × Int × Int × (List Int) × Int × Int × Unit) × ((Int × Int × Unit) × Unit))) : (roundK (euclid_Shifted.E g_euclid_check g_euclid_square g_ratio_Make l0) euclid_Shifted.s0 [0, 1, 4, 7, 8, 20, 21, 22] [(2, [0, 1, 4, 7, 8])] true (((mk euclid_Shifted.hs euclid_Shifted.c []).atoms.getD 0 .bad).body) euclid_Shifted.x0 L x).run _ some = euclid_Shifted.f0 L x.1.1 x.1.2.1 x.1.2.2.2.1 x.1.2.2.2.2.1 x.1.2.2.2.2.2.1 x.1.2.2.2.2.2.2.1 x.1.2.2.2.2.2.2.2.1 x.2.1.1 x.2.1.2.1 := by
  show _ = (_ : Option _)
  kernel_rfl
noncomputable def euclid_Shifted.L0 : (((List Int) × (List Int) × Unit × Int × Int × (List Int) × Int × Int × Unit) × ((Int × Int × Unit) × Unit)) → Option ((((List Int) × (List Int) × Unit × Int × Int × Unit) × ((Int × Int × Unit) × Unit)) ⊕ Empty) := loop fun L x => euclid_Shifted.f0 L x.1.1 x.1.2.1 x.1.2.2.2.1 x.1.2.2.2.2.1 x.1.2.2.2.2.2.1 x.1.2.2.2.2.2.2.1 x.1.2.2.2.2.2.2.2.1 x.2.1.1 x.2.1.2.1
def euclid_Shifted.f (g_euclid_check : (((List Int) × (List Int) × Unit) × (Unit)) → Option ((Int × Unit) × (Unit))) (g_euclid_square : (((List Int) × (List Int) × Unit) × (Unit)) → Option ((Int × Unit) × (Unit))) (g_ratio_Make : ((Int × Int × Unit) × (Unit)) → Option (((Int × Int × Unit) × Int × Unit) × (Unit))) (l0 : (((List Int) × (List Int) × Unit × Int × Int × (List Int) × Int × Int × Unit) × ((Int × Int × Unit) × Unit)) → Option ((((List Int) × (List Int) × Unit × Int × Int × Unit) × ((Int × Int × Unit) × Unit)) ⊕ Empty)) (x_ : (List Int)) (y : (List Int)) : Option (((Int × Int × Unit) × Int × Unit) × (Unit)) :=
  (Option.bind (g_euclid_check ((x_, (y, ())), ())) (fun y0 =>
  (bif (y0.1.1 != (0:Int)) then
   (some ((((0:Int), ((0:Int), ())), (y0.1.1, ())), ()))
  else
   (Option.bind (l0 ((x_, (y, ((), ((0:Int), ((((List.length x_) : Nat) : Int), (x_, ((((List.length x_) : Nat) : Int), ((0:Int), ())))))))), (((0:Int), ((0:Int), ())), ()))) (fun y2 =>
   (Sum.elim (fun a3 =>
    (Option.bind (g_euclid_square ((a3.1.1, (a3.1.2.1, ())), ())) (fun y4 =>
    (Option.bind (g_ratio_Make (((Go.IntKind.wrap Go.IntKind.i64 ((Go.IntKind.wrap Go.IntKind.i64 (a3.1.2.2.2.2.1 * y4.1.1)) - (Go.IntKind.wrap Go.IntKind.i64 (a3.1.2.2.2.1 * a3.1.2.2.2.1)))), (a3.1.2.2.2.2.1, ())), ())) (fun y5 =>
    (some (((y5.1.1.1, (y5.1.1.2.1, ())), (y5.1.2.1, ())), ()))))))) (fun b3 =>
    (Empty.elim b3)) y2))))))
theorem euclid_Shifted.eq (g_euclid_check : euclid_check.sh.X → Option euclid_check.osh.X) (g_euclid_square : euclid_square.sh.X → Option euclid_square.osh.X) (g_ratio_Make : ratio_Make.sh.X → Option ratio_Make.osh.X) (l0 : euclid_Shifted.s0.X → Option (sumX euclid_Shifted.x0)) (x : (((List Int) × (List Int) × Unit) × (Unit))) : (bodyO (euclid_Shifted.E g_euclid_check g_euclid_square g_ratio_Make l0) (mk euclid_Shifted.hs euclid_Shifted.c []) Go.Proofs.Try.f79.results.toList euclid_Shifted.sh euclid_Shifted.osh x).run _ some = euclid_Shifted.f g_euclid_check g_euclid_square g_ratio_Make l0 x.1.1 x.1.2.1 := by
  show _ = (_ : Option _)
  kernel_rfl
noncomputable def euclid_Shifted (x_ : (List Int)) (y : (List Int)) : Option (((Int × Int × Unit) × Int × Unit) × (Unit)) := euclid_Shifted.f euclid_check.F euclid_square.F ratio_Make.F euclid_Shifted.L0 x_ y
noncomputable def euclid_Shifted.F (x : (((List Int) × (List Int) × Unit) × (Unit))) : Option (((Int × Int × Unit) × Int × Unit) × (Unit)) := euclid_Shifted x.1.1 x.1.2.1
theorem euclid_Shifted.L0_eq (x_0 : (List Int)) (y_1 : (List Int)) (sum_7 : Int) (m_8 : Int) (v20 : (List Int)) (v21 : Int) (v22 : Int) (o0_0 : Int) (o0_1 : Int) : euclid_Shifted.L0 ((x_0, y_1, (), sum_7, m_8, v20, v21, v22, ()), ((o0_0, o0_1, ()), ())) = euclid_Shifted.f0 euclid_Shifted.L0 x_0 y_1 sum_7 m_8 v20 v21 v22 o0_0 o0_1 :=
  loop_eq (E := (euclid_Shifted.E euclid_check.F euclid_square.F ratio_Make.F euclid_Shifted.L0)) (sh := euclid_Shifted.s0) (es := euclid_Shifted.x0) (lp := true) (H := fun L x => euclid_Shifted.eq0 euclid_check.F euclid_square.F ratio_Make.F euclid_Shifted.L0 L x) ((x_0, y_1, (), sum_7, m_8, v20, v21, v22, ()), ((o0_0, o0_1, ()), ()))
theorem euclid_Shifted.F_eq (x_ : (List Int)) (y : (List Int)) : euclid_Shifted.F ((x_, y, ()), ()) = euclid_Shifted.f euclid_check.F euclid_square.F ratio_Make.F euclid_Shifted.L0 x_ y := rfl
theorem euclid_Shifted.ok {tabs : List (Nat × Go.Obj)} (ht : TabsOk tabs) : FOK Go.Proofs.Try.prog tabs 79 (FE.of [true, true] false euclid_Shifted.sh euclid_Shifted.osh euclid_Shifted.F) := by
  refine fn_keeps (E := (euclid_Shifted.E euclid_check.F euclid_square.F ratio_Make.F euclid_Shifted.L0)) (c := euclid_Shifted.c) (fn := Go.Proofs.Try.f79) (hs := euclid_Shifted.hs) (by kernel_rfl) Go.Proofs.Try.func79 ⟨by kernel_rfl, by kernel_rfl, tb, by kernel_rfl, by kernel_rfl, by kernel_rfl, by kernel_rfl, by kernel_rfl⟩ ⟨fun g ks fe h => ?_, gt_ok ht⟩ ?_ (fun x => euclid_Shifted.eq euclid_check.F euclid_square.F ratio_Make.F euclid_Shifted.L0 x)
  · rcases c_cons h with ⟨rfl, rfl⟩ | h
    · exact euclid_check.ok ht
    rcases c_cons h with ⟨rfl, rfl⟩ | h
    · exact euclid_square.ok ht
    rcases c_cons h with ⟨rfl, rfl⟩ | h
    · exact ratio_Make.ok ht
    cases h
  · refine known_at 1 (by kernel_rfl) fun i hi => ?_
    match i, hi with
    | 0, _ => exact atom_at (id := 0) (live := [0, 1, 4, 7, 8, 20, 21, 22]) (outs := [(2, [0, 1, 4, 7, 8])]) (loop := true) (by kernel_rfl) (loop_ok (E := (euclid_Shifted.E euclid_check.F euclid_square.F ratio_Make.F euclid_Shifted.L0)) (sh := euclid_Shifted.s0) (es := euclid_Shifted.x0) rfl (fun L x => euclid_Shifted.eq0 euclid_check.F euclid_square.F ratio_Make.F euclid_Shifted.L0 L x))
    | n + 1, h => exact absurd h (by omega)

/-! window_Variance -/
def window_Variance.f0 (o0_0 : Int) (o0_1 : Int) (o0_2 : Int) : Option (((Unit × Bool × Unit) × ((Int × Int × Int × Unit) × Unit)) ⊕ Empty) :=
  (bif (decide (o0_0 < (1:Int))) then
   (some (Sum.inl (((), (Bool.true, ())), ((o0_0, (o0_1, (o0_2, ()))), ()))))
  else
   (bif (decide (o0_0 > (2000:Int))) then
    (some (Sum.inl (((), (Bool.true, ())), ((o0_0, (o0_1, (o0_2, ()))), ()))))
   else
    (bif (decide (o0_1 < (Go.IntKind.wrap Go.IntKind.i64 ((-(1000:Int)) * o0_0)))) then
     (some (Sum.inl (((), (Bool.true, ())), ((o0_0, (o0_1, (o0_2, ()))), ()))))
    else
     (bif (decide (o0_1 > (Go.IntKind.wrap Go.IntKind.i64 ((1000:Int) * o0_0)))) then
      (some (Sum.inl (((), (Bool.true, ())), ((o0_0, (o0_1, (o0_2, ()))), ()))))
     else
      (bif (decide (o0_2 < (0:Int))) then
       (some (Sum.inl (((), (Bool.true, ())), ((o0_0, (o0_1, (o0_2, ()))), ()))))
      else
       (some (Sum.inl (((), ((decide (o0_2 > (Go.IntKind.wrap Go.IntKind.i64 ((1000000:Int) * o0_0)))), ())), ((o0_0, (o0_1, (o0_2, ()))), ())))))))))
theorem window_Variance.eq0 (l0 : window_Variance.s0.X → Option (sumX window_Variance.x0)) (L : ((Unit × Unit) × ((Int × Int × Int × Unit) × Unit)) → Option (((Unit × Bool × Unit) × ((Int × Int × Int × Unit) × Unit)) ⊕ Empty)) (x : ((Unit × Unit) × ((Int × Int × Int × Unit) × Unit))) : (roundK (window_Variance.E l0) window_Variance.s0 [1] [(0, [1, 39])] false (((mk window_Variance.hs window_Variance.c []).atoms.getD 0 .bad).body) window_Variance.x0 L x).run _ some = window_Variance.f0 x.2.1.1 x.2.1.2.1 x.2.1.2.2.1 := by
  show _ = (_ : Option _)
  kernel_rfl
noncomputable def window_Variance.L0 : ((Unit × Unit) × ((Int × Int × Int × Unit) × Unit)) → Option (((Unit × Bool × Unit) × ((Int × Int × Int × Unit) × Unit)) ⊕ Empty) := fun x => window_Variance.f0 x.2.1.1 x.2.1.2.1 x.2.1.2.2.1
def window_Variance.f (l0 : ((Unit × Unit) × ((Int × Int × Int × Unit) × Unit)) → Option (((Unit × Bool × Unit) × ((Int × Int × Int × Unit) × Unit)) ⊕ Empty)) (x_Count : Int) (x_Sum : Int) (x_Square : Int) : Option ((Int × Unit) × (Unit)) :=
  (Option.bind (l0 (((), ()), ((x_Count, (x_Sum, (x_Square, ()))), ()))) (fun y0 =>
  (Sum.elim (fun a1 =>
   (bif a1.1.2.1 then
    (some (((0:Int), ()), ()))
   else
    (some (((Go.VI.mx (0:Int) (Go.IntKind.wrap Go.IntKind.i64 ((Go.IntKind.wrap Go.IntKind.i64 (a1.2.1.1 * a1.2.1.2.2.1)) - (Go.IntKind.wrap Go.IntKind.i64 (a1.2.1.2.1 * a1.2.1.2.1))))), ()), ())))) (fun b1 =>
   (Empty.elim b1)) y0)))
theorem window_Variance.eq (l0 : window_Variance.s0.X → Option (sumX window_Variance.x0)) (x : (((Int × Int × Int × Unit) × Unit) × (Unit))) : (bodyO (window_Variance.E l0) (mk window_Variance.hs window_Variance.c []) Go.Proofs.Try.f105.results.toList window_Variance.sh window_Variance.osh x).run _ some = window_Variance.f l0 x.1.1.1 x.1.1.2.1 x.1.1.2.2.1 := by
  show _ = (_ : Option _)
  kernel_rfl
noncomputable def window_Variance (x_Count : Int) (x_Sum : Int) (x_Square : Int) : Option ((Int × Unit) × (Unit)) := window_Variance.f window_Variance.L0 x_Count x_Sum x_Square
noncomputable def window_Variance.F (x : (((Int × Int × Int × Unit) × Unit) × (Unit))) : Option ((Int × Unit) × (Unit)) := window_Variance x.1.1.1 x.1.1.2.1 x.1.1.2.2.1
theorem window_Variance.L0_eq (o0_0 : Int) (o0_1 : Int) (o0_2 : Int) : window_Variance.L0 (((), ()), ((o0_0, o0_1, o0_2, ()), ())) = window_Variance.f0 o0_0 o0_1 o0_2 := rfl
theorem window_Variance.F_eq (x_Count : Int) (x_Sum : Int) (x_Square : Int) : window_Variance.F (((x_Count, x_Sum, x_Square, ()), ()), ()) = window_Variance.f window_Variance.L0 x_Count x_Sum x_Square := rfl
theorem window_Variance.ok {tabs : List (Nat × Go.Obj)} (ht : TabsOk tabs) : FOK Go.Proofs.Try.prog tabs 105 (FE.of [true] false window_Variance.sh window_Variance.osh window_Variance.F) := by
  refine fn_keeps (E := (window_Variance.E window_Variance.L0)) (c := window_Variance.c) (fn := Go.Proofs.Try.f105) (hs := window_Variance.hs) (by kernel_rfl) Go.Proofs.Try.func105 ⟨by kernel_rfl, by kernel_rfl, tb, by kernel_rfl, by kernel_rfl, by kernel_rfl, by kernel_rfl, by kernel_rfl⟩ ⟨fun g ks fe h => ?_, gt_ok ht⟩ ?_ (fun x => window_Variance.eq window_Variance.L0 x)
  · cases h
  · refine known_at 1 (by kernel_rfl) fun i hi => ?_
    match i, hi with
    | 0, _ => exact atom_at (id := 0) (live := [1]) (outs := [(0, [1, 39])]) (loop := false) (by kernel_rfl) (cut_ok (E := (window_Variance.E window_Variance.L0)) (sh := window_Variance.s0) (es := window_Variance.x0) rfl (fun L x => window_Variance.eq0 window_Variance.L0 L x))
    | n + 1, h => exact absurd h (by omega)

/-! normal_variance -/
def normal_variance.f0 (L : ((Unit × (List Int) × Int × Int × Unit) × ((Int × Int × Int × Unit) × Unit)) → Option (((Unit × Unit) × ((Int × Int × Int × Unit) × Unit)) ⊕ Empty)) (v9 : (List Int)) (v10 : Int) (v11 : Int) (o0_0 : Int) (o0_1 : Int) (o0_2 : Int) : Option (((Unit × Unit) × ((Int × Int × Int × Unit) × Unit)) ⊕ Empty) :=
  (bif (decide (v11 < v10)) then
   (bif (decide ((0:Int) ≤ v11)) then
    (bif (decide (v11 < (((List.length v9) : Nat) : Int))) then
     (Option.bind (L (((), (v9, (v10, ((Go.IntKind.wrap Go.IntKind.i64 (v11 + (1:Int))), ())))), ((o0_0, ((Go.IntKind.wrap Go.IntKind.i64 (o0_1 + (List.getD v9 (Int.toNat v11) (0:Int)))), ((Go.IntKind.wrap Go.IntKind.i64 (o0_2 + (Go.IntKind.wrap Go.IntKind.i64 ((List.getD v9 (Int.toNat v11) (0:Int)) * (List.getD v9 (Int.toNat v11) (0:Int)))))), ()))), ()))) (fun y3 =>
     (some y3)))
    else
     none)
   else
    none)
  else
   (some (Sum.inl (((), ()), ((o0_0, (o0_1, (o0_2, ()))), ())))))
theorem normal_variance.eq0 (g_window_Variance : window_Variance.sh.X → Option window_Variance.osh.X) (l0 : normal_variance.s0.X → Option (sumX normal_variance.x0)) (L : ((Unit × (List Int) × Int × Int × Unit) × ((Int × Int × Int × Unit) × Unit)) → Option (((Unit × Unit) × ((Int × Int × Int × Unit) × Unit)) ⊕ Empty)) (x : ((Unit × (List Int) × Int × Int × Unit) × ((Int × Int × Int × Unit) × Unit))) : (roundK (normal_variance.E g_window_Variance l0) normal_variance.s0 [3, 9, 10, 11] [(2, [3])] true (((mk normal_variance.hs normal_variance.c []).atoms.getD 0 .bad).body) normal_variance.x0 L x).run _ some = normal_variance.f0 L x.1.2.1 x.1.2.2.1 x.1.2.2.2.1 x.2.1.1 x.2.1.2.1 x.2.1.2.2.1 := by
  show _ = (_ : Option _)
  kernel_rfl
noncomputable def normal_variance.L0 : ((Unit × (List Int) × Int × Int × Unit) × ((Int × Int × Int × Unit) × Unit)) → Option (((Unit × Unit) × ((Int × Int × Int × Unit) × Unit)) ⊕ Empty) := loop fun L x => normal_variance.f0 L x.1.2.1 x.1.2.2.1 x.1.2.2.2.1 x.2.1.1 x.2.1.2.1 x.2.1.2.2.1
def normal_variance.f (g_window_Variance : (((Int × Int × Int × Unit) × Unit) × (Unit)) → Option ((Int × Unit) × (Unit))) (l0 : ((Unit × (List Int) × Int × Int × Unit) × ((Int × Int × Int × Unit) × Unit)) → Option (((Unit × Unit) × ((Int × Int × Int × Unit) × Unit)) ⊕ Empty)) (x_ : (List Int)) : Option ((Int × Unit) × (Unit)) :=
  (Option.bind (l0 (((), (x_, ((((List.length x_) : Nat) : Int), ((0:Int), ())))), (((((List.length x_) : Nat) : Int), ((0:Int), ((0:Int), ()))), ()))) (fun y0 =>
  (Sum.elim (fun a1 =>
   (Option.bind (g_window_Variance (((a1.2.1.1, (a1.2.1.2.1, (a1.2.1.2.2.1, ()))), ()), ())) (fun y2 =>
   (some ((y2.1.1, ()), ()))))) (fun b1 =>
   (Empty.elim b1)) y0)))
theorem normal_variance.eq (g_window_Variance : window_Variance.sh.X → Option window_Variance.osh.X) (l0 : normal_variance.s0.X → Option (sumX normal_variance.x0)) (x : (((List Int) × Unit) × (Unit))) : (bodyO (normal_variance.E g_window_Variance l0) (mk normal_variance.hs normal_variance.c []) Go.Proofs.Try.f100.results.toList normal_variance.sh normal_variance.osh x).run _ some = normal_variance.f g_window_Variance l0 x.1.1 := by
  show _ = (_ : Option _)
  kernel_rfl
noncomputable def normal_variance (x_ : (List Int)) : Option ((Int × Unit) × (Unit)) := normal_variance.f window_Variance.F normal_variance.L0 x_
noncomputable def normal_variance.F (x : (((List Int) × Unit) × (Unit))) : Option ((Int × Unit) × (Unit)) := normal_variance x.1.1
theorem normal_variance.L0_eq (v9 : (List Int)) (v10 : Int) (v11 : Int) (o0_0 : Int) (o0_1 : Int) (o0_2 : Int) : normal_variance.L0 (((), v9, v10, v11, ()), ((o0_0, o0_1, o0_2, ()), ())) = normal_variance.f0 normal_variance.L0 v9 v10 v11 o0_0 o0_1 o0_2 :=
  loop_eq (E := (normal_variance.E window_Variance.F normal_variance.L0)) (sh := normal_variance.s0) (es := normal_variance.x0) (lp := true) (H := fun L x => normal_variance.eq0 window_Variance.F normal_variance.L0 L x) (((), v9, v10, v11, ()), ((o0_0, o0_1, o0_2, ()), ()))
theorem normal_variance.F_eq (x_ : (List Int)) : normal_variance.F ((x_, ()), ()) = normal_variance.f window_Variance.F normal_variance.L0 x_ := rfl
theorem normal_variance.ok {tabs : List (Nat × Go.Obj)} (ht : TabsOk tabs) : FOK Go.Proofs.Try.prog tabs 100 (FE.of [true] false normal_variance.sh normal_variance.osh normal_variance.F) := by
  refine fn_keeps (E := (normal_variance.E window_Variance.F normal_variance.L0)) (c := normal_variance.c) (fn := Go.Proofs.Try.f100) (hs := normal_variance.hs) (by kernel_rfl) Go.Proofs.Try.func100 ⟨by kernel_rfl, by kernel_rfl, tb, by kernel_rfl, by kernel_rfl, by kernel_rfl, by kernel_rfl, by kernel_rfl⟩ ⟨fun g ks fe h => ?_, gt_ok ht⟩ ?_ (fun x => normal_variance.eq window_Variance.F normal_variance.L0 x)
  · rcases c_cons h with ⟨rfl, rfl⟩ | h
    · exact window_Variance.ok ht
    cases h
  · refine known_at 1 (by kernel_rfl) fun i hi => ?_
    match i, hi with
    | 0, _ => exact atom_at (id := 0) (live := [3, 9, 10, 11]) (outs := [(2, [3])]) (loop := true) (by kernel_rfl) (loop_ok (E := (normal_variance.E window_Variance.F normal_variance.L0)) (sh := normal_variance.s0) (es := normal_variance.x0) rfl (fun L x => normal_variance.eq0 window_Variance.F normal_variance.L0 L x))
    | n + 1, h => exact absurd h (by omega)

/-! normal_product -/
def normal_product.f0 (L : (((List Int) × (List Int) × Int × Int × Int × (List Int) × Int × Int × Unit) × (Unit)) → Option ((((List Int) × Int × Int × Int × Unit) × (Unit)) ⊕ Empty)) (x_0 : (List Int)) (y_1 : (List Int)) (p_5 : Int) (s_6 : Int) (t_7 : Int) (v10 : (List Int)) (v11 : Int) (v12 : Int) : Option ((((List Int) × Int × Int × Int × Unit) × (Unit)) ⊕ Empty) :=
  (bif (decide (v12 < v11)) then
   (bif (decide ((0:Int) ≤ v12)) then
    (bif (decide (v12 < (((List.length v10) : Nat) : Int))) then
     (bif (decide ((0:Int) ≤ v12)) then
      (bif (decide (v12 < (((List.length y_1) : Nat) : Int))) then
       (bif (decide ((0:Int) ≤ v12)) then
        (bif (decide (v12 < (((List.length y_1) : Nat) : Int))) then
         (Option.bind (L ((x_0, (y_1, ((Go.IntKind.wrap Go.IntKind.i64 (p_5 + (Go.IntKind.wrap Go.IntKind.i64 ((List.getD v10 (Int.toNat v12) (0:Int)) * (List.getD y_1 (Int.toNat v12) (0:Int)))))), ((Go.IntKind.wrap Go.IntKind.i64 (s_6 + (List.getD v10 (Int.toNat v12) (0:Int)))), ((Go.IntKind.wrap Go.IntKind.i64 (t_7 + (List.getD y_1 (Int.toNat v12) (0:Int)))), (v10, (v11, ((Go.IntKind.wrap Go.IntKind.i64 (v12 + (1:Int))), ())))))))), ())) (fun y7 =>
         (some y7)))
        else
         none)
       else
        none)
      else
       none)
     else
      none)
    else
     none)
   else
    none)
  else
   (some (Sum.inl ((x_0, (p_5, (s_6, (t_7, ())))), ()))))
theorem normal_product.eq0 (l0 : normal_product.s0.X → Option (sumX normal_product.x0)) (L : (((List Int) × (List Int) × Int × Int × Int × (List Int) × Int × Int × Unit) × (Unit)) → Option ((((List Int) × Int × Int × Int × Unit) × (Unit)) ⊕ Empty)) (x : (((List Int) × (List Int) × Int × Int × Int × (List Int) × Int × Int × Unit) × (Unit))) : (roundK (normal_product.E l0) normal_product.s0 [0, 1, 5, 6, 7, 10, 11, 12] [(2, [0, 5, 6, 7])] true (((mk normal_product.hs normal_product.c []).atoms.getD 0 .bad).body) normal_product.x0 L x).run _ some = normal_product.f0 L x.1.1 x.1.2.1 x.1.2.2.1 x.1.2.2.2.1 x.1.2.2.2.2.1 x.1.2.2.2.2.2.1 x.1.2.2.2.2.2.2.1 x.1.2.2.2.2.2.2.2.1 := by
  show _ = (_ : Option _)
  kernel_rfl
noncomputable def normal_product.L0 : (((List Int) × (List Int) × Int × Int × Int × (List Int) × Int × Int × Unit) × (Unit)) → Option ((((List Int) × Int × Int × Int × Unit) × (Unit)) ⊕ Empty) := loop fun L x => normal_product.f0 L x.1.1 x.1.2.1 x.1.2.2.1 x.1.2.2.2.1 x.1.2.2.2.2.1 x.1.2.2.2.2.2.1 x.1.2.2.2.2.2.2.1 x.1.2.2.2.2.2.2.2.1
def normal_product.f (l0 : (((List Int) × (List Int) × Int × Int × Int × (List Int) × Int × Int × Unit) × (Unit)) → Option ((((List Int) × Int × Int × Int × Unit) × (Unit)) ⊕ Empty)) (x_ : (List Int)) (y : (List Int)) : Option ((Int × Unit) × (Unit)) :=
  (Option.bind (l0 ((x_, (y, ((0:Int), ((0:Int), ((0:Int), (x_, ((((List.length x_) : Nat) : Int), ((0:Int), ())))))))), ())) (fun y0 =>
  (Sum.elim (fun a1 =>
   (some (((Go.IntKind.wrap Go.IntKind.i64 ((Go.IntKind.wrap Go.IntKind.i64 ((((List.length a1.1.1) : Nat) : Int) * a1.1.2.1)) - (Go.IntKind.wrap Go.IntKind.i64 (a1.1.2.2.1 * a1.1.2.2.2.1)))), ()), ()))) (fun b1 =>
   (Empty.elim b1)) y0)))
theorem normal_product.eq (l0 : normal_product.s0.X → Option (sumX normal_product.x0)) (x : (((List Int) × (List Int) × Unit) × (Unit))) : (bodyO (normal_product.E l0) (mk normal_product.hs normal_product.c []) Go.Proofs.Try.f101.results.toList normal_product.sh normal_product.osh x).run _ some = normal_product.f l0 x.1.1 x.1.2.1 := by
  show _ = (_ : Option _)
  kernel_rfl
noncomputable def normal_product (x_ : (List Int)) (y : (List Int)) : Option ((Int × Unit) × (Unit)) := normal_product.f normal_product.L0 x_ y
noncomputable def normal_product.F (x : (((List Int) × (List Int) × Unit) × (Unit))) : Option ((Int × Unit) × (Unit)) := normal_product x.1.1 x.1.2.1
theorem normal_product.L0_eq (x_0 : (List Int)) (y_1 : (List Int)) (p_5 : Int) (s_6 : Int) (t_7 : Int) (v10 : (List Int)) (v11 : Int) (v12 : Int) : normal_product.L0 ((x_0, y_1, p_5, s_6, t_7, v10, v11, v12, ()), ()) = normal_product.f0 normal_product.L0 x_0 y_1 p_5 s_6 t_7 v10 v11 v12 :=
  loop_eq (E := (normal_product.E normal_product.L0)) (sh := normal_product.s0) (es := normal_product.x0) (lp := true) (H := fun L x => normal_product.eq0 normal_product.L0 L x) ((x_0, y_1, p_5, s_6, t_7, v10, v11, v12, ()), ())
theorem normal_product.F_eq (x_ : (List Int)) (y : (List Int)) : normal_product.F ((x_, y, ()), ()) = normal_product.f normal_product.L0 x_ y := rfl
theorem normal_product.ok {tabs : List (Nat × Go.Obj)} (ht : TabsOk tabs) : FOK Go.Proofs.Try.prog tabs 101 (FE.of [true, true] false normal_product.sh normal_product.osh normal_product.F) := by
  refine fn_keeps (E := (normal_product.E normal_product.L0)) (c := normal_product.c) (fn := Go.Proofs.Try.f101) (hs := normal_product.hs) (by kernel_rfl) Go.Proofs.Try.func101 ⟨by kernel_rfl, by kernel_rfl, tb, by kernel_rfl, by kernel_rfl, by kernel_rfl, by kernel_rfl, by kernel_rfl⟩ ⟨fun g ks fe h => ?_, gt_ok ht⟩ ?_ (fun x => normal_product.eq normal_product.L0 x)
  · cases h
  · refine known_at 1 (by kernel_rfl) fun i hi => ?_
    match i, hi with
    | 0, _ => exact atom_at (id := 0) (live := [0, 1, 5, 6, 7, 10, 11, 12]) (outs := [(2, [0, 5, 6, 7])]) (loop := true) (by kernel_rfl) (loop_ok (E := (normal_product.E normal_product.L0)) (sh := normal_product.s0) (es := normal_product.x0) rfl (fun L x => normal_product.eq0 normal_product.L0 L x))
    | n + 1, h => exact absurd h (by omega)

/-! normal_gap -/
def normal_gap.f1 (x_0 : (List Int)) (y_1 : (List Int)) (v_6 : Int) (w_7 : Int) (o0_0 : Int) (o0_1 : Int) : Option ((((List Int) × (List Int) × Unit × Int × Int × Bool × Unit) × ((Int × Int × Unit) × Unit)) ⊕ Empty) :=
  (bif (v_6 == (0:Int)) then
   (some (Sum.inl ((x_0, (y_1, ((), (v_6, (w_7, ((w_7 == (0:Int)), ())))))), ((o0_0, (o0_1, ())), ()))))
  else
   (some (Sum.inl ((x_0, (y_1, ((), (v_6, (w_7, (Bool.false, ())))))), ((o0_0, (o0_1, ())), ())))))
theorem normal_gap.eq1 (g_normal_variance : normal_variance.sh.X → Option normal_variance.osh.X) (g_ratio_Make : ratio_Make.sh.X → Option ratio_Make.osh.X) (g_normal_product : normal_product.sh.X → Option normal_product.osh.X) (l0 : normal_gap.s0.X → Option (sumX normal_gap.x0)) (l1 : normal_gap.s1.X → Option (sumX normal_gap.x1)) (L : (((List Int) × (List Int) × Unit × Int × Int × Unit) × ((Int × Int × Unit) × Unit)) → Option ((((List Int) × (List Int) × Unit × Int × Int × Bool × Unit) × ((Int × Int × Unit) × Unit)) ⊕ Empty)) (x : (((List Int) × (List Int) × Unit × Int × Int × Unit) × ((Int × Int × Unit) × Unit))) : (roundK (normal_gap.E g_normal_variance g_ratio_Make g_normal_product l0 l1) normal_gap.s1 [0, 1, 4, 6, 7] [(0, [0, 1, 4, 6, 7, 13])] false (((mk normal_gap.hs normal_gap.c []).atoms.getD 1 .bad).body) normal_gap.x1 L x).run _ some = normal_gap.f1 x.1.1 x.1.2.1 x.1.2.2.2.1 x.1.2.2.2.2.1 x.2.1.1 x.2.1.2.1 := by
  show _ = (_ : Option _)
  kernel_rfl
noncomputable def normal_gap.L1 : (((List Int) × (List Int) × Unit × Int × Int × Unit) × ((Int × Int × Unit) × Unit)) → Option ((((List Int) × (List Int) × Unit × Int × Int × Bool × Unit) × ((Int × Int × Unit) × Unit)) ⊕ Empty) := fun x => normal_gap.f1 x.1.1 x.1.2.1 x.1.2.2.2.1 x.1.2.2.2.2.1 x.2.1.1 x.2.1.2.1
def normal_gap.f0 (g_ratio_Make : ((Int × Int × Unit) × (Unit)) → Option (((Int × Int × Unit) × Int × Unit) × (Unit))) (l1 : (((List Int) × (List Int) × Unit × Int × Int × Unit) × ((Int × Int × Unit) × Unit)) → Option ((((List Int) × (List Int) × Unit × Int × Int × Bool × Unit) × ((Int × Int × Unit) × Unit)) ⊕ Empty)) (x_0 : (List Int)) (y_1 : (List Int)) (v_6 : Int) (w_7 : Int) (o0_0 : Int) (o0_1 : Int) : Option (((Unit × Int × Unit) × ((Int × Int × Unit) × Unit)) ⊕ (((List Int) × (List Int) × Unit × Int × Int × Unit) × ((Int × Int × Unit) × Unit)) ⊕ Empty) :=
  (Option.bind (l1 ((x_0, (y_1, ((), (v_6, (w_7, ()))))), ((o0_0, (o0_1, ())), ()))) (fun y0 =>
  (Sum.elim (fun a1 =>
   (bif a1.1.2.2.2.2.2.1 then
    (Option.bind (g_ratio_Make (((0:Int), ((1:Int), ())), ())) (fun y3 =>
    (some (Sum.inl (((), (y3.1.2.1, ())), ((y3.1.1.1, (y3.1.1.2.1, ())), ()))))))
   else
    (bif (a1.1.2.2.2.1 == (0:Int)) then
     (Option.bind (g_ratio_Make (((1:Int), ((1:Int), ())), ())) (fun y4 =>
     (some (Sum.inl (((), (y4.1.2.1, ())), ((y4.1.1.1, (y4.1.1.2.1, ())), ()))))))
    else
     (bif (a1.1.2.2.2.2.1 == (0:Int)) then
      (Option.bind (g_ratio_Make (((1:Int), ((1:Int), ())), ())) (fun y5 =>
      (some (Sum.inl (((), (y5.1.2.1, ())), ((y5.1.1.1, (y5.1.1.2.1, ())), ()))))))
     else
      (some (Sum.inr (Sum.inl ((a1.1.1, (a1.1.2.1, ((), (a1.1.2.2.2.1, (a1.1.2.2.2.2.1, ()))))), ((a1.2.1.1, (a1.2.1.2.1, ())), ()))))))))) (fun b1 =>
   (Empty.elim b1)) y0)))
theorem normal_gap.eq0 (g_normal_variance : normal_variance.sh.X → Option normal_variance.osh.X) (g_ratio_Make : ratio_Make.sh.X → Option ratio_Make.osh.X) (g_normal_product : normal_product.sh.X → Option normal_product.osh.X) (l0 : normal_gap.s0.X → Option (sumX normal_gap.x0)) (l1 : normal_gap.s1.X → Option (sumX normal_gap.x1)) (L : (((List Int) × (List Int) × Unit × Int × Int × Unit) × ((Int × Int × Unit) × Unit)) → Option (((Unit × Int × Unit) × ((Int × Int × Unit) × Unit)) ⊕ (((List Int) × (List Int) × Unit × Int × Int × Unit) × ((Int × Int × Unit) × Unit)) ⊕ Empty)) (x : (((List Int) × (List Int) × Unit × Int × Int × Unit) × ((Int × Int × Unit) × Unit))) : (roundK (normal_gap.E g_normal_variance g_ratio_Make g_normal_product l0 l1) normal_gap.s0 [0, 1, 4, 6, 7] [(1, [4, 5]), (0, [0, 1, 4, 6, 7])] false (((mk normal_gap.hs normal_gap.c []).atoms.getD 0 .bad).body) normal_gap.x0 L x).run _ some = normal_gap.f0 g_ratio_Make l1 x.1.1 x.1.2.1 x.1.2.2.2.1 x.1.2.2.2.2.1 x.2.1.1 x.2.1.2.1 := by
  show _ = (_ : Option _)
  kernel_rfl
noncomputable def normal_gap.L0 : (((List Int) × (List Int) × Unit × Int × Int × Unit) × ((Int × Int × Unit) × Unit)) → Option (((Unit × Int × Unit) × ((Int × Int × Unit) × Unit)) ⊕ (((List Int) × (List Int) × Unit × Int × Int × Unit) × ((Int × Int × Unit) × Unit)) ⊕ Empty) := fun x => normal_gap.f0 ratio_Make.F normal_gap.L1 x.1.1 x.1.2.1 x.1.2.2.2.1 x.1.2.2.2.2.1 x.2.1.1 x.2.1.2.1
def normal_gap.f (g_normal_variance : (((List Int) × Unit) × (Unit)) → Option ((Int × Unit) × (Unit))) (g_ratio_Make : ((Int × Int × Unit) × (Unit)) → Option (((Int × Int × Unit) × Int × Unit) × (Unit))) (g_normal_product : (((List Int) × (List Int) × Unit) × (Unit)) → Option ((Int × Unit) × (Unit))) (l0 : (((List Int) × (List Int) × Unit × Int × Int × Unit) × ((Int × Int × Unit) × Unit)) → Option (((Unit × Int × Unit) × ((Int × Int × Unit) × Unit)) ⊕ (((List Int) × (List Int) × Unit × Int × Int × Unit) × ((Int × Int × Unit) × Unit)) ⊕ Empty)) (x_ : (List Int)) (y : (List Int)) : Option (((Int × Int × Unit) × Int × Unit) × (Unit)) :=
  (Option.bind (g_normal_variance ((x_, ()), ())) (fun y0 =>
  (Option.bind (g_normal_variance ((y, ()), ())) (fun y1 =>
  (Option.bind (l0 ((x_, (y, ((), (y0.1.1, (y1.1.1, ()))))), (((0:Int), ((0:Int), ())), ()))) (fun y2 =>
  (Sum.elim (fun a3 =>
   (some (((a3.2.1.1, (a3.2.1.2.1, ())), (a3.1.2.1, ())), ()))) (fun b3 =>
   (Sum.elim (fun a4 =>
    (Option.bind (g_normal_product ((a4.1.1, (a4.1.2.1, ())), ())) (fun y5 =>
    (bif (decide (y5.1.1 < (0:Int))) then
     (Option.bind (g_ratio_Make (((Go.IntKind.wrap Go.IntKind.i64 ((Go.IntKind.wrap Go.IntKind.i64 (a4.1.2.2.2.1 * a4.1.2.2.2.2.1)) + (Go.IntKind.wrap Go.IntKind.i64 (y5.1.1 * y5.1.1)))), ((Go.IntKind.wrap Go.IntKind.i64 (a4.1.2.2.2.1 * a4.1.2.2.2.2.1)), ())), ())) (fun y7 =>
     (some (((y7.1.1.1, (y7.1.1.2.1, ())), (y7.1.2.1, ())), ()))))
    else
     (Option.bind (g_ratio_Make (((Go.IntKind.wrap Go.IntKind.i64 ((Go.IntKind.wrap Go.IntKind.i64 (a4.1.2.2.2.1 * a4.1.2.2.2.2.1)) - (Go.IntKind.wrap Go.IntKind.i64 (y5.1.1 * y5.1.1)))), ((Go.IntKind.wrap Go.IntKind.i64 (a4.1.2.2.2.1 * a4.1.2.2.2.2.1)), ())), ())) (fun y7 =>
     (some (((y7.1.1.1, (y7.1.1.2.1, ())), (y7.1.2.1, ())), ())))))))) (fun b4 =>
    (Empty.elim b4)) b3)) y2)))))))
theorem normal_gap.eq (g_normal_variance : normal_variance.sh.X → Option normal_variance.osh.X) (g_ratio_Make : ratio_Make.sh.X → Option ratio_Make.osh.X) (g_normal_product : normal_product.sh.X → Option normal_product.osh.X) (l0 : normal_gap.s0.X → Option (sumX normal_gap.x0)) (l1 : normal_gap.s1.X → Option (sumX normal_gap.x1)) (x : (((List Int) × (List Int) × Unit) × (Unit))) : (bodyO (normal_gap.E g_normal_variance g_ratio_Make g_normal_product l0 l1) (mk normal_gap.hs normal_gap.c []) Go.Proofs.Try.f93.results.toList normal_gap.sh normal_gap.osh x).run _ some = normal_gap.f g_normal_variance g_ratio_Make g_normal_product l0 x.1.1 x.1.2.1 := by
  show _ = (_ : Option _)
  kernel_rfl
noncomputable def normal_gap (x_ : (List Int)) (y : (List Int)) : Option (((Int × Int × Unit) × Int × Unit) × (Unit)) := normal_gap.f normal_variance.F ratio_Make.F normal_product.F normal_gap.L0 x_ y
noncomputable def normal_gap.F (x : (((List Int) × (List Int) × Unit) × (Unit))) : Option (((Int × Int × Unit) × Int × Unit) × (Unit)) := normal_gap x.1.1 x.1.2.1
theorem normal_gap.L0_eq (x_0 : (List Int)) (y_1 : (List Int)) (v_6 : Int) (w_7 : Int) (o0_0 : Int) (o0_1 : Int) : normal_gap.L0 ((x_0, y_1, (), v_6, w_7, ()), ((o0_0, o0_1, ()), ())) = normal_gap.f0 ratio_Make.F normal_gap.L1 x_0 y_1 v_6 w_7 o0_0 o0_1 := rfl
theorem normal_gap.L1_eq (x_0 : (List Int)) (y_1 : (List Int)) (v_6 : Int) (w_7 : Int) (o0_0 : Int) (o0_1 : Int) : normal_gap.L1 ((x_0, y_1, (), v_6, w_7, ()), ((o0_0, o0_1, ()), ())) = normal_gap.f1 x_0 y_1 v_6 w_7 o0_0 o0_1 := rfl
theorem normal_gap.F_eq (x_ : (List Int)) (y : (List Int)) : normal_gap.F ((x_, y, ()), ()) = normal_gap.f normal_variance.F ratio_Make.F normal_product.F normal_gap.L0 x_ y := rfl
theorem normal_gap.ok {tabs : List (Nat × Go.Obj)} (ht : TabsOk tabs) : FOK Go.Proofs.Try.prog tabs 93 (FE.of [true, true] false normal_gap.sh normal_gap.osh normal_gap.F) := by
  refine fn_keeps (E := (normal_gap.E normal_variance.F ratio_Make.F normal_product.F normal_gap.L0 normal_gap.L1)) (c := normal_gap.c) (fn := Go.Proofs.Try.f93) (hs := normal_gap.hs) (by kernel_rfl) Go.Proofs.Try.func93 ⟨by kernel_rfl, by kernel_rfl, tb, by kernel_rfl, by kernel_rfl, by kernel_rfl, by kernel_rfl, by kernel_rfl⟩ ⟨fun g ks fe h => ?_, gt_ok ht⟩ ?_ (fun x => normal_gap.eq normal_variance.F ratio_Make.F normal_product.F normal_gap.L0 normal_gap.L1 x)
  · rcases c_cons h with ⟨rfl, rfl⟩ | h
    · exact normal_variance.ok ht
    rcases c_cons h with ⟨rfl, rfl⟩ | h
    · exact ratio_Make.ok ht
    rcases c_cons h with ⟨rfl, rfl⟩ | h
    · exact normal_product.ok ht
    cases h
  · refine known_at 2 (by kernel_rfl) fun i hi => ?_
    match i, hi with
    | 0, _ => exact atom_at (id := 0) (live := [0, 1, 4, 6, 7]) (outs := [(1, [4, 5]), (0, [0, 1, 4, 6, 7])]) (loop := false) (by kernel_rfl) (cut_ok (E := (normal_gap.E normal_variance.F ratio_Make.F normal_product.F normal_gap.L0 normal_gap.L1)) (sh := normal_gap.s0) (es := normal_gap.x0) rfl (fun L x => normal_gap.eq0 normal_variance.F ratio_Make.F normal_product.F normal_gap.L0 normal_gap.L1 L x))
    | 1, _ => exact atom_at (id := 1) (live := [0, 1, 4, 6, 7]) (outs := [(0, [0, 1, 4, 6, 7, 13])]) (loop := false) (by kernel_rfl) (cut_ok (E := (normal_gap.E normal_variance.F ratio_Make.F normal_product.F normal_gap.L0 normal_gap.L1)) (sh := normal_gap.s1) (es := normal_gap.x1) rfl (fun L x => normal_gap.eq1 normal_variance.F ratio_Make.F normal_product.F normal_gap.L0 normal_gap.L1 L x))
    | n + 2, h => exact absurd h (by omega)

/-! normal_Gap -/
def normal_Gap.f (g_euclid_Distance : (((List Int) × (List Int) × Unit) × (Unit)) → Option ((Int × Int × Unit) × (Unit))) (g_normal_gap : (((List Int) × (List Int) × Unit) × (Unit)) → Option (((Int × Int × Unit) × Int × Unit) × (Unit))) (x_ : (List Int)) (y : (List Int)) : Option (((Int × Int × Unit) × Int × Unit) × (Unit)) :=
  (Option.bind (g_euclid_Distance ((x_, (y, ())), ())) (fun y0 =>
  (bif (y0.1.2.1 != (0:Int)) then
   (some ((((0:Int), ((0:Int), ())), (y0.1.2.1, ())), ()))
  else
   (Option.bind (g_normal_gap ((x_, (y, ())), ())) (fun y2 =>
   (some (((y2.1.1.1, (y2.1.1.2.1, ())), (y2.1.2.1, ())), ())))))))
theorem normal_Gap.eq (g_euclid_Distance : euclid_Distance.sh.X → Option euclid_Distance.osh.X) (g_normal_gap : normal_gap.sh.X → Option normal_gap.osh.X) (x : (((List Int) × (List Int) × Unit) × (Unit))) : (bodyO (normal_Gap.E g_euclid_Distance g_normal_gap) (mk normal_Gap.hs normal_Gap.c []) Go.Proofs.Try.f80.results.toList normal_Gap.sh normal_Gap.osh x).run _ some = normal_Gap.f g_euclid_Distance g_normal_gap x.1.1 x.1.2.1 := by
  show _ = (_ : Option _)
  kernel_rfl
noncomputable def normal_Gap (x_ : (List Int)) (y : (List Int)) : Option (((Int × Int × Unit) × Int × Unit) × (Unit)) := normal_Gap.f euclid_Distance.F normal_gap.F x_ y
noncomputable def normal_Gap.F (x : (((List Int) × (List Int) × Unit) × (Unit))) : Option (((Int × Int × Unit) × Int × Unit) × (Unit)) := normal_Gap x.1.1 x.1.2.1
theorem normal_Gap.F_eq (x_ : (List Int)) (y : (List Int)) : normal_Gap.F ((x_, y, ()), ()) = normal_Gap.f euclid_Distance.F normal_gap.F x_ y := rfl
theorem normal_Gap.ok {tabs : List (Nat × Go.Obj)} (ht : TabsOk tabs) : FOK Go.Proofs.Try.prog tabs 80 (FE.of [true, true] false normal_Gap.sh normal_Gap.osh normal_Gap.F) := by
  refine fn_keeps (E := (normal_Gap.E euclid_Distance.F normal_gap.F)) (c := normal_Gap.c) (fn := Go.Proofs.Try.f80) (hs := normal_Gap.hs) (by kernel_rfl) Go.Proofs.Try.func80 ⟨by kernel_rfl, by kernel_rfl, tb, by kernel_rfl, by kernel_rfl, by kernel_rfl, by kernel_rfl, by kernel_rfl⟩ ⟨fun g ks fe h => ?_, gt_ok ht⟩ ?_ (fun x => normal_Gap.eq euclid_Distance.F normal_gap.F x)
  · rcases c_cons h with ⟨rfl, rfl⟩ | h
    · exact euclid_Distance.ok ht
    rcases c_cons h with ⟨rfl, rfl⟩ | h
    · exact normal_gap.ok ht
    cases h
  · exact known_at 0 (by kernel_rfl) fun i hi => absurd hi (Nat.not_lt_zero i)
end Go.Proofs.Ytefcciajemkicaa.V
