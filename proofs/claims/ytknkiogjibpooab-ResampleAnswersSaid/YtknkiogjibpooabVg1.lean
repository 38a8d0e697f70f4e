import Derived.Test.YtknkiogjibpooabVg0
set_option linter.unusedVariables false
set_option maxRecDepth 100000
namespace Go.Proofs.Ytknkiogjibpooab.V
open Go.VI
/-! resample_half -/
def resample_half.f (a : Int) (b : Int) : Option ((Int × Unit) × (Unit)) :=
  (bif (!(decide ((Go.IntKind.wrap Go.IntKind.i64 ((2:Int) * b)) = (0:Int)))) then
   (bif (!(decide ((Go.IntKind.wrap Go.IntKind.i64 ((2:Int) * b)) = (0:Int)))) then
    (bif (decide ((Int.tmod (Go.IntKind.wrap Go.IntKind.i64 ((Go.IntKind.wrap Go.IntKind.i64 ((2:Int) * a)) + b)) (Go.IntKind.wrap Go.IntKind.i64 ((2:Int) * b))) < (0:Int))) then
     (some (((Go.IntKind.wrap Go.IntKind.i64 ((Go.IntKind.wrap Go.IntKind.i64 (Int.tdiv (Go.IntKind.wrap Go.IntKind.i64 ((Go.IntKind.wrap Go.IntKind.i64 ((2:Int) * a)) + b)) (Go.IntKind.wrap Go.IntKind.i64 ((2:Int) * b)))) - (1:Int))), ()), ()))
    else
     (some (((Go.IntKind.wrap Go.IntKind.i64 (Int.tdiv (Go.IntKind.wrap Go.IntKind.i64 ((Go.IntKind.wrap Go.IntKind.i64 ((2:Int) * a)) + b)) (Go.IntKind.wrap Go.IntKind.i64 ((2:Int) * b)))), ()), ())))
   else
    none)
  else
   none)
theorem resample_half.eq (x : ((Int × Int × Unit) × (Unit))) : (bodyO (resample_half.E) (mk resample_half.hs resample_half.c []) Go.Proofs.Try.f34.results.toList resample_half.sh resample_half.osh x).run _ some = resample_half.f x.1.1 x.1.2.1 := by
  show _ = (_ : Option _)
  kernel_rfl
noncomputable def resample_half (a : Int) (b : Int) : Option ((Int × Unit) × (Unit)) := resample_half.f a b
noncomputable def resample_half.F (x : ((Int × Int × Unit) × (Unit))) : Option ((Int × Unit) × (Unit)) := resample_half x.1.1 x.1.2.1
theorem resample_half.F_eq (a : Int) (b : Int) : resample_half.F ((a, b, ()), ()) = resample_half.f a b := rfl
theorem resample_half.ok : FOK Go.Proofs.Try.prog [] 34 (FE.of [true, true] false resample_half.sh resample_half.osh resample_half.F) := by
  refine fn_keeps (E := (resample_half.E)) (c := resample_half.c) (fn := Go.Proofs.Try.f34) (hs := resample_half.hs) (by kernel_rfl) Go.Proofs.Try.func34 ⟨by kernel_rfl, by kernel_rfl, tb, by kernel_rfl, by kernel_rfl, by kernel_rfl, by kernel_rfl, by kernel_rfl⟩ (fun g fe h => ?_) ?_ (fun x => resample_half.eq x)
  · cases h
  · exact known_at 0 (by kernel_rfl) fun i hi => absurd hi (Nat.not_lt_zero i)

/-! resample_value -/
def resample_value.f0 (l_0 : (List (Int × Int))) (time_2 : Int) (i_8 : Int) (k_9 : Int) (o0_0 : Int) (o0_1 : Int) (o0_2 : Int) (o0_3 : Int) (o0_4 : Int) : Option ((((List (Int × Int)) × Int × Unit × Int × Int × Bool × Unit) × ((Int × Int × Int × Int × Int × Unit) × Unit)) ⊕ Empty) :=
  (bif (decide (i_8 ≥ (0:Int))) then
   (bif (decide ((0:Int) ≤ i_8)) then
    (bif (decide (i_8 < (((List.length l_0) : Nat) : Int))) then
     (some (Sum.inl ((l_0, (time_2, ((), (i_8, (k_9, ((decide ((Go.IntKind.wrap Go.IntKind.i64 (time_2 - (List.getD l_0 (Int.toNat i_8) ((0:Int), (0:Int))).1)) ≤ o0_4)), ())))))), ((o0_0, (o0_1, (o0_2, (o0_3, (o0_4, ()))))), ()))))
    else
     none)
   else
    none)
  else
   (some (Sum.inl ((l_0, (time_2, ((), (i_8, (k_9, (Bool.false, ())))))), ((o0_0, (o0_1, (o0_2, (o0_3, (o0_4, ()))))), ())))))
theorem resample_value.eq0 (g_resample_neighbours : resample_neighbours.sh.X → Option resample_neighbours.osh.X) (g_resample_half : resample_half.sh.X → Option resample_half.osh.X) (l0 : resample_value.s0.X → Option (sumX resample_value.x0)) (l1 : resample_value.s1.X → Option (sumX resample_value.x1)) (l2 : resample_value.s2.X → Option (sumX resample_value.x2)) (l3 : resample_value.s3.X → Option (sumX resample_value.x3)) (L : (((List (Int × Int)) × Int × Unit × Int × Int × Unit) × ((Int × Int × Int × Int × Int × Unit) × Unit)) → Option ((((List (Int × Int)) × Int × Unit × Int × Int × Bool × Unit) × ((Int × Int × Int × Int × Int × Unit) × Unit)) ⊕ Empty)) (x : (((List (Int × Int)) × Int × Unit × Int × Int × Unit) × ((Int × Int × Int × Int × Int × Unit) × Unit))) : (roundK (resample_value.E g_resample_neighbours g_resample_half l0 l1 l2 l3) resample_value.s0 [0, 2, 4, 8, 9] [(0, [0, 2, 4, 8, 9, 10])] false (((mk resample_value.hs resample_value.c []).atoms.getD 0 .bad).body) resample_value.x0 L x).run _ some = resample_value.f0 x.1.1 x.1.2.1 x.1.2.2.2.1 x.1.2.2.2.2.1 x.2.1.1 x.2.1.2.1 x.2.1.2.2.1 x.2.1.2.2.2.1 x.2.1.2.2.2.2.1 := by
  show _ = (_ : Option _)
  kernel_rfl
noncomputable def resample_value.L0 : (((List (Int × Int)) × Int × Unit × Int × Int × Unit) × ((Int × Int × Int × Int × Int × Unit) × Unit)) → Option ((((List (Int × Int)) × Int × Unit × Int × Int × Bool × Unit) × ((Int × Int × Int × Int × Int × Unit) × Unit)) ⊕ Empty) := fun x => resample_value.f0 x.1.1 x.1.2.1 x.1.2.2.2.1 x.1.2.2.2.2.1 x.2.1.1 x.2.1.2.1 x.2.1.2.2.1 x.2.1.2.2.2.1 x.2.1.2.2.2.2.1
def resample_value.f1 (l_0 : (List (Int × Int))) (time_2 : Int) (i_8 : Int) (k_9 : Int) (before_10 : Bool) (o0_0 : Int) (o0_1 : Int) (o0_2 : Int) (o0_3 : Int) (o0_4 : Int) : Option ((((List (Int × Int)) × Int × Unit × Int × Int × Bool × Bool × Unit) × ((Int × Int × Int × Int × Int × Unit) × Unit)) ⊕ Empty) :=
  (bif (decide (k_9 < (((List.length l_0) : Nat) : Int))) then
   (bif (decide ((0:Int) ≤ k_9)) then
    (bif (decide (k_9 < (((List.length l_0) : Nat) : Int))) then
     (some (Sum.inl ((l_0, (time_2, ((), (i_8, (k_9, (before_10, ((decide ((Go.IntKind.wrap Go.IntKind.i64 ((List.getD l_0 (Int.toNat k_9) ((0:Int), (0:Int))).1 - time_2)) ≤ o0_4)), ()))))))), ((o0_0, (o0_1, (o0_2, (o0_3, (o0_4, ()))))), ()))))
    else
     none)
   else
    none)
  else
   (some (Sum.inl ((l_0, (time_2, ((), (i_8, (k_9, (before_10, (Bool.false, ()))))))), ((o0_0, (o0_1, (o0_2, (o0_3, (o0_4, ()))))), ())))))
theorem resample_value.eq1 (g_resample_neighbours : resample_neighbours.sh.X → Option resample_neighbours.osh.X) (g_resample_half : resample_half.sh.X → Option resample_half.osh.X) (l0 : resample_value.s0.X → Option (sumX resample_value.x0)) (l1 : resample_value.s1.X → Option (sumX resample_value.x1)) (l2 : resample_value.s2.X → Option (sumX resample_value.x2)) (l3 : resample_value.s3.X → Option (sumX resample_value.x3)) (L : (((List (Int × Int)) × Int × Unit × Int × Int × Bool × Unit) × ((Int × Int × Int × Int × Int × Unit) × Unit)) → Option ((((List (Int × Int)) × Int × Unit × Int × Int × Bool × Bool × Unit) × ((Int × Int × Int × Int × Int × Unit) × Unit)) ⊕ Empty)) (x : (((List (Int × Int)) × Int × Unit × Int × Int × Bool × Unit) × ((Int × Int × Int × Int × Int × Unit) × Unit))) : (roundK (resample_value.E g_resample_neighbours g_resample_half l0 l1 l2 l3) resample_value.s1 [0, 2, 4, 8, 9, 10] [(0, [0, 2, 4, 8, 9, 10, 11])] false (((mk resample_value.hs resample_value.c []).atoms.getD 1 .bad).body) resample_value.x1 L x).run _ some = resample_value.f1 x.1.1 x.1.2.1 x.1.2.2.2.1 x.1.2.2.2.2.1 x.1.2.2.2.2.2.1 x.2.1.1 x.2.1.2.1 x.2.1.2.2.1 x.2.1.2.2.2.1 x.2.1.2.2.2.2.1 := by
  show _ = (_ : Option _)
  kernel_rfl
noncomputable def resample_value.L1 : (((List (Int × Int)) × Int × Unit × Int × Int × Bool × Unit) × ((Int × Int × Int × Int × Int × Unit) × Unit)) → Option ((((List (Int × Int)) × Int × Unit × Int × Int × Bool × Bool × Unit) × ((Int × Int × Int × Int × Int × Unit) × Unit)) ⊕ Empty) := fun x => resample_value.f1 x.1.1 x.1.2.1 x.1.2.2.2.1 x.1.2.2.2.2.1 x.1.2.2.2.2.2.1 x.2.1.1 x.2.1.2.1 x.2.1.2.2.1 x.2.1.2.2.2.1 x.2.1.2.2.2.2.1
def resample_value.f2 (l_0 : (List (Int × Int))) (time_2 : Int) (i_8 : Int) (k_9 : Int) (before_10 : Bool) (behind_11 : Bool) : Option ((((List (Int × Int)) × Int × Int × Bool × Bool × Unit) × (Unit)) ⊕ Empty) :=
  (bif before_10 then
   (bif (!behind_11) then
    (some (Sum.inl ((l_0, (i_8, (k_9, (behind_11, (Bool.true, ()))))), ())))
   else
    (bif (decide ((0:Int) ≤ i_8)) then
     (bif (decide (i_8 < (((List.length l_0) : Nat) : Int))) then
      (bif (decide ((0:Int) ≤ k_9)) then
       (bif (decide (k_9 < (((List.length l_0) : Nat) : Int))) then
        (some (Sum.inl ((l_0, (i_8, (k_9, (behind_11, ((decide ((Go.IntKind.wrap Go.IntKind.i64 (time_2 - (List.getD l_0 (Int.toNat i_8) ((0:Int), (0:Int))).1)) ≤ (Go.IntKind.wrap Go.IntKind.i64 ((List.getD l_0 (Int.toNat k_9) ((0:Int), (0:Int))).1 - time_2)))), ()))))), ())))
       else
        none)
      else
       none)
     else
      none)
    else
     none))
  else
   (some (Sum.inl ((l_0, (i_8, (k_9, (behind_11, (Bool.false, ()))))), ()))))
theorem resample_value.eq2 (g_resample_neighbours : resample_neighbours.sh.X → Option resample_neighbours.osh.X) (g_resample_half : resample_half.sh.X → Option resample_half.osh.X) (l0 : resample_value.s0.X → Option (sumX resample_value.x0)) (l1 : resample_value.s1.X → Option (sumX resample_value.x1)) (l2 : resample_value.s2.X → Option (sumX resample_value.x2)) (l3 : resample_value.s3.X → Option (sumX resample_value.x3)) (L : (((List (Int × Int)) × Int × Int × Int × Bool × Bool × Unit) × (Unit)) → Option ((((List (Int × Int)) × Int × Int × Bool × Bool × Unit) × (Unit)) ⊕ Empty)) (x : (((List (Int × Int)) × Int × Int × Int × Bool × Bool × Unit) × (Unit))) : (roundK (resample_value.E g_resample_neighbours g_resample_half l0 l1 l2 l3) resample_value.s2 [0, 2, 8, 9, 10, 11] [(0, [0, 8, 9, 11, 83])] false (((mk resample_value.hs resample_value.c []).atoms.getD 2 .bad).body) resample_value.x2 L x).run _ some = resample_value.f2 x.1.1 x.1.2.1 x.1.2.2.1 x.1.2.2.2.1 x.1.2.2.2.2.1 x.1.2.2.2.2.2.1 := by
  show _ = (_ : Option _)
  kernel_rfl
noncomputable def resample_value.L2 : (((List (Int × Int)) × Int × Int × Int × Bool × Bool × Unit) × (Unit)) → Option ((((List (Int × Int)) × Int × Int × Bool × Bool × Unit) × (Unit)) ⊕ Empty) := fun x => resample_value.f2 x.1.1 x.1.2.1 x.1.2.2.1 x.1.2.2.2.1 x.1.2.2.2.2.1 x.1.2.2.2.2.2.1
def resample_value.f3 (l_0 : (List (Int × Int))) (time_2 : Int) (i_8 : Int) (k_9 : Int) (before_10 : Bool) (behind_11 : Bool) : Option ((((List (Int × Int)) × Int × Int × Int × Bool × Unit) × (Unit)) ⊕ Empty) :=
  (bif (!before_10) then
   (some (Sum.inl ((l_0, (time_2, (i_8, (k_9, (Bool.true, ()))))), ())))
  else
   (some (Sum.inl ((l_0, (time_2, (i_8, (k_9, ((!behind_11), ()))))), ()))))
theorem resample_value.eq3 (g_resample_neighbours : resample_neighbours.sh.X → Option resample_neighbours.osh.X) (g_resample_half : resample_half.sh.X → Option resample_half.osh.X) (l0 : resample_value.s0.X → Option (sumX resample_value.x0)) (l1 : resample_value.s1.X → Option (sumX resample_value.x1)) (l2 : resample_value.s2.X → Option (sumX resample_value.x2)) (l3 : resample_value.s3.X → Option (sumX resample_value.x3)) (L : (((List (Int × Int)) × Int × Int × Int × Bool × Bool × Unit) × (Unit)) → Option ((((List (Int × Int)) × Int × Int × Int × Bool × Unit) × (Unit)) ⊕ Empty)) (x : (((List (Int × Int)) × Int × Int × Int × Bool × Bool × Unit) × (Unit))) : (roundK (resample_value.E g_resample_neighbours g_resample_half l0 l1 l2 l3) resample_value.s3 [0, 2, 8, 9, 10, 11] [(0, [0, 2, 8, 9, 102])] false (((mk resample_value.hs resample_value.c []).atoms.getD 3 .bad).body) resample_value.x3 L x).run _ some = resample_value.f3 x.1.1 x.1.2.1 x.1.2.2.1 x.1.2.2.2.1 x.1.2.2.2.2.1 x.1.2.2.2.2.2.1 := by
  show _ = (_ : Option _)
  kernel_rfl
noncomputable def resample_value.L3 : (((List (Int × Int)) × Int × Int × Int × Bool × Bool × Unit) × (Unit)) → Option ((((List (Int × Int)) × Int × Int × Int × Bool × Unit) × (Unit)) ⊕ Empty) := fun x => resample_value.f3 x.1.1 x.1.2.1 x.1.2.2.1 x.1.2.2.2.1 x.1.2.2.2.2.1 x.1.2.2.2.2.2.1
def resample_value.f (g_resample_neighbours : (((List (Int × Int)) × Int × Unit) × (Unit)) → Option ((Int × Int × Unit) × (Unit))) (g_resample_half : ((Int × Int × Unit) × (Unit)) → Option ((Int × Unit) × (Unit))) (l0 : (((List (Int × Int)) × Int × Unit × Int × Int × Unit) × ((Int × Int × Int × Int × Int × Unit) × Unit)) → Option ((((List (Int × Int)) × Int × Unit × Int × Int × Bool × Unit) × ((Int × Int × Int × Int × Int × Unit) × Unit)) ⊕ Empty)) (l1 : (((List (Int × Int)) × Int × Unit × Int × Int × Bool × Unit) × ((Int × Int × Int × Int × Int × Unit) × Unit)) → Option ((((List (Int × Int)) × Int × Unit × Int × Int × Bool × Bool × Unit) × ((Int × Int × Int × Int × Int × Unit) × Unit)) ⊕ Empty)) (l2 : (((List (Int × Int)) × Int × Int × Int × Bool × Bool × Unit) × (Unit)) → Option ((((List (Int × Int)) × Int × Int × Bool × Bool × Unit) × (Unit)) ⊕ Empty)) (l3 : (((List (Int × Int)) × Int × Int × Int × Bool × Bool × Unit) × (Unit)) → Option ((((List (Int × Int)) × Int × Int × Int × Bool × Unit) × (Unit)) ⊕ Empty)) (l : (List (Int × Int))) (g_From : Int) (g_Step : Int) (g_Count : Int) (g_Rule : Int) (g_Reach : Int) (time : Int) : Option ((Int × Bool × Unit) × (Unit)) :=
  (Option.bind (g_resample_neighbours ((l, (time, ())), ())) (fun y0 =>
  (Option.bind (l0 ((l, (time, ((), (y0.1.1, (y0.1.2.1, ()))))), ((g_From, (g_Step, (g_Count, (g_Rule, (g_Reach, ()))))), ()))) (fun y1 =>
  (Sum.elim (fun a2 =>
   (Option.bind (l1 ((a2.1.1, (a2.1.2.1, ((), (a2.1.2.2.2.1, (a2.1.2.2.2.2.1, (a2.1.2.2.2.2.2.1, ())))))), ((a2.2.1.1, (a2.2.1.2.1, (a2.2.1.2.2.1, (a2.2.1.2.2.2.1, (a2.2.1.2.2.2.2.1, ()))))), ()))) (fun y3 =>
   (Sum.elim (fun a4 =>
    (bif (a4.2.1.2.2.2.1 == (1:Int)) then
     (bif a4.1.2.2.2.2.2.1 then
      (bif (decide ((0:Int) ≤ a4.1.2.2.2.1)) then
       (bif (decide (a4.1.2.2.2.1 < (((List.length a4.1.1) : Nat) : Int))) then
        (some (((List.getD a4.1.1 (Int.toNat a4.1.2.2.2.1) ((0:Int), (0:Int))).2, (Bool.true, ())), ()))
       else
        none)
      else
       none)
     else
      (some (((0:Int), (Bool.false, ())), ())))
    else
     (bif (a4.2.1.2.2.2.1 == (2:Int)) then
      (Option.bind (l2 ((a4.1.1, (a4.1.2.1, (a4.1.2.2.2.1, (a4.1.2.2.2.2.1, (a4.1.2.2.2.2.2.1, (a4.1.2.2.2.2.2.2.1, ())))))), ())) (fun y7 =>
      (Sum.elim (fun a8 =>
       (bif a8.1.2.2.2.2.1 then
        (bif (decide ((0:Int) ≤ a8.1.2.1)) then
         (bif (decide (a8.1.2.1 < (((List.length a8.1.1) : Nat) : Int))) then
          (some (((List.getD a8.1.1 (Int.toNat a8.1.2.1) ((0:Int), (0:Int))).2, (Bool.true, ())), ()))
         else
          none)
        else
         none)
       else
        (bif a8.1.2.2.2.1 then
         (bif (decide ((0:Int) ≤ a8.1.2.2.1)) then
          (bif (decide (a8.1.2.2.1 < (((List.length a8.1.1) : Nat) : Int))) then
           (some (((List.getD a8.1.1 (Int.toNat a8.1.2.2.1) ((0:Int), (0:Int))).2, (Bool.true, ())), ()))
          else
           none)
         else
          none)
        else
         (some (((0:Int), (Bool.false, ())), ()))))) (fun b8 =>
       (Empty.elim b8)) y7)))
     else
      (bif (a4.2.1.2.2.2.1 == (3:Int)) then
       (Option.bind (l3 ((a4.1.1, (a4.1.2.1, (a4.1.2.2.2.1, (a4.1.2.2.2.2.1, (a4.1.2.2.2.2.2.1, (a4.1.2.2.2.2.2.2.1, ())))))), ())) (fun y8 =>
       (Sum.elim (fun a9 =>
        (bif a9.1.2.2.2.2.1 then
         (some (((0:Int), (Bool.false, ())), ()))
        else
         (bif (decide ((0:Int) ≤ a9.1.2.2.1)) then
          (bif (decide (a9.1.2.2.1 < (((List.length a9.1.1) : Nat) : Int))) then
           (bif (decide ((0:Int) ≤ a9.1.2.2.2.1)) then
            (bif (decide (a9.1.2.2.2.1 < (((List.length a9.1.1) : Nat) : Int))) then
             (bif (a9.1.2.2.1 == a9.1.2.2.2.1) then
              (some (((List.getD a9.1.1 (Int.toNat a9.1.2.2.1) ((0:Int), (0:Int))).2, (Bool.true, ())), ()))
             else
              (Option.bind (g_resample_half (((Go.IntKind.wrap Go.IntKind.i64 ((Go.IntKind.wrap Go.IntKind.i64 ((List.getD a9.1.1 (Int.toNat a9.1.2.2.1) ((0:Int), (0:Int))).2 * (Go.IntKind.wrap Go.IntKind.i64 ((List.getD a9.1.1 (Int.toNat a9.1.2.2.2.1) ((0:Int), (0:Int))).1 - a9.1.2.1)))) + (Go.IntKind.wrap Go.IntKind.i64 ((List.getD a9.1.1 (Int.toNat a9.1.2.2.2.1) ((0:Int), (0:Int))).2 * (Go.IntKind.wrap Go.IntKind.i64 (a9.1.2.1 - (List.getD a9.1.1 (Int.toNat a9.1.2.2.1) ((0:Int), (0:Int))).1)))))), ((Go.IntKind.wrap Go.IntKind.i64 ((List.getD a9.1.1 (Int.toNat a9.1.2.2.2.1) ((0:Int), (0:Int))).1 - (List.getD a9.1.1 (Int.toNat a9.1.2.2.1) ((0:Int), (0:Int))).1)), ())), ())) (fun y16 =>
              (some ((y16.1.1, (Bool.true, ())), ())))))
            else
             none)
           else
            none)
          else
           none)
         else
          none))) (fun b9 =>
        (Empty.elim b9)) y8)))
      else
       (some (((0:Int), (Bool.false, ())), ())))))) (fun b4 =>
    (Empty.elim b4)) y3)))) (fun b2 =>
   (Empty.elim b2)) y1)))))
theorem resample_value.eq (g_resample_neighbours : resample_neighbours.sh.X → Option resample_neighbours.osh.X) (g_resample_half : resample_half.sh.X → Option resample_half.osh.X) (l0 : resample_value.s0.X → Option (sumX resample_value.x0)) (l1 : resample_value.s1.X → Option (sumX resample_value.x1)) (l2 : resample_value.s2.X → Option (sumX resample_value.x2)) (l3 : resample_value.s3.X → Option (sumX resample_value.x3)) (x : (((List (Int × Int)) × (Int × Int × Int × Int × Int × Unit) × Int × Unit) × (Unit))) : (bodyO (resample_value.E g_resample_neighbours g_resample_half l0 l1 l2 l3) (mk resample_value.hs resample_value.c []) Go.Proofs.Try.f29.results.toList resample_value.sh resample_value.osh x).run _ some = resample_value.f g_resample_neighbours g_resample_half l0 l1 l2 l3 x.1.1 x.1.2.1.1 x.1.2.1.2.1 x.1.2.1.2.2.1 x.1.2.1.2.2.2.1 x.1.2.1.2.2.2.2.1 x.1.2.2.1 := by
  show _ = (_ : Option _)
  kernel_rfl
noncomputable def resample_value (l : (List (Int × Int))) (g_From : Int) (g_Step : Int) (g_Count : Int) (g_Rule : Int) (g_Reach : Int) (time : Int) : Option ((Int × Bool × Unit) × (Unit)) := resample_value.f resample_neighbours.F resample_half.F resample_value.L0 resample_value.L1 resample_value.L2 resample_value.L3 l g_From g_Step g_Count g_Rule g_Reach time
noncomputable def resample_value.F (x : (((List (Int × Int)) × (Int × Int × Int × Int × Int × Unit) × Int × Unit) × (Unit))) : Option ((Int × Bool × Unit) × (Unit)) := resample_value x.1.1 x.1.2.1.1 x.1.2.1.2.1 x.1.2.1.2.2.1 x.1.2.1.2.2.2.1 x.1.2.1.2.2.2.2.1 x.1.2.2.1
theorem resample_value.L0_eq (l_0 : (List (Int × Int))) (time_2 : Int) (i_8 : Int) (k_9 : Int) (o0_0 : Int) (o0_1 : Int) (o0_2 : Int) (o0_3 : Int) (o0_4 : Int) : resample_value.L0 ((l_0, time_2, (), i_8, k_9, ()), ((o0_0, o0_1, o0_2, o0_3, o0_4, ()), ())) = resample_value.f0 l_0 time_2 i_8 k_9 o0_0 o0_1 o0_2 o0_3 o0_4 := rfl
theorem resample_value.L1_eq (l_0 : (List (Int × Int))) (time_2 : Int) (i_8 : Int) (k_9 : Int) (before_10 : Bool) (o0_0 : Int) (o0_1 : Int) (o0_2 : Int) (o0_3 : Int) (o0_4 : Int) : resample_value.L1 ((l_0, time_2, (), i_8, k_9, before_10, ()), ((o0_0, o0_1, o0_2, o0_3, o0_4, ()), ())) = resample_value.f1 l_0 time_2 i_8 k_9 before_10 o0_0 o0_1 o0_2 o0_3 o0_4 := rfl
theorem resample_value.L2_eq (l_0 : (List (Int × Int))) (time_2 : Int) (i_8 : Int) (k_9 : Int) (before_10 : Bool) (behind_11 : Bool) : resample_value.L2 ((l_0, time_2, i_8, k_9, before_10, behind_11, ()), ()) = resample_value.f2 l_0 time_2 i_8 k_9 before_10 behind_11 := rfl
theorem resample_value.L3_eq (l_0 : (List (Int × Int))) (time_2 : Int) (i_8 : Int) (k_9 : Int) (before_10 : Bool) (behind_11 : Bool) : resample_value.L3 ((l_0, time_2, i_8, k_9, before_10, behind_11, ()), ()) = resample_value.f3 l_0 time_2 i_8 k_9 before_10 behind_11 := rfl
theorem resample_value.F_eq (l : (List (Int × Int))) (g_From : Int) (g_Step : Int) (g_Count : Int) (g_Rule : Int) (g_Reach : Int) (time : Int) : resample_value.F ((l, (g_From, g_Step, g_Count, g_Rule, g_Reach, ()), time, ()), ()) = resample_value.f resample_neighbours.F resample_half.F resample_value.L0 resample_value.L1 resample_value.L2 resample_value.L3 l g_From g_Step g_Count g_Rule g_Reach time := rfl
theorem resample_value.ok : FOK Go.Proofs.Try.prog [] 29 (FE.of [true, true, true] false resample_value.sh resample_value.osh resample_value.F) := by
  refine fn_keeps (E := (resample_value.E resample_neighbours.F resample_half.F resample_value.L0 resample_value.L1 resample_value.L2 resample_value.L3)) (c := resample_value.c) (fn := Go.Proofs.Try.f29) (hs := resample_value.hs) (by kernel_rfl) Go.Proofs.Try.func29 ⟨by kernel_rfl, by kernel_rfl, tb, by kernel_rfl, by kernel_rfl, by kernel_rfl, by kernel_rfl, by kernel_rfl⟩ (fun g fe h => ?_) ?_ (fun x => resample_value.eq resample_neighbours.F resample_half.F resample_value.L0 resample_value.L1 resample_value.L2 resample_value.L3 x)
  · rcases c_cons h with ⟨rfl, rfl⟩ | h
    · exact resample_neighbours.ok
    rcases c_cons h with ⟨rfl, rfl⟩ | h
    · exact resample_half.ok
    cases h
  · refine known_at 4 (by kernel_rfl) fun i hi => ?_
    match i, hi with
    | 0, _ => exact atom_at (id := 0) (live := [0, 2, 4, 8, 9]) (outs := [(0, [0, 2, 4, 8, 9, 10])]) (loop := false) (by kernel_rfl) (cut_ok (E := (resample_value.E resample_neighbours.F resample_half.F resample_value.L0 resample_value.L1 resample_value.L2 resample_value.L3)) (sh := resample_value.s0) (es := resample_value.x0) rfl (fun L x => resample_value.eq0 resample_neighbours.F resample_half.F resample_value.L0 resample_value.L1 resample_value.L2 resample_value.L3 L x))
    | 1, _ => exact atom_at (id := 1) (live := [0, 2, 4, 8, 9, 10]) (outs := [(0, [0, 2, 4, 8, 9, 10, 11])]) (loop := false) (by kernel_rfl) (cut_ok (E := (resample_value.E resample_neighbours.F resample_half.F resample_value.L0 resample_value.L1 resample_value.L2 resample_value.L3)) (sh := resample_value.s1) (es := resample_value.x1) rfl (fun L x => resample_value.eq1 resample_neighbours.F resample_half.F resample_value.L0 resample_value.L1 resample_value.L2 resample_value.L3 L x))
    | 2, _ => exact atom_at (id := 2) (live := [0, 2, 8, 9, 10, 11]) (outs := [(0, [0, 8, 9, 11, 83])]) (loop := false) (by kernel_rfl) (cut_ok (E := (resample_value.E resample_neighbours.F resample_half.F resample_value.L0 resample_value.L1 resample_value.L2 resample_value.L3)) (sh := resample_value.s2) (es := resample_value.x2) rfl (fun L x => resample_value.eq2 resample_neighbours.F resample_half.F resample_value.L0 resample_value.L1 resample_value.L2 resample_value.L3 L x))
    | 3, _ => exact atom_at (id := 3) (live := [0, 2, 8, 9, 10, 11]) (outs := [(0, [0, 2, 8, 9, 102])]) (loop := false) (by kernel_rfl) (cut_ok (E := (resample_value.E resample_neighbours.F resample_half.F resample_value.L0 resample_value.L1 resample_value.L2 resample_value.L3)) (sh := resample_value.s3) (es := resample_value.x3) rfl (fun L x => resample_value.eq3 resample_neighbours.F resample_half.F resample_value.L0 resample_value.L1 resample_value.L2 resample_value.L3 L x))
    | n + 4, h => exact absurd h (by omega)

/-! resample_Apply -/
def resample_Apply.f0 (g_resample_value : (((List (Int × Int)) × (Int × Int × Int × Int × Int × Unit) × Int × Unit) × (Unit)) → Option ((Int × Bool × Unit) × (Unit))) (L : (((List (Int × Int)) × Unit × Unit × Unit × Int × Int × Unit) × ((Int × Int × Int × Int × Int × Unit) × (Int × Int × Unit × Unit) × (Int × Int × Unit × Unit) × (List Int) × Unit)) → Option (((Unit × Unit × Unit) × ((Int × Int × Unit × Unit) × (Int × Int × Unit × Unit) × (List Int) × Unit)) ⊕ Empty)) (l_0 : (List (Int × Int))) (v31 : Int) (v32 : Int) (o0_0 : Int) (o0_1 : Int) (o0_2 : Int) (o0_3 : Int) (o0_4 : Int) (o1_0 : Int) (o1_1 : Int) (o2_0 : Int) (o2_1 : Int) (o3 : List Int) : Option (((Unit × Unit × Unit) × ((Int × Int × Unit × Unit) × (Int × Int × Unit × Unit) × (List Int) × Unit)) ⊕ Empty) :=
  (bif (decide (v32 < v31)) then
   (Option.bind (g_resample_value ((l_0, ((o0_0, (o0_1, (o0_2, (o0_3, (o0_4, ()))))), ((Go.IntKind.wrap Go.IntKind.i64 (o0_0 + (Go.IntKind.wrap Go.IntKind.i64 (v32 * o0_1)))), ()))), ())) (fun y1 =>
   (bif (!y1.1.2.1) then
    (bif (decide ((0:Int) ≤ v32)) then
     (bif (decide (v32 < (((List.length o3) : Nat) : Int))) then
      (Option.bind (L ((l_0, ((), ((), ((), (v31, ((Go.IntKind.wrap Go.IntKind.i64 (v32 + (1:Int))), ())))))), ((o0_0, (o0_1, (o0_2, (o0_3, (o0_4, ()))))), ((o1_0, (o1_1, ((), ()))), ((o2_0, (o2_1, ((), ()))), ((List.set o3 (Int.toNat v32) (1073741824:Int)), ())))))) (fun y5 =>
      (some y5)))
     else
      none)
    else
     none)
   else
    (bif (decide ((0:Int) ≤ v32)) then
     (bif (decide (v32 < (((List.length o3) : Nat) : Int))) then
      (Option.bind (L ((l_0, ((), ((), ((), (v31, ((Go.IntKind.wrap Go.IntKind.i64 (v32 + (1:Int))), ())))))), ((o0_0, (o0_1, (o0_2, (o0_3, (o0_4, ()))))), ((o1_0, (o1_1, ((), ()))), ((o2_0, (o2_1, ((), ()))), ((List.set o3 (Int.toNat v32) y1.1.1), ())))))) (fun y5 =>
      (some y5)))
     else
      none)
    else
     none))))
  else
   (some (Sum.inl (((), ((), ())), ((o1_0, (o1_1, ((), ()))), ((o2_0, (o2_1, ((), ()))), (o3, ())))))))
theorem resample_Apply.eq0 (g_resample_Valid : resample_Valid.sh.X → Option resample_Valid.osh.X) (g_resample_check : resample_check.sh.X → Option resample_check.osh.X) (g_resample_value : resample_value.sh.X → Option resample_value.osh.X) (l0 : resample_Apply.s0.X → Option (sumX resample_Apply.x0)) (L : (((List (Int × Int)) × Unit × Unit × Unit × Int × Int × Unit) × ((Int × Int × Int × Int × Int × Unit) × (Int × Int × Unit × Unit) × (Int × Int × Unit × Unit) × (List Int) × Unit)) → Option (((Unit × Unit × Unit) × ((Int × Int × Unit × Unit) × (Int × Int × Unit × Unit) × (List Int) × Unit)) ⊕ Empty)) (x : (((List (Int × Int)) × Unit × Unit × Unit × Int × Int × Unit) × ((Int × Int × Int × Int × Int × Unit) × (Int × Int × Unit × Unit) × (Int × Int × Unit × Unit) × (List Int) × Unit))) : (roundK (resample_Apply.E g_resample_Valid g_resample_check g_resample_value l0) resample_Apply.s0 [0, 3, 4, 7, 31, 32] [(2, [4, 7])] true (((mk resample_Apply.hs resample_Apply.c []).atoms.getD 0 .bad).body) resample_Apply.x0 L x).run _ some = resample_Apply.f0 g_resample_value L x.1.1 x.1.2.2.2.2.1 x.1.2.2.2.2.2.1 x.2.1.1 x.2.1.2.1 x.2.1.2.2.1 x.2.1.2.2.2.1 x.2.1.2.2.2.2.1 x.2.2.1.1 x.2.2.1.2.1 x.2.2.2.1.1 x.2.2.2.1.2.1 x.2.2.2.2.1 := by
  show _ = (_ : Option _)
  kernel_rfl
noncomputable def resample_Apply.L0 : (((List (Int × Int)) × Unit × Unit × Unit × Int × Int × Unit) × ((Int × Int × Int × Int × Int × Unit) × (Int × Int × Unit × Unit) × (Int × Int × Unit × Unit) × (List Int) × Unit)) → Option (((Unit × Unit × Unit) × ((Int × Int × Unit × Unit) × (Int × Int × Unit × Unit) × (List Int) × Unit)) ⊕ Empty) := loop fun L x => resample_Apply.f0 resample_value.F L x.1.1 x.1.2.2.2.2.1 x.1.2.2.2.2.2.1 x.2.1.1 x.2.1.2.1 x.2.1.2.2.1 x.2.1.2.2.2.1 x.2.1.2.2.2.2.1 x.2.2.1.1 x.2.2.1.2.1 x.2.2.2.1.1 x.2.2.2.1.2.1 x.2.2.2.2.1
def resample_Apply.f (g_resample_Valid : (((Int × Int × Int × Int × Int × Unit) × Unit) × (Unit)) → Option ((Bool × Unit) × (Unit))) (g_resample_check : (((List (Int × Int)) × Unit) × (Unit)) → Option ((Int × Unit) × (Unit))) (l0 : (((List (Int × Int)) × Unit × Unit × Unit × Int × Int × Unit) × ((Int × Int × Int × Int × Int × Unit) × (Int × Int × Unit × Unit) × (Int × Int × Unit × Unit) × (List Int) × Unit)) → Option (((Unit × Unit × Unit) × ((Int × Int × Unit × Unit) × (Int × Int × Unit × Unit) × (List Int) × Unit)) ⊕ Empty)) (l : (List (Int × Int))) (g_From : Int) (g_Step : Int) (g_Count : Int) (g_Rule : Int) (g_Reach : Int) : Option (((Int × Int × Unit × Unit) × Int × Unit) × ((List Int) × Unit)) :=
  (Option.bind (g_resample_Valid (((g_From, (g_Step, (g_Count, (g_Rule, (g_Reach, ()))))), ()), ())) (fun y0 =>
  (bif (!y0.1.1) then
   (some ((((0:Int), ((0:Int), ((), ()))), ((3:Int), ())), (([] : List Int), ())))
  else
   (Option.bind (g_resample_check ((l, ()), ())) (fun y2 =>
   (bif (y2.1.1 != (0:Int)) then
    (some ((((0:Int), ((0:Int), ((), ()))), (y2.1.1, ())), (([] : List Int), ())))
   else
    (bif (decide (g_Count = g_Count)) then
     (bif (decide ((0:Int) ≤ g_Count)) then
      (bif ((decide (((((8:Nat) : Nat) : Int) * g_Count) ≤ (281474976710656:Int))) && Bool.true) then
       (Option.bind (l0 ((l, ((), ((), ((), ((((List.length (List.replicate (Int.toNat g_Count) (0:Int))) : Nat) : Int), ((0:Int), ())))))), ((g_From, (g_Step, (g_Count, (g_Rule, (g_Reach, ()))))), (((0:Int), ((0:Int), ((), ()))), ((g_From, (g_Step, ((), ()))), ((List.replicate (Int.toNat g_Count) (0:Int)), ())))))) (fun y7 =>
       (Sum.elim (fun a8 =>
        (some (((a8.2.2.1.1, (a8.2.2.1.2.1, ((), ()))), ((0:Int), ())), (a8.2.2.2.1, ())))) (fun b8 =>
        (Empty.elim b8)) y7)))
      else
       none)
     else
      none)
    else
     none)))))))
theorem resample_Apply.eq (g_resample_Valid : resample_Valid.sh.X → Option resample_Valid.osh.X) (g_resample_check : resample_check.sh.X → Option resample_check.osh.X) (g_resample_value : resample_value.sh.X → Option resample_value.osh.X) (l0 : resample_Apply.s0.X → Option (sumX resample_Apply.x0)) (x : (((List (Int × Int)) × (Int × Int × Int × Int × Int × Unit) × Unit) × (Unit))) : (bodyO (resample_Apply.E g_resample_Valid g_resample_check g_resample_value l0) (mk resample_Apply.hs resample_Apply.c []) Go.Proofs.Try.f13.results.toList resample_Apply.sh resample_Apply.osh x).run _ some = resample_Apply.f g_resample_Valid g_resample_check l0 x.1.1 x.1.2.1.1 x.1.2.1.2.1 x.1.2.1.2.2.1 x.1.2.1.2.2.2.1 x.1.2.1.2.2.2.2.1 := by
  show _ = (_ : Option _)
  kernel_rfl
noncomputable def resample_Apply (l : (List (Int × Int))) (g_From : Int) (g_Step : Int) (g_Count : Int) (g_Rule : Int) (g_Reach : Int) : Option (((Int × Int × Unit × Unit) × Int × Unit) × ((List Int) × Unit)) := resample_Apply.f resample_Valid.F resample_check.F resample_Apply.L0 l g_From g_Step g_Count g_Rule g_Reach
noncomputable def resample_Apply.F (x : (((List (Int × Int)) × (Int × Int × Int × Int × Int × Unit) × Unit) × (Unit))) : Option (((Int × Int × Unit × Unit) × Int × Unit) × ((List Int) × Unit)) := resample_Apply x.1.1 x.1.2.1.1 x.1.2.1.2.1 x.1.2.1.2.2.1 x.1.2.1.2.2.2.1 x.1.2.1.2.2.2.2.1
theorem resample_Apply.L0_eq (l_0 : (List (Int × Int))) (v31 : Int) (v32 : Int) (o0_0 : Int) (o0_1 : Int) (o0_2 : Int) (o0_3 : Int) (o0_4 : Int) (o1_0 : Int) (o1_1 : Int) (o2_0 : Int) (o2_1 : Int) (o3 : List Int) : resample_Apply.L0 ((l_0, (), (), (), v31, v32, ()), ((o0_0, o0_1, o0_2, o0_3, o0_4, ()), (o1_0, o1_1, (), ()), (o2_0, o2_1, (), ()), o3, ())) = resample_Apply.f0 resample_value.F resample_Apply.L0 l_0 v31 v32 o0_0 o0_1 o0_2 o0_3 o0_4 o1_0 o1_1 o2_0 o2_1 o3 :=
  loop_eq (E := (resample_Apply.E resample_Valid.F resample_check.F resample_value.F resample_Apply.L0)) (sh := resample_Apply.s0) (es := resample_Apply.x0) (lp := true) (H := fun L x => resample_Apply.eq0 resample_Valid.F resample_check.F resample_value.F resample_Apply.L0 L x) ((l_0, (), (), (), v31, v32, ()), ((o0_0, o0_1, o0_2, o0_3, o0_4, ()), (o1_0, o1_1, (), ()), (o2_0, o2_1, (), ()), o3, ()))
theorem resample_Apply.F_eq (l : (List (Int × Int))) (g_From : Int) (g_Step : Int) (g_Count : Int) (g_Rule : Int) (g_Reach : Int) : resample_Apply.F ((l, (g_From, g_Step, g_Count, g_Rule, g_Reach, ()), ()), ()) = resample_Apply.f resample_Valid.F resample_check.F resample_Apply.L0 l g_From g_Step g_Count g_Rule g_Reach := rfl
theorem resample_Apply.ok : FOK Go.Proofs.Try.prog [] 13 (FE.of [true, true] false resample_Apply.sh resample_Apply.osh resample_Apply.F) := by
  refine fn_keeps (E := (resample_Apply.E resample_Valid.F resample_check.F resample_value.F resample_Apply.L0)) (c := resample_Apply.c) (fn := Go.Proofs.Try.f13) (hs := resample_Apply.hs) (by kernel_rfl) Go.Proofs.Try.func13 ⟨by kernel_rfl, by kernel_rfl, tb, by kernel_rfl, by kernel_rfl, by kernel_rfl, by kernel_rfl, by kernel_rfl⟩ (fun g fe h => ?_) ?_ (fun x => resample_Apply.eq resample_Valid.F resample_check.F resample_value.F resample_Apply.L0 x)
  · rcases c_cons h with ⟨rfl, rfl⟩ | h
    · exact resample_Valid.ok
    rcases c_cons h with ⟨rfl, rfl⟩ | h
    · exact resample_check.ok
    rcases c_cons h with ⟨rfl, rfl⟩ | h
    · exact resample_value.ok
    cases h
  · refine known_at 1 (by kernel_rfl) fun i hi => ?_
    match i, hi with
    | 0, _ => exact atom_at (id := 0) (live := [0, 3, 4, 7, 31, 32]) (outs := [(2, [4, 7])]) (loop := true) (by kernel_rfl) (loop_ok (E := (resample_Apply.E resample_Valid.F resample_check.F resample_value.F resample_Apply.L0)) (sh := resample_Apply.s0) (es := resample_Apply.x0) rfl (fun L x => resample_Apply.eq0 resample_Valid.F resample_check.F resample_value.F resample_Apply.L0 L x))
    | n + 1, h => exact absurd h (by omega)

/-! resample_At -/
def resample_At.f0 (g_resample_check : (((List (Int × Int)) × Unit) × (Unit)) → Option ((Int × Unit) × (Unit))) (g_resample_Valid : (((Int × Int × Int × Int × Int × Unit) × Unit) × (Unit)) → Option ((Bool × Unit) × (Unit))) (l_0 : (List (Int × Int))) (time_2 : Int) (o0_0 : Int) (o0_1 : Int) (o0_2 : Int) (o0_3 : Int) (o0_4 : Int) : Option ((((List (Int × Int)) × Int × Unit × Bool × Unit) × ((Int × Int × Int × Int × Int × Unit) × Unit)) ⊕ Empty) :=
  (Option.bind (g_resample_check ((l_0, ()), ())) (fun y0 =>
  (bif (y0.1.1 != (0:Int)) then
   (some (Sum.inl ((l_0, (time_2, ((), (Bool.true, ())))), ((o0_0, (o0_1, (o0_2, (o0_3, (o0_4, ()))))), ()))))
  else
   (Option.bind (g_resample_Valid (((o0_0, (o0_1, (o0_2, (o0_3, (o0_4, ()))))), ()), ())) (fun y2 =>
   (bif (!y2.1.1) then
    (some (Sum.inl ((l_0, (time_2, ((), (Bool.true, ())))), ((o0_0, (o0_1, (o0_2, (o0_3, (o0_4, ()))))), ()))))
   else
    (bif (decide (time_2 < (0:Int))) then
     (some (Sum.inl ((l_0, (time_2, ((), (Bool.true, ())))), ((o0_0, (o0_1, (o0_2, (o0_3, (o0_4, ()))))), ()))))
    else
     (some (Sum.inl ((l_0, (time_2, ((), ((decide (time_2 > (1099511627776:Int))), ())))), ((o0_0, (o0_1, (o0_2, (o0_3, (o0_4, ()))))), ())))))))))))
theorem resample_At.eq0 (g_resample_check : resample_check.sh.X → Option resample_check.osh.X) (g_resample_Valid : resample_Valid.sh.X → Option resample_Valid.osh.X) (g_resample_value : resample_value.sh.X → Option resample_value.osh.X) (l0 : resample_At.s0.X → Option (sumX resample_At.x0)) (L : (((List (Int × Int)) × Int × Unit × Unit) × ((Int × Int × Int × Int × Int × Unit) × Unit)) → Option ((((List (Int × Int)) × Int × Unit × Bool × Unit) × ((Int × Int × Int × Int × Int × Unit) × Unit)) ⊕ Empty)) (x : (((List (Int × Int)) × Int × Unit × Unit) × ((Int × Int × Int × Int × Int × Unit) × Unit))) : (roundK (resample_At.E g_resample_check g_resample_Valid g_resample_value l0) resample_At.s0 [0, 2, 4] [(0, [0, 2, 4, 23])] false (((mk resample_At.hs resample_At.c []).atoms.getD 0 .bad).body) resample_At.x0 L x).run _ some = resample_At.f0 g_resample_check g_resample_Valid x.1.1 x.1.2.1 x.2.1.1 x.2.1.2.1 x.2.1.2.2.1 x.2.1.2.2.2.1 x.2.1.2.2.2.2.1 := by
  show _ = (_ : Option _)
  kernel_rfl
noncomputable def resample_At.L0 : (((List (Int × Int)) × Int × Unit × Unit) × ((Int × Int × Int × Int × Int × Unit) × Unit)) → Option ((((List (Int × Int)) × Int × Unit × Bool × Unit) × ((Int × Int × Int × Int × Int × Unit) × Unit)) ⊕ Empty) := fun x => resample_At.f0 resample_check.F resample_Valid.F x.1.1 x.1.2.1 x.2.1.1 x.2.1.2.1 x.2.1.2.2.1 x.2.1.2.2.2.1 x.2.1.2.2.2.2.1
def resample_At.f (g_resample_value : (((List (Int × Int)) × (Int × Int × Int × Int × Int × Unit) × Int × Unit) × (Unit)) → Option ((Int × Bool × Unit) × (Unit))) (l0 : (((List (Int × Int)) × Int × Unit × Unit) × ((Int × Int × Int × Int × Int × Unit) × Unit)) → Option ((((List (Int × Int)) × Int × Unit × Bool × Unit) × ((Int × Int × Int × Int × Int × Unit) × Unit)) ⊕ Empty)) (l : (List (Int × Int))) (g_From : Int) (g_Step : Int) (g_Count : Int) (g_Rule : Int) (g_Reach : Int) (time : Int) : Option ((Int × Bool × Unit) × (Unit)) :=
  (Option.bind (l0 ((l, (time, ((), ()))), ((g_From, (g_Step, (g_Count, (g_Rule, (g_Reach, ()))))), ()))) (fun y0 =>
  (Sum.elim (fun a1 =>
   (bif a1.1.2.2.2.1 then
    (some (((0:Int), (Bool.false, ())), ()))
   else
    (Option.bind (g_resample_value ((a1.1.1, ((a1.2.1.1, (a1.2.1.2.1, (a1.2.1.2.2.1, (a1.2.1.2.2.2.1, (a1.2.1.2.2.2.2.1, ()))))), (a1.1.2.1, ()))), ())) (fun y3 =>
    (some ((y3.1.1, (y3.1.2.1, ())), ())))))) (fun b1 =>
   (Empty.elim b1)) y0)))
theorem resample_At.eq (g_resample_check : resample_check.sh.X → Option resample_check.osh.X) (g_resample_Valid : resample_Valid.sh.X → Option resample_Valid.osh.X) (g_resample_value : resample_value.sh.X → Option resample_value.osh.X) (l0 : resample_At.s0.X → Option (sumX resample_At.x0)) (x : (((List (Int × Int)) × (Int × Int × Int × Int × Int × Unit) × Int × Unit) × (Unit))) : (bodyO (resample_At.E g_resample_check g_resample_Valid g_resample_value l0) (mk resample_At.hs resample_At.c []) Go.Proofs.Try.f23.results.toList resample_At.sh resample_At.osh x).run _ some = resample_At.f g_resample_value l0 x.1.1 x.1.2.1.1 x.1.2.1.2.1 x.1.2.1.2.2.1 x.1.2.1.2.2.2.1 x.1.2.1.2.2.2.2.1 x.1.2.2.1 := by
  show _ = (_ : Option _)
  kernel_rfl
noncomputable def resample_At (l : (List (Int × Int))) (g_From : Int) (g_Step : Int) (g_Count : Int) (g_Rule : Int) (g_Reach : Int) (time : Int) : Option ((Int × Bool × Unit) × (Unit)) := resample_At.f resample_value.F resample_At.L0 l g_From g_Step g_Count g_Rule g_Reach time
noncomputable def resample_At.F (x : (((List (Int × Int)) × (Int × Int × Int × Int × Int × Unit) × Int × Unit) × (Unit))) : Option ((Int × Bool × Unit) × (Unit)) := resample_At x.1.1 x.1.2.1.1 x.1.2.1.2.1 x.1.2.1.2.2.1 x.1.2.1.2.2.2.1 x.1.2.1.2.2.2.2.1 x.1.2.2.1
theorem resample_At.L0_eq (l_0 : (List (Int × Int))) (time_2 : Int) (o0_0 : Int) (o0_1 : Int) (o0_2 : Int) (o0_3 : Int) (o0_4 : Int) : resample_At.L0 ((l_0, time_2, (), ()), ((o0_0, o0_1, o0_2, o0_3, o0_4, ()), ())) = resample_At.f0 resample_check.F resample_Valid.F l_0 time_2 o0_0 o0_1 o0_2 o0_3 o0_4 := rfl
theorem resample_At.F_eq (l : (List (Int × Int))) (g_From : Int) (g_Step : Int) (g_Count : Int) (g_Rule : Int) (g_Reach : Int) (time : Int) : resample_At.F ((l, (g_From, g_Step, g_Count, g_Rule, g_Reach, ()), time, ()), ()) = resample_At.f resample_value.F resample_At.L0 l g_From g_Step g_Count g_Rule g_Reach time := rfl
theorem resample_At.ok : FOK Go.Proofs.Try.prog [] 23 (FE.of [true, true, true] false resample_At.sh resample_At.osh resample_At.F) := by
  refine fn_keeps (E := (resample_At.E resample_check.F resample_Valid.F resample_value.F resample_At.L0)) (c := resample_At.c) (fn := Go.Proofs.Try.f23) (hs := resample_At.hs) (by kernel_rfl) Go.Proofs.Try.func23 ⟨by kernel_rfl, by kernel_rfl, tb, by kernel_rfl, by kernel_rfl, by kernel_rfl, by kernel_rfl, by kernel_rfl⟩ (fun g fe h => ?_) ?_ (fun x => resample_At.eq resample_check.F resample_Valid.F resample_value.F resample_At.L0 x)
  · rcases c_cons h with ⟨rfl, rfl⟩ | h
    · exact resample_check.ok
    rcases c_cons h with ⟨rfl, rfl⟩ | h
    · exact resample_Valid.ok
    rcases c_cons h with ⟨rfl, rfl⟩ | h
    · exact resample_value.ok
    cases h
  · refine known_at 1 (by kernel_rfl) fun i hi => ?_
    match i, hi with
    | 0, _ => exact atom_at (id := 0) (live := [0, 2, 4]) (outs := [(0, [0, 2, 4, 23])]) (loop := false) (by kernel_rfl) (cut_ok (E := (resample_At.E resample_check.F resample_Valid.F resample_value.F resample_At.L0)) (sh := resample_At.s0) (es := resample_At.x0) rfl (fun L x => resample_At.eq0 resample_check.F resample_Valid.F resample_value.F resample_At.L0 L x))
    | n + 1, h => exact absurd h (by omega)

/-! keep_Ints -/
def keep_Ints.f0 (L : (((List Int) × (List Int) × Int × Int × Unit) × (Unit)) → Option (((Unit) × (Unit)) ⊕ ((Bool × Unit) × (Unit)) ⊕ Empty)) (a_0 : (List Int)) (b_1 : (List Int)) (v12 : Int) (v13 : Int) : Option (((Unit) × (Unit)) ⊕ ((Bool × Unit) × (Unit)) ⊕ Empty) :=
  (bif (decide (v13 < v12)) then
   (bif (decide ((0:Int) ≤ v13)) then
    (bif (decide (v13 < (((List.length a_0) : Nat) : Int))) then
     (bif (decide ((0:Int) ≤ v13)) then
      (bif (decide (v13 < (((List.length b_1) : Nat) : Int))) then
       (bif ((List.getD a_0 (Int.toNat v13) (0:Int)) != (List.getD b_1 (Int.toNat v13) (0:Int))) then
        (some (Sum.inr (Sum.inl ((Bool.false, ()), ()))))
       else
        (Option.bind (L ((a_0, (b_1, (v12, ((Go.IntKind.wrap Go.IntKind.i64 (v13 + (1:Int))), ())))), ())) (fun y6 =>
        (some y6))))
      else
       none)
     else
      none)
    else
     none)
   else
    none)
  else
   (some (Sum.inl ((), ()))))
theorem keep_Ints.eq0 (l0 : keep_Ints.s0.X → Option (sumX keep_Ints.x0)) (L : (((List Int) × (List Int) × Int × Int × Unit) × (Unit)) → Option (((Unit) × (Unit)) ⊕ ((Bool × Unit) × (Unit)) ⊕ Empty)) (x : (((List Int) × (List Int) × Int × Int × Unit) × (Unit))) : (roundK (keep_Ints.E l0) keep_Ints.s0 [0, 1, 12, 13] [(2, []), (1, [4])] true (((mk keep_Ints.hs keep_Ints.c []).atoms.getD 0 .bad).body) keep_Ints.x0 L x).run _ some = keep_Ints.f0 L x.1.1 x.1.2.1 x.1.2.2.1 x.1.2.2.2.1 := by
  show _ = (_ : Option _)
  kernel_rfl
noncomputable def keep_Ints.L0 : (((List Int) × (List Int) × Int × Int × Unit) × (Unit)) → Option (((Unit) × (Unit)) ⊕ ((Bool × Unit) × (Unit)) ⊕ Empty) := loop fun L x => keep_Ints.f0 L x.1.1 x.1.2.1 x.1.2.2.1 x.1.2.2.2.1
def keep_Ints.f (l0 : (((List Int) × (List Int) × Int × Int × Unit) × (Unit)) → Option (((Unit) × (Unit)) ⊕ ((Bool × Unit) × (Unit)) ⊕ Empty)) (a : (List Int)) (b : (List Int)) : Option ((Bool × Unit) × (Unit)) :=
  (bif ((((List.length a) : Nat) : Int) != (((List.length b) : Nat) : Int)) then
   (some ((Bool.false, ()), ()))
  else
   (Option.bind (l0 ((a, (b, ((((List.length a) : Nat) : Int), ((0:Int), ())))), ())) (fun y1 =>
   (Sum.elim (fun a2 =>
    (some ((Bool.true, ()), ()))) (fun b2 =>
    (Sum.elim (fun a3 =>
     (some ((a3.1.1, ()), ()))) (fun b3 =>
     (Empty.elim b3)) b2)) y1))))
theorem keep_Ints.eq (l0 : keep_Ints.s0.X → Option (sumX keep_Ints.x0)) (x : (((List Int) × (List Int) × Unit) × (Unit))) : (bodyO (keep_Ints.E l0) (mk keep_Ints.hs keep_Ints.c []) Go.Proofs.Try.f14.results.toList keep_Ints.sh keep_Ints.osh x).run _ some = keep_Ints.f l0 x.1.1 x.1.2.1 := by
  show _ = (_ : Option _)
  kernel_rfl
noncomputable def keep_Ints (a : (List Int)) (b : (List Int)) : Option ((Bool × Unit) × (Unit)) := keep_Ints.f keep_Ints.L0 a b
noncomputable def keep_Ints.F (x : (((List Int) × (List Int) × Unit) × (Unit))) : Option ((Bool × Unit) × (Unit)) := keep_Ints x.1.1 x.1.2.1
theorem keep_Ints.L0_eq (a_0 : (List Int)) (b_1 : (List Int)) (v12 : Int) (v13 : Int) : keep_Ints.L0 ((a_0, b_1, v12, v13, ()), ()) = keep_Ints.f0 keep_Ints.L0 a_0 b_1 v12 v13 :=
  loop_eq (E := (keep_Ints.E keep_Ints.L0)) (sh := keep_Ints.s0) (es := keep_Ints.x0) (lp := true) (H := fun L x => keep_Ints.eq0 keep_Ints.L0 L x) ((a_0, b_1, v12, v13, ()), ())
theorem keep_Ints.F_eq (a : (List Int)) (b : (List Int)) : keep_Ints.F ((a, b, ()), ()) = keep_Ints.f keep_Ints.L0 a b := rfl
theorem keep_Ints.ok : FOK Go.Proofs.Try.prog [] 14 (FE.of [true, true] false keep_Ints.sh keep_Ints.osh keep_Ints.F) := by
  refine fn_keeps (E := (keep_Ints.E keep_Ints.L0)) (c := keep_Ints.c) (fn := Go.Proofs.Try.f14) (hs := keep_Ints.hs) (by kernel_rfl) Go.Proofs.Try.func14 ⟨by kernel_rfl, by kernel_rfl, tb, by kernel_rfl, by kernel_rfl, by kernel_rfl, by kernel_rfl, by kernel_rfl⟩ (fun g fe h => ?_) ?_ (fun x => keep_Ints.eq keep_Ints.L0 x)
  · cases h
  · refine known_at 1 (by kernel_rfl) fun i hi => ?_
    match i, hi with
    | 0, _ => exact atom_at (id := 0) (live := [0, 1, 12, 13]) (outs := [(2, []), (1, [4])]) (loop := true) (by kernel_rfl) (loop_ok (E := (keep_Ints.E keep_Ints.L0)) (sh := keep_Ints.s0) (es := keep_Ints.x0) rfl (fun L x => keep_Ints.eq0 keep_Ints.L0 L x))
    | n + 1, h => exact absurd h (by omega)

/-! law08_two -/
def law08_two.f : Option ((Unit × Unit) × ((List (Int × Int)) × Unit)) :=
  (some (((), ()), ([((10:Int), (0:Int)), ((20:Int), (5:Int))], ())))
theorem law08_two.eq (x : ((Unit) × (Unit))) : (bodyO (law08_two.E) (mk law08_two.hs law08_two.c []) Go.Proofs.Try.f27.results.toList law08_two.sh law08_two.osh x).run _ some = law08_two.f := by
  show _ = (_ : Option _)
  kernel_rfl
noncomputable def law08_two : Option ((Unit × Unit) × ((List (Int × Int)) × Unit)) := law08_two.f
noncomputable def law08_two.F (x : ((Unit) × (Unit))) : Option ((Unit × Unit) × ((List (Int × Int)) × Unit)) := law08_two
theorem law08_two.F_eq : law08_two.F ((), ()) = law08_two.f := rfl
theorem law08_two.ok : FOK Go.Proofs.Try.prog [] 27 (FE.of [] false law08_two.sh law08_two.osh law08_two.F) := by
  refine fn_keeps (E := (law08_two.E)) (c := law08_two.c) (fn := Go.Proofs.Try.f27) (hs := law08_two.hs) (by kernel_rfl) Go.Proofs.Try.func27 ⟨by kernel_rfl, by kernel_rfl, tb, by kernel_rfl, by kernel_rfl, by kernel_rfl, by kernel_rfl, by kernel_rfl⟩ (fun g fe h => ?_) ?_ (fun x => law08_two.eq x)
  · cases h
  · exact known_at 0 (by kernel_rfl) fun i hi => absurd hi (Nat.not_lt_zero i)

/-! law08_awake -/
def law08_awake.f (g_law08_two : ((Unit) × (Unit)) → Option ((Unit × Unit) × ((List (Int × Int)) × Unit))) (g_resample_Apply : (((List (Int × Int)) × (Int × Int × Int × Int × Int × Unit) × Unit) × (Unit)) → Option (((Int × Int × Unit × Unit) × Int × Unit) × ((List Int) × Unit))) (g_keep_Ints : (((List Int) × (List Int) × Unit) × (Unit)) → Option ((Bool × Unit) × (Unit))) : Option ((Bool × Unit) × (Unit)) :=
  (Option.bind (g_law08_two ((), ())) (fun y0 =>
  (Option.bind (g_resample_Apply ((y0.2.1, (((9:Int), ((2:Int), ((7:Int), ((3:Int), ((9:Int), ()))))), ())), ())) (fun y1 =>
  (bif (y1.1.2.1 == (0:Int)) then
   (bif (y1.1.1.1 == (9:Int)) then
    (bif (y1.1.1.2.1 == (2:Int)) then
     (Option.bind (g_keep_Ints ((y1.2.1, ([(1073741824:Int), (1:Int), (2:Int), (3:Int), (4:Int), (5:Int), (1073741824:Int)], ())), ())) (fun y5 =>
     (some ((y5.1.1, ()), ()))))
    else
     (some ((Bool.false, ()), ())))
   else
    (some ((Bool.false, ()), ())))
  else
   (some ((Bool.false, ()), ())))))))
theorem law08_awake.eq (g_law08_two : law08_two.sh.X → Option law08_two.osh.X) (g_resample_Apply : resample_Apply.sh.X → Option resample_Apply.osh.X) (g_keep_Ints : keep_Ints.sh.X → Option keep_Ints.osh.X) (x : ((Unit) × (Unit))) : (bodyO (law08_awake.E g_law08_two g_resample_Apply g_keep_Ints) (mk law08_awake.hs law08_awake.c []) Go.Proofs.Try.f11.results.toList law08_awake.sh law08_awake.osh x).run _ some = law08_awake.f g_law08_two g_resample_Apply g_keep_Ints := by
  show _ = (_ : Option _)
  kernel_rfl
noncomputable def law08_awake : Option ((Bool × Unit) × (Unit)) := law08_awake.f law08_two.F resample_Apply.F keep_Ints.F
noncomputable def law08_awake.F (x : ((Unit) × (Unit))) : Option ((Bool × Unit) × (Unit)) := law08_awake
theorem law08_awake.F_eq : law08_awake.F ((), ()) = law08_awake.f law08_two.F resample_Apply.F keep_Ints.F := rfl
theorem law08_awake.ok : FOK Go.Proofs.Try.prog [] 11 (FE.of [] false law08_awake.sh law08_awake.osh law08_awake.F) := by
  refine fn_keeps (E := (law08_awake.E law08_two.F resample_Apply.F keep_Ints.F)) (c := law08_awake.c) (fn := Go.Proofs.Try.f11) (hs := law08_awake.hs) (by kernel_rfl) Go.Proofs.Try.func11 ⟨by kernel_rfl, by kernel_rfl, tb, by kernel_rfl, by kernel_rfl, by kernel_rfl, by kernel_rfl, by kernel_rfl⟩ (fun g fe h => ?_) ?_ (fun x => law08_awake.eq law08_two.F resample_Apply.F keep_Ints.F x)
  · rcases c_cons h with ⟨rfl, rfl⟩ | h
    · exact law08_two.ok
    rcases c_cons h with ⟨rfl, rfl⟩ | h
    · exact resample_Apply.ok
    rcases c_cons h with ⟨rfl, rfl⟩ | h
    · exact keep_Ints.ok
    cases h
  · exact known_at 0 (by kernel_rfl) fun i hi => absurd hi (Nat.not_lt_zero i)
end Go.Proofs.Ytknkiogjibpooab.V
