import Derived.Test.YtknkiogjibpooabVg1
set_option linter.unusedVariables false
set_option maxRecDepth 100000
namespace Go.Proofs.Ytknkiogjibpooab.V
open Go.VI
/-! law08_ResampleSeries -/
def law08_ResampleSeries.f0 (from_1 : Int) (count_2 : Int) (x_8 : (List (Int × Int))) (e_11 : Int) (o0_0 : Int) (o0_1 : Int) (o0_2 : Int) (o0_3 : Int) (o0_4 : Int) (o1_0 : Int) (o1_1 : Int) (o2 : List Int) : Option (((Int × Int × (List (Int × Int)) × Unit × Unit × Bool × Unit) × ((Int × Int × Int × Int × Int × Unit) × (Int × Int × Unit × Unit) × (List Int) × Unit)) ⊕ Empty) :=
  (bif (e_11 != (0:Int)) then
   (some (Sum.inl ((from_1, (count_2, (x_8, ((), ((), (Bool.true, ())))))), ((o0_0, (o0_1, (o0_2, (o0_3, (o0_4, ()))))), ((o1_0, (o1_1, ((), ()))), (o2, ()))))))
  else
   (bif ((((List.length o2) : Nat) : Int) != o0_2) then
    (some (Sum.inl ((from_1, (count_2, (x_8, ((), ((), (Bool.true, ())))))), ((o0_0, (o0_1, (o0_2, (o0_3, (o0_4, ()))))), ((o1_0, (o1_1, ((), ()))), (o2, ()))))))
   else
    (bif (o1_0 != o0_0) then
     (some (Sum.inl ((from_1, (count_2, (x_8, ((), ((), (Bool.true, ())))))), ((o0_0, (o0_1, (o0_2, (o0_3, (o0_4, ()))))), ((o1_0, (o1_1, ((), ()))), (o2, ()))))))
    else
     (some (Sum.inl ((from_1, (count_2, (x_8, ((), ((), ((o1_1 != o0_1), ())))))), ((o0_0, (o0_1, (o0_2, (o0_3, (o0_4, ()))))), ((o1_0, (o1_1, ((), ()))), (o2, ())))))))))
theorem law08_ResampleSeries.eq0 (g_keep_New : keep_New.sh.X → Option keep_New.osh.X) (g_keep_Src_Ascending : keep_Src_Ascending.sh.X → Option keep_Src_Ascending.osh.X) (g_keep_Src_Grid : keep_Src_Grid.sh.X → Option keep_Src_Grid.osh.X) (g_resample_Apply : resample_Apply.sh.X → Option resample_Apply.osh.X) (g_resample_At : resample_At.sh.X → Option resample_At.osh.X) (g_keep_Mod : keep_Mod.sh.X → Option keep_Mod.osh.X) (g_keep_Ints : keep_Ints.sh.X → Option keep_Ints.osh.X) (g_law08_awake : law08_awake.sh.X → Option law08_awake.osh.X) (l0 : law08_ResampleSeries.s0.X → Option (sumX law08_ResampleSeries.x0)) (l1 : law08_ResampleSeries.s1.X → Option (sumX law08_ResampleSeries.x1)) (l2 : law08_ResampleSeries.s2.X → Option (sumX law08_ResampleSeries.x2)) (L : ((Int × Int × (List (Int × Int)) × Unit × Unit × Int × Unit) × ((Int × Int × Int × Int × Int × Unit) × (Int × Int × Unit × Unit) × (List Int) × Unit)) → Option (((Int × Int × (List (Int × Int)) × Unit × Unit × Bool × Unit) × ((Int × Int × Int × Int × Int × Unit) × (Int × Int × Unit × Unit) × (List Int) × Unit)) ⊕ Empty)) (x : ((Int × Int × (List (Int × Int)) × Unit × Unit × Int × Unit) × ((Int × Int × Int × Int × Int × Unit) × (Int × Int × Unit × Unit) × (List Int) × Unit))) : (roundK (law08_ResampleSeries.E g_keep_New g_keep_Src_Ascending g_keep_Src_Grid g_resample_Apply g_resample_At g_keep_Mod g_keep_Ints g_law08_awake l0 l1 l2) law08_ResampleSeries.s0 [1, 2, 8, 9, 10, 11] [(0, [1, 2, 8, 9, 10, 56])] false (((mk law08_ResampleSeries.hs law08_ResampleSeries.c []).atoms.getD 0 .bad).body) law08_ResampleSeries.x0 L x).run _ some = law08_ResampleSeries.f0 x.1.1 x.1.2.1 x.1.2.2.1 x.1.2.2.2.2.2.1 x.2.1.1 x.2.1.2.1 x.2.1.2.2.1 x.2.1.2.2.2.1 x.2.1.2.2.2.2.1 x.2.2.1.1 x.2.2.1.2.1 x.2.2.2.1 := by
  show _ = (_ : Option _)
  kernel_rfl
noncomputable def law08_ResampleSeries.L0 : ((Int × Int × (List (Int × Int)) × Unit × Unit × Int × Unit) × ((Int × Int × Int × Int × Int × Unit) × (Int × Int × Unit × Unit) × (List Int) × Unit)) → Option (((Int × Int × (List (Int × Int)) × Unit × Unit × Bool × Unit) × ((Int × Int × Int × Int × Int × Unit) × (Int × Int × Unit × Unit) × (List Int) × Unit)) ⊕ Empty) := fun x => law08_ResampleSeries.f0 x.1.1 x.1.2.1 x.1.2.2.1 x.1.2.2.2.2.2.1 x.2.1.1 x.2.1.2.1 x.2.1.2.2.1 x.2.1.2.2.2.1 x.2.1.2.2.2.2.1 x.2.2.1.1 x.2.2.1.2.1 x.2.2.2.1
def law08_ResampleSeries.f2 (from_1 : Int) (count_2 : Int) (x_8 : (List (Int × Int))) (i_12 : Int) (v_13 : Int) (ok_14 : Bool) (v59 : Int) (v60 : Int) (o0_0 : Int) (o0_1 : Int) (o0_2 : Int) (o0_3 : Int) (o0_4 : Int) (o1_0 : Int) (o1_1 : Int) (o2 : List Int) : Option (((Int × Int × (List (Int × Int)) × Unit × Unit × Int × Int × Bool × Unit) × ((Int × Int × Int × Int × Int × Unit) × (Int × Int × Unit × Unit) × (List Int) × Unit)) ⊕ Empty) :=
  (bif (!ok_14) then
   (bif (decide ((0:Int) ≤ i_12)) then
    (bif (decide (i_12 < (((List.length o2) : Nat) : Int))) then
     (bif ((List.getD o2 (Int.toNat i_12) (0:Int)) != (1073741824:Int)) then
      (some (Sum.inl ((from_1, (count_2, (x_8, ((), ((), (v59, (v60, (Bool.true, ())))))))), ((o0_0, (o0_1, (o0_2, (o0_3, (o0_4, ()))))), ((o1_0, (o1_1, ((), ()))), (o2, ()))))))
     else
      (bif ok_14 then
       (bif (decide ((0:Int) ≤ i_12)) then
        (bif (decide (i_12 < (((List.length o2) : Nat) : Int))) then
         (some (Sum.inl ((from_1, (count_2, (x_8, ((), ((), (v59, (v60, (((List.getD o2 (Int.toNat i_12) (0:Int)) != v_13), ())))))))), ((o0_0, (o0_1, (o0_2, (o0_3, (o0_4, ()))))), ((o1_0, (o1_1, ((), ()))), (o2, ()))))))
        else
         none)
       else
        none)
      else
       (some (Sum.inl ((from_1, (count_2, (x_8, ((), ((), (v59, (v60, (Bool.false, ())))))))), ((o0_0, (o0_1, (o0_2, (o0_3, (o0_4, ()))))), ((o1_0, (o1_1, ((), ()))), (o2, ()))))))))
    else
     none)
   else
    none)
  else
   (bif ok_14 then
    (bif (decide ((0:Int) ≤ i_12)) then
     (bif (decide (i_12 < (((List.length o2) : Nat) : Int))) then
      (some (Sum.inl ((from_1, (count_2, (x_8, ((), ((), (v59, (v60, (((List.getD o2 (Int.toNat i_12) (0:Int)) != v_13), ())))))))), ((o0_0, (o0_1, (o0_2, (o0_3, (o0_4, ()))))), ((o1_0, (o1_1, ((), ()))), (o2, ()))))))
     else
      none)
    else
     none)
   else
    (some (Sum.inl ((from_1, (count_2, (x_8, ((), ((), (v59, (v60, (Bool.false, ())))))))), ((o0_0, (o0_1, (o0_2, (o0_3, (o0_4, ()))))), ((o1_0, (o1_1, ((), ()))), (o2, ()))))))))
theorem law08_ResampleSeries.eq2 (g_keep_New : keep_New.sh.X → Option keep_New.osh.X) (g_keep_Src_Ascending : keep_Src_Ascending.sh.X → Option keep_Src_Ascending.osh.X) (g_keep_Src_Grid : keep_Src_Grid.sh.X → Option keep_Src_Grid.osh.X) (g_resample_Apply : resample_Apply.sh.X → Option resample_Apply.osh.X) (g_resample_At : resample_At.sh.X → Option resample_At.osh.X) (g_keep_Mod : keep_Mod.sh.X → Option keep_Mod.osh.X) (g_keep_Ints : keep_Ints.sh.X → Option keep_Ints.osh.X) (g_law08_awake : law08_awake.sh.X → Option law08_awake.osh.X) (l0 : law08_ResampleSeries.s0.X → Option (sumX law08_ResampleSeries.x0)) (l1 : law08_ResampleSeries.s1.X → Option (sumX law08_ResampleSeries.x1)) (l2 : law08_ResampleSeries.s2.X → Option (sumX law08_ResampleSeries.x2)) (L : ((Int × Int × (List (Int × Int)) × Unit × Unit × Int × Int × Bool × Int × Int × Unit) × ((Int × Int × Int × Int × Int × Unit) × (Int × Int × Unit × Unit) × (List Int) × Unit)) → Option (((Int × Int × (List (Int × Int)) × Unit × Unit × Int × Int × Bool × Unit) × ((Int × Int × Int × Int × Int × Unit) × (Int × Int × Unit × Unit) × (List Int) × Unit)) ⊕ Empty)) (x : ((Int × Int × (List (Int × Int)) × Unit × Unit × Int × Int × Bool × Int × Int × Unit) × ((Int × Int × Int × Int × Int × Unit) × (Int × Int × Unit × Unit) × (List Int) × Unit))) : (roundK (law08_ResampleSeries.E g_keep_New g_keep_Src_Ascending g_keep_Src_Grid g_resample_Apply g_resample_At g_keep_Mod g_keep_Ints g_law08_awake l0 l1 l2) law08_ResampleSeries.s2 [1, 2, 8, 9, 10, 12, 13, 14, 59, 60] [(0, [1, 2, 8, 9, 10, 59, 60, 97])] false (((mk law08_ResampleSeries.hs law08_ResampleSeries.c []).atoms.getD 2 .bad).body) law08_ResampleSeries.x2 L x).run _ some = law08_ResampleSeries.f2 x.1.1 x.1.2.1 x.1.2.2.1 x.1.2.2.2.2.2.1 x.1.2.2.2.2.2.2.1 x.1.2.2.2.2.2.2.2.1 x.1.2.2.2.2.2.2.2.2.1 x.1.2.2.2.2.2.2.2.2.2.1 x.2.1.1 x.2.1.2.1 x.2.1.2.2.1 x.2.1.2.2.2.1 x.2.1.2.2.2.2.1 x.2.2.1.1 x.2.2.1.2.1 x.2.2.2.1 := by
  show _ = (_ : Option _)
  kernel_rfl
noncomputable def law08_ResampleSeries.L2 : ((Int × Int × (List (Int × Int)) × Unit × Unit × Int × Int × Bool × Int × Int × Unit) × ((Int × Int × Int × Int × Int × Unit) × (Int × Int × Unit × Unit) × (List Int) × Unit)) → Option (((Int × Int × (List (Int × Int)) × Unit × Unit × Int × Int × Bool × Unit) × ((Int × Int × Int × Int × Int × Unit) × (Int × Int × Unit × Unit) × (List Int) × Unit)) ⊕ Empty) := fun x => law08_ResampleSeries.f2 x.1.1 x.1.2.1 x.1.2.2.1 x.1.2.2.2.2.2.1 x.1.2.2.2.2.2.2.1 x.1.2.2.2.2.2.2.2.1 x.1.2.2.2.2.2.2.2.2.1 x.1.2.2.2.2.2.2.2.2.2.1 x.2.1.1 x.2.1.2.1 x.2.1.2.2.1 x.2.1.2.2.2.1 x.2.1.2.2.2.2.1 x.2.2.1.1 x.2.2.1.2.1 x.2.2.2.1
def law08_ResampleSeries.f1 (g_resample_At : (((List (Int × Int)) × (Int × Int × Int × Int × Int × Unit) × Int × Unit) × (Unit)) → Option ((Int × Bool × Unit) × (Unit))) (l2 : ((Int × Int × (List (Int × Int)) × Unit × Unit × Int × Int × Bool × Int × Int × Unit) × ((Int × Int × Int × Int × Int × Unit) × (Int × Int × Unit × Unit) × (List Int) × Unit)) → Option (((Int × Int × (List (Int × Int)) × Unit × Unit × Int × Int × Bool × Unit) × ((Int × Int × Int × Int × Int × Unit) × (Int × Int × Unit × Unit) × (List Int) × Unit)) ⊕ Empty)) (L : ((Int × Int × (List (Int × Int)) × Unit × Unit × Int × Int × Unit) × ((Int × Int × Int × Int × Int × Unit) × (Int × Int × Unit × Unit) × (List Int) × Unit)) → Option (((Int × Int × (List (Int × Int)) × Unit × Unit × Unit) × ((Int × Int × Int × Int × Int × Unit) × (Int × Int × Unit × Unit) × (List Int) × Unit)) ⊕ ((Bool × Unit) × (Unit)) ⊕ Empty)) (from_1 : Int) (count_2 : Int) (x_8 : (List (Int × Int))) (v59 : Int) (v60 : Int) (o0_0 : Int) (o0_1 : Int) (o0_2 : Int) (o0_3 : Int) (o0_4 : Int) (o1_0 : Int) (o1_1 : Int) (o2 : List Int) : Option (((Int × Int × (List (Int × Int)) × Unit × Unit × Unit) × ((Int × Int × Int × Int × Int × Unit) × (Int × Int × Unit × Unit) × (List Int) × Unit)) ⊕ ((Bool × Unit) × (Unit)) ⊕ Empty) :=
  (bif (decide (v60 < v59)) then
   (Option.bind (g_resample_At ((x_8, ((o0_0, (o0_1, (o0_2, (o0_3, (o0_4, ()))))), ((Go.IntKind.wrap Go.IntKind.i64 (o0_0 + (Go.IntKind.wrap Go.IntKind.i64 (v60 * o0_1)))), ()))), ())) (fun y1 =>
   (Option.bind (l2 ((from_1, (count_2, (x_8, ((), ((), (v60, (y1.1.1, (y1.1.2.1, (v59, (v60, ())))))))))), ((o0_0, (o0_1, (o0_2, (o0_3, (o0_4, ()))))), ((o1_0, (o1_1, ((), ()))), (o2, ()))))) (fun y2 =>
   (Sum.elim (fun a3 =>
    (bif a3.1.2.2.2.2.2.2.2.1 then
     (some (Sum.inr (Sum.inl ((Bool.false, ()), ()))))
    else
     (Option.bind (L ((a3.1.1, (a3.1.2.1, (a3.1.2.2.1, ((), ((), (a3.1.2.2.2.2.2.1, ((Go.IntKind.wrap Go.IntKind.i64 (a3.1.2.2.2.2.2.2.1 + (1:Int))), ()))))))), ((a3.2.1.1, (a3.2.1.2.1, (a3.2.1.2.2.1, (a3.2.1.2.2.2.1, (a3.2.1.2.2.2.2.1, ()))))), ((a3.2.2.1.1, (a3.2.2.1.2.1, ((), ()))), (a3.2.2.2.1, ()))))) (fun y5 =>
     (some y5))))) (fun b3 =>
    (Empty.elim b3)) y2)))))
  else
   (some (Sum.inl ((from_1, (count_2, (x_8, ((), ((), ()))))), ((o0_0, (o0_1, (o0_2, (o0_3, (o0_4, ()))))), ((o1_0, (o1_1, ((), ()))), (o2, ())))))))
theorem law08_ResampleSeries.eq1 (g_keep_New : keep_New.sh.X → Option keep_New.osh.X) (g_keep_Src_Ascending : keep_Src_Ascending.sh.X → Option keep_Src_Ascending.osh.X) (g_keep_Src_Grid : keep_Src_Grid.sh.X → Option keep_Src_Grid.osh.X) (g_resample_Apply : resample_Apply.sh.X → Option resample_Apply.osh.X) (g_resample_At : resample_At.sh.X → Option resample_At.osh.X) (g_keep_Mod : keep_Mod.sh.X → Option keep_Mod.osh.X) (g_keep_Ints : keep_Ints.sh.X → Option keep_Ints.osh.X) (g_law08_awake : law08_awake.sh.X → Option law08_awake.osh.X) (l0 : law08_ResampleSeries.s0.X → Option (sumX law08_ResampleSeries.x0)) (l1 : law08_ResampleSeries.s1.X → Option (sumX law08_ResampleSeries.x1)) (l2 : law08_ResampleSeries.s2.X → Option (sumX law08_ResampleSeries.x2)) (L : ((Int × Int × (List (Int × Int)) × Unit × Unit × Int × Int × Unit) × ((Int × Int × Int × Int × Int × Unit) × (Int × Int × Unit × Unit) × (List Int) × Unit)) → Option (((Int × Int × (List (Int × Int)) × Unit × Unit × Unit) × ((Int × Int × Int × Int × Int × Unit) × (Int × Int × Unit × Unit) × (List Int) × Unit)) ⊕ ((Bool × Unit) × (Unit)) ⊕ Empty)) (x : ((Int × Int × (List (Int × Int)) × Unit × Unit × Int × Int × Unit) × ((Int × Int × Int × Int × Int × Unit) × (Int × Int × Unit × Unit) × (List Int) × Unit))) : (roundK (law08_ResampleSeries.E g_keep_New g_keep_Src_Ascending g_keep_Src_Grid g_resample_Apply g_resample_At g_keep_Mod g_keep_Ints g_law08_awake l0 l1 l2) law08_ResampleSeries.s1 [1, 2, 8, 9, 10, 59, 60] [(2, [1, 2, 8, 9, 10]), (1, [6])] true (((mk law08_ResampleSeries.hs law08_ResampleSeries.c []).atoms.getD 1 .bad).body) law08_ResampleSeries.x1 L x).run _ some = law08_ResampleSeries.f1 g_resample_At l2 L x.1.1 x.1.2.1 x.1.2.2.1 x.1.2.2.2.2.2.1 x.1.2.2.2.2.2.2.1 x.2.1.1 x.2.1.2.1 x.2.1.2.2.1 x.2.1.2.2.2.1 x.2.1.2.2.2.2.1 x.2.2.1.1 x.2.2.1.2.1 x.2.2.2.1 := by
  show _ = (_ : Option _)
  kernel_rfl
noncomputable def law08_ResampleSeries.L1 : ((Int × Int × (List (Int × Int)) × Unit × Unit × Int × Int × Unit) × ((Int × Int × Int × Int × Int × Unit) × (Int × Int × Unit × Unit) × (List Int) × Unit)) → Option (((Int × Int × (List (Int × Int)) × Unit × Unit × Unit) × ((Int × Int × Int × Int × Int × Unit) × (Int × Int × Unit × Unit) × (List Int) × Unit)) ⊕ ((Bool × Unit) × (Unit)) ⊕ Empty) := loop fun L x => law08_ResampleSeries.f1 resample_At.F law08_ResampleSeries.L2 L x.1.1 x.1.2.1 x.1.2.2.1 x.1.2.2.2.2.2.1 x.1.2.2.2.2.2.2.1 x.2.1.1 x.2.1.2.1 x.2.1.2.2.1 x.2.1.2.2.2.1 x.2.1.2.2.2.2.1 x.2.2.1.1 x.2.2.1.2.1 x.2.2.2.1
def law08_ResampleSeries.f (g_keep_New : (((List Int) × Unit) × (Unit)) → Option ((Unit × Unit) × (((List Int) × Int × Unit) × Unit))) (g_keep_Src_Ascending : ((Unit × Int × Unit) × (((List Int) × Int × Unit) × Unit)) → Option ((Unit × Unit) × (((List Int) × Int × Unit) × (List (Int × Int)) × Unit))) (g_keep_Src_Grid : ((Unit × (List (Int × Int)) × Unit) × (((List Int) × Int × Unit) × Unit)) → Option (((Int × Int × Int × Int × Int × Unit) × Unit) × (((List Int) × Int × Unit) × Unit))) (g_resample_Apply : (((List (Int × Int)) × (Int × Int × Int × Int × Int × Unit) × Unit) × (Unit)) → Option (((Int × Int × Unit × Unit) × Int × Unit) × ((List Int) × Unit))) (g_keep_Mod : ((Int × Int × Unit) × (Unit)) → Option ((Int × Unit) × (Unit))) (g_keep_Ints : (((List Int) × (List Int) × Unit) × (Unit)) → Option ((Bool × Unit) × (Unit))) (g_law08_awake : ((Unit) × (Unit)) → Option ((Bool × Unit) × (Unit))) (l0 : ((Int × Int × (List (Int × Int)) × Unit × Unit × Int × Unit) × ((Int × Int × Int × Int × Int × Unit) × (Int × Int × Unit × Unit) × (List Int) × Unit)) → Option (((Int × Int × (List (Int × Int)) × Unit × Unit × Bool × Unit) × ((Int × Int × Int × Int × Int × Unit) × (Int × Int × Unit × Unit) × (List Int) × Unit)) ⊕ Empty)) (l1 : ((Int × Int × (List (Int × Int)) × Unit × Unit × Int × Int × Unit) × ((Int × Int × Int × Int × Int × Unit) × (Int × Int × Unit × Unit) × (List Int) × Unit)) → Option (((Int × Int × (List (Int × Int)) × Unit × Unit × Unit) × ((Int × Int × Int × Int × Int × Unit) × (Int × Int × Unit × Unit) × (List Int) × Unit)) ⊕ ((Bool × Unit) × (Unit)) ⊕ Empty)) (l : (List Int)) (from_ : Int) (count : Int) : Option ((Bool × Unit) × (Unit)) :=
  (Option.bind (g_keep_New ((l, ()), ())) (fun y0 =>
  (Option.bind (g_keep_Src_Ascending (((), ((10:Int), ())), ((y0.2.1.1, (y0.2.1.2.1, ())), ()))) (fun y1 =>
  (Option.bind (g_keep_Src_Grid (((), (y1.2.2.1, ())), ((y1.2.1.1, (y1.2.1.2.1, ())), ()))) (fun y2 =>
  (Option.bind (g_resample_Apply ((y1.2.2.1, ((y2.1.1.1, (y2.1.1.2.1, (y2.1.1.2.2.1, (y2.1.1.2.2.2.1, (y2.1.1.2.2.2.2.1, ()))))), ())), ())) (fun y3 =>
  (Option.bind (l0 ((from_, (count, (y1.2.2.1, ((), ((), (y3.1.2.1, ())))))), ((y2.1.1.1, (y2.1.1.2.1, (y2.1.1.2.2.1, (y2.1.1.2.2.2.1, (y2.1.1.2.2.2.2.1, ()))))), ((y3.1.1.1, (y3.1.1.2.1, ((), ()))), (y3.2.1, ()))))) (fun y4 =>
  (Sum.elim (fun a5 =>
   (bif a5.1.2.2.2.2.2.1 then
    (some ((Bool.false, ()), ()))
   else
    (Option.bind (l1 ((a5.1.1, (a5.1.2.1, (a5.1.2.2.1, ((), ((), ((((List.length a5.2.2.2.1) : Nat) : Int), ((0:Int), ()))))))), ((a5.2.1.1, (a5.2.1.2.1, (a5.2.1.2.2.1, (a5.2.1.2.2.2.1, (a5.2.1.2.2.2.2.1, ()))))), ((a5.2.2.1.1, (a5.2.2.1.2.1, ((), ()))), (a5.2.2.2.1, ()))))) (fun y7 =>
    (Sum.elim (fun a8 =>
     (Option.bind (g_keep_Mod (((Go.IntKind.wrap Go.IntKind.i64 a8.1.1), ((Go.IntKind.wrap Go.IntKind.i64 (a8.2.1.2.2.1 + (1:Int))), ())), ())) (fun y9 =>
     (Option.bind (g_keep_Mod (((Go.IntKind.wrap Go.IntKind.i64 a8.1.2.1), ((Go.IntKind.wrap Go.IntKind.i64 ((Go.IntKind.wrap Go.IntKind.i64 (a8.2.1.2.2.1 - y9.1.1)) + (1:Int))), ())), ())) (fun y10 =>
     (Option.bind (g_resample_Apply ((a8.1.2.2.1, (((Go.IntKind.wrap Go.IntKind.i64 (a8.2.1.1 + (Go.IntKind.wrap Go.IntKind.i64 (y9.1.1 * a8.2.1.2.1)))), (a8.2.1.2.1, (y10.1.1, (a8.2.1.2.2.2.1, (a8.2.1.2.2.2.2.1, ()))))), ())), ())) (fun y11 =>
     (bif (y11.1.2.1 == (0:Int)) then
      (bif (decide ((0:Int) ≤ y9.1.1)) then
       (bif (decide (y9.1.1 ≤ (Go.IntKind.wrap Go.IntKind.i64 (y9.1.1 + y10.1.1)))) then
        (bif (decide ((Go.IntKind.wrap Go.IntKind.i64 (y9.1.1 + y10.1.1)) ≤ (((List.length a8.2.2.2.1) : Nat) : Int))) then
         (Option.bind (g_keep_Ints ((y11.2.1, ((List.drop (Int.toNat y9.1.1) (List.take (Int.toNat (Go.IntKind.wrap Go.IntKind.i64 (y9.1.1 + y10.1.1))) a8.2.2.2.1)), ())), ())) (fun y16 =>
         (bif y16.1.1 then
          (Option.bind (g_law08_awake ((), ())) (fun y18 =>
          (some ((y18.1.1, ()), ()))))
         else
          (some ((Bool.false, ()), ())))))
        else
         none)
       else
        none)
      else
       none)
     else
      (some ((Bool.false, ()), ())))))))))) (fun b8 =>
     (Sum.elim (fun a9 =>
      (some ((a9.1.1, ()), ()))) (fun b9 =>
      (Empty.elim b9)) b8)) y7))))) (fun b5 =>
   (Empty.elim b5)) y4)))))))))))
theorem law08_ResampleSeries.eq (g_keep_New : keep_New.sh.X → Option keep_New.osh.X) (g_keep_Src_Ascending : keep_Src_Ascending.sh.X → Option keep_Src_Ascending.osh.X) (g_keep_Src_Grid : keep_Src_Grid.sh.X → Option keep_Src_Grid.osh.X) (g_resample_Apply : resample_Apply.sh.X → Option resample_Apply.osh.X) (g_resample_At : resample_At.sh.X → Option resample_At.osh.X) (g_keep_Mod : keep_Mod.sh.X → Option keep_Mod.osh.X) (g_keep_Ints : keep_Ints.sh.X → Option keep_Ints.osh.X) (g_law08_awake : law08_awake.sh.X → Option law08_awake.osh.X) (l0 : law08_ResampleSeries.s0.X → Option (sumX law08_ResampleSeries.x0)) (l1 : law08_ResampleSeries.s1.X → Option (sumX law08_ResampleSeries.x1)) (l2 : law08_ResampleSeries.s2.X → Option (sumX law08_ResampleSeries.x2)) (x : (((List Int) × Int × Int × Unit) × (Unit))) : (bodyO (law08_ResampleSeries.E g_keep_New g_keep_Src_Ascending g_keep_Src_Grid g_resample_Apply g_resample_At g_keep_Mod g_keep_Ints g_law08_awake l0 l1 l2) (mk law08_ResampleSeries.hs law08_ResampleSeries.c []) Go.Proofs.Try.f8.results.toList law08_ResampleSeries.sh law08_ResampleSeries.osh x).run _ some = law08_ResampleSeries.f g_keep_New g_keep_Src_Ascending g_keep_Src_Grid g_resample_Apply g_keep_Mod g_keep_Ints g_law08_awake l0 l1 x.1.1 x.1.2.1 x.1.2.2.1 := by
  show _ = (_ : Option _)
  kernel_rfl
noncomputable def law08_ResampleSeries (l : (List Int)) (from_ : Int) (count : Int) : Option ((Bool × Unit) × (Unit)) := law08_ResampleSeries.f keep_New.F keep_Src_Ascending.F keep_Src_Grid.F resample_Apply.F keep_Mod.F keep_Ints.F law08_awake.F law08_ResampleSeries.L0 law08_ResampleSeries.L1 l from_ count
noncomputable def law08_ResampleSeries.F (x : (((List Int) × Int × Int × Unit) × (Unit))) : Option ((Bool × Unit) × (Unit)) := law08_ResampleSeries x.1.1 x.1.2.1 x.1.2.2.1
theorem law08_ResampleSeries.L0_eq (from_1 : Int) (count_2 : Int) (x_8 : (List (Int × Int))) (e_11 : Int) (o0_0 : Int) (o0_1 : Int) (o0_2 : Int) (o0_3 : Int) (o0_4 : Int) (o1_0 : Int) (o1_1 : Int) (o2 : List Int) : law08_ResampleSeries.L0 ((from_1, count_2, x_8, (), (), e_11, ()), ((o0_0, o0_1, o0_2, o0_3, o0_4, ()), (o1_0, o1_1, (), ()), o2, ())) = law08_ResampleSeries.f0 from_1 count_2 x_8 e_11 o0_0 o0_1 o0_2 o0_3 o0_4 o1_0 o1_1 o2 := rfl
theorem law08_ResampleSeries.L1_eq (from_1 : Int) (count_2 : Int) (x_8 : (List (Int × Int))) (v59 : Int) (v60 : Int) (o0_0 : Int) (o0_1 : Int) (o0_2 : Int) (o0_3 : Int) (o0_4 : Int) (o1_0 : Int) (o1_1 : Int) (o2 : List Int) : law08_ResampleSeries.L1 ((from_1, count_2, x_8, (), (), v59, v60, ()), ((o0_0, o0_1, o0_2, o0_3, o0_4, ()), (o1_0, o1_1, (), ()), o2, ())) = law08_ResampleSeries.f1 resample_At.F law08_ResampleSeries.L2 law08_ResampleSeries.L1 from_1 count_2 x_8 v59 v60 o0_0 o0_1 o0_2 o0_3 o0_4 o1_0 o1_1 o2 :=
  loop_eq (E := (law08_ResampleSeries.E keep_New.F keep_Src_Ascending.F keep_Src_Grid.F resample_Apply.F resample_At.F keep_Mod.F keep_Ints.F law08_awake.F law08_ResampleSeries.L0 law08_ResampleSeries.L1 law08_ResampleSeries.L2)) (sh := law08_ResampleSeries.s1) (es := law08_ResampleSeries.x1) (lp := true) (H := fun L x => law08_ResampleSeries.eq1 keep_New.F keep_Src_Ascending.F keep_Src_Grid.F resample_Apply.F resample_At.F keep_Mod.F keep_Ints.F law08_awake.F law08_ResampleSeries.L0 law08_ResampleSeries.L1 law08_ResampleSeries.L2 L x) ((from_1, count_2, x_8, (), (), v59, v60, ()), ((o0_0, o0_1, o0_2, o0_3, o0_4, ()), (o1_0, o1_1, (), ()), o2, ()))
theorem law08_ResampleSeries.L2_eq (from_1 : Int) (count_2 : Int) (x_8 : (List (Int × Int))) (i_12 : Int) (v_13 : Int) (ok_14 : Bool) (v59 : Int) (v60 : Int) (o0_0 : Int) (o0_1 : Int) (o0_2 : Int) (o0_3 : Int) (o0_4 : Int) (o1_0 : Int) (o1_1 : Int) (o2 : List Int) : law08_ResampleSeries.L2 ((from_1, count_2, x_8, (), (), i_12, v_13, ok_14, v59, v60, ()), ((o0_0, o0_1, o0_2, o0_3, o0_4, ()), (o1_0, o1_1, (), ()), o2, ())) = law08_ResampleSeries.f2 from_1 count_2 x_8 i_12 v_13 ok_14 v59 v60 o0_0 o0_1 o0_2 o0_3 o0_4 o1_0 o1_1 o2 := rfl
theorem law08_ResampleSeries.F_eq (l : (List Int)) (from_ : Int) (count : Int) : law08_ResampleSeries.F ((l, from_, count, ()), ()) = law08_ResampleSeries.f keep_New.F keep_Src_Ascending.F keep_Src_Grid.F resample_Apply.F keep_Mod.F keep_Ints.F law08_awake.F law08_ResampleSeries.L0 law08_ResampleSeries.L1 l from_ count := rfl
theorem law08_ResampleSeries.ok : FOK Go.Proofs.Try.prog [] 8 (FE.of [true, true, true] false law08_ResampleSeries.sh law08_ResampleSeries.osh law08_ResampleSeries.F) := by
  refine fn_keeps (E := (law08_ResampleSeries.E keep_New.F keep_Src_Ascending.F keep_Src_Grid.F resample_Apply.F resample_At.F keep_Mod.F keep_Ints.F law08_awake.F law08_ResampleSeries.L0 law08_ResampleSeries.L1 law08_ResampleSeries.L2)) (c := law08_ResampleSeries.c) (fn := Go.Proofs.Try.f8) (hs := law08_ResampleSeries.hs) (by kernel_rfl) Go.Proofs.Try.func8 ⟨by kernel_rfl, by kernel_rfl, tb, by kernel_rfl, by kernel_rfl, by kernel_rfl, by kernel_rfl, by kernel_rfl⟩ (fun g fe h => ?_) ?_ (fun x => law08_ResampleSeries.eq keep_New.F keep_Src_Ascending.F keep_Src_Grid.F resample_Apply.F resample_At.F keep_Mod.F keep_Ints.F law08_awake.F law08_ResampleSeries.L0 law08_ResampleSeries.L1 law08_ResampleSeries.L2 x)
  · rcases c_cons h with ⟨rfl, rfl⟩ | h
    · exact keep_New.ok
    rcases c_cons h with ⟨rfl, rfl⟩ | h
    · exact keep_Src_Ascending.ok
    rcases c_cons h with ⟨rfl, rfl⟩ | h
    · exact keep_Src_Grid.ok
    rcases c_cons h with ⟨rfl, rfl⟩ | h
    · exact resample_Apply.ok
    rcases c_cons h with ⟨rfl, rfl⟩ | h
    · exact resample_At.ok
    rcases c_cons h with ⟨rfl, rfl⟩ | h
    · exact keep_Mod.ok
    rcases c_cons h with ⟨rfl, rfl⟩ | h
    · exact keep_Ints.ok
    rcases c_cons h with ⟨rfl, rfl⟩ | h
    · exact law08_awake.ok
    cases h
  · refine known_at 3 (by kernel_rfl) fun i hi => ?_
    match i, hi with
    | 0, _ => exact atom_at (id := 0) (live := [1, 2, 8, 9, 10, 11]) (outs := [(0, [1, 2, 8, 9, 10, 56])]) (loop := false) (by kernel_rfl) (cut_ok (E := (law08_ResampleSeries.E keep_New.F keep_Src_Ascending.F keep_Src_Grid.F resample_Apply.F resample_At.F keep_Mod.F keep_Ints.F law08_awake.F law08_ResampleSeries.L0 law08_ResampleSeries.L1 law08_ResampleSeries.L2)) (sh := law08_ResampleSeries.s0) (es := law08_ResampleSeries.x0) rfl (fun L x => law08_ResampleSeries.eq0 keep_New.F keep_Src_Ascending.F keep_Src_Grid.F resample_Apply.F resample_At.F keep_Mod.F keep_Ints.F law08_awake.F law08_ResampleSeries.L0 law08_ResampleSeries.L1 law08_ResampleSeries.L2 L x))
    | 1, _ => exact atom_at (id := 1) (live := [1, 2, 8, 9, 10, 59, 60]) (outs := [(2, [1, 2, 8, 9, 10]), (1, [6])]) (loop := true) (by kernel_rfl) (loop_ok (E := (law08_ResampleSeries.E keep_New.F keep_Src_Ascending.F keep_Src_Grid.F resample_Apply.F resample_At.F keep_Mod.F keep_Ints.F law08_awake.F law08_ResampleSeries.L0 law08_ResampleSeries.L1 law08_ResampleSeries.L2)) (sh := law08_ResampleSeries.s1) (es := law08_ResampleSeries.x1) rfl (fun L x => law08_ResampleSeries.eq1 keep_New.F keep_Src_Ascending.F keep_Src_Grid.F resample_Apply.F resample_At.F keep_Mod.F keep_Ints.F law08_awake.F law08_ResampleSeries.L0 law08_ResampleSeries.L1 law08_ResampleSeries.L2 L x))
    | 2, _ => exact atom_at (id := 2) (live := [1, 2, 8, 9, 10, 12, 13, 14, 59, 60]) (outs := [(0, [1, 2, 8, 9, 10, 59, 60, 97])]) (loop := false) (by kernel_rfl) (cut_ok (E := (law08_ResampleSeries.E keep_New.F keep_Src_Ascending.F keep_Src_Grid.F resample_Apply.F resample_At.F keep_Mod.F keep_Ints.F law08_awake.F law08_ResampleSeries.L0 law08_ResampleSeries.L1 law08_ResampleSeries.L2)) (sh := law08_ResampleSeries.s2) (es := law08_ResampleSeries.x2) rfl (fun L x => law08_ResampleSeries.eq2 keep_New.F keep_Src_Ascending.F keep_Src_Grid.F resample_Apply.F resample_At.F keep_Mod.F keep_Ints.F law08_awake.F law08_ResampleSeries.L0 law08_ResampleSeries.L1 law08_ResampleSeries.L2 L x))
    | n + 3, h => exact absurd h (by omega)

/-! law08_ResampleMoves -/
def law08_ResampleMoves.f0 (L : ((Int × Unit × Unit × Unit × Unit × Int × Int × Unit) × (((List Int) × Int × Unit) × (List (Int × Int)) × (List (Int × Int)) × (List (Int × Int)) × Unit)) → Option (((Int × Unit × Unit × Unit × Unit) × (((List Int) × Int × Unit) × (List (Int × Int)) × (List (Int × Int)) × Unit)) ⊕ Empty)) (by_1 : Int) (v21 : Int) (v22 : Int) (o0_0 : (List Int)) (o0_1 : Int) (o1 : List (Int × Int)) (o2 : List (Int × Int)) (o3 : List (Int × Int)) : Option (((Int × Unit × Unit × Unit × Unit) × (((List Int) × Int × Unit) × (List (Int × Int)) × (List (Int × Int)) × Unit)) ⊕ Empty) :=
  (bif (decide (v22 < v21)) then
   (bif (decide ((0:Int) ≤ v22)) then
    (bif (decide (v22 < (((List.length o3) : Nat) : Int))) then
     (bif (decide ((((List.length o1) + (List.length [((Int.tmod (List.getD o3 (Int.toNat v22) ((0:Int), (0:Int))).1 (1099511626776:Int)), (List.getD o3 (Int.toNat v22) ((0:Int), (0:Int))).2)])) * (16:Nat)) ≤ (140737488355328:Nat))) then
      (bif (decide ((((List.length o2) + (List.length [((Go.IntKind.wrap Go.IntKind.i64 ((Int.tmod (List.getD o3 (Int.toNat v22) ((0:Int), (0:Int))).1 (1099511626776:Int)) + (Go.IntKind.wrap Go.IntKind.i64 by_1))), (List.getD o3 (Int.toNat v22) ((0:Int), (0:Int))).2)])) * (16:Nat)) ≤ (140737488355328:Nat))) then
       (Option.bind (L ((by_1, ((), ((), ((), ((), (v21, ((Go.IntKind.wrap Go.IntKind.i64 (v22 + (1:Int))), ()))))))), ((o0_0, (o0_1, ())), ((o1 ++ [((Int.tmod (List.getD o3 (Int.toNat v22) ((0:Int), (0:Int))).1 (1099511626776:Int)), (List.getD o3 (Int.toNat v22) ((0:Int), (0:Int))).2)]), ((o2 ++ [((Go.IntKind.wrap Go.IntKind.i64 ((Int.tmod (List.getD o3 (Int.toNat v22) ((0:Int), (0:Int))).1 (1099511626776:Int)) + (Go.IntKind.wrap Go.IntKind.i64 by_1))), (List.getD o3 (Int.toNat v22) ((0:Int), (0:Int))).2)]), (o3, ())))))) (fun y5 =>
       (some y5)))
      else
       none)
     else
      none)
    else
     none)
   else
    none)
  else
   (some (Sum.inl ((by_1, ((), ((), ((), ())))), ((o0_0, (o0_1, ())), (o1, (o2, ())))))))
theorem law08_ResampleMoves.eq0 (g_keep_New : keep_New.sh.X → Option keep_New.osh.X) (g_keep_Src_Ascending : keep_Src_Ascending.sh.X → Option keep_Src_Ascending.osh.X) (g_law08_awake : law08_awake.sh.X → Option law08_awake.osh.X) (g_keep_Src_Grid : keep_Src_Grid.sh.X → Option keep_Src_Grid.osh.X) (g_resample_Apply : resample_Apply.sh.X → Option resample_Apply.osh.X) (g_keep_Ints : keep_Ints.sh.X → Option keep_Ints.osh.X) (l0 : law08_ResampleMoves.s0.X → Option (sumX law08_ResampleMoves.x0)) (l1 : law08_ResampleMoves.s1.X → Option (sumX law08_ResampleMoves.x1)) (l2 : law08_ResampleMoves.s2.X → Option (sumX law08_ResampleMoves.x2)) (l3 : law08_ResampleMoves.s3.X → Option (sumX law08_ResampleMoves.x3)) (L : ((Int × Unit × Unit × Unit × Unit × Int × Int × Unit) × (((List Int) × Int × Unit) × (List (Int × Int)) × (List (Int × Int)) × (List (Int × Int)) × Unit)) → Option (((Int × Unit × Unit × Unit × Unit) × (((List Int) × Int × Unit) × (List (Int × Int)) × (List (Int × Int)) × Unit)) ⊕ Empty)) (x : ((Int × Unit × Unit × Unit × Unit × Int × Int × Unit) × (((List Int) × Int × Unit) × (List (Int × Int)) × (List (Int × Int)) × (List (Int × Int)) × Unit))) : (roundK (law08_ResampleMoves.E g_keep_New g_keep_Src_Ascending g_law08_awake g_keep_Src_Grid g_resample_Apply g_keep_Ints l0 l1 l2 l3) law08_ResampleMoves.s0 [1, 5, 6, 7, 20, 21, 22] [(2, [1, 5, 6, 7])] true (((mk law08_ResampleMoves.hs law08_ResampleMoves.c []).atoms.getD 0 .bad).body) law08_ResampleMoves.x0 L x).run _ some = law08_ResampleMoves.f0 L x.1.1 x.1.2.2.2.2.2.1 x.1.2.2.2.2.2.2.1 x.2.1.1 x.2.1.2.1 x.2.2.1 x.2.2.2.1 x.2.2.2.2.1 := by
  show _ = (_ : Option _)
  kernel_rfl
noncomputable def law08_ResampleMoves.L0 : ((Int × Unit × Unit × Unit × Unit × Int × Int × Unit) × (((List Int) × Int × Unit) × (List (Int × Int)) × (List (Int × Int)) × (List (Int × Int)) × Unit)) → Option (((Int × Unit × Unit × Unit × Unit) × (((List Int) × Int × Unit) × (List (Int × Int)) × (List (Int × Int)) × Unit)) ⊕ Empty) := loop fun L x => law08_ResampleMoves.f0 L x.1.1 x.1.2.2.2.2.2.1 x.1.2.2.2.2.2.2.1 x.2.1.1 x.2.1.2.1 x.2.2.1 x.2.2.2.1 x.2.2.2.2.1
def law08_ResampleMoves.f2 (by_1 : Int) (i_10 : Int) (v47 : Int) (v48 : Int) (o0_0 : (List Int)) (o0_1 : Int) (o1 : List (Int × Int)) (o2 : List (Int × Int)) : Option (((Int × Unit × Unit × Unit × Int × Int × Bool × Unit) × (((List Int) × Int × Unit) × (List (Int × Int)) × (List (Int × Int)) × Unit)) ⊕ Empty) :=
  (bif (decide ((0:Int) ≤ i_10)) then
   (bif (decide (i_10 < (((List.length o1) : Nat) : Int))) then
    (bif (decide ((List.getD o1 (Int.toNat i_10) ((0:Int), (0:Int))).1 > (1073741824:Int))) then
     (some (Sum.inl ((by_1, ((), ((), ((), (v47, (v48, (Bool.true, ()))))))), ((o0_0, (o0_1, ())), (o1, (o2, ()))))))
    else
     (bif (decide (i_10 > (0:Int))) then
      (bif (decide ((0:Int) ≤ i_10)) then
       (bif (decide (i_10 < (((List.length o1) : Nat) : Int))) then
        (bif (decide ((0:Int) ≤ (Go.IntKind.wrap Go.IntKind.i64 (i_10 - (1:Int))))) then
         (bif (decide ((Go.IntKind.wrap Go.IntKind.i64 (i_10 - (1:Int))) < (((List.length o1) : Nat) : Int))) then
          (some (Sum.inl ((by_1, ((), ((), ((), (v47, (v48, ((decide ((List.getD o1 (Int.toNat i_10) ((0:Int), (0:Int))).1 ≤ (List.getD o1 (Int.toNat (Go.IntKind.wrap Go.IntKind.i64 (i_10 - (1:Int)))) ((0:Int), (0:Int))).1)), ()))))))), ((o0_0, (o0_1, ())), (o1, (o2, ()))))))
         else
          none)
        else
         none)
       else
        none)
      else
       none)
     else
      (some (Sum.inl ((by_1, ((), ((), ((), (v47, (v48, (Bool.false, ()))))))), ((o0_0, (o0_1, ())), (o1, (o2, ()))))))))
   else
    none)
  else
   none)
theorem law08_ResampleMoves.eq2 (g_keep_New : keep_New.sh.X → Option keep_New.osh.X) (g_keep_Src_Ascending : keep_Src_Ascending.sh.X → Option keep_Src_Ascending.osh.X) (g_law08_awake : law08_awake.sh.X → Option law08_awake.osh.X) (g_keep_Src_Grid : keep_Src_Grid.sh.X → Option keep_Src_Grid.osh.X) (g_resample_Apply : resample_Apply.sh.X → Option resample_Apply.osh.X) (g_keep_Ints : keep_Ints.sh.X → Option keep_Ints.osh.X) (l0 : law08_ResampleMoves.s0.X → Option (sumX law08_ResampleMoves.x0)) (l1 : law08_ResampleMoves.s1.X → Option (sumX law08_ResampleMoves.x1)) (l2 : law08_ResampleMoves.s2.X → Option (sumX law08_ResampleMoves.x2)) (l3 : law08_ResampleMoves.s3.X → Option (sumX law08_ResampleMoves.x3)) (L : ((Int × Unit × Unit × Unit × Int × Int × Int × Unit) × (((List Int) × Int × Unit) × (List (Int × Int)) × (List (Int × Int)) × Unit)) → Option (((Int × Unit × Unit × Unit × Int × Int × Bool × Unit) × (((List Int) × Int × Unit) × (List (Int × Int)) × (List (Int × Int)) × Unit)) ⊕ Empty)) (x : ((Int × Unit × Unit × Unit × Int × Int × Int × Unit) × (((List Int) × Int × Unit) × (List (Int × Int)) × (List (Int × Int)) × Unit))) : (roundK (law08_ResampleMoves.E g_keep_New g_keep_Src_Ascending g_law08_awake g_keep_Src_Grid g_resample_Apply g_keep_Ints l0 l1 l2 l3) law08_ResampleMoves.s2 [1, 5, 6, 7, 10, 47, 48] [(0, [1, 5, 6, 7, 47, 48, 74])] false (((mk law08_ResampleMoves.hs law08_ResampleMoves.c []).atoms.getD 2 .bad).body) law08_ResampleMoves.x2 L x).run _ some = law08_ResampleMoves.f2 x.1.1 x.1.2.2.2.2.1 x.1.2.2.2.2.2.1 x.1.2.2.2.2.2.2.1 x.2.1.1 x.2.1.2.1 x.2.2.1 x.2.2.2.1 := by
  show _ = (_ : Option _)
  kernel_rfl
noncomputable def law08_ResampleMoves.L2 : ((Int × Unit × Unit × Unit × Int × Int × Int × Unit) × (((List Int) × Int × Unit) × (List (Int × Int)) × (List (Int × Int)) × Unit)) → Option (((Int × Unit × Unit × Unit × Int × Int × Bool × Unit) × (((List Int) × Int × Unit) × (List (Int × Int)) × (List (Int × Int)) × Unit)) ⊕ Empty) := fun x => law08_ResampleMoves.f2 x.1.1 x.1.2.2.2.2.1 x.1.2.2.2.2.2.1 x.1.2.2.2.2.2.2.1 x.2.1.1 x.2.1.2.1 x.2.2.1 x.2.2.2.1
def law08_ResampleMoves.f1 (g_law08_awake : ((Unit) × (Unit)) → Option ((Bool × Unit) × (Unit))) (l2 : ((Int × Unit × Unit × Unit × Int × Int × Int × Unit) × (((List Int) × Int × Unit) × (List (Int × Int)) × (List (Int × Int)) × Unit)) → Option (((Int × Unit × Unit × Unit × Int × Int × Bool × Unit) × (((List Int) × Int × Unit) × (List (Int × Int)) × (List (Int × Int)) × Unit)) ⊕ Empty)) (L : ((Int × Unit × Unit × Unit × Int × Int × Unit) × (((List Int) × Int × Unit) × (List (Int × Int)) × (List (Int × Int)) × Unit)) → Option (((Int × Unit × Unit × Unit × Unit) × (((List Int) × Int × Unit) × (List (Int × Int)) × (List (Int × Int)) × Unit)) ⊕ ((Bool × Unit) × (Unit)) ⊕ Empty)) (by_1 : Int) (v47 : Int) (v48 : Int) (o0_0 : (List Int)) (o0_1 : Int) (o1 : List (Int × Int)) (o2 : List (Int × Int)) : Option (((Int × Unit × Unit × Unit × Unit) × (((List Int) × Int × Unit) × (List (Int × Int)) × (List (Int × Int)) × Unit)) ⊕ ((Bool × Unit) × (Unit)) ⊕ Empty) :=
  (bif (decide (v48 < v47)) then
   (Option.bind (l2 ((by_1, ((), ((), ((), (v48, (v47, (v48, ()))))))), ((o0_0, (o0_1, ())), (o1, (o2, ()))))) (fun y1 =>
   (Sum.elim (fun a2 =>
    (bif a2.1.2.2.2.2.2.2.1 then
     (Option.bind (g_law08_awake ((), ())) (fun y4 =>
     (some (Sum.inr (Sum.inl ((y4.1.1, ()), ()))))))
    else
     (Option.bind (L ((a2.1.1, ((), ((), ((), (a2.1.2.2.2.2.1, ((Go.IntKind.wrap Go.IntKind.i64 (a2.1.2.2.2.2.2.1 + (1:Int))), ())))))), ((a2.2.1.1, (a2.2.1.2.1, ())), (a2.2.2.1, (a2.2.2.2.1, ()))))) (fun y4 =>
     (some y4))))) (fun b2 =>
    (Empty.elim b2)) y1)))
  else
   (some (Sum.inl ((by_1, ((), ((), ((), ())))), ((o0_0, (o0_1, ())), (o1, (o2, ())))))))
theorem law08_ResampleMoves.eq1 (g_keep_New : keep_New.sh.X → Option keep_New.osh.X) (g_keep_Src_Ascending : keep_Src_Ascending.sh.X → Option keep_Src_Ascending.osh.X) (g_law08_awake : law08_awake.sh.X → Option law08_awake.osh.X) (g_keep_Src_Grid : keep_Src_Grid.sh.X → Option keep_Src_Grid.osh.X) (g_resample_Apply : resample_Apply.sh.X → Option resample_Apply.osh.X) (g_keep_Ints : keep_Ints.sh.X → Option keep_Ints.osh.X) (l0 : law08_ResampleMoves.s0.X → Option (sumX law08_ResampleMoves.x0)) (l1 : law08_ResampleMoves.s1.X → Option (sumX law08_ResampleMoves.x1)) (l2 : law08_ResampleMoves.s2.X → Option (sumX law08_ResampleMoves.x2)) (l3 : law08_ResampleMoves.s3.X → Option (sumX law08_ResampleMoves.x3)) (L : ((Int × Unit × Unit × Unit × Int × Int × Unit) × (((List Int) × Int × Unit) × (List (Int × Int)) × (List (Int × Int)) × Unit)) → Option (((Int × Unit × Unit × Unit × Unit) × (((List Int) × Int × Unit) × (List (Int × Int)) × (List (Int × Int)) × Unit)) ⊕ ((Bool × Unit) × (Unit)) ⊕ Empty)) (x : ((Int × Unit × Unit × Unit × Int × Int × Unit) × (((List Int) × Int × Unit) × (List (Int × Int)) × (List (Int × Int)) × Unit))) : (roundK (law08_ResampleMoves.E g_keep_New g_keep_Src_Ascending g_law08_awake g_keep_Src_Grid g_resample_Apply g_keep_Ints l0 l1 l2 l3) law08_ResampleMoves.s1 [1, 5, 6, 7, 47, 48] [(4, [1, 5, 6, 7]), (1, [4])] true (((mk law08_ResampleMoves.hs law08_ResampleMoves.c []).atoms.getD 1 .bad).body) law08_ResampleMoves.x1 L x).run _ some = law08_ResampleMoves.f1 g_law08_awake l2 L x.1.1 x.1.2.2.2.2.1 x.1.2.2.2.2.2.1 x.2.1.1 x.2.1.2.1 x.2.2.1 x.2.2.2.1 := by
  show _ = (_ : Option _)
  kernel_rfl
noncomputable def law08_ResampleMoves.L1 : ((Int × Unit × Unit × Unit × Int × Int × Unit) × (((List Int) × Int × Unit) × (List (Int × Int)) × (List (Int × Int)) × Unit)) → Option (((Int × Unit × Unit × Unit × Unit) × (((List Int) × Int × Unit) × (List (Int × Int)) × (List (Int × Int)) × Unit)) ⊕ ((Bool × Unit) × (Unit)) ⊕ Empty) := loop fun L x => law08_ResampleMoves.f1 law08_awake.F law08_ResampleMoves.L2 L x.1.1 x.1.2.2.2.2.1 x.1.2.2.2.2.2.1 x.2.1.1 x.2.1.2.1 x.2.2.1 x.2.2.2.1
def law08_ResampleMoves.f3 (g_law08_awake : ((Unit) × (Unit)) → Option ((Bool × Unit) × (Unit))) (g_keep_Ints : (((List Int) × (List Int) × Unit) × (Unit)) → Option ((Bool × Unit) × (Unit))) (by_1 : Int) (e_14 : Int) (f_16 : Int) (o0_0 : Int) (o0_1 : Int) (o1_0 : Int) (o1_1 : Int) (o2 : List Int) (o3 : List Int) : Option (((Bool × Unit) × (Unit)) ⊕ Empty) :=
  (bif (e_14 == (0:Int)) then
   (bif (f_16 == (0:Int)) then
    (bif (o1_0 == (Go.IntKind.wrap Go.IntKind.i64 (o0_0 + (Go.IntKind.wrap Go.IntKind.i64 by_1)))) then
     (bif (o0_1 == o1_1) then
      (Option.bind (g_keep_Ints ((o2, (o3, ())), ())) (fun y4 =>
      (bif y4.1.1 then
       (Option.bind (g_law08_awake ((), ())) (fun y6 =>
       (some (Sum.inl ((y6.1.1, ()), ())))))
      else
       (some (Sum.inl ((Bool.false, ()), ()))))))
     else
      (some (Sum.inl ((Bool.false, ()), ()))))
    else
     (some (Sum.inl ((Bool.false, ()), ()))))
   else
    (some (Sum.inl ((Bool.false, ()), ()))))
  else
   (some (Sum.inl ((Bool.false, ()), ()))))
theorem law08_ResampleMoves.eq3 (g_keep_New : keep_New.sh.X → Option keep_New.osh.X) (g_keep_Src_Ascending : keep_Src_Ascending.sh.X → Option keep_Src_Ascending.osh.X) (g_law08_awake : law08_awake.sh.X → Option law08_awake.osh.X) (g_keep_Src_Grid : keep_Src_Grid.sh.X → Option keep_Src_Grid.osh.X) (g_resample_Apply : resample_Apply.sh.X → Option resample_Apply.osh.X) (g_keep_Ints : keep_Ints.sh.X → Option keep_Ints.osh.X) (l0 : law08_ResampleMoves.s0.X → Option (sumX law08_ResampleMoves.x0)) (l1 : law08_ResampleMoves.s1.X → Option (sumX law08_ResampleMoves.x1)) (l2 : law08_ResampleMoves.s2.X → Option (sumX law08_ResampleMoves.x2)) (l3 : law08_ResampleMoves.s3.X → Option (sumX law08_ResampleMoves.x3)) (L : ((Int × Unit × Int × Unit × Int × Unit) × ((Int × Int × Unit × Unit) × (Int × Int × Unit × Unit) × (List Int) × (List Int) × Unit)) → Option (((Bool × Unit) × (Unit)) ⊕ Empty)) (x : ((Int × Unit × Int × Unit × Int × Unit) × ((Int × Int × Unit × Unit) × (Int × Int × Unit × Unit) × (List Int) × (List Int) × Unit))) : (roundK (law08_ResampleMoves.E g_keep_New g_keep_Src_Ascending g_law08_awake g_keep_Src_Grid g_resample_Apply g_keep_Ints l0 l1 l2 l3) law08_ResampleMoves.s3 [1, 13, 14, 15, 16] [(0, [4])] false (((mk law08_ResampleMoves.hs law08_ResampleMoves.c []).atoms.getD 3 .bad).body) law08_ResampleMoves.x3 L x).run _ some = law08_ResampleMoves.f3 g_law08_awake g_keep_Ints x.1.1 x.1.2.2.1 x.1.2.2.2.2.1 x.2.1.1 x.2.1.2.1 x.2.2.1.1 x.2.2.1.2.1 x.2.2.2.1 x.2.2.2.2.1 := by
  show _ = (_ : Option _)
  kernel_rfl
noncomputable def law08_ResampleMoves.L3 : ((Int × Unit × Int × Unit × Int × Unit) × ((Int × Int × Unit × Unit) × (Int × Int × Unit × Unit) × (List Int) × (List Int) × Unit)) → Option (((Bool × Unit) × (Unit)) ⊕ Empty) := fun x => law08_ResampleMoves.f3 law08_awake.F keep_Ints.F x.1.1 x.1.2.2.1 x.1.2.2.2.2.1 x.2.1.1 x.2.1.2.1 x.2.2.1.1 x.2.2.1.2.1 x.2.2.2.1 x.2.2.2.2.1
def law08_ResampleMoves.f (g_keep_New : (((List Int) × Unit) × (Unit)) → Option ((Unit × Unit) × (((List Int) × Int × Unit) × Unit))) (g_keep_Src_Ascending : ((Unit × Int × Unit) × (((List Int) × Int × Unit) × Unit)) → Option ((Unit × Unit) × (((List Int) × Int × Unit) × (List (Int × Int)) × Unit))) (g_keep_Src_Grid : ((Unit × (List (Int × Int)) × Unit) × (((List Int) × Int × Unit) × Unit)) → Option (((Int × Int × Int × Int × Int × Unit) × Unit) × (((List Int) × Int × Unit) × Unit))) (g_resample_Apply : (((List (Int × Int)) × (Int × Int × Int × Int × Int × Unit) × Unit) × (Unit)) → Option (((Int × Int × Unit × Unit) × Int × Unit) × ((List Int) × Unit))) (l0 : ((Int × Unit × Unit × Unit × Unit × Int × Int × Unit) × (((List Int) × Int × Unit) × (List (Int × Int)) × (List (Int × Int)) × (List (Int × Int)) × Unit)) → Option (((Int × Unit × Unit × Unit × Unit) × (((List Int) × Int × Unit) × (List (Int × Int)) × (List (Int × Int)) × Unit)) ⊕ Empty)) (l1 : ((Int × Unit × Unit × Unit × Int × Int × Unit) × (((List Int) × Int × Unit) × (List (Int × Int)) × (List (Int × Int)) × Unit)) → Option (((Int × Unit × Unit × Unit × Unit) × (((List Int) × Int × Unit) × (List (Int × Int)) × (List (Int × Int)) × Unit)) ⊕ ((Bool × Unit) × (Unit)) ⊕ Empty)) (l3 : ((Int × Unit × Int × Unit × Int × Unit) × ((Int × Int × Unit × Unit) × (Int × Int × Unit × Unit) × (List Int) × (List Int) × Unit)) → Option (((Bool × Unit) × (Unit)) ⊕ Empty)) (l : (List Int)) (by_ : Int) : Option ((Bool × Unit) × (Unit)) :=
  (Option.bind (g_keep_New ((l, ()), ())) (fun y0 =>
  (Option.bind (g_keep_Src_Ascending (((), ((10:Int), ())), ((y0.2.1.1, (y0.2.1.2.1, ())), ()))) (fun y1 =>
  (Option.bind (l0 ((by_, ((), ((), ((), ((), ((((List.length y1.2.2.1) : Nat) : Int), ((0:Int), ()))))))), ((y1.2.1.1, (y1.2.1.2.1, ())), (([] : List (Int × Int)), (([] : List (Int × Int)), (y1.2.2.1, ())))))) (fun y2 =>
  (Sum.elim (fun a3 =>
   (Option.bind (l1 ((a3.1.1, ((), ((), ((), ((((List.length a3.2.2.1) : Nat) : Int), ((0:Int), ())))))), ((a3.2.1.1, (a3.2.1.2.1, ())), (a3.2.2.1, (a3.2.2.2.1, ()))))) (fun y4 =>
   (Sum.elim (fun a5 =>
    (Option.bind (g_keep_Src_Grid (((), (a5.2.2.1, ())), ((a5.2.1.1, (a5.2.1.2.1, ())), ()))) (fun y6 =>
    (Option.bind (g_resample_Apply ((a5.2.2.1, ((y6.1.1.1, (y6.1.1.2.1, (y6.1.1.2.2.1, (y6.1.1.2.2.2.1, (y6.1.1.2.2.2.2.1, ()))))), ())), ())) (fun y7 =>
    (Option.bind (g_resample_Apply ((a5.2.2.2.1, (((Go.IntKind.wrap Go.IntKind.i64 (y6.1.1.1 + (Go.IntKind.wrap Go.IntKind.i64 a5.1.1))), (y6.1.1.2.1, (y6.1.1.2.2.1, (y6.1.1.2.2.2.1, (y6.1.1.2.2.2.2.1, ()))))), ())), ())) (fun y8 =>
    (Option.bind (l3 ((a5.1.1, ((), (y7.1.2.1, ((), (y8.1.2.1, ()))))), ((y7.1.1.1, (y7.1.1.2.1, ((), ()))), ((y8.1.1.1, (y8.1.1.2.1, ((), ()))), (y7.2.1, (y8.2.1, ())))))) (fun y9 =>
    (Sum.elim (fun a10 =>
     (some ((a10.1.1, ()), ()))) (fun b10 =>
     (Empty.elim b10)) y9)))))))))) (fun b5 =>
    (Sum.elim (fun a6 =>
     (some ((a6.1.1, ()), ()))) (fun b6 =>
     (Empty.elim b6)) b5)) y4)))) (fun b3 =>
   (Empty.elim b3)) y2)))))))
theorem law08_ResampleMoves.eq (g_keep_New : keep_New.sh.X → Option keep_New.osh.X) (g_keep_Src_Ascending : keep_Src_Ascending.sh.X → Option keep_Src_Ascending.osh.X) (g_law08_awake : law08_awake.sh.X → Option law08_awake.osh.X) (g_keep_Src_Grid : keep_Src_Grid.sh.X → Option keep_Src_Grid.osh.X) (g_resample_Apply : resample_Apply.sh.X → Option resample_Apply.osh.X) (g_keep_Ints : keep_Ints.sh.X → Option keep_Ints.osh.X) (l0 : law08_ResampleMoves.s0.X → Option (sumX law08_ResampleMoves.x0)) (l1 : law08_ResampleMoves.s1.X → Option (sumX law08_ResampleMoves.x1)) (l2 : law08_ResampleMoves.s2.X → Option (sumX law08_ResampleMoves.x2)) (l3 : law08_ResampleMoves.s3.X → Option (sumX law08_ResampleMoves.x3)) (x : (((List Int) × Int × Unit) × (Unit))) : (bodyO (law08_ResampleMoves.E g_keep_New g_keep_Src_Ascending g_law08_awake g_keep_Src_Grid g_resample_Apply g_keep_Ints l0 l1 l2 l3) (mk law08_ResampleMoves.hs law08_ResampleMoves.c []) Go.Proofs.Try.f3.results.toList law08_ResampleMoves.sh law08_ResampleMoves.osh x).run _ some = law08_ResampleMoves.f g_keep_New g_keep_Src_Ascending g_keep_Src_Grid g_resample_Apply l0 l1 l3 x.1.1 x.1.2.1 := by
  show _ = (_ : Option _)
  kernel_rfl
noncomputable def law08_ResampleMoves (l : (List Int)) (by_ : Int) : Option ((Bool × Unit) × (Unit)) := law08_ResampleMoves.f keep_New.F keep_Src_Ascending.F keep_Src_Grid.F resample_Apply.F law08_ResampleMoves.L0 law08_ResampleMoves.L1 law08_ResampleMoves.L3 l by_
noncomputable def law08_ResampleMoves.F (x : (((List Int) × Int × Unit) × (Unit))) : Option ((Bool × Unit) × (Unit)) := law08_ResampleMoves x.1.1 x.1.2.1
theorem law08_ResampleMoves.L0_eq (by_1 : Int) (v21 : Int) (v22 : Int) (o0_0 : (List Int)) (o0_1 : Int) (o1 : List (Int × Int)) (o2 : List (Int × Int)) (o3 : List (Int × Int)) : law08_ResampleMoves.L0 ((by_1, (), (), (), (), v21, v22, ()), ((o0_0, o0_1, ()), o1, o2, o3, ())) = law08_ResampleMoves.f0 law08_ResampleMoves.L0 by_1 v21 v22 o0_0 o0_1 o1 o2 o3 :=
  loop_eq (E := (law08_ResampleMoves.E keep_New.F keep_Src_Ascending.F law08_awake.F keep_Src_Grid.F resample_Apply.F keep_Ints.F law08_ResampleMoves.L0 law08_ResampleMoves.L1 law08_ResampleMoves.L2 law08_ResampleMoves.L3)) (sh := law08_ResampleMoves.s0) (es := law08_ResampleMoves.x0) (lp := true) (H := fun L x => law08_ResampleMoves.eq0 keep_New.F keep_Src_Ascending.F law08_awake.F keep_Src_Grid.F resample_Apply.F keep_Ints.F law08_ResampleMoves.L0 law08_ResampleMoves.L1 law08_ResampleMoves.L2 law08_ResampleMoves.L3 L x) ((by_1, (), (), (), (), v21, v22, ()), ((o0_0, o0_1, ()), o1, o2, o3, ()))
theorem law08_ResampleMoves.L1_eq (by_1 : Int) (v47 : Int) (v48 : Int) (o0_0 : (List Int)) (o0_1 : Int) (o1 : List (Int × Int)) (o2 : List (Int × Int)) : law08_ResampleMoves.L1 ((by_1, (), (), (), v47, v48, ()), ((o0_0, o0_1, ()), o1, o2, ())) = law08_ResampleMoves.f1 law08_awake.F law08_ResampleMoves.L2 law08_ResampleMoves.L1 by_1 v47 v48 o0_0 o0_1 o1 o2 :=
  loop_eq (E := (law08_ResampleMoves.E keep_New.F keep_Src_Ascending.F law08_awake.F keep_Src_Grid.F resample_Apply.F keep_Ints.F law08_ResampleMoves.L0 law08_ResampleMoves.L1 law08_ResampleMoves.L2 law08_ResampleMoves.L3)) (sh := law08_ResampleMoves.s1) (es := law08_ResampleMoves.x1) (lp := true) (H := fun L x => law08_ResampleMoves.eq1 keep_New.F keep_Src_Ascending.F law08_awake.F keep_Src_Grid.F resample_Apply.F keep_Ints.F law08_ResampleMoves.L0 law08_ResampleMoves.L1 law08_ResampleMoves.L2 law08_ResampleMoves.L3 L x) ((by_1, (), (), (), v47, v48, ()), ((o0_0, o0_1, ()), o1, o2, ()))
theorem law08_ResampleMoves.L2_eq (by_1 : Int) (i_10 : Int) (v47 : Int) (v48 : Int) (o0_0 : (List Int)) (o0_1 : Int) (o1 : List (Int × Int)) (o2 : List (Int × Int)) : law08_ResampleMoves.L2 ((by_1, (), (), (), i_10, v47, v48, ()), ((o0_0, o0_1, ()), o1, o2, ())) = law08_ResampleMoves.f2 by_1 i_10 v47 v48 o0_0 o0_1 o1 o2 := rfl
theorem law08_ResampleMoves.L3_eq (by_1 : Int) (e_14 : Int) (f_16 : Int) (o0_0 : Int) (o0_1 : Int) (o1_0 : Int) (o1_1 : Int) (o2 : List Int) (o3 : List Int) : law08_ResampleMoves.L3 ((by_1, (), e_14, (), f_16, ()), ((o0_0, o0_1, (), ()), (o1_0, o1_1, (), ()), o2, o3, ())) = law08_ResampleMoves.f3 law08_awake.F keep_Ints.F by_1 e_14 f_16 o0_0 o0_1 o1_0 o1_1 o2 o3 := rfl
theorem law08_ResampleMoves.F_eq (l : (List Int)) (by_ : Int) : law08_ResampleMoves.F ((l, by_, ()), ()) = law08_ResampleMoves.f keep_New.F keep_Src_Ascending.F keep_Src_Grid.F resample_Apply.F law08_ResampleMoves.L0 law08_ResampleMoves.L1 law08_ResampleMoves.L3 l by_ := rfl
theorem law08_ResampleMoves.ok : FOK Go.Proofs.Try.prog [] 3 (FE.of [true, true] false law08_ResampleMoves.sh law08_ResampleMoves.osh law08_ResampleMoves.F) := by
  refine fn_keeps (E := (law08_ResampleMoves.E keep_New.F keep_Src_Ascending.F law08_awake.F keep_Src_Grid.F resample_Apply.F keep_Ints.F law08_ResampleMoves.L0 law08_ResampleMoves.L1 law08_ResampleMoves.L2 law08_ResampleMoves.L3)) (c := law08_ResampleMoves.c) (fn := Go.Proofs.Try.f3) (hs := law08_ResampleMoves.hs) (by kernel_rfl) Go.Proofs.Try.func3 ⟨by kernel_rfl, by kernel_rfl, tb, by kernel_rfl, by kernel_rfl, by kernel_rfl, by kernel_rfl, by kernel_rfl⟩ (fun g fe h => ?_) ?_ (fun x => law08_ResampleMoves.eq keep_New.F keep_Src_Ascending.F law08_awake.F keep_Src_Grid.F resample_Apply.F keep_Ints.F law08_ResampleMoves.L0 law08_ResampleMoves.L1 law08_ResampleMoves.L2 law08_ResampleMoves.L3 x)
  · rcases c_cons h with ⟨rfl, rfl⟩ | h
    · exact keep_New.ok
    rcases c_cons h with ⟨rfl, rfl⟩ | h
    · exact keep_Src_Ascending.ok
    rcases c_cons h with ⟨rfl, rfl⟩ | h
    · exact law08_awake.ok
    rcases c_cons h with ⟨rfl, rfl⟩ | h
    · exact keep_Src_Grid.ok
    rcases c_cons h with ⟨rfl, rfl⟩ | h
    · exact resample_Apply.ok
    rcases c_cons h with ⟨rfl, rfl⟩ | h
    · exact keep_Ints.ok
    cases h
  · refine known_at 4 (by kernel_rfl) fun i hi => ?_
    match i, hi with
    | 0, _ => exact atom_at (id := 0) (live := [1, 5, 6, 7, 20, 21, 22]) (outs := [(2, [1, 5, 6, 7])]) (loop := true) (by kernel_rfl) (loop_ok (E := (law08_ResampleMoves.E keep_New.F keep_Src_Ascending.F law08_awake.F keep_Src_Grid.F resample_Apply.F keep_Ints.F law08_ResampleMoves.L0 law08_ResampleMoves.L1 law08_ResampleMoves.L2 law08_ResampleMoves.L3)) (sh := law08_ResampleMoves.s0) (es := law08_ResampleMoves.x0) rfl (fun L x => law08_ResampleMoves.eq0 keep_New.F keep_Src_Ascending.F law08_awake.F keep_Src_Grid.F resample_Apply.F keep_Ints.F law08_ResampleMoves.L0 law08_ResampleMoves.L1 law08_ResampleMoves.L2 law08_ResampleMoves.L3 L x))
    | 1, _ => exact atom_at (id := 1) (live := [1, 5, 6, 7, 47, 48]) (outs := [(4, [1, 5, 6, 7]), (1, [4])]) (loop := true) (by kernel_rfl) (loop_ok (E := (law08_ResampleMoves.E keep_New.F keep_Src_Ascending.F law08_awake.F keep_Src_Grid.F resample_Apply.F keep_Ints.F law08_ResampleMoves.L0 law08_ResampleMoves.L1 law08_ResampleMoves.L2 law08_ResampleMoves.L3)) (sh := law08_ResampleMoves.s1) (es := law08_ResampleMoves.x1) rfl (fun L x => law08_ResampleMoves.eq1 keep_New.F keep_Src_Ascending.F law08_awake.F keep_Src_Grid.F resample_Apply.F keep_Ints.F law08_ResampleMoves.L0 law08_ResampleMoves.L1 law08_ResampleMoves.L2 law08_ResampleMoves.L3 L x))
    | 2, _ => exact atom_at (id := 2) (live := [1, 5, 6, 7, 10, 47, 48]) (outs := [(0, [1, 5, 6, 7, 47, 48, 74])]) (loop := false) (by kernel_rfl) (cut_ok (E := (law08_ResampleMoves.E keep_New.F keep_Src_Ascending.F law08_awake.F keep_Src_Grid.F resample_Apply.F keep_Ints.F law08_ResampleMoves.L0 law08_ResampleMoves.L1 law08_ResampleMoves.L2 law08_ResampleMoves.L3)) (sh := law08_ResampleMoves.s2) (es := law08_ResampleMoves.x2) rfl (fun L x => law08_ResampleMoves.eq2 keep_New.F keep_Src_Ascending.F law08_awake.F keep_Src_Grid.F resample_Apply.F keep_Ints.F law08_ResampleMoves.L0 law08_ResampleMoves.L1 law08_ResampleMoves.L2 law08_ResampleMoves.L3 L x))
    | 3, _ => exact atom_at (id := 3) (live := [1, 13, 14, 15, 16]) (outs := [(0, [4])]) (loop := false) (by kernel_rfl) (cut_ok (E := (law08_ResampleMoves.E keep_New.F keep_Src_Ascending.F law08_awake.F keep_Src_Grid.F resample_Apply.F keep_Ints.F law08_ResampleMoves.L0 law08_ResampleMoves.L1 law08_ResampleMoves.L2 law08_ResampleMoves.L3)) (sh := law08_ResampleMoves.s3) (es := law08_ResampleMoves.x3) rfl (fun L x => law08_ResampleMoves.eq3 keep_New.F keep_Src_Ascending.F law08_awake.F keep_Src_Grid.F resample_Apply.F keep_Ints.F law08_ResampleMoves.L0 law08_ResampleMoves.L1 law08_ResampleMoves.L2 law08_ResampleMoves.L3 L x))
    | n + 4, h => exact absurd h (by omega)

/-! ref08_Valid -/
def ref08_Valid.f0 (o0_0 : Int) (o0_1 : Int) (o0_2 : Int) (o0_3 : Int) (o0_4 : Int) : Option (((Unit × Bool × Unit) × ((Int × Int × Int × Int × Int × Unit) × Unit)) ⊕ Empty) :=
  (bif (decide (o0_0 < (0:Int))) then
   (some (Sum.inl (((), (Bool.true, ())), ((o0_0, (o0_1, (o0_2, (o0_3, (o0_4, ()))))), ()))))
  else
   (bif (decide (o0_0 > (1099511627776:Int))) then
    (some (Sum.inl (((), (Bool.true, ())), ((o0_0, (o0_1, (o0_2, (o0_3, (o0_4, ()))))), ()))))
   else
    (bif (decide (o0_1 < (1:Int))) then
     (some (Sum.inl (((), (Bool.true, ())), ((o0_0, (o0_1, (o0_2, (o0_3, (o0_4, ()))))), ()))))
    else
     (bif (decide (o0_1 > (1099511627776:Int))) then
      (some (Sum.inl (((), (Bool.true, ())), ((o0_0, (o0_1, (o0_2, (o0_3, (o0_4, ()))))), ()))))
     else
      (bif (decide (o0_2 < (0:Int))) then
       (some (Sum.inl (((), (Bool.true, ())), ((o0_0, (o0_1, (o0_2, (o0_3, (o0_4, ()))))), ()))))
      else
       (bif (decide (o0_2 > (2000:Int))) then
        (some (Sum.inl (((), (Bool.true, ())), ((o0_0, (o0_1, (o0_2, (o0_3, (o0_4, ()))))), ()))))
       else
        (bif (decide (o0_3 < (1:Int))) then
         (some (Sum.inl (((), (Bool.true, ())), ((o0_0, (o0_1, (o0_2, (o0_3, (o0_4, ()))))), ()))))
        else
         (bif (decide (o0_3 > (3:Int))) then
          (some (Sum.inl (((), (Bool.true, ())), ((o0_0, (o0_1, (o0_2, (o0_3, (o0_4, ()))))), ()))))
         else
          (bif (decide (o0_4 < (0:Int))) then
           (some (Sum.inl (((), (Bool.true, ())), ((o0_0, (o0_1, (o0_2, (o0_3, (o0_4, ()))))), ()))))
          else
           (some (Sum.inl (((), ((decide (o0_4 > (1099511627776:Int))), ())), ((o0_0, (o0_1, (o0_2, (o0_3, (o0_4, ()))))), ())))))))))))))
theorem ref08_Valid.eq0 (l0 : ref08_Valid.s0.X → Option (sumX ref08_Valid.x0)) (L : ((Unit × Unit) × ((Int × Int × Int × Int × Int × Unit) × Unit)) → Option (((Unit × Bool × Unit) × ((Int × Int × Int × Int × Int × Unit) × Unit)) ⊕ Empty)) (x : ((Unit × Unit) × ((Int × Int × Int × Int × Int × Unit) × Unit))) : (roundK (ref08_Valid.E l0) ref08_Valid.s0 [1] [(0, [1, 50])] false (((mk ref08_Valid.hs ref08_Valid.c []).atoms.getD 0 .bad).body) ref08_Valid.x0 L x).run _ some = ref08_Valid.f0 x.2.1.1 x.2.1.2.1 x.2.1.2.2.1 x.2.1.2.2.2.1 x.2.1.2.2.2.2.1 := by
  show _ = (_ : Option _)
  kernel_rfl
noncomputable def ref08_Valid.L0 : ((Unit × Unit) × ((Int × Int × Int × Int × Int × Unit) × Unit)) → Option (((Unit × Bool × Unit) × ((Int × Int × Int × Int × Int × Unit) × Unit)) ⊕ Empty) := fun x => ref08_Valid.f0 x.2.1.1 x.2.1.2.1 x.2.1.2.2.1 x.2.1.2.2.2.1 x.2.1.2.2.2.2.1
def ref08_Valid.f (l0 : ((Unit × Unit) × ((Int × Int × Int × Int × Int × Unit) × Unit)) → Option (((Unit × Bool × Unit) × ((Int × Int × Int × Int × Int × Unit) × Unit)) ⊕ Empty)) (g_From : Int) (g_Step : Int) (g_Count : Int) (g_Rule : Int) (g_Reach : Int) : Option ((Bool × Unit) × (Unit)) :=
  (Option.bind (l0 (((), ()), ((g_From, (g_Step, (g_Count, (g_Rule, (g_Reach, ()))))), ()))) (fun y0 =>
  (Sum.elim (fun a1 =>
   (bif a1.1.2.1 then
    (some ((Bool.false, ()), ()))
   else
    (bif (a1.2.1.2.2.1 == (0:Int)) then
     (some ((Bool.true, ()), ()))
    else
     (some (((decide ((Go.IntKind.wrap Go.IntKind.i64 (a1.2.1.1 + (Go.IntKind.wrap Go.IntKind.i64 ((Go.IntKind.wrap Go.IntKind.i64 (a1.2.1.2.2.1 - (1:Int))) * a1.2.1.2.1)))) ≤ (1099511627776:Int))), ()), ()))))) (fun b1 =>
   (Empty.elim b1)) y0)))
theorem ref08_Valid.eq (l0 : ref08_Valid.s0.X → Option (sumX ref08_Valid.x0)) (x : (((Int × Int × Int × Int × Int × Unit) × Unit) × (Unit))) : (bodyO (ref08_Valid.E l0) (mk ref08_Valid.hs ref08_Valid.c []) Go.Proofs.Try.f18.results.toList ref08_Valid.sh ref08_Valid.osh x).run _ some = ref08_Valid.f l0 x.1.1.1 x.1.1.2.1 x.1.1.2.2.1 x.1.1.2.2.2.1 x.1.1.2.2.2.2.1 := by
  show _ = (_ : Option _)
  kernel_rfl
noncomputable def ref08_Valid (g_From : Int) (g_Step : Int) (g_Count : Int) (g_Rule : Int) (g_Reach : Int) : Option ((Bool × Unit) × (Unit)) := ref08_Valid.f ref08_Valid.L0 g_From g_Step g_Count g_Rule g_Reach
noncomputable def ref08_Valid.F (x : (((Int × Int × Int × Int × Int × Unit) × Unit) × (Unit))) : Option ((Bool × Unit) × (Unit)) := ref08_Valid x.1.1.1 x.1.1.2.1 x.1.1.2.2.1 x.1.1.2.2.2.1 x.1.1.2.2.2.2.1
theorem ref08_Valid.L0_eq (o0_0 : Int) (o0_1 : Int) (o0_2 : Int) (o0_3 : Int) (o0_4 : Int) : ref08_Valid.L0 (((), ()), ((o0_0, o0_1, o0_2, o0_3, o0_4, ()), ())) = ref08_Valid.f0 o0_0 o0_1 o0_2 o0_3 o0_4 := rfl
theorem ref08_Valid.F_eq (g_From : Int) (g_Step : Int) (g_Count : Int) (g_Rule : Int) (g_Reach : Int) : ref08_Valid.F (((g_From, g_Step, g_Count, g_Rule, g_Reach, ()), ()), ()) = ref08_Valid.f ref08_Valid.L0 g_From g_Step g_Count g_Rule g_Reach := rfl
theorem ref08_Valid.ok : FOK Go.Proofs.Try.prog [] 18 (FE.of [true] false ref08_Valid.sh ref08_Valid.osh ref08_Valid.F) := by
  refine fn_keeps (E := (ref08_Valid.E ref08_Valid.L0)) (c := ref08_Valid.c) (fn := Go.Proofs.Try.f18) (hs := ref08_Valid.hs) (by kernel_rfl) Go.Proofs.Try.func18 ⟨by kernel_rfl, by kernel_rfl, tb, by kernel_rfl, by kernel_rfl, by kernel_rfl, by kernel_rfl, by kernel_rfl⟩ (fun g fe h => ?_) ?_ (fun x => ref08_Valid.eq ref08_Valid.L0 x)
  · cases h
  · refine known_at 1 (by kernel_rfl) fun i hi => ?_
    match i, hi with
    | 0, _ => exact atom_at (id := 0) (live := [1]) (outs := [(0, [1, 50])]) (loop := false) (by kernel_rfl) (cut_ok (E := (ref08_Valid.E ref08_Valid.L0)) (sh := ref08_Valid.s0) (es := ref08_Valid.x0) rfl (fun L x => ref08_Valid.eq0 ref08_Valid.L0 L x))
    | n + 1, h => exact absurd h (by omega)
end Go.Proofs.Ytknkiogjibpooab.V
