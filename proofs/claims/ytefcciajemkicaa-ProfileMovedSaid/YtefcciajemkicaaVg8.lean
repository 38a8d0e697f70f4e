import Derived.Test.YtefcciajemkicaaVg7
import Derived.WalkKit
set_option linter.unusedVariables false
set_option maxRecDepth 100000
namespace Go.Proofs.Ytefcciajemkicaa.V
open Go.VI
/-! law37_ProfileMoved -/
def law37_ProfileMoved.f0 (L : ((Int × Int × Unit × Unit × Int × Int × Unit × Int × Unit) × ((List Int) × (Int × Int × Int × Unit) × (List Int) × Unit)) → Option (((Int × Unit × Unit × Int × Int × Unit × Unit) × ((List Int) × (Int × Int × Int × Unit) × (List Int) × Unit)) ⊕ Empty)) (add_1 : Int) (times_2 : Int) (length_10 : Int) (zone_11 : Int) (i_13 : Int) (o0 : List Int) (o1_0 : Int) (o1_1 : Int) (o1_2 : Int) (o2 : List Int) : Option (((Int × Unit × Unit × Int × Int × Unit × Unit) × ((List Int) × (Int × Int × Int × Unit) × (List Int) × Unit)) ⊕ Empty) :=
  (bif (decide (i_13 < (((List.length o0) : Nat) : Int))) then
   (bif (decide ((0:Int) ≤ i_13)) then
    (bif (decide (i_13 < (((List.length o0) : Nat) : Int))) then
     (bif ((List.getD o0 (Int.toNat i_13) (0:Int)) != (1073741824:Int)) then
      (bif (decide ((0:Int) ≤ i_13)) then
       (bif (decide (i_13 < (((List.length o0) : Nat) : Int))) then
        (bif ((Go.VI.mx (-(400:Int)) (Go.VI.mn (400:Int) (List.getD o0 (Int.toNat i_13) (0:Int)))) != (1073741824:Int)) then
         (bif (decide ((((List.length o2) + (List.length [(Go.IntKind.wrap Go.IntKind.i64 ((Go.VI.mx (-(400:Int)) (Go.VI.mn (400:Int) (List.getD o0 (Int.toNat i_13) (0:Int)))) + (Go.IntKind.wrap Go.IntKind.i64 add_1)))])) * (8:Nat)) ≤ (140737488355328:Nat))) then
          (Option.bind (L ((add_1, (times_2, ((), ((), (length_10, (zone_11, ((), ((Go.IntKind.wrap Go.IntKind.i64 (i_13 + (1:Int))), ())))))))), ((List.set o0 (Int.toNat i_13) (Go.VI.mx (-(400:Int)) (Go.VI.mn (400:Int) (List.getD o0 (Int.toNat i_13) (0:Int))))), ((o1_0, (o1_1, (o1_2, ()))), ((o2 ++ [(Go.IntKind.wrap Go.IntKind.i64 ((Go.VI.mx (-(400:Int)) (Go.VI.mn (400:Int) (List.getD o0 (Int.toNat i_13) (0:Int)))) + (Go.IntKind.wrap Go.IntKind.i64 add_1)))]), ()))))) (fun y8 =>
          (some y8)))
         else
          none)
        else
         (bif (decide ((((List.length o2) + (List.length [(Go.VI.mx (-(400:Int)) (Go.VI.mn (400:Int) (List.getD o0 (Int.toNat i_13) (0:Int))))])) * (8:Nat)) ≤ (140737488355328:Nat))) then
          (Option.bind (L ((add_1, (times_2, ((), ((), (length_10, (zone_11, ((), ((Go.IntKind.wrap Go.IntKind.i64 (i_13 + (1:Int))), ())))))))), ((List.set o0 (Int.toNat i_13) (Go.VI.mx (-(400:Int)) (Go.VI.mn (400:Int) (List.getD o0 (Int.toNat i_13) (0:Int))))), ((o1_0, (o1_1, (o1_2, ()))), ((o2 ++ [(Go.VI.mx (-(400:Int)) (Go.VI.mn (400:Int) (List.getD o0 (Int.toNat i_13) (0:Int))))]), ()))))) (fun y8 =>
          (some y8)))
         else
          none))
       else
        none)
      else
       none)
     else
      (bif (decide ((0:Int) ≤ i_13)) then
       (bif (decide (i_13 < (((List.length o0) : Nat) : Int))) then
        (bif ((List.getD o0 (Int.toNat i_13) (0:Int)) != (1073741824:Int)) then
         (bif (decide ((((List.length o2) + (List.length [(Go.IntKind.wrap Go.IntKind.i64 ((List.getD o0 (Int.toNat i_13) (0:Int)) + (Go.IntKind.wrap Go.IntKind.i64 add_1)))])) * (8:Nat)) ≤ (140737488355328:Nat))) then
          (Option.bind (L ((add_1, (times_2, ((), ((), (length_10, (zone_11, ((), ((Go.IntKind.wrap Go.IntKind.i64 (i_13 + (1:Int))), ())))))))), ((List.set o0 (Int.toNat i_13) (List.getD o0 (Int.toNat i_13) (0:Int))), ((o1_0, (o1_1, (o1_2, ()))), ((o2 ++ [(Go.IntKind.wrap Go.IntKind.i64 ((List.getD o0 (Int.toNat i_13) (0:Int)) + (Go.IntKind.wrap Go.IntKind.i64 add_1)))]), ()))))) (fun y8 =>
          (some y8)))
         else
          none)
        else
         (bif (decide ((((List.length o2) + (List.length [(List.getD o0 (Int.toNat i_13) (0:Int))])) * (8:Nat)) ≤ (140737488355328:Nat))) then
          (Option.bind (L ((add_1, (times_2, ((), ((), (length_10, (zone_11, ((), ((Go.IntKind.wrap Go.IntKind.i64 (i_13 + (1:Int))), ())))))))), ((List.set o0 (Int.toNat i_13) (List.getD o0 (Int.toNat i_13) (0:Int))), ((o1_0, (o1_1, (o1_2, ()))), ((o2 ++ [(List.getD o0 (Int.toNat i_13) (0:Int))]), ()))))) (fun y8 =>
          (some y8)))
         else
          none))
       else
        none)
      else
       none))
    else
     none)
   else
    none)
  else
   (some (Sum.inl ((times_2, ((), ((), (length_10, (zone_11, ((), ())))))), (o0, ((o1_0, (o1_1, (o1_2, ()))), (o2, ())))))))
theorem law37_ProfileMoved.eq0 (g_second_Few : second_Few.sh.X → Option second_Few.osh.X) (g_law37_awake : law37_awake.sh.X → Option law37_awake.osh.X) (g_second_New : second_New.sh.X → Option second_New.osh.X) (g_second_Deck_Next : second_Deck_Next.sh.X → Option second_Deck_Next.osh.X) (g_second_Deck_Values : second_Deck_Values.sh.X → Option second_Deck_Values.osh.X) (g_second_Deck_Measure : second_Deck_Measure.sh.X → Option second_Deck_Measure.osh.X) (g_second_Deck_Length : second_Deck_Length.sh.X → Option second_Deck_Length.osh.X) (g_profile_Of : profile_Of.sh.X → Option profile_Of.osh.X) (g_ref37_Same : ref37_Same.sh.X → Option ref37_Same.osh.X) (l0 : law37_ProfileMoved.s0.X → Option (sumX law37_ProfileMoved.x0)) (l1 : law37_ProfileMoved.s1.X → Option (sumX law37_ProfileMoved.x1)) (l2 : law37_ProfileMoved.s2.X → Option (sumX law37_ProfileMoved.x2)) (L : ((Int × Int × Unit × Unit × Int × Int × Unit × Int × Unit) × ((List Int) × (Int × Int × Int × Unit) × (List Int) × Unit)) → Option (((Int × Unit × Unit × Int × Int × Unit × Unit) × ((List Int) × (Int × Int × Int × Unit) × (List Int) × Unit)) ⊕ Empty)) (x : ((Int × Int × Unit × Unit × Int × Int × Unit × Int × Unit) × ((List Int) × (Int × Int × Int × Unit) × (List Int) × Unit))) : (roundK (law37_ProfileMoved.E g_second_Few g_law37_awake g_second_New g_second_Deck_Next g_second_Deck_Values g_second_Deck_Measure g_second_Deck_Length g_profile_Of g_ref37_Same l0 l1 l2) law37_ProfileMoved.s0 [1, 2, 8, 9, 10, 11, 12, 13] [(2, [2, 8, 9, 10, 11, 12])] true (((mk law37_ProfileMoved.hs law37_ProfileMoved.c []).atoms.getD 0 .bad).body) law37_ProfileMoved.x0 L x).run _ some = law37_ProfileMoved.f0 L x.1.1 x.1.2.1 x.1.2.2.2.2.1 x.1.2.2.2.2.2.1 x.1.2.2.2.2.2.2.2.1 x.2.1 x.2.2.1.1 x.2.2.1.2.1 x.2.2.1.2.2.1 x.2.2.2.1 := by
  show _ = (_ : Option _)
  kernel_rfl
noncomputable def law37_ProfileMoved.L0 : ((Int × Int × Unit × Unit × Int × Int × Unit × Int × Unit) × ((List Int) × (Int × Int × Int × Unit) × (List Int) × Unit)) → Option (((Int × Unit × Unit × Int × Int × Unit × Unit) × ((List Int) × (Int × Int × Int × Unit) × (List Int) × Unit)) ⊕ Empty) := loop fun L x => law37_ProfileMoved.f0 L x.1.1 x.1.2.1 x.1.2.2.2.2.1 x.1.2.2.2.2.2.1 x.1.2.2.2.2.2.2.2.1 x.2.1 x.2.2.1.1 x.2.2.1.2.1 x.2.2.1.2.2.1 x.2.2.2.1
def law37_ProfileMoved.f1 (g_ref37_Same : (((Int × Int × Int × Int × Int × (List (Int × (Int × Int))) × (List (Int × (Int × Int))) × (List (Int × (Int × Int))) × Unit) × (Int × Int × Int × Int × Int × (List (Int × (Int × Int))) × (List (Int × (Int × Int))) × (List (Int × (Int × Int))) × Unit) × Unit) × (Unit)) → Option ((Bool × Unit) × (Unit))) (times_2 : Int) (length_10 : Int) (zone_11 : Int) (e_16 : Int) (f_18 : Int) (o0 : List Int) (o1_0 : Int) (o1_1 : Int) (o1_2 : Int) (o1_3 : Int) (o1_4 : Int) (o2_0 : Int) (o2_1 : Int) (o2_2 : Int) (o2_3 : Int) (o2_4 : Int) (o3 : List (Int × (Int × Int))) (o4 : List (Int × (Int × Int))) (o5 : List (Int × (Int × Int))) (o6 : List (Int × (Int × Int))) (o7 : List (Int × (Int × Int))) (o8 : List (Int × (Int × Int))) : Option (((Int × Unit × Int × Int × Bool × Unit) × ((List Int) × Unit)) ⊕ Empty) :=
  (bif (e_16 != (0:Int)) then
   (some (Sum.inl ((times_2, ((), (length_10, (zone_11, (Bool.true, ()))))), (o0, ()))))
  else
   (bif (f_18 != (0:Int)) then
    (some (Sum.inl ((times_2, ((), (length_10, (zone_11, (Bool.true, ()))))), (o0, ()))))
   else
    (Option.bind (g_ref37_Same (((o1_0, (o1_1, (o1_2, (o1_3, (o1_4, (o3, (o4, (o5, ())))))))), ((o2_0, (o2_1, (o2_2, (o2_3, (o2_4, (o6, (o7, (o8, ())))))))), ())), ())) (fun y2 =>
    (some (Sum.inl ((times_2, ((), (length_10, (zone_11, ((!y2.1.1), ()))))), (o0, ()))))))))
theorem law37_ProfileMoved.eq1 (g_second_Few : second_Few.sh.X → Option second_Few.osh.X) (g_law37_awake : law37_awake.sh.X → Option law37_awake.osh.X) (g_second_New : second_New.sh.X → Option second_New.osh.X) (g_second_Deck_Next : second_Deck_Next.sh.X → Option second_Deck_Next.osh.X) (g_second_Deck_Values : second_Deck_Values.sh.X → Option second_Deck_Values.osh.X) (g_second_Deck_Measure : second_Deck_Measure.sh.X → Option second_Deck_Measure.osh.X) (g_second_Deck_Length : second_Deck_Length.sh.X → Option second_Deck_Length.osh.X) (g_profile_Of : profile_Of.sh.X → Option profile_Of.osh.X) (g_ref37_Same : ref37_Same.sh.X → Option ref37_Same.osh.X) (l0 : law37_ProfileMoved.s0.X → Option (sumX law37_ProfileMoved.x0)) (l1 : law37_ProfileMoved.s1.X → Option (sumX law37_ProfileMoved.x1)) (l2 : law37_ProfileMoved.s2.X → Option (sumX law37_ProfileMoved.x2)) (L : ((Int × Unit × Int × Int × Unit × Int × Unit × Int × Unit) × ((List Int) × (Int × Int × Int × Int × Int × Unit × Unit × Unit × Unit) × (Int × Int × Int × Int × Int × Unit × Unit × Unit × Unit) × (List (Int × (Int × Int))) × (List (Int × (Int × Int))) × (List (Int × (Int × Int))) × (List (Int × (Int × Int))) × (List (Int × (Int × Int))) × (List (Int × (Int × Int))) × Unit)) → Option (((Int × Unit × Int × Int × Bool × Unit) × ((List Int) × Unit)) ⊕ Empty)) (x : ((Int × Unit × Int × Int × Unit × Int × Unit × Int × Unit) × ((List Int) × (Int × Int × Int × Int × Int × Unit × Unit × Unit × Unit) × (Int × Int × Int × Int × Int × Unit × Unit × Unit × Unit) × (List (Int × (Int × Int))) × (List (Int × (Int × Int))) × (List (Int × (Int × Int))) × (List (Int × (Int × Int))) × (List (Int × (Int × Int))) × (List (Int × (Int × Int))) × Unit))) : (roundK (law37_ProfileMoved.E g_second_Few g_law37_awake g_second_New g_second_Deck_Next g_second_Deck_Values g_second_Deck_Measure g_second_Deck_Length g_profile_Of g_ref37_Same l0 l1 l2) law37_ProfileMoved.s1 [2, 8, 10, 11, 15, 16, 17, 18] [(0, [2, 8, 10, 11, 104])] false (((mk law37_ProfileMoved.hs law37_ProfileMoved.c []).atoms.getD 1 .bad).body) law37_ProfileMoved.x1 L x).run _ some = law37_ProfileMoved.f1 g_ref37_Same x.1.1 x.1.2.2.1 x.1.2.2.2.1 x.1.2.2.2.2.2.1 x.1.2.2.2.2.2.2.2.1 x.2.1 x.2.2.1.1 x.2.2.1.2.1 x.2.2.1.2.2.1 x.2.2.1.2.2.2.1 x.2.2.1.2.2.2.2.1 x.2.2.2.1.1 x.2.2.2.1.2.1 x.2.2.2.1.2.2.1 x.2.2.2.1.2.2.2.1 x.2.2.2.1.2.2.2.2.1 x.2.2.2.2.1 x.2.2.2.2.2.1 x.2.2.2.2.2.2.1 x.2.2.2.2.2.2.2.1 x.2.2.2.2.2.2.2.2.1 x.2.2.2.2.2.2.2.2.2.1 := by
  show _ = (_ : Option _)
  kernel_rfl
noncomputable def law37_ProfileMoved.L1 : ((Int × Unit × Int × Int × Unit × Int × Unit × Int × Unit) × ((List Int) × (Int × Int × Int × Int × Int × Unit × Unit × Unit × Unit) × (Int × Int × Int × Int × Int × Unit × Unit × Unit × Unit) × (List (Int × (Int × Int))) × (List (Int × (Int × Int))) × (List (Int × (Int × Int))) × (List (Int × (Int × Int))) × (List (Int × (Int × Int))) × (List (Int × (Int × Int))) × Unit)) → Option (((Int × Unit × Int × Int × Bool × Unit) × ((List Int) × Unit)) ⊕ Empty) := fun x => law37_ProfileMoved.f1 ref37_Same.F x.1.1 x.1.2.2.1 x.1.2.2.2.1 x.1.2.2.2.2.2.1 x.1.2.2.2.2.2.2.2.1 x.2.1 x.2.2.1.1 x.2.2.1.2.1 x.2.2.1.2.2.1 x.2.2.1.2.2.2.1 x.2.2.1.2.2.2.2.1 x.2.2.2.1.1 x.2.2.2.1.2.1 x.2.2.2.1.2.2.1 x.2.2.2.1.2.2.2.1 x.2.2.2.1.2.2.2.2.1 x.2.2.2.2.1 x.2.2.2.2.2.1 x.2.2.2.2.2.2.1 x.2.2.2.2.2.2.2.1 x.2.2.2.2.2.2.2.2.1 x.2.2.2.2.2.2.2.2.2.1
def law37_ProfileMoved.f2 (L : ((Unit × Int × Int × Int × Unit × Unit × Int × Unit) × ((List Int) × (Int × Int × Int × Unit) × (List Int) × Unit)) → Option (((Unit × Int × Int × Unit × Unit × Unit) × ((List Int) × (Int × Int × Int × Unit) × (List Int) × Unit)) ⊕ Empty)) (length_10 : Int) (zone_11 : Int) (k_19 : Int) (i_22 : Int) (o0 : List Int) (o1_0 : Int) (o1_1 : Int) (o1_2 : Int) (o2 : List Int) : Option (((Unit × Int × Int × Unit × Unit × Unit) × ((List Int) × (Int × Int × Int × Unit) × (List Int) × Unit)) ⊕ Empty) :=
  (bif (decide (i_22 < (((List.length o0) : Nat) : Int))) then
   (bif (decide ((0:Int) ≤ i_22)) then
    (bif (decide (i_22 < (((List.length o0) : Nat) : Int))) then
     (bif ((List.getD o0 (Int.toNat i_22) (0:Int)) != (1073741824:Int)) then
      (bif (decide ((((List.length o2) + (List.length [(Go.IntKind.wrap Go.IntKind.i64 ((List.getD o0 (Int.toNat i_22) (0:Int)) * k_19))])) * (8:Nat)) ≤ (140737488355328:Nat))) then
       (Option.bind (L (((), (length_10, (zone_11, (k_19, ((), ((), ((Go.IntKind.wrap Go.IntKind.i64 (i_22 + (1:Int))), ()))))))), (o0, ((o1_0, (o1_1, (o1_2, ()))), ((o2 ++ [(Go.IntKind.wrap Go.IntKind.i64 ((List.getD o0 (Int.toNat i_22) (0:Int)) * k_19))]), ()))))) (fun y5 =>
       (some y5)))
      else
       none)
     else
      (bif (decide ((((List.length o2) + (List.length [(List.getD o0 (Int.toNat i_22) (0:Int))])) * (8:Nat)) ≤ (140737488355328:Nat))) then
       (Option.bind (L (((), (length_10, (zone_11, (k_19, ((), ((), ((Go.IntKind.wrap Go.IntKind.i64 (i_22 + (1:Int))), ()))))))), (o0, ((o1_0, (o1_1, (o1_2, ()))), ((o2 ++ [(List.getD o0 (Int.toNat i_22) (0:Int))]), ()))))) (fun y5 =>
       (some y5)))
      else
       none))
    else
     none)
   else
    none)
  else
   (some (Sum.inl (((), (length_10, (zone_11, ((), ((), ()))))), (o0, ((o1_0, (o1_1, (o1_2, ()))), (o2, ())))))))
theorem law37_ProfileMoved.eq2 (g_second_Few : second_Few.sh.X → Option second_Few.osh.X) (g_law37_awake : law37_awake.sh.X → Option law37_awake.osh.X) (g_second_New : second_New.sh.X → Option second_New.osh.X) (g_second_Deck_Next : second_Deck_Next.sh.X → Option second_Deck_Next.osh.X) (g_second_Deck_Values : second_Deck_Values.sh.X → Option second_Deck_Values.osh.X) (g_second_Deck_Measure : second_Deck_Measure.sh.X → Option second_Deck_Measure.osh.X) (g_second_Deck_Length : second_Deck_Length.sh.X → Option second_Deck_Length.osh.X) (g_profile_Of : profile_Of.sh.X → Option profile_Of.osh.X) (g_ref37_Same : ref37_Same.sh.X → Option ref37_Same.osh.X) (l0 : law37_ProfileMoved.s0.X → Option (sumX law37_ProfileMoved.x0)) (l1 : law37_ProfileMoved.s1.X → Option (sumX law37_ProfileMoved.x1)) (l2 : law37_ProfileMoved.s2.X → Option (sumX law37_ProfileMoved.x2)) (L : ((Unit × Int × Int × Int × Unit × Unit × Int × Unit) × ((List Int) × (Int × Int × Int × Unit) × (List Int) × Unit)) → Option (((Unit × Int × Int × Unit × Unit × Unit) × ((List Int) × (Int × Int × Int × Unit) × (List Int) × Unit)) ⊕ Empty)) (x : ((Unit × Int × Int × Int × Unit × Unit × Int × Unit) × ((List Int) × (Int × Int × Int × Unit) × (List Int) × Unit))) : (roundK (law37_ProfileMoved.E g_second_Few g_law37_awake g_second_New g_second_Deck_Next g_second_Deck_Values g_second_Deck_Measure g_second_Deck_Length g_profile_Of g_ref37_Same l0 l1 l2) law37_ProfileMoved.s2 [8, 10, 11, 19, 20, 21, 22] [(4, [8, 10, 11, 20, 21])] true (((mk law37_ProfileMoved.hs law37_ProfileMoved.c []).atoms.getD 2 .bad).body) law37_ProfileMoved.x2 L x).run _ some = law37_ProfileMoved.f2 L x.1.2.1 x.1.2.2.1 x.1.2.2.2.1 x.1.2.2.2.2.2.2.1 x.2.1 x.2.2.1.1 x.2.2.1.2.1 x.2.2.1.2.2.1 x.2.2.2.1 := by
  show _ = (_ : Option _)
  kernel_rfl
noncomputable def law37_ProfileMoved.L2 : ((Unit × Int × Int × Int × Unit × Unit × Int × Unit) × ((List Int) × (Int × Int × Int × Unit) × (List Int) × Unit)) → Option (((Unit × Int × Int × Unit × Unit × Unit) × ((List Int) × (Int × Int × Int × Unit) × (List Int) × Unit)) ⊕ Empty) := loop fun L x => law37_ProfileMoved.f2 L x.1.2.1 x.1.2.2.1 x.1.2.2.2.1 x.1.2.2.2.2.2.2.1 x.2.1 x.2.2.1.1 x.2.2.1.2.1 x.2.2.1.2.2.1 x.2.2.2.1
def law37_ProfileMoved.f (g_second_Few : (((List Int) × Unit) × (Unit)) → Option ((Bool × Unit) × (Unit))) (g_law37_awake : ((Unit) × (Unit)) → Option ((Bool × Unit) × (Unit))) (g_second_New : (((List Int) × Unit) × (Unit)) → Option ((Unit × Unit) × (((List Int) × Int × Unit) × Unit))) (g_second_Deck_Next : ((Unit × Int × Unit) × (((List Int) × Int × Unit) × Unit)) → Option ((Int × Unit) × (((List Int) × Int × Unit) × Unit))) (g_second_Deck_Values : ((Unit × Int × Unit) × (((List Int) × Int × Unit) × Unit)) → Option ((Unit × Unit) × (((List Int) × Int × Unit) × (List Int) × Unit))) (g_second_Deck_Measure : ((Unit × Int × Unit) × (((List Int) × Int × Unit) × Unit)) → Option (((Int × Int × Int × Unit) × Unit) × (((List Int) × Int × Unit) × Unit))) (g_second_Deck_Length : ((Unit × Unit) × (((List Int) × Int × Unit) × Unit)) → Option ((Int × Unit) × (((List Int) × Int × Unit) × Unit))) (g_profile_Of : (((List Int) × (Int × Int × Int × Unit) × Int × Int × Unit) × (Unit)) → Option (((Int × Int × Int × Int × Int × Unit × Unit × Unit × Unit) × Int × Unit) × ((List (Int × (Int × Int))) × (List (Int × (Int × Int))) × (List (Int × (Int × Int))) × Unit))) (g_ref37_Same : (((Int × Int × Int × Int × Int × (List (Int × (Int × Int))) × (List (Int × (Int × Int))) × (List (Int × (Int × Int))) × Unit) × (Int × Int × Int × Int × Int × (List (Int × (Int × Int))) × (List (Int × (Int × Int))) × (List (Int × (Int × Int))) × Unit) × Unit) × (Unit)) → Option ((Bool × Unit) × (Unit))) (l0 : ((Int × Int × Unit × Unit × Int × Int × Unit × Int × Unit) × ((List Int) × (Int × Int × Int × Unit) × (List Int) × Unit)) → Option (((Int × Unit × Unit × Int × Int × Unit × Unit) × ((List Int) × (Int × Int × Int × Unit) × (List Int) × Unit)) ⊕ Empty)) (l1 : ((Int × Unit × Int × Int × Unit × Int × Unit × Int × Unit) × ((List Int) × (Int × Int × Int × Int × Int × Unit × Unit × Unit × Unit) × (Int × Int × Int × Int × Int × Unit × Unit × Unit × Unit) × (List (Int × (Int × Int))) × (List (Int × (Int × Int))) × (List (Int × (Int × Int))) × (List (Int × (Int × Int))) × (List (Int × (Int × Int))) × (List (Int × (Int × Int))) × Unit)) → Option (((Int × Unit × Int × Int × Bool × Unit) × ((List Int) × Unit)) ⊕ Empty)) (l2 : ((Unit × Int × Int × Int × Unit × Unit × Int × Unit) × ((List Int) × (Int × Int × Int × Unit) × (List Int) × Unit)) → Option (((Unit × Int × Int × Unit × Unit × Unit) × ((List Int) × (Int × Int × Int × Unit) × (List Int) × Unit)) ⊕ Empty)) (l : (List Int)) (add : Int) (times : Int) : Option ((Bool × Unit) × (Unit)) :=
  (Option.bind (g_second_Few ((l, ()), ())) (fun y0 =>
  (bif (!y0.1.1) then
   (Option.bind (g_law37_awake ((), ())) (fun y2 =>
   (some ((y2.1.1, ()), ()))))
  else
   (Option.bind (g_second_New ((l, ()), ())) (fun y2 =>
   (Option.bind (g_second_Deck_Next (((), ((22:Int), ())), ((y2.2.1.1, (y2.2.1.2.1, ())), ()))) (fun y3 =>
   (Option.bind (g_second_Deck_Values (((), (y3.1.1, ())), ((y3.2.1.1, (y3.2.1.2.1, ())), ()))) (fun y4 =>
   (Option.bind (g_second_Deck_Next (((), ((4:Int), ())), ((y4.2.1.1, (y4.2.1.2.1, ())), ()))) (fun y5 =>
   (Option.bind (g_second_Deck_Measure (((), ((Go.IntKind.wrap Go.IntKind.i64 ((1:Int) + y5.1.1)), ())), ((y5.2.1.1, (y5.2.1.2.1, ())), ()))) (fun y6 =>
   (Option.bind (g_second_Deck_Length (((), ()), ((y6.2.1.1, (y6.2.1.2.1, ())), ()))) (fun y7 =>
   (Option.bind (g_second_Deck_Next (((), ((4:Int), ())), ((y7.2.1.1, (y7.2.1.2.1, ())), ()))) (fun y8 =>
   (Option.bind (l0 ((add, (times, ((), ((), (y7.1.1, ((Go.IntKind.wrap Go.IntKind.i64 ((1:Int) + y8.1.1)), ((), ((0:Int), ())))))))), (y4.2.2.1, ((y6.1.1.1, (y6.1.1.2.1, (y6.1.1.2.2.1, ()))), (([] : List Int), ()))))) (fun y9 =>
   (Sum.elim (fun a10 =>
    (Option.bind (g_profile_Of ((a10.2.1, ((a10.2.2.1.1, (a10.2.2.1.2.1, (a10.2.2.1.2.2.1, ()))), (a10.1.2.2.2.1, (a10.1.2.2.2.2.1, ())))), ())) (fun y11 =>
    (Option.bind (g_profile_Of ((a10.2.2.2.1, ((a10.2.2.1.1, (a10.2.2.1.2.1, (a10.2.2.1.2.2.1, ()))), (a10.1.2.2.2.1, (a10.1.2.2.2.2.1, ())))), ())) (fun y12 =>
    (Option.bind (l1 ((a10.1.1, ((), (a10.1.2.2.2.1, (a10.1.2.2.2.2.1, ((), (y11.1.2.1, ((), (y12.1.2.1, ())))))))), (a10.2.1, ((y11.1.1.1, (y11.1.1.2.1, (y11.1.1.2.2.1, (y11.1.1.2.2.2.1, (y11.1.1.2.2.2.2.1, ((), ((), ((), ())))))))), ((y12.1.1.1, (y12.1.1.2.1, (y12.1.1.2.2.1, (y12.1.1.2.2.2.1, (y12.1.1.2.2.2.2.1, ((), ((), ((), ())))))))), (y11.2.1, (y11.2.2.1, (y11.2.2.2.1, (y12.2.1, (y12.2.2.1, (y12.2.2.2.1, ()))))))))))) (fun y13 =>
    (Sum.elim (fun a14 =>
     (bif a14.1.2.2.2.2.1 then
      (some ((Bool.false, ()), ()))
     else
      (Option.bind (l2 (((), (a14.1.2.2.1, (a14.1.2.2.2.1, ((Go.IntKind.wrap Go.IntKind.i64 ((1:Int) + (Int.tmod (Go.IntKind.wrap Go.IntKind.i64 a14.1.1) (2:Int)))), ((), ((), ((0:Int), ()))))))), (a14.2.1, (((3:Int), ((0:Int), ((0:Int), ()))), (([] : List Int), ()))))) (fun y16 =>
      (Sum.elim (fun a17 =>
       (Option.bind (g_profile_Of ((a17.2.1, ((a17.2.2.1.1, (a17.2.2.1.2.1, (a17.2.2.1.2.2.1, ()))), (a17.1.2.1, (a17.1.2.2.1, ())))), ())) (fun y18 =>
       (Option.bind (g_profile_Of ((a17.2.2.2.1, ((a17.2.2.1.1, (a17.2.2.1.2.1, (a17.2.2.1.2.2.1, ()))), (a17.1.2.1, (a17.1.2.2.1, ())))), ())) (fun y19 =>
       (bif (y18.1.2.1 == (0:Int)) then
        (bif (y19.1.2.1 == (0:Int)) then
         (Option.bind (g_ref37_Same (((y18.1.1.1, (y18.1.1.2.1, (y18.1.1.2.2.1, (y18.1.1.2.2.2.1, (y18.1.1.2.2.2.2.1, (y18.2.1, (y18.2.2.1, (y18.2.2.2.1, ())))))))), ((y19.1.1.1, (y19.1.1.2.1, (y19.1.1.2.2.1, (y19.1.1.2.2.2.1, (y19.1.1.2.2.2.2.1, (y19.2.1, (y19.2.2.1, (y19.2.2.2.1, ())))))))), ())), ())) (fun y22 =>
         (bif y22.1.1 then
          (Option.bind (g_law37_awake ((), ())) (fun y24 =>
          (some ((y24.1.1, ()), ()))))
         else
          (some ((Bool.false, ()), ())))))
        else
         (some ((Bool.false, ()), ())))
       else
        (some ((Bool.false, ()), ())))))))) (fun b17 =>
       (Empty.elim b17)) y16))))) (fun b14 =>
     (Empty.elim b14)) y13)))))))) (fun b10 =>
    (Empty.elim b10)) y9))))))))))))))))))))
theorem law37_ProfileMoved.eq (g_second_Few : second_Few.sh.X → Option second_Few.osh.X) (g_law37_awake : law37_awake.sh.X → Option law37_awake.osh.X) (g_second_New : second_New.sh.X → Option second_New.osh.X) (g_second_Deck_Next : second_Deck_Next.sh.X → Option second_Deck_Next.osh.X) (g_second_Deck_Values : second_Deck_Values.sh.X → Option second_Deck_Values.osh.X) (g_second_Deck_Measure : second_Deck_Measure.sh.X → Option second_Deck_Measure.osh.X) (g_second_Deck_Length : second_Deck_Length.sh.X → Option second_Deck_Length.osh.X) (g_profile_Of : profile_Of.sh.X → Option profile_Of.osh.X) (g_ref37_Same : ref37_Same.sh.X → Option ref37_Same.osh.X) (l0 : law37_ProfileMoved.s0.X → Option (sumX law37_ProfileMoved.x0)) (l1 : law37_ProfileMoved.s1.X → Option (sumX law37_ProfileMoved.x1)) (l2 : law37_ProfileMoved.s2.X → Option (sumX law37_ProfileMoved.x2)) (x : (((List Int) × Int × Int × Unit) × (Unit))) : (bodyO (law37_ProfileMoved.E g_second_Few g_law37_awake g_second_New g_second_Deck_Next g_second_Deck_Values g_second_Deck_Measure g_second_Deck_Length g_profile_Of g_ref37_Same l0 l1 l2) (mk law37_ProfileMoved.hs law37_ProfileMoved.c []) Go.Proofs.Try.f6.results.toList law37_ProfileMoved.sh law37_ProfileMoved.osh x).run _ some = law37_ProfileMoved.f g_second_Few g_law37_awake g_second_New g_second_Deck_Next g_second_Deck_Values g_second_Deck_Measure g_second_Deck_Length g_profile_Of g_ref37_Same l0 l1 l2 x.1.1 x.1.2.1 x.1.2.2.1 := by
  show _ = (_ : Option _)
  kernel_rfl
noncomputable def law37_ProfileMoved (l : (List Int)) (add : Int) (times : Int) : Option ((Bool × Unit) × (Unit)) := law37_ProfileMoved.f second_Few.F law37_awake.F second_New.F second_Deck_Next.F second_Deck_Values.F second_Deck_Measure.F second_Deck_Length.F profile_Of.F ref37_Same.F law37_ProfileMoved.L0 law37_ProfileMoved.L1 law37_ProfileMoved.L2 l add times
noncomputable def law37_ProfileMoved.F (x : (((List Int) × Int × Int × Unit) × (Unit))) : Option ((Bool × Unit) × (Unit)) := law37_ProfileMoved x.1.1 x.1.2.1 x.1.2.2.1
theorem law37_ProfileMoved.L0_eq (add_1 : Int) (times_2 : Int) (length_10 : Int) (zone_11 : Int) (i_13 : Int) (o0 : List Int) (o1_0 : Int) (o1_1 : Int) (o1_2 : Int) (o2 : List Int) : law37_ProfileMoved.L0 ((add_1, times_2, (), (), length_10, zone_11, (), i_13, ()), (o0, (o1_0, o1_1, o1_2, ()), o2, ())) = law37_ProfileMoved.f0 law37_ProfileMoved.L0 add_1 times_2 length_10 zone_11 i_13 o0 o1_0 o1_1 o1_2 o2 :=
  loop_eq (E := (law37_ProfileMoved.E second_Few.F law37_awake.F second_New.F second_Deck_Next.F second_Deck_Values.F second_Deck_Measure.F second_Deck_Length.F profile_Of.F ref37_Same.F law37_ProfileMoved.L0 law37_ProfileMoved.L1 law37_ProfileMoved.L2)) (sh := law37_ProfileMoved.s0) (es := law37_ProfileMoved.x0) (lp := true) (H := fun L x => law37_ProfileMoved.eq0 second_Few.F law37_awake.F second_New.F second_Deck_Next.F second_Deck_Values.F second_Deck_Measure.F second_Deck_Length.F profile_Of.F ref37_Same.F law37_ProfileMoved.L0 law37_ProfileMoved.L1 law37_ProfileMoved.L2 L x) ((add_1, times_2, (), (), length_10, zone_11, (), i_13, ()), (o0, (o1_0, o1_1, o1_2, ()), o2, ()))
theorem law37_ProfileMoved.L1_eq (times_2 : Int) (length_10 : Int) (zone_11 : Int) (e_16 : Int) (f_18 : Int) (o0 : List Int) (o1_0 : Int) (o1_1 : Int) (o1_2 : Int) (o1_3 : Int) (o1_4 : Int) (o2_0 : Int) (o2_1 : Int) (o2_2 : Int) (o2_3 : Int) (o2_4 : Int) (o3 : List (Int × (Int × Int))) (o4 : List (Int × (Int × Int))) (o5 : List (Int × (Int × Int))) (o6 : List (Int × (Int × Int))) (o7 : List (Int × (Int × Int))) (o8 : List (Int × (Int × Int))) : law37_ProfileMoved.L1 ((times_2, (), length_10, zone_11, (), e_16, (), f_18, ()), (o0, (o1_0, o1_1, o1_2, o1_3, o1_4, (), (), (), ()), (o2_0, o2_1, o2_2, o2_3, o2_4, (), (), (), ()), o3, o4, o5, o6, o7, o8, ())) = law37_ProfileMoved.f1 ref37_Same.F times_2 length_10 zone_11 e_16 f_18 o0 o1_0 o1_1 o1_2 o1_3 o1_4 o2_0 o2_1 o2_2 o2_3 o2_4 o3 o4 o5 o6 o7 o8 := rfl
theorem law37_ProfileMoved.L2_eq (length_10 : Int) (zone_11 : Int) (k_19 : Int) (i_22 : Int) (o0 : List Int) (o1_0 : Int) (o1_1 : Int) (o1_2 : Int) (o2 : List Int) : law37_ProfileMoved.L2 (((), length_10, zone_11, k_19, (), (), i_22, ()), (o0, (o1_0, o1_1, o1_2, ()), o2, ())) = law37_ProfileMoved.f2 law37_ProfileMoved.L2 length_10 zone_11 k_19 i_22 o0 o1_0 o1_1 o1_2 o2 :=
  loop_eq (E := (law37_ProfileMoved.E second_Few.F law37_awake.F second_New.F second_Deck_Next.F second_Deck_Values.F second_Deck_Measure.F second_Deck_Length.F profile_Of.F ref37_Same.F law37_ProfileMoved.L0 law37_ProfileMoved.L1 law37_ProfileMoved.L2)) (sh := law37_ProfileMoved.s2) (es := law37_ProfileMoved.x2) (lp := true) (H := fun L x => law37_ProfileMoved.eq2 second_Few.F law37_awake.F second_New.F second_Deck_Next.F second_Deck_Values.F second_Deck_Measure.F second_Deck_Length.F profile_Of.F ref37_Same.F law37_ProfileMoved.L0 law37_ProfileMoved.L1 law37_ProfileMoved.L2 L x) (((), length_10, zone_11, k_19, (), (), i_22, ()), (o0, (o1_0, o1_1, o1_2, ()), o2, ()))
theorem law37_ProfileMoved.F_eq (l : (List Int)) (add : Int) (times : Int) : law37_ProfileMoved.F ((l, add, times, ()), ()) = law37_ProfileMoved.f second_Few.F law37_awake.F second_New.F second_Deck_Next.F second_Deck_Values.F second_Deck_Measure.F second_Deck_Length.F profile_Of.F ref37_Same.F law37_ProfileMoved.L0 law37_ProfileMoved.L1 law37_ProfileMoved.L2 l add times := rfl
theorem law37_ProfileMoved.ok {tabs : List (Nat × Go.Obj)} (ht : TabsOk tabs) : FOK Go.Proofs.Try.prog tabs 6 (FE.of [true, true, true] false law37_ProfileMoved.sh law37_ProfileMoved.osh law37_ProfileMoved.F) := by
  refine fn_keeps (E := (law37_ProfileMoved.E second_Few.F law37_awake.F second_New.F second_Deck_Next.F second_Deck_Values.F second_Deck_Measure.F second_Deck_Length.F profile_Of.F ref37_Same.F law37_ProfileMoved.L0 law37_ProfileMoved.L1 law37_ProfileMoved.L2)) (c := law37_ProfileMoved.c) (fn := Go.Proofs.Try.f6) (hs := law37_ProfileMoved.hs) (by kernel_rfl) Go.Proofs.Try.func6 ⟨by kernel_rfl, by kernel_rfl, tb, by kernel_rfl, by kernel_rfl, by kernel_rfl, by kernel_rfl, by kernel_rfl⟩ ⟨fun g ks fe h => ?_, gt_ok ht⟩ ?_ (fun x => law37_ProfileMoved.eq second_Few.F law37_awake.F second_New.F second_Deck_Next.F second_Deck_Values.F second_Deck_Measure.F second_Deck_Length.F profile_Of.F ref37_Same.F law37_ProfileMoved.L0 law37_ProfileMoved.L1 law37_ProfileMoved.L2 x)
  · rcases c_cons h with ⟨rfl, rfl⟩ | h
    · exact second_Few.ok ht
    rcases c_cons h with ⟨rfl, rfl⟩ | h
    · exact law37_awake.ok ht
    rcases c_cons h with ⟨rfl, rfl⟩ | h
    · exact second_New.ok ht
    rcases c_cons h with ⟨rfl, rfl⟩ | h
    · exact second_Deck_Next.ok ht
    rcases c_cons h with ⟨rfl, rfl⟩ | h
    · exact second_Deck_Values.ok ht
    rcases c_cons h with ⟨rfl, rfl⟩ | h
    · exact second_Deck_Measure.ok ht
    rcases c_cons h with ⟨rfl, rfl⟩ | h
    · exact second_Deck_Length.ok ht
    rcases c_cons h with ⟨rfl, rfl⟩ | h
    · exact profile_Of.ok ht
    rcases c_cons h with ⟨rfl, rfl⟩ | h
    · exact ref37_Same.ok ht
    cases h
  · refine known_at 3 (by kernel_rfl) fun i hi => ?_
    match i, hi with
    | 0, _ => exact atom_at (id := 0) (live := [1, 2, 8, 9, 10, 11, 12, 13]) (outs := [(2, [2, 8, 9, 10, 11, 12])]) (loop := true) (by kernel_rfl) (loop_ok (E := (law37_ProfileMoved.E second_Few.F law37_awake.F second_New.F second_Deck_Next.F second_Deck_Values.F second_Deck_Measure.F second_Deck_Length.F profile_Of.F ref37_Same.F law37_ProfileMoved.L0 law37_ProfileMoved.L1 law37_ProfileMoved.L2)) (sh := law37_ProfileMoved.s0) (es := law37_ProfileMoved.x0) rfl (fun L x => law37_ProfileMoved.eq0 second_Few.F law37_awake.F second_New.F second_Deck_Next.F second_Deck_Values.F second_Deck_Measure.F second_Deck_Length.F profile_Of.F ref37_Same.F law37_ProfileMoved.L0 law37_ProfileMoved.L1 law37_ProfileMoved.L2 L x))
    | 1, _ => exact atom_at (id := 1) (live := [2, 8, 10, 11, 15, 16, 17, 18]) (outs := [(0, [2, 8, 10, 11, 104])]) (loop := false) (by kernel_rfl) (cut_ok (E := (law37_ProfileMoved.E second_Few.F law37_awake.F second_New.F second_Deck_Next.F second_Deck_Values.F second_Deck_Measure.F second_Deck_Length.F profile_Of.F ref37_Same.F law37_ProfileMoved.L0 law37_ProfileMoved.L1 law37_ProfileMoved.L2)) (sh := law37_ProfileMoved.s1) (es := law37_ProfileMoved.x1) rfl (fun L x => law37_ProfileMoved.eq1 second_Few.F law37_awake.F second_New.F second_Deck_Next.F second_Deck_Values.F second_Deck_Measure.F second_Deck_Length.F profile_Of.F ref37_Same.F law37_ProfileMoved.L0 law37_ProfileMoved.L1 law37_ProfileMoved.L2 L x))
    | 2, _ => exact atom_at (id := 2) (live := [8, 10, 11, 19, 20, 21, 22]) (outs := [(4, [8, 10, 11, 20, 21])]) (loop := true) (by kernel_rfl) (loop_ok (E := (law37_ProfileMoved.E second_Few.F law37_awake.F second_New.F second_Deck_Next.F second_Deck_Values.F second_Deck_Measure.F second_Deck_Length.F profile_Of.F ref37_Same.F law37_ProfileMoved.L0 law37_ProfileMoved.L1 law37_ProfileMoved.L2)) (sh := law37_ProfileMoved.s2) (es := law37_ProfileMoved.x2) rfl (fun L x => law37_ProfileMoved.eq2 second_Few.F law37_awake.F second_New.F second_Deck_Next.F second_Deck_Values.F second_Deck_Measure.F second_Deck_Length.F profile_Of.F ref37_Same.F law37_ProfileMoved.L0 law37_ProfileMoved.L1 law37_ProfileMoved.L2 L x))
    | n + 3, h => exact absurd h (by omega)
end Go.Proofs.Ytefcciajemkicaa.V
