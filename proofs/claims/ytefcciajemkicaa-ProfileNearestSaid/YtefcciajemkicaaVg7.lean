import Derived.Test.YtefcciajemkicaaVg6
import Derived.WalkKit
set_option linter.unusedVariables false
set_option maxRecDepth 100000
namespace Go.Proofs.Ytefcciajemkicaa.V
open Go.VI
/-! law37_ProfileNearest -/
def law37_ProfileNearest.f0 (g_profile_Valid : Y24 → Option Y142) (length_6 zone_7 e_9 f_11 : Int) (o0 : List Int) (o1_0 o1_1 o1_2 o2_0 o2_1 o2_2 o2_3 o2_4 : Int) (o3 : List Bool) (o4 o5 o6 : List Y144) : Option Y10 :=
  (bif (e_9 != (0:Int)) then
 (some (Sum.inl (((), ((), (length_6, (zone_7, ((), ((), (Bool.true, ()))))))), (o0, ((o1_0, (o1_1, (o1_2, ()))), ((o2_0, (o2_1, (o2_2, (o2_3, (o2_4, ((), ((), ((), ())))))))), (o3, (o4, (o5, (o6, ()))))))))))
 else
 (bif (f_11 != (0:Int)) then
 (some (Sum.inl (((), ((), (length_6, (zone_7, ((), ((), (Bool.true, ()))))))), (o0, ((o1_0, (o1_1, (o1_2, ()))), ((o2_0, (o2_1, (o2_2, (o2_3, (o2_4, ((), ((), ((), ())))))))), (o3, (o4, (o5, (o6, ()))))))))))
 else
 (bif ((((List.length o4) : Nat) : Int) != (((List.length o3) : Nat) : Int)) then
 (some (Sum.inl (((), ((), (length_6, (zone_7, ((), ((), (Bool.true, ()))))))), (o0, ((o1_0, (o1_1, (o1_2, ()))), ((o2_0, (o2_1, (o2_2, (o2_3, (o2_4, ((), ((), ((), ())))))))), (o3, (o4, (o5, (o6, ()))))))))))
 else
 (bif ((((List.length o5) : Nat) : Int) != (((List.length o3) : Nat) : Int)) then
 (some (Sum.inl (((), ((), (length_6, (zone_7, ((), ((), (Bool.true, ()))))))), (o0, ((o1_0, (o1_1, (o1_2, ()))), ((o2_0, (o2_1, (o2_2, (o2_3, (o2_4, ((), ((), ((), ())))))))), (o3, (o4, (o5, (o6, ()))))))))))
 else
 (bif ((((List.length o6) : Nat) : Int) != (((List.length o3) : Nat) : Int)) then
 (some (Sum.inl (((), ((), (length_6, (zone_7, ((), ((), (Bool.true, ()))))))), (o0, ((o1_0, (o1_1, (o1_2, ()))), ((o2_0, (o2_1, (o2_2, (o2_3, (o2_4, ((), ((), ((), ())))))))), (o3, (o4, (o5, (o6, ()))))))))))
 else
 (Option.bind (g_profile_Valid (((o2_0, (o2_1, (o2_2, (o2_3, (o2_4, (o4, (o5, (o6, ())))))))), ()), ())) (fun y5 =>
 (some (Sum.inl (((), ((), (length_6, (zone_7, ((), ((), ((!y5.1.1), ()))))))), (o0, ((o1_0, (o1_1, (o1_2, ()))), ((o2_0, (o2_1, (o2_2, (o2_3, (o2_4, ((), ((), ((), ())))))))), (o3, (o4, (o5, (o6, ())))))))))))))))))
theorem law37_ProfileNearest.eq0 (g_second_Few : second_Few.G) (g_law37_awake : law37_awake.G) (g_second_New : second_New.G) (g_second_Deck_Next : second_Deck_Next.G) (g_second_Deck_Values : second_Deck_Values.G) (g_second_Deck_Measure : second_Deck_Measure.G) (g_second_Deck_Length : second_Deck_Length.G) (g_profile_Of : profile_Of.G) (g_profile_Windows : profile_Windows.G) (g_profile_Valid : profile_Valid.G) (g_ref17_Distance : ref17_Distance.G) (g_profile_Nearer : profile_Nearer.G) (l0 : law37_ProfileNearest.A0) (l1 : law37_ProfileNearest.A1) (l2 : law37_ProfileNearest.A2) (l3 : law37_ProfileNearest.A3) (l4 : law37_ProfileNearest.A4) (L : law37_ProfileNearest.A0) (x : law37_ProfileNearest.s0.X) : rndO (law37_ProfileNearest.E g_second_Few g_law37_awake g_second_New g_second_Deck_Next g_second_Deck_Values g_second_Deck_Measure g_second_Deck_Length g_profile_Of g_profile_Windows g_profile_Valid g_ref17_Distance g_profile_Nearer l0 l1 l2 l3 l4) law37_ProfileNearest.hs law37_ProfileNearest.c law37_ProfileNearest.s0 law37_ProfileNearest.x0 0 false L x = law37_ProfileNearest.f0 g_profile_Valid x.1.2.2.1 x.1.2.2.2.1 x.1.2.2.2.2.2.1 x.1.2.2.2.2.2.2.2.1 x.2.1 x.2.2.1.1 x.2.2.1.2.1 x.2.2.1.2.2.1 x.2.2.2.1.1 x.2.2.2.1.2.1 x.2.2.2.1.2.2.1 x.2.2.2.1.2.2.2.1 x.2.2.2.1.2.2.2.2.1 x.2.2.2.2.1 x.2.2.2.2.2.1 x.2.2.2.2.2.2.1 x.2.2.2.2.2.2.2.1 := by
  show _ = (_ : Option _)
  kernel_rfl
noncomputable def law37_ProfileNearest.L0 : Y11 → Option Y10 := fun x => law37_ProfileNearest.f0 profile_Valid.F x.1.2.2.1 x.1.2.2.2.1 x.1.2.2.2.2.2.1 x.1.2.2.2.2.2.2.2.1 x.2.1 x.2.2.1.1 x.2.2.1.2.1 x.2.2.1.2.2.1 x.2.2.2.1.1 x.2.2.2.1.2.1 x.2.2.2.1.2.2.1 x.2.2.2.1.2.2.2.1 x.2.2.2.1.2.2.2.2.1 x.2.2.2.2.1 x.2.2.2.2.2.1 x.2.2.2.2.2.2.1 x.2.2.2.2.2.2.2.1
def law37_ProfileNearest.f3 (length_6 zone_7 i_12 : Int) (some_13 : Bool) (k_14 : Int) (o0 : List Int) (o1_0 o1_1 o1_2 o2_0 o2_1 o2_2 o2_3 o2_4 : Int) (o3 : List Bool) (o4 o5 o6 : List Y144) : Option Y8 :=
  (bif (decide ((0:Int) ≤ i_12)) then
 (bif (decide (i_12 < (((List.length o3) : Nat) : Int))) then
 (bif (!(List.getD o3 (Int.toNat i_12) Bool.false)) then
 (some (Sum.inl (((), ((), (length_6, (zone_7, ((), ((), (i_12, (some_13, (k_14, (Bool.true, ())))))))))), (o0, ((o1_0, (o1_1, (o1_2, ()))), ((o2_0, (o2_1, (o2_2, (o2_3, (o2_4, ((), ((), ((), ())))))))), (o3, (o4, (o5, (o6, ()))))))))))
 else
 (bif (decide ((0:Int) ≤ k_14)) then
 (bif (decide (k_14 < (((List.length o3) : Nat) : Int))) then
 (bif (!(List.getD o3 (Int.toNat k_14) Bool.false)) then
 (some (Sum.inl (((), ((), (length_6, (zone_7, ((), ((), (i_12, (some_13, (k_14, (Bool.true, ())))))))))), (o0, ((o1_0, (o1_1, (o1_2, ()))), ((o2_0, (o2_1, (o2_2, (o2_3, (o2_4, ((), ((), ((), ())))))))), (o3, (o4, (o5, (o6, ()))))))))))
 else
 (bif (decide ((Go.IntKind.wrap Go.IntKind.i64 (k_14 - i_12)) < zone_7)) then
 (some (Sum.inl (((), ((), (length_6, (zone_7, ((), ((), (i_12, (some_13, (k_14, ((decide ((Go.IntKind.wrap Go.IntKind.i64 (i_12 - k_14)) < zone_7)), ())))))))))), (o0, ((o1_0, (o1_1, (o1_2, ()))), ((o2_0, (o2_1, (o2_2, (o2_3, (o2_4, ((), ((), ((), ())))))))), (o3, (o4, (o5, (o6, ()))))))))))
 else
 (some (Sum.inl (((), ((), (length_6, (zone_7, ((), ((), (i_12, (some_13, (k_14, (Bool.false, ())))))))))), (o0, ((o1_0, (o1_1, (o1_2, ()))), ((o2_0, (o2_1, (o2_2, (o2_3, (o2_4, ((), ((), ((), ())))))))), (o3, (o4, (o5, (o6, ()))))))))))))
 else
 none)
 else
 none))
 else
 none)
 else
 none)
theorem law37_ProfileNearest.eq3 (g_second_Few : second_Few.G) (g_law37_awake : law37_awake.G) (g_second_New : second_New.G) (g_second_Deck_Next : second_Deck_Next.G) (g_second_Deck_Values : second_Deck_Values.G) (g_second_Deck_Measure : second_Deck_Measure.G) (g_second_Deck_Length : second_Deck_Length.G) (g_profile_Of : profile_Of.G) (g_profile_Windows : profile_Windows.G) (g_profile_Valid : profile_Valid.G) (g_ref17_Distance : ref17_Distance.G) (g_profile_Nearer : profile_Nearer.G) (l0 : law37_ProfileNearest.A0) (l1 : law37_ProfileNearest.A1) (l2 : law37_ProfileNearest.A2) (l3 : law37_ProfileNearest.A3) (l4 : law37_ProfileNearest.A4) (L : law37_ProfileNearest.A3) (x : law37_ProfileNearest.s3.X) : rndO (law37_ProfileNearest.E g_second_Few g_law37_awake g_second_New g_second_Deck_Next g_second_Deck_Values g_second_Deck_Measure g_second_Deck_Length g_profile_Of g_profile_Windows g_profile_Valid g_ref17_Distance g_profile_Nearer l0 l1 l2 l3 l4) law37_ProfileNearest.hs law37_ProfileNearest.c law37_ProfileNearest.s3 law37_ProfileNearest.x3 3 false L x = law37_ProfileNearest.f3 x.1.2.2.1 x.1.2.2.2.1 x.1.2.2.2.2.2.2.1 x.1.2.2.2.2.2.2.2.1 x.1.2.2.2.2.2.2.2.2.1 x.2.1 x.2.2.1.1 x.2.2.1.2.1 x.2.2.1.2.2.1 x.2.2.2.1.1 x.2.2.2.1.2.1 x.2.2.2.1.2.2.1 x.2.2.2.1.2.2.2.1 x.2.2.2.1.2.2.2.2.1 x.2.2.2.2.1 x.2.2.2.2.2.1 x.2.2.2.2.2.2.1 x.2.2.2.2.2.2.2.1 := by
  show _ = (_ : Option _)
  kernel_rfl
noncomputable def law37_ProfileNearest.L3 : Y9 → Option Y8 := fun x => law37_ProfileNearest.f3 x.1.2.2.1 x.1.2.2.2.1 x.1.2.2.2.2.2.2.1 x.1.2.2.2.2.2.2.2.1 x.1.2.2.2.2.2.2.2.2.1 x.2.1 x.2.2.1.1 x.2.2.1.2.1 x.2.2.1.2.2.1 x.2.2.2.1.1 x.2.2.2.1.2.1 x.2.2.2.1.2.2.1 x.2.2.2.1.2.2.2.1 x.2.2.2.1.2.2.2.2.1 x.2.2.2.2.1 x.2.2.2.2.2.1 x.2.2.2.2.2.2.1 x.2.2.2.2.2.2.2.1
def law37_ProfileNearest.f4 (g_profile_Nearer : Y83 → Option Y142) (length_6 zone_7 i_12 : Int) (some_13 : Bool) (k_14 g_16 : Int) (o0 : List Int) (o1_0 o1_1 o1_2 o2_0 o2_1 o2_2 o2_3 o2_4 : Int) (o3 : List Bool) (o4_0 o4_1 o4_2 : Int) (o5 o6 o7 : List Y144) : Option Y8 :=
  (bif (g_16 != (0:Int)) then
 (some (Sum.inl (((), ((), (length_6, (zone_7, ((), ((), (i_12, (some_13, (k_14, (Bool.true, ())))))))))), (o0, ((o1_0, (o1_1, (o1_2, ()))), ((o2_0, (o2_1, (o2_2, (o2_3, (o2_4, ((), ((), ((), ())))))))), (o3, (o5, (o6, (o7, ()))))))))))
 else
 (bif (decide ((0:Int) ≤ i_12)) then
 (bif (decide (i_12 < (((List.length o5) : Nat) : Int))) then
 (Option.bind (g_profile_Nearer (((o4_0, (o4_1, (o4_2, ()))), (((List.getD o5 (Int.toNat i_12) ((0:Int), ((0:Int), (0:Int)))).1, ((List.getD o5 (Int.toNat i_12) ((0:Int), ((0:Int), (0:Int)))).2.1, ((List.getD o5 (Int.toNat i_12) ((0:Int), ((0:Int), (0:Int)))).2.2, ()))), ())), ())) (fun y3 =>
 (bif y3.1.1 then
 (some (Sum.inl (((), ((), (length_6, (zone_7, ((), ((), (i_12, (some_13, (k_14, (Bool.true, ())))))))))), (o0, ((o1_0, (o1_1, (o1_2, ()))), ((o2_0, (o2_1, (o2_2, (o2_3, (o2_4, ((), ((), ((), ())))))))), (o3, (o5, (o6, (o7, ()))))))))))
 else
 (bif (decide (k_14 < i_12)) then
 (bif (decide ((0:Int) ≤ i_12)) then
 (bif (decide (i_12 < (((List.length o6) : Nat) : Int))) then
 (Option.bind (g_profile_Nearer (((o4_0, (o4_1, (o4_2, ()))), (((List.getD o6 (Int.toNat i_12) ((0:Int), ((0:Int), (0:Int)))).1, ((List.getD o6 (Int.toNat i_12) ((0:Int), ((0:Int), (0:Int)))).2.1, ((List.getD o6 (Int.toNat i_12) ((0:Int), ((0:Int), (0:Int)))).2.2, ()))), ())), ())) (fun y8 =>
 (bif y8.1.1 then
 (some (Sum.inl (((), ((), (length_6, (zone_7, ((), ((), (i_12, (some_13, (k_14, (Bool.true, ())))))))))), (o0, ((o1_0, (o1_1, (o1_2, ()))), ((o2_0, (o2_1, (o2_2, (o2_3, (o2_4, ((), ((), ((), ())))))))), (o3, (o5, (o6, (o7, ()))))))))))
 else
 (bif (decide (k_14 > i_12)) then
 (bif (decide ((0:Int) ≤ i_12)) then
 (bif (decide (i_12 < (((List.length o7) : Nat) : Int))) then
 (Option.bind (g_profile_Nearer (((o4_0, (o4_1, (o4_2, ()))), (((List.getD o7 (Int.toNat i_12) ((0:Int), ((0:Int), (0:Int)))).1, ((List.getD o7 (Int.toNat i_12) ((0:Int), ((0:Int), (0:Int)))).2.1, ((List.getD o7 (Int.toNat i_12) ((0:Int), ((0:Int), (0:Int)))).2.2, ()))), ())), ())) (fun y13 =>
 (bif y13.1.1 then
 (some (Sum.inl (((), ((), (length_6, (zone_7, ((), ((), (i_12, (some_13, (k_14, (Bool.true, ())))))))))), (o0, ((o1_0, (o1_1, (o1_2, ()))), ((o2_0, (o2_1, (o2_2, (o2_3, (o2_4, ((), ((), ((), ())))))))), (o3, (o5, (o6, (o7, ()))))))))))
 else
 (bif (decide ((0:Int) ≤ i_12)) then
 (bif (decide (i_12 < (((List.length o5) : Nat) : Int))) then
 (bif ((List.getD o5 (Int.toNat i_12) ((0:Int), ((0:Int), (0:Int)))).1 == k_14) then
 (bif (decide ((0:Int) ≤ i_12)) then
 (bif (decide (i_12 < (((List.length o5) : Nat) : Int))) then
 (some (Sum.inl (((), ((), (length_6, (zone_7, ((), ((), (i_12, (some_13, (k_14, ((!(((List.getD o5 (Int.toNat i_12) ((0:Int), ((0:Int), (0:Int)))).1 == o4_0) && ((((List.getD o5 (Int.toNat i_12) ((0:Int), ((0:Int), (0:Int)))).2.1 == o4_1) && (((List.getD o5 (Int.toNat i_12) ((0:Int), ((0:Int), (0:Int)))).2.2 == o4_2) && Bool.true)) && Bool.true))), ())))))))))), (o0, ((o1_0, (o1_1, (o1_2, ()))), ((o2_0, (o2_1, (o2_2, (o2_3, (o2_4, ((), ((), ((), ())))))))), (o3, (o5, (o6, (o7, ()))))))))))
 else
 none)
 else
 none)
 else
 (some (Sum.inl (((), ((), (length_6, (zone_7, ((), ((), (i_12, (some_13, (k_14, (Bool.false, ())))))))))), (o0, ((o1_0, (o1_1, (o1_2, ()))), ((o2_0, (o2_1, (o2_2, (o2_3, (o2_4, ((), ((), ((), ())))))))), (o3, (o5, (o6, (o7, ())))))))))))
 else
 none)
 else
 none))))
 else
 none)
 else
 none)
 else
 (bif (decide ((0:Int) ≤ i_12)) then
 (bif (decide (i_12 < (((List.length o5) : Nat) : Int))) then
 (bif ((List.getD o5 (Int.toNat i_12) ((0:Int), ((0:Int), (0:Int)))).1 == k_14) then
 (bif (decide ((0:Int) ≤ i_12)) then
 (bif (decide (i_12 < (((List.length o5) : Nat) : Int))) then
 (some (Sum.inl (((), ((), (length_6, (zone_7, ((), ((), (i_12, (some_13, (k_14, ((!(((List.getD o5 (Int.toNat i_12) ((0:Int), ((0:Int), (0:Int)))).1 == o4_0) && ((((List.getD o5 (Int.toNat i_12) ((0:Int), ((0:Int), (0:Int)))).2.1 == o4_1) && (((List.getD o5 (Int.toNat i_12) ((0:Int), ((0:Int), (0:Int)))).2.2 == o4_2) && Bool.true)) && Bool.true))), ())))))))))), (o0, ((o1_0, (o1_1, (o1_2, ()))), ((o2_0, (o2_1, (o2_2, (o2_3, (o2_4, ((), ((), ((), ())))))))), (o3, (o5, (o6, (o7, ()))))))))))
 else
 none)
 else
 none)
 else
 (some (Sum.inl (((), ((), (length_6, (zone_7, ((), ((), (i_12, (some_13, (k_14, (Bool.false, ())))))))))), (o0, ((o1_0, (o1_1, (o1_2, ()))), ((o2_0, (o2_1, (o2_2, (o2_3, (o2_4, ((), ((), ((), ())))))))), (o3, (o5, (o6, (o7, ())))))))))))
 else
 none)
 else
 none)))))
 else
 none)
 else
 none)
 else
 (bif (decide (k_14 > i_12)) then
 (bif (decide ((0:Int) ≤ i_12)) then
 (bif (decide (i_12 < (((List.length o7) : Nat) : Int))) then
 (Option.bind (g_profile_Nearer (((o4_0, (o4_1, (o4_2, ()))), (((List.getD o7 (Int.toNat i_12) ((0:Int), ((0:Int), (0:Int)))).1, ((List.getD o7 (Int.toNat i_12) ((0:Int), ((0:Int), (0:Int)))).2.1, ((List.getD o7 (Int.toNat i_12) ((0:Int), ((0:Int), (0:Int)))).2.2, ()))), ())), ())) (fun y9 =>
 (bif y9.1.1 then
 (some (Sum.inl (((), ((), (length_6, (zone_7, ((), ((), (i_12, (some_13, (k_14, (Bool.true, ())))))))))), (o0, ((o1_0, (o1_1, (o1_2, ()))), ((o2_0, (o2_1, (o2_2, (o2_3, (o2_4, ((), ((), ((), ())))))))), (o3, (o5, (o6, (o7, ()))))))))))
 else
 (bif (decide ((0:Int) ≤ i_12)) then
 (bif (decide (i_12 < (((List.length o5) : Nat) : Int))) then
 (bif ((List.getD o5 (Int.toNat i_12) ((0:Int), ((0:Int), (0:Int)))).1 == k_14) then
 (bif (decide ((0:Int) ≤ i_12)) then
 (bif (decide (i_12 < (((List.length o5) : Nat) : Int))) then
 (some (Sum.inl (((), ((), (length_6, (zone_7, ((), ((), (i_12, (some_13, (k_14, ((!(((List.getD o5 (Int.toNat i_12) ((0:Int), ((0:Int), (0:Int)))).1 == o4_0) && ((((List.getD o5 (Int.toNat i_12) ((0:Int), ((0:Int), (0:Int)))).2.1 == o4_1) && (((List.getD o5 (Int.toNat i_12) ((0:Int), ((0:Int), (0:Int)))).2.2 == o4_2) && Bool.true)) && Bool.true))), ())))))))))), (o0, ((o1_0, (o1_1, (o1_2, ()))), ((o2_0, (o2_1, (o2_2, (o2_3, (o2_4, ((), ((), ((), ())))))))), (o3, (o5, (o6, (o7, ()))))))))))
 else
 none)
 else
 none)
 else
 (some (Sum.inl (((), ((), (length_6, (zone_7, ((), ((), (i_12, (some_13, (k_14, (Bool.false, ())))))))))), (o0, ((o1_0, (o1_1, (o1_2, ()))), ((o2_0, (o2_1, (o2_2, (o2_3, (o2_4, ((), ((), ((), ())))))))), (o3, (o5, (o6, (o7, ())))))))))))
 else
 none)
 else
 none))))
 else
 none)
 else
 none)
 else
 (bif (decide ((0:Int) ≤ i_12)) then
 (bif (decide (i_12 < (((List.length o5) : Nat) : Int))) then
 (bif ((List.getD o5 (Int.toNat i_12) ((0:Int), ((0:Int), (0:Int)))).1 == k_14) then
 (bif (decide ((0:Int) ≤ i_12)) then
 (bif (decide (i_12 < (((List.length o5) : Nat) : Int))) then
 (some (Sum.inl (((), ((), (length_6, (zone_7, ((), ((), (i_12, (some_13, (k_14, ((!(((List.getD o5 (Int.toNat i_12) ((0:Int), ((0:Int), (0:Int)))).1 == o4_0) && ((((List.getD o5 (Int.toNat i_12) ((0:Int), ((0:Int), (0:Int)))).2.1 == o4_1) && (((List.getD o5 (Int.toNat i_12) ((0:Int), ((0:Int), (0:Int)))).2.2 == o4_2) && Bool.true)) && Bool.true))), ())))))))))), (o0, ((o1_0, (o1_1, (o1_2, ()))), ((o2_0, (o2_1, (o2_2, (o2_3, (o2_4, ((), ((), ((), ())))))))), (o3, (o5, (o6, (o7, ()))))))))))
 else
 none)
 else
 none)
 else
 (some (Sum.inl (((), ((), (length_6, (zone_7, ((), ((), (i_12, (some_13, (k_14, (Bool.false, ())))))))))), (o0, ((o1_0, (o1_1, (o1_2, ()))), ((o2_0, (o2_1, (o2_2, (o2_3, (o2_4, ((), ((), ((), ())))))))), (o3, (o5, (o6, (o7, ())))))))))))
 else
 none)
 else
 none))))))
 else
 none)
 else
 none))
theorem law37_ProfileNearest.eq4 (g_second_Few : second_Few.G) (g_law37_awake : law37_awake.G) (g_second_New : second_New.G) (g_second_Deck_Next : second_Deck_Next.G) (g_second_Deck_Values : second_Deck_Values.G) (g_second_Deck_Measure : second_Deck_Measure.G) (g_second_Deck_Length : second_Deck_Length.G) (g_profile_Of : profile_Of.G) (g_profile_Windows : profile_Windows.G) (g_profile_Valid : profile_Valid.G) (g_ref17_Distance : ref17_Distance.G) (g_profile_Nearer : profile_Nearer.G) (l0 : law37_ProfileNearest.A0) (l1 : law37_ProfileNearest.A1) (l2 : law37_ProfileNearest.A2) (l3 : law37_ProfileNearest.A3) (l4 : law37_ProfileNearest.A4) (L : law37_ProfileNearest.A4) (x : law37_ProfileNearest.s4.X) : rndO (law37_ProfileNearest.E g_second_Few g_law37_awake g_second_New g_second_Deck_Next g_second_Deck_Values g_second_Deck_Measure g_second_Deck_Length g_profile_Of g_profile_Windows g_profile_Valid g_ref17_Distance g_profile_Nearer l0 l1 l2 l3 l4) law37_ProfileNearest.hs law37_ProfileNearest.c law37_ProfileNearest.s4 law37_ProfileNearest.x4 4 false L x = law37_ProfileNearest.f4 g_profile_Nearer x.1.2.2.1 x.1.2.2.2.1 x.1.2.2.2.2.2.2.1 x.1.2.2.2.2.2.2.2.1 x.1.2.2.2.2.2.2.2.2.1 x.1.2.2.2.2.2.2.2.2.2.1 x.2.1 x.2.2.1.1 x.2.2.1.2.1 x.2.2.1.2.2.1 x.2.2.2.1.1 x.2.2.2.1.2.1 x.2.2.2.1.2.2.1 x.2.2.2.1.2.2.2.1 x.2.2.2.1.2.2.2.2.1 x.2.2.2.2.1 x.2.2.2.2.2.1.1 x.2.2.2.2.2.1.2.1 x.2.2.2.2.2.1.2.2.1 x.2.2.2.2.2.2.1 x.2.2.2.2.2.2.2.1 x.2.2.2.2.2.2.2.2.1 := by
  show _ = (_ : Option _)
  kernel_rfl
noncomputable def law37_ProfileNearest.L4 : Y6 → Option Y8 := fun x => law37_ProfileNearest.f4 profile_Nearer.F x.1.2.2.1 x.1.2.2.2.1 x.1.2.2.2.2.2.2.1 x.1.2.2.2.2.2.2.2.1 x.1.2.2.2.2.2.2.2.2.1 x.1.2.2.2.2.2.2.2.2.2.1 x.2.1 x.2.2.1.1 x.2.2.1.2.1 x.2.2.1.2.2.1 x.2.2.2.1.1 x.2.2.2.1.2.1 x.2.2.2.1.2.2.1 x.2.2.2.1.2.2.2.1 x.2.2.2.1.2.2.2.2.1 x.2.2.2.2.1 x.2.2.2.2.2.1.1 x.2.2.2.2.2.1.2.1 x.2.2.2.2.2.1.2.2.1 x.2.2.2.2.2.2.1 x.2.2.2.2.2.2.2.1 x.2.2.2.2.2.2.2.2.1
def law37_ProfileNearest.f2 (g_ref17_Distance : Y84 → Option Y122) (l3 : Y9 → Option Y8) (l4 : Y6 → Option Y8) (L : Y9 → Option Y7) (length_6 zone_7 i_12 : Int) (some_13 : Bool) (k_14 : Int) (o0 : List Int) (o1_0 o1_1 o1_2 o2_0 o2_1 o2_2 o2_3 o2_4 : Int) (o3 : List Bool) (o4 o5 o6 : List Y144) : Option Y7 :=
  (bif (decide (k_14 < (((List.length o3) : Nat) : Int))) then
 (Option.bind (l3 (((), ((), (length_6, (zone_7, ((), ((), (i_12, (some_13, (k_14, ()))))))))), (o0, ((o1_0, (o1_1, (o1_2, ()))), ((o2_0, (o2_1, (o2_2, (o2_3, (o2_4, ((), ((), ((), ())))))))), (o3, (o4, (o5, (o6, ()))))))))) (fun y1 =>
 (Sum.elim (fun a2 =>
 (bif a2.1.2.2.2.2.2.2.2.2.2.1 then
 (Option.bind (L (((), ((), (a2.1.2.2.1, (a2.1.2.2.2.1, ((), ((), (a2.1.2.2.2.2.2.2.1, (a2.1.2.2.2.2.2.2.2.1, ((Go.IntKind.wrap Go.IntKind.i64 (a2.1.2.2.2.2.2.2.2.2.1 + (1:Int))), ()))))))))), (a2.2.1, ((a2.2.2.1.1, (a2.2.2.1.2.1, (a2.2.2.1.2.2.1, ()))), ((a2.2.2.2.1.1, (a2.2.2.2.1.2.1, (a2.2.2.2.1.2.2.1, (a2.2.2.2.1.2.2.2.1, (a2.2.2.2.1.2.2.2.2.1, ((), ((), ((), ())))))))), (a2.2.2.2.2.1, (a2.2.2.2.2.2.1, (a2.2.2.2.2.2.2.1, (a2.2.2.2.2.2.2.2.1, ()))))))))) (fun y4 =>
 (some y4)))
 else
 (bif (decide ((0:Int) ≤ a2.1.2.2.2.2.2.2.1)) then
 (bif (decide (a2.1.2.2.2.2.2.2.1 ≤ (Go.IntKind.wrap Go.IntKind.i64 (a2.1.2.2.2.2.2.2.1 + a2.1.2.2.1)))) then
 (bif (decide ((Go.IntKind.wrap Go.IntKind.i64 (a2.1.2.2.2.2.2.2.1 + a2.1.2.2.1)) ≤ (((List.length a2.2.1) : Nat) : Int))) then
 (bif (decide ((0:Int) ≤ a2.1.2.2.2.2.2.2.2.2.1)) then
 (bif (decide (a2.1.2.2.2.2.2.2.2.2.1 ≤ (Go.IntKind.wrap Go.IntKind.i64 (a2.1.2.2.2.2.2.2.2.2.1 + a2.1.2.2.1)))) then
 (bif (decide ((Go.IntKind.wrap Go.IntKind.i64 (a2.1.2.2.2.2.2.2.2.2.1 + a2.1.2.2.1)) ≤ (((List.length a2.2.1) : Nat) : Int))) then
 (Option.bind (g_ref17_Distance (((a2.2.2.1.1, (a2.2.2.1.2.1, (a2.2.2.1.2.2.1, ()))), ((List.drop (Int.toNat a2.1.2.2.2.2.2.2.1) (List.take (Int.toNat (Go.IntKind.wrap Go.IntKind.i64 (a2.1.2.2.2.2.2.2.1 + a2.1.2.2.1))) a2.2.1)), ((List.drop (Int.toNat a2.1.2.2.2.2.2.2.2.2.1) (List.take (Int.toNat (Go.IntKind.wrap Go.IntKind.i64 (a2.1.2.2.2.2.2.2.2.2.1 + a2.1.2.2.1))) a2.2.1)), ()))), ())) (fun y10 =>
 (Option.bind (l4 (((), ((), (a2.1.2.2.1, (a2.1.2.2.2.1, ((), ((), (a2.1.2.2.2.2.2.2.1, (Bool.true, (a2.1.2.2.2.2.2.2.2.2.1, (y10.1.2.1, ((), ()))))))))))), (a2.2.1, ((a2.2.2.1.1, (a2.2.2.1.2.1, (a2.2.2.1.2.2.1, ()))), ((a2.2.2.2.1.1, (a2.2.2.2.1.2.1, (a2.2.2.2.1.2.2.1, (a2.2.2.2.1.2.2.2.1, (a2.2.2.2.1.2.2.2.2.1, ((), ((), ((), ())))))))), (a2.2.2.2.2.1, ((a2.1.2.2.2.2.2.2.2.2.1, (y10.1.1.1, (y10.1.1.2.1, ()))), (a2.2.2.2.2.2.1, (a2.2.2.2.2.2.2.1, (a2.2.2.2.2.2.2.2.1, ())))))))))) (fun y11 =>
 (Sum.elim (fun a12 =>
 (bif a12.1.2.2.2.2.2.2.2.2.2.1 then
 (some (Sum.inr (Sum.inl ((Bool.false, ()), ()))))
 else
 (Option.bind (L (((), ((), (a12.1.2.2.1, (a12.1.2.2.2.1, ((), ((), (a12.1.2.2.2.2.2.2.1, (a12.1.2.2.2.2.2.2.2.1, ((Go.IntKind.wrap Go.IntKind.i64 (a12.1.2.2.2.2.2.2.2.2.1 + (1:Int))), ()))))))))), (a12.2.1, ((a12.2.2.1.1, (a12.2.2.1.2.1, (a12.2.2.1.2.2.1, ()))), ((a12.2.2.2.1.1, (a12.2.2.2.1.2.1, (a12.2.2.2.1.2.2.1, (a12.2.2.2.1.2.2.2.1, (a12.2.2.2.1.2.2.2.2.1, ((), ((), ((), ())))))))), (a12.2.2.2.2.1, (a12.2.2.2.2.2.1, (a12.2.2.2.2.2.2.1, (a12.2.2.2.2.2.2.2.1, ()))))))))) (fun y14 =>
 (some y14))))) (fun b12 =>
 (Empty.elim b12)) y11)))))
 else
 none)
 else
 none)
 else
 none)
 else
 none)
 else
 none)
 else
 none))) (fun b2 =>
 (Empty.elim b2)) y1)))
 else
 (some (Sum.inl (((), ((), (length_6, (zone_7, ((), ((), (i_12, (some_13, ())))))))), (o0, ((o1_0, (o1_1, (o1_2, ()))), ((o2_0, (o2_1, (o2_2, (o2_3, (o2_4, ((), ((), ((), ())))))))), (o3, (o4, (o5, (o6, ())))))))))))
theorem law37_ProfileNearest.eq2 (g_second_Few : second_Few.G) (g_law37_awake : law37_awake.G) (g_second_New : second_New.G) (g_second_Deck_Next : second_Deck_Next.G) (g_second_Deck_Values : second_Deck_Values.G) (g_second_Deck_Measure : second_Deck_Measure.G) (g_second_Deck_Length : second_Deck_Length.G) (g_profile_Of : profile_Of.G) (g_profile_Windows : profile_Windows.G) (g_profile_Valid : profile_Valid.G) (g_ref17_Distance : ref17_Distance.G) (g_profile_Nearer : profile_Nearer.G) (l0 : law37_ProfileNearest.A0) (l1 : law37_ProfileNearest.A1) (l2 : law37_ProfileNearest.A2) (l3 : law37_ProfileNearest.A3) (l4 : law37_ProfileNearest.A4) (L : law37_ProfileNearest.A2) (x : law37_ProfileNearest.s2.X) : rndO (law37_ProfileNearest.E g_second_Few g_law37_awake g_second_New g_second_Deck_Next g_second_Deck_Values g_second_Deck_Measure g_second_Deck_Length g_profile_Of g_profile_Windows g_profile_Valid g_ref17_Distance g_profile_Nearer l0 l1 l2 l3 l4) law37_ProfileNearest.hs law37_ProfileNearest.c law37_ProfileNearest.s2 law37_ProfileNearest.x2 2 true L x = law37_ProfileNearest.f2 g_ref17_Distance l3 l4 L x.1.2.2.1 x.1.2.2.2.1 x.1.2.2.2.2.2.2.1 x.1.2.2.2.2.2.2.2.1 x.1.2.2.2.2.2.2.2.2.1 x.2.1 x.2.2.1.1 x.2.2.1.2.1 x.2.2.1.2.2.1 x.2.2.2.1.1 x.2.2.2.1.2.1 x.2.2.2.1.2.2.1 x.2.2.2.1.2.2.2.1 x.2.2.2.1.2.2.2.2.1 x.2.2.2.2.1 x.2.2.2.2.2.1 x.2.2.2.2.2.2.1 x.2.2.2.2.2.2.2.1 := by
  show _ = (_ : Option _)
  kernel_rfl
noncomputable def law37_ProfileNearest.L2 : Y9 → Option Y7 := loop fun L x => law37_ProfileNearest.f2 ref17_Distance.F law37_ProfileNearest.L3 law37_ProfileNearest.L4 L x.1.2.2.1 x.1.2.2.2.1 x.1.2.2.2.2.2.2.1 x.1.2.2.2.2.2.2.2.1 x.1.2.2.2.2.2.2.2.2.1 x.2.1 x.2.2.1.1 x.2.2.1.2.1 x.2.2.1.2.2.1 x.2.2.2.1.1 x.2.2.2.1.2.1 x.2.2.2.1.2.2.1 x.2.2.2.1.2.2.2.1 x.2.2.2.1.2.2.2.2.1 x.2.2.2.2.1 x.2.2.2.2.2.1 x.2.2.2.2.2.2.1 x.2.2.2.2.2.2.2.1
def law37_ProfileNearest.f1 (l2 : Y9 → Option Y7) (L : Y12 → Option Y108) (length_6 zone_7 i_12 : Int) (o0 : List Int) (o1_0 o1_1 o1_2 o2_0 o2_1 o2_2 o2_3 o2_4 : Int) (o3 : List Bool) (o4 o5 o6 : List Y144) : Option Y108 :=
  (bif (decide (i_12 < (((List.length o3) : Nat) : Int))) then
 (Option.bind (l2 (((), ((), (length_6, (zone_7, ((), ((), (i_12, (Bool.false, ((0:Int), ()))))))))), (o0, ((o1_0, (o1_1, (o1_2, ()))), ((o2_0, (o2_1, (o2_2, (o2_3, (o2_4, ((), ((), ((), ())))))))), (o3, (o4, (o5, (o6, ()))))))))) (fun y1 =>
 (Sum.elim (fun a2 =>
 (bif (decide ((0:Int) ≤ a2.1.2.2.2.2.2.2.1)) then
 (bif (decide (a2.1.2.2.2.2.2.2.1 < (((List.length a2.2.2.2.2.2.1) : Nat) : Int))) then
 (bif (!(a2.1.2.2.2.2.2.2.2.1 == (decide ((List.getD a2.2.2.2.2.2.1 (Int.toNat a2.1.2.2.2.2.2.2.1) ((0:Int), ((0:Int), (0:Int)))).1 ≥ (0:Int))))) then
 (some (Sum.inr (Sum.inl ((Bool.false, ()), ()))))
 else
 (Option.bind (L (((), ((), (a2.1.2.2.1, (a2.1.2.2.2.1, ((), ((), ((Go.IntKind.wrap Go.IntKind.i64 (a2.1.2.2.2.2.2.2.1 + (1:Int))), ()))))))), (a2.2.1, ((a2.2.2.1.1, (a2.2.2.1.2.1, (a2.2.2.1.2.2.1, ()))), ((a2.2.2.2.1.1, (a2.2.2.2.1.2.1, (a2.2.2.2.1.2.2.1, (a2.2.2.2.1.2.2.2.1, (a2.2.2.2.1.2.2.2.2.1, ((), ((), ((), ())))))))), (a2.2.2.2.2.1, (a2.2.2.2.2.2.1, (a2.2.2.2.2.2.2.1, (a2.2.2.2.2.2.2.2.1, ()))))))))) (fun y6 =>
 (some y6))))
 else
 none)
 else
 none)) (fun b2 =>
 (Sum.elim (fun a3 =>
 (some (Sum.inr (Sum.inl ((a3.1.1, ()), ()))))) (fun b3 =>
 (Empty.elim b3)) b2)) y1)))
 else
 (some (Sum.inl ((), ()))))
theorem law37_ProfileNearest.eq1 (g_second_Few : second_Few.G) (g_law37_awake : law37_awake.G) (g_second_New : second_New.G) (g_second_Deck_Next : second_Deck_Next.G) (g_second_Deck_Values : second_Deck_Values.G) (g_second_Deck_Measure : second_Deck_Measure.G) (g_second_Deck_Length : second_Deck_Length.G) (g_profile_Of : profile_Of.G) (g_profile_Windows : profile_Windows.G) (g_profile_Valid : profile_Valid.G) (g_ref17_Distance : ref17_Distance.G) (g_profile_Nearer : profile_Nearer.G) (l0 : law37_ProfileNearest.A0) (l1 : law37_ProfileNearest.A1) (l2 : law37_ProfileNearest.A2) (l3 : law37_ProfileNearest.A3) (l4 : law37_ProfileNearest.A4) (L : law37_ProfileNearest.A1) (x : law37_ProfileNearest.s1.X) : rndO (law37_ProfileNearest.E g_second_Few g_law37_awake g_second_New g_second_Deck_Next g_second_Deck_Values g_second_Deck_Measure g_second_Deck_Length g_profile_Of g_profile_Windows g_profile_Valid g_ref17_Distance g_profile_Nearer l0 l1 l2 l3 l4) law37_ProfileNearest.hs law37_ProfileNearest.c law37_ProfileNearest.s1 law37_ProfileNearest.x1 1 true L x = law37_ProfileNearest.f1 l2 L x.1.2.2.1 x.1.2.2.2.1 x.1.2.2.2.2.2.2.1 x.2.1 x.2.2.1.1 x.2.2.1.2.1 x.2.2.1.2.2.1 x.2.2.2.1.1 x.2.2.2.1.2.1 x.2.2.2.1.2.2.1 x.2.2.2.1.2.2.2.1 x.2.2.2.1.2.2.2.2.1 x.2.2.2.2.1 x.2.2.2.2.2.1 x.2.2.2.2.2.2.1 x.2.2.2.2.2.2.2.1 := by
  show _ = (_ : Option _)
  kernel_rfl
noncomputable def law37_ProfileNearest.L1 : Y12 → Option Y108 := loop fun L x => law37_ProfileNearest.f1 law37_ProfileNearest.L2 L x.1.2.2.1 x.1.2.2.2.1 x.1.2.2.2.2.2.2.1 x.2.1 x.2.2.1.1 x.2.2.1.2.1 x.2.2.1.2.2.1 x.2.2.2.1.1 x.2.2.2.1.2.1 x.2.2.2.1.2.2.1 x.2.2.2.1.2.2.2.1 x.2.2.2.1.2.2.2.2.1 x.2.2.2.2.1 x.2.2.2.2.2.1 x.2.2.2.2.2.2.1 x.2.2.2.2.2.2.2.1
def law37_ProfileNearest.f (g_second_Few : Y139 → Option Y142) (g_law37_awake : Y145 → Option Y142) (g_second_New : Y139 → Option Y111) (g_second_Deck_Next : Y102 → Option Y113) (g_second_Deck_Values : Y102 → Option Y94) (g_second_Deck_Measure : Y102 → Option Y81) (g_second_Deck_Length : Y111 → Option Y113) (g_profile_Of : Y87 → Option Y19) (g_profile_Windows : Y134 → Option Y123) (l0 : Y11 → Option Y10) (l1 : Y12 → Option Y108) (l : List Int) : Option Y142 :=
  (Option.bind (g_second_Few ((l, ()), ())) (fun y0 =>
 (bif (!y0.1.1) then
 (Option.bind (g_law37_awake ((), ())) (fun y2 =>
 (some ((y2.1.1, ()), ()))))
 else
 (Option.bind (g_second_New ((l, ()), ())) (fun y2 =>
 (Option.bind (g_second_Deck_Next (((), ((22:Int), ())), ((y2.2.1.1, (y2.2.1.2.1, ())), ()))) (fun y3 =>
 (Option.bind (g_second_Deck_Values (((), (y3.1.1, ())), ((y3.2.1.1, (y3.2.1.2.1, ())), ()))) (fun y4 =>
 (Option.bind (g_second_Deck_Measure (((), ((0:Int), ())), ((y4.2.1.1, (y4.2.1.2.1, ())), ()))) (fun y5 =>
 (Option.bind (g_second_Deck_Length (((), ()), ((y5.2.1.1, (y5.2.1.2.1, ())), ()))) (fun y6 =>
 (Option.bind (g_second_Deck_Next (((), ((5:Int), ())), ((y6.2.1.1, (y6.2.1.2.1, ())), ()))) (fun y7 =>
 (Option.bind (g_profile_Of ((y4.2.2.1, ((y5.1.1.1, (y5.1.1.2.1, (y5.1.1.2.2.1, ()))), (y6.1.1, ((Go.IntKind.wrap Go.IntKind.i64 ((1:Int) + y7.1.1)), ())))), ())) (fun y8 =>
 (Option.bind (g_profile_Windows ((y4.2.2.1, (y6.1.1, ())), ())) (fun y9 =>
 (Option.bind (l0 (((), ((), (y6.1.1, ((Go.IntKind.wrap Go.IntKind.i64 ((1:Int) + y7.1.1)), ((), (y8.1.2.1, ((), (y9.1.2.1, ())))))))), (y4.2.2.1, ((y5.1.1.1, (y5.1.1.2.1, (y5.1.1.2.2.1, ()))), ((y8.1.1.1, (y8.1.1.2.1, (y8.1.1.2.2.1, (y8.1.1.2.2.2.1, (y8.1.1.2.2.2.2.1, ((), ((), ((), ())))))))), (y9.2.1, (y8.2.1, (y8.2.2.1, (y8.2.2.2.1, ()))))))))) (fun y10 =>
 (Sum.elim (fun a11 =>
 (bif a11.1.2.2.2.2.2.2.1 then
 (some ((Bool.false, ()), ()))
 else
 (Option.bind (l1 (((), ((), (a11.1.2.2.1, (a11.1.2.2.2.1, ((), ((), ((0:Int), ()))))))), (a11.2.1, ((a11.2.2.1.1, (a11.2.2.1.2.1, (a11.2.2.1.2.2.1, ()))), ((a11.2.2.2.1.1, (a11.2.2.2.1.2.1, (a11.2.2.2.1.2.2.1, (a11.2.2.2.1.2.2.2.1, (a11.2.2.2.1.2.2.2.2.1, ((), ((), ((), ())))))))), (a11.2.2.2.2.1, (a11.2.2.2.2.2.1, (a11.2.2.2.2.2.2.1, (a11.2.2.2.2.2.2.2.1, ()))))))))) (fun y13 =>
 (Sum.elim (fun a14 =>
 (Option.bind (g_law37_awake ((), ())) (fun y15 =>
 (some ((y15.1.1, ()), ()))))) (fun b14 =>
 (Sum.elim (fun a15 =>
 (some ((a15.1.1, ()), ()))) (fun b15 =>
 (Empty.elim b15)) b14)) y13))))) (fun b11 =>
 (Empty.elim b11)) y10))))))))))))))))))))))
theorem law37_ProfileNearest.eq (g_second_Few : second_Few.G) (g_law37_awake : law37_awake.G) (g_second_New : second_New.G) (g_second_Deck_Next : second_Deck_Next.G) (g_second_Deck_Values : second_Deck_Values.G) (g_second_Deck_Measure : second_Deck_Measure.G) (g_second_Deck_Length : second_Deck_Length.G) (g_profile_Of : profile_Of.G) (g_profile_Windows : profile_Windows.G) (g_profile_Valid : profile_Valid.G) (g_ref17_Distance : ref17_Distance.G) (g_profile_Nearer : profile_Nearer.G) (l0 : law37_ProfileNearest.A0) (l1 : law37_ProfileNearest.A1) (l2 : law37_ProfileNearest.A2) (l3 : law37_ProfileNearest.A3) (l4 : law37_ProfileNearest.A4) (x : law37_ProfileNearest.sh.X) : bodO (law37_ProfileNearest.E g_second_Few g_law37_awake g_second_New g_second_Deck_Next g_second_Deck_Values g_second_Deck_Measure g_second_Deck_Length g_profile_Of g_profile_Windows g_profile_Valid g_ref17_Distance g_profile_Nearer l0 l1 l2 l3 l4) law37_ProfileNearest.hs law37_ProfileNearest.c Try.f4 law37_ProfileNearest.sh law37_ProfileNearest.osh x = law37_ProfileNearest.f g_second_Few g_law37_awake g_second_New g_second_Deck_Next g_second_Deck_Values g_second_Deck_Measure g_second_Deck_Length g_profile_Of g_profile_Windows l0 l1 x.1.1 := by
  show _ = (_ : Option _)
  kernel_rfl
noncomputable def law37_ProfileNearest (l : List Int) : Option Y142 := law37_ProfileNearest.f second_Few.F law37_awake.F second_New.F second_Deck_Next.F second_Deck_Values.F second_Deck_Measure.F second_Deck_Length.F profile_Of.F profile_Windows.F law37_ProfileNearest.L0 law37_ProfileNearest.L1 l
noncomputable def law37_ProfileNearest.F (x : Y139) : Option Y142 := law37_ProfileNearest x.1.1
theorem law37_ProfileNearest.L0_eq (length_6 zone_7 e_9 f_11 : Int) (o0 : List Int) (o1_0 o1_1 o1_2 o2_0 o2_1 o2_2 o2_3 o2_4 : Int) (o3 : List Bool) (o4 o5 o6 : List Y144) : law37_ProfileNearest.L0 (((), (), length_6, zone_7, (), e_9, (), f_11, ()), (o0, (o1_0, o1_1, o1_2, ()), (o2_0, o2_1, o2_2, o2_3, o2_4, (), (), (), ()), o3, o4, o5, o6, ())) = law37_ProfileNearest.f0 profile_Valid.F length_6 zone_7 e_9 f_11 o0 o1_0 o1_1 o1_2 o2_0 o2_1 o2_2 o2_3 o2_4 o3 o4 o5 o6 := rfl
theorem law37_ProfileNearest.L1_eq (length_6 zone_7 i_12 : Int) (o0 : List Int) (o1_0 o1_1 o1_2 o2_0 o2_1 o2_2 o2_3 o2_4 : Int) (o3 : List Bool) (o4 o5 o6 : List Y144) : law37_ProfileNearest.L1 (((), (), length_6, zone_7, (), (), i_12, ()), (o0, (o1_0, o1_1, o1_2, ()), (o2_0, o2_1, o2_2, o2_3, o2_4, (), (), (), ()), o3, o4, o5, o6, ())) = law37_ProfileNearest.f1 law37_ProfileNearest.L2 law37_ProfileNearest.L1 length_6 zone_7 i_12 o0 o1_0 o1_1 o1_2 o2_0 o2_1 o2_2 o2_3 o2_4 o3 o4 o5 o6 :=
  loop_eq (E := (law37_ProfileNearest.E second_Few.F law37_awake.F second_New.F second_Deck_Next.F second_Deck_Values.F second_Deck_Measure.F second_Deck_Length.F profile_Of.F profile_Windows.F profile_Valid.F ref17_Distance.F profile_Nearer.F law37_ProfileNearest.L0 law37_ProfileNearest.L1 law37_ProfileNearest.L2 law37_ProfileNearest.L3 law37_ProfileNearest.L4)) (sh := law37_ProfileNearest.s1) (es := law37_ProfileNearest.x1) (lp := true) (H := fun L x => law37_ProfileNearest.eq1 second_Few.F law37_awake.F second_New.F second_Deck_Next.F second_Deck_Values.F second_Deck_Measure.F second_Deck_Length.F profile_Of.F profile_Windows.F profile_Valid.F ref17_Distance.F profile_Nearer.F law37_ProfileNearest.L0 law37_ProfileNearest.L1 law37_ProfileNearest.L2 law37_ProfileNearest.L3 law37_ProfileNearest.L4 L x) (((), (), length_6, zone_7, (), (), i_12, ()), (o0, (o1_0, o1_1, o1_2, ()), (o2_0, o2_1, o2_2, o2_3, o2_4, (), (), (), ()), o3, o4, o5, o6, ()))
theorem law37_ProfileNearest.L2_eq (length_6 zone_7 i_12 : Int) (some_13 : Bool) (k_14 : Int) (o0 : List Int) (o1_0 o1_1 o1_2 o2_0 o2_1 o2_2 o2_3 o2_4 : Int) (o3 : List Bool) (o4 o5 o6 : List Y144) : law37_ProfileNearest.L2 (((), (), length_6, zone_7, (), (), i_12, some_13, k_14, ()), (o0, (o1_0, o1_1, o1_2, ()), (o2_0, o2_1, o2_2, o2_3, o2_4, (), (), (), ()), o3, o4, o5, o6, ())) = law37_ProfileNearest.f2 ref17_Distance.F law37_ProfileNearest.L3 law37_ProfileNearest.L4 law37_ProfileNearest.L2 length_6 zone_7 i_12 some_13 k_14 o0 o1_0 o1_1 o1_2 o2_0 o2_1 o2_2 o2_3 o2_4 o3 o4 o5 o6 :=
  loop_eq (E := (law37_ProfileNearest.E second_Few.F law37_awake.F second_New.F second_Deck_Next.F second_Deck_Values.F second_Deck_Measure.F second_Deck_Length.F profile_Of.F profile_Windows.F profile_Valid.F ref17_Distance.F profile_Nearer.F law37_ProfileNearest.L0 law37_ProfileNearest.L1 law37_ProfileNearest.L2 law37_ProfileNearest.L3 law37_ProfileNearest.L4)) (sh := law37_ProfileNearest.s2) (es := law37_ProfileNearest.x2) (lp := true) (H := fun L x => law37_ProfileNearest.eq2 second_Few.F law37_awake.F second_New.F second_Deck_Next.F second_Deck_Values.F second_Deck_Measure.F second_Deck_Length.F profile_Of.F profile_Windows.F profile_Valid.F ref17_Distance.F profile_Nearer.F law37_ProfileNearest.L0 law37_ProfileNearest.L1 law37_ProfileNearest.L2 law37_ProfileNearest.L3 law37_ProfileNearest.L4 L x) (((), (), length_6, zone_7, (), (), i_12, some_13, k_14, ()), (o0, (o1_0, o1_1, o1_2, ()), (o2_0, o2_1, o2_2, o2_3, o2_4, (), (), (), ()), o3, o4, o5, o6, ()))
theorem law37_ProfileNearest.L3_eq (length_6 zone_7 i_12 : Int) (some_13 : Bool) (k_14 : Int) (o0 : List Int) (o1_0 o1_1 o1_2 o2_0 o2_1 o2_2 o2_3 o2_4 : Int) (o3 : List Bool) (o4 o5 o6 : List Y144) : law37_ProfileNearest.L3 (((), (), length_6, zone_7, (), (), i_12, some_13, k_14, ()), (o0, (o1_0, o1_1, o1_2, ()), (o2_0, o2_1, o2_2, o2_3, o2_4, (), (), (), ()), o3, o4, o5, o6, ())) = law37_ProfileNearest.f3 length_6 zone_7 i_12 some_13 k_14 o0 o1_0 o1_1 o1_2 o2_0 o2_1 o2_2 o2_3 o2_4 o3 o4 o5 o6 := rfl
theorem law37_ProfileNearest.L4_eq (length_6 zone_7 i_12 : Int) (some_13 : Bool) (k_14 g_16 : Int) (o0 : List Int) (o1_0 o1_1 o1_2 o2_0 o2_1 o2_2 o2_3 o2_4 : Int) (o3 : List Bool) (o4_0 o4_1 o4_2 : Int) (o5 o6 o7 : List Y144) : law37_ProfileNearest.L4 (((), (), length_6, zone_7, (), (), i_12, some_13, k_14, g_16, (), ()), (o0, (o1_0, o1_1, o1_2, ()), (o2_0, o2_1, o2_2, o2_3, o2_4, (), (), (), ()), o3, (o4_0, o4_1, o4_2, ()), o5, o6, o7, ())) = law37_ProfileNearest.f4 profile_Nearer.F length_6 zone_7 i_12 some_13 k_14 g_16 o0 o1_0 o1_1 o1_2 o2_0 o2_1 o2_2 o2_3 o2_4 o3 o4_0 o4_1 o4_2 o5 o6 o7 := rfl
theorem law37_ProfileNearest.F_eq (l : List Int) : law37_ProfileNearest.F ((l, ()), ()) = law37_ProfileNearest.f second_Few.F law37_awake.F second_New.F second_Deck_Next.F second_Deck_Values.F second_Deck_Measure.F second_Deck_Length.F profile_Of.F profile_Windows.F law37_ProfileNearest.L0 law37_ProfileNearest.L1 l := rfl
theorem law37_ProfileNearest.ok {tabs : List (Nat × Go.Obj)} (ht : TabsOk tabs) : FOK Try.prog tabs 4 (law37_ProfileNearest.fe law37_ProfileNearest.F) := by
  refine fn_keep2 Try.func4 (law37_ProfileNearest.eq second_Few.F law37_awake.F second_New.F second_Deck_Next.F second_Deck_Values.F second_Deck_Measure.F second_Deck_Length.F profile_Of.F profile_Windows.F profile_Valid.F ref17_Distance.F profile_Nearer.F law37_ProfileNearest.L0 law37_ProfileNearest.L1 law37_ProfileNearest.L2 law37_ProfileNearest.L3 law37_ProfileNearest.L4) pw tb (gt_ok ht) (by kernel_rfl) (by kernel_rfl) (fun g ks fe h => ?_) ?_
  · rcases c_cons h with ⟨rfl, rfl⟩ | h
    · exact second_Few.ok ht
    rcases c_cons h with ⟨rfl, rfl⟩ | h
    · exact law37_awake.ok ht
    rcases c_cons h with ⟨rfl, rfl⟩ | h
    · exact second_New.ok ht
    rcases c_cons h with ⟨rfl, rfl⟩ | h
    · exact second_Deck_Next.ok ht
    rcases c_cons h with ⟨rfl, rfl⟩ | h
    · exact second_Deck_Values.ok ht
    rcases c_cons h with ⟨rfl, rfl⟩ | h
    · exact second_Deck_Measure.ok ht
    rcases c_cons h with ⟨rfl, rfl⟩ | h
    · exact second_Deck_Length.ok ht
    rcases c_cons h with ⟨rfl, rfl⟩ | h
    · exact profile_Of.ok ht
    rcases c_cons h with ⟨rfl, rfl⟩ | h
    · exact profile_Windows.ok ht
    rcases c_cons h with ⟨rfl, rfl⟩ | h
    · exact profile_Valid.ok ht
    rcases c_cons h with ⟨rfl, rfl⟩ | h
    · exact ref17_Distance.ok ht
    rcases c_cons h with ⟨rfl, rfl⟩ | h
    · exact profile_Nearer.ok ht
    cases h
  · refine known_at 5 (by kernel_rfl) fun i hi => ?_
    match i, hi with
    | 0, _ => exact atomH (cut_ok (es := law37_ProfileNearest.x0) rfl (law37_ProfileNearest.eq0 second_Few.F law37_awake.F second_New.F second_Deck_Next.F second_Deck_Values.F second_Deck_Measure.F second_Deck_Length.F profile_Of.F profile_Windows.F profile_Valid.F ref17_Distance.F profile_Nearer.F law37_ProfileNearest.L0 law37_ProfileNearest.L1 law37_ProfileNearest.L2 law37_ProfileNearest.L3 law37_ProfileNearest.L4)) (by kernel_rfl)
    | 1, _ => exact atomH (loop_ok (es := law37_ProfileNearest.x1) rfl (law37_ProfileNearest.eq1 second_Few.F law37_awake.F second_New.F second_Deck_Next.F second_Deck_Values.F second_Deck_Measure.F second_Deck_Length.F profile_Of.F profile_Windows.F profile_Valid.F ref17_Distance.F profile_Nearer.F law37_ProfileNearest.L0 law37_ProfileNearest.L1 law37_ProfileNearest.L2 law37_ProfileNearest.L3 law37_ProfileNearest.L4)) (by kernel_rfl)
    | 2, _ => exact atomH (loop_ok (es := law37_ProfileNearest.x2) rfl (law37_ProfileNearest.eq2 second_Few.F law37_awake.F second_New.F second_Deck_Next.F second_Deck_Values.F second_Deck_Measure.F second_Deck_Length.F profile_Of.F profile_Windows.F profile_Valid.F ref17_Distance.F profile_Nearer.F law37_ProfileNearest.L0 law37_ProfileNearest.L1 law37_ProfileNearest.L2 law37_ProfileNearest.L3 law37_ProfileNearest.L4)) (by kernel_rfl)
    | 3, _ => exact atomH (cut_ok (es := law37_ProfileNearest.x3) rfl (law37_ProfileNearest.eq3 second_Few.F law37_awake.F second_New.F second_Deck_Next.F second_Deck_Values.F second_Deck_Measure.F second_Deck_Length.F profile_Of.F profile_Windows.F profile_Valid.F ref17_Distance.F profile_Nearer.F law37_ProfileNearest.L0 law37_ProfileNearest.L1 law37_ProfileNearest.L2 law37_ProfileNearest.L3 law37_ProfileNearest.L4)) (by kernel_rfl)
    | 4, _ => exact atomH (cut_ok (es := law37_ProfileNearest.x4) rfl (law37_ProfileNearest.eq4 second_Few.F law37_awake.F second_New.F second_Deck_Next.F second_Deck_Values.F second_Deck_Measure.F second_Deck_Length.F profile_Of.F profile_Windows.F profile_Valid.F ref17_Distance.F profile_Nearer.F law37_ProfileNearest.L0 law37_ProfileNearest.L1 law37_ProfileNearest.L2 law37_ProfileNearest.L3 law37_ProfileNearest.L4)) (by kernel_rfl)
    | n + 5, h => exact absurd h (by omega)
end Go.Proofs.Ytefcciajemkicaa.V
