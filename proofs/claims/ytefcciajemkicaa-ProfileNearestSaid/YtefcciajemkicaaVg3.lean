import Derived.Test.YtefcciajemkicaaVg2
import Derived.WalkKit
set_option linter.unusedVariables false
set_option maxRecDepth 100000
namespace Go.Proofs.Ytefcciajemkicaa.V
open Go.VI
/-! profile_Best -/
def profile_Best.f (g_profile_Nearer : Y83 → Option Y142) (x_At x_Distance_Num x_Distance_Den o0_0 o0_1 o0_2 : Int) : Option Y121 :=
  (Option.bind (g_profile_Nearer (((x_At, (x_Distance_Num, (x_Distance_Den, ()))), ((o0_0, (o0_1, (o0_2, ()))), ())), ())) (fun y0 =>
 (bif y0.1.1 then
 (some ((), ((x_At, (x_Distance_Num, (x_Distance_Den, ()))), ())))
 else
 (some ((), ((o0_0, (o0_1, (o0_2, ()))), ()))))))
theorem profile_Best.eq (g_profile_Nearer : profile_Nearer.G) (x : profile_Best.sh.X) : bodO (profile_Best.E g_profile_Nearer) profile_Best.hs profile_Best.c Try.f30 profile_Best.sh profile_Best.osh x = profile_Best.f g_profile_Nearer x.1.2.1.1 x.1.2.1.2.1 x.1.2.1.2.2.1 x.2.1.1 x.2.1.2.1 x.2.1.2.2.1 := by
  show _ = (_ : Option _)
  kernel_rfl
noncomputable def profile_Best (x_At x_Distance_Num x_Distance_Den o0_0 o0_1 o0_2 : Int) : Option Y121 := profile_Best.f profile_Nearer.F x_At x_Distance_Num x_Distance_Den o0_0 o0_1 o0_2
noncomputable def profile_Best.F (x : Y71) : Option Y121 := profile_Best x.1.2.1.1 x.1.2.1.2.1 x.1.2.1.2.2.1 x.2.1.1 x.2.1.2.1 x.2.1.2.2.1
theorem profile_Best.F_eq (x_At x_Distance_Num x_Distance_Den o0_0 o0_1 o0_2 : Int) : profile_Best.F (((), (x_At, x_Distance_Num, x_Distance_Den, ()), ()), ((o0_0, o0_1, o0_2, ()), ())) = profile_Best.f profile_Nearer.F x_At x_Distance_Num x_Distance_Den o0_0 o0_1 o0_2 := rfl
theorem profile_Best.ok {tabs : List (Nat × Go.Obj)} (ht : TabsOk tabs) : FOK Try.prog tabs 30 (profile_Best.fe profile_Best.F) := by
  refine fn_keep2 Try.func30 (profile_Best.eq profile_Nearer.F) pw tb (gt_ok ht) (by kernel_rfl) (by kernel_rfl) (fun g ks fe h => ?_) ?_
  · rcases c_cons h with ⟨rfl, rfl⟩ | h
    · exact profile_Nearer.ok ht
    cases h
  · exact known_at 0 (by kernel_rfl) fun i hi => absurd hi (Nat.not_lt_zero i)

/-! profile_Of -/
def profile_Of.f0 (g_profile_None : Y145 → Option Y120) (L : Y4 → Option Y5) (l_0 : List Int) (length_2 zone_3 v44 v45 o0_0 o0_1 o0_2 o1_0 o1_1 o1_2 o1_3 o1_4 : Int) (o2 : List Bool) (o3_0 o3_1 o3_2 o3_3 o3_4 : Int) (o4 o5 o6 : List Y144) : Option Y5 :=
  (bif (decide (v45 < v44)) then
 (Option.bind (g_profile_None ((), ())) (fun y1 =>
 (bif (decide ((((List.length o4) + (List.length [(y1.1.1.1, (y1.1.1.2.1, y1.1.1.2.2.1))])) * (24:Nat)) ≤ (140737488355328:Nat))) then
 (Option.bind (g_profile_None ((), ())) (fun y3 =>
 (bif (decide ((((List.length o5) + (List.length [(y3.1.1.1, (y3.1.1.2.1, y3.1.1.2.2.1))])) * (24:Nat)) ≤ (140737488355328:Nat))) then
 (Option.bind (g_profile_None ((), ())) (fun y5 =>
 (bif (decide ((((List.length o6) + (List.length [(y5.1.1.1, (y5.1.1.2.1, y5.1.1.2.2.1))])) * (24:Nat)) ≤ (140737488355328:Nat))) then
 (Option.bind (L ((l_0, (length_2, (zone_3, ((), ((), ((), ((), (v44, ((Go.IntKind.wrap Go.IntKind.i64 (v45 + (1:Int))), ()))))))))), ((o0_0, (o0_1, (o0_2, ()))), ((o1_0, (o1_1, (o1_2, (o1_3, (o1_4, ((), ((), ((), ())))))))), (o2, ((o3_0, (o3_1, (o3_2, (o3_3, (o3_4, ((), ((), ((), ())))))))), ((o4 ++ [(y1.1.1.1, (y1.1.1.2.1, y1.1.1.2.2.1))]), ((o5 ++ [(y3.1.1.1, (y3.1.1.2.1, y3.1.1.2.2.1))]), ((o6 ++ [(y5.1.1.1, (y5.1.1.2.1, y5.1.1.2.2.1))]), ()))))))))) (fun y7 =>
 (some y7)))
 else
 none)))
 else
 none)))
 else
 none)))
 else
 (some (Sum.inl ((l_0, (length_2, (zone_3, ((), ((), ((), ((), ()))))))), ((o0_0, (o0_1, (o0_2, ()))), ((o1_0, (o1_1, (o1_2, (o1_3, (o1_4, ((), ((), ((), ())))))))), (o2, ((o3_0, (o3_1, (o3_2, (o3_3, (o3_4, ((), ((), ((), ())))))))), (o4, (o5, (o6, ())))))))))))
theorem profile_Of.eq0 (g_measure_Check : measure_Check.G) (g_profile_Windows : profile_Windows.G) (g_profile_Zone : profile_Zone.G) (g_profile_None : profile_None.G) (g_measure_Distance : measure_Distance.G) (g_profile_Best : profile_Best.G) (l0 : profile_Of.A0) (l1 : profile_Of.A1) (l2 : profile_Of.A2) (l3 : profile_Of.A3) (l4 : profile_Of.A4) (L : profile_Of.A0) (x : profile_Of.s0.X) : rndO (profile_Of.E g_measure_Check g_profile_Windows g_profile_Zone g_profile_None g_measure_Distance g_profile_Best l0 l1 l2 l3 l4) profile_Of.hs profile_Of.c profile_Of.s0 profile_Of.x0 0 true L x = profile_Of.f0 g_profile_None L x.1.1 x.1.2.1 x.1.2.2.1 x.1.2.2.2.2.2.2.2.1 x.1.2.2.2.2.2.2.2.2.1 x.2.1.1 x.2.1.2.1 x.2.1.2.2.1 x.2.2.1.1 x.2.2.1.2.1 x.2.2.1.2.2.1 x.2.2.1.2.2.2.1 x.2.2.1.2.2.2.2.1 x.2.2.2.1 x.2.2.2.2.1.1 x.2.2.2.2.1.2.1 x.2.2.2.2.1.2.2.1 x.2.2.2.2.1.2.2.2.1 x.2.2.2.2.1.2.2.2.2.1 x.2.2.2.2.2.1 x.2.2.2.2.2.2.1 x.2.2.2.2.2.2.2.1 := by
  show _ = (_ : Option _)
  kernel_rfl
noncomputable def profile_Of.L0 : Y4 → Option Y5 := loop fun L x => profile_Of.f0 profile_None.F L x.1.1 x.1.2.1 x.1.2.2.1 x.1.2.2.2.2.2.2.2.1 x.1.2.2.2.2.2.2.2.2.1 x.2.1.1 x.2.1.2.1 x.2.1.2.2.1 x.2.2.1.1 x.2.2.1.2.1 x.2.2.1.2.2.1 x.2.2.1.2.2.2.1 x.2.2.1.2.2.2.2.1 x.2.2.2.1 x.2.2.2.2.1.1 x.2.2.2.2.1.2.1 x.2.2.2.2.1.2.2.1 x.2.2.2.2.1.2.2.2.1 x.2.2.2.2.1.2.2.2.2.1 x.2.2.2.2.2.1 x.2.2.2.2.2.2.1 x.2.2.2.2.2.2.2.1
def profile_Of.f3 (l_0 : List Int) (length_2 zone_3 i_14 j_15 v67 v68 o0_0 o0_1 o0_2 o1_0 o1_1 o1_2 o1_3 o1_4 : Int) (o2 : List Bool) (o3_0 o3_1 o3_2 o3_3 o3_4 : Int) (o4 o5 o6 : List Y144) : Option Y2 :=
  (bif (decide ((0:Int) ≤ i_14)) then
 (bif (decide (i_14 < (((List.length o2) : Nat) : Int))) then
 (bif (List.getD o2 (Int.toNat i_14) Bool.false) then
 (some (Sum.inl ((l_0, (length_2, (zone_3, ((), ((), ((), ((), (i_14, (j_15, (v67, (v68, ((decide (j_15 ≤ (Go.IntKind.wrap Go.IntKind.i64 (i_14 - zone_3)))), ())))))))))))), ((o0_0, (o0_1, (o0_2, ()))), ((o1_0, (o1_1, (o1_2, (o1_3, (o1_4, ((), ((), ((), ())))))))), (o2, ((o3_0, (o3_1, (o3_2, (o3_3, (o3_4, ((), ((), ((), ())))))))), (o4, (o5, (o6, ()))))))))))
 else
 (some (Sum.inl ((l_0, (length_2, (zone_3, ((), ((), ((), ((), (i_14, (j_15, (v67, (v68, (Bool.false, ())))))))))))), ((o0_0, (o0_1, (o0_2, ()))), ((o1_0, (o1_1, (o1_2, (o1_3, (o1_4, ((), ((), ((), ())))))))), (o2, ((o3_0, (o3_1, (o3_2, (o3_3, (o3_4, ((), ((), ((), ())))))))), (o4, (o5, (o6, ())))))))))))
 else
 none)
 else
 none)
theorem profile_Of.eq3 (g_measure_Check : measure_Check.G) (g_profile_Windows : profile_Windows.G) (g_profile_Zone : profile_Zone.G) (g_profile_None : profile_None.G) (g_measure_Distance : measure_Distance.G) (g_profile_Best : profile_Best.G) (l0 : profile_Of.A0) (l1 : profile_Of.A1) (l2 : profile_Of.A2) (l3 : profile_Of.A3) (l4 : profile_Of.A4) (L : profile_Of.A3) (x : profile_Of.s3.X) : rndO (profile_Of.E g_measure_Check g_profile_Windows g_profile_Zone g_profile_None g_measure_Distance g_profile_Best l0 l1 l2 l3 l4) profile_Of.hs profile_Of.c profile_Of.s3 profile_Of.x3 3 false L x = profile_Of.f3 x.1.1 x.1.2.1 x.1.2.2.1 x.1.2.2.2.2.2.2.2.1 x.1.2.2.2.2.2.2.2.2.1 x.1.2.2.2.2.2.2.2.2.2.1 x.1.2.2.2.2.2.2.2.2.2.2.1 x.2.1.1 x.2.1.2.1 x.2.1.2.2.1 x.2.2.1.1 x.2.2.1.2.1 x.2.2.1.2.2.1 x.2.2.1.2.2.2.1 x.2.2.1.2.2.2.2.1 x.2.2.2.1 x.2.2.2.2.1.1 x.2.2.2.2.1.2.1 x.2.2.2.2.1.2.2.1 x.2.2.2.2.1.2.2.2.1 x.2.2.2.2.1.2.2.2.2.1 x.2.2.2.2.2.1 x.2.2.2.2.2.2.1 x.2.2.2.2.2.2.2.1 := by
  show _ = (_ : Option _)
  kernel_rfl
noncomputable def profile_Of.L3 : Y3 → Option Y2 := fun x => profile_Of.f3 x.1.1 x.1.2.1 x.1.2.2.1 x.1.2.2.2.2.2.2.2.1 x.1.2.2.2.2.2.2.2.2.1 x.1.2.2.2.2.2.2.2.2.2.1 x.1.2.2.2.2.2.2.2.2.2.2.1 x.2.1.1 x.2.1.2.1 x.2.1.2.2.1 x.2.2.1.1 x.2.2.1.2.1 x.2.2.1.2.2.1 x.2.2.1.2.2.2.1 x.2.2.1.2.2.2.2.1 x.2.2.2.1 x.2.2.2.2.1.1 x.2.2.2.2.1.2.1 x.2.2.2.2.1.2.2.1 x.2.2.2.2.1.2.2.2.1 x.2.2.2.2.1.2.2.2.2.1 x.2.2.2.2.2.1 x.2.2.2.2.2.2.1 x.2.2.2.2.2.2.2.1
def profile_Of.f2 (g_measure_Distance : Y84 → Option Y122) (g_profile_Best : Y71 → Option Y121) (l3 : Y3 → Option Y2) (L : Y3 → Option Y0) (l_0 : List Int) (length_2 zone_3 i_14 j_15 v67 v68 o0_0 o0_1 o0_2 o1_0 o1_1 o1_2 o1_3 o1_4 : Int) (o2 : List Bool) (o3_0 o3_1 o3_2 o3_3 o3_4 : Int) (o4 o5 o6 : List Y144) : Option Y0 :=
  (Option.bind (l3 ((l_0, (length_2, (zone_3, ((), ((), ((), ((), (i_14, (j_15, (v67, (v68, ()))))))))))), ((o0_0, (o0_1, (o0_2, ()))), ((o1_0, (o1_1, (o1_2, (o1_3, (o1_4, ((), ((), ((), ())))))))), (o2, ((o3_0, (o3_1, (o3_2, (o3_3, (o3_4, ((), ((), ((), ())))))))), (o4, (o5, (o6, ()))))))))) (fun y0 =>
 (Sum.elim (fun a1 =>
 (bif a1.1.2.2.2.2.2.2.2.2.2.2.2.1 then
 (bif (decide ((0:Int) ≤ a1.1.2.2.2.2.2.2.2.2.1)) then
 (bif (decide (a1.1.2.2.2.2.2.2.2.2.1 < (((List.length a1.2.2.2.1) : Nat) : Int))) then
 (bif (!(List.getD a1.2.2.2.1 (Int.toNat a1.1.2.2.2.2.2.2.2.2.1) Bool.false)) then
 (Option.bind (L ((a1.1.1, (a1.1.2.1, (a1.1.2.2.1, ((), ((), ((), ((), (a1.1.2.2.2.2.2.2.2.1, ((Go.IntKind.wrap Go.IntKind.i64 (a1.1.2.2.2.2.2.2.2.2.1 + (1:Int))), (a1.1.2.2.2.2.2.2.2.2.2.1, (a1.1.2.2.2.2.2.2.2.2.2.2.1, ()))))))))))), ((a1.2.1.1, (a1.2.1.2.1, (a1.2.1.2.2.1, ()))), ((a1.2.2.1.1, (a1.2.2.1.2.1, (a1.2.2.1.2.2.1, (a1.2.2.1.2.2.2.1, (a1.2.2.1.2.2.2.2.1, ((), ((), ((), ())))))))), (a1.2.2.2.1, ((a1.2.2.2.2.1.1, (a1.2.2.2.2.1.2.1, (a1.2.2.2.2.1.2.2.1, (a1.2.2.2.2.1.2.2.2.1, (a1.2.2.2.2.1.2.2.2.2.1, ((), ((), ((), ())))))))), (a1.2.2.2.2.2.1, (a1.2.2.2.2.2.2.1, (a1.2.2.2.2.2.2.2.1, ()))))))))) (fun y6 =>
 (some y6)))
 else
 (bif (decide ((0:Int) ≤ a1.1.2.2.2.2.2.2.2.2.1)) then
 (bif (decide (a1.1.2.2.2.2.2.2.2.2.1 ≤ (Go.IntKind.wrap Go.IntKind.i64 (a1.1.2.2.2.2.2.2.2.2.1 + a1.1.2.1)))) then
 (bif (decide ((Go.IntKind.wrap Go.IntKind.i64 (a1.1.2.2.2.2.2.2.2.2.1 + a1.1.2.1)) ≤ (((List.length a1.1.1) : Nat) : Int))) then
 (bif (decide ((0:Int) ≤ a1.1.2.2.2.2.2.2.2.1)) then
 (bif (decide (a1.1.2.2.2.2.2.2.2.1 ≤ (Go.IntKind.wrap Go.IntKind.i64 (a1.1.2.2.2.2.2.2.2.1 + a1.1.2.1)))) then
 (bif (decide ((Go.IntKind.wrap Go.IntKind.i64 (a1.1.2.2.2.2.2.2.2.1 + a1.1.2.1)) ≤ (((List.length a1.1.1) : Nat) : Int))) then
 (Option.bind (g_measure_Distance (((a1.2.1.1, (a1.2.1.2.1, (a1.2.1.2.2.1, ()))), ((List.drop (Int.toNat a1.1.2.2.2.2.2.2.2.2.1) (List.take (Int.toNat (Go.IntKind.wrap Go.IntKind.i64 (a1.1.2.2.2.2.2.2.2.2.1 + a1.1.2.1))) a1.1.1)), ((List.drop (Int.toNat a1.1.2.2.2.2.2.2.2.1) (List.take (Int.toNat (Go.IntKind.wrap Go.IntKind.i64 (a1.1.2.2.2.2.2.2.2.1 + a1.1.2.1))) a1.1.1)), ()))), ())) (fun y12 =>
 (bif (y12.1.2.1 != (0:Int)) then
 (some (Sum.inr (Sum.inl (((), (y12.1.2.1, ())), (((0:Int), ((0:Int), ((0:Int), ((0:Int), ((0:Int), ((), ((), ((), ())))))))), ())))))
 else
 (bif (decide ((0:Int) ≤ a1.1.2.2.2.2.2.2.2.1)) then
 (bif (decide (a1.1.2.2.2.2.2.2.2.1 < (((List.length a1.2.2.2.2.2.2.1) : Nat) : Int))) then
 (Option.bind (g_profile_Best (((), ((a1.1.2.2.2.2.2.2.2.2.1, (y12.1.1.1, (y12.1.1.2.1, ()))), ())), (((List.getD a1.2.2.2.2.2.2.1 (Int.toNat a1.1.2.2.2.2.2.2.2.1) ((0:Int), ((0:Int), (0:Int)))).1, ((List.getD a1.2.2.2.2.2.2.1 (Int.toNat a1.1.2.2.2.2.2.2.2.1) ((0:Int), ((0:Int), (0:Int)))).2.1, ((List.getD a1.2.2.2.2.2.2.1 (Int.toNat a1.1.2.2.2.2.2.2.2.1) ((0:Int), ((0:Int), (0:Int)))).2.2, ()))), ()))) (fun y16 =>
 (bif (decide ((0:Int) ≤ a1.1.2.2.2.2.2.2.2.2.1)) then
 (bif (decide (a1.1.2.2.2.2.2.2.2.2.1 < (((List.length a1.2.2.2.2.2.2.2.1) : Nat) : Int))) then
 (Option.bind (g_profile_Best (((), ((a1.1.2.2.2.2.2.2.2.1, (y12.1.1.1, (y12.1.1.2.1, ()))), ())), (((List.getD a1.2.2.2.2.2.2.2.1 (Int.toNat a1.1.2.2.2.2.2.2.2.2.1) ((0:Int), ((0:Int), (0:Int)))).1, ((List.getD a1.2.2.2.2.2.2.2.1 (Int.toNat a1.1.2.2.2.2.2.2.2.2.1) ((0:Int), ((0:Int), (0:Int)))).2.1, ((List.getD a1.2.2.2.2.2.2.2.1 (Int.toNat a1.1.2.2.2.2.2.2.2.2.1) ((0:Int), ((0:Int), (0:Int)))).2.2, ()))), ()))) (fun y19 =>
 (Option.bind (L ((a1.1.1, (a1.1.2.1, (a1.1.2.2.1, ((), ((), ((), ((), (a1.1.2.2.2.2.2.2.2.1, ((Go.IntKind.wrap Go.IntKind.i64 (a1.1.2.2.2.2.2.2.2.2.1 + (1:Int))), (a1.1.2.2.2.2.2.2.2.2.2.1, (a1.1.2.2.2.2.2.2.2.2.2.2.1, ()))))))))))), ((a1.2.1.1, (a1.2.1.2.1, (a1.2.1.2.2.1, ()))), ((a1.2.2.1.1, (a1.2.2.1.2.1, (a1.2.2.1.2.2.1, (a1.2.2.1.2.2.2.1, (a1.2.2.1.2.2.2.2.1, ((), ((), ((), ())))))))), (a1.2.2.2.1, ((a1.2.2.2.2.1.1, (a1.2.2.2.2.1.2.1, (a1.2.2.2.2.1.2.2.1, (a1.2.2.2.2.1.2.2.2.1, (a1.2.2.2.2.1.2.2.2.2.1, ((), ((), ((), ())))))))), (a1.2.2.2.2.2.1, ((List.set a1.2.2.2.2.2.2.1 (Int.toNat a1.1.2.2.2.2.2.2.2.1) (y16.2.1.1, (y16.2.1.2.1, y16.2.1.2.2.1))), ((List.set a1.2.2.2.2.2.2.2.1 (Int.toNat a1.1.2.2.2.2.2.2.2.2.1) (y19.2.1.1, (y19.2.1.2.1, y19.2.1.2.2.1))), ()))))))))) (fun y20 =>
 (some y20)))))
 else
 none)
 else
 none)))
 else
 none)
 else
 none))))
 else
 none)
 else
 none)
 else
 none)
 else
 none)
 else
 none)
 else
 none))
 else
 none)
 else
 none)
 else
 (some (Sum.inl ((a1.1.1, (a1.1.2.1, (a1.1.2.2.1, ((), ((), ((), ((), (a1.1.2.2.2.2.2.2.2.2.2.1, (a1.1.2.2.2.2.2.2.2.2.2.2.1, ()))))))))), ((a1.2.1.1, (a1.2.1.2.1, (a1.2.1.2.2.1, ()))), ((a1.2.2.1.1, (a1.2.2.1.2.1, (a1.2.2.1.2.2.1, (a1.2.2.1.2.2.2.1, (a1.2.2.1.2.2.2.2.1, ((), ((), ((), ())))))))), (a1.2.2.2.1, ((a1.2.2.2.2.1.1, (a1.2.2.2.2.1.2.1, (a1.2.2.2.2.1.2.2.1, (a1.2.2.2.2.1.2.2.2.1, (a1.2.2.2.2.1.2.2.2.2.1, ((), ((), ((), ())))))))), (a1.2.2.2.2.2.1, (a1.2.2.2.2.2.2.1, (a1.2.2.2.2.2.2.2.1, ())))))))))))) (fun b1 =>
 (Empty.elim b1)) y0)))
theorem profile_Of.eq2 (g_measure_Check : measure_Check.G) (g_profile_Windows : profile_Windows.G) (g_profile_Zone : profile_Zone.G) (g_profile_None : profile_None.G) (g_measure_Distance : measure_Distance.G) (g_profile_Best : profile_Best.G) (l0 : profile_Of.A0) (l1 : profile_Of.A1) (l2 : profile_Of.A2) (l3 : profile_Of.A3) (l4 : profile_Of.A4) (L : profile_Of.A2) (x : profile_Of.s2.X) : rndO (profile_Of.E g_measure_Check g_profile_Windows g_profile_Zone g_profile_None g_measure_Distance g_profile_Best l0 l1 l2 l3 l4) profile_Of.hs profile_Of.c profile_Of.s2 profile_Of.x2 2 true L x = profile_Of.f2 g_measure_Distance g_profile_Best l3 L x.1.1 x.1.2.1 x.1.2.2.1 x.1.2.2.2.2.2.2.2.1 x.1.2.2.2.2.2.2.2.2.1 x.1.2.2.2.2.2.2.2.2.2.1 x.1.2.2.2.2.2.2.2.2.2.2.1 x.2.1.1 x.2.1.2.1 x.2.1.2.2.1 x.2.2.1.1 x.2.2.1.2.1 x.2.2.1.2.2.1 x.2.2.1.2.2.2.1 x.2.2.1.2.2.2.2.1 x.2.2.2.1 x.2.2.2.2.1.1 x.2.2.2.2.1.2.1 x.2.2.2.2.1.2.2.1 x.2.2.2.2.1.2.2.2.1 x.2.2.2.2.1.2.2.2.2.1 x.2.2.2.2.2.1 x.2.2.2.2.2.2.1 x.2.2.2.2.2.2.2.1 := by
  show _ = (_ : Option _)
  kernel_rfl
noncomputable def profile_Of.L2 : Y3 → Option Y0 := loop fun L x => profile_Of.f2 measure_Distance.F profile_Best.F profile_Of.L3 L x.1.1 x.1.2.1 x.1.2.2.1 x.1.2.2.2.2.2.2.2.1 x.1.2.2.2.2.2.2.2.2.1 x.1.2.2.2.2.2.2.2.2.2.1 x.1.2.2.2.2.2.2.2.2.2.2.1 x.2.1.1 x.2.1.2.1 x.2.1.2.2.1 x.2.2.1.1 x.2.2.1.2.1 x.2.2.1.2.2.1 x.2.2.1.2.2.2.1 x.2.2.1.2.2.2.2.1 x.2.2.2.1 x.2.2.2.2.1.1 x.2.2.2.2.1.2.1 x.2.2.2.2.1.2.2.1 x.2.2.2.2.1.2.2.2.1 x.2.2.2.2.1.2.2.2.2.1 x.2.2.2.2.2.1 x.2.2.2.2.2.2.1 x.2.2.2.2.2.2.2.1
def profile_Of.f1 (l2 : Y3 → Option Y0) (L : Y4 → Option Y1) (l_0 : List Int) (length_2 zone_3 v67 v68 o0_0 o0_1 o0_2 o1_0 o1_1 o1_2 o1_3 o1_4 : Int) (o2 : List Bool) (o3_0 o3_1 o3_2 o3_3 o3_4 : Int) (o4 o5 o6 : List Y144) : Option Y1 :=
  (bif (decide (v68 < v67)) then
 (Option.bind (l2 ((l_0, (length_2, (zone_3, ((), ((), ((), ((), (v68, ((0:Int), (v67, (v68, ()))))))))))), ((o0_0, (o0_1, (o0_2, ()))), ((o1_0, (o1_1, (o1_2, (o1_3, (o1_4, ((), ((), ((), ())))))))), (o2, ((o3_0, (o3_1, (o3_2, (o3_3, (o3_4, ((), ((), ((), ())))))))), (o4, (o5, (o6, ()))))))))) (fun y1 =>
 (Sum.elim (fun a2 =>
 (Option.bind (L ((a2.1.1, (a2.1.2.1, (a2.1.2.2.1, ((), ((), ((), ((), (a2.1.2.2.2.2.2.2.2.1, ((Go.IntKind.wrap Go.IntKind.i64 (a2.1.2.2.2.2.2.2.2.2.1 + (1:Int))), ()))))))))), ((a2.2.1.1, (a2.2.1.2.1, (a2.2.1.2.2.1, ()))), ((a2.2.2.1.1, (a2.2.2.1.2.1, (a2.2.2.1.2.2.1, (a2.2.2.1.2.2.2.1, (a2.2.2.1.2.2.2.2.1, ((), ((), ((), ())))))))), (a2.2.2.2.1, ((a2.2.2.2.2.1.1, (a2.2.2.2.2.1.2.1, (a2.2.2.2.2.1.2.2.1, (a2.2.2.2.2.1.2.2.2.1, (a2.2.2.2.2.1.2.2.2.2.1, ((), ((), ((), ())))))))), (a2.2.2.2.2.2.1, (a2.2.2.2.2.2.2.1, (a2.2.2.2.2.2.2.2.1, ()))))))))) (fun y3 =>
 (some y3)))) (fun b2 =>
 (Sum.elim (fun a3 =>
 (some (Sum.inr (Sum.inl (((), (a3.1.2.1, ())), ((a3.2.1.1, (a3.2.1.2.1, (a3.2.1.2.2.1, (a3.2.1.2.2.2.1, (a3.2.1.2.2.2.2.1, ((), ((), ((), ())))))))), ())))))) (fun b3 =>
 (Empty.elim b3)) b2)) y1)))
 else
 (some (Sum.inl (((), ((), ((), ()))), ((o1_0, (o1_1, (o1_2, (o1_3, (o1_4, ((), ((), ((), ())))))))), (o2, ((o3_0, (o3_1, (o3_2, (o3_3, (o3_4, ((), ((), ((), ())))))))), (o4, (o5, (o6, ()))))))))))
theorem profile_Of.eq1 (g_measure_Check : measure_Check.G) (g_profile_Windows : profile_Windows.G) (g_profile_Zone : profile_Zone.G) (g_profile_None : profile_None.G) (g_measure_Distance : measure_Distance.G) (g_profile_Best : profile_Best.G) (l0 : profile_Of.A0) (l1 : profile_Of.A1) (l2 : profile_Of.A2) (l3 : profile_Of.A3) (l4 : profile_Of.A4) (L : profile_Of.A1) (x : profile_Of.s1.X) : rndO (profile_Of.E g_measure_Check g_profile_Windows g_profile_Zone g_profile_None g_measure_Distance g_profile_Best l0 l1 l2 l3 l4) profile_Of.hs profile_Of.c profile_Of.s1 profile_Of.x1 1 true L x = profile_Of.f1 l2 L x.1.1 x.1.2.1 x.1.2.2.1 x.1.2.2.2.2.2.2.2.1 x.1.2.2.2.2.2.2.2.2.1 x.2.1.1 x.2.1.2.1 x.2.1.2.2.1 x.2.2.1.1 x.2.2.1.2.1 x.2.2.1.2.2.1 x.2.2.1.2.2.2.1 x.2.2.1.2.2.2.2.1 x.2.2.2.1 x.2.2.2.2.1.1 x.2.2.2.2.1.2.1 x.2.2.2.2.1.2.2.1 x.2.2.2.2.1.2.2.2.1 x.2.2.2.2.1.2.2.2.2.1 x.2.2.2.2.2.1 x.2.2.2.2.2.2.1 x.2.2.2.2.2.2.2.1 := by
  show _ = (_ : Option _)
  kernel_rfl
noncomputable def profile_Of.L1 : Y4 → Option Y1 := loop fun L x => profile_Of.f1 profile_Of.L2 L x.1.1 x.1.2.1 x.1.2.2.1 x.1.2.2.2.2.2.2.2.1 x.1.2.2.2.2.2.2.2.2.1 x.2.1.1 x.2.1.2.1 x.2.1.2.2.1 x.2.2.1.1 x.2.2.1.2.1 x.2.2.1.2.2.1 x.2.2.1.2.2.2.1 x.2.2.1.2.2.2.2.1 x.2.2.2.1 x.2.2.2.2.1.1 x.2.2.2.2.1.2.1 x.2.2.2.2.1.2.2.1 x.2.2.2.2.1.2.2.2.1 x.2.2.2.2.1.2.2.2.2.1 x.2.2.2.2.2.1 x.2.2.2.2.2.2.1 x.2.2.2.2.2.2.2.1
def profile_Of.f4 (g_profile_Best : Y71 → Option Y121) (L : Y13 → Option Y14) (v128 v129 o0_0 o0_1 o0_2 o0_3 o0_4 o1_0 o1_1 o1_2 o1_3 o1_4 : Int) (o2 o3 o4 : List Y144) : Option Y14 :=
  (bif (decide (v129 < v128)) then
 (bif (decide ((0:Int) ≤ v129)) then
 (bif (decide (v129 < (((List.length o3) : Nat) : Int))) then
 (bif (decide ((0:Int) ≤ v129)) then
 (bif (decide (v129 < (((List.length o2) : Nat) : Int))) then
 (bif (decide ((0:Int) ≤ v129)) then
 (bif (decide (v129 < (((List.length (List.set o2 (Int.toNat v129) ((List.getD o3 (Int.toNat v129) ((0:Int), ((0:Int), (0:Int)))).1, ((List.getD o3 (Int.toNat v129) ((0:Int), ((0:Int), (0:Int)))).2.1, (List.getD o3 (Int.toNat v129) ((0:Int), ((0:Int), (0:Int)))).2.2)))) : Nat) : Int))) then
 (bif (decide ((0:Int) ≤ v129)) then
 (bif (decide (v129 < (((List.length o4) : Nat) : Int))) then
 (Option.bind (g_profile_Best (((), (((List.getD o4 (Int.toNat v129) ((0:Int), ((0:Int), (0:Int)))).1, ((List.getD o4 (Int.toNat v129) ((0:Int), ((0:Int), (0:Int)))).2.1, ((List.getD o4 (Int.toNat v129) ((0:Int), ((0:Int), (0:Int)))).2.2, ()))), ())), (((List.getD (List.set o2 (Int.toNat v129) ((List.getD o3 (Int.toNat v129) ((0:Int), ((0:Int), (0:Int)))).1, ((List.getD o3 (Int.toNat v129) ((0:Int), ((0:Int), (0:Int)))).2.1, (List.getD o3 (Int.toNat v129) ((0:Int), ((0:Int), (0:Int)))).2.2))) (Int.toNat v129) ((0:Int), ((0:Int), (0:Int)))).1, ((List.getD (List.set o2 (Int.toNat v129) ((List.getD o3 (Int.toNat v129) ((0:Int), ((0:Int), (0:Int)))).1, ((List.getD o3 (Int.toNat v129) ((0:Int), ((0:Int), (0:Int)))).2.1, (List.getD o3 (Int.toNat v129) ((0:Int), ((0:Int), (0:Int)))).2.2))) (Int.toNat v129) ((0:Int), ((0:Int), (0:Int)))).2.1, ((List.getD (List.set o2 (Int.toNat v129) ((List.getD o3 (Int.toNat v129) ((0:Int), ((0:Int), (0:Int)))).1, ((List.getD o3 (Int.toNat v129) ((0:Int), ((0:Int), (0:Int)))).2.1, (List.getD o3 (Int.toNat v129) ((0:Int), ((0:Int), (0:Int)))).2.2))) (Int.toNat v129) ((0:Int), ((0:Int), (0:Int)))).2.2, ()))), ()))) (fun y9 =>
 (Option.bind (L (((), ((), (v128, ((Go.IntKind.wrap Go.IntKind.i64 (v129 + (1:Int))), ())))), ((o0_0, (o0_1, (o0_2, (o0_3, (o0_4, ((), ((), ((), ())))))))), ((o1_0, (o1_1, (o1_2, (o1_3, (o1_4, ((), ((), ((), ())))))))), ((List.set (List.set o2 (Int.toNat v129) ((List.getD o3 (Int.toNat v129) ((0:Int), ((0:Int), (0:Int)))).1, ((List.getD o3 (Int.toNat v129) ((0:Int), ((0:Int), (0:Int)))).2.1, (List.getD o3 (Int.toNat v129) ((0:Int), ((0:Int), (0:Int)))).2.2))) (Int.toNat v129) (y9.2.1.1, (y9.2.1.2.1, y9.2.1.2.2.1))), (o3, (o4, ()))))))) (fun y10 =>
 (some y10)))))
 else
 none)
 else
 none)
 else
 none)
 else
 none)
 else
 none)
 else
 none)
 else
 none)
 else
 none)
 else
 (some (Sum.inl (((), ((), ())), ((o0_0, (o0_1, (o0_2, (o0_3, (o0_4, ((), ((), ((), ())))))))), ((o1_0, (o1_1, (o1_2, (o1_3, (o1_4, ((), ((), ((), ())))))))), (o2, (o3, (o4, ())))))))))
theorem profile_Of.eq4 (g_measure_Check : measure_Check.G) (g_profile_Windows : profile_Windows.G) (g_profile_Zone : profile_Zone.G) (g_profile_None : profile_None.G) (g_measure_Distance : measure_Distance.G) (g_profile_Best : profile_Best.G) (l0 : profile_Of.A0) (l1 : profile_Of.A1) (l2 : profile_Of.A2) (l3 : profile_Of.A3) (l4 : profile_Of.A4) (L : profile_Of.A4) (x : profile_Of.s4.X) : rndO (profile_Of.E g_measure_Check g_profile_Windows g_profile_Zone g_profile_None g_measure_Distance g_profile_Best l0 l1 l2 l3 l4) profile_Of.hs profile_Of.c profile_Of.s4 profile_Of.x4 4 true L x = profile_Of.f4 g_profile_Best L x.1.2.2.1 x.1.2.2.2.1 x.2.1.1 x.2.1.2.1 x.2.1.2.2.1 x.2.1.2.2.2.1 x.2.1.2.2.2.2.1 x.2.2.1.1 x.2.2.1.2.1 x.2.2.1.2.2.1 x.2.2.1.2.2.2.1 x.2.2.1.2.2.2.2.1 x.2.2.2.1 x.2.2.2.2.1 x.2.2.2.2.2.1 := by
  show _ = (_ : Option _)
  kernel_rfl
noncomputable def profile_Of.L4 : Y13 → Option Y14 := loop fun L x => profile_Of.f4 profile_Best.F L x.1.2.2.1 x.1.2.2.2.1 x.2.1.1 x.2.1.2.1 x.2.1.2.2.1 x.2.1.2.2.2.1 x.2.1.2.2.2.2.1 x.2.2.1.1 x.2.2.1.2.1 x.2.2.1.2.2.1 x.2.2.1.2.2.2.1 x.2.2.1.2.2.2.2.1 x.2.2.2.1 x.2.2.2.2.1 x.2.2.2.2.2.1
def profile_Of.f (g_measure_Check : Y120 → Option Y143) (g_profile_Windows : Y134 → Option Y123) (g_profile_Zone : Y143 → Option Y142) (l0 : Y4 → Option Y5) (l1 : Y4 → Option Y1) (l4 : Y13 → Option Y14) (l : List Int) (m_Kind m_Band m_Gap length zone : Int) : Option Y19 :=
  (Option.bind (g_measure_Check (((m_Kind, (m_Band, (m_Gap, ()))), ()), ())) (fun y0 =>
 (bif (y0.1.1 != (0:Int)) then
 (some ((((0:Int), ((0:Int), ((0:Int), ((0:Int), ((0:Int), ((), ((), ((), ())))))))), (y0.1.1, ())), (([] : List Y144), (([] : List Y144), (([] : List Y144), ())))))
 else
 (Option.bind (g_profile_Windows ((l, (length, ())), ())) (fun y2 =>
 (bif (y2.1.2.1 != (0:Int)) then
 (some ((((0:Int), ((0:Int), ((0:Int), ((0:Int), ((0:Int), ((), ((), ((), ())))))))), (y2.1.2.1, ())), (([] : List Y144), (([] : List Y144), (([] : List Y144), ())))))
 else
 (Option.bind (g_profile_Zone ((zone, ()), ())) (fun y4 =>
 (bif (!y4.1.1) then
 (some ((((0:Int), ((0:Int), ((0:Int), ((0:Int), ((0:Int), ((), ((), ((), ())))))))), ((29:Int), ())), (([] : List Y144), (([] : List Y144), (([] : List Y144), ())))))
 else
 (Option.bind (l0 ((l, (length, (zone, ((), ((), ((), ((), ((((List.length y2.2.1) : Nat) : Int), ((0:Int), ()))))))))), ((m_Kind, (m_Band, (m_Gap, ()))), (((0:Int), ((0:Int), ((0:Int), ((0:Int), ((0:Int), ((), ((), ((), ())))))))), (y2.2.1, ((m_Kind, (m_Band, (m_Gap, (length, (zone, ((), ((), ((), ())))))))), (([] : List Y144), (([] : List Y144), (([] : List Y144), ()))))))))) (fun y6 =>
 (Sum.elim (fun a7 =>
 (Option.bind (l1 ((a7.1.1, (a7.1.2.1, (a7.1.2.2.1, ((), ((), ((), ((), ((((List.length a7.2.2.2.1) : Nat) : Int), ((0:Int), ()))))))))), ((a7.2.1.1, (a7.2.1.2.1, (a7.2.1.2.2.1, ()))), ((a7.2.2.1.1, (a7.2.2.1.2.1, (a7.2.2.1.2.2.1, (a7.2.2.1.2.2.2.1, (a7.2.2.1.2.2.2.2.1, ((), ((), ((), ())))))))), (a7.2.2.2.1, ((a7.2.2.2.2.1.1, (a7.2.2.2.2.1.2.1, (a7.2.2.2.2.1.2.2.1, (a7.2.2.2.2.1.2.2.2.1, (a7.2.2.2.2.1.2.2.2.2.1, ((), ((), ((), ())))))))), (a7.2.2.2.2.2.1, (a7.2.2.2.2.2.2.1, (a7.2.2.2.2.2.2.2.1, ()))))))))) (fun y8 =>
 (Sum.elim (fun a9 =>
 (Option.bind (l4 (((), ((), ((((List.length a9.2.2.1) : Nat) : Int), ((0:Int), ())))), ((a9.2.1.1, (a9.2.1.2.1, (a9.2.1.2.2.1, (a9.2.1.2.2.2.1, (a9.2.1.2.2.2.2.1, ((), ((), ((), ())))))))), ((a9.2.2.2.1.1, (a9.2.2.2.1.2.1, (a9.2.2.2.1.2.2.1, (a9.2.2.2.1.2.2.2.1, (a9.2.2.2.1.2.2.2.2.1, ((), ((), ((), ())))))))), (a9.2.2.2.2.1, (a9.2.2.2.2.2.1, (a9.2.2.2.2.2.2.1, ()))))))) (fun y10 =>
 (Sum.elim (fun a11 =>
 (some (((a11.2.2.1.1, (a11.2.2.1.2.1, (a11.2.2.1.2.2.1, (a11.2.2.1.2.2.2.1, (a11.2.2.1.2.2.2.2.1, ((), ((), ((), ())))))))), ((0:Int), ())), (a11.2.2.2.1, (a11.2.2.2.2.1, (a11.2.2.2.2.2.1, ())))))) (fun b11 =>
 (Empty.elim b11)) y10)))) (fun b9 =>
 (Sum.elim (fun a10 =>
 (some (((a10.2.1.1, (a10.2.1.2.1, (a10.2.1.2.2.1, (a10.2.1.2.2.2.1, (a10.2.1.2.2.2.2.1, ((), ((), ((), ())))))))), (a10.1.2.1, ())), (([] : List Y144), (([] : List Y144), (([] : List Y144), ())))))) (fun b10 =>
 (Empty.elim b10)) b9)) y8)))) (fun b7 =>
 (Empty.elim b7)) y6))))))))))))
theorem profile_Of.eq (g_measure_Check : measure_Check.G) (g_profile_Windows : profile_Windows.G) (g_profile_Zone : profile_Zone.G) (g_profile_None : profile_None.G) (g_measure_Distance : measure_Distance.G) (g_profile_Best : profile_Best.G) (l0 : profile_Of.A0) (l1 : profile_Of.A1) (l2 : profile_Of.A2) (l3 : profile_Of.A3) (l4 : profile_Of.A4) (x : profile_Of.sh.X) : bodO (profile_Of.E g_measure_Check g_profile_Windows g_profile_Zone g_profile_None g_measure_Distance g_profile_Best l0 l1 l2 l3 l4) profile_Of.hs profile_Of.c Try.f21 profile_Of.sh profile_Of.osh x = profile_Of.f g_measure_Check g_profile_Windows g_profile_Zone l0 l1 l4 x.1.1 x.1.2.1.1 x.1.2.1.2.1 x.1.2.1.2.2.1 x.1.2.2.1 x.1.2.2.2.1 := by
  show _ = (_ : Option _)
  kernel_rfl
noncomputable def profile_Of (l : List Int) (m_Kind m_Band m_Gap length zone : Int) : Option Y19 := profile_Of.f measure_Check.F profile_Windows.F profile_Zone.F profile_Of.L0 profile_Of.L1 profile_Of.L4 l m_Kind m_Band m_Gap length zone
noncomputable def profile_Of.F (x : Y87) : Option Y19 := profile_Of x.1.1 x.1.2.1.1 x.1.2.1.2.1 x.1.2.1.2.2.1 x.1.2.2.1 x.1.2.2.2.1
theorem profile_Of.L0_eq (l_0 : List Int) (length_2 zone_3 v44 v45 o0_0 o0_1 o0_2 o1_0 o1_1 o1_2 o1_3 o1_4 : Int) (o2 : List Bool) (o3_0 o3_1 o3_2 o3_3 o3_4 : Int) (o4 o5 o6 : List Y144) : profile_Of.L0 ((l_0, length_2, zone_3, (), (), (), (), v44, v45, ()), ((o0_0, o0_1, o0_2, ()), (o1_0, o1_1, o1_2, o1_3, o1_4, (), (), (), ()), o2, (o3_0, o3_1, o3_2, o3_3, o3_4, (), (), (), ()), o4, o5, o6, ())) = profile_Of.f0 profile_None.F profile_Of.L0 l_0 length_2 zone_3 v44 v45 o0_0 o0_1 o0_2 o1_0 o1_1 o1_2 o1_3 o1_4 o2 o3_0 o3_1 o3_2 o3_3 o3_4 o4 o5 o6 :=
  loop_eq (E := (profile_Of.E measure_Check.F profile_Windows.F profile_Zone.F profile_None.F measure_Distance.F profile_Best.F profile_Of.L0 profile_Of.L1 profile_Of.L2 profile_Of.L3 profile_Of.L4)) (sh := profile_Of.s0) (es := profile_Of.x0) (lp := true) (H := fun L x => profile_Of.eq0 measure_Check.F profile_Windows.F profile_Zone.F profile_None.F measure_Distance.F profile_Best.F profile_Of.L0 profile_Of.L1 profile_Of.L2 profile_Of.L3 profile_Of.L4 L x) ((l_0, length_2, zone_3, (), (), (), (), v44, v45, ()), ((o0_0, o0_1, o0_2, ()), (o1_0, o1_1, o1_2, o1_3, o1_4, (), (), (), ()), o2, (o3_0, o3_1, o3_2, o3_3, o3_4, (), (), (), ()), o4, o5, o6, ()))
theorem profile_Of.L1_eq (l_0 : List Int) (length_2 zone_3 v67 v68 o0_0 o0_1 o0_2 o1_0 o1_1 o1_2 o1_3 o1_4 : Int) (o2 : List Bool) (o3_0 o3_1 o3_2 o3_3 o3_4 : Int) (o4 o5 o6 : List Y144) : profile_Of.L1 ((l_0, length_2, zone_3, (), (), (), (), v67, v68, ()), ((o0_0, o0_1, o0_2, ()), (o1_0, o1_1, o1_2, o1_3, o1_4, (), (), (), ()), o2, (o3_0, o3_1, o3_2, o3_3, o3_4, (), (), (), ()), o4, o5, o6, ())) = profile_Of.f1 profile_Of.L2 profile_Of.L1 l_0 length_2 zone_3 v67 v68 o0_0 o0_1 o0_2 o1_0 o1_1 o1_2 o1_3 o1_4 o2 o3_0 o3_1 o3_2 o3_3 o3_4 o4 o5 o6 :=
  loop_eq (E := (profile_Of.E measure_Check.F profile_Windows.F profile_Zone.F profile_None.F measure_Distance.F profile_Best.F profile_Of.L0 profile_Of.L1 profile_Of.L2 profile_Of.L3 profile_Of.L4)) (sh := profile_Of.s1) (es := profile_Of.x1) (lp := true) (H := fun L x => profile_Of.eq1 measure_Check.F profile_Windows.F profile_Zone.F profile_None.F measure_Distance.F profile_Best.F profile_Of.L0 profile_Of.L1 profile_Of.L2 profile_Of.L3 profile_Of.L4 L x) ((l_0, length_2, zone_3, (), (), (), (), v67, v68, ()), ((o0_0, o0_1, o0_2, ()), (o1_0, o1_1, o1_2, o1_3, o1_4, (), (), (), ()), o2, (o3_0, o3_1, o3_2, o3_3, o3_4, (), (), (), ()), o4, o5, o6, ()))
theorem profile_Of.L2_eq (l_0 : List Int) (length_2 zone_3 i_14 j_15 v67 v68 o0_0 o0_1 o0_2 o1_0 o1_1 o1_2 o1_3 o1_4 : Int) (o2 : List Bool) (o3_0 o3_1 o3_2 o3_3 o3_4 : Int) (o4 o5 o6 : List Y144) : profile_Of.L2 ((l_0, length_2, zone_3, (), (), (), (), i_14, j_15, v67, v68, ()), ((o0_0, o0_1, o0_2, ()), (o1_0, o1_1, o1_2, o1_3, o1_4, (), (), (), ()), o2, (o3_0, o3_1, o3_2, o3_3, o3_4, (), (), (), ()), o4, o5, o6, ())) = profile_Of.f2 measure_Distance.F profile_Best.F profile_Of.L3 profile_Of.L2 l_0 length_2 zone_3 i_14 j_15 v67 v68 o0_0 o0_1 o0_2 o1_0 o1_1 o1_2 o1_3 o1_4 o2 o3_0 o3_1 o3_2 o3_3 o3_4 o4 o5 o6 :=
  loop_eq (E := (profile_Of.E measure_Check.F profile_Windows.F profile_Zone.F profile_None.F measure_Distance.F profile_Best.F profile_Of.L0 profile_Of.L1 profile_Of.L2 profile_Of.L3 profile_Of.L4)) (sh := profile_Of.s2) (es := profile_Of.x2) (lp := true) (H := fun L x => profile_Of.eq2 measure_Check.F profile_Windows.F profile_Zone.F profile_None.F measure_Distance.F profile_Best.F profile_Of.L0 profile_Of.L1 profile_Of.L2 profile_Of.L3 profile_Of.L4 L x) ((l_0, length_2, zone_3, (), (), (), (), i_14, j_15, v67, v68, ()), ((o0_0, o0_1, o0_2, ()), (o1_0, o1_1, o1_2, o1_3, o1_4, (), (), (), ()), o2, (o3_0, o3_1, o3_2, o3_3, o3_4, (), (), (), ()), o4, o5, o6, ()))
theorem profile_Of.L3_eq (l_0 : List Int) (length_2 zone_3 i_14 j_15 v67 v68 o0_0 o0_1 o0_2 o1_0 o1_1 o1_2 o1_3 o1_4 : Int) (o2 : List Bool) (o3_0 o3_1 o3_2 o3_3 o3_4 : Int) (o4 o5 o6 : List Y144) : profile_Of.L3 ((l_0, length_2, zone_3, (), (), (), (), i_14, j_15, v67, v68, ()), ((o0_0, o0_1, o0_2, ()), (o1_0, o1_1, o1_2, o1_3, o1_4, (), (), (), ()), o2, (o3_0, o3_1, o3_2, o3_3, o3_4, (), (), (), ()), o4, o5, o6, ())) = profile_Of.f3 l_0 length_2 zone_3 i_14 j_15 v67 v68 o0_0 o0_1 o0_2 o1_0 o1_1 o1_2 o1_3 o1_4 o2 o3_0 o3_1 o3_2 o3_3 o3_4 o4 o5 o6 := rfl
theorem profile_Of.L4_eq (v128 v129 o0_0 o0_1 o0_2 o0_3 o0_4 o1_0 o1_1 o1_2 o1_3 o1_4 : Int) (o2 o3 o4 : List Y144) : profile_Of.L4 (((), (), v128, v129, ()), ((o0_0, o0_1, o0_2, o0_3, o0_4, (), (), (), ()), (o1_0, o1_1, o1_2, o1_3, o1_4, (), (), (), ()), o2, o3, o4, ())) = profile_Of.f4 profile_Best.F profile_Of.L4 v128 v129 o0_0 o0_1 o0_2 o0_3 o0_4 o1_0 o1_1 o1_2 o1_3 o1_4 o2 o3 o4 :=
  loop_eq (E := (profile_Of.E measure_Check.F profile_Windows.F profile_Zone.F profile_None.F measure_Distance.F profile_Best.F profile_Of.L0 profile_Of.L1 profile_Of.L2 profile_Of.L3 profile_Of.L4)) (sh := profile_Of.s4) (es := profile_Of.x4) (lp := true) (H := fun L x => profile_Of.eq4 measure_Check.F profile_Windows.F profile_Zone.F profile_None.F measure_Distance.F profile_Best.F profile_Of.L0 profile_Of.L1 profile_Of.L2 profile_Of.L3 profile_Of.L4 L x) (((), (), v128, v129, ()), ((o0_0, o0_1, o0_2, o0_3, o0_4, (), (), (), ()), (o1_0, o1_1, o1_2, o1_3, o1_4, (), (), (), ()), o2, o3, o4, ()))
theorem profile_Of.F_eq (l : List Int) (m_Kind m_Band m_Gap length zone : Int) : profile_Of.F ((l, (m_Kind, m_Band, m_Gap, ()), length, zone, ()), ()) = profile_Of.f measure_Check.F profile_Windows.F profile_Zone.F profile_Of.L0 profile_Of.L1 profile_Of.L4 l m_Kind m_Band m_Gap length zone := rfl
theorem profile_Of.ok {tabs : List (Nat × Go.Obj)} (ht : TabsOk tabs) : FOK Try.prog tabs 21 (profile_Of.fe profile_Of.F) := by
  refine fn_keep2 Try.func21 (profile_Of.eq measure_Check.F profile_Windows.F profile_Zone.F profile_None.F measure_Distance.F profile_Best.F profile_Of.L0 profile_Of.L1 profile_Of.L2 profile_Of.L3 profile_Of.L4) pw tb (gt_ok ht) (by kernel_rfl) (by kernel_rfl) (fun g ks fe h => ?_) ?_
  · rcases c_cons h with ⟨rfl, rfl⟩ | h
    · exact measure_Check.ok ht
    rcases c_cons h with ⟨rfl, rfl⟩ | h
    · exact profile_Windows.ok ht
    rcases c_cons h with ⟨rfl, rfl⟩ | h
    · exact profile_Zone.ok ht
    rcases c_cons h with ⟨rfl, rfl⟩ | h
    · exact profile_None.ok ht
    rcases c_cons h with ⟨rfl, rfl⟩ | h
    · exact measure_Distance.ok ht
    rcases c_cons h with ⟨rfl, rfl⟩ | h
    · exact profile_Best.ok ht
    cases h
  · refine known_at 5 (by kernel_rfl) fun i hi => ?_
    match i, hi with
    | 0, _ => exact atomH (loop_ok (es := profile_Of.x0) rfl (profile_Of.eq0 measure_Check.F profile_Windows.F profile_Zone.F profile_None.F measure_Distance.F profile_Best.F profile_Of.L0 profile_Of.L1 profile_Of.L2 profile_Of.L3 profile_Of.L4)) (by kernel_rfl)
    | 1, _ => exact atomH (loop_ok (es := profile_Of.x1) rfl (profile_Of.eq1 measure_Check.F profile_Windows.F profile_Zone.F profile_None.F measure_Distance.F profile_Best.F profile_Of.L0 profile_Of.L1 profile_Of.L2 profile_Of.L3 profile_Of.L4)) (by kernel_rfl)
    | 2, _ => exact atomH (loop_ok (es := profile_Of.x2) rfl (profile_Of.eq2 measure_Check.F profile_Windows.F profile_Zone.F profile_None.F measure_Distance.F profile_Best.F profile_Of.L0 profile_Of.L1 profile_Of.L2 profile_Of.L3 profile_Of.L4)) (by kernel_rfl)
    | 3, _ => exact atomH (cut_ok (es := profile_Of.x3) rfl (profile_Of.eq3 measure_Check.F profile_Windows.F profile_Zone.F profile_None.F measure_Distance.F profile_Best.F profile_Of.L0 profile_Of.L1 profile_Of.L2 profile_Of.L3 profile_Of.L4)) (by kernel_rfl)
    | 4, _ => exact atomH (loop_ok (es := profile_Of.x4) rfl (profile_Of.eq4 measure_Check.F profile_Windows.F profile_Zone.F profile_None.F measure_Distance.F profile_Best.F profile_Of.L0 profile_Of.L1 profile_Of.L2 profile_Of.L3 profile_Of.L4)) (by kernel_rfl)
    | n + 5, h => exact absurd h (by omega)

/-! profile_neighbour -/
def profile_neighbour.f0 (g_ratio_Valid : Y131 → Option Y142) (i_1 n_2 zone_3 : Int) (behind_4 : Bool) (o0_0 o0_1 o0_2 : Int) : Option Y61 :=
  (bif (decide (o0_0 < (0:Int))) then
 (some (Sum.inl ((i_1, (zone_3, (behind_4, ((), (Bool.true, ()))))), ((o0_0, (o0_1, (o0_2, ()))), ()))))
 else
 (bif (decide (o0_0 ≥ n_2)) then
 (some (Sum.inl ((i_1, (zone_3, (behind_4, ((), (Bool.true, ()))))), ((o0_0, (o0_1, (o0_2, ()))), ()))))
 else
 (Option.bind (g_ratio_Valid (((o0_1, (o0_2, ())), ()), ())) (fun y2 =>
 (some (Sum.inl ((i_1, (zone_3, (behind_4, ((), ((!y2.1.1), ()))))), ((o0_0, (o0_1, (o0_2, ()))), ()))))))))
theorem profile_neighbour.eq0 (g_profile_None : profile_None.G) (g_ratio_Valid : ratio_Valid.G) (l0 : profile_neighbour.A0) (L : profile_neighbour.A0) (x : profile_neighbour.s0.X) : rndO (profile_neighbour.E g_profile_None g_ratio_Valid l0) profile_neighbour.hs profile_neighbour.c profile_neighbour.s0 profile_neighbour.x0 0 false L x = profile_neighbour.f0 g_ratio_Valid x.1.1 x.1.2.1 x.1.2.2.1 x.1.2.2.2.1 x.2.1.1 x.2.1.2.1 x.2.1.2.2.1 := by
  show _ = (_ : Option _)
  kernel_rfl
noncomputable def profile_neighbour.L0 : Y74 → Option Y61 := fun x => profile_neighbour.f0 ratio_Valid.F x.1.1 x.1.2.1 x.1.2.2.1 x.1.2.2.2.1 x.2.1.1 x.2.1.2.1 x.2.1.2.2.1
def profile_neighbour.f (g_profile_None : Y145 → Option Y120) (l0 : Y74 → Option Y61) (x_At x_Distance_Num x_Distance_Den i n zone : Int) (behind : Bool) : Option Y142 :=
  (bif (x_At == (-(1:Int))) then
 (Option.bind (g_profile_None ((), ())) (fun y1 =>
 (some ((((x_At == y1.1.1.1) && (((x_Distance_Num == y1.1.1.2.1) && ((x_Distance_Den == y1.1.1.2.2.1) && Bool.true)) && Bool.true)), ()), ()))))
 else
 (Option.bind (l0 ((i, (n, (zone, (behind, ((), ()))))), ((x_At, (x_Distance_Num, (x_Distance_Den, ()))), ()))) (fun y1 =>
 (Sum.elim (fun a2 =>
 (bif a2.1.2.2.2.2.1 then
 (some ((Bool.false, ()), ()))
 else
 (bif a2.1.2.2.1 then
 (some (((decide (a2.2.1.1 ≥ (Go.IntKind.wrap Go.IntKind.i64 (a2.1.1 + a2.1.2.1)))), ()), ()))
 else
 (some (((decide (a2.2.1.1 ≤ (Go.IntKind.wrap Go.IntKind.i64 (a2.1.1 - a2.1.2.1)))), ()), ()))))) (fun b2 =>
 (Empty.elim b2)) y1))))
theorem profile_neighbour.eq (g_profile_None : profile_None.G) (g_ratio_Valid : ratio_Valid.G) (l0 : profile_neighbour.A0) (x : profile_neighbour.sh.X) : bodO (profile_neighbour.E g_profile_None g_ratio_Valid l0) profile_neighbour.hs profile_neighbour.c Try.f31 profile_neighbour.sh profile_neighbour.osh x = profile_neighbour.f g_profile_None l0 x.1.1.1 x.1.1.2.1 x.1.1.2.2.1 x.1.2.1 x.1.2.2.1 x.1.2.2.2.1 x.1.2.2.2.2.1 := by
  show _ = (_ : Option _)
  kernel_rfl
noncomputable def profile_neighbour (x_At x_Distance_Num x_Distance_Den i n zone : Int) (behind : Bool) : Option Y142 := profile_neighbour.f profile_None.F profile_neighbour.L0 x_At x_Distance_Num x_Distance_Den i n zone behind
noncomputable def profile_neighbour.F (x : Y86) : Option Y142 := profile_neighbour x.1.1.1 x.1.1.2.1 x.1.1.2.2.1 x.1.2.1 x.1.2.2.1 x.1.2.2.2.1 x.1.2.2.2.2.1
theorem profile_neighbour.L0_eq (i_1 n_2 zone_3 : Int) (behind_4 : Bool) (o0_0 o0_1 o0_2 : Int) : profile_neighbour.L0 ((i_1, n_2, zone_3, behind_4, (), ()), ((o0_0, o0_1, o0_2, ()), ())) = profile_neighbour.f0 ratio_Valid.F i_1 n_2 zone_3 behind_4 o0_0 o0_1 o0_2 := rfl
theorem profile_neighbour.F_eq (x_At x_Distance_Num x_Distance_Den i n zone : Int) (behind : Bool) : profile_neighbour.F (((x_At, x_Distance_Num, x_Distance_Den, ()), i, n, zone, behind, ()), ()) = profile_neighbour.f profile_None.F profile_neighbour.L0 x_At x_Distance_Num x_Distance_Den i n zone behind := rfl
theorem profile_neighbour.ok {tabs : List (Nat × Go.Obj)} (ht : TabsOk tabs) : FOK Try.prog tabs 31 (profile_neighbour.fe profile_neighbour.F) := by
  refine fn_keep2 Try.func31 (profile_neighbour.eq profile_None.F ratio_Valid.F profile_neighbour.L0) pw tb (gt_ok ht) (by kernel_rfl) (by kernel_rfl) (fun g ks fe h => ?_) ?_
  · rcases c_cons h with ⟨rfl, rfl⟩ | h
    · exact profile_None.ok ht
    rcases c_cons h with ⟨rfl, rfl⟩ | h
    · exact ratio_Valid.ok ht
    cases h
  · refine known_at 1 (by kernel_rfl) fun i hi => ?_
    match i, hi with
    | 0, _ => exact atomH (cut_ok (es := profile_neighbour.x0) rfl (profile_neighbour.eq0 profile_None.F ratio_Valid.F profile_neighbour.L0)) (by kernel_rfl)
    | n + 1, h => exact absurd h (by omega)

/-! profile_Valid -/
def profile_Valid.f0 (g_measure_Check : Y120 → Option Y143) (g_profile_Length : Y143 → Option Y142) (g_profile_Zone : Y143 → Option Y142) (n_3 o0_0 o0_1 o0_2 o0_3 o0_4 : Int) (o0_5 o0_6 o0_7 : List Y144) : Option Y18 :=
  (Option.bind (g_measure_Check (((o0_0, (o0_1, (o0_2, ()))), ()), ())) (fun y0 =>
 (bif (y0.1.1 != (0:Int)) then
 (some (Sum.inl (((), (n_3, (Bool.true, ()))), ((o0_0, (o0_1, (o0_2, (o0_3, (o0_4, (o0_5, (o0_6, (o0_7, ())))))))), ()))))
 else
 (Option.bind (g_profile_Length ((o0_3, ()), ())) (fun y2 =>
 (bif (!y2.1.1) then
 (some (Sum.inl (((), (n_3, (Bool.true, ()))), ((o0_0, (o0_1, (o0_2, (o0_3, (o0_4, (o0_5, (o0_6, (o0_7, ())))))))), ()))))
 else
 (Option.bind (g_profile_Zone ((o0_4, ()), ())) (fun y4 =>
 (bif (!y4.1.1) then
 (some (Sum.inl (((), (n_3, (Bool.true, ()))), ((o0_0, (o0_1, (o0_2, (o0_3, (o0_4, (o0_5, (o0_6, (o0_7, ())))))))), ()))))
 else
 (bif ((((List.length o0_6) : Nat) : Int) != n_3) then
 (some (Sum.inl (((), (n_3, (Bool.true, ()))), ((o0_0, (o0_1, (o0_2, (o0_3, (o0_4, (o0_5, (o0_6, (o0_7, ())))))))), ()))))
 else
 (bif ((((List.length o0_7) : Nat) : Int) != n_3) then
 (some (Sum.inl (((), (n_3, (Bool.true, ()))), ((o0_0, (o0_1, (o0_2, (o0_3, (o0_4, (o0_5, (o0_6, (o0_7, ())))))))), ()))))
 else
 (some (Sum.inl (((), (n_3, ((decide (n_3 > (2000:Int))), ()))), ((o0_0, (o0_1, (o0_2, (o0_3, (o0_4, (o0_5, (o0_6, (o0_7, ())))))))), ())))))))))))))))
theorem profile_Valid.eq0 (g_measure_Check : measure_Check.G) (g_profile_Length : profile_Length.G) (g_profile_Zone : profile_Zone.G) (g_profile_Best : profile_Best.G) (g_profile_neighbour : profile_neighbour.G) (l0 : profile_Valid.A0) (l1 : profile_Valid.A1) (l2 : profile_Valid.A2) (L : profile_Valid.A0) (x : profile_Valid.s0.X) : rndO (profile_Valid.E g_measure_Check g_profile_Length g_profile_Zone g_profile_Best g_profile_neighbour l0 l1 l2) profile_Valid.hs profile_Valid.c profile_Valid.s0 profile_Valid.x0 0 false L x = profile_Valid.f0 g_measure_Check g_profile_Length g_profile_Zone x.1.2.1 x.2.1.1 x.2.1.2.1 x.2.1.2.2.1 x.2.1.2.2.2.1 x.2.1.2.2.2.2.1 x.2.1.2.2.2.2.2.1 x.2.1.2.2.2.2.2.2.1 x.2.1.2.2.2.2.2.2.2.1 := by
  show _ = (_ : Option _)
  kernel_rfl
noncomputable def profile_Valid.L0 : Y21 → Option Y18 := fun x => profile_Valid.f0 measure_Check.F profile_Length.F profile_Zone.F x.1.2.1 x.2.1.1 x.2.1.2.1 x.2.1.2.2.1 x.2.1.2.2.2.1 x.2.1.2.2.2.2.1 x.2.1.2.2.2.2.2.1 x.2.1.2.2.2.2.2.2.1 x.2.1.2.2.2.2.2.2.2.1
def profile_Valid.f2 (g_profile_neighbour : Y86 → Option Y142) (n_3 i_4 v43 v44 o0_0 o0_1 o0_2 o0_3 o0_4 : Int) (o0_5 o0_6 o0_7 : List Y144) (o1_0 o1_1 o1_2 : Int) : Option Y16 :=
  (bif (decide ((0:Int) ≤ i_4)) then
 (bif (decide (i_4 < (((List.length o0_6) : Nat) : Int))) then
 (Option.bind (g_profile_neighbour ((((List.getD o0_6 (Int.toNat i_4) ((0:Int), ((0:Int), (0:Int)))).1, ((List.getD o0_6 (Int.toNat i_4) ((0:Int), ((0:Int), (0:Int)))).2.1, ((List.getD o0_6 (Int.toNat i_4) ((0:Int), ((0:Int), (0:Int)))).2.2, ()))), (i_4, (n_3, (o0_4, (Bool.false, ()))))), ())) (fun y2 =>
 (bif (!y2.1.1) then
 (some (Sum.inl (((), (n_3, (v43, (v44, (Bool.true, ()))))), ((o0_0, (o0_1, (o0_2, (o0_3, (o0_4, (o0_5, (o0_6, (o0_7, ())))))))), ()))))
 else
 (bif (decide ((0:Int) ≤ i_4)) then
 (bif (decide (i_4 < (((List.length o0_7) : Nat) : Int))) then
 (Option.bind (g_profile_neighbour ((((List.getD o0_7 (Int.toNat i_4) ((0:Int), ((0:Int), (0:Int)))).1, ((List.getD o0_7 (Int.toNat i_4) ((0:Int), ((0:Int), (0:Int)))).2.1, ((List.getD o0_7 (Int.toNat i_4) ((0:Int), ((0:Int), (0:Int)))).2.2, ()))), (i_4, (n_3, (o0_4, (Bool.true, ()))))), ())) (fun y6 =>
 (bif (!y6.1.1) then
 (some (Sum.inl (((), (n_3, (v43, (v44, (Bool.true, ()))))), ((o0_0, (o0_1, (o0_2, (o0_3, (o0_4, (o0_5, (o0_6, (o0_7, ())))))))), ()))))
 else
 (bif (decide ((0:Int) ≤ i_4)) then
 (bif (decide (i_4 < (((List.length o0_5) : Nat) : Int))) then
 (some (Sum.inl (((), (n_3, (v43, (v44, ((!(((List.getD o0_5 (Int.toNat i_4) ((0:Int), ((0:Int), (0:Int)))).1 == o1_0) && ((((List.getD o0_5 (Int.toNat i_4) ((0:Int), ((0:Int), (0:Int)))).2.1 == o1_1) && (((List.getD o0_5 (Int.toNat i_4) ((0:Int), ((0:Int), (0:Int)))).2.2 == o1_2) && Bool.true)) && Bool.true))), ()))))), ((o0_0, (o0_1, (o0_2, (o0_3, (o0_4, (o0_5, (o0_6, (o0_7, ())))))))), ()))))
 else
 none)
 else
 none))))
 else
 none)
 else
 none))))
 else
 none)
 else
 none)
theorem profile_Valid.eq2 (g_measure_Check : measure_Check.G) (g_profile_Length : profile_Length.G) (g_profile_Zone : profile_Zone.G) (g_profile_Best : profile_Best.G) (g_profile_neighbour : profile_neighbour.G) (l0 : profile_Valid.A0) (l1 : profile_Valid.A1) (l2 : profile_Valid.A2) (L : profile_Valid.A2) (x : profile_Valid.s2.X) : rndO (profile_Valid.E g_measure_Check g_profile_Length g_profile_Zone g_profile_Best g_profile_neighbour l0 l1 l2) profile_Valid.hs profile_Valid.c profile_Valid.s2 profile_Valid.x2 2 false L x = profile_Valid.f2 g_profile_neighbour x.1.2.1 x.1.2.2.1 x.1.2.2.2.2.1 x.1.2.2.2.2.2.1 x.2.1.1 x.2.1.2.1 x.2.1.2.2.1 x.2.1.2.2.2.1 x.2.1.2.2.2.2.1 x.2.1.2.2.2.2.2.1 x.2.1.2.2.2.2.2.2.1 x.2.1.2.2.2.2.2.2.2.1 x.2.2.1.1 x.2.2.1.2.1 x.2.2.1.2.2.1 := by
  show _ = (_ : Option _)
  kernel_rfl
noncomputable def profile_Valid.L2 : Y15 → Option Y16 := fun x => profile_Valid.f2 profile_neighbour.F x.1.2.1 x.1.2.2.1 x.1.2.2.2.2.1 x.1.2.2.2.2.2.1 x.2.1.1 x.2.1.2.1 x.2.1.2.2.1 x.2.1.2.2.2.1 x.2.1.2.2.2.2.1 x.2.1.2.2.2.2.2.1 x.2.1.2.2.2.2.2.2.1 x.2.1.2.2.2.2.2.2.2.1 x.2.2.1.1 x.2.2.1.2.1 x.2.2.1.2.2.1
def profile_Valid.f1 (g_profile_Best : Y71 → Option Y121) (l2 : Y15 → Option Y16) (L : Y20 → Option Y108) (n_3 v43 v44 o0_0 o0_1 o0_2 o0_3 o0_4 : Int) (o0_5 o0_6 o0_7 : List Y144) : Option Y108 :=
  (bif (decide (v44 < v43)) then
 (bif (decide ((0:Int) ≤ v44)) then
 (bif (decide (v44 < (((List.length o0_6) : Nat) : Int))) then
 (bif (decide ((0:Int) ≤ v44)) then
 (bif (decide (v44 < (((List.length o0_7) : Nat) : Int))) then
 (Option.bind (g_profile_Best (((), (((List.getD o0_7 (Int.toNat v44) ((0:Int), ((0:Int), (0:Int)))).1, ((List.getD o0_7 (Int.toNat v44) ((0:Int), ((0:Int), (0:Int)))).2.1, ((List.getD o0_7 (Int.toNat v44) ((0:Int), ((0:Int), (0:Int)))).2.2, ()))), ())), (((List.getD o0_6 (Int.toNat v44) ((0:Int), ((0:Int), (0:Int)))).1, ((List.getD o0_6 (Int.toNat v44) ((0:Int), ((0:Int), (0:Int)))).2.1, ((List.getD o0_6 (Int.toNat v44) ((0:Int), ((0:Int), (0:Int)))).2.2, ()))), ()))) (fun y5 =>
 (Option.bind (l2 (((), (n_3, (v44, ((), (v43, (v44, ())))))), ((o0_0, (o0_1, (o0_2, (o0_3, (o0_4, (o0_5, (o0_6, (o0_7, ())))))))), ((y5.2.1.1, (y5.2.1.2.1, (y5.2.1.2.2.1, ()))), ())))) (fun y6 =>
 (Sum.elim (fun a7 =>
 (bif a7.1.2.2.2.2.1 then
 (some (Sum.inr (Sum.inl ((Bool.false, ()), ()))))
 else
 (Option.bind (L (((), (a7.1.2.1, (a7.1.2.2.1, ((Go.IntKind.wrap Go.IntKind.i64 (a7.1.2.2.2.1 + (1:Int))), ())))), ((a7.2.1.1, (a7.2.1.2.1, (a7.2.1.2.2.1, (a7.2.1.2.2.2.1, (a7.2.1.2.2.2.2.1, (a7.2.1.2.2.2.2.2.1, (a7.2.1.2.2.2.2.2.2.1, (a7.2.1.2.2.2.2.2.2.2.1, ())))))))), ()))) (fun y9 =>
 (some y9))))) (fun b7 =>
 (Empty.elim b7)) y6)))))
 else
 none)
 else
 none)
 else
 none)
 else
 none)
 else
 (some (Sum.inl ((), ()))))
theorem profile_Valid.eq1 (g_measure_Check : measure_Check.G) (g_profile_Length : profile_Length.G) (g_profile_Zone : profile_Zone.G) (g_profile_Best : profile_Best.G) (g_profile_neighbour : profile_neighbour.G) (l0 : profile_Valid.A0) (l1 : profile_Valid.A1) (l2 : profile_Valid.A2) (L : profile_Valid.A1) (x : profile_Valid.s1.X) : rndO (profile_Valid.E g_measure_Check g_profile_Length g_profile_Zone g_profile_Best g_profile_neighbour l0 l1 l2) profile_Valid.hs profile_Valid.c profile_Valid.s1 profile_Valid.x1 1 true L x = profile_Valid.f1 g_profile_Best l2 L x.1.2.1 x.1.2.2.1 x.1.2.2.2.1 x.2.1.1 x.2.1.2.1 x.2.1.2.2.1 x.2.1.2.2.2.1 x.2.1.2.2.2.2.1 x.2.1.2.2.2.2.2.1 x.2.1.2.2.2.2.2.2.1 x.2.1.2.2.2.2.2.2.2.1 := by
  show _ = (_ : Option _)
  kernel_rfl
noncomputable def profile_Valid.L1 : Y20 → Option Y108 := loop fun L x => profile_Valid.f1 profile_Best.F profile_Valid.L2 L x.1.2.1 x.1.2.2.1 x.1.2.2.2.1 x.2.1.1 x.2.1.2.1 x.2.1.2.2.1 x.2.1.2.2.2.1 x.2.1.2.2.2.2.1 x.2.1.2.2.2.2.2.1 x.2.1.2.2.2.2.2.2.1 x.2.1.2.2.2.2.2.2.2.1
def profile_Valid.f (l0 : Y21 → Option Y18) (l1 : Y20 → Option Y108) (p_Measure_Kind p_Measure_Band p_Measure_Gap p_Length p_Zone : Int) (p_All p_Left p_Right : List Y144) : Option Y142 :=
  (Option.bind (l0 (((), ((((List.length p_All) : Nat) : Int), ())), ((p_Measure_Kind, (p_Measure_Band, (p_Measure_Gap, (p_Length, (p_Zone, (p_All, (p_Left, (p_Right, ())))))))), ()))) (fun y0 =>
 (Sum.elim (fun a1 =>
 (bif a1.1.2.2.1 then
 (some ((Bool.false, ()), ()))
 else
 (Option.bind (l1 (((), (a1.1.2.1, (a1.1.2.1, ((0:Int), ())))), ((a1.2.1.1, (a1.2.1.2.1, (a1.2.1.2.2.1, (a1.2.1.2.2.2.1, (a1.2.1.2.2.2.2.1, (a1.2.1.2.2.2.2.2.1, (a1.2.1.2.2.2.2.2.2.1, (a1.2.1.2.2.2.2.2.2.2.1, ())))))))), ()))) (fun y3 =>
 (Sum.elim (fun a4 =>
 (some ((Bool.true, ()), ()))) (fun b4 =>
 (Sum.elim (fun a5 =>
 (some ((a5.1.1, ()), ()))) (fun b5 =>
 (Empty.elim b5)) b4)) y3))))) (fun b1 =>
 (Empty.elim b1)) y0)))
theorem profile_Valid.eq (g_measure_Check : measure_Check.G) (g_profile_Length : profile_Length.G) (g_profile_Zone : profile_Zone.G) (g_profile_Best : profile_Best.G) (g_profile_neighbour : profile_neighbour.G) (l0 : profile_Valid.A0) (l1 : profile_Valid.A1) (l2 : profile_Valid.A2) (x : profile_Valid.sh.X) : bodO (profile_Valid.E g_measure_Check g_profile_Length g_profile_Zone g_profile_Best g_profile_neighbour l0 l1 l2) profile_Valid.hs profile_Valid.c Try.f13 profile_Valid.sh profile_Valid.osh x = profile_Valid.f l0 l1 x.1.1.1 x.1.1.2.1 x.1.1.2.2.1 x.1.1.2.2.2.1 x.1.1.2.2.2.2.1 x.1.1.2.2.2.2.2.1 x.1.1.2.2.2.2.2.2.1 x.1.1.2.2.2.2.2.2.2.1 := by
  show _ = (_ : Option _)
  kernel_rfl
noncomputable def profile_Valid (p_Measure_Kind p_Measure_Band p_Measure_Gap p_Length p_Zone : Int) (p_All p_Left p_Right : List Y144) : Option Y142 := profile_Valid.f profile_Valid.L0 profile_Valid.L1 p_Measure_Kind p_Measure_Band p_Measure_Gap p_Length p_Zone p_All p_Left p_Right
noncomputable def profile_Valid.F (x : Y24) : Option Y142 := profile_Valid x.1.1.1 x.1.1.2.1 x.1.1.2.2.1 x.1.1.2.2.2.1 x.1.1.2.2.2.2.1 x.1.1.2.2.2.2.2.1 x.1.1.2.2.2.2.2.2.1 x.1.1.2.2.2.2.2.2.2.1
theorem profile_Valid.L0_eq (n_3 o0_0 o0_1 o0_2 o0_3 o0_4 : Int) (o0_5 o0_6 o0_7 : List Y144) : profile_Valid.L0 (((), n_3, ()), ((o0_0, o0_1, o0_2, o0_3, o0_4, o0_5, o0_6, o0_7, ()), ())) = profile_Valid.f0 measure_Check.F profile_Length.F profile_Zone.F n_3 o0_0 o0_1 o0_2 o0_3 o0_4 o0_5 o0_6 o0_7 := rfl
theorem profile_Valid.L1_eq (n_3 v43 v44 o0_0 o0_1 o0_2 o0_3 o0_4 : Int) (o0_5 o0_6 o0_7 : List Y144) : profile_Valid.L1 (((), n_3, v43, v44, ()), ((o0_0, o0_1, o0_2, o0_3, o0_4, o0_5, o0_6, o0_7, ()), ())) = profile_Valid.f1 profile_Best.F profile_Valid.L2 profile_Valid.L1 n_3 v43 v44 o0_0 o0_1 o0_2 o0_3 o0_4 o0_5 o0_6 o0_7 :=
  loop_eq (E := (profile_Valid.E measure_Check.F profile_Length.F profile_Zone.F profile_Best.F profile_neighbour.F profile_Valid.L0 profile_Valid.L1 profile_Valid.L2)) (sh := profile_Valid.s1) (es := profile_Valid.x1) (lp := true) (H := fun L x => profile_Valid.eq1 measure_Check.F profile_Length.F profile_Zone.F profile_Best.F profile_neighbour.F profile_Valid.L0 profile_Valid.L1 profile_Valid.L2 L x) (((), n_3, v43, v44, ()), ((o0_0, o0_1, o0_2, o0_3, o0_4, o0_5, o0_6, o0_7, ()), ()))
theorem profile_Valid.L2_eq (n_3 i_4 v43 v44 o0_0 o0_1 o0_2 o0_3 o0_4 : Int) (o0_5 o0_6 o0_7 : List Y144) (o1_0 o1_1 o1_2 : Int) : profile_Valid.L2 (((), n_3, i_4, (), v43, v44, ()), ((o0_0, o0_1, o0_2, o0_3, o0_4, o0_5, o0_6, o0_7, ()), (o1_0, o1_1, o1_2, ()), ())) = profile_Valid.f2 profile_neighbour.F n_3 i_4 v43 v44 o0_0 o0_1 o0_2 o0_3 o0_4 o0_5 o0_6 o0_7 o1_0 o1_1 o1_2 := rfl
theorem profile_Valid.F_eq (p_Measure_Kind p_Measure_Band p_Measure_Gap p_Length p_Zone : Int) (p_All p_Left p_Right : List Y144) : profile_Valid.F (((p_Measure_Kind, p_Measure_Band, p_Measure_Gap, p_Length, p_Zone, p_All, p_Left, p_Right, ()), ()), ()) = profile_Valid.f profile_Valid.L0 profile_Valid.L1 p_Measure_Kind p_Measure_Band p_Measure_Gap p_Length p_Zone p_All p_Left p_Right := rfl
theorem profile_Valid.ok {tabs : List (Nat × Go.Obj)} (ht : TabsOk tabs) : FOK Try.prog tabs 13 (profile_Valid.fe profile_Valid.F) := by
  refine fn_keep2 Try.func13 (profile_Valid.eq measure_Check.F profile_Length.F profile_Zone.F profile_Best.F profile_neighbour.F profile_Valid.L0 profile_Valid.L1 profile_Valid.L2) pw tb (gt_ok ht) (by kernel_rfl) (by kernel_rfl) (fun g ks fe h => ?_) ?_
  · rcases c_cons h with ⟨rfl, rfl⟩ | h
    · exact measure_Check.ok ht
    rcases c_cons h with ⟨rfl, rfl⟩ | h
    · exact profile_Length.ok ht
    rcases c_cons h with ⟨rfl, rfl⟩ | h
    · exact profile_Zone.ok ht
    rcases c_cons h with ⟨rfl, rfl⟩ | h
    · exact profile_Best.ok ht
    rcases c_cons h with ⟨rfl, rfl⟩ | h
    · exact profile_neighbour.ok ht
    cases h
  · refine known_at 3 (by kernel_rfl) fun i hi => ?_
    match i, hi with
    | 0, _ => exact atomH (cut_ok (es := profile_Valid.x0) rfl (profile_Valid.eq0 measure_Check.F profile_Length.F profile_Zone.F profile_Best.F profile_neighbour.F profile_Valid.L0 profile_Valid.L1 profile_Valid.L2)) (by kernel_rfl)
    | 1, _ => exact atomH (loop_ok (es := profile_Valid.x1) rfl (profile_Valid.eq1 measure_Check.F profile_Length.F profile_Zone.F profile_Best.F profile_neighbour.F profile_Valid.L0 profile_Valid.L1 profile_Valid.L2)) (by kernel_rfl)
    | 2, _ => exact atomH (cut_ok (es := profile_Valid.x2) rfl (profile_Valid.eq2 measure_Check.F profile_Length.F profile_Zone.F profile_Best.F profile_neighbour.F profile_Valid.L0 profile_Valid.L1 profile_Valid.L2)) (by kernel_rfl)
    | n + 3, h => exact absurd h (by omega)

/-! law37_awake -/
def law37_awake.f0 (g_profile_Valid : Y24 → Option Y142) (e_2 o0_0 o0_1 o0_2 o0_3 o0_4 : Int) (o1 o2 o3 : List Y144) : Option Y136 :=
  (bif (e_2 == (0:Int)) then
 (bif ((((List.length o1) : Nat) : Int) == (4:Int)) then
 (bif (decide ((0:Int) < (((List.length o1) : Nat) : Int))) then
 (bif (((List.getD o1 (Int.toNat (0:Int)) ((0:Int), ((0:Int), (0:Int)))).1 == (2:Int)) && ((((List.getD o1 (Int.toNat (0:Int)) ((0:Int), ((0:Int), (0:Int)))).2.1 == (0:Int)) && (((List.getD o1 (Int.toNat (0:Int)) ((0:Int), ((0:Int), (0:Int)))).2.2 == (1:Int)) && Bool.true)) && Bool.true)) then
 (bif (decide ((0:Int) < (((List.length o2) : Nat) : Int))) then
 (bif ((List.getD o2 (Int.toNat (0:Int)) ((0:Int), ((0:Int), (0:Int)))).1 == (-(1:Int))) then
 (Option.bind (g_profile_Valid (((o0_0, (o0_1, (o0_2, (o0_3, (o0_4, (o1, (o2, (o3, ())))))))), ()), ())) (fun y6 =>
 (some (Sum.inl ((y6.1.1, ()), ())))))
 else
 (some (Sum.inl ((Bool.false, ()), ()))))
 else
 none)
 else
 (some (Sum.inl ((Bool.false, ()), ()))))
 else
 none)
 else
 (some (Sum.inl ((Bool.false, ()), ()))))
 else
 (some (Sum.inl ((Bool.false, ()), ()))))
theorem law37_awake.eq0 (g_profile_Of : profile_Of.G) (g_profile_Valid : profile_Valid.G) (l0 : law37_awake.A0) (L : law37_awake.A0) (x : law37_awake.s0.X) : rndO (law37_awake.E g_profile_Of g_profile_Valid l0) law37_awake.hs law37_awake.c law37_awake.s0 law37_awake.x0 0 false L x = law37_awake.f0 g_profile_Valid x.1.2.1 x.2.1.1 x.2.1.2.1 x.2.1.2.2.1 x.2.1.2.2.2.1 x.2.1.2.2.2.2.1 x.2.2.1 x.2.2.2.1 x.2.2.2.2.1 := by
  show _ = (_ : Option _)
  kernel_rfl
noncomputable def law37_awake.L0 : Y17 → Option Y136 := fun x => law37_awake.f0 profile_Valid.F x.1.2.1 x.2.1.1 x.2.1.2.1 x.2.1.2.2.1 x.2.1.2.2.2.1 x.2.1.2.2.2.2.1 x.2.2.1 x.2.2.2.1 x.2.2.2.2.1
def law37_awake.f (g_profile_Of : Y87 → Option Y19) (l0 : Y17 → Option Y136) : Option Y142 :=
  (Option.bind (g_profile_Of (([(0:Int), (1:Int), (0:Int), (1:Int), (5:Int)], (((1:Int), ((0:Int), ((0:Int), ()))), ((2:Int), ((2:Int), ())))), ())) (fun y0 =>
 (Option.bind (l0 (((), (y0.1.2.1, ())), ((y0.1.1.1, (y0.1.1.2.1, (y0.1.1.2.2.1, (y0.1.1.2.2.2.1, (y0.1.1.2.2.2.2.1, ((), ((), ((), ())))))))), (y0.2.1, (y0.2.2.1, (y0.2.2.2.1, ())))))) (fun y1 =>
 (Sum.elim (fun a2 =>
 (some ((a2.1.1, ()), ()))) (fun b2 =>
 (Empty.elim b2)) y1)))))
theorem law37_awake.eq (g_profile_Of : profile_Of.G) (g_profile_Valid : profile_Valid.G) (l0 : law37_awake.A0) (x : law37_awake.sh.X) : bodO (law37_awake.E g_profile_Of g_profile_Valid l0) law37_awake.hs law37_awake.c Try.f9 law37_awake.sh law37_awake.osh x = law37_awake.f g_profile_Of l0 := by
  show _ = (_ : Option _)
  kernel_rfl
noncomputable def law37_awake : Option Y142 := law37_awake.f profile_Of.F law37_awake.L0
noncomputable def law37_awake.F (x : Y145) : Option Y142 := law37_awake
theorem law37_awake.L0_eq (e_2 o0_0 o0_1 o0_2 o0_3 o0_4 : Int) (o1 o2 o3 : List Y144) : law37_awake.L0 (((), e_2, ()), ((o0_0, o0_1, o0_2, o0_3, o0_4, (), (), (), ()), o1, o2, o3, ())) = law37_awake.f0 profile_Valid.F e_2 o0_0 o0_1 o0_2 o0_3 o0_4 o1 o2 o3 := rfl
theorem law37_awake.F_eq : law37_awake.F ((), ()) = law37_awake.f profile_Of.F law37_awake.L0 := rfl
theorem law37_awake.ok {tabs : List (Nat × Go.Obj)} (ht : TabsOk tabs) : FOK Try.prog tabs 9 (law37_awake.fe law37_awake.F) := by
  refine fn_keep2 Try.func9 (law37_awake.eq profile_Of.F profile_Valid.F law37_awake.L0) pw tb (gt_ok ht) (by kernel_rfl) (by kernel_rfl) (fun g ks fe h => ?_) ?_
  · rcases c_cons h with ⟨rfl, rfl⟩ | h
    · exact profile_Of.ok ht
    rcases c_cons h with ⟨rfl, rfl⟩ | h
    · exact profile_Valid.ok ht
    cases h
  · refine known_at 1 (by kernel_rfl) fun i hi => ?_
    match i, hi with
    | 0, _ => exact atomH (cut_ok (es := law37_awake.x0) rfl (law37_awake.eq0 profile_Of.F profile_Valid.F law37_awake.L0)) (by kernel_rfl)
    | n + 1, h => exact absurd h (by omega)

/-! second_New -/
def second_New.f (l : List Int) : Option Y111 :=
  (some (((), ()), ((l, ((0:Int), ())), ())))
theorem second_New.eq (x : second_New.sh.X) : bodO (second_New.E) second_New.hs second_New.c Try.f10 second_New.sh second_New.osh x = second_New.f x.1.1 := by
  show _ = (_ : Option _)
  kernel_rfl
noncomputable def second_New (l : List Int) : Option Y111 := second_New.f l
noncomputable def second_New.F (x : Y139) : Option Y111 := second_New x.1.1
theorem second_New.F_eq (l : List Int) : second_New.F ((l, ()), ()) = second_New.f l := rfl
theorem second_New.ok {tabs : List (Nat × Go.Obj)} (ht : TabsOk tabs) : FOK Try.prog tabs 10 (second_New.fe second_New.F) := by
  refine fn_keep2 Try.func10 (second_New.eq) pw tb (gt_ok ht) (by kernel_rfl) (by kernel_rfl) (fun g ks fe h => ?_) ?_
  · cases h
  · exact known_at 0 (by kernel_rfl) fun i hi => absurd hi (Nat.not_lt_zero i)

/-! second_Mod -/
def second_Mod.f (n k : Int) : Option Y143 :=
  (bif (!(decide (k = (0:Int)))) then
 (bif (!(decide (k = (0:Int)))) then
 (some (((Int.tmod (Go.IntKind.wrap Go.IntKind.i64 ((Int.tmod n k) + k)) k), ()), ()))
 else
 none)
 else
 none)
theorem second_Mod.eq (x : second_Mod.sh.X) : bodO (second_Mod.E) second_Mod.hs second_Mod.c Try.f12 second_Mod.sh second_Mod.osh x = second_Mod.f x.1.1 x.1.2.1 := by
  show _ = (_ : Option _)
  kernel_rfl
noncomputable def second_Mod (n k : Int) : Option Y143 := second_Mod.f n k
noncomputable def second_Mod.F (x : Y140) : Option Y143 := second_Mod x.1.1 x.1.2.1
theorem second_Mod.F_eq (n k : Int) : second_Mod.F ((n, k, ()), ()) = second_Mod.f n k := rfl
theorem second_Mod.ok {tabs : List (Nat × Go.Obj)} (ht : TabsOk tabs) : FOK Try.prog tabs 12 (second_Mod.fe second_Mod.F) := by
  refine fn_keep2 Try.func12 (second_Mod.eq) pw tb (gt_ok ht) (by kernel_rfl) (by kernel_rfl) (fun g ks fe h => ?_) ?_
  · cases h
  · exact known_at 0 (by kernel_rfl) fun i hi => absurd hi (Nat.not_lt_zero i)
end Go.Proofs.Ytefcciajemkicaa.V
