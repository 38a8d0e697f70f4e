import Derived.Test.YtefcciajemkicaaVg5
import Derived.WalkKit
set_option linter.unusedVariables false
set_option maxRecDepth 100000
namespace Go.Proofs.Ytefcciajemkicaa.V
open Go.VI
/-! ref15_table -/
def ref15_table.f2 (x_0 y_1 : List Int) (gap_2 i_8 j_9 best_10 v16 v17 v31 v32 : Int) (o0 : List (List Int)) : Option Y27 :=
  (bif (decide (i_8 > (0:Int))) then
 (some (Sum.inl ((x_0, (y_1, (gap_2, ((), (i_8, (j_9, (best_10, (v16, (v17, (v31, (v32, ((decide (j_9 > (0:Int))), ())))))))))))), (o0, ()))))
 else
 (some (Sum.inl ((x_0, (y_1, (gap_2, ((), (i_8, (j_9, (best_10, (v16, (v17, (v31, (v32, (Bool.false, ())))))))))))), (o0, ())))))
theorem ref15_table.eq2 (g_ref15_Abs : ref15_Abs.G) (l0 : ref15_table.A0) (l1 : ref15_table.A1) (l2 : ref15_table.A2) (l3 : ref15_table.A3) (L : ref15_table.A2) (x : ref15_table.s2.X) : rndO (ref15_table.E g_ref15_Abs l0 l1 l2 l3) ref15_table.hs ref15_table.c ref15_table.s2 ref15_table.x2 2 false L x = ref15_table.f2 x.1.1 x.1.2.1 x.1.2.2.1 x.1.2.2.2.2.1 x.1.2.2.2.2.2.1 x.1.2.2.2.2.2.2.1 x.1.2.2.2.2.2.2.2.1 x.1.2.2.2.2.2.2.2.2.1 x.1.2.2.2.2.2.2.2.2.2.1 x.1.2.2.2.2.2.2.2.2.2.2.1 x.2.1 := by
  show _ = (_ : Option _)
  kernel_rfl
noncomputable def ref15_table.L2 : Y33 → Option Y27 := fun x => ref15_table.f2 x.1.1 x.1.2.1 x.1.2.2.1 x.1.2.2.2.2.1 x.1.2.2.2.2.2.1 x.1.2.2.2.2.2.2.1 x.1.2.2.2.2.2.2.2.1 x.1.2.2.2.2.2.2.2.2.1 x.1.2.2.2.2.2.2.2.2.2.1 x.1.2.2.2.2.2.2.2.2.2.2.1 x.2.1
def ref15_table.f3 (g_ref15_Abs : Y143 → Option Y143) (x_0 y_1 : List Int) (gap_2 i_8 j_9 best_10 v16 v17 v31 v32 : Int) (v44 : Bool) (o0 : List (List Int)) : Option Y29 :=
  (bif v44 then
 (bif (decide ((0:Int) ≤ (Go.IntKind.wrap Go.IntKind.i64 (i_8 - (1:Int))))) then
 (bif (decide ((Go.IntKind.wrap Go.IntKind.i64 (i_8 - (1:Int))) < (((List.length o0) : Nat) : Int))) then
 (bif (decide ((Int.toNat (Go.IntKind.wrap Go.IntKind.i64 (i_8 - (1:Int)))) < (List.length o0))) then
 (bif (decide ((Int.toNat (Go.IntKind.wrap Go.IntKind.i64 (i_8 - (1:Int)))) < (List.length o0))) then
 (bif (decide ((0:Int) ≤ (Go.IntKind.wrap Go.IntKind.i64 (j_9 - (1:Int))))) then
 (bif (decide ((Go.IntKind.wrap Go.IntKind.i64 (j_9 - (1:Int))) < (((List.length (List.getD o0 (Int.toNat (Go.IntKind.wrap Go.IntKind.i64 (i_8 - (1:Int)))) ([] : List Int))) : Nat) : Int))) then
 (bif (decide ((Int.toNat (Go.IntKind.wrap Go.IntKind.i64 (i_8 - (1:Int)))) < (List.length o0))) then
 (bif (decide ((Int.toNat (Go.IntKind.wrap Go.IntKind.i64 (j_9 - (1:Int)))) < (List.length (List.getD o0 (Int.toNat (Go.IntKind.wrap Go.IntKind.i64 (i_8 - (1:Int)))) ([] : List Int))))) then
 (bif (decide ((0:Int) ≤ (Go.IntKind.wrap Go.IntKind.i64 (i_8 - (1:Int))))) then
 (bif (decide ((Go.IntKind.wrap Go.IntKind.i64 (i_8 - (1:Int))) < (((List.length x_0) : Nat) : Int))) then
 (bif (decide ((0:Int) ≤ (Go.IntKind.wrap Go.IntKind.i64 (j_9 - (1:Int))))) then
 (bif (decide ((Go.IntKind.wrap Go.IntKind.i64 (j_9 - (1:Int))) < (((List.length y_1) : Nat) : Int))) then
 (Option.bind (g_ref15_Abs (((Go.IntKind.wrap Go.IntKind.i64 ((List.getD x_0 (Int.toNat (Go.IntKind.wrap Go.IntKind.i64 (i_8 - (1:Int)))) (0:Int)) - (List.getD y_1 (Int.toNat (Go.IntKind.wrap Go.IntKind.i64 (j_9 - (1:Int)))) (0:Int)))), ()), ())) (fun y13 =>
 (some (Sum.inl ((x_0, (y_1, (gap_2, ((), (i_8, (j_9, ((Go.IntKind.wrap Go.IntKind.i64 ((List.getD (List.getD o0 (Int.toNat (Go.IntKind.wrap Go.IntKind.i64 (i_8 - (1:Int)))) ([] : List Int)) (Int.toNat (Go.IntKind.wrap Go.IntKind.i64 (j_9 - (1:Int)))) (0:Int)) + y13.1.1)), (v16, (v17, (v31, (v32, ()))))))))))), (o0, ()))))))
 else
 none)
 else
 none)
 else
 none)
 else
 none)
 else
 none)
 else
 none)
 else
 none)
 else
 none)
 else
 none)
 else
 none)
 else
 none)
 else
 none)
 else
 (some (Sum.inl ((x_0, (y_1, (gap_2, ((), (i_8, (j_9, (best_10, (v16, (v17, (v31, (v32, ()))))))))))), (o0, ())))))
theorem ref15_table.eq3 (g_ref15_Abs : ref15_Abs.G) (l0 : ref15_table.A0) (l1 : ref15_table.A1) (l2 : ref15_table.A2) (l3 : ref15_table.A3) (L : ref15_table.A3) (x : ref15_table.s3.X) : rndO (ref15_table.E g_ref15_Abs l0 l1 l2 l3) ref15_table.hs ref15_table.c ref15_table.s3 ref15_table.x3 3 false L x = ref15_table.f3 g_ref15_Abs x.1.1 x.1.2.1 x.1.2.2.1 x.1.2.2.2.2.1 x.1.2.2.2.2.2.1 x.1.2.2.2.2.2.2.1 x.1.2.2.2.2.2.2.2.1 x.1.2.2.2.2.2.2.2.2.1 x.1.2.2.2.2.2.2.2.2.2.1 x.1.2.2.2.2.2.2.2.2.2.2.1 x.1.2.2.2.2.2.2.2.2.2.2.2.1 x.2.1 := by
  show _ = (_ : Option _)
  kernel_rfl
noncomputable def ref15_table.L3 : Y30 → Option Y29 := fun x => ref15_table.f3 ref15_Abs.F x.1.1 x.1.2.1 x.1.2.2.1 x.1.2.2.2.2.1 x.1.2.2.2.2.2.1 x.1.2.2.2.2.2.2.1 x.1.2.2.2.2.2.2.2.1 x.1.2.2.2.2.2.2.2.2.1 x.1.2.2.2.2.2.2.2.2.2.1 x.1.2.2.2.2.2.2.2.2.2.2.1 x.1.2.2.2.2.2.2.2.2.2.2.2.1 x.2.1
def ref15_table.f1 (g_ref15_Abs : Y143 → Option Y143) (l2 : Y33 → Option Y27) (l3 : Y30 → Option Y29) (L : Y43 → Option Y51) (x_0 y_1 : List Int) (gap_2 i_8 v16 v17 v31 v32 : Int) (o0 : List (List Int)) : Option Y51 :=
  (bif (decide (v32 < v31)) then
 (bif ((Go.IntKind.wrap Go.IntKind.i64 (i_8 + v32)) == (0:Int)) then
 (Option.bind (L ((x_0, (y_1, (gap_2, ((), (i_8, (v16, (v17, (v31, ((Go.IntKind.wrap Go.IntKind.i64 (v32 + (1:Int))), ()))))))))), (o0, ()))) (fun y2 =>
 (some y2)))
 else
 (Option.bind (l2 ((x_0, (y_1, (gap_2, ((), (i_8, (v32, ((4611686018427387904:Int), (v16, (v17, (v31, (v32, ()))))))))))), (o0, ()))) (fun y2 =>
 (Sum.elim (fun a3 =>
 (Option.bind (l3 ((a3.1.1, (a3.1.2.1, (a3.1.2.2.1, ((), (a3.1.2.2.2.2.1, (a3.1.2.2.2.2.2.1, (a3.1.2.2.2.2.2.2.1, (a3.1.2.2.2.2.2.2.2.1, (a3.1.2.2.2.2.2.2.2.2.1, (a3.1.2.2.2.2.2.2.2.2.2.1, (a3.1.2.2.2.2.2.2.2.2.2.2.1, (a3.1.2.2.2.2.2.2.2.2.2.2.2.1, ())))))))))))), (a3.2.1, ()))) (fun y4 =>
 (Sum.elim (fun a5 =>
 (bif (decide (a5.1.2.2.2.2.1 > (0:Int))) then
 (bif (decide ((0:Int) ≤ (Go.IntKind.wrap Go.IntKind.i64 (a5.1.2.2.2.2.1 - (1:Int))))) then
 (bif (decide ((Go.IntKind.wrap Go.IntKind.i64 (a5.1.2.2.2.2.1 - (1:Int))) < (((List.length a5.2.1) : Nat) : Int))) then
 (bif (decide ((Int.toNat (Go.IntKind.wrap Go.IntKind.i64 (a5.1.2.2.2.2.1 - (1:Int)))) < (List.length a5.2.1))) then
 (bif (decide ((Int.toNat (Go.IntKind.wrap Go.IntKind.i64 (a5.1.2.2.2.2.1 - (1:Int)))) < (List.length a5.2.1))) then
 (bif (decide ((0:Int) ≤ a5.1.2.2.2.2.2.1)) then
 (bif (decide (a5.1.2.2.2.2.2.1 < (((List.length (List.getD a5.2.1 (Int.toNat (Go.IntKind.wrap Go.IntKind.i64 (a5.1.2.2.2.2.1 - (1:Int)))) ([] : List Int))) : Nat) : Int))) then
 (bif (decide ((Int.toNat (Go.IntKind.wrap Go.IntKind.i64 (a5.1.2.2.2.2.1 - (1:Int)))) < (List.length a5.2.1))) then
 (bif (decide ((Int.toNat a5.1.2.2.2.2.2.1) < (List.length (List.getD a5.2.1 (Int.toNat (Go.IntKind.wrap Go.IntKind.i64 (a5.1.2.2.2.2.1 - (1:Int)))) ([] : List Int))))) then
 (bif (decide ((0:Int) ≤ (Go.IntKind.wrap Go.IntKind.i64 (a5.1.2.2.2.2.1 - (1:Int))))) then
 (bif (decide ((Go.IntKind.wrap Go.IntKind.i64 (a5.1.2.2.2.2.1 - (1:Int))) < (((List.length a5.1.1) : Nat) : Int))) then
 (Option.bind (g_ref15_Abs (((Go.IntKind.wrap Go.IntKind.i64 ((List.getD a5.1.1 (Int.toNat (Go.IntKind.wrap Go.IntKind.i64 (a5.1.2.2.2.2.1 - (1:Int)))) (0:Int)) - a5.1.2.2.1)), ()), ())) (fun y17 =>
 (bif (decide (a5.1.2.2.2.2.2.1 > (0:Int))) then
 (bif (decide ((0:Int) ≤ a5.1.2.2.2.2.1)) then
 (bif (decide (a5.1.2.2.2.2.1 < (((List.length a5.2.1) : Nat) : Int))) then
 (bif (decide ((Int.toNat a5.1.2.2.2.2.1) < (List.length a5.2.1))) then
 (bif (decide ((Int.toNat a5.1.2.2.2.2.1) < (List.length a5.2.1))) then
 (bif (decide ((0:Int) ≤ (Go.IntKind.wrap Go.IntKind.i64 (a5.1.2.2.2.2.2.1 - (1:Int))))) then
 (bif (decide ((Go.IntKind.wrap Go.IntKind.i64 (a5.1.2.2.2.2.2.1 - (1:Int))) < (((List.length (List.getD a5.2.1 (Int.toNat a5.1.2.2.2.2.1) ([] : List Int))) : Nat) : Int))) then
 (bif (decide ((Int.toNat a5.1.2.2.2.2.1) < (List.length a5.2.1))) then
 (bif (decide ((Int.toNat (Go.IntKind.wrap Go.IntKind.i64 (a5.1.2.2.2.2.2.1 - (1:Int)))) < (List.length (List.getD a5.2.1 (Int.toNat a5.1.2.2.2.2.1) ([] : List Int))))) then
 (bif (decide ((0:Int) ≤ (Go.IntKind.wrap Go.IntKind.i64 (a5.1.2.2.2.2.2.1 - (1:Int))))) then
 (bif (decide ((Go.IntKind.wrap Go.IntKind.i64 (a5.1.2.2.2.2.2.1 - (1:Int))) < (((List.length a5.1.2.1) : Nat) : Int))) then
 (Option.bind (g_ref15_Abs (((Go.IntKind.wrap Go.IntKind.i64 ((List.getD a5.1.2.1 (Int.toNat (Go.IntKind.wrap Go.IntKind.i64 (a5.1.2.2.2.2.2.1 - (1:Int)))) (0:Int)) - a5.1.2.2.1)), ()), ())) (fun y29 =>
 (bif (decide ((0:Int) ≤ a5.1.2.2.2.2.1)) then
 (bif (decide (a5.1.2.2.2.2.1 < (((List.length a5.2.1) : Nat) : Int))) then
 (bif (decide ((Int.toNat a5.1.2.2.2.2.1) < (List.length a5.2.1))) then
 (bif (decide ((Int.toNat a5.1.2.2.2.2.1) < (List.length a5.2.1))) then
 (bif (decide ((0:Int) ≤ a5.1.2.2.2.2.2.1)) then
 (bif (decide (a5.1.2.2.2.2.2.1 < (((List.length (List.getD a5.2.1 (Int.toNat a5.1.2.2.2.2.1) ([] : List Int))) : Nat) : Int))) then
 (bif (decide ((Int.toNat a5.1.2.2.2.2.1) < (List.length a5.2.1))) then
 (bif (decide ((Int.toNat a5.1.2.2.2.2.2.1) < (List.length (List.getD a5.2.1 (Int.toNat a5.1.2.2.2.2.1) ([] : List Int))))) then
 (Option.bind (L ((a5.1.1, (a5.1.2.1, (a5.1.2.2.1, ((), (a5.1.2.2.2.2.1, (a5.1.2.2.2.2.2.2.2.1, (a5.1.2.2.2.2.2.2.2.2.1, (a5.1.2.2.2.2.2.2.2.2.2.1, ((Go.IntKind.wrap Go.IntKind.i64 (a5.1.2.2.2.2.2.2.2.2.2.2.1 + (1:Int))), ()))))))))), ((List.set a5.2.1 (Int.toNat a5.1.2.2.2.2.1) (List.set (List.getD a5.2.1 (Int.toNat a5.1.2.2.2.2.1) ([] : List Int)) (Int.toNat a5.1.2.2.2.2.2.1) (Go.VI.mn (Go.VI.mn a5.1.2.2.2.2.2.2.1 (Go.IntKind.wrap Go.IntKind.i64 ((List.getD (List.getD a5.2.1 (Int.toNat (Go.IntKind.wrap Go.IntKind.i64 (a5.1.2.2.2.2.1 - (1:Int)))) ([] : List Int)) (Int.toNat a5.1.2.2.2.2.2.1) (0:Int)) + y17.1.1))) (Go.IntKind.wrap Go.IntKind.i64 ((List.getD (List.getD a5.2.1 (Int.toNat a5.1.2.2.2.2.1) ([] : List Int)) (Int.toNat (Go.IntKind.wrap Go.IntKind.i64 (a5.1.2.2.2.2.2.1 - (1:Int)))) (0:Int)) + y29.1.1))))), ()))) (fun y38 =>
 (some y38)))
 else
 none)
 else
 none)
 else
 none)
 else
 none)
 else
 none)
 else
 none)
 else
 none)
 else
 none)))
 else
 none)
 else
 none)
 else
 none)
 else
 none)
 else
 none)
 else
 none)
 else
 none)
 else
 none)
 else
 none)
 else
 none)
 else
 (bif (decide ((0:Int) ≤ a5.1.2.2.2.2.1)) then
 (bif (decide (a5.1.2.2.2.2.1 < (((List.length a5.2.1) : Nat) : Int))) then
 (bif (decide ((Int.toNat a5.1.2.2.2.2.1) < (List.length a5.2.1))) then
 (bif (decide ((Int.toNat a5.1.2.2.2.2.1) < (List.length a5.2.1))) then
 (bif (decide ((0:Int) ≤ a5.1.2.2.2.2.2.1)) then
 (bif (decide (a5.1.2.2.2.2.2.1 < (((List.length (List.getD a5.2.1 (Int.toNat a5.1.2.2.2.2.1) ([] : List Int))) : Nat) : Int))) then
 (bif (decide ((Int.toNat a5.1.2.2.2.2.1) < (List.length a5.2.1))) then
 (bif (decide ((Int.toNat a5.1.2.2.2.2.2.1) < (List.length (List.getD a5.2.1 (Int.toNat a5.1.2.2.2.2.1) ([] : List Int))))) then
 (Option.bind (L ((a5.1.1, (a5.1.2.1, (a5.1.2.2.1, ((), (a5.1.2.2.2.2.1, (a5.1.2.2.2.2.2.2.2.1, (a5.1.2.2.2.2.2.2.2.2.1, (a5.1.2.2.2.2.2.2.2.2.2.1, ((Go.IntKind.wrap Go.IntKind.i64 (a5.1.2.2.2.2.2.2.2.2.2.2.1 + (1:Int))), ()))))))))), ((List.set a5.2.1 (Int.toNat a5.1.2.2.2.2.1) (List.set (List.getD a5.2.1 (Int.toNat a5.1.2.2.2.2.1) ([] : List Int)) (Int.toNat a5.1.2.2.2.2.2.1) (Go.VI.mn a5.1.2.2.2.2.2.2.1 (Go.IntKind.wrap Go.IntKind.i64 ((List.getD (List.getD a5.2.1 (Int.toNat (Go.IntKind.wrap Go.IntKind.i64 (a5.1.2.2.2.2.1 - (1:Int)))) ([] : List Int)) (Int.toNat a5.1.2.2.2.2.2.1) (0:Int)) + y17.1.1))))), ()))) (fun y27 =>
 (some y27)))
 else
 none)
 else
 none)
 else
 none)
 else
 none)
 else
 none)
 else
 none)
 else
 none)
 else
 none))))
 else
 none)
 else
 none)
 else
 none)
 else
 none)
 else
 none)
 else
 none)
 else
 none)
 else
 none)
 else
 none)
 else
 none)
 else
 (bif (decide (a5.1.2.2.2.2.2.1 > (0:Int))) then
 (bif (decide ((0:Int) ≤ a5.1.2.2.2.2.1)) then
 (bif (decide (a5.1.2.2.2.2.1 < (((List.length a5.2.1) : Nat) : Int))) then
 (bif (decide ((Int.toNat a5.1.2.2.2.2.1) < (List.length a5.2.1))) then
 (bif (decide ((Int.toNat a5.1.2.2.2.2.1) < (List.length a5.2.1))) then
 (bif (decide ((0:Int) ≤ (Go.IntKind.wrap Go.IntKind.i64 (a5.1.2.2.2.2.2.1 - (1:Int))))) then
 (bif (decide ((Go.IntKind.wrap Go.IntKind.i64 (a5.1.2.2.2.2.2.1 - (1:Int))) < (((List.length (List.getD a5.2.1 (Int.toNat a5.1.2.2.2.2.1) ([] : List Int))) : Nat) : Int))) then
 (bif (decide ((Int.toNat a5.1.2.2.2.2.1) < (List.length a5.2.1))) then
 (bif (decide ((Int.toNat (Go.IntKind.wrap Go.IntKind.i64 (a5.1.2.2.2.2.2.1 - (1:Int)))) < (List.length (List.getD a5.2.1 (Int.toNat a5.1.2.2.2.2.1) ([] : List Int))))) then
 (bif (decide ((0:Int) ≤ (Go.IntKind.wrap Go.IntKind.i64 (a5.1.2.2.2.2.2.1 - (1:Int))))) then
 (bif (decide ((Go.IntKind.wrap Go.IntKind.i64 (a5.1.2.2.2.2.2.1 - (1:Int))) < (((List.length a5.1.2.1) : Nat) : Int))) then
 (Option.bind (g_ref15_Abs (((Go.IntKind.wrap Go.IntKind.i64 ((List.getD a5.1.2.1 (Int.toNat (Go.IntKind.wrap Go.IntKind.i64 (a5.1.2.2.2.2.2.1 - (1:Int)))) (0:Int)) - a5.1.2.2.1)), ()), ())) (fun y18 =>
 (bif (decide ((0:Int) ≤ a5.1.2.2.2.2.1)) then
 (bif (decide (a5.1.2.2.2.2.1 < (((List.length a5.2.1) : Nat) : Int))) then
 (bif (decide ((Int.toNat a5.1.2.2.2.2.1) < (List.length a5.2.1))) then
 (bif (decide ((Int.toNat a5.1.2.2.2.2.1) < (List.length a5.2.1))) then
 (bif (decide ((0:Int) ≤ a5.1.2.2.2.2.2.1)) then
 (bif (decide (a5.1.2.2.2.2.2.1 < (((List.length (List.getD a5.2.1 (Int.toNat a5.1.2.2.2.2.1) ([] : List Int))) : Nat) : Int))) then
 (bif (decide ((Int.toNat a5.1.2.2.2.2.1) < (List.length a5.2.1))) then
 (bif (decide ((Int.toNat a5.1.2.2.2.2.2.1) < (List.length (List.getD a5.2.1 (Int.toNat a5.1.2.2.2.2.1) ([] : List Int))))) then
 (Option.bind (L ((a5.1.1, (a5.1.2.1, (a5.1.2.2.1, ((), (a5.1.2.2.2.2.1, (a5.1.2.2.2.2.2.2.2.1, (a5.1.2.2.2.2.2.2.2.2.1, (a5.1.2.2.2.2.2.2.2.2.2.1, ((Go.IntKind.wrap Go.IntKind.i64 (a5.1.2.2.2.2.2.2.2.2.2.2.1 + (1:Int))), ()))))))))), ((List.set a5.2.1 (Int.toNat a5.1.2.2.2.2.1) (List.set (List.getD a5.2.1 (Int.toNat a5.1.2.2.2.2.1) ([] : List Int)) (Int.toNat a5.1.2.2.2.2.2.1) (Go.VI.mn a5.1.2.2.2.2.2.2.1 (Go.IntKind.wrap Go.IntKind.i64 ((List.getD (List.getD a5.2.1 (Int.toNat a5.1.2.2.2.2.1) ([] : List Int)) (Int.toNat (Go.IntKind.wrap Go.IntKind.i64 (a5.1.2.2.2.2.2.1 - (1:Int)))) (0:Int)) + y18.1.1))))), ()))) (fun y27 =>
 (some y27)))
 else
 none)
 else
 none)
 else
 none)
 else
 none)
 else
 none)
 else
 none)
 else
 none)
 else
 none)))
 else
 none)
 else
 none)
 else
 none)
 else
 none)
 else
 none)
 else
 none)
 else
 none)
 else
 none)
 else
 none)
 else
 none)
 else
 (bif (decide ((0:Int) ≤ a5.1.2.2.2.2.1)) then
 (bif (decide (a5.1.2.2.2.2.1 < (((List.length a5.2.1) : Nat) : Int))) then
 (bif (decide ((Int.toNat a5.1.2.2.2.2.1) < (List.length a5.2.1))) then
 (bif (decide ((Int.toNat a5.1.2.2.2.2.1) < (List.length a5.2.1))) then
 (bif (decide ((0:Int) ≤ a5.1.2.2.2.2.2.1)) then
 (bif (decide (a5.1.2.2.2.2.2.1 < (((List.length (List.getD a5.2.1 (Int.toNat a5.1.2.2.2.2.1) ([] : List Int))) : Nat) : Int))) then
 (bif (decide ((Int.toNat a5.1.2.2.2.2.1) < (List.length a5.2.1))) then
 (bif (decide ((Int.toNat a5.1.2.2.2.2.2.1) < (List.length (List.getD a5.2.1 (Int.toNat a5.1.2.2.2.2.1) ([] : List Int))))) then
 (Option.bind (L ((a5.1.1, (a5.1.2.1, (a5.1.2.2.1, ((), (a5.1.2.2.2.2.1, (a5.1.2.2.2.2.2.2.2.1, (a5.1.2.2.2.2.2.2.2.2.1, (a5.1.2.2.2.2.2.2.2.2.2.1, ((Go.IntKind.wrap Go.IntKind.i64 (a5.1.2.2.2.2.2.2.2.2.2.2.1 + (1:Int))), ()))))))))), ((List.set a5.2.1 (Int.toNat a5.1.2.2.2.2.1) (List.set (List.getD a5.2.1 (Int.toNat a5.1.2.2.2.2.1) ([] : List Int)) (Int.toNat a5.1.2.2.2.2.2.1) a5.1.2.2.2.2.2.2.1)), ()))) (fun y16 =>
 (some y16)))
 else
 none)
 else
 none)
 else
 none)
 else
 none)
 else
 none)
 else
 none)
 else
 none)
 else
 none)))) (fun b5 =>
 (Empty.elim b5)) y4)))) (fun b3 =>
 (Empty.elim b3)) y2))))
 else
 (some (Sum.inl ((x_0, (y_1, (gap_2, ((), (v16, (v17, ())))))), (o0, ())))))
theorem ref15_table.eq1 (g_ref15_Abs : ref15_Abs.G) (l0 : ref15_table.A0) (l1 : ref15_table.A1) (l2 : ref15_table.A2) (l3 : ref15_table.A3) (L : ref15_table.A1) (x : ref15_table.s1.X) : rndO (ref15_table.E g_ref15_Abs l0 l1 l2 l3) ref15_table.hs ref15_table.c ref15_table.s1 ref15_table.x1 1 true L x = ref15_table.f1 g_ref15_Abs l2 l3 L x.1.1 x.1.2.1 x.1.2.2.1 x.1.2.2.2.2.1 x.1.2.2.2.2.2.1 x.1.2.2.2.2.2.2.1 x.1.2.2.2.2.2.2.2.1 x.1.2.2.2.2.2.2.2.2.1 x.2.1 := by
  show _ = (_ : Option _)
  kernel_rfl
noncomputable def ref15_table.L1 : Y43 → Option Y51 := loop fun L x => ref15_table.f1 ref15_Abs.F ref15_table.L2 ref15_table.L3 L x.1.1 x.1.2.1 x.1.2.2.1 x.1.2.2.2.2.1 x.1.2.2.2.2.2.1 x.1.2.2.2.2.2.2.1 x.1.2.2.2.2.2.2.2.1 x.1.2.2.2.2.2.2.2.2.1 x.2.1
def ref15_table.f0 (l1 : Y43 → Option Y51) (L : Y59 → Option Y109) (x_0 y_1 : List Int) (gap_2 v16 v17 : Int) (o0 : List (List Int)) : Option Y109 :=
  (bif (decide (v17 < v16)) then
 (bif (decide ((Go.IntKind.wrap Go.IntKind.i64 ((((List.length y_1) : Nat) : Int) + (1:Int))) = (Go.IntKind.wrap Go.IntKind.i64 ((((List.length y_1) : Nat) : Int) + (1:Int))))) then
 (bif (decide ((0:Int) ≤ (Go.IntKind.wrap Go.IntKind.i64 ((((List.length y_1) : Nat) : Int) + (1:Int))))) then
 (bif ((decide (((((8:Nat) : Nat) : Int) * (Go.IntKind.wrap Go.IntKind.i64 ((((List.length y_1) : Nat) : Int) + (1:Int)))) ≤ (281474976710656:Int))) && Bool.true) then
 (bif (decide ((0:Int) ≤ v17)) then
 (bif (decide (v17 < (((List.length o0) : Nat) : Int))) then
 (bif (decide ((Int.toNat v17) < (List.length o0))) then
 (bif (decide ((0:Int) ≤ v17)) then
 (bif (decide (v17 < (((List.length (List.set o0 (Int.toNat v17) (List.replicate (Int.toNat (Go.IntKind.wrap Go.IntKind.i64 ((((List.length y_1) : Nat) : Int) + (1:Int)))) (0:Int)))) : Nat) : Int))) then
 (bif (decide ((Int.toNat v17) < (List.length (List.set o0 (Int.toNat v17) (List.replicate (Int.toNat (Go.IntKind.wrap Go.IntKind.i64 ((((List.length y_1) : Nat) : Int) + (1:Int)))) (0:Int)))))) then
 (bif (decide ((Int.toNat v17) < (List.length (List.set o0 (Int.toNat v17) (List.replicate (Int.toNat (Go.IntKind.wrap Go.IntKind.i64 ((((List.length y_1) : Nat) : Int) + (1:Int)))) (0:Int)))))) then
 (Option.bind (l1 ((x_0, (y_1, (gap_2, ((), (v17, (v16, (v17, ((((List.length (List.getD (List.set o0 (Int.toNat v17) (List.replicate (Int.toNat (Go.IntKind.wrap Go.IntKind.i64 ((((List.length y_1) : Nat) : Int) + (1:Int)))) (0:Int))) (Int.toNat v17) ([] : List Int))) : Nat) : Int), ((0:Int), ()))))))))), ((List.set o0 (Int.toNat v17) (List.replicate (Int.toNat (Go.IntKind.wrap Go.IntKind.i64 ((((List.length y_1) : Nat) : Int) + (1:Int)))) (0:Int))), ()))) (fun y11 =>
 (Sum.elim (fun a12 =>
 (Option.bind (L ((a12.1.1, (a12.1.2.1, (a12.1.2.2.1, ((), (a12.1.2.2.2.2.1, ((Go.IntKind.wrap Go.IntKind.i64 (a12.1.2.2.2.2.2.1 + (1:Int))), ())))))), (a12.2.1, ()))) (fun y13 =>
 (some y13)))) (fun b12 =>
 (Empty.elim b12)) y11)))
 else
 none)
 else
 none)
 else
 none)
 else
 none)
 else
 none)
 else
 none)
 else
 none)
 else
 none)
 else
 none)
 else
 none)
 else
 (some (Sum.inl (((), ()), (o0, ())))))
theorem ref15_table.eq0 (g_ref15_Abs : ref15_Abs.G) (l0 : ref15_table.A0) (l1 : ref15_table.A1) (l2 : ref15_table.A2) (l3 : ref15_table.A3) (L : ref15_table.A0) (x : ref15_table.s0.X) : rndO (ref15_table.E g_ref15_Abs l0 l1 l2 l3) ref15_table.hs ref15_table.c ref15_table.s0 ref15_table.x0 0 true L x = ref15_table.f0 l1 L x.1.1 x.1.2.1 x.1.2.2.1 x.1.2.2.2.2.1 x.1.2.2.2.2.2.1 x.2.1 := by
  show _ = (_ : Option _)
  kernel_rfl
noncomputable def ref15_table.L0 : Y59 → Option Y109 := loop fun L x => ref15_table.f0 ref15_table.L1 L x.1.1 x.1.2.1 x.1.2.2.1 x.1.2.2.2.2.1 x.1.2.2.2.2.2.1 x.2.1
def ref15_table.f (l0 : Y59 → Option Y109) (x_ y : List Int) (gap : Int) : Option Y132 :=
  (bif (decide ((Go.IntKind.wrap Go.IntKind.i64 ((((List.length x_) : Nat) : Int) + (1:Int))) = (Go.IntKind.wrap Go.IntKind.i64 ((((List.length x_) : Nat) : Int) + (1:Int))))) then
 (bif (decide ((0:Int) ≤ (Go.IntKind.wrap Go.IntKind.i64 ((((List.length x_) : Nat) : Int) + (1:Int))))) then
 (bif ((decide (((((24:Nat) : Nat) : Int) * (Go.IntKind.wrap Go.IntKind.i64 ((((List.length x_) : Nat) : Int) + (1:Int)))) ≤ (281474976710656:Int))) && Bool.true) then
 (Option.bind (l0 ((x_, (y, (gap, ((), ((((List.length (List.replicate (Int.toNat (Go.IntKind.wrap Go.IntKind.i64 ((((List.length x_) : Nat) : Int) + (1:Int)))) ([] : List Int))) : Nat) : Int), ((0:Int), ())))))), ((List.replicate (Int.toNat (Go.IntKind.wrap Go.IntKind.i64 ((((List.length x_) : Nat) : Int) + (1:Int)))) ([] : List Int)), ()))) (fun y3 =>
 (Sum.elim (fun a4 =>
 (some ((a4.2.1, ()), ()))) (fun b4 =>
 (Empty.elim b4)) y3)))
 else
 none)
 else
 none)
 else
 none)
theorem ref15_table.eq (g_ref15_Abs : ref15_Abs.G) (l0 : ref15_table.A0) (l1 : ref15_table.A1) (l2 : ref15_table.A2) (l3 : ref15_table.A3) (x : ref15_table.sh.X) : bodO (ref15_table.E g_ref15_Abs l0 l1 l2 l3) ref15_table.hs ref15_table.c Try.f69 ref15_table.sh ref15_table.osh x = ref15_table.f l0 x.1.1 x.1.2.1 x.1.2.2.1 := by
  show _ = (_ : Option _)
  kernel_rfl
noncomputable def ref15_table (x_ y : List Int) (gap : Int) : Option Y132 := ref15_table.f ref15_table.L0 x_ y gap
noncomputable def ref15_table.F (x : Y115) : Option Y132 := ref15_table x.1.1 x.1.2.1 x.1.2.2.1
theorem ref15_table.L0_eq (x_0 y_1 : List Int) (gap_2 v16 v17 : Int) (o0 : List (List Int)) : ref15_table.L0 ((x_0, y_1, gap_2, (), v16, v17, ()), (o0, ())) = ref15_table.f0 ref15_table.L1 ref15_table.L0 x_0 y_1 gap_2 v16 v17 o0 :=
  loop_eq (E := (ref15_table.E ref15_Abs.F ref15_table.L0 ref15_table.L1 ref15_table.L2 ref15_table.L3)) (sh := ref15_table.s0) (es := ref15_table.x0) (lp := true) (H := fun L x => ref15_table.eq0 ref15_Abs.F ref15_table.L0 ref15_table.L1 ref15_table.L2 ref15_table.L3 L x) ((x_0, y_1, gap_2, (), v16, v17, ()), (o0, ()))
theorem ref15_table.L1_eq (x_0 y_1 : List Int) (gap_2 i_8 v16 v17 v31 v32 : Int) (o0 : List (List Int)) : ref15_table.L1 ((x_0, y_1, gap_2, (), i_8, v16, v17, v31, v32, ()), (o0, ())) = ref15_table.f1 ref15_Abs.F ref15_table.L2 ref15_table.L3 ref15_table.L1 x_0 y_1 gap_2 i_8 v16 v17 v31 v32 o0 :=
  loop_eq (E := (ref15_table.E ref15_Abs.F ref15_table.L0 ref15_table.L1 ref15_table.L2 ref15_table.L3)) (sh := ref15_table.s1) (es := ref15_table.x1) (lp := true) (H := fun L x => ref15_table.eq1 ref15_Abs.F ref15_table.L0 ref15_table.L1 ref15_table.L2 ref15_table.L3 L x) ((x_0, y_1, gap_2, (), i_8, v16, v17, v31, v32, ()), (o0, ()))
theorem ref15_table.L2_eq (x_0 y_1 : List Int) (gap_2 i_8 j_9 best_10 v16 v17 v31 v32 : Int) (o0 : List (List Int)) : ref15_table.L2 ((x_0, y_1, gap_2, (), i_8, j_9, best_10, v16, v17, v31, v32, ()), (o0, ())) = ref15_table.f2 x_0 y_1 gap_2 i_8 j_9 best_10 v16 v17 v31 v32 o0 := rfl
theorem ref15_table.L3_eq (x_0 y_1 : List Int) (gap_2 i_8 j_9 best_10 v16 v17 v31 v32 : Int) (v44 : Bool) (o0 : List (List Int)) : ref15_table.L3 ((x_0, y_1, gap_2, (), i_8, j_9, best_10, v16, v17, v31, v32, v44, ()), (o0, ())) = ref15_table.f3 ref15_Abs.F x_0 y_1 gap_2 i_8 j_9 best_10 v16 v17 v31 v32 v44 o0 := rfl
theorem ref15_table.F_eq (x_ y : List Int) (gap : Int) : ref15_table.F ((x_, y, gap, ()), ()) = ref15_table.f ref15_table.L0 x_ y gap := rfl
theorem ref15_table.ok {tabs : List (Nat × Go.Obj)} (ht : TabsOk tabs) : FOK Try.prog tabs 69 (ref15_table.fe ref15_table.F) := by
  refine fn_keep2 Try.func69 (ref15_table.eq ref15_Abs.F ref15_table.L0 ref15_table.L1 ref15_table.L2 ref15_table.L3) pw tb (gt_ok ht) (by kernel_rfl) (by kernel_rfl) (fun g ks fe h => ?_) ?_
  · rcases c_cons h with ⟨rfl, rfl⟩ | h
    · exact ref15_Abs.ok ht
    cases h
  · refine known_at 4 (by kernel_rfl) fun i hi => ?_
    match i, hi with
    | 0, _ => exact atomH (loop_ok (es := ref15_table.x0) rfl (ref15_table.eq0 ref15_Abs.F ref15_table.L0 ref15_table.L1 ref15_table.L2 ref15_table.L3)) (by kernel_rfl)
    | 1, _ => exact atomH (loop_ok (es := ref15_table.x1) rfl (ref15_table.eq1 ref15_Abs.F ref15_table.L0 ref15_table.L1 ref15_table.L2 ref15_table.L3)) (by kernel_rfl)
    | 2, _ => exact atomH (cut_ok (es := ref15_table.x2) rfl (ref15_table.eq2 ref15_Abs.F ref15_table.L0 ref15_table.L1 ref15_table.L2 ref15_table.L3)) (by kernel_rfl)
    | 3, _ => exact atomH (cut_ok (es := ref15_table.x3) rfl (ref15_table.eq3 ref15_Abs.F ref15_table.L0 ref15_table.L1 ref15_table.L2 ref15_table.L3)) (by kernel_rfl)
    | n + 4, h => exact absurd h (by omega)

/-! ref15_Distance -/
def ref15_Distance.f (g_ref15_check : Y115 → Option Y143) (g_ref15_table : Y115 → Option Y132) (x_ y : List Int) (gap : Int) : Option Y140 :=
  (Option.bind (g_ref15_check ((x_, (y, (gap, ()))), ())) (fun y0 =>
 (bif (y0.1.1 != (0:Int)) then
 (some (((0:Int), (y0.1.1, ())), ()))
 else
 (Option.bind (g_ref15_table ((x_, (y, (gap, ()))), ())) (fun y2 =>
 (bif (decide ((((List.length x_) : Nat) : Int) < (((List.length y2.1.1) : Nat) : Int))) then
 (bif (decide ((((List.length y) : Nat) : Int) < (((List.length (List.getD y2.1.1 (Int.toNat (((List.length x_) : Nat) : Int)) ([] : List Int))) : Nat) : Int))) then
 (some (((List.getD (List.getD y2.1.1 (Int.toNat (((List.length x_) : Nat) : Int)) ([] : List Int)) (Int.toNat (((List.length y) : Nat) : Int)) (0:Int)), ((0:Int), ())), ()))
 else
 none)
 else
 none))))))
theorem ref15_Distance.eq (g_ref15_check : ref15_check.G) (g_ref15_table : ref15_table.G) (x : ref15_Distance.sh.X) : bodO (ref15_Distance.E g_ref15_check g_ref15_table) ref15_Distance.hs ref15_Distance.c Try.f46 ref15_Distance.sh ref15_Distance.osh x = ref15_Distance.f g_ref15_check g_ref15_table x.1.1 x.1.2.1 x.1.2.2.1 := by
  show _ = (_ : Option _)
  kernel_rfl
noncomputable def ref15_Distance (x_ y : List Int) (gap : Int) : Option Y140 := ref15_Distance.f ref15_check.F ref15_table.F x_ y gap
noncomputable def ref15_Distance.F (x : Y115) : Option Y140 := ref15_Distance x.1.1 x.1.2.1 x.1.2.2.1
theorem ref15_Distance.F_eq (x_ y : List Int) (gap : Int) : ref15_Distance.F ((x_, y, gap, ()), ()) = ref15_Distance.f ref15_check.F ref15_table.F x_ y gap := rfl
theorem ref15_Distance.ok {tabs : List (Nat × Go.Obj)} (ht : TabsOk tabs) : FOK Try.prog tabs 46 (ref15_Distance.fe ref15_Distance.F) := by
  refine fn_keep2 Try.func46 (ref15_Distance.eq ref15_check.F ref15_table.F) pw tb (gt_ok ht) (by kernel_rfl) (by kernel_rfl) (fun g ks fe h => ?_) ?_
  · rcases c_cons h with ⟨rfl, rfl⟩ | h
    · exact ref15_check.ok ht
    rcases c_cons h with ⟨rfl, rfl⟩ | h
    · exact ref15_table.ok ht
    cases h
  · exact known_at 0 (by kernel_rfl) fun i hi => absurd hi (Nat.not_lt_zero i)

/-! ref17_Distance -/
def ref17_Distance.f (g_ref17_Check : Y120 → Option Y143) (g_ref12_Shifted : Y124 → Option Y122) (g_ref13_Gap : Y124 → Option Y122) (g_ref12_Distance : Y124 → Option Y140) (g_ref14_Distance : Y115 → Option Y140) (g_ref15_Distance : Y115 → Option Y140) (m_Kind m_Band m_Gap : Int) (x_ y : List Int) : Option Y122 :=
  (Option.bind (g_ref17_Check (((m_Kind, (m_Band, (m_Gap, ()))), ()), ())) (fun y0 =>
 (bif (y0.1.1 != (0:Int)) then
 (some ((((0:Int), ((0:Int), ())), (y0.1.1, ())), ()))
 else
 (bif (m_Kind == (2:Int)) then
 (Option.bind (g_ref12_Shifted ((x_, (y, ())), ())) (fun y3 =>
 (some (((y3.1.1.1, (y3.1.1.2.1, ())), (y3.1.2.1, ())), ()))))
 else
 (bif (m_Kind == (3:Int)) then
 (Option.bind (g_ref13_Gap ((x_, (y, ())), ())) (fun y4 =>
 (some (((y4.1.1.1, (y4.1.1.2.1, ())), (y4.1.2.1, ())), ()))))
 else
 (bif (m_Kind == (1:Int)) then
 (Option.bind (g_ref12_Distance ((x_, (y, ())), ())) (fun y5 =>
 (bif (y5.1.2.1 != (0:Int)) then
 (some ((((0:Int), ((0:Int), ())), (y5.1.2.1, ())), ()))
 else
 (some (((y5.1.1, ((1:Int), ())), ((0:Int), ())), ())))))
 else
 (bif (m_Kind == (4:Int)) then
 (Option.bind (g_ref14_Distance ((x_, (y, (m_Band, ()))), ())) (fun y6 =>
 (bif (y6.1.2.1 != (0:Int)) then
 (some ((((0:Int), ((0:Int), ())), (y6.1.2.1, ())), ()))
 else
 (some (((y6.1.1, ((1:Int), ())), ((0:Int), ())), ())))))
 else
 (Option.bind (g_ref15_Distance ((x_, (y, (m_Gap, ()))), ())) (fun y6 =>
 (bif (y6.1.2.1 != (0:Int)) then
 (some ((((0:Int), ((0:Int), ())), (y6.1.2.1, ())), ()))
 else
 (some (((y6.1.1, ((1:Int), ())), ((0:Int), ())), ()))))))))))))
theorem ref17_Distance.eq (g_ref17_Check : ref17_Check.G) (g_ref12_Shifted : ref12_Shifted.G) (g_ref13_Gap : ref13_Gap.G) (g_ref12_Distance : ref12_Distance.G) (g_ref14_Distance : ref14_Distance.G) (g_ref15_Distance : ref15_Distance.G) (x : ref17_Distance.sh.X) : bodO (ref17_Distance.E g_ref17_Check g_ref12_Shifted g_ref13_Gap g_ref12_Distance g_ref14_Distance g_ref15_Distance) ref17_Distance.hs ref17_Distance.c Try.f23 ref17_Distance.sh ref17_Distance.osh x = ref17_Distance.f g_ref17_Check g_ref12_Shifted g_ref13_Gap g_ref12_Distance g_ref14_Distance g_ref15_Distance x.1.1.1 x.1.1.2.1 x.1.1.2.2.1 x.1.2.1 x.1.2.2.1 := by
  show _ = (_ : Option _)
  kernel_rfl
noncomputable def ref17_Distance (m_Kind m_Band m_Gap : Int) (x_ y : List Int) : Option Y122 := ref17_Distance.f ref17_Check.F ref12_Shifted.F ref13_Gap.F ref12_Distance.F ref14_Distance.F ref15_Distance.F m_Kind m_Band m_Gap x_ y
noncomputable def ref17_Distance.F (x : Y84) : Option Y122 := ref17_Distance x.1.1.1 x.1.1.2.1 x.1.1.2.2.1 x.1.2.1 x.1.2.2.1
theorem ref17_Distance.F_eq (m_Kind m_Band m_Gap : Int) (x_ y : List Int) : ref17_Distance.F (((m_Kind, m_Band, m_Gap, ()), x_, y, ()), ()) = ref17_Distance.f ref17_Check.F ref12_Shifted.F ref13_Gap.F ref12_Distance.F ref14_Distance.F ref15_Distance.F m_Kind m_Band m_Gap x_ y := rfl
theorem ref17_Distance.ok {tabs : List (Nat × Go.Obj)} (ht : TabsOk tabs) : FOK Try.prog tabs 23 (ref17_Distance.fe ref17_Distance.F) := by
  refine fn_keep2 Try.func23 (ref17_Distance.eq ref17_Check.F ref12_Shifted.F ref13_Gap.F ref12_Distance.F ref14_Distance.F ref15_Distance.F) pw tb (gt_ok ht) (by kernel_rfl) (by kernel_rfl) (fun g ks fe h => ?_) ?_
  · rcases c_cons h with ⟨rfl, rfl⟩ | h
    · exact ref17_Check.ok ht
    rcases c_cons h with ⟨rfl, rfl⟩ | h
    · exact ref12_Shifted.ok ht
    rcases c_cons h with ⟨rfl, rfl⟩ | h
    · exact ref13_Gap.ok ht
    rcases c_cons h with ⟨rfl, rfl⟩ | h
    · exact ref12_Distance.ok ht
    rcases c_cons h with ⟨rfl, rfl⟩ | h
    · exact ref14_Distance.ok ht
    rcases c_cons h with ⟨rfl, rfl⟩ | h
    · exact ref15_Distance.ok ht
    cases h
  · exact known_at 0 (by kernel_rfl) fun i hi => absurd hi (Nat.not_lt_zero i)
end Go.Proofs.Ytefcciajemkicaa.V
