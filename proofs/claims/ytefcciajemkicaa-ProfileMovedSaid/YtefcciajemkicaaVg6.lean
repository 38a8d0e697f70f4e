import Derived.Test.YtefcciajemkicaaVg5
import Derived.WalkKit
set_option linter.unusedVariables false
set_option maxRecDepth 100000
namespace Go.Proofs.Ytefcciajemkicaa.V
open Go.VI
/-! profile_neighbour -/
def profile_neighbour.f0 (g_ratio_Valid : (((Int × Int × Unit) × Unit) × (Unit)) → Option ((Bool × Unit) × (Unit))) (i_1 : Int) (n_2 : Int) (zone_3 : Int) (behind_4 : Bool) (o0_0 : Int) (o0_1 : Int) (o0_2 : Int) : Option (((Int × Int × Bool × Unit × Bool × Unit) × ((Int × Int × Int × Unit) × Unit)) ⊕ Empty) :=
  (bif (decide (o0_0 < (0:Int))) then
   (some (Sum.inl ((i_1, (zone_3, (behind_4, ((), (Bool.true, ()))))), ((o0_0, (o0_1, (o0_2, ()))), ()))))
  else
   (bif (decide (o0_0 ≥ n_2)) then
    (some (Sum.inl ((i_1, (zone_3, (behind_4, ((), (Bool.true, ()))))), ((o0_0, (o0_1, (o0_2, ()))), ()))))
   else
    (Option.bind (g_ratio_Valid (((o0_1, (o0_2, ())), ()), ())) (fun y2 =>
    (some (Sum.inl ((i_1, (zone_3, (behind_4, ((), ((!y2.1.1), ()))))), ((o0_0, (o0_1, (o0_2, ()))), ()))))))))
theorem profile_neighbour.eq0 (g_profile_None : profile_None.sh.X → Option profile_None.osh.X) (g_ratio_Valid : ratio_Valid.sh.X → Option ratio_Valid.osh.X) (l0 : profile_neighbour.s0.X → Option (sumX profile_neighbour.x0)) (L : ((Int × Int × Int × Bool × Unit × Unit) × ((Int × Int × Int × Unit) × Unit)) → Option (((Int × Int × Bool × Unit × Bool × Unit) × ((Int × Int × Int × Unit) × Unit)) ⊕ Empty)) (x : ((Int × Int × Int × Bool × Unit × Unit) × ((Int × Int × Int × Unit) × Unit))) : (roundK (profile_neighbour.E g_profile_None g_ratio_Valid l0) profile_neighbour.s0 [1, 2, 3, 4, 5] [(0, [1, 3, 4, 5, 31])] false (((mk profile_neighbour.hs profile_neighbour.c []).atoms.getD 0 .bad).body) profile_neighbour.x0 L x).run _ some = profile_neighbour.f0 g_ratio_Valid x.1.1 x.1.2.1 x.1.2.2.1 x.1.2.2.2.1 x.2.1.1 x.2.1.2.1 x.2.1.2.2.1 := by
  show _ = (_ : Option _)
  kernel_rfl
noncomputable def profile_neighbour.L0 : ((Int × Int × Int × Bool × Unit × Unit) × ((Int × Int × Int × Unit) × Unit)) → Option (((Int × Int × Bool × Unit × Bool × Unit) × ((Int × Int × Int × Unit) × Unit)) ⊕ Empty) := fun x => profile_neighbour.f0 ratio_Valid.F x.1.1 x.1.2.1 x.1.2.2.1 x.1.2.2.2.1 x.2.1.1 x.2.1.2.1 x.2.1.2.2.1
def profile_neighbour.f (g_profile_None : ((Unit) × (Unit)) → Option (((Int × Int × Int × Unit) × Unit) × (Unit))) (l0 : ((Int × Int × Int × Bool × Unit × Unit) × ((Int × Int × Int × Unit) × Unit)) → Option (((Int × Int × Bool × Unit × Bool × Unit) × ((Int × Int × Int × Unit) × Unit)) ⊕ Empty)) (x_At : Int) (x_Distance_Num : Int) (x_Distance_Den : Int) (i : Int) (n : Int) (zone : Int) (behind : Bool) : Option ((Bool × Unit) × (Unit)) :=
  (bif (x_At == (-(1:Int))) then
   (Option.bind (g_profile_None ((), ())) (fun y1 =>
   (some ((((x_At == y1.1.1.1) && (((x_Distance_Num == y1.1.1.2.1) && ((x_Distance_Den == y1.1.1.2.2.1) && Bool.true)) && Bool.true)), ()), ()))))
  else
   (Option.bind (l0 ((i, (n, (zone, (behind, ((), ()))))), ((x_At, (x_Distance_Num, (x_Distance_Den, ()))), ()))) (fun y1 =>
   (Sum.elim (fun a2 =>
    (bif a2.1.2.2.2.2.1 then
     (some ((Bool.false, ()), ()))
    else
     (bif a2.1.2.2.1 then
      (some (((decide (a2.2.1.1 ≥ (Go.IntKind.wrap Go.IntKind.i64 (a2.1.1 + a2.1.2.1)))), ()), ()))
     else
      (some (((decide (a2.2.1.1 ≤ (Go.IntKind.wrap Go.IntKind.i64 (a2.1.1 - a2.1.2.1)))), ()), ()))))) (fun b2 =>
    (Empty.elim b2)) y1))))
theorem profile_neighbour.eq (g_profile_None : profile_None.sh.X → Option profile_None.osh.X) (g_ratio_Valid : ratio_Valid.sh.X → Option ratio_Valid.osh.X) (l0 : profile_neighbour.s0.X → Option (sumX profile_neighbour.x0)) (x : (((Int × Int × Int × Unit) × Int × Int × Int × Bool × Unit) × (Unit))) : (bodyO (profile_neighbour.E g_profile_None g_ratio_Valid l0) (mk profile_neighbour.hs profile_neighbour.c []) Go.Proofs.Try.f31.results.toList profile_neighbour.sh profile_neighbour.osh x).run _ some = profile_neighbour.f g_profile_None l0 x.1.1.1 x.1.1.2.1 x.1.1.2.2.1 x.1.2.1 x.1.2.2.1 x.1.2.2.2.1 x.1.2.2.2.2.1 := by
  show _ = (_ : Option _)
  kernel_rfl
noncomputable def profile_neighbour (x_At : Int) (x_Distance_Num : Int) (x_Distance_Den : Int) (i : Int) (n : Int) (zone : Int) (behind : Bool) : Option ((Bool × Unit) × (Unit)) := profile_neighbour.f profile_None.F profile_neighbour.L0 x_At x_Distance_Num x_Distance_Den i n zone behind
noncomputable def profile_neighbour.F (x : (((Int × Int × Int × Unit) × Int × Int × Int × Bool × Unit) × (Unit))) : Option ((Bool × Unit) × (Unit)) := profile_neighbour x.1.1.1 x.1.1.2.1 x.1.1.2.2.1 x.1.2.1 x.1.2.2.1 x.1.2.2.2.1 x.1.2.2.2.2.1
theorem profile_neighbour.L0_eq (i_1 : Int) (n_2 : Int) (zone_3 : Int) (behind_4 : Bool) (o0_0 : Int) (o0_1 : Int) (o0_2 : Int) : profile_neighbour.L0 ((i_1, n_2, zone_3, behind_4, (), ()), ((o0_0, o0_1, o0_2, ()), ())) = profile_neighbour.f0 ratio_Valid.F i_1 n_2 zone_3 behind_4 o0_0 o0_1 o0_2 := rfl
theorem profile_neighbour.F_eq (x_At : Int) (x_Distance_Num : Int) (x_Distance_Den : Int) (i : Int) (n : Int) (zone : Int) (behind : Bool) : profile_neighbour.F (((x_At, x_Distance_Num, x_Distance_Den, ()), i, n, zone, behind, ()), ()) = profile_neighbour.f profile_None.F profile_neighbour.L0 x_At x_Distance_Num x_Distance_Den i n zone behind := rfl
theorem profile_neighbour.ok {tabs : List (Nat × Go.Obj)} (ht : TabsOk tabs) : FOK Go.Proofs.Try.prog tabs 31 (FE.of [true, true, true, true, true] false profile_neighbour.sh profile_neighbour.osh profile_neighbour.F) := by
  refine fn_keeps (E := (profile_neighbour.E profile_None.F ratio_Valid.F profile_neighbour.L0)) (c := profile_neighbour.c) (fn := Go.Proofs.Try.f31) (hs := profile_neighbour.hs) (by kernel_rfl) Go.Proofs.Try.func31 ⟨by kernel_rfl, by kernel_rfl, tb, by kernel_rfl, by kernel_rfl, by kernel_rfl, by kernel_rfl, by kernel_rfl⟩ ⟨fun g ks fe h => ?_, gt_ok ht⟩ ?_ (fun x => profile_neighbour.eq profile_None.F ratio_Valid.F profile_neighbour.L0 x)
  · rcases c_cons h with ⟨rfl, rfl⟩ | h
    · exact profile_None.ok ht
    rcases c_cons h with ⟨rfl, rfl⟩ | h
    · exact ratio_Valid.ok ht
    cases h
  · refine known_at 1 (by kernel_rfl) fun i hi => ?_
    match i, hi with
    | 0, _ => exact atom_at (id := 0) (live := [1, 2, 3, 4, 5]) (outs := [(0, [1, 3, 4, 5, 31])]) (loop := false) (by kernel_rfl) (cut_ok (E := (profile_neighbour.E profile_None.F ratio_Valid.F profile_neighbour.L0)) (sh := profile_neighbour.s0) (es := profile_neighbour.x0) rfl (fun L x => profile_neighbour.eq0 profile_None.F ratio_Valid.F profile_neighbour.L0 L x))
    | n + 1, h => exact absurd h (by omega)

/-! profile_Valid -/
def profile_Valid.f0 (g_measure_Check : (((Int × Int × Int × Unit) × Unit) × (Unit)) → Option ((Int × Unit) × (Unit))) (g_profile_Length : ((Int × Unit) × (Unit)) → Option ((Bool × Unit) × (Unit))) (g_profile_Zone : ((Int × Unit) × (Unit)) → Option ((Bool × Unit) × (Unit))) (n_3 : Int) (o0_0 : Int) (o0_1 : Int) (o0_2 : Int) (o0_3 : Int) (o0_4 : Int) (o0_5 : (List (Int × (Int × Int)))) (o0_6 : (List (Int × (Int × Int)))) (o0_7 : (List (Int × (Int × Int)))) : Option (((Unit × Int × Bool × Unit) × ((Int × Int × Int × Int × Int × (List (Int × (Int × Int))) × (List (Int × (Int × Int))) × (List (Int × (Int × Int))) × Unit) × Unit)) ⊕ Empty) :=
  (Option.bind (g_measure_Check (((o0_0, (o0_1, (o0_2, ()))), ()), ())) (fun y0 =>
  (bif (y0.1.1 != (0:Int)) then
   (some (Sum.inl (((), (n_3, (Bool.true, ()))), ((o0_0, (o0_1, (o0_2, (o0_3, (o0_4, (o0_5, (o0_6, (o0_7, ())))))))), ()))))
  else
   (Option.bind (g_profile_Length ((o0_3, ()), ())) (fun y2 =>
   (bif (!y2.1.1) then
    (some (Sum.inl (((), (n_3, (Bool.true, ()))), ((o0_0, (o0_1, (o0_2, (o0_3, (o0_4, (o0_5, (o0_6, (o0_7, ())))))))), ()))))
   else
    (Option.bind (g_profile_Zone ((o0_4, ()), ())) (fun y4 =>
    (bif (!y4.1.1) then
     (some (Sum.inl (((), (n_3, (Bool.true, ()))), ((o0_0, (o0_1, (o0_2, (o0_3, (o0_4, (o0_5, (o0_6, (o0_7, ())))))))), ()))))
    else
     (bif ((((List.length o0_6) : Nat) : Int) != n_3) then
      (some (Sum.inl (((), (n_3, (Bool.true, ()))), ((o0_0, (o0_1, (o0_2, (o0_3, (o0_4, (o0_5, (o0_6, (o0_7, ())))))))), ()))))
     else
      (bif ((((List.length o0_7) : Nat) : Int) != n_3) then
       (some (Sum.inl (((), (n_3, (Bool.true, ()))), ((o0_0, (o0_1, (o0_2, (o0_3, (o0_4, (o0_5, (o0_6, (o0_7, ())))))))), ()))))
      else
       (some (Sum.inl (((), (n_3, ((decide (n_3 > (2000:Int))), ()))), ((o0_0, (o0_1, (o0_2, (o0_3, (o0_4, (o0_5, (o0_6, (o0_7, ())))))))), ())))))))))))))))
theorem profile_Valid.eq0 (g_measure_Check : measure_Check.sh.X → Option measure_Check.osh.X) (g_profile_Length : profile_Length.sh.X → Option profile_Length.osh.X) (g_profile_Zone : profile_Zone.sh.X → Option profile_Zone.osh.X) (g_profile_Best : profile_Best.sh.X → Option profile_Best.osh.X) (g_profile_neighbour : profile_neighbour.sh.X → Option profile_neighbour.osh.X) (l0 : profile_Valid.s0.X → Option (sumX profile_Valid.x0)) (l1 : profile_Valid.s1.X → Option (sumX profile_Valid.x1)) (l2 : profile_Valid.s2.X → Option (sumX profile_Valid.x2)) (L : ((Unit × Int × Unit) × ((Int × Int × Int × Int × Int × (List (Int × (Int × Int))) × (List (Int × (Int × Int))) × (List (Int × (Int × Int))) × Unit) × Unit)) → Option (((Unit × Int × Bool × Unit) × ((Int × Int × Int × Int × Int × (List (Int × (Int × Int))) × (List (Int × (Int × Int))) × (List (Int × (Int × Int))) × Unit) × Unit)) ⊕ Empty)) (x : ((Unit × Int × Unit) × ((Int × Int × Int × Int × Int × (List (Int × (Int × Int))) × (List (Int × (Int × Int))) × (List (Int × (Int × Int))) × Unit) × Unit))) : (roundK (profile_Valid.E g_measure_Check g_profile_Length g_profile_Zone g_profile_Best g_profile_neighbour l0 l1 l2) profile_Valid.s0 [1, 3] [(0, [1, 3, 42])] false (((mk profile_Valid.hs profile_Valid.c []).atoms.getD 0 .bad).body) profile_Valid.x0 L x).run _ some = profile_Valid.f0 g_measure_Check g_profile_Length g_profile_Zone x.1.2.1 x.2.1.1 x.2.1.2.1 x.2.1.2.2.1 x.2.1.2.2.2.1 x.2.1.2.2.2.2.1 x.2.1.2.2.2.2.2.1 x.2.1.2.2.2.2.2.2.1 x.2.1.2.2.2.2.2.2.2.1 := by
  show _ = (_ : Option _)
  kernel_rfl
noncomputable def profile_Valid.L0 : ((Unit × Int × Unit) × ((Int × Int × Int × Int × Int × (List (Int × (Int × Int))) × (List (Int × (Int × Int))) × (List (Int × (Int × Int))) × Unit) × Unit)) → Option (((Unit × Int × Bool × Unit) × ((Int × Int × Int × Int × Int × (List (Int × (Int × Int))) × (List (Int × (Int × Int))) × (List (Int × (Int × Int))) × Unit) × Unit)) ⊕ Empty) := fun x => profile_Valid.f0 measure_Check.F profile_Length.F profile_Zone.F x.1.2.1 x.2.1.1 x.2.1.2.1 x.2.1.2.2.1 x.2.1.2.2.2.1 x.2.1.2.2.2.2.1 x.2.1.2.2.2.2.2.1 x.2.1.2.2.2.2.2.2.1 x.2.1.2.2.2.2.2.2.2.1
def profile_Valid.f2 (g_profile_neighbour : (((Int × Int × Int × Unit) × Int × Int × Int × Bool × Unit) × (Unit)) → Option ((Bool × Unit) × (Unit))) (n_3 : Int) (i_4 : Int) (v43 : Int) (v44 : Int) (o0_0 : Int) (o0_1 : Int) (o0_2 : Int) (o0_3 : Int) (o0_4 : Int) (o0_5 : (List (Int × (Int × Int)))) (o0_6 : (List (Int × (Int × Int)))) (o0_7 : (List (Int × (Int × Int)))) (o1_0 : Int) (o1_1 : Int) (o1_2 : Int) : Option (((Unit × Int × Int × Int × Bool × Unit) × ((Int × Int × Int × Int × Int × (List (Int × (Int × Int))) × (List (Int × (Int × Int))) × (List (Int × (Int × Int))) × Unit) × Unit)) ⊕ Empty) :=
  (bif (decide ((0:Int) ≤ i_4)) then
   (bif (decide (i_4 < (((List.length o0_6) : Nat) : Int))) then
    (Option.bind (g_profile_neighbour ((((List.getD o0_6 (Int.toNat i_4) ((0:Int), ((0:Int), (0:Int)))).1, ((List.getD o0_6 (Int.toNat i_4) ((0:Int), ((0:Int), (0:Int)))).2.1, ((List.getD o0_6 (Int.toNat i_4) ((0:Int), ((0:Int), (0:Int)))).2.2, ()))), (i_4, (n_3, (o0_4, (Bool.false, ()))))), ())) (fun y2 =>
    (bif (!y2.1.1) then
     (some (Sum.inl (((), (n_3, (v43, (v44, (Bool.true, ()))))), ((o0_0, (o0_1, (o0_2, (o0_3, (o0_4, (o0_5, (o0_6, (o0_7, ())))))))), ()))))
    else
     (bif (decide ((0:Int) ≤ i_4)) then
      (bif (decide (i_4 < (((List.length o0_7) : Nat) : Int))) then
       (Option.bind (g_profile_neighbour ((((List.getD o0_7 (Int.toNat i_4) ((0:Int), ((0:Int), (0:Int)))).1, ((List.getD o0_7 (Int.toNat i_4) ((0:Int), ((0:Int), (0:Int)))).2.1, ((List.getD o0_7 (Int.toNat i_4) ((0:Int), ((0:Int), (0:Int)))).2.2, ()))), (i_4, (n_3, (o0_4, (Bool.true, ()))))), ())) (fun y6 =>
       (bif (!y6.1.1) then
        (some (Sum.inl (((), (n_3, (v43, (v44, (Bool.true, ()))))), ((o0_0, (o0_1, (o0_2, (o0_3, (o0_4, (o0_5, (o0_6, (o0_7, ())))))))), ()))))
       else
        (bif (decide ((0:Int) ≤ i_4)) then
         (bif (decide (i_4 < (((List.length o0_5) : Nat) : Int))) then
          (some (Sum.inl (((), (n_3, (v43, (v44, ((!(((List.getD o0_5 (Int.toNat i_4) ((0:Int), ((0:Int), (0:Int)))).1 == o1_0) && ((((List.getD o0_5 (Int.toNat i_4) ((0:Int), ((0:Int), (0:Int)))).2.1 == o1_1) && (((List.getD o0_5 (Int.toNat i_4) ((0:Int), ((0:Int), (0:Int)))).2.2 == o1_2) && Bool.true)) && Bool.true))), ()))))), ((o0_0, (o0_1, (o0_2, (o0_3, (o0_4, (o0_5, (o0_6, (o0_7, ())))))))), ()))))
         else
          none)
        else
         none))))
      else
       none)
     else
      none))))
   else
    none)
  else
   none)
theorem profile_Valid.eq2 (g_measure_Check : measure_Check.sh.X → Option measure_Check.osh.X) (g_profile_Length : profile_Length.sh.X → Option profile_Length.osh.X) (g_profile_Zone : profile_Zone.sh.X → Option profile_Zone.osh.X) (g_profile_Best : profile_Best.sh.X → Option profile_Best.osh.X) (g_profile_neighbour : profile_neighbour.sh.X → Option profile_neighbour.osh.X) (l0 : profile_Valid.s0.X → Option (sumX profile_Valid.x0)) (l1 : profile_Valid.s1.X → Option (sumX profile_Valid.x1)) (l2 : profile_Valid.s2.X → Option (sumX profile_Valid.x2)) (L : ((Unit × Int × Int × Unit × Int × Int × Unit) × ((Int × Int × Int × Int × Int × (List (Int × (Int × Int))) × (List (Int × (Int × Int))) × (List (Int × (Int × Int))) × Unit) × (Int × Int × Int × Unit) × Unit)) → Option (((Unit × Int × Int × Int × Bool × Unit) × ((Int × Int × Int × Int × Int × (List (Int × (Int × Int))) × (List (Int × (Int × Int))) × (List (Int × (Int × Int))) × Unit) × Unit)) ⊕ Empty)) (x : ((Unit × Int × Int × Unit × Int × Int × Unit) × ((Int × Int × Int × Int × Int × (List (Int × (Int × Int))) × (List (Int × (Int × Int))) × (List (Int × (Int × Int))) × Unit) × (Int × Int × Int × Unit) × Unit))) : (roundK (profile_Valid.E g_measure_Check g_profile_Length g_profile_Zone g_profile_Best g_profile_neighbour l0 l1 l2) profile_Valid.s2 [1, 3, 4, 5, 43, 44] [(0, [1, 3, 43, 44, 90])] false (((mk profile_Valid.hs profile_Valid.c []).atoms.getD 2 .bad).body) profile_Valid.x2 L x).run _ some = profile_Valid.f2 g_profile_neighbour x.1.2.1 x.1.2.2.1 x.1.2.2.2.2.1 x.1.2.2.2.2.2.1 x.2.1.1 x.2.1.2.1 x.2.1.2.2.1 x.2.1.2.2.2.1 x.2.1.2.2.2.2.1 x.2.1.2.2.2.2.2.1 x.2.1.2.2.2.2.2.2.1 x.2.1.2.2.2.2.2.2.2.1 x.2.2.1.1 x.2.2.1.2.1 x.2.2.1.2.2.1 := by
  show _ = (_ : Option _)
  kernel_rfl
noncomputable def profile_Valid.L2 : ((Unit × Int × Int × Unit × Int × Int × Unit) × ((Int × Int × Int × Int × Int × (List (Int × (Int × Int))) × (List (Int × (Int × Int))) × (List (Int × (Int × Int))) × Unit) × (Int × Int × Int × Unit) × Unit)) → Option (((Unit × Int × Int × Int × Bool × Unit) × ((Int × Int × Int × Int × Int × (List (Int × (Int × Int))) × (List (Int × (Int × Int))) × (List (Int × (Int × Int))) × Unit) × Unit)) ⊕ Empty) := fun x => profile_Valid.f2 profile_neighbour.F x.1.2.1 x.1.2.2.1 x.1.2.2.2.2.1 x.1.2.2.2.2.2.1 x.2.1.1 x.2.1.2.1 x.2.1.2.2.1 x.2.1.2.2.2.1 x.2.1.2.2.2.2.1 x.2.1.2.2.2.2.2.1 x.2.1.2.2.2.2.2.2.1 x.2.1.2.2.2.2.2.2.2.1 x.2.2.1.1 x.2.2.1.2.1 x.2.2.1.2.2.1
def profile_Valid.f1 (g_profile_Best : ((Unit × (Int × Int × Int × Unit) × Unit) × ((Int × Int × Int × Unit) × Unit)) → Option ((Unit) × ((Int × Int × Int × Unit) × Unit))) (l2 : ((Unit × Int × Int × Unit × Int × Int × Unit) × ((Int × Int × Int × Int × Int × (List (Int × (Int × Int))) × (List (Int × (Int × Int))) × (List (Int × (Int × Int))) × Unit) × (Int × Int × Int × Unit) × Unit)) → Option (((Unit × Int × Int × Int × Bool × Unit) × ((Int × Int × Int × Int × Int × (List (Int × (Int × Int))) × (List (Int × (Int × Int))) × (List (Int × (Int × Int))) × Unit) × Unit)) ⊕ Empty)) (L : ((Unit × Int × Int × Int × Unit) × ((Int × Int × Int × Int × Int × (List (Int × (Int × Int))) × (List (Int × (Int × Int))) × (List (Int × (Int × Int))) × Unit) × Unit)) → Option (((Unit) × (Unit)) ⊕ ((Bool × Unit) × (Unit)) ⊕ Empty)) (n_3 : Int) (v43 : Int) (v44 : Int) (o0_0 : Int) (o0_1 : Int) (o0_2 : Int) (o0_3 : Int) (o0_4 : Int) (o0_5 : (List (Int × (Int × Int)))) (o0_6 : (List (Int × (Int × Int)))) (o0_7 : (List (Int × (Int × Int)))) : Option (((Unit) × (Unit)) ⊕ ((Bool × Unit) × (Unit)) ⊕ Empty) :=
  (bif (decide (v44 < v43)) then
   (bif (decide ((0:Int) ≤ v44)) then
    (bif (decide (v44 < (((List.length o0_6) : Nat) : Int))) then
     (bif (decide ((0:Int) ≤ v44)) then
      (bif (decide (v44 < (((List.length o0_7) : Nat) : Int))) then
       (Option.bind (g_profile_Best (((), (((List.getD o0_7 (Int.toNat v44) ((0:Int), ((0:Int), (0:Int)))).1, ((List.getD o0_7 (Int.toNat v44) ((0:Int), ((0:Int), (0:Int)))).2.1, ((List.getD o0_7 (Int.toNat v44) ((0:Int), ((0:Int), (0:Int)))).2.2, ()))), ())), (((List.getD o0_6 (Int.toNat v44) ((0:Int), ((0:Int), (0:Int)))).1, ((List.getD o0_6 (Int.toNat v44) ((0:Int), ((0:Int), (0:Int)))).2.1, ((List.getD o0_6 (Int.toNat v44) ((0:Int), ((0:Int), (0:Int)))).2.2, ()))), ()))) (fun y5 =>
       (Option.bind (l2 (((), (n_3, (v44, ((), (v43, (v44, ())))))), ((o0_0, (o0_1, (o0_2, (o0_3, (o0_4, (o0_5, (o0_6, (o0_7, ())))))))), ((y5.2.1.1, (y5.2.1.2.1, (y5.2.1.2.2.1, ()))), ())))) (fun y6 =>
       (Sum.elim (fun a7 =>
        (bif a7.1.2.2.2.2.1 then
         (some (Sum.inr (Sum.inl ((Bool.false, ()), ()))))
        else
         (Option.bind (L (((), (a7.1.2.1, (a7.1.2.2.1, ((Go.IntKind.wrap Go.IntKind.i64 (a7.1.2.2.2.1 + (1:Int))), ())))), ((a7.2.1.1, (a7.2.1.2.1, (a7.2.1.2.2.1, (a7.2.1.2.2.2.1, (a7.2.1.2.2.2.2.1, (a7.2.1.2.2.2.2.2.1, (a7.2.1.2.2.2.2.2.2.1, (a7.2.1.2.2.2.2.2.2.2.1, ())))))))), ()))) (fun y9 =>
         (some y9))))) (fun b7 =>
        (Empty.elim b7)) y6)))))
      else
       none)
     else
      none)
    else
     none)
   else
    none)
  else
   (some (Sum.inl ((), ()))))
theorem profile_Valid.eq1 (g_measure_Check : measure_Check.sh.X → Option measure_Check.osh.X) (g_profile_Length : profile_Length.sh.X → Option profile_Length.osh.X) (g_profile_Zone : profile_Zone.sh.X → Option profile_Zone.osh.X) (g_profile_Best : profile_Best.sh.X → Option profile_Best.osh.X) (g_profile_neighbour : profile_neighbour.sh.X → Option profile_neighbour.osh.X) (l0 : profile_Valid.s0.X → Option (sumX profile_Valid.x0)) (l1 : profile_Valid.s1.X → Option (sumX profile_Valid.x1)) (l2 : profile_Valid.s2.X → Option (sumX profile_Valid.x2)) (L : ((Unit × Int × Int × Int × Unit) × ((Int × Int × Int × Int × Int × (List (Int × (Int × Int))) × (List (Int × (Int × Int))) × (List (Int × (Int × Int))) × Unit) × Unit)) → Option (((Unit) × (Unit)) ⊕ ((Bool × Unit) × (Unit)) ⊕ Empty)) (x : ((Unit × Int × Int × Int × Unit) × ((Int × Int × Int × Int × Int × (List (Int × (Int × Int))) × (List (Int × (Int × Int))) × (List (Int × (Int × Int))) × Unit) × Unit))) : (roundK (profile_Valid.E g_measure_Check g_profile_Length g_profile_Zone g_profile_Best g_profile_neighbour l0 l1 l2) profile_Valid.s1 [1, 3, 43, 44] [(2, []), (1, [2])] true (((mk profile_Valid.hs profile_Valid.c []).atoms.getD 1 .bad).body) profile_Valid.x1 L x).run _ some = profile_Valid.f1 g_profile_Best l2 L x.1.2.1 x.1.2.2.1 x.1.2.2.2.1 x.2.1.1 x.2.1.2.1 x.2.1.2.2.1 x.2.1.2.2.2.1 x.2.1.2.2.2.2.1 x.2.1.2.2.2.2.2.1 x.2.1.2.2.2.2.2.2.1 x.2.1.2.2.2.2.2.2.2.1 := by
  show _ = (_ : Option _)
  kernel_rfl
noncomputable def profile_Valid.L1 : ((Unit × Int × Int × Int × Unit) × ((Int × Int × Int × Int × Int × (List (Int × (Int × Int))) × (List (Int × (Int × Int))) × (List (Int × (Int × Int))) × Unit) × Unit)) → Option (((Unit) × (Unit)) ⊕ ((Bool × Unit) × (Unit)) ⊕ Empty) := loop fun L x => profile_Valid.f1 profile_Best.F profile_Valid.L2 L x.1.2.1 x.1.2.2.1 x.1.2.2.2.1 x.2.1.1 x.2.1.2.1 x.2.1.2.2.1 x.2.1.2.2.2.1 x.2.1.2.2.2.2.1 x.2.1.2.2.2.2.2.1 x.2.1.2.2.2.2.2.2.1 x.2.1.2.2.2.2.2.2.2.1
def profile_Valid.f (l0 : ((Unit × Int × Unit) × ((Int × Int × Int × Int × Int × (List (Int × (Int × Int))) × (List (Int × (Int × Int))) × (List (Int × (Int × Int))) × Unit) × Unit)) → Option (((Unit × Int × Bool × Unit) × ((Int × Int × Int × Int × Int × (List (Int × (Int × Int))) × (List (Int × (Int × Int))) × (List (Int × (Int × Int))) × Unit) × Unit)) ⊕ Empty)) (l1 : ((Unit × Int × Int × Int × Unit) × ((Int × Int × Int × Int × Int × (List (Int × (Int × Int))) × (List (Int × (Int × Int))) × (List (Int × (Int × Int))) × Unit) × Unit)) → Option (((Unit) × (Unit)) ⊕ ((Bool × Unit) × (Unit)) ⊕ Empty)) (p_Measure_Kind : Int) (p_Measure_Band : Int) (p_Measure_Gap : Int) (p_Length : Int) (p_Zone : Int) (p_All : (List (Int × (Int × Int)))) (p_Left : (List (Int × (Int × Int)))) (p_Right : (List (Int × (Int × Int)))) : Option ((Bool × Unit) × (Unit)) :=
  (Option.bind (l0 (((), ((((List.length p_All) : Nat) : Int), ())), ((p_Measure_Kind, (p_Measure_Band, (p_Measure_Gap, (p_Length, (p_Zone, (p_All, (p_Left, (p_Right, ())))))))), ()))) (fun y0 =>
  (Sum.elim (fun a1 =>
   (bif a1.1.2.2.1 then
    (some ((Bool.false, ()), ()))
   else
    (Option.bind (l1 (((), (a1.1.2.1, (a1.1.2.1, ((0:Int), ())))), ((a1.2.1.1, (a1.2.1.2.1, (a1.2.1.2.2.1, (a1.2.1.2.2.2.1, (a1.2.1.2.2.2.2.1, (a1.2.1.2.2.2.2.2.1, (a1.2.1.2.2.2.2.2.2.1, (a1.2.1.2.2.2.2.2.2.2.1, ())))))))), ()))) (fun y3 =>
    (Sum.elim (fun a4 =>
     (some ((Bool.true, ()), ()))) (fun b4 =>
     (Sum.elim (fun a5 =>
      (some ((a5.1.1, ()), ()))) (fun b5 =>
      (Empty.elim b5)) b4)) y3))))) (fun b1 =>
   (Empty.elim b1)) y0)))
theorem profile_Valid.eq (g_measure_Check : measure_Check.sh.X → Option measure_Check.osh.X) (g_profile_Length : profile_Length.sh.X → Option profile_Length.osh.X) (g_profile_Zone : profile_Zone.sh.X → Option profile_Zone.osh.X) (g_profile_Best : profile_Best.sh.X → Option profile_Best.osh.X) (g_profile_neighbour : profile_neighbour.sh.X → Option profile_neighbour.osh.X) (l0 : profile_Valid.s0.X → Option (sumX profile_Valid.x0)) (l1 : profile_Valid.s1.X → Option (sumX profile_Valid.x1)) (l2 : profile_Valid.s2.X → Option (sumX profile_Valid.x2)) (x : (((Int × Int × Int × Int × Int × (List (Int × (Int × Int))) × (List (Int × (Int × Int))) × (List (Int × (Int × Int))) × Unit) × Unit) × (Unit))) : (bodyO (profile_Valid.E g_measure_Check g_profile_Length g_profile_Zone g_profile_Best g_profile_neighbour l0 l1 l2) (mk profile_Valid.hs profile_Valid.c []) Go.Proofs.Try.f13.results.toList profile_Valid.sh profile_Valid.osh x).run _ some = profile_Valid.f l0 l1 x.1.1.1 x.1.1.2.1 x.1.1.2.2.1 x.1.1.2.2.2.1 x.1.1.2.2.2.2.1 x.1.1.2.2.2.2.2.1 x.1.1.2.2.2.2.2.2.1 x.1.1.2.2.2.2.2.2.2.1 := by
  show _ = (_ : Option _)
  kernel_rfl
noncomputable def profile_Valid (p_Measure_Kind : Int) (p_Measure_Band : Int) (p_Measure_Gap : Int) (p_Length : Int) (p_Zone : Int) (p_All : (List (Int × (Int × Int)))) (p_Left : (List (Int × (Int × Int)))) (p_Right : (List (Int × (Int × Int)))) : Option ((Bool × Unit) × (Unit)) := profile_Valid.f profile_Valid.L0 profile_Valid.L1 p_Measure_Kind p_Measure_Band p_Measure_Gap p_Length p_Zone p_All p_Left p_Right
noncomputable def profile_Valid.F (x : (((Int × Int × Int × Int × Int × (List (Int × (Int × Int))) × (List (Int × (Int × Int))) × (List (Int × (Int × Int))) × Unit) × Unit) × (Unit))) : Option ((Bool × Unit) × (Unit)) := profile_Valid x.1.1.1 x.1.1.2.1 x.1.1.2.2.1 x.1.1.2.2.2.1 x.1.1.2.2.2.2.1 x.1.1.2.2.2.2.2.1 x.1.1.2.2.2.2.2.2.1 x.1.1.2.2.2.2.2.2.2.1
theorem profile_Valid.L0_eq (n_3 : Int) (o0_0 : Int) (o0_1 : Int) (o0_2 : Int) (o0_3 : Int) (o0_4 : Int) (o0_5 : (List (Int × (Int × Int)))) (o0_6 : (List (Int × (Int × Int)))) (o0_7 : (List (Int × (Int × Int)))) : profile_Valid.L0 (((), n_3, ()), ((o0_0, o0_1, o0_2, o0_3, o0_4, o0_5, o0_6, o0_7, ()), ())) = profile_Valid.f0 measure_Check.F profile_Length.F profile_Zone.F n_3 o0_0 o0_1 o0_2 o0_3 o0_4 o0_5 o0_6 o0_7 := rfl
theorem profile_Valid.L1_eq (n_3 : Int) (v43 : Int) (v44 : Int) (o0_0 : Int) (o0_1 : Int) (o0_2 : Int) (o0_3 : Int) (o0_4 : Int) (o0_5 : (List (Int × (Int × Int)))) (o0_6 : (List (Int × (Int × Int)))) (o0_7 : (List (Int × (Int × Int)))) : profile_Valid.L1 (((), n_3, v43, v44, ()), ((o0_0, o0_1, o0_2, o0_3, o0_4, o0_5, o0_6, o0_7, ()), ())) = profile_Valid.f1 profile_Best.F profile_Valid.L2 profile_Valid.L1 n_3 v43 v44 o0_0 o0_1 o0_2 o0_3 o0_4 o0_5 o0_6 o0_7 :=
  loop_eq (E := (profile_Valid.E measure_Check.F profile_Length.F profile_Zone.F profile_Best.F profile_neighbour.F profile_Valid.L0 profile_Valid.L1 profile_Valid.L2)) (sh := profile_Valid.s1) (es := profile_Valid.x1) (lp := true) (H := fun L x => profile_Valid.eq1 measure_Check.F profile_Length.F profile_Zone.F profile_Best.F profile_neighbour.F profile_Valid.L0 profile_Valid.L1 profile_Valid.L2 L x) (((), n_3, v43, v44, ()), ((o0_0, o0_1, o0_2, o0_3, o0_4, o0_5, o0_6, o0_7, ()), ()))
theorem profile_Valid.L2_eq (n_3 : Int) (i_4 : Int) (v43 : Int) (v44 : Int) (o0_0 : Int) (o0_1 : Int) (o0_2 : Int) (o0_3 : Int) (o0_4 : Int) (o0_5 : (List (Int × (Int × Int)))) (o0_6 : (List (Int × (Int × Int)))) (o0_7 : (List (Int × (Int × Int)))) (o1_0 : Int) (o1_1 : Int) (o1_2 : Int) : profile_Valid.L2 (((), n_3, i_4, (), v43, v44, ()), ((o0_0, o0_1, o0_2, o0_3, o0_4, o0_5, o0_6, o0_7, ()), (o1_0, o1_1, o1_2, ()), ())) = profile_Valid.f2 profile_neighbour.F n_3 i_4 v43 v44 o0_0 o0_1 o0_2 o0_3 o0_4 o0_5 o0_6 o0_7 o1_0 o1_1 o1_2 := rfl
theorem profile_Valid.F_eq (p_Measure_Kind : Int) (p_Measure_Band : Int) (p_Measure_Gap : Int) (p_Length : Int) (p_Zone : Int) (p_All : (List (Int × (Int × Int)))) (p_Left : (List (Int × (Int × Int)))) (p_Right : (List (Int × (Int × Int)))) : profile_Valid.F (((p_Measure_Kind, p_Measure_Band, p_Measure_Gap, p_Length, p_Zone, p_All, p_Left, p_Right, ()), ()), ()) = profile_Valid.f profile_Valid.L0 profile_Valid.L1 p_Measure_Kind p_Measure_Band p_Measure_Gap p_Length p_Zone p_All p_Left p_Right := rfl
theorem profile_Valid.ok {tabs : List (Nat × Go.Obj)} (ht : TabsOk tabs) : FOK Go.Proofs.Try.prog tabs 13 (FE.of [true] false profile_Valid.sh profile_Valid.osh profile_Valid.F) := by
  refine fn_keeps (E := (profile_Valid.E measure_Check.F profile_Length.F profile_Zone.F profile_Best.F profile_neighbour.F profile_Valid.L0 profile_Valid.L1 profile_Valid.L2)) (c := profile_Valid.c) (fn := Go.Proofs.Try.f13) (hs := profile_Valid.hs) (by kernel_rfl) Go.Proofs.Try.func13 ⟨by kernel_rfl, by kernel_rfl, tb, by kernel_rfl, by kernel_rfl, by kernel_rfl, by kernel_rfl, by kernel_rfl⟩ ⟨fun g ks fe h => ?_, gt_ok ht⟩ ?_ (fun x => profile_Valid.eq measure_Check.F profile_Length.F profile_Zone.F profile_Best.F profile_neighbour.F profile_Valid.L0 profile_Valid.L1 profile_Valid.L2 x)
  · rcases c_cons h with ⟨rfl, rfl⟩ | h
    · exact measure_Check.ok ht
    rcases c_cons h with ⟨rfl, rfl⟩ | h
    · exact profile_Length.ok ht
    rcases c_cons h with ⟨rfl, rfl⟩ | h
    · exact profile_Zone.ok ht
    rcases c_cons h with ⟨rfl, rfl⟩ | h
    · exact profile_Best.ok ht
    rcases c_cons h with ⟨rfl, rfl⟩ | h
    · exact profile_neighbour.ok ht
    cases h
  · refine known_at 3 (by kernel_rfl) fun i hi => ?_
    match i, hi with
    | 0, _ => exact atom_at (id := 0) (live := [1, 3]) (outs := [(0, [1, 3, 42])]) (loop := false) (by kernel_rfl) (cut_ok (E := (profile_Valid.E measure_Check.F profile_Length.F profile_Zone.F profile_Best.F profile_neighbour.F profile_Valid.L0 profile_Valid.L1 profile_Valid.L2)) (sh := profile_Valid.s0) (es := profile_Valid.x0) rfl (fun L x => profile_Valid.eq0 measure_Check.F profile_Length.F profile_Zone.F profile_Best.F profile_neighbour.F profile_Valid.L0 profile_Valid.L1 profile_Valid.L2 L x))
    | 1, _ => exact atom_at (id := 1) (live := [1, 3, 43, 44]) (outs := [(2, []), (1, [2])]) (loop := true) (by kernel_rfl) (loop_ok (E := (profile_Valid.E measure_Check.F profile_Length.F profile_Zone.F profile_Best.F profile_neighbour.F profile_Valid.L0 profile_Valid.L1 profile_Valid.L2)) (sh := profile_Valid.s1) (es := profile_Valid.x1) rfl (fun L x => profile_Valid.eq1 measure_Check.F profile_Length.F profile_Zone.F profile_Best.F profile_neighbour.F profile_Valid.L0 profile_Valid.L1 profile_Valid.L2 L x))
    | 2, _ => exact atom_at (id := 2) (live := [1, 3, 4, 5, 43, 44]) (outs := [(0, [1, 3, 43, 44, 90])]) (loop := false) (by kernel_rfl) (cut_ok (E := (profile_Valid.E measure_Check.F profile_Length.F profile_Zone.F profile_Best.F profile_neighbour.F profile_Valid.L0 profile_Valid.L1 profile_Valid.L2)) (sh := profile_Valid.s2) (es := profile_Valid.x2) rfl (fun L x => profile_Valid.eq2 measure_Check.F profile_Length.F profile_Zone.F profile_Best.F profile_neighbour.F profile_Valid.L0 profile_Valid.L1 profile_Valid.L2 L x))
    | n + 3, h => exact absurd h (by omega)

/-! law37_awake -/
def law37_awake.f0 (g_profile_Valid : (((Int × Int × Int × Int × Int × (List (Int × (Int × Int))) × (List (Int × (Int × Int))) × (List (Int × (Int × Int))) × Unit) × Unit) × (Unit)) → Option ((Bool × Unit) × (Unit))) (e_2 : Int) (o0_0 : Int) (o0_1 : Int) (o0_2 : Int) (o0_3 : Int) (o0_4 : Int) (o1 : List (Int × (Int × Int))) (o2 : List (Int × (Int × Int))) (o3 : List (Int × (Int × Int))) : Option (((Bool × Unit) × (Unit)) ⊕ Empty) :=
  (bif (e_2 == (0:Int)) then
   (bif ((((List.length o1) : Nat) : Int) == (4:Int)) then
    (bif (decide ((0:Int) < (((List.length o1) : Nat) : Int))) then
     (bif (((List.getD o1 (Int.toNat (0:Int)) ((0:Int), ((0:Int), (0:Int)))).1 == (2:Int)) && ((((List.getD o1 (Int.toNat (0:Int)) ((0:Int), ((0:Int), (0:Int)))).2.1 == (0:Int)) && (((List.getD o1 (Int.toNat (0:Int)) ((0:Int), ((0:Int), (0:Int)))).2.2 == (1:Int)) && Bool.true)) && Bool.true)) then
      (bif (decide ((0:Int) < (((List.length o2) : Nat) : Int))) then
       (bif ((List.getD o2 (Int.toNat (0:Int)) ((0:Int), ((0:Int), (0:Int)))).1 == (-(1:Int))) then
        (Option.bind (g_profile_Valid (((o0_0, (o0_1, (o0_2, (o0_3, (o0_4, (o1, (o2, (o3, ())))))))), ()), ())) (fun y6 =>
        (some (Sum.inl ((y6.1.1, ()), ())))))
       else
        (some (Sum.inl ((Bool.false, ()), ()))))
      else
       none)
     else
      (some (Sum.inl ((Bool.false, ()), ()))))
    else
     none)
   else
    (some (Sum.inl ((Bool.false, ()), ()))))
  else
   (some (Sum.inl ((Bool.false, ()), ()))))
theorem law37_awake.eq0 (g_profile_Of : profile_Of.sh.X → Option profile_Of.osh.X) (g_profile_Valid : profile_Valid.sh.X → Option profile_Valid.osh.X) (l0 : law37_awake.s0.X → Option (sumX law37_awake.x0)) (L : ((Unit × Int × Unit) × ((Int × Int × Int × Int × Int × Unit × Unit × Unit × Unit) × (List (Int × (Int × Int))) × (List (Int × (Int × Int))) × (List (Int × (Int × Int))) × Unit)) → Option (((Bool × Unit) × (Unit)) ⊕ Empty)) (x : ((Unit × Int × Unit) × ((Int × Int × Int × Int × Int × Unit × Unit × Unit × Unit) × (List (Int × (Int × Int))) × (List (Int × (Int × Int))) × (List (Int × (Int × Int))) × Unit))) : (roundK (law37_awake.E g_profile_Of g_profile_Valid l0) law37_awake.s0 [1, 2] [(0, [0])] false (((mk law37_awake.hs law37_awake.c []).atoms.getD 0 .bad).body) law37_awake.x0 L x).run _ some = law37_awake.f0 g_profile_Valid x.1.2.1 x.2.1.1 x.2.1.2.1 x.2.1.2.2.1 x.2.1.2.2.2.1 x.2.1.2.2.2.2.1 x.2.2.1 x.2.2.2.1 x.2.2.2.2.1 := by
  show _ = (_ : Option _)
  kernel_rfl
noncomputable def law37_awake.L0 : ((Unit × Int × Unit) × ((Int × Int × Int × Int × Int × Unit × Unit × Unit × Unit) × (List (Int × (Int × Int))) × (List (Int × (Int × Int))) × (List (Int × (Int × Int))) × Unit)) → Option (((Bool × Unit) × (Unit)) ⊕ Empty) := fun x => law37_awake.f0 profile_Valid.F x.1.2.1 x.2.1.1 x.2.1.2.1 x.2.1.2.2.1 x.2.1.2.2.2.1 x.2.1.2.2.2.2.1 x.2.2.1 x.2.2.2.1 x.2.2.2.2.1
def law37_awake.f (g_profile_Of : (((List Int) × (Int × Int × Int × Unit) × Int × Int × Unit) × (Unit)) → Option (((Int × Int × Int × Int × Int × Unit × Unit × Unit × Unit) × Int × Unit) × ((List (Int × (Int × Int))) × (List (Int × (Int × Int))) × (List (Int × (Int × Int))) × Unit))) (l0 : ((Unit × Int × Unit) × ((Int × Int × Int × Int × Int × Unit × Unit × Unit × Unit) × (List (Int × (Int × Int))) × (List (Int × (Int × Int))) × (List (Int × (Int × Int))) × Unit)) → Option (((Bool × Unit) × (Unit)) ⊕ Empty)) : Option ((Bool × Unit) × (Unit)) :=
  (Option.bind (g_profile_Of (([(0:Int), (1:Int), (0:Int), (1:Int), (5:Int)], (((1:Int), ((0:Int), ((0:Int), ()))), ((2:Int), ((2:Int), ())))), ())) (fun y0 =>
  (Option.bind (l0 (((), (y0.1.2.1, ())), ((y0.1.1.1, (y0.1.1.2.1, (y0.1.1.2.2.1, (y0.1.1.2.2.2.1, (y0.1.1.2.2.2.2.1, ((), ((), ((), ())))))))), (y0.2.1, (y0.2.2.1, (y0.2.2.2.1, ())))))) (fun y1 =>
  (Sum.elim (fun a2 =>
   (some ((a2.1.1, ()), ()))) (fun b2 =>
   (Empty.elim b2)) y1)))))
theorem law37_awake.eq (g_profile_Of : profile_Of.sh.X → Option profile_Of.osh.X) (g_profile_Valid : profile_Valid.sh.X → Option profile_Valid.osh.X) (l0 : law37_awake.s0.X → Option (sumX law37_awake.x0)) (x : ((Unit) × (Unit))) : (bodyO (law37_awake.E g_profile_Of g_profile_Valid l0) (mk law37_awake.hs law37_awake.c []) Go.Proofs.Try.f9.results.toList law37_awake.sh law37_awake.osh x).run _ some = law37_awake.f g_profile_Of l0 := by
  show _ = (_ : Option _)
  kernel_rfl
noncomputable def law37_awake : Option ((Bool × Unit) × (Unit)) := law37_awake.f profile_Of.F law37_awake.L0
noncomputable def law37_awake.F (x : ((Unit) × (Unit))) : Option ((Bool × Unit) × (Unit)) := law37_awake
theorem law37_awake.L0_eq (e_2 : Int) (o0_0 : Int) (o0_1 : Int) (o0_2 : Int) (o0_3 : Int) (o0_4 : Int) (o1 : List (Int × (Int × Int))) (o2 : List (Int × (Int × Int))) (o3 : List (Int × (Int × Int))) : law37_awake.L0 (((), e_2, ()), ((o0_0, o0_1, o0_2, o0_3, o0_4, (), (), (), ()), o1, o2, o3, ())) = law37_awake.f0 profile_Valid.F e_2 o0_0 o0_1 o0_2 o0_3 o0_4 o1 o2 o3 := rfl
theorem law37_awake.F_eq : law37_awake.F ((), ()) = law37_awake.f profile_Of.F law37_awake.L0 := rfl
theorem law37_awake.ok {tabs : List (Nat × Go.Obj)} (ht : TabsOk tabs) : FOK Go.Proofs.Try.prog tabs 9 (FE.of [] false law37_awake.sh law37_awake.osh law37_awake.F) := by
  refine fn_keeps (E := (law37_awake.E profile_Of.F profile_Valid.F law37_awake.L0)) (c := law37_awake.c) (fn := Go.Proofs.Try.f9) (hs := law37_awake.hs) (by kernel_rfl) Go.Proofs.Try.func9 ⟨by kernel_rfl, by kernel_rfl, tb, by kernel_rfl, by kernel_rfl, by kernel_rfl, by kernel_rfl, by kernel_rfl⟩ ⟨fun g ks fe h => ?_, gt_ok ht⟩ ?_ (fun x => law37_awake.eq profile_Of.F profile_Valid.F law37_awake.L0 x)
  · rcases c_cons h with ⟨rfl, rfl⟩ | h
    · exact profile_Of.ok ht
    rcases c_cons h with ⟨rfl, rfl⟩ | h
    · exact profile_Valid.ok ht
    cases h
  · refine known_at 1 (by kernel_rfl) fun i hi => ?_
    match i, hi with
    | 0, _ => exact atom_at (id := 0) (live := [1, 2]) (outs := [(0, [0])]) (loop := false) (by kernel_rfl) (cut_ok (E := (law37_awake.E profile_Of.F profile_Valid.F law37_awake.L0)) (sh := law37_awake.s0) (es := law37_awake.x0) rfl (fun L x => law37_awake.eq0 profile_Of.F profile_Valid.F law37_awake.L0 L x))
    | n + 1, h => exact absurd h (by omega)

/-! second_New -/
def second_New.f (l : (List Int)) : Option ((Unit × Unit) × (((List Int) × Int × Unit) × Unit)) :=
  (some (((), ()), ((l, ((0:Int), ())), ())))
theorem second_New.eq (x : (((List Int) × Unit) × (Unit))) : (bodyO (second_New.E) (mk second_New.hs second_New.c []) Go.Proofs.Try.f10.results.toList second_New.sh second_New.osh x).run _ some = second_New.f x.1.1 := by
  show _ = (_ : Option _)
  kernel_rfl
noncomputable def second_New (l : (List Int)) : Option ((Unit × Unit) × (((List Int) × Int × Unit) × Unit)) := second_New.f l
noncomputable def second_New.F (x : (((List Int) × Unit) × (Unit))) : Option ((Unit × Unit) × (((List Int) × Int × Unit) × Unit)) := second_New x.1.1
theorem second_New.F_eq (l : (List Int)) : second_New.F ((l, ()), ()) = second_New.f l := rfl
theorem second_New.ok {tabs : List (Nat × Go.Obj)} (ht : TabsOk tabs) : FOK Go.Proofs.Try.prog tabs 10 (FE.of [true] true second_New.sh second_New.osh second_New.F) := by
  refine fn_keeps (E := (second_New.E)) (c := second_New.c) (fn := Go.Proofs.Try.f10) (hs := second_New.hs) (by kernel_rfl) Go.Proofs.Try.func10 ⟨by kernel_rfl, by kernel_rfl, tb, by kernel_rfl, by kernel_rfl, by kernel_rfl, by kernel_rfl, by kernel_rfl⟩ ⟨fun g ks fe h => ?_, gt_ok ht⟩ ?_ (fun x => second_New.eq x)
  · cases h
  · exact known_at 0 (by kernel_rfl) fun i hi => absurd hi (Nat.not_lt_zero i)

/-! second_Mod -/
def second_Mod.f (n : Int) (k : Int) : Option ((Int × Unit) × (Unit)) :=
  (bif (!(decide (k = (0:Int)))) then
   (bif (!(decide (k = (0:Int)))) then
    (some (((Int.tmod (Go.IntKind.wrap Go.IntKind.i64 ((Int.tmod n k) + k)) k), ()), ()))
   else
    none)
  else
   none)
theorem second_Mod.eq (x : ((Int × Int × Unit) × (Unit))) : (bodyO (second_Mod.E) (mk second_Mod.hs second_Mod.c []) Go.Proofs.Try.f12.results.toList second_Mod.sh second_Mod.osh x).run _ some = second_Mod.f x.1.1 x.1.2.1 := by
  show _ = (_ : Option _)
  kernel_rfl
noncomputable def second_Mod (n : Int) (k : Int) : Option ((Int × Unit) × (Unit)) := second_Mod.f n k
noncomputable def second_Mod.F (x : ((Int × Int × Unit) × (Unit))) : Option ((Int × Unit) × (Unit)) := second_Mod x.1.1 x.1.2.1
theorem second_Mod.F_eq (n : Int) (k : Int) : second_Mod.F ((n, k, ()), ()) = second_Mod.f n k := rfl
theorem second_Mod.ok {tabs : List (Nat × Go.Obj)} (ht : TabsOk tabs) : FOK Go.Proofs.Try.prog tabs 12 (FE.of [true, true] false second_Mod.sh second_Mod.osh second_Mod.F) := by
  refine fn_keeps (E := (second_Mod.E)) (c := second_Mod.c) (fn := Go.Proofs.Try.f12) (hs := second_Mod.hs) (by kernel_rfl) Go.Proofs.Try.func12 ⟨by kernel_rfl, by kernel_rfl, tb, by kernel_rfl, by kernel_rfl, by kernel_rfl, by kernel_rfl, by kernel_rfl⟩ ⟨fun g ks fe h => ?_, gt_ok ht⟩ ?_ (fun x => second_Mod.eq x)
  · cases h
  · exact known_at 0 (by kernel_rfl) fun i hi => absurd hi (Nat.not_lt_zero i)

/-! second_Deck_Next -/
def second_Deck_Next.f0 (n_1 : Int) (o0_0 : (List Int)) (o0_1 : Int) : Option (((Unit × Int × Bool × Unit) × (((List Int) × Int × Unit) × Unit)) ⊕ Empty) :=
  (bif (decide (o0_1 ≥ (((List.length o0_0) : Nat) : Int))) then
   (some (Sum.inl (((), (n_1, (Bool.true, ()))), ((o0_0, (o0_1, ())), ()))))
  else
   (some (Sum.inl (((), (n_1, ((decide (n_1 ≤ (1:Int))), ()))), ((o0_0, (o0_1, ())), ())))))
theorem second_Deck_Next.eq0 (g_second_Mod : second_Mod.sh.X → Option second_Mod.osh.X) (l0 : second_Deck_Next.s0.X → Option (sumX second_Deck_Next.x0)) (L : ((Unit × Int × Unit) × (((List Int) × Int × Unit) × Unit)) → Option (((Unit × Int × Bool × Unit) × (((List Int) × Int × Unit) × Unit)) ⊕ Empty)) (x : ((Unit × Int × Unit) × (((List Int) × Int × Unit) × Unit))) : (roundK (second_Deck_Next.E g_second_Mod l0) second_Deck_Next.s0 [0, 1] [(0, [0, 1, 18])] false (((mk second_Deck_Next.hs second_Deck_Next.c []).atoms.getD 0 .bad).body) second_Deck_Next.x0 L x).run _ some = second_Deck_Next.f0 x.1.2.1 x.2.1.1 x.2.1.2.1 := by
  show _ = (_ : Option _)
  kernel_rfl
noncomputable def second_Deck_Next.L0 : ((Unit × Int × Unit) × (((List Int) × Int × Unit) × Unit)) → Option (((Unit × Int × Bool × Unit) × (((List Int) × Int × Unit) × Unit)) ⊕ Empty) := fun x => second_Deck_Next.f0 x.1.2.1 x.2.1.1 x.2.1.2.1
def second_Deck_Next.f (g_second_Mod : ((Int × Int × Unit) × (Unit)) → Option ((Int × Unit) × (Unit))) (l0 : ((Unit × Int × Unit) × (((List Int) × Int × Unit) × Unit)) → Option (((Unit × Int × Bool × Unit) × (((List Int) × Int × Unit) × Unit)) ⊕ Empty)) (n : Int) (o0_0 : (List Int)) (o0_1 : Int) : Option ((Int × Unit) × (((List Int) × Int × Unit) × Unit)) :=
  (Option.bind (l0 (((), (n, ())), ((o0_0, (o0_1, ())), ()))) (fun y0 =>
  (Sum.elim (fun a1 =>
   (bif a1.1.2.2.1 then
    (some (((0:Int), ()), ((a1.2.1.1, (a1.2.1.2.1, ())), ())))
   else
    (bif (decide ((0:Int) ≤ (Go.IntKind.wrap Go.IntKind.i64 ((Go.IntKind.wrap Go.IntKind.i64 (a1.2.1.2.1 + (1:Int))) - (1:Int))))) then
     (bif (decide ((Go.IntKind.wrap Go.IntKind.i64 ((Go.IntKind.wrap Go.IntKind.i64 (a1.2.1.2.1 + (1:Int))) - (1:Int))) < (((List.length a1.2.1.1) : Nat) : Int))) then
      (Option.bind (g_second_Mod (((List.getD a1.2.1.1 (Int.toNat (Go.IntKind.wrap Go.IntKind.i64 ((Go.IntKind.wrap Go.IntKind.i64 (a1.2.1.2.1 + (1:Int))) - (1:Int)))) (0:Int)), (a1.1.2.1, ())), ())) (fun y5 =>
      (some ((y5.1.1, ()), ((a1.2.1.1, ((Go.IntKind.wrap Go.IntKind.i64 (a1.2.1.2.1 + (1:Int))), ())), ())))))
     else
      none)
    else
     none))) (fun b1 =>
   (Empty.elim b1)) y0)))
theorem second_Deck_Next.eq (g_second_Mod : second_Mod.sh.X → Option second_Mod.osh.X) (l0 : second_Deck_Next.s0.X → Option (sumX second_Deck_Next.x0)) (x : ((Unit × Int × Unit) × (((List Int) × Int × Unit) × Unit))) : (bodyO (second_Deck_Next.E g_second_Mod l0) (mk second_Deck_Next.hs second_Deck_Next.c []) Go.Proofs.Try.f18.results.toList second_Deck_Next.sh second_Deck_Next.osh x).run _ some = second_Deck_Next.f g_second_Mod l0 x.1.2.1 x.2.1.1 x.2.1.2.1 := by
  show _ = (_ : Option _)
  kernel_rfl
noncomputable def second_Deck_Next (n : Int) (o0_0 : (List Int)) (o0_1 : Int) : Option ((Int × Unit) × (((List Int) × Int × Unit) × Unit)) := second_Deck_Next.f second_Mod.F second_Deck_Next.L0 n o0_0 o0_1
noncomputable def second_Deck_Next.F (x : ((Unit × Int × Unit) × (((List Int) × Int × Unit) × Unit))) : Option ((Int × Unit) × (((List Int) × Int × Unit) × Unit)) := second_Deck_Next x.1.2.1 x.2.1.1 x.2.1.2.1
theorem second_Deck_Next.L0_eq (n_1 : Int) (o0_0 : (List Int)) (o0_1 : Int) : second_Deck_Next.L0 (((), n_1, ()), ((o0_0, o0_1, ()), ())) = second_Deck_Next.f0 n_1 o0_0 o0_1 := rfl
theorem second_Deck_Next.F_eq (n : Int) (o0_0 : (List Int)) (o0_1 : Int) : second_Deck_Next.F (((), n, ()), ((o0_0, o0_1, ()), ())) = second_Deck_Next.f second_Mod.F second_Deck_Next.L0 n o0_0 o0_1 := rfl
theorem second_Deck_Next.ok {tabs : List (Nat × Go.Obj)} (ht : TabsOk tabs) : FOK Go.Proofs.Try.prog tabs 18 (FE.of [true, true] true second_Deck_Next.sh second_Deck_Next.osh second_Deck_Next.F) := by
  refine fn_keeps (E := (second_Deck_Next.E second_Mod.F second_Deck_Next.L0)) (c := second_Deck_Next.c) (fn := Go.Proofs.Try.f18) (hs := second_Deck_Next.hs) (by kernel_rfl) Go.Proofs.Try.func18 ⟨by kernel_rfl, by kernel_rfl, tb, by kernel_rfl, by kernel_rfl, by kernel_rfl, by kernel_rfl, by kernel_rfl⟩ ⟨fun g ks fe h => ?_, gt_ok ht⟩ ?_ (fun x => second_Deck_Next.eq second_Mod.F second_Deck_Next.L0 x)
  · rcases c_cons h with ⟨rfl, rfl⟩ | h
    · exact second_Mod.ok ht
    cases h
  · refine known_at 1 (by kernel_rfl) fun i hi => ?_
    match i, hi with
    | 0, _ => exact atom_at (id := 0) (live := [0, 1]) (outs := [(0, [0, 1, 18])]) (loop := false) (by kernel_rfl) (cut_ok (E := (second_Deck_Next.E second_Mod.F second_Deck_Next.L0)) (sh := second_Deck_Next.s0) (es := second_Deck_Next.x0) rfl (fun L x => second_Deck_Next.eq0 second_Mod.F second_Deck_Next.L0 L x))
    | n + 1, h => exact absurd h (by omega)

/-! second_Deck_Sample -/
def second_Deck_Sample.f (g_second_Deck_Next : ((Unit × Int × Unit) × (((List Int) × Int × Unit) × Unit)) → Option ((Int × Unit) × (((List Int) × Int × Unit) × Unit))) (o0_0 : (List Int)) (o0_1 : Int) : Option ((Int × Unit) × (((List Int) × Int × Unit) × Unit)) :=
  (Option.bind (g_second_Deck_Next (((), ((12:Int), ())), ((o0_0, (o0_1, ())), ()))) (fun y0 =>
  (bif (y0.1.1 == (0:Int)) then
   (Option.bind (g_second_Deck_Next (((), ((2001:Int), ())), ((y0.2.1.1, (y0.2.1.2.1, ())), ()))) (fun y2 =>
   (some (((Go.IntKind.wrap Go.IntKind.i64 (y2.1.1 - (1000:Int))), ()), ((y2.2.1.1, (y2.2.1.2.1, ())), ())))))
  else
   (bif (y0.1.1 == (1:Int)) then
    (Option.bind (g_second_Deck_Next (((), ((2:Int), ())), ((y0.2.1.1, (y0.2.1.2.1, ())), ()))) (fun y3 =>
    (bif (decide ((0:Int) ≤ y3.1.1)) then
     (bif (decide (y3.1.1 < (((List.length [(1000:Int), (-(1000:Int))]) : Nat) : Int))) then
      (some (((List.getD [(1000:Int), (-(1000:Int))] (Int.toNat y3.1.1) (0:Int)), ()), ((y3.2.1.1, (y3.2.1.2.1, ())), ())))
     else
      none)
    else
     none)))
   else
    (Option.bind (g_second_Deck_Next (((), ((13:Int), ())), ((y0.2.1.1, (y0.2.1.2.1, ())), ()))) (fun y3 =>
    (some (((Go.IntKind.wrap Go.IntKind.i64 (y3.1.1 - (4:Int))), ()), ((y3.2.1.1, (y3.2.1.2.1, ())), ())))))))))
theorem second_Deck_Sample.eq (g_second_Deck_Next : second_Deck_Next.sh.X → Option second_Deck_Next.osh.X) (x : ((Unit × Unit) × (((List Int) × Int × Unit) × Unit))) : (bodyO (second_Deck_Sample.E g_second_Deck_Next) (mk second_Deck_Sample.hs second_Deck_Sample.c []) Go.Proofs.Try.f35.results.toList second_Deck_Sample.sh second_Deck_Sample.osh x).run _ some = second_Deck_Sample.f g_second_Deck_Next x.2.1.1 x.2.1.2.1 := by
  show _ = (_ : Option _)
  kernel_rfl
noncomputable def second_Deck_Sample (o0_0 : (List Int)) (o0_1 : Int) : Option ((Int × Unit) × (((List Int) × Int × Unit) × Unit)) := second_Deck_Sample.f second_Deck_Next.F o0_0 o0_1
noncomputable def second_Deck_Sample.F (x : ((Unit × Unit) × (((List Int) × Int × Unit) × Unit))) : Option ((Int × Unit) × (((List Int) × Int × Unit) × Unit)) := second_Deck_Sample x.2.1.1 x.2.1.2.1
theorem second_Deck_Sample.F_eq (o0_0 : (List Int)) (o0_1 : Int) : second_Deck_Sample.F (((), ()), ((o0_0, o0_1, ()), ())) = second_Deck_Sample.f second_Deck_Next.F o0_0 o0_1 := rfl
theorem second_Deck_Sample.ok {tabs : List (Nat × Go.Obj)} (ht : TabsOk tabs) : FOK Go.Proofs.Try.prog tabs 35 (FE.of [true] true second_Deck_Sample.sh second_Deck_Sample.osh second_Deck_Sample.F) := by
  refine fn_keeps (E := (second_Deck_Sample.E second_Deck_Next.F)) (c := second_Deck_Sample.c) (fn := Go.Proofs.Try.f35) (hs := second_Deck_Sample.hs) (by kernel_rfl) Go.Proofs.Try.func35 ⟨by kernel_rfl, by kernel_rfl, tb, by kernel_rfl, by kernel_rfl, by kernel_rfl, by kernel_rfl, by kernel_rfl⟩ ⟨fun g ks fe h => ?_, gt_ok ht⟩ ?_ (fun x => second_Deck_Sample.eq second_Deck_Next.F x)
  · rcases c_cons h with ⟨rfl, rfl⟩ | h
    · exact second_Deck_Next.ok ht
    cases h
  · exact known_at 0 (by kernel_rfl) fun i hi => absurd hi (Nat.not_lt_zero i)
end Go.Proofs.Ytefcciajemkicaa.V
