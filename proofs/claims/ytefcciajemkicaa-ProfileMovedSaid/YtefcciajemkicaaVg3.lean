import Derived.Test.YtefcciajemkicaaVg2
import Derived.WalkKit
set_option linter.unusedVariables false
set_option maxRecDepth 100000
namespace Go.Proofs.Ytefcciajemkicaa.V
open Go.VI
/-! edit_check -/
def edit_check.f0 (x_0 : (List Int)) (y_1 : (List Int)) (gap_2 : Int) : Option ((((List Int) × (List Int) × Bool × Unit) × (Unit)) ⊕ Empty) :=
  (bif (decide (gap_2 < (-(1000:Int)))) then
   (some (Sum.inl ((x_0, (y_1, (Bool.true, ()))), ())))
  else
   (some (Sum.inl ((x_0, (y_1, ((decide (gap_2 > (1000:Int))), ()))), ()))))
theorem edit_check.eq0 (g_euclid_Distance : euclid_Distance.sh.X → Option euclid_Distance.osh.X) (l0 : edit_check.s0.X → Option (sumX edit_check.x0)) (L : (((List Int) × (List Int) × Int × Unit) × (Unit)) → Option ((((List Int) × (List Int) × Bool × Unit) × (Unit)) ⊕ Empty)) (x : (((List Int) × (List Int) × Int × Unit) × (Unit))) : (roundK (edit_check.E g_euclid_Distance l0) edit_check.s0 [0, 1, 2] [(0, [0, 1, 16])] false (((mk edit_check.hs edit_check.c []).atoms.getD 0 .bad).body) edit_check.x0 L x).run _ some = edit_check.f0 x.1.1 x.1.2.1 x.1.2.2.1 := by
  show _ = (_ : Option _)
  kernel_rfl
noncomputable def edit_check.L0 : (((List Int) × (List Int) × Int × Unit) × (Unit)) → Option ((((List Int) × (List Int) × Bool × Unit) × (Unit)) ⊕ Empty) := fun x => edit_check.f0 x.1.1 x.1.2.1 x.1.2.2.1
def edit_check.f (g_euclid_Distance : (((List Int) × (List Int) × Unit) × (Unit)) → Option ((Int × Int × Unit) × (Unit))) (l0 : (((List Int) × (List Int) × Int × Unit) × (Unit)) → Option ((((List Int) × (List Int) × Bool × Unit) × (Unit)) ⊕ Empty)) (x_ : (List Int)) (y : (List Int)) (gap : Int) : Option ((Int × Unit) × (Unit)) :=
  (Option.bind (l0 ((x_, (y, (gap, ()))), ())) (fun y0 =>
  (Sum.elim (fun a1 =>
   (bif a1.1.2.2.1 then
    (some (((1:Int), ()), ()))
   else
    (Option.bind (g_euclid_Distance ((a1.1.1, (a1.1.1, ())), ())) (fun y3 =>
    (Option.bind (g_euclid_Distance ((a1.1.2.1, (a1.1.2.1, ())), ())) (fun y4 =>
    (bif (y3.1.2.1 == (8:Int)) then
     (some (((8:Int), ()), ()))
    else
     (bif (y4.1.2.1 == (8:Int)) then
      (some (((8:Int), ()), ()))
     else
      (some (((Go.VI.mx y3.1.2.1 y4.1.2.1), ()), ())))))))))) (fun b1 =>
   (Empty.elim b1)) y0)))
theorem edit_check.eq (g_euclid_Distance : euclid_Distance.sh.X → Option euclid_Distance.osh.X) (l0 : edit_check.s0.X → Option (sumX edit_check.x0)) (x : (((List Int) × (List Int) × Int × Unit) × (Unit))) : (bodyO (edit_check.E g_euclid_Distance l0) (mk edit_check.hs edit_check.c []) Go.Proofs.Try.f96.results.toList edit_check.sh edit_check.osh x).run _ some = edit_check.f g_euclid_Distance l0 x.1.1 x.1.2.1 x.1.2.2.1 := by
  show _ = (_ : Option _)
  kernel_rfl
noncomputable def edit_check (x_ : (List Int)) (y : (List Int)) (gap : Int) : Option ((Int × Unit) × (Unit)) := edit_check.f euclid_Distance.F edit_check.L0 x_ y gap
noncomputable def edit_check.F (x : (((List Int) × (List Int) × Int × Unit) × (Unit))) : Option ((Int × Unit) × (Unit)) := edit_check x.1.1 x.1.2.1 x.1.2.2.1
theorem edit_check.L0_eq (x_0 : (List Int)) (y_1 : (List Int)) (gap_2 : Int) : edit_check.L0 ((x_0, y_1, gap_2, ()), ()) = edit_check.f0 x_0 y_1 gap_2 := rfl
theorem edit_check.F_eq (x_ : (List Int)) (y : (List Int)) (gap : Int) : edit_check.F ((x_, y, gap, ()), ()) = edit_check.f euclid_Distance.F edit_check.L0 x_ y gap := rfl
theorem edit_check.ok {tabs : List (Nat × Go.Obj)} (ht : TabsOk tabs) : FOK Go.Proofs.Try.prog tabs 96 (FE.of [true, true, true] false edit_check.sh edit_check.osh edit_check.F) := by
  refine fn_keeps (E := (edit_check.E euclid_Distance.F edit_check.L0)) (c := edit_check.c) (fn := Go.Proofs.Try.f96) (hs := edit_check.hs) (by kernel_rfl) Go.Proofs.Try.func96 ⟨by kernel_rfl, by kernel_rfl, tb, by kernel_rfl, by kernel_rfl, by kernel_rfl, by kernel_rfl, by kernel_rfl⟩ ⟨fun g ks fe h => ?_, gt_ok ht⟩ ?_ (fun x => edit_check.eq euclid_Distance.F edit_check.L0 x)
  · rcases c_cons h with ⟨rfl, rfl⟩ | h
    · exact euclid_Distance.ok ht
    cases h
  · refine known_at 1 (by kernel_rfl) fun i hi => ?_
    match i, hi with
    | 0, _ => exact atom_at (id := 0) (live := [0, 1, 2]) (outs := [(0, [0, 1, 16])]) (loop := false) (by kernel_rfl) (cut_ok (E := (edit_check.E euclid_Distance.F edit_check.L0)) (sh := edit_check.s0) (es := edit_check.x0) rfl (fun L x => edit_check.eq0 euclid_Distance.F edit_check.L0 L x))
    | n + 1, h => exact absurd h (by omega)

/-! edit_apart -/
def edit_apart.f (a : Int) (b : Int) : Option ((Int × Unit) × (Unit)) :=
  (some (((Go.VI.mx (Go.IntKind.wrap Go.IntKind.i64 (a - b)) (Go.IntKind.wrap Go.IntKind.i64 (b - a))), ()), ()))
theorem edit_apart.eq (x : ((Int × Int × Unit) × (Unit))) : (bodyO (edit_apart.E) (mk edit_apart.hs edit_apart.c []) Go.Proofs.Try.f107.results.toList edit_apart.sh edit_apart.osh x).run _ some = edit_apart.f x.1.1 x.1.2.1 := by
  show _ = (_ : Option _)
  kernel_rfl
noncomputable def edit_apart (a : Int) (b : Int) : Option ((Int × Unit) × (Unit)) := edit_apart.f a b
noncomputable def edit_apart.F (x : ((Int × Int × Unit) × (Unit))) : Option ((Int × Unit) × (Unit)) := edit_apart x.1.1 x.1.2.1
theorem edit_apart.F_eq (a : Int) (b : Int) : edit_apart.F ((a, b, ()), ()) = edit_apart.f a b := rfl
theorem edit_apart.ok {tabs : List (Nat × Go.Obj)} (ht : TabsOk tabs) : FOK Go.Proofs.Try.prog tabs 107 (FE.of [true, true] false edit_apart.sh edit_apart.osh edit_apart.F) := by
  refine fn_keeps (E := (edit_apart.E)) (c := edit_apart.c) (fn := Go.Proofs.Try.f107) (hs := edit_apart.hs) (by kernel_rfl) Go.Proofs.Try.func107 ⟨by kernel_rfl, by kernel_rfl, tb, by kernel_rfl, by kernel_rfl, by kernel_rfl, by kernel_rfl, by kernel_rfl⟩ ⟨fun g ks fe h => ?_, gt_ok ht⟩ ?_ (fun x => edit_apart.eq x)
  · cases h
  · exact known_at 0 (by kernel_rfl) fun i hi => absurd hi (Nat.not_lt_zero i)

/-! edit_last -/
def edit_last.f0 (step_0 : Int) (x_1 : (List Int)) (y_2 : (List Int)) (gap_3 : Int) (i_4 : Int) (j_5 : Int) : Option (((Int × (List Int) × (List Int) × Int × Int × Int × Bool × Unit) × (Unit)) ⊕ Empty) :=
  (bif (step_0 == (1:Int)) then
   (bif (decide (i_4 > (0:Int))) then
    (some (Sum.inl ((step_0, (x_1, (y_2, (gap_3, (i_4, (j_5, ((decide (j_5 > (0:Int))), ()))))))), ())))
   else
    (some (Sum.inl ((step_0, (x_1, (y_2, (gap_3, (i_4, (j_5, (Bool.false, ()))))))), ()))))
  else
   (some (Sum.inl ((step_0, (x_1, (y_2, (gap_3, (i_4, (j_5, (Bool.false, ()))))))), ()))))
theorem edit_last.eq0 (g_edit_apart : edit_apart.sh.X → Option edit_apart.osh.X) (l0 : edit_last.s0.X → Option (sumX edit_last.x0)) (l1 : edit_last.s1.X → Option (sumX edit_last.x1)) (l2 : edit_last.s2.X → Option (sumX edit_last.x2)) (L : ((Int × (List Int) × (List Int) × Int × Int × Int × Unit) × (Unit)) → Option (((Int × (List Int) × (List Int) × Int × Int × Int × Bool × Unit) × (Unit)) ⊕ Empty)) (x : ((Int × (List Int) × (List Int) × Int × Int × Int × Unit) × (Unit))) : (roundK (edit_last.E g_edit_apart l0 l1 l2) edit_last.s0 [0, 1, 2, 3, 4, 5] [(0, [0, 1, 2, 3, 4, 5, 16])] false (((mk edit_last.hs edit_last.c []).atoms.getD 0 .bad).body) edit_last.x0 L x).run _ some = edit_last.f0 x.1.1 x.1.2.1 x.1.2.2.1 x.1.2.2.2.1 x.1.2.2.2.2.1 x.1.2.2.2.2.2.1 := by
  show _ = (_ : Option _)
  kernel_rfl
noncomputable def edit_last.L0 : ((Int × (List Int) × (List Int) × Int × Int × Int × Unit) × (Unit)) → Option (((Int × (List Int) × (List Int) × Int × Int × Int × Bool × Unit) × (Unit)) ⊕ Empty) := fun x => edit_last.f0 x.1.1 x.1.2.1 x.1.2.2.1 x.1.2.2.2.1 x.1.2.2.2.2.1 x.1.2.2.2.2.2.1
def edit_last.f1 (step_0 : Int) (x_1 : (List Int)) (y_2 : (List Int)) (gap_3 : Int) (i_4 : Int) (j_5 : Int) : Option (((Int × (List Int) × (List Int) × Int × Int × Int × Bool × Unit) × (Unit)) ⊕ Empty) :=
  (bif (step_0 == (2:Int)) then
   (some (Sum.inl ((step_0, (x_1, (y_2, (gap_3, (i_4, (j_5, ((decide (i_4 > (0:Int))), ()))))))), ())))
  else
   (some (Sum.inl ((step_0, (x_1, (y_2, (gap_3, (i_4, (j_5, (Bool.false, ()))))))), ()))))
theorem edit_last.eq1 (g_edit_apart : edit_apart.sh.X → Option edit_apart.osh.X) (l0 : edit_last.s0.X → Option (sumX edit_last.x0)) (l1 : edit_last.s1.X → Option (sumX edit_last.x1)) (l2 : edit_last.s2.X → Option (sumX edit_last.x2)) (L : ((Int × (List Int) × (List Int) × Int × Int × Int × Unit) × (Unit)) → Option (((Int × (List Int) × (List Int) × Int × Int × Int × Bool × Unit) × (Unit)) ⊕ Empty)) (x : ((Int × (List Int) × (List Int) × Int × Int × Int × Unit) × (Unit))) : (roundK (edit_last.E g_edit_apart l0 l1 l2) edit_last.s1 [0, 1, 2, 3, 4, 5] [(0, [0, 1, 2, 3, 4, 5, 42])] false (((mk edit_last.hs edit_last.c []).atoms.getD 1 .bad).body) edit_last.x1 L x).run _ some = edit_last.f1 x.1.1 x.1.2.1 x.1.2.2.1 x.1.2.2.2.1 x.1.2.2.2.2.1 x.1.2.2.2.2.2.1 := by
  show _ = (_ : Option _)
  kernel_rfl
noncomputable def edit_last.L1 : ((Int × (List Int) × (List Int) × Int × Int × Int × Unit) × (Unit)) → Option (((Int × (List Int) × (List Int) × Int × Int × Int × Bool × Unit) × (Unit)) ⊕ Empty) := fun x => edit_last.f1 x.1.1 x.1.2.1 x.1.2.2.1 x.1.2.2.2.1 x.1.2.2.2.2.1 x.1.2.2.2.2.2.1
def edit_last.f2 (step_0 : Int) (y_2 : (List Int)) (gap_3 : Int) (i_4 : Int) (j_5 : Int) : Option ((((List Int) × Int × Int × Int × Bool × Unit) × (Unit)) ⊕ Empty) :=
  (bif (step_0 == (3:Int)) then
   (some (Sum.inl ((y_2, (gap_3, (i_4, (j_5, ((decide (j_5 > (0:Int))), ()))))), ())))
  else
   (some (Sum.inl ((y_2, (gap_3, (i_4, (j_5, (Bool.false, ()))))), ()))))
theorem edit_last.eq2 (g_edit_apart : edit_apart.sh.X → Option edit_apart.osh.X) (l0 : edit_last.s0.X → Option (sumX edit_last.x0)) (l1 : edit_last.s1.X → Option (sumX edit_last.x1)) (l2 : edit_last.s2.X → Option (sumX edit_last.x2)) (L : ((Int × (List Int) × Int × Int × Int × Unit) × (Unit)) → Option ((((List Int) × Int × Int × Int × Bool × Unit) × (Unit)) ⊕ Empty)) (x : ((Int × (List Int) × Int × Int × Int × Unit) × (Unit))) : (roundK (edit_last.E g_edit_apart l0 l1 l2) edit_last.s2 [0, 2, 3, 4, 5] [(0, [2, 3, 4, 5, 59])] false (((mk edit_last.hs edit_last.c []).atoms.getD 2 .bad).body) edit_last.x2 L x).run _ some = edit_last.f2 x.1.1 x.1.2.1 x.1.2.2.1 x.1.2.2.2.1 x.1.2.2.2.2.1 := by
  show _ = (_ : Option _)
  kernel_rfl
noncomputable def edit_last.L2 : ((Int × (List Int) × Int × Int × Int × Unit) × (Unit)) → Option ((((List Int) × Int × Int × Int × Bool × Unit) × (Unit)) ⊕ Empty) := fun x => edit_last.f2 x.1.1 x.1.2.1 x.1.2.2.1 x.1.2.2.2.1 x.1.2.2.2.2.1
def edit_last.f (g_edit_apart : ((Int × Int × Unit) × (Unit)) → Option ((Int × Unit) × (Unit))) (l0 : ((Int × (List Int) × (List Int) × Int × Int × Int × Unit) × (Unit)) → Option (((Int × (List Int) × (List Int) × Int × Int × Int × Bool × Unit) × (Unit)) ⊕ Empty)) (l1 : ((Int × (List Int) × (List Int) × Int × Int × Int × Unit) × (Unit)) → Option (((Int × (List Int) × (List Int) × Int × Int × Int × Bool × Unit) × (Unit)) ⊕ Empty)) (l2 : ((Int × (List Int) × Int × Int × Int × Unit) × (Unit)) → Option ((((List Int) × Int × Int × Int × Bool × Unit) × (Unit)) ⊕ Empty)) (step : Int) (x_ : (List Int)) (y : (List Int)) (gap : Int) (i : Int) (j : Int) : Option ((Int × Int × Int × Bool × Unit) × (Unit)) :=
  (Option.bind (l0 ((step, (x_, (y, (gap, (i, (j, ())))))), ())) (fun y0 =>
  (Sum.elim (fun a1 =>
   (bif a1.1.2.2.2.2.2.2.1 then
    (bif (decide ((0:Int) ≤ (Go.IntKind.wrap Go.IntKind.i64 (a1.1.2.2.2.2.1 - (1:Int))))) then
     (bif (decide ((Go.IntKind.wrap Go.IntKind.i64 (a1.1.2.2.2.2.1 - (1:Int))) < (((List.length a1.1.2.1) : Nat) : Int))) then
      (bif (decide ((0:Int) ≤ (Go.IntKind.wrap Go.IntKind.i64 (a1.1.2.2.2.2.2.1 - (1:Int))))) then
       (bif (decide ((Go.IntKind.wrap Go.IntKind.i64 (a1.1.2.2.2.2.2.1 - (1:Int))) < (((List.length a1.1.2.2.1) : Nat) : Int))) then
        (Option.bind (g_edit_apart (((List.getD a1.1.2.1 (Int.toNat (Go.IntKind.wrap Go.IntKind.i64 (a1.1.2.2.2.2.1 - (1:Int)))) (0:Int)), ((List.getD a1.1.2.2.1 (Int.toNat (Go.IntKind.wrap Go.IntKind.i64 (a1.1.2.2.2.2.2.1 - (1:Int)))) (0:Int)), ())), ())) (fun y7 =>
        (some ((y7.1.1, ((Go.IntKind.wrap Go.IntKind.i64 (a1.1.2.2.2.2.1 - (1:Int))), ((Go.IntKind.wrap Go.IntKind.i64 (a1.1.2.2.2.2.2.1 - (1:Int))), (Bool.true, ())))), ()))))
       else
        none)
      else
       none)
     else
      none)
    else
     none)
   else
    (Option.bind (l1 ((a1.1.1, (a1.1.2.1, (a1.1.2.2.1, (a1.1.2.2.2.1, (a1.1.2.2.2.2.1, (a1.1.2.2.2.2.2.1, ())))))), ())) (fun y3 =>
    (Sum.elim (fun a4 =>
     (bif a4.1.2.2.2.2.2.2.1 then
      (bif (decide ((0:Int) ≤ (Go.IntKind.wrap Go.IntKind.i64 (a4.1.2.2.2.2.1 - (1:Int))))) then
       (bif (decide ((Go.IntKind.wrap Go.IntKind.i64 (a4.1.2.2.2.2.1 - (1:Int))) < (((List.length a4.1.2.1) : Nat) : Int))) then
        (Option.bind (g_edit_apart (((List.getD a4.1.2.1 (Int.toNat (Go.IntKind.wrap Go.IntKind.i64 (a4.1.2.2.2.2.1 - (1:Int)))) (0:Int)), (a4.1.2.2.2.1, ())), ())) (fun y8 =>
        (some ((y8.1.1, ((Go.IntKind.wrap Go.IntKind.i64 (a4.1.2.2.2.2.1 - (1:Int))), (a4.1.2.2.2.2.2.1, (Bool.true, ())))), ()))))
       else
        none)
      else
       none)
     else
      (Option.bind (l2 ((a4.1.1, (a4.1.2.2.1, (a4.1.2.2.2.1, (a4.1.2.2.2.2.1, (a4.1.2.2.2.2.2.1, ()))))), ())) (fun y6 =>
      (Sum.elim (fun a7 =>
       (bif a7.1.2.2.2.2.1 then
        (bif (decide ((0:Int) ≤ (Go.IntKind.wrap Go.IntKind.i64 (a7.1.2.2.2.1 - (1:Int))))) then
         (bif (decide ((Go.IntKind.wrap Go.IntKind.i64 (a7.1.2.2.2.1 - (1:Int))) < (((List.length a7.1.1) : Nat) : Int))) then
          (Option.bind (g_edit_apart (((List.getD a7.1.1 (Int.toNat (Go.IntKind.wrap Go.IntKind.i64 (a7.1.2.2.2.1 - (1:Int)))) (0:Int)), (a7.1.2.1, ())), ())) (fun y11 =>
          (some ((y11.1.1, (a7.1.2.2.1, ((Go.IntKind.wrap Go.IntKind.i64 (a7.1.2.2.2.1 - (1:Int))), (Bool.true, ())))), ()))))
         else
          none)
        else
         none)
       else
        (some (((0:Int), ((0:Int), ((0:Int), (Bool.false, ())))), ())))) (fun b7 =>
       (Empty.elim b7)) y6))))) (fun b4 =>
     (Empty.elim b4)) y3))))) (fun b1 =>
   (Empty.elim b1)) y0)))
theorem edit_last.eq (g_edit_apart : edit_apart.sh.X → Option edit_apart.osh.X) (l0 : edit_last.s0.X → Option (sumX edit_last.x0)) (l1 : edit_last.s1.X → Option (sumX edit_last.x1)) (l2 : edit_last.s2.X → Option (sumX edit_last.x2)) (x : ((Int × (List Int) × (List Int) × Int × Int × Int × Unit) × (Unit))) : (bodyO (edit_last.E g_edit_apart l0 l1 l2) (mk edit_last.hs edit_last.c []) Go.Proofs.Try.f104.results.toList edit_last.sh edit_last.osh x).run _ some = edit_last.f g_edit_apart l0 l1 l2 x.1.1 x.1.2.1 x.1.2.2.1 x.1.2.2.2.1 x.1.2.2.2.2.1 x.1.2.2.2.2.2.1 := by
  show _ = (_ : Option _)
  kernel_rfl
noncomputable def edit_last (step : Int) (x_ : (List Int)) (y : (List Int)) (gap : Int) (i : Int) (j : Int) : Option ((Int × Int × Int × Bool × Unit) × (Unit)) := edit_last.f edit_apart.F edit_last.L0 edit_last.L1 edit_last.L2 step x_ y gap i j
noncomputable def edit_last.F (x : ((Int × (List Int) × (List Int) × Int × Int × Int × Unit) × (Unit))) : Option ((Int × Int × Int × Bool × Unit) × (Unit)) := edit_last x.1.1 x.1.2.1 x.1.2.2.1 x.1.2.2.2.1 x.1.2.2.2.2.1 x.1.2.2.2.2.2.1
theorem edit_last.L0_eq (step_0 : Int) (x_1 : (List Int)) (y_2 : (List Int)) (gap_3 : Int) (i_4 : Int) (j_5 : Int) : edit_last.L0 ((step_0, x_1, y_2, gap_3, i_4, j_5, ()), ()) = edit_last.f0 step_0 x_1 y_2 gap_3 i_4 j_5 := rfl
theorem edit_last.L1_eq (step_0 : Int) (x_1 : (List Int)) (y_2 : (List Int)) (gap_3 : Int) (i_4 : Int) (j_5 : Int) : edit_last.L1 ((step_0, x_1, y_2, gap_3, i_4, j_5, ()), ()) = edit_last.f1 step_0 x_1 y_2 gap_3 i_4 j_5 := rfl
theorem edit_last.L2_eq (step_0 : Int) (y_2 : (List Int)) (gap_3 : Int) (i_4 : Int) (j_5 : Int) : edit_last.L2 ((step_0, y_2, gap_3, i_4, j_5, ()), ()) = edit_last.f2 step_0 y_2 gap_3 i_4 j_5 := rfl
theorem edit_last.F_eq (step : Int) (x_ : (List Int)) (y : (List Int)) (gap : Int) (i : Int) (j : Int) : edit_last.F ((step, x_, y, gap, i, j, ()), ()) = edit_last.f edit_apart.F edit_last.L0 edit_last.L1 edit_last.L2 step x_ y gap i j := rfl
theorem edit_last.ok {tabs : List (Nat × Go.Obj)} (ht : TabsOk tabs) : FOK Go.Proofs.Try.prog tabs 104 (FE.of [true, true, true, true, true, true] false edit_last.sh edit_last.osh edit_last.F) := by
  refine fn_keeps (E := (edit_last.E edit_apart.F edit_last.L0 edit_last.L1 edit_last.L2)) (c := edit_last.c) (fn := Go.Proofs.Try.f104) (hs := edit_last.hs) (by kernel_rfl) Go.Proofs.Try.func104 ⟨by kernel_rfl, by kernel_rfl, tb, by kernel_rfl, by kernel_rfl, by kernel_rfl, by kernel_rfl, by kernel_rfl⟩ ⟨fun g ks fe h => ?_, gt_ok ht⟩ ?_ (fun x => edit_last.eq edit_apart.F edit_last.L0 edit_last.L1 edit_last.L2 x)
  · rcases c_cons h with ⟨rfl, rfl⟩ | h
    · exact edit_apart.ok ht
    cases h
  · refine known_at 3 (by kernel_rfl) fun i hi => ?_
    match i, hi with
    | 0, _ => exact atom_at (id := 0) (live := [0, 1, 2, 3, 4, 5]) (outs := [(0, [0, 1, 2, 3, 4, 5, 16])]) (loop := false) (by kernel_rfl) (cut_ok (E := (edit_last.E edit_apart.F edit_last.L0 edit_last.L1 edit_last.L2)) (sh := edit_last.s0) (es := edit_last.x0) rfl (fun L x => edit_last.eq0 edit_apart.F edit_last.L0 edit_last.L1 edit_last.L2 L x))
    | 1, _ => exact atom_at (id := 1) (live := [0, 1, 2, 3, 4, 5]) (outs := [(0, [0, 1, 2, 3, 4, 5, 42])]) (loop := false) (by kernel_rfl) (cut_ok (E := (edit_last.E edit_apart.F edit_last.L0 edit_last.L1 edit_last.L2)) (sh := edit_last.s1) (es := edit_last.x1) rfl (fun L x => edit_last.eq1 edit_apart.F edit_last.L0 edit_last.L1 edit_last.L2 L x))
    | 2, _ => exact atom_at (id := 2) (live := [0, 2, 3, 4, 5]) (outs := [(0, [2, 3, 4, 5, 59])]) (loop := false) (by kernel_rfl) (cut_ok (E := (edit_last.E edit_apart.F edit_last.L0 edit_last.L1 edit_last.L2)) (sh := edit_last.s2) (es := edit_last.x2) rfl (fun L x => edit_last.eq2 edit_apart.F edit_last.L0 edit_last.L1 edit_last.L2 L x))
    | n + 3, h => exact absurd h (by omega)

/-! edit_table -/
def edit_table.f3 (x_0 : (List Int)) (y_1 : (List Int)) (gap_2 : Int) (i_8 : Int) (j_9 : Int) (first_10 : Bool) (step_11 : Int) (cost_12 : Int) (a_13 : Int) (b_14 : Int) (ok_15 : Bool) (o0 : List Int) (o1 : List Int) : Option ((((List Int) × (List Int) × Int × Unit × Unit × Int × Int × Bool × Int × Int × Int × Int × Bool × Unit) × ((List Int) × (List Int) × Unit)) ⊕ Empty) :=
  (bif ok_15 then
   (bif first_10 then
    (some (Sum.inl ((x_0, (y_1, (gap_2, ((), ((), (i_8, (j_9, (first_10, (step_11, (cost_12, (a_13, (b_14, (Bool.true, ()))))))))))))), (o0, (o1, ())))))
   else
    (bif (decide ((0:Int) ≤ a_13)) then
     (bif (decide (a_13 < (((33:Nat) : Nat) : Int))) then
      (bif (decide (((((0:Nat) + ((Int.toNat a_13) * (33:Nat))) : Nat) : Int) < (((List.length o1) : Nat) : Int))) then
       (bif (decide ((0:Int) ≤ b_14)) then
        (bif (decide (b_14 < (((33:Nat) : Nat) : Int))) then
         (bif (decide ((((((0:Nat) + ((Int.toNat a_13) * (33:Nat))) + ((Int.toNat b_14) * (1:Nat))) : Nat) : Int) < (((List.length o1) : Nat) : Int))) then
          (bif (decide ((0:Int) ≤ i_8)) then
           (bif (decide (i_8 < (((33:Nat) : Nat) : Int))) then
            (bif (decide (((((0:Nat) + ((Int.toNat i_8) * (33:Nat))) : Nat) : Int) < (((List.length o1) : Nat) : Int))) then
             (bif (decide ((0:Int) ≤ j_9)) then
              (bif (decide (j_9 < (((33:Nat) : Nat) : Int))) then
               (bif (decide ((((((0:Nat) + ((Int.toNat i_8) * (33:Nat))) + ((Int.toNat j_9) * (1:Nat))) : Nat) : Int) < (((List.length o1) : Nat) : Int))) then
                (some (Sum.inl ((x_0, (y_1, (gap_2, ((), ((), (i_8, (j_9, (first_10, (step_11, (cost_12, (a_13, (b_14, ((decide ((Go.IntKind.wrap Go.IntKind.i64 ((List.getD o1 (((0:Nat) + ((Int.toNat a_13) * (33:Nat))) + ((Int.toNat b_14) * (1:Nat))) (0:Int)) + cost_12)) < (List.getD o1 (((0:Nat) + ((Int.toNat i_8) * (33:Nat))) + ((Int.toNat j_9) * (1:Nat))) (0:Int)))), ()))))))))))))), (o0, (o1, ())))))
               else
                none)
              else
               none)
             else
              none)
            else
             none)
           else
            none)
          else
           none)
         else
          none)
        else
         none)
       else
        none)
      else
       none)
     else
      none)
    else
     none))
  else
   (some (Sum.inl ((x_0, (y_1, (gap_2, ((), ((), (i_8, (j_9, (first_10, (step_11, (cost_12, (a_13, (b_14, (Bool.false, ()))))))))))))), (o0, (o1, ()))))))
theorem edit_table.eq3 (g_edit_last : edit_last.sh.X → Option edit_last.osh.X) (l0 : edit_table.s0.X → Option (sumX edit_table.x0)) (l1 : edit_table.s1.X → Option (sumX edit_table.x1)) (l2 : edit_table.s2.X → Option (sumX edit_table.x2)) (l3 : edit_table.s3.X → Option (sumX edit_table.x3)) (L : (((List Int) × (List Int) × Int × Unit × Unit × Int × Int × Bool × Int × Int × Int × Int × Bool × Unit) × ((List Int) × (List Int) × Unit)) → Option ((((List Int) × (List Int) × Int × Unit × Unit × Int × Int × Bool × Int × Int × Int × Int × Bool × Unit) × ((List Int) × (List Int) × Unit)) ⊕ Empty)) (x : (((List Int) × (List Int) × Int × Unit × Unit × Int × Int × Bool × Int × Int × Int × Int × Bool × Unit) × ((List Int) × (List Int) × Unit))) : (roundK (edit_table.E g_edit_last l0 l1 l2 l3) edit_table.s3 [0, 1, 2, 6, 7, 8, 9, 10, 11, 12, 13, 14, 15] [(0, [0, 1, 2, 6, 7, 8, 9, 10, 11, 12, 13, 14, 62])] false (((mk edit_table.hs edit_table.c []).atoms.getD 3 .bad).body) edit_table.x3 L x).run _ some = edit_table.f3 x.1.1 x.1.2.1 x.1.2.2.1 x.1.2.2.2.2.2.1 x.1.2.2.2.2.2.2.1 x.1.2.2.2.2.2.2.2.1 x.1.2.2.2.2.2.2.2.2.1 x.1.2.2.2.2.2.2.2.2.2.1 x.1.2.2.2.2.2.2.2.2.2.2.1 x.1.2.2.2.2.2.2.2.2.2.2.2.1 x.1.2.2.2.2.2.2.2.2.2.2.2.2.1 x.2.1 x.2.2.1 := by
  show _ = (_ : Option _)
  kernel_rfl
noncomputable def edit_table.L3 : (((List Int) × (List Int) × Int × Unit × Unit × Int × Int × Bool × Int × Int × Int × Int × Bool × Unit) × ((List Int) × (List Int) × Unit)) → Option ((((List Int) × (List Int) × Int × Unit × Unit × Int × Int × Bool × Int × Int × Int × Int × Bool × Unit) × ((List Int) × (List Int) × Unit)) ⊕ Empty) := fun x => edit_table.f3 x.1.1 x.1.2.1 x.1.2.2.1 x.1.2.2.2.2.2.1 x.1.2.2.2.2.2.2.1 x.1.2.2.2.2.2.2.2.1 x.1.2.2.2.2.2.2.2.2.1 x.1.2.2.2.2.2.2.2.2.2.1 x.1.2.2.2.2.2.2.2.2.2.2.1 x.1.2.2.2.2.2.2.2.2.2.2.2.1 x.1.2.2.2.2.2.2.2.2.2.2.2.2.1 x.2.1 x.2.2.1
def edit_table.f2 (g_edit_last : ((Int × (List Int) × (List Int) × Int × Int × Int × Unit) × (Unit)) → Option ((Int × Int × Int × Bool × Unit) × (Unit))) (l3 : (((List Int) × (List Int) × Int × Unit × Unit × Int × Int × Bool × Int × Int × Int × Int × Bool × Unit) × ((List Int) × (List Int) × Unit)) → Option ((((List Int) × (List Int) × Int × Unit × Unit × Int × Int × Bool × Int × Int × Int × Int × Bool × Unit) × ((List Int) × (List Int) × Unit)) ⊕ Empty)) (L : (((List Int) × (List Int) × Int × Unit × Unit × Int × Int × Bool × Int × Unit) × ((List Int) × (List Int) × Unit)) → Option ((((List Int) × (List Int) × Int × Unit × Unit × Int × Int × Unit) × ((List Int) × (List Int) × Unit)) ⊕ Empty)) (x_0 : (List Int)) (y_1 : (List Int)) (gap_2 : Int) (i_8 : Int) (j_9 : Int) (first_10 : Bool) (step_11 : Int) (o0 : List Int) (o1 : List Int) : Option ((((List Int) × (List Int) × Int × Unit × Unit × Int × Int × Unit) × ((List Int) × (List Int) × Unit)) ⊕ Empty) :=
  (bif (decide (step_11 ≤ (3:Int))) then
   (Option.bind (g_edit_last ((step_11, (x_0, (y_1, (gap_2, (i_8, (j_9, ())))))), ())) (fun y1 =>
   (Option.bind (l3 ((x_0, (y_1, (gap_2, ((), ((), (i_8, (j_9, (first_10, (step_11, (y1.1.1, (y1.1.2.1, (y1.1.2.2.1, (y1.1.2.2.2.1, ()))))))))))))), (o0, (o1, ())))) (fun y2 =>
   (Sum.elim (fun a3 =>
    (bif a3.1.2.2.2.2.2.2.2.2.2.2.2.2.1 then
     (bif (decide ((0:Int) ≤ a3.1.2.2.2.2.2.2.2.2.2.2.1)) then
      (bif (decide (a3.1.2.2.2.2.2.2.2.2.2.2.1 < (((33:Nat) : Nat) : Int))) then
       (bif (decide (((((0:Nat) + ((Int.toNat a3.1.2.2.2.2.2.2.2.2.2.2.1) * (33:Nat))) : Nat) : Int) < (((List.length a3.2.2.1) : Nat) : Int))) then
        (bif (decide ((0:Int) ≤ a3.1.2.2.2.2.2.2.2.2.2.2.2.1)) then
         (bif (decide (a3.1.2.2.2.2.2.2.2.2.2.2.2.1 < (((33:Nat) : Nat) : Int))) then
          (bif (decide ((((((0:Nat) + ((Int.toNat a3.1.2.2.2.2.2.2.2.2.2.2.1) * (33:Nat))) + ((Int.toNat a3.1.2.2.2.2.2.2.2.2.2.2.2.1) * (1:Nat))) : Nat) : Int) < (((List.length a3.2.2.1) : Nat) : Int))) then
           (bif (decide ((0:Int) ≤ a3.1.2.2.2.2.2.1)) then
            (bif (decide (a3.1.2.2.2.2.2.1 < (((33:Nat) : Nat) : Int))) then
             (bif (decide (((((0:Nat) + ((Int.toNat a3.1.2.2.2.2.2.1) * (33:Nat))) : Nat) : Int) < (((List.length a3.2.2.1) : Nat) : Int))) then
              (bif (decide ((0:Int) ≤ a3.1.2.2.2.2.2.2.1)) then
               (bif (decide (a3.1.2.2.2.2.2.2.1 < (((33:Nat) : Nat) : Int))) then
                (bif (decide ((((((0:Nat) + ((Int.toNat a3.1.2.2.2.2.2.1) * (33:Nat))) + ((Int.toNat a3.1.2.2.2.2.2.2.1) * (1:Nat))) : Nat) : Int) < (((List.length a3.2.2.1) : Nat) : Int))) then
                 (Option.bind (L ((a3.1.1, (a3.1.2.1, (a3.1.2.2.1, ((), ((), (a3.1.2.2.2.2.2.1, (a3.1.2.2.2.2.2.2.1, (Bool.false, ((Go.IntKind.wrap Go.IntKind.i64 (a3.1.2.2.2.2.2.2.2.2.1 + (1:Int))), ()))))))))), (a3.2.1, ((List.set a3.2.2.1 (((0:Nat) + ((Int.toNat a3.1.2.2.2.2.2.1) * (33:Nat))) + ((Int.toNat a3.1.2.2.2.2.2.2.1) * (1:Nat))) (Go.IntKind.wrap Go.IntKind.i64 ((List.getD a3.2.2.1 (((0:Nat) + ((Int.toNat a3.1.2.2.2.2.2.2.2.2.2.2.1) * (33:Nat))) + ((Int.toNat a3.1.2.2.2.2.2.2.2.2.2.2.2.1) * (1:Nat))) (0:Int)) + a3.1.2.2.2.2.2.2.2.2.2.1))), ())))) (fun y17 =>
                 (some y17)))
                else
                 none)
               else
                none)
              else
               none)
             else
              none)
            else
             none)
           else
            none)
          else
           none)
         else
          none)
        else
         none)
       else
        none)
      else
       none)
     else
      none)
    else
     (Option.bind (L ((a3.1.1, (a3.1.2.1, (a3.1.2.2.1, ((), ((), (a3.1.2.2.2.2.2.1, (a3.1.2.2.2.2.2.2.1, (a3.1.2.2.2.2.2.2.2.1, ((Go.IntKind.wrap Go.IntKind.i64 (a3.1.2.2.2.2.2.2.2.2.1 + (1:Int))), ()))))))))), (a3.2.1, (a3.2.2.1, ())))) (fun y5 =>
     (some y5))))) (fun b3 =>
    (Empty.elim b3)) y2)))))
  else
   (some (Sum.inl ((x_0, (y_1, (gap_2, ((), ((), (i_8, (j_9, ()))))))), (o0, (o1, ()))))))
theorem edit_table.eq2 (g_edit_last : edit_last.sh.X → Option edit_last.osh.X) (l0 : edit_table.s0.X → Option (sumX edit_table.x0)) (l1 : edit_table.s1.X → Option (sumX edit_table.x1)) (l2 : edit_table.s2.X → Option (sumX edit_table.x2)) (l3 : edit_table.s3.X → Option (sumX edit_table.x3)) (L : (((List Int) × (List Int) × Int × Unit × Unit × Int × Int × Bool × Int × Unit) × ((List Int) × (List Int) × Unit)) → Option ((((List Int) × (List Int) × Int × Unit × Unit × Int × Int × Unit) × ((List Int) × (List Int) × Unit)) ⊕ Empty)) (x : (((List Int) × (List Int) × Int × Unit × Unit × Int × Int × Bool × Int × Unit) × ((List Int) × (List Int) × Unit))) : (roundK (edit_table.E g_edit_last l0 l1 l2 l3) edit_table.s2 [0, 1, 2, 6, 7, 8, 9, 10, 11] [(6, [0, 1, 2, 6, 7, 8, 9])] true (((mk edit_table.hs edit_table.c []).atoms.getD 2 .bad).body) edit_table.x2 L x).run _ some = edit_table.f2 g_edit_last l3 L x.1.1 x.1.2.1 x.1.2.2.1 x.1.2.2.2.2.2.1 x.1.2.2.2.2.2.2.1 x.1.2.2.2.2.2.2.2.1 x.1.2.2.2.2.2.2.2.2.1 x.2.1 x.2.2.1 := by
  show _ = (_ : Option _)
  kernel_rfl
noncomputable def edit_table.L2 : (((List Int) × (List Int) × Int × Unit × Unit × Int × Int × Bool × Int × Unit) × ((List Int) × (List Int) × Unit)) → Option ((((List Int) × (List Int) × Int × Unit × Unit × Int × Int × Unit) × ((List Int) × (List Int) × Unit)) ⊕ Empty) := loop fun L x => edit_table.f2 edit_last.F edit_table.L3 L x.1.1 x.1.2.1 x.1.2.2.1 x.1.2.2.2.2.2.1 x.1.2.2.2.2.2.2.1 x.1.2.2.2.2.2.2.2.1 x.1.2.2.2.2.2.2.2.2.1 x.2.1 x.2.2.1
def edit_table.f1 (l2 : (((List Int) × (List Int) × Int × Unit × Unit × Int × Int × Bool × Int × Unit) × ((List Int) × (List Int) × Unit)) → Option ((((List Int) × (List Int) × Int × Unit × Unit × Int × Int × Unit) × ((List Int) × (List Int) × Unit)) ⊕ Empty)) (L : (((List Int) × (List Int) × Int × Unit × Unit × Int × Int × Unit) × ((List Int) × (List Int) × Unit)) → Option ((((List Int) × (List Int) × Int × Unit × Unit × Int × Unit) × ((List Int) × (List Int) × Unit)) ⊕ Empty)) (x_0 : (List Int)) (y_1 : (List Int)) (gap_2 : Int) (i_8 : Int) (j_9 : Int) (o0 : List Int) (o1 : List Int) : Option ((((List Int) × (List Int) × Int × Unit × Unit × Int × Unit) × ((List Int) × (List Int) × Unit)) ⊕ Empty) :=
  (bif (decide (j_9 ≤ (((List.length y_1) : Nat) : Int))) then
   (Option.bind (l2 ((x_0, (y_1, (gap_2, ((), ((), (i_8, (j_9, (Bool.true, ((1:Int), ()))))))))), (o0, (o1, ())))) (fun y1 =>
   (Sum.elim (fun a2 =>
    (Option.bind (L ((a2.1.1, (a2.1.2.1, (a2.1.2.2.1, ((), ((), (a2.1.2.2.2.2.2.1, ((Go.IntKind.wrap Go.IntKind.i64 (a2.1.2.2.2.2.2.2.1 + (1:Int))), ()))))))), (a2.2.1, (a2.2.2.1, ())))) (fun y3 =>
    (some y3)))) (fun b2 =>
    (Empty.elim b2)) y1)))
  else
   (some (Sum.inl ((x_0, (y_1, (gap_2, ((), ((), (i_8, ())))))), (o0, (o1, ()))))))
theorem edit_table.eq1 (g_edit_last : edit_last.sh.X → Option edit_last.osh.X) (l0 : edit_table.s0.X → Option (sumX edit_table.x0)) (l1 : edit_table.s1.X → Option (sumX edit_table.x1)) (l2 : edit_table.s2.X → Option (sumX edit_table.x2)) (l3 : edit_table.s3.X → Option (sumX edit_table.x3)) (L : (((List Int) × (List Int) × Int × Unit × Unit × Int × Int × Unit) × ((List Int) × (List Int) × Unit)) → Option ((((List Int) × (List Int) × Int × Unit × Unit × Int × Unit) × ((List Int) × (List Int) × Unit)) ⊕ Empty)) (x : (((List Int) × (List Int) × Int × Unit × Unit × Int × Int × Unit) × ((List Int) × (List Int) × Unit))) : (roundK (edit_table.E g_edit_last l0 l1 l2 l3) edit_table.s1 [0, 1, 2, 6, 7, 8, 9] [(4, [0, 1, 2, 6, 7, 8])] true (((mk edit_table.hs edit_table.c []).atoms.getD 1 .bad).body) edit_table.x1 L x).run _ some = edit_table.f1 l2 L x.1.1 x.1.2.1 x.1.2.2.1 x.1.2.2.2.2.2.1 x.1.2.2.2.2.2.2.1 x.2.1 x.2.2.1 := by
  show _ = (_ : Option _)
  kernel_rfl
noncomputable def edit_table.L1 : (((List Int) × (List Int) × Int × Unit × Unit × Int × Int × Unit) × ((List Int) × (List Int) × Unit)) → Option ((((List Int) × (List Int) × Int × Unit × Unit × Int × Unit) × ((List Int) × (List Int) × Unit)) ⊕ Empty) := loop fun L x => edit_table.f1 edit_table.L2 L x.1.1 x.1.2.1 x.1.2.2.1 x.1.2.2.2.2.2.1 x.1.2.2.2.2.2.2.1 x.2.1 x.2.2.1
def edit_table.f0 (l1 : (((List Int) × (List Int) × Int × Unit × Unit × Int × Int × Unit) × ((List Int) × (List Int) × Unit)) → Option ((((List Int) × (List Int) × Int × Unit × Unit × Int × Unit) × ((List Int) × (List Int) × Unit)) ⊕ Empty)) (L : (((List Int) × (List Int) × Int × Unit × Unit × Int × Unit) × ((List Int) × (List Int) × Unit)) → Option (((Unit × Unit × Unit) × ((List Int) × (List Int) × Unit)) ⊕ Empty)) (x_0 : (List Int)) (y_1 : (List Int)) (gap_2 : Int) (i_8 : Int) (o0 : List Int) (o1 : List Int) : Option (((Unit × Unit × Unit) × ((List Int) × (List Int) × Unit)) ⊕ Empty) :=
  (bif (decide (i_8 ≤ (((List.length x_0) : Nat) : Int))) then
   (Option.bind (l1 ((x_0, (y_1, (gap_2, ((), ((), (i_8, ((0:Int), ()))))))), (o0, (o1, ())))) (fun y1 =>
   (Sum.elim (fun a2 =>
    (Option.bind (L ((a2.1.1, (a2.1.2.1, (a2.1.2.2.1, ((), ((), ((Go.IntKind.wrap Go.IntKind.i64 (a2.1.2.2.2.2.2.1 + (1:Int))), ())))))), (a2.2.1, (a2.2.2.1, ())))) (fun y3 =>
    (some y3)))) (fun b2 =>
    (Empty.elim b2)) y1)))
  else
   (some (Sum.inl (((), ((), ())), (o0, (o1, ()))))))
theorem edit_table.eq0 (g_edit_last : edit_last.sh.X → Option edit_last.osh.X) (l0 : edit_table.s0.X → Option (sumX edit_table.x0)) (l1 : edit_table.s1.X → Option (sumX edit_table.x1)) (l2 : edit_table.s2.X → Option (sumX edit_table.x2)) (l3 : edit_table.s3.X → Option (sumX edit_table.x3)) (L : (((List Int) × (List Int) × Int × Unit × Unit × Int × Unit) × ((List Int) × (List Int) × Unit)) → Option (((Unit × Unit × Unit) × ((List Int) × (List Int) × Unit)) ⊕ Empty)) (x : (((List Int) × (List Int) × Int × Unit × Unit × Int × Unit) × ((List Int) × (List Int) × Unit))) : (roundK (edit_table.E g_edit_last l0 l1 l2 l3) edit_table.s0 [0, 1, 2, 6, 7, 8] [(2, [6, 7])] true (((mk edit_table.hs edit_table.c []).atoms.getD 0 .bad).body) edit_table.x0 L x).run _ some = edit_table.f0 l1 L x.1.1 x.1.2.1 x.1.2.2.1 x.1.2.2.2.2.2.1 x.2.1 x.2.2.1 := by
  show _ = (_ : Option _)
  kernel_rfl
noncomputable def edit_table.L0 : (((List Int) × (List Int) × Int × Unit × Unit × Int × Unit) × ((List Int) × (List Int) × Unit)) → Option (((Unit × Unit × Unit) × ((List Int) × (List Int) × Unit)) ⊕ Empty) := loop fun L x => edit_table.f0 edit_table.L1 L x.1.1 x.1.2.1 x.1.2.2.1 x.1.2.2.2.2.2.1 x.2.1 x.2.2.1
def edit_table.f (l0 : (((List Int) × (List Int) × Int × Unit × Unit × Int × Unit) × ((List Int) × (List Int) × Unit)) → Option (((Unit × Unit × Unit) × ((List Int) × (List Int) × Unit)) ⊕ Empty)) (x_ : (List Int)) (y : (List Int)) (gap : Int) : Option (((List Int) × Unit) × (Unit)) :=
  (Option.bind (l0 ((x_, (y, (gap, ((), ((), ((0:Int), ())))))), ((List.replicate (1089:Nat) (0:Int)), ((List.replicate (1089:Nat) (0:Int)), ())))) (fun y0 =>
  (Sum.elim (fun a1 =>
   (bif (decide ((((List.length a1.2.2.1) : Nat) : Int) = (((1089:Nat) : Nat) : Int))) then
    (bif (decide ((((List.length a1.2.1) : Nat) : Int) = (((1089:Nat) : Nat) : Int))) then
     (bif (decide ((((List.length a1.2.2.1) : Nat) : Int) = (((1089:Nat) : Nat) : Int))) then
      (bif (decide ((((List.length a1.2.2.1) : Nat) : Int) = (((1089:Nat) : Nat) : Int))) then
       (some ((a1.2.2.1, ()), ()))
      else
       none)
     else
      none)
    else
     none)
   else
    none)) (fun b1 =>
   (Empty.elim b1)) y0)))
theorem edit_table.eq (g_edit_last : edit_last.sh.X → Option edit_last.osh.X) (l0 : edit_table.s0.X → Option (sumX edit_table.x0)) (l1 : edit_table.s1.X → Option (sumX edit_table.x1)) (l2 : edit_table.s2.X → Option (sumX edit_table.x2)) (l3 : edit_table.s3.X → Option (sumX edit_table.x3)) (x : (((List Int) × (List Int) × Int × Unit) × (Unit))) : (bodyO (edit_table.E g_edit_last l0 l1 l2 l3) (mk edit_table.hs edit_table.c []) Go.Proofs.Try.f97.results.toList edit_table.sh edit_table.osh x).run _ some = edit_table.f l0 x.1.1 x.1.2.1 x.1.2.2.1 := by
  show _ = (_ : Option _)
  kernel_rfl
noncomputable def edit_table (x_ : (List Int)) (y : (List Int)) (gap : Int) : Option (((List Int) × Unit) × (Unit)) := edit_table.f edit_table.L0 x_ y gap
noncomputable def edit_table.F (x : (((List Int) × (List Int) × Int × Unit) × (Unit))) : Option (((List Int) × Unit) × (Unit)) := edit_table x.1.1 x.1.2.1 x.1.2.2.1
theorem edit_table.L0_eq (x_0 : (List Int)) (y_1 : (List Int)) (gap_2 : Int) (i_8 : Int) (o0 : List Int) (o1 : List Int) : edit_table.L0 ((x_0, y_1, gap_2, (), (), i_8, ()), (o0, o1, ())) = edit_table.f0 edit_table.L1 edit_table.L0 x_0 y_1 gap_2 i_8 o0 o1 :=
  loop_eq (E := (edit_table.E edit_last.F edit_table.L0 edit_table.L1 edit_table.L2 edit_table.L3)) (sh := edit_table.s0) (es := edit_table.x0) (lp := true) (H := fun L x => edit_table.eq0 edit_last.F edit_table.L0 edit_table.L1 edit_table.L2 edit_table.L3 L x) ((x_0, y_1, gap_2, (), (), i_8, ()), (o0, o1, ()))
theorem edit_table.L1_eq (x_0 : (List Int)) (y_1 : (List Int)) (gap_2 : Int) (i_8 : Int) (j_9 : Int) (o0 : List Int) (o1 : List Int) : edit_table.L1 ((x_0, y_1, gap_2, (), (), i_8, j_9, ()), (o0, o1, ())) = edit_table.f1 edit_table.L2 edit_table.L1 x_0 y_1 gap_2 i_8 j_9 o0 o1 :=
  loop_eq (E := (edit_table.E edit_last.F edit_table.L0 edit_table.L1 edit_table.L2 edit_table.L3)) (sh := edit_table.s1) (es := edit_table.x1) (lp := true) (H := fun L x => edit_table.eq1 edit_last.F edit_table.L0 edit_table.L1 edit_table.L2 edit_table.L3 L x) ((x_0, y_1, gap_2, (), (), i_8, j_9, ()), (o0, o1, ()))
theorem edit_table.L2_eq (x_0 : (List Int)) (y_1 : (List Int)) (gap_2 : Int) (i_8 : Int) (j_9 : Int) (first_10 : Bool) (step_11 : Int) (o0 : List Int) (o1 : List Int) : edit_table.L2 ((x_0, y_1, gap_2, (), (), i_8, j_9, first_10, step_11, ()), (o0, o1, ())) = edit_table.f2 edit_last.F edit_table.L3 edit_table.L2 x_0 y_1 gap_2 i_8 j_9 first_10 step_11 o0 o1 :=
  loop_eq (E := (edit_table.E edit_last.F edit_table.L0 edit_table.L1 edit_table.L2 edit_table.L3)) (sh := edit_table.s2) (es := edit_table.x2) (lp := true) (H := fun L x => edit_table.eq2 edit_last.F edit_table.L0 edit_table.L1 edit_table.L2 edit_table.L3 L x) ((x_0, y_1, gap_2, (), (), i_8, j_9, first_10, step_11, ()), (o0, o1, ()))
theorem edit_table.L3_eq (x_0 : (List Int)) (y_1 : (List Int)) (gap_2 : Int) (i_8 : Int) (j_9 : Int) (first_10 : Bool) (step_11 : Int) (cost_12 : Int) (a_13 : Int) (b_14 : Int) (ok_15 : Bool) (o0 : List Int) (o1 : List Int) : edit_table.L3 ((x_0, y_1, gap_2, (), (), i_8, j_9, first_10, step_11, cost_12, a_13, b_14, ok_15, ()), (o0, o1, ())) = edit_table.f3 x_0 y_1 gap_2 i_8 j_9 first_10 step_11 cost_12 a_13 b_14 ok_15 o0 o1 := rfl
theorem edit_table.F_eq (x_ : (List Int)) (y : (List Int)) (gap : Int) : edit_table.F ((x_, y, gap, ()), ()) = edit_table.f edit_table.L0 x_ y gap := rfl
theorem edit_table.ok {tabs : List (Nat × Go.Obj)} (ht : TabsOk tabs) : FOK Go.Proofs.Try.prog tabs 97 (FE.of [true, true, true] false edit_table.sh edit_table.osh edit_table.F) := by
  refine fn_keeps (E := (edit_table.E edit_last.F edit_table.L0 edit_table.L1 edit_table.L2 edit_table.L3)) (c := edit_table.c) (fn := Go.Proofs.Try.f97) (hs := edit_table.hs) (by kernel_rfl) Go.Proofs.Try.func97 ⟨by kernel_rfl, by kernel_rfl, tb, by kernel_rfl, by kernel_rfl, by kernel_rfl, by kernel_rfl, by kernel_rfl⟩ ⟨fun g ks fe h => ?_, gt_ok ht⟩ ?_ (fun x => edit_table.eq edit_last.F edit_table.L0 edit_table.L1 edit_table.L2 edit_table.L3 x)
  · rcases c_cons h with ⟨rfl, rfl⟩ | h
    · exact edit_last.ok ht
    cases h
  · refine known_at 4 (by kernel_rfl) fun i hi => ?_
    match i, hi with
    | 0, _ => exact atom_at (id := 0) (live := [0, 1, 2, 6, 7, 8]) (outs := [(2, [6, 7])]) (loop := true) (by kernel_rfl) (loop_ok (E := (edit_table.E edit_last.F edit_table.L0 edit_table.L1 edit_table.L2 edit_table.L3)) (sh := edit_table.s0) (es := edit_table.x0) rfl (fun L x => edit_table.eq0 edit_last.F edit_table.L0 edit_table.L1 edit_table.L2 edit_table.L3 L x))
    | 1, _ => exact atom_at (id := 1) (live := [0, 1, 2, 6, 7, 8, 9]) (outs := [(4, [0, 1, 2, 6, 7, 8])]) (loop := true) (by kernel_rfl) (loop_ok (E := (edit_table.E edit_last.F edit_table.L0 edit_table.L1 edit_table.L2 edit_table.L3)) (sh := edit_table.s1) (es := edit_table.x1) rfl (fun L x => edit_table.eq1 edit_last.F edit_table.L0 edit_table.L1 edit_table.L2 edit_table.L3 L x))
    | 2, _ => exact atom_at (id := 2) (live := [0, 1, 2, 6, 7, 8, 9, 10, 11]) (outs := [(6, [0, 1, 2, 6, 7, 8, 9])]) (loop := true) (by kernel_rfl) (loop_ok (E := (edit_table.E edit_last.F edit_table.L0 edit_table.L1 edit_table.L2 edit_table.L3)) (sh := edit_table.s2) (es := edit_table.x2) rfl (fun L x => edit_table.eq2 edit_last.F edit_table.L0 edit_table.L1 edit_table.L2 edit_table.L3 L x))
    | 3, _ => exact atom_at (id := 3) (live := [0, 1, 2, 6, 7, 8, 9, 10, 11, 12, 13, 14, 15]) (outs := [(0, [0, 1, 2, 6, 7, 8, 9, 10, 11, 12, 13, 14, 62])]) (loop := false) (by kernel_rfl) (cut_ok (E := (edit_table.E edit_last.F edit_table.L0 edit_table.L1 edit_table.L2 edit_table.L3)) (sh := edit_table.s3) (es := edit_table.x3) rfl (fun L x => edit_table.eq3 edit_last.F edit_table.L0 edit_table.L1 edit_table.L2 edit_table.L3 L x))
    | n + 4, h => exact absurd h (by omega)

/-! edit_Distance -/
def edit_Distance.f (g_edit_check : (((List Int) × (List Int) × Int × Unit) × (Unit)) → Option ((Int × Unit) × (Unit))) (g_edit_table : (((List Int) × (List Int) × Int × Unit) × (Unit)) → Option (((List Int) × Unit) × (Unit))) (x_ : (List Int)) (y : (List Int)) (gap : Int) : Option ((Int × Int × Unit) × (Unit)) :=
  (Option.bind (g_edit_check ((x_, (y, (gap, ()))), ())) (fun y0 =>
  (bif (y0.1.1 != (0:Int)) then
   (some (((0:Int), (y0.1.1, ())), ()))
  else
   (Option.bind (g_edit_table ((x_, (y, (gap, ()))), ())) (fun y2 =>
   (bif (decide ((((List.length x_) : Nat) : Int) < (((33:Nat) : Nat) : Int))) then
    (bif (decide ((((((Int.toNat (((List.length x_) : Nat) : Int)) * (33:Nat)) + (33:Nat)) : Nat) : Int) ≤ (((List.length y2.1.1) : Nat) : Int))) then
     (bif (decide ((((List.length y) : Nat) : Int) < (((33:Nat) : Nat) : Int))) then
      (bif (decide ((((List.length y) : Nat) : Int) < (((List.length (List.take (33:Nat) (List.drop ((Int.toNat (((List.length x_) : Nat) : Int)) * (33:Nat)) y2.1.1))) : Nat) : Int))) then
       (some (((List.getD (List.take (33:Nat) (List.drop ((Int.toNat (((List.length x_) : Nat) : Int)) * (33:Nat)) y2.1.1)) (Int.toNat (((List.length y) : Nat) : Int)) (0:Int)), ((0:Int), ())), ()))
      else
       none)
     else
      none)
    else
     none)
   else
    none))))))
theorem edit_Distance.eq (g_edit_check : edit_check.sh.X → Option edit_check.osh.X) (g_edit_table : edit_table.sh.X → Option edit_table.osh.X) (x : (((List Int) × (List Int) × Int × Unit) × (Unit))) : (bodyO (edit_Distance.E g_edit_check g_edit_table) (mk edit_Distance.hs edit_Distance.c []) Go.Proofs.Try.f84.results.toList edit_Distance.sh edit_Distance.osh x).run _ some = edit_Distance.f g_edit_check g_edit_table x.1.1 x.1.2.1 x.1.2.2.1 := by
  show _ = (_ : Option _)
  kernel_rfl
noncomputable def edit_Distance (x_ : (List Int)) (y : (List Int)) (gap : Int) : Option ((Int × Int × Unit) × (Unit)) := edit_Distance.f edit_check.F edit_table.F x_ y gap
noncomputable def edit_Distance.F (x : (((List Int) × (List Int) × Int × Unit) × (Unit))) : Option ((Int × Int × Unit) × (Unit)) := edit_Distance x.1.1 x.1.2.1 x.1.2.2.1
theorem edit_Distance.F_eq (x_ : (List Int)) (y : (List Int)) (gap : Int) : edit_Distance.F ((x_, y, gap, ()), ()) = edit_Distance.f edit_check.F edit_table.F x_ y gap := rfl
theorem edit_Distance.ok {tabs : List (Nat × Go.Obj)} (ht : TabsOk tabs) : FOK Go.Proofs.Try.prog tabs 84 (FE.of [true, true, true] false edit_Distance.sh edit_Distance.osh edit_Distance.F) := by
  refine fn_keeps (E := (edit_Distance.E edit_check.F edit_table.F)) (c := edit_Distance.c) (fn := Go.Proofs.Try.f84) (hs := edit_Distance.hs) (by kernel_rfl) Go.Proofs.Try.func84 ⟨by kernel_rfl, by kernel_rfl, tb, by kernel_rfl, by kernel_rfl, by kernel_rfl, by kernel_rfl, by kernel_rfl⟩ ⟨fun g ks fe h => ?_, gt_ok ht⟩ ?_ (fun x => edit_Distance.eq edit_check.F edit_table.F x)
  · rcases c_cons h with ⟨rfl, rfl⟩ | h
    · exact edit_check.ok ht
    rcases c_cons h with ⟨rfl, rfl⟩ | h
    · exact edit_table.ok ht
    cases h
  · exact known_at 0 (by kernel_rfl) fun i hi => absurd hi (Nat.not_lt_zero i)

/-! measure_distances_3 -/
def measure_distances_3.f (g_edit_Distance : (((List Int) × (List Int) × Int × Unit) × (Unit)) → Option ((Int × Int × Unit) × (Unit))) (g_measure_whole : ((Int × Int × Unit) × (Unit)) → Option (((Int × Int × Unit) × Int × Unit) × (Unit))) (x_ : (List Int)) (y : (List Int)) (o0_0 : Int) (o0_1 : Int) (o0_2 : Int) : Option (((Int × Int × Unit) × Int × Unit) × ((Int × Int × Int × Unit) × Unit)) :=
  (Option.bind (g_edit_Distance ((x_, (y, (o0_2, ()))), ())) (fun y0 =>
  (Option.bind (g_measure_whole ((y0.1.1, (y0.1.2.1, ())), ())) (fun y1 =>
  (some (((y1.1.1.1, (y1.1.1.2.1, ())), (y1.1.2.1, ())), ((o0_0, (o0_1, (o0_2, ()))), ())))))))
theorem measure_distances_3.eq (g_edit_Distance : edit_Distance.sh.X → Option edit_Distance.osh.X) (g_measure_whole : measure_whole.sh.X → Option measure_whole.osh.X) (x : (((List Int) × (List Int) × Unit × Unit) × ((Int × Int × Int × Unit) × Unit))) : (bodyO (measure_distances_3.E g_edit_Distance g_measure_whole) (mk measure_distances_3.hs measure_distances_3.c []) Go.Proofs.Try.f83.results.toList measure_distances_3.sh measure_distances_3.osh x).run _ some = measure_distances_3.f g_edit_Distance g_measure_whole x.1.1 x.1.2.1 x.2.1.1 x.2.1.2.1 x.2.1.2.2.1 := by
  show _ = (_ : Option _)
  kernel_rfl
noncomputable def measure_distances_3 (x_ : (List Int)) (y : (List Int)) (o0_0 : Int) (o0_1 : Int) (o0_2 : Int) : Option (((Int × Int × Unit) × Int × Unit) × ((Int × Int × Int × Unit) × Unit)) := measure_distances_3.f edit_Distance.F measure_whole.F x_ y o0_0 o0_1 o0_2
noncomputable def measure_distances_3.F (x : (((List Int) × (List Int) × Unit × Unit) × ((Int × Int × Int × Unit) × Unit))) : Option (((Int × Int × Unit) × Int × Unit) × ((Int × Int × Int × Unit) × Unit)) := measure_distances_3 x.1.1 x.1.2.1 x.2.1.1 x.2.1.2.1 x.2.1.2.2.1
theorem measure_distances_3.F_eq (x_ : (List Int)) (y : (List Int)) (o0_0 : Int) (o0_1 : Int) (o0_2 : Int) : measure_distances_3.F ((x_, y, (), ()), ((o0_0, o0_1, o0_2, ()), ())) = measure_distances_3.f edit_Distance.F measure_whole.F x_ y o0_0 o0_1 o0_2 := rfl
theorem measure_distances_3.ok {tabs : List (Nat × Go.Obj)} (ht : TabsOk tabs) : FOK Go.Proofs.Try.prog tabs 83 (FE.of [true, true] false measure_distances_3.sh measure_distances_3.osh measure_distances_3.F) := by
  refine fn_keeps (E := (measure_distances_3.E edit_Distance.F measure_whole.F)) (c := measure_distances_3.c) (fn := Go.Proofs.Try.f83) (hs := measure_distances_3.hs) (by kernel_rfl) Go.Proofs.Try.func83 ⟨by kernel_rfl, by kernel_rfl, tb, by kernel_rfl, by kernel_rfl, by kernel_rfl, by kernel_rfl, by kernel_rfl⟩ ⟨fun g ks fe h => ?_, gt_ok ht⟩ ?_ (fun x => measure_distances_3.eq edit_Distance.F measure_whole.F x)
  · rcases c_cons h with ⟨rfl, rfl⟩ | h
    · exact edit_Distance.ok ht
    rcases c_cons h with ⟨rfl, rfl⟩ | h
    · exact measure_whole.ok ht
    cases h
  · exact known_at 0 (by kernel_rfl) fun i hi => absurd hi (Nat.not_lt_zero i)

/-! measure_Distance -/
def measure_Distance.f (g_measure_Check : (((Int × Int × Int × Unit) × Unit) × (Unit)) → Option ((Int × Unit) × (Unit))) (g_measure_distances : (((Int × Int × Int × Unit) × Unit) × (Unit)) → Option ((Unit × Unit) × ((Int × Int × Int × Unit) × Unit))) (g_measure_distances_1 : (((List Int) × (List Int) × Unit) × (Unit)) → Option (((Int × Int × Unit) × Int × Unit) × (Unit))) (g_euclid_Shifted : (((List Int) × (List Int) × Unit) × (Unit)) → Option (((Int × Int × Unit) × Int × Unit) × (Unit))) (g_normal_Gap : (((List Int) × (List Int) × Unit) × (Unit)) → Option (((Int × Int × Unit) × Int × Unit) × (Unit))) (g_measure_distances_2 : (((List Int) × (List Int) × Unit × Unit) × ((Int × Int × Int × Unit) × Unit)) → Option (((Int × Int × Unit) × Int × Unit) × ((Int × Int × Int × Unit) × Unit))) (g_measure_distances_3 : (((List Int) × (List Int) × Unit × Unit) × ((Int × Int × Int × Unit) × Unit)) → Option (((Int × Int × Unit) × Int × Unit) × ((Int × Int × Int × Unit) × Unit))) (m_Kind : Int) (m_Band : Int) (m_Gap : Int) (x_ : (List Int)) (y : (List Int)) : Option (((Int × Int × Unit) × Int × Unit) × (Unit)) :=
  (Option.bind (g_measure_Check (((m_Kind, (m_Band, (m_Gap, ()))), ()), ())) (fun y0 =>
  (bif (y0.1.1 != (0:Int)) then
   (some ((((0:Int), ((0:Int), ())), (y0.1.1, ())), ()))
  else
   (Option.bind (g_measure_distances (((m_Kind, (m_Band, (m_Gap, ()))), ()), ())) (fun y2 =>
   (bif (m_Kind == (1:Int)) then
    (Option.bind (g_measure_distances_1 ((x_, (y, ())), ())) (fun y4 =>
    (some (((y4.1.1.1, (y4.1.1.2.1, ())), (y4.1.2.1, ())), ()))))
   else
    (bif (m_Kind == (2:Int)) then
     (Option.bind (g_euclid_Shifted ((x_, (y, ())), ())) (fun y5 =>
     (some (((y5.1.1.1, (y5.1.1.2.1, ())), (y5.1.2.1, ())), ()))))
    else
     (bif (m_Kind == (3:Int)) then
      (Option.bind (g_normal_Gap ((x_, (y, ())), ())) (fun y6 =>
      (some (((y6.1.1.1, (y6.1.1.2.1, ())), (y6.1.2.1, ())), ()))))
     else
      (bif (m_Kind == (4:Int)) then
       (Option.bind (g_measure_distances_2 ((x_, (y, ((), ()))), ((y2.2.1.1, (y2.2.1.2.1, (y2.2.1.2.2.1, ()))), ()))) (fun y7 =>
       (some (((y7.1.1.1, (y7.1.1.2.1, ())), (y7.1.2.1, ())), ()))))
      else
       (bif (m_Kind == (5:Int)) then
        (Option.bind (g_measure_distances_3 ((x_, (y, ((), ()))), ((y2.2.1.1, (y2.2.1.2.1, (y2.2.1.2.2.1, ()))), ()))) (fun y8 =>
        (some (((y8.1.1.1, (y8.1.1.2.1, ())), (y8.1.2.1, ())), ()))))
       else
        none))))))))))
theorem measure_Distance.eq (g_measure_Check : measure_Check.sh.X → Option measure_Check.osh.X) (g_measure_distances : measure_distances.sh.X → Option measure_distances.osh.X) (g_measure_distances_1 : measure_distances_1.sh.X → Option measure_distances_1.osh.X) (g_euclid_Shifted : euclid_Shifted.sh.X → Option euclid_Shifted.osh.X) (g_normal_Gap : normal_Gap.sh.X → Option normal_Gap.osh.X) (g_measure_distances_2 : measure_distances_2.sh.X → Option measure_distances_2.osh.X) (g_measure_distances_3 : measure_distances_3.sh.X → Option measure_distances_3.osh.X) (x : (((Int × Int × Int × Unit) × (List Int) × (List Int) × Unit) × (Unit))) : (bodyO (measure_Distance.E g_measure_Check g_measure_distances g_measure_distances_1 g_euclid_Shifted g_normal_Gap g_measure_distances_2 g_measure_distances_3) (mk measure_Distance.hs measure_Distance.c []) Go.Proofs.Try.f37.results.toList measure_Distance.sh measure_Distance.osh x).run _ some = measure_Distance.f g_measure_Check g_measure_distances g_measure_distances_1 g_euclid_Shifted g_normal_Gap g_measure_distances_2 g_measure_distances_3 x.1.1.1 x.1.1.2.1 x.1.1.2.2.1 x.1.2.1 x.1.2.2.1 := by
  show _ = (_ : Option _)
  kernel_rfl
noncomputable def measure_Distance (m_Kind : Int) (m_Band : Int) (m_Gap : Int) (x_ : (List Int)) (y : (List Int)) : Option (((Int × Int × Unit) × Int × Unit) × (Unit)) := measure_Distance.f measure_Check.F measure_distances.F measure_distances_1.F euclid_Shifted.F normal_Gap.F measure_distances_2.F measure_distances_3.F m_Kind m_Band m_Gap x_ y
noncomputable def measure_Distance.F (x : (((Int × Int × Int × Unit) × (List Int) × (List Int) × Unit) × (Unit))) : Option (((Int × Int × Unit) × Int × Unit) × (Unit)) := measure_Distance x.1.1.1 x.1.1.2.1 x.1.1.2.2.1 x.1.2.1 x.1.2.2.1
theorem measure_Distance.F_eq (m_Kind : Int) (m_Band : Int) (m_Gap : Int) (x_ : (List Int)) (y : (List Int)) : measure_Distance.F (((m_Kind, m_Band, m_Gap, ()), x_, y, ()), ()) = measure_Distance.f measure_Check.F measure_distances.F measure_distances_1.F euclid_Shifted.F normal_Gap.F measure_distances_2.F measure_distances_3.F m_Kind m_Band m_Gap x_ y := rfl
theorem measure_Distance.ok {tabs : List (Nat × Go.Obj)} (ht : TabsOk tabs) : FOK Go.Proofs.Try.prog tabs 37 (FE.of [true, true, true] false measure_Distance.sh measure_Distance.osh measure_Distance.F) := by
  refine fn_keeps (E := (measure_Distance.E measure_Check.F measure_distances.F measure_distances_1.F euclid_Shifted.F normal_Gap.F measure_distances_2.F measure_distances_3.F)) (c := measure_Distance.c) (fn := Go.Proofs.Try.f37) (hs := measure_Distance.hs) (by kernel_rfl) Go.Proofs.Try.func37 ⟨by kernel_rfl, by kernel_rfl, tb, by kernel_rfl, by kernel_rfl, by kernel_rfl, by kernel_rfl, by kernel_rfl⟩ ⟨fun g ks fe h => ?_, gt_ok ht⟩ ?_ (fun x => measure_Distance.eq measure_Check.F measure_distances.F measure_distances_1.F euclid_Shifted.F normal_Gap.F measure_distances_2.F measure_distances_3.F x)
  · rcases c_cons h with ⟨rfl, rfl⟩ | h
    · exact measure_Check.ok ht
    rcases c_cons h with ⟨rfl, rfl⟩ | h
    · exact measure_distances.ok ht
    rcases c_cons h with ⟨rfl, rfl⟩ | h
    · exact measure_distances_1.ok ht
    rcases c_cons h with ⟨rfl, rfl⟩ | h
    · exact euclid_Shifted.ok ht
    rcases c_cons h with ⟨rfl, rfl⟩ | h
    · exact normal_Gap.ok ht
    rcases c_cons h with ⟨rfl, rfl⟩ | h
    · exact measure_distances_2.ok ht
    rcases c_cons h with ⟨rfl, rfl⟩ | h
    · exact measure_distances_3.ok ht
    cases h
  · exact known_at 0 (by kernel_rfl) fun i hi => absurd hi (Nat.not_lt_zero i)

/-! ratio_Valid -/
def ratio_Valid.f (g_ratio_within : (((Int × Int × Unit) × Unit) × (Unit)) → Option ((Bool × Unit) × (Unit))) (g_ratio_divisor : ((Int × Int × Unit) × (Unit)) → Option ((Int × Unit) × (Unit))) (a_Num : Int) (a_Den : Int) : Option ((Bool × Unit) × (Unit)) :=
  (Option.bind (g_ratio_within (((a_Num, (a_Den, ())), ()), ())) (fun y0 =>
  (bif y0.1.1 then
   (Option.bind (g_ratio_divisor ((a_Num, (a_Den, ())), ())) (fun y2 =>
   (some (((y2.1.1 == (1:Int)), ()), ()))))
  else
   (some ((Bool.false, ()), ())))))
theorem ratio_Valid.eq (g_ratio_within : ratio_within.sh.X → Option ratio_within.osh.X) (g_ratio_divisor : ratio_divisor.sh.X → Option ratio_divisor.osh.X) (x : (((Int × Int × Unit) × Unit) × (Unit))) : (bodyO (ratio_Valid.E g_ratio_within g_ratio_divisor) (mk ratio_Valid.hs ratio_Valid.c []) Go.Proofs.Try.f52.results.toList ratio_Valid.sh ratio_Valid.osh x).run _ some = ratio_Valid.f g_ratio_within g_ratio_divisor x.1.1.1 x.1.1.2.1 := by
  show _ = (_ : Option _)
  kernel_rfl
noncomputable def ratio_Valid (a_Num : Int) (a_Den : Int) : Option ((Bool × Unit) × (Unit)) := ratio_Valid.f ratio_within.F ratio_divisor.F a_Num a_Den
noncomputable def ratio_Valid.F (x : (((Int × Int × Unit) × Unit) × (Unit))) : Option ((Bool × Unit) × (Unit)) := ratio_Valid x.1.1.1 x.1.1.2.1
theorem ratio_Valid.F_eq (a_Num : Int) (a_Den : Int) : ratio_Valid.F (((a_Num, a_Den, ()), ()), ()) = ratio_Valid.f ratio_within.F ratio_divisor.F a_Num a_Den := rfl
theorem ratio_Valid.ok {tabs : List (Nat × Go.Obj)} (ht : TabsOk tabs) : FOK Go.Proofs.Try.prog tabs 52 (FE.of [true] false ratio_Valid.sh ratio_Valid.osh ratio_Valid.F) := by
  refine fn_keeps (E := (ratio_Valid.E ratio_within.F ratio_divisor.F)) (c := ratio_Valid.c) (fn := Go.Proofs.Try.f52) (hs := ratio_Valid.hs) (by kernel_rfl) Go.Proofs.Try.func52 ⟨by kernel_rfl, by kernel_rfl, tb, by kernel_rfl, by kernel_rfl, by kernel_rfl, by kernel_rfl, by kernel_rfl⟩ ⟨fun g ks fe h => ?_, gt_ok ht⟩ ?_ (fun x => ratio_Valid.eq ratio_within.F ratio_divisor.F x)
  · rcases c_cons h with ⟨rfl, rfl⟩ | h
    · exact ratio_within.ok ht
    rcases c_cons h with ⟨rfl, rfl⟩ | h
    · exact ratio_divisor.ok ht
    cases h
  · exact known_at 0 (by kernel_rfl) fun i hi => absurd hi (Nat.not_lt_zero i)

/-! bits_Mul64 -/
def bits_Mul64.f (x_ : Int) (y : Int) : Option ((Int × Int × Unit) × (Unit)) :=
  (some (((Go.IntKind.wrap Go.IntKind.u64 ((Go.IntKind.wrap Go.IntKind.u64 ((Go.IntKind.wrap Go.IntKind.u64 ((Int.fdiv x_ ((2:Int) ^ (Min.min (Int.toNat (32:Int)) (64:Nat)))) * (Int.fdiv y ((2:Int) ^ (Min.min (Int.toNat (32:Int)) (64:Nat)))))) + (Int.fdiv (Go.IntKind.wrap Go.IntKind.u64 ((Go.IntKind.wrap Go.IntKind.u64 ((Int.fdiv x_ ((2:Int) ^ (Min.min (Int.toNat (32:Int)) (64:Nat)))) * (Go.IntKind.wrap Go.IntKind.u64 (((BitVec.toNat (HAnd.hAnd (BitVec.ofInt (64:Nat) y) (BitVec.ofInt (64:Nat) (4294967295:Int)))) : Nat) : Int)))) + (Int.fdiv (Go.IntKind.wrap Go.IntKind.u64 ((Go.IntKind.wrap Go.IntKind.u64 (((BitVec.toNat (HAnd.hAnd (BitVec.ofInt (64:Nat) x_) (BitVec.ofInt (64:Nat) (4294967295:Int)))) : Nat) : Int)) * (Go.IntKind.wrap Go.IntKind.u64 (((BitVec.toNat (HAnd.hAnd (BitVec.ofInt (64:Nat) y) (BitVec.ofInt (64:Nat) (4294967295:Int)))) : Nat) : Int)))) ((2:Int) ^ (Min.min (Int.toNat (32:Int)) (64:Nat)))))) ((2:Int) ^ (Min.min (Int.toNat (32:Int)) (64:Nat)))))) + (Int.fdiv (Go.IntKind.wrap Go.IntKind.u64 ((Go.IntKind.wrap Go.IntKind.u64 (((BitVec.toNat (HAnd.hAnd (BitVec.ofInt (64:Nat) (Go.IntKind.wrap Go.IntKind.u64 ((Go.IntKind.wrap Go.IntKind.u64 ((Int.fdiv x_ ((2:Int) ^ (Min.min (Int.toNat (32:Int)) (64:Nat)))) * (Go.IntKind.wrap Go.IntKind.u64 (((BitVec.toNat (HAnd.hAnd (BitVec.ofInt (64:Nat) y) (BitVec.ofInt (64:Nat) (4294967295:Int)))) : Nat) : Int)))) + (Int.fdiv (Go.IntKind.wrap Go.IntKind.u64 ((Go.IntKind.wrap Go.IntKind.u64 (((BitVec.toNat (HAnd.hAnd (BitVec.ofInt (64:Nat) x_) (BitVec.ofInt (64:Nat) (4294967295:Int)))) : Nat) : Int)) * (Go.IntKind.wrap Go.IntKind.u64 (((BitVec.toNat (HAnd.hAnd (BitVec.ofInt (64:Nat) y) (BitVec.ofInt (64:Nat) (4294967295:Int)))) : Nat) : Int)))) ((2:Int) ^ (Min.min (Int.toNat (32:Int)) (64:Nat))))))) (BitVec.ofInt (64:Nat) (4294967295:Int)))) : Nat) : Int)) + (Go.IntKind.wrap Go.IntKind.u64 ((Go.IntKind.wrap Go.IntKind.u64 (((BitVec.toNat (HAnd.hAnd (BitVec.ofInt (64:Nat) x_) (BitVec.ofInt (64:Nat) (4294967295:Int)))) : Nat) : Int)) * (Int.fdiv y ((2:Int) ^ (Min.min (Int.toNat (32:Int)) (64:Nat)))))))) ((2:Int) ^ (Min.min (Int.toNat (32:Int)) (64:Nat)))))), ((Go.IntKind.wrap Go.IntKind.u64 (x_ * y)), ())), ()))
theorem bits_Mul64.eq (x : ((Int × Int × Unit) × (Unit))) : (bodyO (bits_Mul64.E) (mk bits_Mul64.hs bits_Mul64.c []) Go.Proofs.Try.f75.results.toList bits_Mul64.sh bits_Mul64.osh x).run _ some = bits_Mul64.f x.1.1 x.1.2.1 := by
  show _ = (_ : Option _)
  kernel_rfl
noncomputable def bits_Mul64 (x_ : Int) (y : Int) : Option ((Int × Int × Unit) × (Unit)) := bits_Mul64.f x_ y
noncomputable def bits_Mul64.F (x : ((Int × Int × Unit) × (Unit))) : Option ((Int × Int × Unit) × (Unit)) := bits_Mul64 x.1.1 x.1.2.1
theorem bits_Mul64.F_eq (x_ : Int) (y : Int) : bits_Mul64.F ((x_, y, ()), ()) = bits_Mul64.f x_ y := rfl
theorem bits_Mul64.ok {tabs : List (Nat × Go.Obj)} (ht : TabsOk tabs) : FOK Go.Proofs.Try.prog tabs 75 (FE.of [true, true] false bits_Mul64.sh bits_Mul64.osh bits_Mul64.F) := by
  refine fn_keeps (E := (bits_Mul64.E)) (c := bits_Mul64.c) (fn := Go.Proofs.Try.f75) (hs := bits_Mul64.hs) (by kernel_rfl) Go.Proofs.Try.func75 ⟨by kernel_rfl, by kernel_rfl, tb, by kernel_rfl, by kernel_rfl, by kernel_rfl, by kernel_rfl, by kernel_rfl⟩ ⟨fun g ks fe h => ?_, gt_ok ht⟩ ?_ (fun x => bits_Mul64.eq x)
  · cases h
  · exact known_at 0 (by kernel_rfl) fun i hi => absurd hi (Nat.not_lt_zero i)
end Go.Proofs.Ytefcciajemkicaa.V
