import Derived.Test.YtefcciajemkicaaVg3
import Derived.WalkKit
set_option linter.unusedVariables false
set_option maxRecDepth 100000
namespace Go.Proofs.Ytefcciajemkicaa.V
open Go.VI
/-! second_Deck_Next -/
def second_Deck_Next.f0 (n_1 : Int) (o0_0 : List Int) (o0_1 : Int) : Option Y77 :=
  (bif (decide (o0_1 ≥ (((List.length o0_0) : Nat) : Int))) then
 (some (Sum.inl (((), (n_1, (Bool.true, ()))), ((o0_0, (o0_1, ())), ()))))
 else
 (some (Sum.inl (((), (n_1, ((decide (n_1 ≤ (1:Int))), ()))), ((o0_0, (o0_1, ())), ())))))
theorem second_Deck_Next.eq0 (g_second_Mod : second_Mod.G) (l0 : second_Deck_Next.A0) (L : second_Deck_Next.A0) (x : second_Deck_Next.s0.X) : rndO (second_Deck_Next.E g_second_Mod l0) second_Deck_Next.hs second_Deck_Next.c second_Deck_Next.s0 second_Deck_Next.x0 0 false L x = second_Deck_Next.f0 x.1.2.1 x.2.1.1 x.2.1.2.1 := by
  show _ = (_ : Option _)
  kernel_rfl
noncomputable def second_Deck_Next.L0 : Y102 → Option Y77 := fun x => second_Deck_Next.f0 x.1.2.1 x.2.1.1 x.2.1.2.1
def second_Deck_Next.f (g_second_Mod : Y140 → Option Y143) (l0 : Y102 → Option Y77) (n : Int) (o0_0 : List Int) (o0_1 : Int) : Option Y113 :=
  (Option.bind (l0 (((), (n, ())), ((o0_0, (o0_1, ())), ()))) (fun y0 =>
 (Sum.elim (fun a1 =>
 (bif a1.1.2.2.1 then
 (some (((0:Int), ()), ((a1.2.1.1, (a1.2.1.2.1, ())), ())))
 else
 (bif (decide ((0:Int) ≤ (Go.IntKind.wrap Go.IntKind.i64 ((Go.IntKind.wrap Go.IntKind.i64 (a1.2.1.2.1 + (1:Int))) - (1:Int))))) then
 (bif (decide ((Go.IntKind.wrap Go.IntKind.i64 ((Go.IntKind.wrap Go.IntKind.i64 (a1.2.1.2.1 + (1:Int))) - (1:Int))) < (((List.length a1.2.1.1) : Nat) : Int))) then
 (Option.bind (g_second_Mod (((List.getD a1.2.1.1 (Int.toNat (Go.IntKind.wrap Go.IntKind.i64 ((Go.IntKind.wrap Go.IntKind.i64 (a1.2.1.2.1 + (1:Int))) - (1:Int)))) (0:Int)), (a1.1.2.1, ())), ())) (fun y5 =>
 (some ((y5.1.1, ()), ((a1.2.1.1, ((Go.IntKind.wrap Go.IntKind.i64 (a1.2.1.2.1 + (1:Int))), ())), ())))))
 else
 none)
 else
 none))) (fun b1 =>
 (Empty.elim b1)) y0)))
theorem second_Deck_Next.eq (g_second_Mod : second_Mod.G) (l0 : second_Deck_Next.A0) (x : second_Deck_Next.sh.X) : bodO (second_Deck_Next.E g_second_Mod l0) second_Deck_Next.hs second_Deck_Next.c Try.f18 second_Deck_Next.sh second_Deck_Next.osh x = second_Deck_Next.f g_second_Mod l0 x.1.2.1 x.2.1.1 x.2.1.2.1 := by
  show _ = (_ : Option _)
  kernel_rfl
noncomputable def second_Deck_Next (n : Int) (o0_0 : List Int) (o0_1 : Int) : Option Y113 := second_Deck_Next.f second_Mod.F second_Deck_Next.L0 n o0_0 o0_1
noncomputable def second_Deck_Next.F (x : Y102) : Option Y113 := second_Deck_Next x.1.2.1 x.2.1.1 x.2.1.2.1
theorem second_Deck_Next.L0_eq (n_1 : Int) (o0_0 : List Int) (o0_1 : Int) : second_Deck_Next.L0 (((), n_1, ()), ((o0_0, o0_1, ()), ())) = second_Deck_Next.f0 n_1 o0_0 o0_1 := rfl
theorem second_Deck_Next.F_eq (n : Int) (o0_0 : List Int) (o0_1 : Int) : second_Deck_Next.F (((), n, ()), ((o0_0, o0_1, ()), ())) = second_Deck_Next.f second_Mod.F second_Deck_Next.L0 n o0_0 o0_1 := rfl
theorem second_Deck_Next.ok {tabs : List (Nat × Go.Obj)} (ht : TabsOk tabs) : FOK Try.prog tabs 18 (second_Deck_Next.fe second_Deck_Next.F) := by
  refine fn_keep2 Try.func18 (second_Deck_Next.eq second_Mod.F second_Deck_Next.L0) pw tb (gt_ok ht) (by kernel_rfl) (by kernel_rfl) (fun g ks fe h => ?_) ?_
  · rcases c_cons h with ⟨rfl, rfl⟩ | h
    · exact second_Mod.ok ht
    cases h
  · refine known_at 1 (by kernel_rfl) fun i hi => ?_
    match i, hi with
    | 0, _ => exact atomH (cut_ok (es := second_Deck_Next.x0) rfl (second_Deck_Next.eq0 second_Mod.F second_Deck_Next.L0)) (by kernel_rfl)
    | n + 1, h => exact absurd h (by omega)

/-! second_Deck_Sample -/
def second_Deck_Sample.f (g_second_Deck_Next : Y102 → Option Y113) (o0_0 : List Int) (o0_1 : Int) : Option Y113 :=
  (Option.bind (g_second_Deck_Next (((), ((12:Int), ())), ((o0_0, (o0_1, ())), ()))) (fun y0 =>
 (bif (y0.1.1 == (0:Int)) then
 (Option.bind (g_second_Deck_Next (((), ((2001:Int), ())), ((y0.2.1.1, (y0.2.1.2.1, ())), ()))) (fun y2 =>
 (some (((Go.IntKind.wrap Go.IntKind.i64 (y2.1.1 - (1000:Int))), ()), ((y2.2.1.1, (y2.2.1.2.1, ())), ())))))
 else
 (bif (y0.1.1 == (1:Int)) then
 (Option.bind (g_second_Deck_Next (((), ((2:Int), ())), ((y0.2.1.1, (y0.2.1.2.1, ())), ()))) (fun y3 =>
 (bif (decide ((0:Int) ≤ y3.1.1)) then
 (bif (decide (y3.1.1 < (((List.length [(1000:Int), (-(1000:Int))]) : Nat) : Int))) then
 (some (((List.getD [(1000:Int), (-(1000:Int))] (Int.toNat y3.1.1) (0:Int)), ()), ((y3.2.1.1, (y3.2.1.2.1, ())), ())))
 else
 none)
 else
 none)))
 else
 (Option.bind (g_second_Deck_Next (((), ((13:Int), ())), ((y0.2.1.1, (y0.2.1.2.1, ())), ()))) (fun y3 =>
 (some (((Go.IntKind.wrap Go.IntKind.i64 (y3.1.1 - (4:Int))), ()), ((y3.2.1.1, (y3.2.1.2.1, ())), ())))))))))
theorem second_Deck_Sample.eq (g_second_Deck_Next : second_Deck_Next.G) (x : second_Deck_Sample.sh.X) : bodO (second_Deck_Sample.E g_second_Deck_Next) second_Deck_Sample.hs second_Deck_Sample.c Try.f35 second_Deck_Sample.sh second_Deck_Sample.osh x = second_Deck_Sample.f g_second_Deck_Next x.2.1.1 x.2.1.2.1 := by
  show _ = (_ : Option _)
  kernel_rfl
noncomputable def second_Deck_Sample (o0_0 : List Int) (o0_1 : Int) : Option Y113 := second_Deck_Sample.f second_Deck_Next.F o0_0 o0_1
noncomputable def second_Deck_Sample.F (x : Y111) : Option Y113 := second_Deck_Sample x.2.1.1 x.2.1.2.1
theorem second_Deck_Sample.F_eq (o0_0 : List Int) (o0_1 : Int) : second_Deck_Sample.F (((), ()), ((o0_0, o0_1, ()), ())) = second_Deck_Sample.f second_Deck_Next.F o0_0 o0_1 := rfl
theorem second_Deck_Sample.ok {tabs : List (Nat × Go.Obj)} (ht : TabsOk tabs) : FOK Try.prog tabs 35 (second_Deck_Sample.fe second_Deck_Sample.F) := by
  refine fn_keep2 Try.func35 (second_Deck_Sample.eq second_Deck_Next.F) pw tb (gt_ok ht) (by kernel_rfl) (by kernel_rfl) (fun g ks fe h => ?_) ?_
  · rcases c_cons h with ⟨rfl, rfl⟩ | h
    · exact second_Deck_Next.ok ht
    cases h
  · exact known_at 0 (by kernel_rfl) fun i hi => absurd hi (Nat.not_lt_zero i)

/-! second_Deck_Values -/
def second_Deck_Values.f2 (g_second_Deck_Next : Y102 → Option Y113) (n_1 shape_6 width_7 i_8 x_9 v22 : Int) (v23 : Bool) (o0_0 : List Int) (o0_1 : Int) (o1 : List Int) : Option Y36 :=
  (bif v23 then
 (bif (!(decide (width_7 = (0:Int)))) then
 (some (Sum.inl (((), (n_1, ((), (shape_6, (width_7, (i_8, ((Go.IntKind.wrap Go.IntKind.i64 ((Int.tmod i_8 width_7) * (3:Int))), ()))))))), ((o0_0, (o0_1, ())), (o1, ())))))
 else
 none)
 else
 (bif (v22 == (1:Int)) then
 (bif (!(decide (width_7 = (0:Int)))) then
 (Option.bind (g_second_Deck_Next (((), ((2:Int), ())), ((o0_0, (o0_1, ())), ()))) (fun y3 =>
 (some (Sum.inl (((), (n_1, ((), (shape_6, (width_7, (i_8, ((Go.IntKind.wrap Go.IntKind.i64 ((Go.IntKind.wrap Go.IntKind.i64 ((Int.tmod i_8 width_7) * (4:Int))) + y3.1.1)), ()))))))), ((y3.2.1.1, (y3.2.1.2.1, ())), (o1, ())))))))
 else
 none)
 else
 (bif (v22 == (2:Int)) then
 (bif (!(decide (width_7 = (0:Int)))) then
 (some (Sum.inl (((), (n_1, ((), (shape_6, (width_7, (i_8, ((Go.IntKind.wrap Go.IntKind.i64 ((Go.IntKind.wrap Go.IntKind.i64 (Int.tdiv i_8 width_7)) * (2:Int))), ()))))))), ((o0_0, (o0_1, ())), (o1, ())))))
 else
 none)
 else
 (some (Sum.inl (((), (n_1, ((), (shape_6, (width_7, (i_8, (x_9, ()))))))), ((o0_0, (o0_1, ())), (o1, ()))))))))
theorem second_Deck_Values.eq2 (g_second_Deck_Next : second_Deck_Next.G) (g_second_Deck_Sample : second_Deck_Sample.G) (l0 : second_Deck_Values.A0) (l1 : second_Deck_Values.A1) (l2 : second_Deck_Values.A2) (L : second_Deck_Values.A2) (x : second_Deck_Values.s2.X) : rndO (second_Deck_Values.E g_second_Deck_Next g_second_Deck_Sample l0 l1 l2) second_Deck_Values.hs second_Deck_Values.c second_Deck_Values.s2 second_Deck_Values.x2 2 false L x = second_Deck_Values.f2 g_second_Deck_Next x.1.2.1 x.1.2.2.2.1 x.1.2.2.2.2.1 x.1.2.2.2.2.2.1 x.1.2.2.2.2.2.2.1 x.1.2.2.2.2.2.2.2.1 x.1.2.2.2.2.2.2.2.2.1 x.2.1.1 x.2.1.2.1 x.2.2.1 := by
  show _ = (_ : Option _)
  kernel_rfl
noncomputable def second_Deck_Values.L2 : Y34 → Option Y36 := fun x => second_Deck_Values.f2 second_Deck_Next.F x.1.2.1 x.1.2.2.2.1 x.1.2.2.2.2.1 x.1.2.2.2.2.2.1 x.1.2.2.2.2.2.2.1 x.1.2.2.2.2.2.2.2.1 x.1.2.2.2.2.2.2.2.2.1 x.2.1.1 x.2.1.2.1 x.2.2.1
def second_Deck_Values.f1 (l2 : Y34 → Option Y36) (n_1 shape_6 width_7 i_8 x_9 v22 : Int) (o0_0 : List Int) (o0_1 : Int) (o1 : List Int) : Option Y36 :=
  (Option.bind (l2 (((), (n_1, ((), (shape_6, (width_7, (i_8, (x_9, (v22, ((v22 == (0:Int)), ()))))))))), ((o0_0, (o0_1, ())), (o1, ())))) (fun y0 =>
 (Sum.elim (fun a1 =>
 (some (Sum.inl (((), (a1.1.2.1, ((), (a1.1.2.2.2.1, (a1.1.2.2.2.2.1, (a1.1.2.2.2.2.2.1, (a1.1.2.2.2.2.2.2.1, ()))))))), ((a1.2.1.1, (a1.2.1.2.1, ())), (a1.2.2.1, ())))))) (fun b1 =>
 (Empty.elim b1)) y0)))
theorem second_Deck_Values.eq1 (g_second_Deck_Next : second_Deck_Next.G) (g_second_Deck_Sample : second_Deck_Sample.G) (l0 : second_Deck_Values.A0) (l1 : second_Deck_Values.A1) (l2 : second_Deck_Values.A2) (L : second_Deck_Values.A1) (x : second_Deck_Values.s1.X) : rndO (second_Deck_Values.E g_second_Deck_Next g_second_Deck_Sample l0 l1 l2) second_Deck_Values.hs second_Deck_Values.c second_Deck_Values.s1 second_Deck_Values.x1 1 false L x = second_Deck_Values.f1 l2 x.1.2.1 x.1.2.2.2.1 x.1.2.2.2.2.1 x.1.2.2.2.2.2.1 x.1.2.2.2.2.2.2.1 x.1.2.2.2.2.2.2.2.1 x.2.1.1 x.2.1.2.1 x.2.2.1 := by
  show _ = (_ : Option _)
  kernel_rfl
noncomputable def second_Deck_Values.L1 : Y39 → Option Y36 := fun x => second_Deck_Values.f1 second_Deck_Values.L2 x.1.2.1 x.1.2.2.2.1 x.1.2.2.2.2.1 x.1.2.2.2.2.2.1 x.1.2.2.2.2.2.2.1 x.1.2.2.2.2.2.2.2.1 x.2.1.1 x.2.1.2.1 x.2.2.1
def second_Deck_Values.f0 (g_second_Deck_Next : Y102 → Option Y113) (g_second_Deck_Sample : Y111 → Option Y113) (l1 : Y39 → Option Y36) (L : Y52 → Option Y76) (n_1 shape_6 width_7 i_8 : Int) (o0_0 : List Int) (o0_1 : Int) (o1 : List Int) : Option Y76 :=
  (bif (decide (i_8 < n_1)) then
 (Option.bind (g_second_Deck_Sample (((), ()), ((o0_0, (o0_1, ())), ()))) (fun y1 =>
 (Option.bind (l1 (((), (n_1, ((), (shape_6, (width_7, (i_8, (y1.1.1, (shape_6, ())))))))), ((y1.2.1.1, (y1.2.1.2.1, ())), (o1, ())))) (fun y2 =>
 (Sum.elim (fun a3 =>
 (Option.bind (g_second_Deck_Next (((), ((30:Int), ())), ((a3.2.1.1, (a3.2.1.2.1, ())), ()))) (fun y4 =>
 (bif (y4.1.1 == (29:Int)) then
 (bif (decide ((((List.length a3.2.2.1) + (List.length [(1073741824:Int)])) * (8:Nat)) ≤ (140737488355328:Nat))) then
 (Option.bind (L (((), (a3.1.2.1, ((), (a3.1.2.2.2.1, (a3.1.2.2.2.2.1, ((Go.IntKind.wrap Go.IntKind.i64 (a3.1.2.2.2.2.2.1 + (1:Int))), ())))))), ((y4.2.1.1, (y4.2.1.2.1, ())), ((a3.2.2.1 ++ [(1073741824:Int)]), ())))) (fun y7 =>
 (some y7)))
 else
 none)
 else
 (bif (decide ((((List.length a3.2.2.1) + (List.length [a3.1.2.2.2.2.2.2.1])) * (8:Nat)) ≤ (140737488355328:Nat))) then
 (Option.bind (L (((), (a3.1.2.1, ((), (a3.1.2.2.2.1, (a3.1.2.2.2.2.1, ((Go.IntKind.wrap Go.IntKind.i64 (a3.1.2.2.2.2.2.1 + (1:Int))), ())))))), ((y4.2.1.1, (y4.2.1.2.1, ())), ((a3.2.2.1 ++ [a3.1.2.2.2.2.2.2.1]), ())))) (fun y7 =>
 (some y7)))
 else
 none))))) (fun b3 =>
 (Empty.elim b3)) y2)))))
 else
 (some (Sum.inl (((), ()), ((o0_0, (o0_1, ())), (o1, ()))))))
theorem second_Deck_Values.eq0 (g_second_Deck_Next : second_Deck_Next.G) (g_second_Deck_Sample : second_Deck_Sample.G) (l0 : second_Deck_Values.A0) (l1 : second_Deck_Values.A1) (l2 : second_Deck_Values.A2) (L : second_Deck_Values.A0) (x : second_Deck_Values.s0.X) : rndO (second_Deck_Values.E g_second_Deck_Next g_second_Deck_Sample l0 l1 l2) second_Deck_Values.hs second_Deck_Values.c second_Deck_Values.s0 second_Deck_Values.x0 0 true L x = second_Deck_Values.f0 g_second_Deck_Next g_second_Deck_Sample l1 L x.1.2.1 x.1.2.2.2.1 x.1.2.2.2.2.1 x.1.2.2.2.2.2.1 x.2.1.1 x.2.1.2.1 x.2.2.1 := by
  show _ = (_ : Option _)
  kernel_rfl
noncomputable def second_Deck_Values.L0 : Y52 → Option Y76 := loop fun L x => second_Deck_Values.f0 second_Deck_Next.F second_Deck_Sample.F second_Deck_Values.L1 L x.1.2.1 x.1.2.2.2.1 x.1.2.2.2.2.1 x.1.2.2.2.2.2.1 x.2.1.1 x.2.1.2.1 x.2.2.1
def second_Deck_Values.f (g_second_Deck_Next : Y102 → Option Y113) (l0 : Y52 → Option Y76) (n : Int) (o0_0 : List Int) (o0_1 : Int) : Option Y94 :=
  (Option.bind (g_second_Deck_Next (((), ((5:Int), ())), ((o0_0, (o0_1, ())), ()))) (fun y0 =>
 (Option.bind (g_second_Deck_Next (((), ((4:Int), ())), ((y0.2.1.1, (y0.2.1.2.1, ())), ()))) (fun y1 =>
 (Option.bind (l0 (((), (n, ((), (y0.1.1, ((Go.IntKind.wrap Go.IntKind.i64 ((2:Int) + y1.1.1)), ((0:Int), ())))))), ((y1.2.1.1, (y1.2.1.2.1, ())), (([] : List Int), ())))) (fun y2 =>
 (Sum.elim (fun a3 =>
 (some (((), ()), ((a3.2.1.1, (a3.2.1.2.1, ())), (a3.2.2.1, ()))))) (fun b3 =>
 (Empty.elim b3)) y2)))))))
theorem second_Deck_Values.eq (g_second_Deck_Next : second_Deck_Next.G) (g_second_Deck_Sample : second_Deck_Sample.G) (l0 : second_Deck_Values.A0) (l1 : second_Deck_Values.A1) (l2 : second_Deck_Values.A2) (x : second_Deck_Values.sh.X) : bodO (second_Deck_Values.E g_second_Deck_Next g_second_Deck_Sample l0 l1 l2) second_Deck_Values.hs second_Deck_Values.c Try.f17 second_Deck_Values.sh second_Deck_Values.osh x = second_Deck_Values.f g_second_Deck_Next l0 x.1.2.1 x.2.1.1 x.2.1.2.1 := by
  show _ = (_ : Option _)
  kernel_rfl
noncomputable def second_Deck_Values (n : Int) (o0_0 : List Int) (o0_1 : Int) : Option Y94 := second_Deck_Values.f second_Deck_Next.F second_Deck_Values.L0 n o0_0 o0_1
noncomputable def second_Deck_Values.F (x : Y102) : Option Y94 := second_Deck_Values x.1.2.1 x.2.1.1 x.2.1.2.1
theorem second_Deck_Values.L0_eq (n_1 shape_6 width_7 i_8 : Int) (o0_0 : List Int) (o0_1 : Int) (o1 : List Int) : second_Deck_Values.L0 (((), n_1, (), shape_6, width_7, i_8, ()), ((o0_0, o0_1, ()), o1, ())) = second_Deck_Values.f0 second_Deck_Next.F second_Deck_Sample.F second_Deck_Values.L1 second_Deck_Values.L0 n_1 shape_6 width_7 i_8 o0_0 o0_1 o1 :=
  loop_eq (E := (second_Deck_Values.E second_Deck_Next.F second_Deck_Sample.F second_Deck_Values.L0 second_Deck_Values.L1 second_Deck_Values.L2)) (sh := second_Deck_Values.s0) (es := second_Deck_Values.x0) (lp := true) (H := fun L x => second_Deck_Values.eq0 second_Deck_Next.F second_Deck_Sample.F second_Deck_Values.L0 second_Deck_Values.L1 second_Deck_Values.L2 L x) (((), n_1, (), shape_6, width_7, i_8, ()), ((o0_0, o0_1, ()), o1, ()))
theorem second_Deck_Values.L1_eq (n_1 shape_6 width_7 i_8 x_9 v22 : Int) (o0_0 : List Int) (o0_1 : Int) (o1 : List Int) : second_Deck_Values.L1 (((), n_1, (), shape_6, width_7, i_8, x_9, v22, ()), ((o0_0, o0_1, ()), o1, ())) = second_Deck_Values.f1 second_Deck_Values.L2 n_1 shape_6 width_7 i_8 x_9 v22 o0_0 o0_1 o1 := rfl
theorem second_Deck_Values.L2_eq (n_1 shape_6 width_7 i_8 x_9 v22 : Int) (v23 : Bool) (o0_0 : List Int) (o0_1 : Int) (o1 : List Int) : second_Deck_Values.L2 (((), n_1, (), shape_6, width_7, i_8, x_9, v22, v23, ()), ((o0_0, o0_1, ()), o1, ())) = second_Deck_Values.f2 second_Deck_Next.F n_1 shape_6 width_7 i_8 x_9 v22 v23 o0_0 o0_1 o1 := rfl
theorem second_Deck_Values.F_eq (n : Int) (o0_0 : List Int) (o0_1 : Int) : second_Deck_Values.F (((), n, ()), ((o0_0, o0_1, ()), ())) = second_Deck_Values.f second_Deck_Next.F second_Deck_Values.L0 n o0_0 o0_1 := rfl
theorem second_Deck_Values.ok {tabs : List (Nat × Go.Obj)} (ht : TabsOk tabs) : FOK Try.prog tabs 17 (second_Deck_Values.fe second_Deck_Values.F) := by
  refine fn_keep2 Try.func17 (second_Deck_Values.eq second_Deck_Next.F second_Deck_Sample.F second_Deck_Values.L0 second_Deck_Values.L1 second_Deck_Values.L2) pw tb (gt_ok ht) (by kernel_rfl) (by kernel_rfl) (fun g ks fe h => ?_) ?_
  · rcases c_cons h with ⟨rfl, rfl⟩ | h
    · exact second_Deck_Next.ok ht
    rcases c_cons h with ⟨rfl, rfl⟩ | h
    · exact second_Deck_Sample.ok ht
    cases h
  · refine known_at 3 (by kernel_rfl) fun i hi => ?_
    match i, hi with
    | 0, _ => exact atomH (loop_ok (es := second_Deck_Values.x0) rfl (second_Deck_Values.eq0 second_Deck_Next.F second_Deck_Sample.F second_Deck_Values.L0 second_Deck_Values.L1 second_Deck_Values.L2)) (by kernel_rfl)
    | 1, _ => exact atomH (cut_ok (es := second_Deck_Values.x1) rfl (second_Deck_Values.eq1 second_Deck_Next.F second_Deck_Sample.F second_Deck_Values.L0 second_Deck_Values.L1 second_Deck_Values.L2)) (by kernel_rfl)
    | 2, _ => exact atomH (cut_ok (es := second_Deck_Values.x2) rfl (second_Deck_Values.eq2 second_Deck_Next.F second_Deck_Sample.F second_Deck_Values.L0 second_Deck_Values.L1 second_Deck_Values.L2)) (by kernel_rfl)
    | n + 3, h => exact absurd h (by omega)

/-! second_Deck_Measure -/
def second_Deck_Measure.f (g_second_Deck_Next : Y102 → Option Y113) (kind : Int) (o0_0 : List Int) (o0_1 : Int) : Option Y81 :=
  (bif (kind == (0:Int)) then
 (Option.bind (g_second_Deck_Next (((), ((5:Int), ())), ((o0_0, (o0_1, ())), ()))) (fun y1 =>
 (bif ((Go.IntKind.wrap Go.IntKind.i64 ((1:Int) + y1.1.1)) == (4:Int)) then
 (Option.bind (g_second_Deck_Next (((), ((5:Int), ())), ((y1.2.1.1, (y1.2.1.2.1, ())), ()))) (fun y3 =>
 (bif (decide ((0:Int) ≤ y3.1.1)) then
 (bif (decide (y3.1.1 < (((List.length [(0:Int), (1:Int), (2:Int), (5:Int), (32:Int)]) : Nat) : Int))) then
 (some ((((Go.IntKind.wrap Go.IntKind.i64 ((1:Int) + y1.1.1)), ((List.getD [(0:Int), (1:Int), (2:Int), (5:Int), (32:Int)] (Int.toNat y3.1.1) (0:Int)), ((0:Int), ()))), ()), ((y3.2.1.1, (y3.2.1.2.1, ())), ())))
 else
 none)
 else
 none)))
 else
 (bif ((Go.IntKind.wrap Go.IntKind.i64 ((1:Int) + y1.1.1)) == (5:Int)) then
 (Option.bind (g_second_Deck_Next (((), ((9:Int), ())), ((y1.2.1.1, (y1.2.1.2.1, ())), ()))) (fun y4 =>
 (some ((((Go.IntKind.wrap Go.IntKind.i64 ((1:Int) + y1.1.1)), ((0:Int), ((Go.IntKind.wrap Go.IntKind.i64 (y4.1.1 - (3:Int))), ()))), ()), ((y4.2.1.1, (y4.2.1.2.1, ())), ())))))
 else
 (some ((((Go.IntKind.wrap Go.IntKind.i64 ((1:Int) + y1.1.1)), ((0:Int), ((0:Int), ()))), ()), ((y1.2.1.1, (y1.2.1.2.1, ())), ())))))))
 else
 (bif (kind == (4:Int)) then
 (Option.bind (g_second_Deck_Next (((), ((5:Int), ())), ((o0_0, (o0_1, ())), ()))) (fun y2 =>
 (bif (decide ((0:Int) ≤ y2.1.1)) then
 (bif (decide (y2.1.1 < (((List.length [(0:Int), (1:Int), (2:Int), (5:Int), (32:Int)]) : Nat) : Int))) then
 (some (((kind, ((List.getD [(0:Int), (1:Int), (2:Int), (5:Int), (32:Int)] (Int.toNat y2.1.1) (0:Int)), ((0:Int), ()))), ()), ((y2.2.1.1, (y2.2.1.2.1, ())), ())))
 else
 none)
 else
 none)))
 else
 (bif (kind == (5:Int)) then
 (Option.bind (g_second_Deck_Next (((), ((9:Int), ())), ((o0_0, (o0_1, ())), ()))) (fun y3 =>
 (some (((kind, ((0:Int), ((Go.IntKind.wrap Go.IntKind.i64 (y3.1.1 - (3:Int))), ()))), ()), ((y3.2.1.1, (y3.2.1.2.1, ())), ())))))
 else
 (some (((kind, ((0:Int), ((0:Int), ()))), ()), ((o0_0, (o0_1, ())), ()))))))
theorem second_Deck_Measure.eq (g_second_Deck_Next : second_Deck_Next.G) (x : second_Deck_Measure.sh.X) : bodO (second_Deck_Measure.E g_second_Deck_Next) second_Deck_Measure.hs second_Deck_Measure.c Try.f19 second_Deck_Measure.sh second_Deck_Measure.osh x = second_Deck_Measure.f g_second_Deck_Next x.1.2.1 x.2.1.1 x.2.1.2.1 := by
  show _ = (_ : Option _)
  kernel_rfl
noncomputable def second_Deck_Measure (kind : Int) (o0_0 : List Int) (o0_1 : Int) : Option Y81 := second_Deck_Measure.f second_Deck_Next.F kind o0_0 o0_1
noncomputable def second_Deck_Measure.F (x : Y102) : Option Y81 := second_Deck_Measure x.1.2.1 x.2.1.1 x.2.1.2.1
theorem second_Deck_Measure.F_eq (kind : Int) (o0_0 : List Int) (o0_1 : Int) : second_Deck_Measure.F (((), kind, ()), ((o0_0, o0_1, ()), ())) = second_Deck_Measure.f second_Deck_Next.F kind o0_0 o0_1 := rfl
theorem second_Deck_Measure.ok {tabs : List (Nat × Go.Obj)} (ht : TabsOk tabs) : FOK Try.prog tabs 19 (second_Deck_Measure.fe second_Deck_Measure.F) := by
  refine fn_keep2 Try.func19 (second_Deck_Measure.eq second_Deck_Next.F) pw tb (gt_ok ht) (by kernel_rfl) (by kernel_rfl) (fun g ks fe h => ?_) ?_
  · rcases c_cons h with ⟨rfl, rfl⟩ | h
    · exact second_Deck_Next.ok ht
    cases h
  · exact known_at 0 (by kernel_rfl) fun i hi => absurd hi (Nat.not_lt_zero i)

/-! second_Deck_Length -/
def second_Deck_Length.f (g_second_Deck_Next : Y102 → Option Y113) (o0_0 : List Int) (o0_1 : Int) : Option Y113 :=
  (Option.bind (g_second_Deck_Next (((), ((5:Int), ())), ((o0_0, (o0_1, ())), ()))) (fun y0 =>
 (some (((Go.IntKind.wrap Go.IntKind.i64 ((2:Int) + y0.1.1)), ()), ((y0.2.1.1, (y0.2.1.2.1, ())), ())))))
theorem second_Deck_Length.eq (g_second_Deck_Next : second_Deck_Next.G) (x : second_Deck_Length.sh.X) : bodO (second_Deck_Length.E g_second_Deck_Next) second_Deck_Length.hs second_Deck_Length.c Try.f20 second_Deck_Length.sh second_Deck_Length.osh x = second_Deck_Length.f g_second_Deck_Next x.2.1.1 x.2.1.2.1 := by
  show _ = (_ : Option _)
  kernel_rfl
noncomputable def second_Deck_Length (o0_0 : List Int) (o0_1 : Int) : Option Y113 := second_Deck_Length.f second_Deck_Next.F o0_0 o0_1
noncomputable def second_Deck_Length.F (x : Y111) : Option Y113 := second_Deck_Length x.2.1.1 x.2.1.2.1
theorem second_Deck_Length.F_eq (o0_0 : List Int) (o0_1 : Int) : second_Deck_Length.F (((), ()), ((o0_0, o0_1, ()), ())) = second_Deck_Length.f second_Deck_Next.F o0_0 o0_1 := rfl
theorem second_Deck_Length.ok {tabs : List (Nat × Go.Obj)} (ht : TabsOk tabs) : FOK Try.prog tabs 20 (second_Deck_Length.fe second_Deck_Length.F) := by
  refine fn_keep2 Try.func20 (second_Deck_Length.eq second_Deck_Next.F) pw tb (gt_ok ht) (by kernel_rfl) (by kernel_rfl) (fun g ks fe h => ?_) ?_
  · rcases c_cons h with ⟨rfl, rfl⟩ | h
    · exact second_Deck_Next.ok ht
    cases h
  · exact known_at 0 (by kernel_rfl) fun i hi => absurd hi (Nat.not_lt_zero i)

/-! ref04_Sample -/
def ref04_Sample.f (n : Int) : Option Y142 :=
  (bif (decide (n ≥ (-(1000:Int)))) then
 (some (((decide (n ≤ (1000:Int))), ()), ()))
 else
 (some ((Bool.false, ()), ())))
theorem ref04_Sample.eq (x : ref04_Sample.sh.X) : bodO (ref04_Sample.E) ref04_Sample.hs ref04_Sample.c Try.f53 ref04_Sample.sh ref04_Sample.osh x = ref04_Sample.f x.1.1 := by
  show _ = (_ : Option _)
  kernel_rfl
noncomputable def ref04_Sample (n : Int) : Option Y142 := ref04_Sample.f n
noncomputable def ref04_Sample.F (x : Y143) : Option Y142 := ref04_Sample x.1.1
theorem ref04_Sample.F_eq (n : Int) : ref04_Sample.F ((n, ()), ()) = ref04_Sample.f n := rfl
theorem ref04_Sample.ok {tabs : List (Nat × Go.Obj)} (ht : TabsOk tabs) : FOK Try.prog tabs 53 (ref04_Sample.fe ref04_Sample.F) := by
  refine fn_keep2 Try.func53 (ref04_Sample.eq) pw tb (gt_ok ht) (by kernel_rfl) (by kernel_rfl) (fun g ks fe h => ?_) ?_
  · cases h
  · exact known_at 0 (by kernel_rfl) fun i hi => absurd hi (Nat.not_lt_zero i)

/-! ref17_Check -/
def ref17_Check.f0 (g_ref04_Sample : Y143 → Option Y142) (o0_0 o0_1 o0_2 : Int) : Option Y136 :=
  (bif (decide (o0_0 < (1:Int))) then
 (some (Sum.inl ((Bool.true, ()), ())))
 else
 (bif (decide (o0_0 > (5:Int))) then
 (some (Sum.inl ((Bool.true, ()), ())))
 else
 (bif (decide (o0_1 < (0:Int))) then
 (some (Sum.inl ((Bool.true, ()), ())))
 else
 (bif (decide (o0_1 > (32:Int))) then
 (some (Sum.inl ((Bool.true, ()), ())))
 else
 (bif (o0_0 != (4:Int)) then
 (bif (o0_1 != (0:Int)) then
 (some (Sum.inl ((Bool.true, ()), ())))
 else
 (Option.bind (g_ref04_Sample ((o0_2, ()), ())) (fun y6 =>
 (bif (!y6.1.1) then
 (some (Sum.inl ((Bool.true, ()), ())))
 else
 (bif (o0_0 != (5:Int)) then
 (some (Sum.inl (((o0_2 != (0:Int)), ()), ())))
 else
 (some (Sum.inl ((Bool.false, ()), ()))))))))
 else
 (Option.bind (g_ref04_Sample ((o0_2, ()), ())) (fun y5 =>
 (bif (!y5.1.1) then
 (some (Sum.inl ((Bool.true, ()), ())))
 else
 (bif (o0_0 != (5:Int)) then
 (some (Sum.inl (((o0_2 != (0:Int)), ()), ())))
 else
 (some (Sum.inl ((Bool.false, ()), ()))))))))))))
theorem ref17_Check.eq0 (g_ref04_Sample : ref04_Sample.G) (l0 : ref17_Check.A0) (L : ref17_Check.A0) (x : ref17_Check.s0.X) : rndO (ref17_Check.E g_ref04_Sample l0) ref17_Check.hs ref17_Check.c ref17_Check.s0 ref17_Check.x0 0 false L x = ref17_Check.f0 g_ref04_Sample x.2.1.1 x.2.1.2.1 x.2.1.2.2.1 := by
  show _ = (_ : Option _)
  kernel_rfl
noncomputable def ref17_Check.L0 : Y112 → Option Y136 := fun x => ref17_Check.f0 ref04_Sample.F x.2.1.1 x.2.1.2.1 x.2.1.2.2.1
def ref17_Check.f (l0 : Y112 → Option Y136) (m_Kind m_Band m_Gap : Int) : Option Y143 :=
  (Option.bind (l0 (((), ()), ((m_Kind, (m_Band, (m_Gap, ()))), ()))) (fun y0 =>
 (Sum.elim (fun a1 =>
 (bif a1.1.1 then
 (some (((9:Int), ()), ()))
 else
 (some (((0:Int), ()), ())))) (fun b1 =>
 (Empty.elim b1)) y0)))
theorem ref17_Check.eq (g_ref04_Sample : ref04_Sample.G) (l0 : ref17_Check.A0) (x : ref17_Check.sh.X) : bodO (ref17_Check.E g_ref04_Sample l0) ref17_Check.hs ref17_Check.c Try.f32 ref17_Check.sh ref17_Check.osh x = ref17_Check.f l0 x.1.1.1 x.1.1.2.1 x.1.1.2.2.1 := by
  show _ = (_ : Option _)
  kernel_rfl
noncomputable def ref17_Check (m_Kind m_Band m_Gap : Int) : Option Y143 := ref17_Check.f ref17_Check.L0 m_Kind m_Band m_Gap
noncomputable def ref17_Check.F (x : Y120) : Option Y143 := ref17_Check x.1.1.1 x.1.1.2.1 x.1.1.2.2.1
theorem ref17_Check.L0_eq (o0_0 o0_1 o0_2 : Int) : ref17_Check.L0 (((), ()), ((o0_0, o0_1, o0_2, ()), ())) = ref17_Check.f0 ref04_Sample.F o0_0 o0_1 o0_2 := rfl
theorem ref17_Check.F_eq (m_Kind m_Band m_Gap : Int) : ref17_Check.F (((m_Kind, m_Band, m_Gap, ()), ()), ()) = ref17_Check.f ref17_Check.L0 m_Kind m_Band m_Gap := rfl
theorem ref17_Check.ok {tabs : List (Nat × Go.Obj)} (ht : TabsOk tabs) : FOK Try.prog tabs 32 (ref17_Check.fe ref17_Check.F) := by
  refine fn_keep2 Try.func32 (ref17_Check.eq ref04_Sample.F ref17_Check.L0) pw tb (gt_ok ht) (by kernel_rfl) (by kernel_rfl) (fun g ks fe h => ?_) ?_
  · rcases c_cons h with ⟨rfl, rfl⟩ | h
    · exact ref04_Sample.ok ht
    cases h
  · refine known_at 1 (by kernel_rfl) fun i hi => ?_
    match i, hi with
    | 0, _ => exact atomH (cut_ok (es := ref17_Check.x0) rfl (ref17_Check.eq0 ref04_Sample.F ref17_Check.L0)) (by kernel_rfl)
    | n + 1, h => exact absurd h (by omega)

/-! ref12_Samples -/
def ref12_Samples.f0 (g_ref04_Sample : Y143 → Option Y142) (L : Y127 → Option Y110) (x_0 : List Int) (v5 v6 : Int) : Option Y110 :=
  (bif (decide (v6 < v5)) then
 (bif (decide ((0:Int) ≤ v6)) then
 (bif (decide (v6 < (((List.length x_0) : Nat) : Int))) then
 (Option.bind (g_ref04_Sample (((List.getD x_0 (Int.toNat v6) (0:Int)), ()), ())) (fun y3 =>
 (bif (!y3.1.1) then
 (some (Sum.inr (Sum.inl (((12:Int), ()), ()))))
 else
 (Option.bind (L ((x_0, (v5, ((Go.IntKind.wrap Go.IntKind.i64 (v6 + (1:Int))), ()))), ())) (fun y5 =>
 (some y5))))))
 else
 none)
 else
 none)
 else
 (some (Sum.inl ((), ()))))
theorem ref12_Samples.eq0 (g_ref04_Sample : ref04_Sample.G) (l0 : ref12_Samples.A0) (L : ref12_Samples.A0) (x : ref12_Samples.s0.X) : rndO (ref12_Samples.E g_ref04_Sample l0) ref12_Samples.hs ref12_Samples.c ref12_Samples.s0 ref12_Samples.x0 0 true L x = ref12_Samples.f0 g_ref04_Sample L x.1.1 x.1.2.1 x.1.2.2.1 := by
  show _ = (_ : Option _)
  kernel_rfl
noncomputable def ref12_Samples.L0 : Y127 → Option Y110 := loop fun L x => ref12_Samples.f0 ref04_Sample.F L x.1.1 x.1.2.1 x.1.2.2.1
def ref12_Samples.f (l0 : Y127 → Option Y110) (x_ : List Int) : Option Y143 :=
  (Option.bind (l0 ((x_, ((((List.length x_) : Nat) : Int), ((0:Int), ()))), ())) (fun y0 =>
 (Sum.elim (fun a1 =>
 (some (((0:Int), ()), ()))) (fun b1 =>
 (Sum.elim (fun a2 =>
 (some ((a2.1.1, ()), ()))) (fun b2 =>
 (Empty.elim b2)) b1)) y0)))
theorem ref12_Samples.eq (g_ref04_Sample : ref04_Sample.G) (l0 : ref12_Samples.A0) (x : ref12_Samples.sh.X) : bodO (ref12_Samples.E g_ref04_Sample l0) ref12_Samples.hs ref12_Samples.c Try.f85 ref12_Samples.sh ref12_Samples.osh x = ref12_Samples.f l0 x.1.1 := by
  show _ = (_ : Option _)
  kernel_rfl
noncomputable def ref12_Samples (x_ : List Int) : Option Y143 := ref12_Samples.f ref12_Samples.L0 x_
noncomputable def ref12_Samples.F (x : Y139) : Option Y143 := ref12_Samples x.1.1
theorem ref12_Samples.L0_eq (x_0 : List Int) (v5 v6 : Int) : ref12_Samples.L0 ((x_0, v5, v6, ()), ()) = ref12_Samples.f0 ref04_Sample.F ref12_Samples.L0 x_0 v5 v6 :=
  loop_eq (E := (ref12_Samples.E ref04_Sample.F ref12_Samples.L0)) (sh := ref12_Samples.s0) (es := ref12_Samples.x0) (lp := true) (H := fun L x => ref12_Samples.eq0 ref04_Sample.F ref12_Samples.L0 L x) ((x_0, v5, v6, ()), ())
theorem ref12_Samples.F_eq (x_ : List Int) : ref12_Samples.F ((x_, ()), ()) = ref12_Samples.f ref12_Samples.L0 x_ := rfl
theorem ref12_Samples.ok {tabs : List (Nat × Go.Obj)} (ht : TabsOk tabs) : FOK Try.prog tabs 85 (ref12_Samples.fe ref12_Samples.F) := by
  refine fn_keep2 Try.func85 (ref12_Samples.eq ref04_Sample.F ref12_Samples.L0) pw tb (gt_ok ht) (by kernel_rfl) (by kernel_rfl) (fun g ks fe h => ?_) ?_
  · rcases c_cons h with ⟨rfl, rfl⟩ | h
    · exact ref04_Sample.ok ht
    cases h
  · refine known_at 1 (by kernel_rfl) fun i hi => ?_
    match i, hi with
    | 0, _ => exact atomH (loop_ok (es := ref12_Samples.x0) rfl (ref12_Samples.eq0 ref04_Sample.F ref12_Samples.L0)) (by kernel_rfl)
    | n + 1, h => exact absurd h (by omega)

/-! ref12_Two -/
def ref12_Two.f0 (x_0 y_1 : List Int) (most_2 : Int) : Option Y92 :=
  (bif (decide ((((List.length x_0) : Nat) : Int) < (2:Int))) then
 (some (Sum.inl ((x_0, (y_1, (most_2, (Bool.true, ())))), ())))
 else
 (bif (decide ((((List.length x_0) : Nat) : Int) > (32:Int))) then
 (some (Sum.inl ((x_0, (y_1, (most_2, (Bool.true, ())))), ())))
 else
 (bif (decide ((((List.length y_1) : Nat) : Int) < (2:Int))) then
 (some (Sum.inl ((x_0, (y_1, (most_2, (Bool.true, ())))), ())))
 else
 (some (Sum.inl ((x_0, (y_1, (most_2, ((decide ((((List.length y_1) : Nat) : Int) > (32:Int))), ())))), ()))))))
theorem ref12_Two.eq0 (g_ref12_Samples : ref12_Samples.G) (l0 : ref12_Two.A0) (l1 : ref12_Two.A1) (L : ref12_Two.A0) (x : ref12_Two.s0.X) : rndO (ref12_Two.E g_ref12_Samples l0 l1) ref12_Two.hs ref12_Two.c ref12_Two.s0 ref12_Two.x0 0 false L x = ref12_Two.f0 x.1.1 x.1.2.1 x.1.2.2.1 := by
  show _ = (_ : Option _)
  kernel_rfl
noncomputable def ref12_Two.L0 : Y115 → Option Y92 := fun x => ref12_Two.f0 x.1.1 x.1.2.1 x.1.2.2.1
def ref12_Two.f1 (g_ref12_Samples : Y139 → Option Y143) (x_0 y_1 : List Int) (most_2 : Int) : Option Y92 :=
  (Option.bind (g_ref12_Samples ((x_0, ()), ())) (fun y0 =>
 (bif (y0.1.1 != (0:Int)) then
 (some (Sum.inl ((x_0, (y_1, (most_2, (Bool.true, ())))), ())))
 else
 (Option.bind (g_ref12_Samples ((y_1, ()), ())) (fun y2 =>
 (some (Sum.inl ((x_0, (y_1, (most_2, ((y2.1.1 != (0:Int)), ())))), ()))))))))
theorem ref12_Two.eq1 (g_ref12_Samples : ref12_Samples.G) (l0 : ref12_Two.A0) (l1 : ref12_Two.A1) (L : ref12_Two.A1) (x : ref12_Two.s1.X) : rndO (ref12_Two.E g_ref12_Samples l0 l1) ref12_Two.hs ref12_Two.c ref12_Two.s1 ref12_Two.x1 1 false L x = ref12_Two.f1 g_ref12_Samples x.1.1 x.1.2.1 x.1.2.2.1 := by
  show _ = (_ : Option _)
  kernel_rfl
noncomputable def ref12_Two.L1 : Y115 → Option Y92 := fun x => ref12_Two.f1 ref12_Samples.F x.1.1 x.1.2.1 x.1.2.2.1
def ref12_Two.f (l0 : Y115 → Option Y92) (l1 : Y115 → Option Y92) (x_ y : List Int) (most : Int) : Option Y143 :=
  (Option.bind (l0 ((x_, (y, (most, ()))), ())) (fun y0 =>
 (Sum.elim (fun a1 =>
 (bif a1.1.2.2.2.1 then
 (some (((8:Int), ()), ()))
 else
 (Option.bind (l1 ((a1.1.1, (a1.1.2.1, (a1.1.2.2.1, ()))), ())) (fun y3 =>
 (Sum.elim (fun a4 =>
 (bif a4.1.2.2.2.1 then
 (some (((12:Int), ()), ()))
 else
 (bif (decide ((Go.IntKind.wrap Go.IntKind.i64 ((((List.length a4.1.1) : Nat) : Int) - (((List.length a4.1.2.1) : Nat) : Int))) > a4.1.2.2.1)) then
 (some (((8:Int), ()), ()))
 else
 (bif (decide ((Go.IntKind.wrap Go.IntKind.i64 ((((List.length a4.1.2.1) : Nat) : Int) - (((List.length a4.1.1) : Nat) : Int))) > a4.1.2.2.1)) then
 (some (((8:Int), ()), ()))
 else
 (some (((0:Int), ()), ())))))) (fun b4 =>
 (Empty.elim b4)) y3))))) (fun b1 =>
 (Empty.elim b1)) y0)))
theorem ref12_Two.eq (g_ref12_Samples : ref12_Samples.G) (l0 : ref12_Two.A0) (l1 : ref12_Two.A1) (x : ref12_Two.sh.X) : bodO (ref12_Two.E g_ref12_Samples l0 l1) ref12_Two.hs ref12_Two.c Try.f59 ref12_Two.sh ref12_Two.osh x = ref12_Two.f l0 l1 x.1.1 x.1.2.1 x.1.2.2.1 := by
  show _ = (_ : Option _)
  kernel_rfl
noncomputable def ref12_Two (x_ y : List Int) (most : Int) : Option Y143 := ref12_Two.f ref12_Two.L0 ref12_Two.L1 x_ y most
noncomputable def ref12_Two.F (x : Y115) : Option Y143 := ref12_Two x.1.1 x.1.2.1 x.1.2.2.1
theorem ref12_Two.L0_eq (x_0 y_1 : List Int) (most_2 : Int) : ref12_Two.L0 ((x_0, y_1, most_2, ()), ()) = ref12_Two.f0 x_0 y_1 most_2 := rfl
theorem ref12_Two.L1_eq (x_0 y_1 : List Int) (most_2 : Int) : ref12_Two.L1 ((x_0, y_1, most_2, ()), ()) = ref12_Two.f1 ref12_Samples.F x_0 y_1 most_2 := rfl
theorem ref12_Two.F_eq (x_ y : List Int) (most : Int) : ref12_Two.F ((x_, y, most, ()), ()) = ref12_Two.f ref12_Two.L0 ref12_Two.L1 x_ y most := rfl
theorem ref12_Two.ok {tabs : List (Nat × Go.Obj)} (ht : TabsOk tabs) : FOK Try.prog tabs 59 (ref12_Two.fe ref12_Two.F) := by
  refine fn_keep2 Try.func59 (ref12_Two.eq ref12_Samples.F ref12_Two.L0 ref12_Two.L1) pw tb (gt_ok ht) (by kernel_rfl) (by kernel_rfl) (fun g ks fe h => ?_) ?_
  · rcases c_cons h with ⟨rfl, rfl⟩ | h
    · exact ref12_Samples.ok ht
    cases h
  · refine known_at 2 (by kernel_rfl) fun i hi => ?_
    match i, hi with
    | 0, _ => exact atomH (cut_ok (es := ref12_Two.x0) rfl (ref12_Two.eq0 ref12_Samples.F ref12_Two.L0 ref12_Two.L1)) (by kernel_rfl)
    | 1, _ => exact atomH (cut_ok (es := ref12_Two.x1) rfl (ref12_Two.eq1 ref12_Samples.F ref12_Two.L0 ref12_Two.L1)) (by kernel_rfl)
    | n + 2, h => exact absurd h (by omega)

/-! ref12_sums -/
def ref12_sums.f0 (L : Y91 → Option Y130) (x_0 y_1 : List Int) (d_6 s_7 v10 v11 : Int) : Option Y130 :=
  (bif (decide (v11 < v10)) then
 (bif (decide ((0:Int) ≤ v11)) then
 (bif (decide (v11 < (((List.length x_0) : Nat) : Int))) then
 (bif (decide ((0:Int) ≤ v11)) then
 (bif (decide (v11 < (((List.length y_1) : Nat) : Int))) then
 (bif (decide ((0:Int) ≤ v11)) then
 (bif (decide (v11 < (((List.length x_0) : Nat) : Int))) then
 (bif (decide ((0:Int) ≤ v11)) then
 (bif (decide (v11 < (((List.length y_1) : Nat) : Int))) then
 (bif (decide ((0:Int) ≤ v11)) then
 (bif (decide (v11 < (((List.length x_0) : Nat) : Int))) then
 (bif (decide ((0:Int) ≤ v11)) then
 (bif (decide (v11 < (((List.length y_1) : Nat) : Int))) then
 (Option.bind (L ((x_0, (y_1, ((Go.IntKind.wrap Go.IntKind.i64 ((Go.IntKind.wrap Go.IntKind.i64 (d_6 + (List.getD x_0 (Int.toNat v11) (0:Int)))) - (List.getD y_1 (Int.toNat v11) (0:Int)))), ((Go.IntKind.wrap Go.IntKind.i64 (s_7 + (Go.IntKind.wrap Go.IntKind.i64 ((Go.IntKind.wrap Go.IntKind.i64 ((List.getD x_0 (Int.toNat v11) (0:Int)) - (List.getD y_1 (Int.toNat v11) (0:Int)))) * (Go.IntKind.wrap Go.IntKind.i64 ((List.getD x_0 (Int.toNat v11) (0:Int)) - (List.getD y_1 (Int.toNat v11) (0:Int)))))))), (v10, ((Go.IntKind.wrap Go.IntKind.i64 (v11 + (1:Int))), ())))))), ())) (fun y13 =>
 (some y13)))
 else
 none)
 else
 none)
 else
 none)
 else
 none)
 else
 none)
 else
 none)
 else
 none)
 else
 none)
 else
 none)
 else
 none)
 else
 none)
 else
 none)
 else
 (some (Sum.inl ((d_6, (s_7, ())), ()))))
theorem ref12_sums.eq0 (l0 : ref12_sums.A0) (L : ref12_sums.A0) (x : ref12_sums.s0.X) : rndO (ref12_sums.E l0) ref12_sums.hs ref12_sums.c ref12_sums.s0 ref12_sums.x0 0 true L x = ref12_sums.f0 L x.1.1 x.1.2.1 x.1.2.2.1 x.1.2.2.2.1 x.1.2.2.2.2.1 x.1.2.2.2.2.2.1 := by
  show _ = (_ : Option _)
  kernel_rfl
noncomputable def ref12_sums.L0 : Y91 → Option Y130 := loop fun L x => ref12_sums.f0 L x.1.1 x.1.2.1 x.1.2.2.1 x.1.2.2.2.1 x.1.2.2.2.2.1 x.1.2.2.2.2.2.1
def ref12_sums.f (l0 : Y91 → Option Y130) (x_ y : List Int) : Option Y140 :=
  (Option.bind (l0 ((x_, (y, ((0:Int), ((0:Int), ((((List.length x_) : Nat) : Int), ((0:Int), ())))))), ())) (fun y0 =>
 (Sum.elim (fun a1 =>
 (some ((a1.1.1, (a1.1.2.1, ())), ()))) (fun b1 =>
 (Empty.elim b1)) y0)))
theorem ref12_sums.eq (l0 : ref12_sums.A0) (x : ref12_sums.sh.X) : bodO (ref12_sums.E l0) ref12_sums.hs ref12_sums.c Try.f60 ref12_sums.sh ref12_sums.osh x = ref12_sums.f l0 x.1.1 x.1.2.1 := by
  show _ = (_ : Option _)
  kernel_rfl
noncomputable def ref12_sums (x_ y : List Int) : Option Y140 := ref12_sums.f ref12_sums.L0 x_ y
noncomputable def ref12_sums.F (x : Y124) : Option Y140 := ref12_sums x.1.1 x.1.2.1
theorem ref12_sums.L0_eq (x_0 y_1 : List Int) (d_6 s_7 v10 v11 : Int) : ref12_sums.L0 ((x_0, y_1, d_6, s_7, v10, v11, ()), ()) = ref12_sums.f0 ref12_sums.L0 x_0 y_1 d_6 s_7 v10 v11 :=
  loop_eq (E := (ref12_sums.E ref12_sums.L0)) (sh := ref12_sums.s0) (es := ref12_sums.x0) (lp := true) (H := fun L x => ref12_sums.eq0 ref12_sums.L0 L x) ((x_0, y_1, d_6, s_7, v10, v11, ()), ())
theorem ref12_sums.F_eq (x_ y : List Int) : ref12_sums.F ((x_, y, ()), ()) = ref12_sums.f ref12_sums.L0 x_ y := rfl
theorem ref12_sums.ok {tabs : List (Nat × Go.Obj)} (ht : TabsOk tabs) : FOK Try.prog tabs 60 (ref12_sums.fe ref12_sums.F) := by
  refine fn_keep2 Try.func60 (ref12_sums.eq ref12_sums.L0) pw tb (gt_ok ht) (by kernel_rfl) (by kernel_rfl) (fun g ks fe h => ?_) ?_
  · cases h
  · refine known_at 1 (by kernel_rfl) fun i hi => ?_
    match i, hi with
    | 0, _ => exact atomH (loop_ok (es := ref12_sums.x0) rfl (ref12_sums.eq0 ref12_sums.L0)) (by kernel_rfl)
    | n + 1, h => exact absurd h (by omega)

/-! ref01_common -/
def ref01_common.f0 (L : Y140 → Option Y137) (a_0 b_1 : Int) : Option Y137 :=
  (bif (decide (b_1 > (0:Int))) then
 (bif (!(decide (b_1 = (0:Int)))) then
 (Option.bind (L ((b_1, ((Int.tmod a_0 b_1), ())), ())) (fun y2 =>
 (some y2)))
 else
 none)
 else
 (some (Sum.inl ((a_0, ()), ()))))
theorem ref01_common.eq0 (l0 : ref01_common.A0) (L : ref01_common.A0) (x : ref01_common.s0.X) : rndO (ref01_common.E l0) ref01_common.hs ref01_common.c ref01_common.s0 ref01_common.x0 0 true L x = ref01_common.f0 L x.1.1 x.1.2.1 := by
  show _ = (_ : Option _)
  kernel_rfl
noncomputable def ref01_common.L0 : Y140 → Option Y137 := loop fun L x => ref01_common.f0 L x.1.1 x.1.2.1
def ref01_common.f (l0 : Y140 → Option Y137) (a b : Int) : Option Y143 :=
  (Option.bind (l0 ((a, (b, ())), ())) (fun y0 =>
 (Sum.elim (fun a1 =>
 (some ((a1.1.1, ()), ()))) (fun b1 =>
 (Empty.elim b1)) y0)))
theorem ref01_common.eq (l0 : ref01_common.A0) (x : ref01_common.sh.X) : bodO (ref01_common.E l0) ref01_common.hs ref01_common.c Try.f74 ref01_common.sh ref01_common.osh x = ref01_common.f l0 x.1.1 x.1.2.1 := by
  show _ = (_ : Option _)
  kernel_rfl
noncomputable def ref01_common (a b : Int) : Option Y143 := ref01_common.f ref01_common.L0 a b
noncomputable def ref01_common.F (x : Y140) : Option Y143 := ref01_common x.1.1 x.1.2.1
theorem ref01_common.L0_eq (a_0 b_1 : Int) : ref01_common.L0 ((a_0, b_1, ()), ()) = ref01_common.f0 ref01_common.L0 a_0 b_1 :=
  loop_eq (E := (ref01_common.E ref01_common.L0)) (sh := ref01_common.s0) (es := ref01_common.x0) (lp := true) (H := fun L x => ref01_common.eq0 ref01_common.L0 L x) ((a_0, b_1, ()), ())
theorem ref01_common.F_eq (a b : Int) : ref01_common.F ((a, b, ()), ()) = ref01_common.f ref01_common.L0 a b := rfl
theorem ref01_common.ok {tabs : List (Nat × Go.Obj)} (ht : TabsOk tabs) : FOK Try.prog tabs 74 (ref01_common.fe ref01_common.F) := by
  refine fn_keep2 Try.func74 (ref01_common.eq ref01_common.L0) pw tb (gt_ok ht) (by kernel_rfl) (by kernel_rfl) (fun g ks fe h => ?_) ?_
  · cases h
  · refine known_at 1 (by kernel_rfl) fun i hi => ?_
    match i, hi with
    | 0, _ => exact atomH (loop_ok (es := ref01_common.x0) rfl (ref01_common.eq0 ref01_common.L0)) (by kernel_rfl)
    | n + 1, h => exact absurd h (by omega)

/-! ref01_Valid -/
def ref01_Valid.f0 (g_ref01_common : Y140 → Option Y143) (o0_0 o0_1 : Int) : Option Y136 :=
  (bif (decide (o0_0 ≥ (0:Int))) then
 (bif (decide (o0_0 ≤ (2305843009213693952:Int))) then
 (bif (decide (o0_1 ≥ (1:Int))) then
 (bif (decide (o0_1 ≤ (1152921504606846976:Int))) then
 (Option.bind (g_ref01_common ((o0_0, (o0_1, ())), ())) (fun y4 =>
 (some (Sum.inl (((y4.1.1 == (1:Int)), ()), ())))))
 else
 (some (Sum.inl ((Bool.false, ()), ()))))
 else
 (some (Sum.inl ((Bool.false, ()), ()))))
 else
 (some (Sum.inl ((Bool.false, ()), ()))))
 else
 (some (Sum.inl ((Bool.false, ()), ()))))
theorem ref01_Valid.eq0 (g_ref01_common : ref01_common.G) (l0 : ref01_Valid.A0) (L : ref01_Valid.A0) (x : ref01_Valid.s0.X) : rndO (ref01_Valid.E g_ref01_common l0) ref01_Valid.hs ref01_Valid.c ref01_Valid.s0 ref01_Valid.x0 0 false L x = ref01_Valid.f0 g_ref01_common x.2.1.1 x.2.1.2.1 := by
  show _ = (_ : Option _)
  kernel_rfl
noncomputable def ref01_Valid.L0 : Y119 → Option Y136 := fun x => ref01_Valid.f0 ref01_common.F x.2.1.1 x.2.1.2.1
def ref01_Valid.f (l0 : Y119 → Option Y136) (a_Num a_Den : Int) : Option Y142 :=
  (Option.bind (l0 (((), ()), ((a_Num, (a_Den, ())), ()))) (fun y0 =>
 (Sum.elim (fun a1 =>
 (some ((a1.1.1, ()), ()))) (fun b1 =>
 (Empty.elim b1)) y0)))
theorem ref01_Valid.eq (g_ref01_common : ref01_common.G) (l0 : ref01_Valid.A0) (x : ref01_Valid.sh.X) : bodO (ref01_Valid.E g_ref01_common l0) ref01_Valid.hs ref01_Valid.c Try.f54 ref01_Valid.sh ref01_Valid.osh x = ref01_Valid.f l0 x.1.1.1 x.1.1.2.1 := by
  show _ = (_ : Option _)
  kernel_rfl
noncomputable def ref01_Valid (a_Num a_Den : Int) : Option Y142 := ref01_Valid.f ref01_Valid.L0 a_Num a_Den
noncomputable def ref01_Valid.F (x : Y131) : Option Y142 := ref01_Valid x.1.1.1 x.1.1.2.1
theorem ref01_Valid.L0_eq (o0_0 o0_1 : Int) : ref01_Valid.L0 (((), ()), ((o0_0, o0_1, ()), ())) = ref01_Valid.f0 ref01_common.F o0_0 o0_1 := rfl
theorem ref01_Valid.F_eq (a_Num a_Den : Int) : ref01_Valid.F (((a_Num, a_Den, ()), ()), ()) = ref01_Valid.f ref01_Valid.L0 a_Num a_Den := rfl
theorem ref01_Valid.ok {tabs : List (Nat × Go.Obj)} (ht : TabsOk tabs) : FOK Try.prog tabs 54 (ref01_Valid.fe ref01_Valid.F) := by
  refine fn_keep2 Try.func54 (ref01_Valid.eq ref01_common.F ref01_Valid.L0) pw tb (gt_ok ht) (by kernel_rfl) (by kernel_rfl) (fun g ks fe h => ?_) ?_
  · rcases c_cons h with ⟨rfl, rfl⟩ | h
    · exact ref01_common.ok ht
    cases h
  · refine known_at 1 (by kernel_rfl) fun i hi => ?_
    match i, hi with
    | 0, _ => exact atomH (cut_ok (es := ref01_Valid.x0) rfl (ref01_Valid.eq0 ref01_common.F ref01_Valid.L0)) (by kernel_rfl)
    | n + 1, h => exact absurd h (by omega)

/-! ref01_Make -/
def ref01_Make.f0 (num_0 den_1 o0_0 o0_1 : Int) : Option Y78 :=
  (bif (decide (num_0 < (0:Int))) then
 (some (Sum.inl ((num_0, (den_1, ((), (Bool.true, ())))), ((o0_0, (o0_1, ())), ()))))
 else
 (some (Sum.inl ((num_0, (den_1, ((), ((decide (den_1 < (1:Int))), ())))), ((o0_0, (o0_1, ())), ())))))
theorem ref01_Make.eq0 (g_ref01_common : ref01_common.G) (g_ref01_Valid : ref01_Valid.G) (l0 : ref01_Make.A0) (L : ref01_Make.A0) (x : ref01_Make.s0.X) : rndO (ref01_Make.E g_ref01_common g_ref01_Valid l0) ref01_Make.hs ref01_Make.c ref01_Make.s0 ref01_Make.x0 0 false L x = ref01_Make.f0 x.1.1 x.1.2.1 x.2.1.1 x.2.1.2.1 := by
  show _ = (_ : Option _)
  kernel_rfl
noncomputable def ref01_Make.L0 : Y104 → Option Y78 := fun x => ref01_Make.f0 x.1.1 x.1.2.1 x.2.1.1 x.2.1.2.1
def ref01_Make.f (g_ref01_common : Y140 → Option Y143) (g_ref01_Valid : Y131 → Option Y142) (l0 : Y104 → Option Y78) (num den : Int) : Option Y122 :=
  (Option.bind (l0 ((num, (den, ((), ()))), (((0:Int), ((0:Int), ())), ()))) (fun y0 =>
 (Sum.elim (fun a1 =>
 (bif a1.1.2.2.2.1 then
 (some ((((0:Int), ((0:Int), ())), ((1:Int), ())), ()))
 else
 (Option.bind (g_ref01_common ((a1.1.1, (a1.1.2.1, ())), ())) (fun y3 =>
 (bif (!(decide (y3.1.1 = (0:Int)))) then
 (bif (!(decide (y3.1.1 = (0:Int)))) then
 (Option.bind (g_ref01_Valid ((((Go.IntKind.wrap Go.IntKind.i64 (Int.tdiv a1.1.1 y3.1.1)), ((Go.IntKind.wrap Go.IntKind.i64 (Int.tdiv a1.1.2.1 y3.1.1)), ())), ()), ())) (fun y6 =>
 (bif (!y6.1.1) then
 (some ((((0:Int), ((0:Int), ())), ((1:Int), ())), ()))
 else
 (some ((((Go.IntKind.wrap Go.IntKind.i64 (Int.tdiv a1.1.1 y3.1.1)), ((Go.IntKind.wrap Go.IntKind.i64 (Int.tdiv a1.1.2.1 y3.1.1)), ())), ((0:Int), ())), ())))))
 else
 none)
 else
 none))))) (fun b1 =>
 (Empty.elim b1)) y0)))
theorem ref01_Make.eq (g_ref01_common : ref01_common.G) (g_ref01_Valid : ref01_Valid.G) (l0 : ref01_Make.A0) (x : ref01_Make.sh.X) : bodO (ref01_Make.E g_ref01_common g_ref01_Valid l0) ref01_Make.hs ref01_Make.c Try.f61 ref01_Make.sh ref01_Make.osh x = ref01_Make.f g_ref01_common g_ref01_Valid l0 x.1.1 x.1.2.1 := by
  show _ = (_ : Option _)
  kernel_rfl
noncomputable def ref01_Make (num den : Int) : Option Y122 := ref01_Make.f ref01_common.F ref01_Valid.F ref01_Make.L0 num den
noncomputable def ref01_Make.F (x : Y140) : Option Y122 := ref01_Make x.1.1 x.1.2.1
theorem ref01_Make.L0_eq (num_0 den_1 o0_0 o0_1 : Int) : ref01_Make.L0 ((num_0, den_1, (), ()), ((o0_0, o0_1, ()), ())) = ref01_Make.f0 num_0 den_1 o0_0 o0_1 := rfl
theorem ref01_Make.F_eq (num den : Int) : ref01_Make.F ((num, den, ()), ()) = ref01_Make.f ref01_common.F ref01_Valid.F ref01_Make.L0 num den := rfl
theorem ref01_Make.ok {tabs : List (Nat × Go.Obj)} (ht : TabsOk tabs) : FOK Try.prog tabs 61 (ref01_Make.fe ref01_Make.F) := by
  refine fn_keep2 Try.func61 (ref01_Make.eq ref01_common.F ref01_Valid.F ref01_Make.L0) pw tb (gt_ok ht) (by kernel_rfl) (by kernel_rfl) (fun g ks fe h => ?_) ?_
  · rcases c_cons h with ⟨rfl, rfl⟩ | h
    · exact ref01_common.ok ht
    rcases c_cons h with ⟨rfl, rfl⟩ | h
    · exact ref01_Valid.ok ht
    cases h
  · refine known_at 1 (by kernel_rfl) fun i hi => ?_
    match i, hi with
    | 0, _ => exact atomH (cut_ok (es := ref01_Make.x0) rfl (ref01_Make.eq0 ref01_common.F ref01_Valid.F ref01_Make.L0)) (by kernel_rfl)
    | n + 1, h => exact absurd h (by omega)

/-! ref12_Shifted -/
def ref12_Shifted.f (g_ref12_Two : Y115 → Option Y143) (g_ref12_sums : Y124 → Option Y140) (g_ref01_Make : Y140 → Option Y122) (x_ y : List Int) : Option Y122 :=
  (Option.bind (g_ref12_Two ((x_, (y, ((0:Int), ()))), ())) (fun y0 =>
 (bif (y0.1.1 != (0:Int)) then
 (some ((((0:Int), ((0:Int), ())), (y0.1.1, ())), ()))
 else
 (Option.bind (g_ref12_sums ((x_, (y, ())), ())) (fun y2 =>
 (Option.bind (g_ref01_Make (((Go.IntKind.wrap Go.IntKind.i64 ((Go.IntKind.wrap Go.IntKind.i64 ((((List.length x_) : Nat) : Int) * y2.1.2.1)) - (Go.IntKind.wrap Go.IntKind.i64 (y2.1.1 * y2.1.1)))), ((((List.length x_) : Nat) : Int), ())), ())) (fun y3 =>
 (some (((y3.1.1.1, (y3.1.1.2.1, ())), (y3.1.2.1, ())), ())))))))))
theorem ref12_Shifted.eq (g_ref12_Two : ref12_Two.G) (g_ref12_sums : ref12_sums.G) (g_ref01_Make : ref01_Make.G) (x : ref12_Shifted.sh.X) : bodO (ref12_Shifted.E g_ref12_Two g_ref12_sums g_ref01_Make) ref12_Shifted.hs ref12_Shifted.c Try.f42 ref12_Shifted.sh ref12_Shifted.osh x = ref12_Shifted.f g_ref12_Two g_ref12_sums g_ref01_Make x.1.1 x.1.2.1 := by
  show _ = (_ : Option _)
  kernel_rfl
noncomputable def ref12_Shifted (x_ y : List Int) : Option Y122 := ref12_Shifted.f ref12_Two.F ref12_sums.F ref01_Make.F x_ y
noncomputable def ref12_Shifted.F (x : Y124) : Option Y122 := ref12_Shifted x.1.1 x.1.2.1
theorem ref12_Shifted.F_eq (x_ y : List Int) : ref12_Shifted.F ((x_, y, ()), ()) = ref12_Shifted.f ref12_Two.F ref12_sums.F ref01_Make.F x_ y := rfl
theorem ref12_Shifted.ok {tabs : List (Nat × Go.Obj)} (ht : TabsOk tabs) : FOK Try.prog tabs 42 (ref12_Shifted.fe ref12_Shifted.F) := by
  refine fn_keep2 Try.func42 (ref12_Shifted.eq ref12_Two.F ref12_sums.F ref01_Make.F) pw tb (gt_ok ht) (by kernel_rfl) (by kernel_rfl) (fun g ks fe h => ?_) ?_
  · rcases c_cons h with ⟨rfl, rfl⟩ | h
    · exact ref12_Two.ok ht
    rcases c_cons h with ⟨rfl, rfl⟩ | h
    · exact ref12_sums.ok ht
    rcases c_cons h with ⟨rfl, rfl⟩ | h
    · exact ref01_Make.ok ht
    cases h
  · exact known_at 0 (by kernel_rfl) fun i hi => absurd hi (Nat.not_lt_zero i)

/-! ref13_product -/
def ref13_product.f0 (L : Y79 → Option Y101) (x_0 y_1 : List Int) (p_5 s_6 t_7 v10 v11 : Int) : Option Y101 :=
  (bif (decide (v11 < v10)) then
 (bif (decide ((0:Int) ≤ v11)) then
 (bif (decide (v11 < (((List.length x_0) : Nat) : Int))) then
 (bif (decide ((0:Int) ≤ v11)) then
 (bif (decide (v11 < (((List.length y_1) : Nat) : Int))) then
 (bif (decide ((0:Int) ≤ v11)) then
 (bif (decide (v11 < (((List.length x_0) : Nat) : Int))) then
 (bif (decide ((0:Int) ≤ v11)) then
 (bif (decide (v11 < (((List.length y_1) : Nat) : Int))) then
 (Option.bind (L ((x_0, (y_1, ((Go.IntKind.wrap Go.IntKind.i64 (p_5 + (Go.IntKind.wrap Go.IntKind.i64 ((List.getD x_0 (Int.toNat v11) (0:Int)) * (List.getD y_1 (Int.toNat v11) (0:Int)))))), ((Go.IntKind.wrap Go.IntKind.i64 (s_6 + (List.getD x_0 (Int.toNat v11) (0:Int)))), ((Go.IntKind.wrap Go.IntKind.i64 (t_7 + (List.getD y_1 (Int.toNat v11) (0:Int)))), (v10, ((Go.IntKind.wrap Go.IntKind.i64 (v11 + (1:Int))), ()))))))), ())) (fun y9 =>
 (some y9)))
 else
 none)
 else
 none)
 else
 none)
 else
 none)
 else
 none)
 else
 none)
 else
 none)
 else
 none)
 else
 (some (Sum.inl ((x_0, (p_5, (s_6, (t_7, ())))), ()))))
theorem ref13_product.eq0 (l0 : ref13_product.A0) (L : ref13_product.A0) (x : ref13_product.s0.X) : rndO (ref13_product.E l0) ref13_product.hs ref13_product.c ref13_product.s0 ref13_product.x0 0 true L x = ref13_product.f0 L x.1.1 x.1.2.1 x.1.2.2.1 x.1.2.2.2.1 x.1.2.2.2.2.1 x.1.2.2.2.2.2.1 x.1.2.2.2.2.2.2.1 := by
  show _ = (_ : Option _)
  kernel_rfl
noncomputable def ref13_product.L0 : Y79 → Option Y101 := loop fun L x => ref13_product.f0 L x.1.1 x.1.2.1 x.1.2.2.1 x.1.2.2.2.1 x.1.2.2.2.2.1 x.1.2.2.2.2.2.1 x.1.2.2.2.2.2.2.1
def ref13_product.f (l0 : Y79 → Option Y101) (x_ y : List Int) : Option Y143 :=
  (Option.bind (l0 ((x_, (y, ((0:Int), ((0:Int), ((0:Int), ((((List.length x_) : Nat) : Int), ((0:Int), ()))))))), ())) (fun y0 =>
 (Sum.elim (fun a1 =>
 (some (((Go.IntKind.wrap Go.IntKind.i64 ((Go.IntKind.wrap Go.IntKind.i64 ((((List.length a1.1.1) : Nat) : Int) * a1.1.2.1)) - (Go.IntKind.wrap Go.IntKind.i64 (a1.1.2.2.1 * a1.1.2.2.2.1)))), ()), ()))) (fun b1 =>
 (Empty.elim b1)) y0)))
theorem ref13_product.eq (l0 : ref13_product.A0) (x : ref13_product.sh.X) : bodO (ref13_product.E l0) ref13_product.hs ref13_product.c Try.f64 ref13_product.sh ref13_product.osh x = ref13_product.f l0 x.1.1 x.1.2.1 := by
  show _ = (_ : Option _)
  kernel_rfl
noncomputable def ref13_product (x_ y : List Int) : Option Y143 := ref13_product.f ref13_product.L0 x_ y
noncomputable def ref13_product.F (x : Y124) : Option Y143 := ref13_product x.1.1 x.1.2.1
theorem ref13_product.L0_eq (x_0 y_1 : List Int) (p_5 s_6 t_7 v10 v11 : Int) : ref13_product.L0 ((x_0, y_1, p_5, s_6, t_7, v10, v11, ()), ()) = ref13_product.f0 ref13_product.L0 x_0 y_1 p_5 s_6 t_7 v10 v11 :=
  loop_eq (E := (ref13_product.E ref13_product.L0)) (sh := ref13_product.s0) (es := ref13_product.x0) (lp := true) (H := fun L x => ref13_product.eq0 ref13_product.L0 L x) ((x_0, y_1, p_5, s_6, t_7, v10, v11, ()), ())
theorem ref13_product.F_eq (x_ y : List Int) : ref13_product.F ((x_, y, ()), ()) = ref13_product.f ref13_product.L0 x_ y := rfl
theorem ref13_product.ok {tabs : List (Nat × Go.Obj)} (ht : TabsOk tabs) : FOK Try.prog tabs 64 (ref13_product.fe ref13_product.F) := by
  refine fn_keep2 Try.func64 (ref13_product.eq ref13_product.L0) pw tb (gt_ok ht) (by kernel_rfl) (by kernel_rfl) (fun g ks fe h => ?_) ?_
  · cases h
  · refine known_at 1 (by kernel_rfl) fun i hi => ?_
    match i, hi with
    | 0, _ => exact atomH (loop_ok (es := ref13_product.x0) rfl (ref13_product.eq0 ref13_product.L0)) (by kernel_rfl)
    | n + 1, h => exact absurd h (by omega)

/-! ref13_Product -/
def ref13_Product.f (g_ref12_Two : Y115 → Option Y143) (g_ref13_product : Y124 → Option Y143) (x_ y : List Int) : Option Y140 :=
  (Option.bind (g_ref12_Two ((x_, (y, ((0:Int), ()))), ())) (fun y0 =>
 (bif (y0.1.1 != (0:Int)) then
 (some (((0:Int), (y0.1.1, ())), ()))
 else
 (Option.bind (g_ref13_product ((x_, (y, ())), ())) (fun y2 =>
 (some ((y2.1.1, ((0:Int), ())), ())))))))
theorem ref13_Product.eq (g_ref12_Two : ref12_Two.G) (g_ref13_product : ref13_product.G) (x : ref13_Product.sh.X) : bodO (ref13_Product.E g_ref12_Two g_ref13_product) ref13_Product.hs ref13_Product.c Try.f62 ref13_Product.sh ref13_Product.osh x = ref13_Product.f g_ref12_Two g_ref13_product x.1.1 x.1.2.1 := by
  show _ = (_ : Option _)
  kernel_rfl
noncomputable def ref13_Product (x_ y : List Int) : Option Y140 := ref13_Product.f ref12_Two.F ref13_product.F x_ y
noncomputable def ref13_Product.F (x : Y124) : Option Y140 := ref13_Product x.1.1 x.1.2.1
theorem ref13_Product.F_eq (x_ y : List Int) : ref13_Product.F ((x_, y, ()), ()) = ref13_Product.f ref12_Two.F ref13_product.F x_ y := rfl
theorem ref13_Product.ok {tabs : List (Nat × Go.Obj)} (ht : TabsOk tabs) : FOK Try.prog tabs 62 (ref13_Product.fe ref13_Product.F) := by
  refine fn_keep2 Try.func62 (ref13_Product.eq ref12_Two.F ref13_product.F) pw tb (gt_ok ht) (by kernel_rfl) (by kernel_rfl) (fun g ks fe h => ?_) ?_
  · rcases c_cons h with ⟨rfl, rfl⟩ | h
    · exact ref12_Two.ok ht
    rcases c_cons h with ⟨rfl, rfl⟩ | h
    · exact ref13_product.ok ht
    cases h
  · exact known_at 0 (by kernel_rfl) fun i hi => absurd hi (Nat.not_lt_zero i)

/-! ref13_Between -/
def ref13_Between.f0 (c_0 v_1 w_2 o0_0 o0_1 o1_0 o1_1 : Int) : Option Y40 :=
  (bif (v_1 == (0:Int)) then
 (some (Sum.inl ((c_0, (v_1, (w_2, ((), ((), ((w_2 == (0:Int)), ())))))), ((o0_0, (o0_1, ())), ((o1_0, (o1_1, ())), ())))))
 else
 (some (Sum.inl ((c_0, (v_1, (w_2, ((), ((), (Bool.false, ())))))), ((o0_0, (o0_1, ())), ((o1_0, (o1_1, ())), ()))))))
theorem ref13_Between.eq0 (g_ref01_Make : ref01_Make.G) (l0 : ref13_Between.A0) (l1 : ref13_Between.A1) (l2 : ref13_Between.A2) (L : ref13_Between.A0) (x : ref13_Between.s0.X) : rndO (ref13_Between.E g_ref01_Make l0 l1 l2) ref13_Between.hs ref13_Between.c ref13_Between.s0 ref13_Between.x0 0 false L x = ref13_Between.f0 x.1.1 x.1.2.1 x.1.2.2.1 x.2.1.1 x.2.1.2.1 x.2.2.1.1 x.2.2.1.2.1 := by
  show _ = (_ : Option _)
  kernel_rfl
noncomputable def ref13_Between.L0 : Y57 → Option Y40 := fun x => ref13_Between.f0 x.1.1 x.1.2.1 x.1.2.2.1 x.2.1.1 x.2.1.2.1 x.2.2.1.1 x.2.2.1.2.1
def ref13_Between.f1 (c_0 v_1 w_2 o0_0 o0_1 o1_0 o1_1 : Int) : Option Y40 :=
  (bif (v_1 != (0:Int)) then
 (bif (w_2 != (0:Int)) then
 (some (Sum.inl ((c_0, (v_1, (w_2, ((), ((), ((decide (c_0 ≥ (0:Int))), ())))))), ((o0_0, (o0_1, ())), ((o1_0, (o1_1, ())), ())))))
 else
 (some (Sum.inl ((c_0, (v_1, (w_2, ((), ((), (Bool.false, ())))))), ((o0_0, (o0_1, ())), ((o1_0, (o1_1, ())), ()))))))
 else
 (some (Sum.inl ((c_0, (v_1, (w_2, ((), ((), (Bool.false, ())))))), ((o0_0, (o0_1, ())), ((o1_0, (o1_1, ())), ()))))))
theorem ref13_Between.eq1 (g_ref01_Make : ref01_Make.G) (l0 : ref13_Between.A0) (l1 : ref13_Between.A1) (l2 : ref13_Between.A2) (L : ref13_Between.A1) (x : ref13_Between.s1.X) : rndO (ref13_Between.E g_ref01_Make l0 l1 l2) ref13_Between.hs ref13_Between.c ref13_Between.s1 ref13_Between.x1 1 false L x = ref13_Between.f1 x.1.1 x.1.2.1 x.1.2.2.1 x.2.1.1 x.2.1.2.1 x.2.2.1.1 x.2.2.1.2.1 := by
  show _ = (_ : Option _)
  kernel_rfl
noncomputable def ref13_Between.L1 : Y57 → Option Y40 := fun x => ref13_Between.f1 x.1.1 x.1.2.1 x.1.2.2.1 x.2.1.1 x.2.1.2.1 x.2.2.1.1 x.2.2.1.2.1
def ref13_Between.f2 (c_0 v_1 w_2 o0_0 o0_1 o1_0 o1_1 : Int) : Option Y40 :=
  (bif (v_1 != (0:Int)) then
 (some (Sum.inl ((c_0, (v_1, (w_2, ((), ((), ((w_2 != (0:Int)), ())))))), ((o0_0, (o0_1, ())), ((o1_0, (o1_1, ())), ())))))
 else
 (some (Sum.inl ((c_0, (v_1, (w_2, ((), ((), (Bool.false, ())))))), ((o0_0, (o0_1, ())), ((o1_0, (o1_1, ())), ()))))))
theorem ref13_Between.eq2 (g_ref01_Make : ref01_Make.G) (l0 : ref13_Between.A0) (l1 : ref13_Between.A1) (l2 : ref13_Between.A2) (L : ref13_Between.A2) (x : ref13_Between.s2.X) : rndO (ref13_Between.E g_ref01_Make l0 l1 l2) ref13_Between.hs ref13_Between.c ref13_Between.s2 ref13_Between.x2 2 false L x = ref13_Between.f2 x.1.1 x.1.2.1 x.1.2.2.1 x.2.1.1 x.2.1.2.1 x.2.2.1.1 x.2.2.1.2.1 := by
  show _ = (_ : Option _)
  kernel_rfl
noncomputable def ref13_Between.L2 : Y57 → Option Y40 := fun x => ref13_Between.f2 x.1.1 x.1.2.1 x.1.2.2.1 x.2.1.1 x.2.1.2.1 x.2.2.1.1 x.2.2.1.2.1
def ref13_Between.f (g_ref01_Make : Y140 → Option Y122) (l0 : Y57 → Option Y40) (l1 : Y57 → Option Y40) (l2 : Y57 → Option Y40) (c v w : Int) : Option Y131 :=
  (Option.bind (l0 ((c, (v, (w, ((), ((), ()))))), (((0:Int), ((0:Int), ())), (((1:Int), ((1:Int), ())), ())))) (fun y0 =>
 (Sum.elim (fun a1 =>
 (bif a1.1.2.2.2.2.2.1 then
 (some ((((0:Int), (a1.2.2.1.2.1, ())), ()), ()))
 else
 (Option.bind (l1 ((a1.1.1, (a1.1.2.1, (a1.1.2.2.1, ((), ((), ()))))), ((a1.2.1.1, (a1.2.1.2.1, ())), ((a1.2.2.1.1, (a1.2.2.1.2.1, ())), ())))) (fun y3 =>
 (Sum.elim (fun a4 =>
 (bif a4.1.2.2.2.2.2.1 then
 (Option.bind (g_ref01_Make (((Go.IntKind.wrap Go.IntKind.i64 ((Go.IntKind.wrap Go.IntKind.i64 (a4.1.2.1 * a4.1.2.2.1)) - (Go.IntKind.wrap Go.IntKind.i64 (a4.1.1 * a4.1.1)))), ((Go.IntKind.wrap Go.IntKind.i64 (a4.1.2.1 * a4.1.2.2.1)), ())), ())) (fun y6 =>
 (some (((y6.1.1.1, (y6.1.1.2.1, ())), ()), ()))))
 else
 (Option.bind (l2 ((a4.1.1, (a4.1.2.1, (a4.1.2.2.1, ((), ((), ()))))), ((a4.2.1.1, (a4.2.1.2.1, ())), ((a4.2.2.1.1, (a4.2.2.1.2.1, ())), ())))) (fun y6 =>
 (Sum.elim (fun a7 =>
 (bif a7.1.2.2.2.2.2.1 then
 (Option.bind (g_ref01_Make (((Go.IntKind.wrap Go.IntKind.i64 ((Go.IntKind.wrap Go.IntKind.i64 (a7.1.2.1 * a7.1.2.2.1)) + (Go.IntKind.wrap Go.IntKind.i64 (a7.1.1 * a7.1.1)))), ((Go.IntKind.wrap Go.IntKind.i64 (a7.1.2.1 * a7.1.2.2.1)), ())), ())) (fun y9 =>
 (some (((y9.1.1.1, (y9.1.1.2.1, ())), ()), ()))))
 else
 (some (((a7.2.2.1.1, (a7.2.2.1.2.1, ())), ()), ())))) (fun b7 =>
 (Empty.elim b7)) y6))))) (fun b4 =>
 (Empty.elim b4)) y3))))) (fun b1 =>
 (Empty.elim b1)) y0)))
theorem ref13_Between.eq (g_ref01_Make : ref01_Make.G) (l0 : ref13_Between.A0) (l1 : ref13_Between.A1) (l2 : ref13_Between.A2) (x : ref13_Between.sh.X) : bodO (ref13_Between.E g_ref01_Make l0 l1 l2) ref13_Between.hs ref13_Between.c Try.f63 ref13_Between.sh ref13_Between.osh x = ref13_Between.f g_ref01_Make l0 l1 l2 x.1.1 x.1.2.1 x.1.2.2.1 := by
  show _ = (_ : Option _)
  kernel_rfl
noncomputable def ref13_Between (c v w : Int) : Option Y131 := ref13_Between.f ref01_Make.F ref13_Between.L0 ref13_Between.L1 ref13_Between.L2 c v w
noncomputable def ref13_Between.F (x : Y135) : Option Y131 := ref13_Between x.1.1 x.1.2.1 x.1.2.2.1
theorem ref13_Between.L0_eq (c_0 v_1 w_2 o0_0 o0_1 o1_0 o1_1 : Int) : ref13_Between.L0 ((c_0, v_1, w_2, (), (), ()), ((o0_0, o0_1, ()), (o1_0, o1_1, ()), ())) = ref13_Between.f0 c_0 v_1 w_2 o0_0 o0_1 o1_0 o1_1 := rfl
theorem ref13_Between.L1_eq (c_0 v_1 w_2 o0_0 o0_1 o1_0 o1_1 : Int) : ref13_Between.L1 ((c_0, v_1, w_2, (), (), ()), ((o0_0, o0_1, ()), (o1_0, o1_1, ()), ())) = ref13_Between.f1 c_0 v_1 w_2 o0_0 o0_1 o1_0 o1_1 := rfl
theorem ref13_Between.L2_eq (c_0 v_1 w_2 o0_0 o0_1 o1_0 o1_1 : Int) : ref13_Between.L2 ((c_0, v_1, w_2, (), (), ()), ((o0_0, o0_1, ()), (o1_0, o1_1, ()), ())) = ref13_Between.f2 c_0 v_1 w_2 o0_0 o0_1 o1_0 o1_1 := rfl
theorem ref13_Between.F_eq (c v w : Int) : ref13_Between.F ((c, v, w, ()), ()) = ref13_Between.f ref01_Make.F ref13_Between.L0 ref13_Between.L1 ref13_Between.L2 c v w := rfl
theorem ref13_Between.ok {tabs : List (Nat × Go.Obj)} (ht : TabsOk tabs) : FOK Try.prog tabs 63 (ref13_Between.fe ref13_Between.F) := by
  refine fn_keep2 Try.func63 (ref13_Between.eq ref01_Make.F ref13_Between.L0 ref13_Between.L1 ref13_Between.L2) pw tb (gt_ok ht) (by kernel_rfl) (by kernel_rfl) (fun g ks fe h => ?_) ?_
  · rcases c_cons h with ⟨rfl, rfl⟩ | h
    · exact ref01_Make.ok ht
    cases h
  · refine known_at 3 (by kernel_rfl) fun i hi => ?_
    match i, hi with
    | 0, _ => exact atomH (cut_ok (es := ref13_Between.x0) rfl (ref13_Between.eq0 ref01_Make.F ref13_Between.L0 ref13_Between.L1 ref13_Between.L2)) (by kernel_rfl)
    | 1, _ => exact atomH (cut_ok (es := ref13_Between.x1) rfl (ref13_Between.eq1 ref01_Make.F ref13_Between.L0 ref13_Between.L1 ref13_Between.L2)) (by kernel_rfl)
    | 2, _ => exact atomH (cut_ok (es := ref13_Between.x2) rfl (ref13_Between.eq2 ref01_Make.F ref13_Between.L0 ref13_Between.L1 ref13_Between.L2)) (by kernel_rfl)
    | n + 3, h => exact absurd h (by omega)
end Go.Proofs.Ytefcciajemkicaa.V
