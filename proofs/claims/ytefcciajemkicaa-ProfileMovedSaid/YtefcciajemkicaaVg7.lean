import Derived.Test.YtefcciajemkicaaVg6
import Derived.WalkKit
set_option linter.unusedVariables false
set_option maxRecDepth 100000
namespace Go.Proofs.Ytefcciajemkicaa.V
open Go.VI
/-! second_Deck_Values -/
def second_Deck_Values.f2 (g_second_Deck_Next : ((Unit × Int × Unit) × (((List Int) × Int × Unit) × Unit)) → Option ((Int × Unit) × (((List Int) × Int × Unit) × Unit))) (n_1 : Int) (shape_6 : Int) (width_7 : Int) (i_8 : Int) (x_9 : Int) (v22 : Int) (v23 : Bool) (o0_0 : (List Int)) (o0_1 : Int) (o1 : List Int) : Option (((Unit × Int × Unit × Int × Int × Int × Int × Unit) × (((List Int) × Int × Unit) × (List Int) × Unit)) ⊕ Empty) :=
  (bif v23 then
   (bif (!(decide (width_7 = (0:Int)))) then
    (some (Sum.inl (((), (n_1, ((), (shape_6, (width_7, (i_8, ((Go.IntKind.wrap Go.IntKind.i64 ((Int.tmod i_8 width_7) * (3:Int))), ()))))))), ((o0_0, (o0_1, ())), (o1, ())))))
   else
    none)
  else
   (bif (v22 == (1:Int)) then
    (bif (!(decide (width_7 = (0:Int)))) then
     (Option.bind (g_second_Deck_Next (((), ((2:Int), ())), ((o0_0, (o0_1, ())), ()))) (fun y3 =>
     (some (Sum.inl (((), (n_1, ((), (shape_6, (width_7, (i_8, ((Go.IntKind.wrap Go.IntKind.i64 ((Go.IntKind.wrap Go.IntKind.i64 ((Int.tmod i_8 width_7) * (4:Int))) + y3.1.1)), ()))))))), ((y3.2.1.1, (y3.2.1.2.1, ())), (o1, ())))))))
    else
     none)
   else
    (bif (v22 == (2:Int)) then
     (bif (!(decide (width_7 = (0:Int)))) then
      (some (Sum.inl (((), (n_1, ((), (shape_6, (width_7, (i_8, ((Go.IntKind.wrap Go.IntKind.i64 ((Go.IntKind.wrap Go.IntKind.i64 (Int.tdiv i_8 width_7)) * (2:Int))), ()))))))), ((o0_0, (o0_1, ())), (o1, ())))))
     else
      none)
    else
     (some (Sum.inl (((), (n_1, ((), (shape_6, (width_7, (i_8, (x_9, ()))))))), ((o0_0, (o0_1, ())), (o1, ()))))))))
theorem second_Deck_Values.eq2 (g_second_Deck_Next : second_Deck_Next.sh.X → Option second_Deck_Next.osh.X) (g_second_Deck_Sample : second_Deck_Sample.sh.X → Option second_Deck_Sample.osh.X) (l0 : second_Deck_Values.s0.X → Option (sumX second_Deck_Values.x0)) (l1 : second_Deck_Values.s1.X → Option (sumX second_Deck_Values.x1)) (l2 : second_Deck_Values.s2.X → Option (sumX second_Deck_Values.x2)) (L : ((Unit × Int × Unit × Int × Int × Int × Int × Int × Bool × Unit) × (((List Int) × Int × Unit) × (List Int) × Unit)) → Option (((Unit × Int × Unit × Int × Int × Int × Int × Unit) × (((List Int) × Int × Unit) × (List Int) × Unit)) ⊕ Empty)) (x : ((Unit × Int × Unit × Int × Int × Int × Int × Int × Bool × Unit) × (((List Int) × Int × Unit) × (List Int) × Unit))) : (roundK (second_Deck_Values.E g_second_Deck_Next g_second_Deck_Sample l0 l1 l2) second_Deck_Values.s2 [0, 1, 5, 6, 7, 8, 9, 22, 23] [(0, [0, 1, 5, 6, 7, 8, 9])] false (((mk second_Deck_Values.hs second_Deck_Values.c []).atoms.getD 2 .bad).body) second_Deck_Values.x2 L x).run _ some = second_Deck_Values.f2 g_second_Deck_Next x.1.2.1 x.1.2.2.2.1 x.1.2.2.2.2.1 x.1.2.2.2.2.2.1 x.1.2.2.2.2.2.2.1 x.1.2.2.2.2.2.2.2.1 x.1.2.2.2.2.2.2.2.2.1 x.2.1.1 x.2.1.2.1 x.2.2.1 := by
  show _ = (_ : Option _)
  kernel_rfl
noncomputable def second_Deck_Values.L2 : ((Unit × Int × Unit × Int × Int × Int × Int × Int × Bool × Unit) × (((List Int) × Int × Unit) × (List Int) × Unit)) → Option (((Unit × Int × Unit × Int × Int × Int × Int × Unit) × (((List Int) × Int × Unit) × (List Int) × Unit)) ⊕ Empty) := fun x => second_Deck_Values.f2 second_Deck_Next.F x.1.2.1 x.1.2.2.2.1 x.1.2.2.2.2.1 x.1.2.2.2.2.2.1 x.1.2.2.2.2.2.2.1 x.1.2.2.2.2.2.2.2.1 x.1.2.2.2.2.2.2.2.2.1 x.2.1.1 x.2.1.2.1 x.2.2.1
def second_Deck_Values.f1 (l2 : ((Unit × Int × Unit × Int × Int × Int × Int × Int × Bool × Unit) × (((List Int) × Int × Unit) × (List Int) × Unit)) → Option (((Unit × Int × Unit × Int × Int × Int × Int × Unit) × (((List Int) × Int × Unit) × (List Int) × Unit)) ⊕ Empty)) (n_1 : Int) (shape_6 : Int) (width_7 : Int) (i_8 : Int) (x_9 : Int) (v22 : Int) (o0_0 : (List Int)) (o0_1 : Int) (o1 : List Int) : Option (((Unit × Int × Unit × Int × Int × Int × Int × Unit) × (((List Int) × Int × Unit) × (List Int) × Unit)) ⊕ Empty) :=
  (Option.bind (l2 (((), (n_1, ((), (shape_6, (width_7, (i_8, (x_9, (v22, ((v22 == (0:Int)), ()))))))))), ((o0_0, (o0_1, ())), (o1, ())))) (fun y0 =>
  (Sum.elim (fun a1 =>
   (some (Sum.inl (((), (a1.1.2.1, ((), (a1.1.2.2.2.1, (a1.1.2.2.2.2.1, (a1.1.2.2.2.2.2.1, (a1.1.2.2.2.2.2.2.1, ()))))))), ((a1.2.1.1, (a1.2.1.2.1, ())), (a1.2.2.1, ())))))) (fun b1 =>
   (Empty.elim b1)) y0)))
theorem second_Deck_Values.eq1 (g_second_Deck_Next : second_Deck_Next.sh.X → Option second_Deck_Next.osh.X) (g_second_Deck_Sample : second_Deck_Sample.sh.X → Option second_Deck_Sample.osh.X) (l0 : second_Deck_Values.s0.X → Option (sumX second_Deck_Values.x0)) (l1 : second_Deck_Values.s1.X → Option (sumX second_Deck_Values.x1)) (l2 : second_Deck_Values.s2.X → Option (sumX second_Deck_Values.x2)) (L : ((Unit × Int × Unit × Int × Int × Int × Int × Int × Unit) × (((List Int) × Int × Unit) × (List Int) × Unit)) → Option (((Unit × Int × Unit × Int × Int × Int × Int × Unit) × (((List Int) × Int × Unit) × (List Int) × Unit)) ⊕ Empty)) (x : ((Unit × Int × Unit × Int × Int × Int × Int × Int × Unit) × (((List Int) × Int × Unit) × (List Int) × Unit))) : (roundK (second_Deck_Values.E g_second_Deck_Next g_second_Deck_Sample l0 l1 l2) second_Deck_Values.s1 [0, 1, 5, 6, 7, 8, 9, 22] [(0, [0, 1, 5, 6, 7, 8, 9])] false (((mk second_Deck_Values.hs second_Deck_Values.c []).atoms.getD 1 .bad).body) second_Deck_Values.x1 L x).run _ some = second_Deck_Values.f1 l2 x.1.2.1 x.1.2.2.2.1 x.1.2.2.2.2.1 x.1.2.2.2.2.2.1 x.1.2.2.2.2.2.2.1 x.1.2.2.2.2.2.2.2.1 x.2.1.1 x.2.1.2.1 x.2.2.1 := by
  show _ = (_ : Option _)
  kernel_rfl
noncomputable def second_Deck_Values.L1 : ((Unit × Int × Unit × Int × Int × Int × Int × Int × Unit) × (((List Int) × Int × Unit) × (List Int) × Unit)) → Option (((Unit × Int × Unit × Int × Int × Int × Int × Unit) × (((List Int) × Int × Unit) × (List Int) × Unit)) ⊕ Empty) := fun x => second_Deck_Values.f1 second_Deck_Values.L2 x.1.2.1 x.1.2.2.2.1 x.1.2.2.2.2.1 x.1.2.2.2.2.2.1 x.1.2.2.2.2.2.2.1 x.1.2.2.2.2.2.2.2.1 x.2.1.1 x.2.1.2.1 x.2.2.1
def second_Deck_Values.f0 (g_second_Deck_Next : ((Unit × Int × Unit) × (((List Int) × Int × Unit) × Unit)) → Option ((Int × Unit) × (((List Int) × Int × Unit) × Unit))) (g_second_Deck_Sample : ((Unit × Unit) × (((List Int) × Int × Unit) × Unit)) → Option ((Int × Unit) × (((List Int) × Int × Unit) × Unit))) (l1 : ((Unit × Int × Unit × Int × Int × Int × Int × Int × Unit) × (((List Int) × Int × Unit) × (List Int) × Unit)) → Option (((Unit × Int × Unit × Int × Int × Int × Int × Unit) × (((List Int) × Int × Unit) × (List Int) × Unit)) ⊕ Empty)) (L : ((Unit × Int × Unit × Int × Int × Int × Unit) × (((List Int) × Int × Unit) × (List Int) × Unit)) → Option (((Unit × Unit) × (((List Int) × Int × Unit) × (List Int) × Unit)) ⊕ Empty)) (n_1 : Int) (shape_6 : Int) (width_7 : Int) (i_8 : Int) (o0_0 : (List Int)) (o0_1 : Int) (o1 : List Int) : Option (((Unit × Unit) × (((List Int) × Int × Unit) × (List Int) × Unit)) ⊕ Empty) :=
  (bif (decide (i_8 < n_1)) then
   (Option.bind (g_second_Deck_Sample (((), ()), ((o0_0, (o0_1, ())), ()))) (fun y1 =>
   (Option.bind (l1 (((), (n_1, ((), (shape_6, (width_7, (i_8, (y1.1.1, (shape_6, ())))))))), ((y1.2.1.1, (y1.2.1.2.1, ())), (o1, ())))) (fun y2 =>
   (Sum.elim (fun a3 =>
    (Option.bind (g_second_Deck_Next (((), ((30:Int), ())), ((a3.2.1.1, (a3.2.1.2.1, ())), ()))) (fun y4 =>
    (bif (y4.1.1 == (29:Int)) then
     (bif (decide ((((List.length a3.2.2.1) + (List.length [(1073741824:Int)])) * (8:Nat)) ≤ (140737488355328:Nat))) then
      (Option.bind (L (((), (a3.1.2.1, ((), (a3.1.2.2.2.1, (a3.1.2.2.2.2.1, ((Go.IntKind.wrap Go.IntKind.i64 (a3.1.2.2.2.2.2.1 + (1:Int))), ())))))), ((y4.2.1.1, (y4.2.1.2.1, ())), ((a3.2.2.1 ++ [(1073741824:Int)]), ())))) (fun y7 =>
      (some y7)))
     else
      none)
    else
     (bif (decide ((((List.length a3.2.2.1) + (List.length [a3.1.2.2.2.2.2.2.1])) * (8:Nat)) ≤ (140737488355328:Nat))) then
      (Option.bind (L (((), (a3.1.2.1, ((), (a3.1.2.2.2.1, (a3.1.2.2.2.2.1, ((Go.IntKind.wrap Go.IntKind.i64 (a3.1.2.2.2.2.2.1 + (1:Int))), ())))))), ((y4.2.1.1, (y4.2.1.2.1, ())), ((a3.2.2.1 ++ [a3.1.2.2.2.2.2.2.1]), ())))) (fun y7 =>
      (some y7)))
     else
      none))))) (fun b3 =>
    (Empty.elim b3)) y2)))))
  else
   (some (Sum.inl (((), ()), ((o0_0, (o0_1, ())), (o1, ()))))))
theorem second_Deck_Values.eq0 (g_second_Deck_Next : second_Deck_Next.sh.X → Option second_Deck_Next.osh.X) (g_second_Deck_Sample : second_Deck_Sample.sh.X → Option second_Deck_Sample.osh.X) (l0 : second_Deck_Values.s0.X → Option (sumX second_Deck_Values.x0)) (l1 : second_Deck_Values.s1.X → Option (sumX second_Deck_Values.x1)) (l2 : second_Deck_Values.s2.X → Option (sumX second_Deck_Values.x2)) (L : ((Unit × Int × Unit × Int × Int × Int × Unit) × (((List Int) × Int × Unit) × (List Int) × Unit)) → Option (((Unit × Unit) × (((List Int) × Int × Unit) × (List Int) × Unit)) ⊕ Empty)) (x : ((Unit × Int × Unit × Int × Int × Int × Unit) × (((List Int) × Int × Unit) × (List Int) × Unit))) : (roundK (second_Deck_Values.E g_second_Deck_Next g_second_Deck_Sample l0 l1 l2) second_Deck_Values.s0 [0, 1, 5, 6, 7, 8] [(2, [5])] true (((mk second_Deck_Values.hs second_Deck_Values.c []).atoms.getD 0 .bad).body) second_Deck_Values.x0 L x).run _ some = second_Deck_Values.f0 g_second_Deck_Next g_second_Deck_Sample l1 L x.1.2.1 x.1.2.2.2.1 x.1.2.2.2.2.1 x.1.2.2.2.2.2.1 x.2.1.1 x.2.1.2.1 x.2.2.1 := by
  show _ = (_ : Option _)
  kernel_rfl
noncomputable def second_Deck_Values.L0 : ((Unit × Int × Unit × Int × Int × Int × Unit) × (((List Int) × Int × Unit) × (List Int) × Unit)) → Option (((Unit × Unit) × (((List Int) × Int × Unit) × (List Int) × Unit)) ⊕ Empty) := loop fun L x => second_Deck_Values.f0 second_Deck_Next.F second_Deck_Sample.F second_Deck_Values.L1 L x.1.2.1 x.1.2.2.2.1 x.1.2.2.2.2.1 x.1.2.2.2.2.2.1 x.2.1.1 x.2.1.2.1 x.2.2.1
def second_Deck_Values.f (g_second_Deck_Next : ((Unit × Int × Unit) × (((List Int) × Int × Unit) × Unit)) → Option ((Int × Unit) × (((List Int) × Int × Unit) × Unit))) (l0 : ((Unit × Int × Unit × Int × Int × Int × Unit) × (((List Int) × Int × Unit) × (List Int) × Unit)) → Option (((Unit × Unit) × (((List Int) × Int × Unit) × (List Int) × Unit)) ⊕ Empty)) (n : Int) (o0_0 : (List Int)) (o0_1 : Int) : Option ((Unit × Unit) × (((List Int) × Int × Unit) × (List Int) × Unit)) :=
  (Option.bind (g_second_Deck_Next (((), ((5:Int), ())), ((o0_0, (o0_1, ())), ()))) (fun y0 =>
  (Option.bind (g_second_Deck_Next (((), ((4:Int), ())), ((y0.2.1.1, (y0.2.1.2.1, ())), ()))) (fun y1 =>
  (Option.bind (l0 (((), (n, ((), (y0.1.1, ((Go.IntKind.wrap Go.IntKind.i64 ((2:Int) + y1.1.1)), ((0:Int), ())))))), ((y1.2.1.1, (y1.2.1.2.1, ())), (([] : List Int), ())))) (fun y2 =>
  (Sum.elim (fun a3 =>
   (some (((), ()), ((a3.2.1.1, (a3.2.1.2.1, ())), (a3.2.2.1, ()))))) (fun b3 =>
   (Empty.elim b3)) y2)))))))
theorem second_Deck_Values.eq (g_second_Deck_Next : second_Deck_Next.sh.X → Option second_Deck_Next.osh.X) (g_second_Deck_Sample : second_Deck_Sample.sh.X → Option second_Deck_Sample.osh.X) (l0 : second_Deck_Values.s0.X → Option (sumX second_Deck_Values.x0)) (l1 : second_Deck_Values.s1.X → Option (sumX second_Deck_Values.x1)) (l2 : second_Deck_Values.s2.X → Option (sumX second_Deck_Values.x2)) (x : ((Unit × Int × Unit) × (((List Int) × Int × Unit) × Unit))) : (bodyO (second_Deck_Values.E g_second_Deck_Next g_second_Deck_Sample l0 l1 l2) (mk second_Deck_Values.hs second_Deck_Values.c []) Go.Proofs.Try.f17.results.toList second_Deck_Values.sh second_Deck_Values.osh x).run _ some = second_Deck_Values.f g_second_Deck_Next l0 x.1.2.1 x.2.1.1 x.2.1.2.1 := by
  show _ = (_ : Option _)
  kernel_rfl
noncomputable def second_Deck_Values (n : Int) (o0_0 : (List Int)) (o0_1 : Int) : Option ((Unit × Unit) × (((List Int) × Int × Unit) × (List Int) × Unit)) := second_Deck_Values.f second_Deck_Next.F second_Deck_Values.L0 n o0_0 o0_1
noncomputable def second_Deck_Values.F (x : ((Unit × Int × Unit) × (((List Int) × Int × Unit) × Unit))) : Option ((Unit × Unit) × (((List Int) × Int × Unit) × (List Int) × Unit)) := second_Deck_Values x.1.2.1 x.2.1.1 x.2.1.2.1
theorem second_Deck_Values.L0_eq (n_1 : Int) (shape_6 : Int) (width_7 : Int) (i_8 : Int) (o0_0 : (List Int)) (o0_1 : Int) (o1 : List Int) : second_Deck_Values.L0 (((), n_1, (), shape_6, width_7, i_8, ()), ((o0_0, o0_1, ()), o1, ())) = second_Deck_Values.f0 second_Deck_Next.F second_Deck_Sample.F second_Deck_Values.L1 second_Deck_Values.L0 n_1 shape_6 width_7 i_8 o0_0 o0_1 o1 :=
  loop_eq (E := (second_Deck_Values.E second_Deck_Next.F second_Deck_Sample.F second_Deck_Values.L0 second_Deck_Values.L1 second_Deck_Values.L2)) (sh := second_Deck_Values.s0) (es := second_Deck_Values.x0) (lp := true) (H := fun L x => second_Deck_Values.eq0 second_Deck_Next.F second_Deck_Sample.F second_Deck_Values.L0 second_Deck_Values.L1 second_Deck_Values.L2 L x) (((), n_1, (), shape_6, width_7, i_8, ()), ((o0_0, o0_1, ()), o1, ()))
theorem second_Deck_Values.L1_eq (n_1 : Int) (shape_6 : Int) (width_7 : Int) (i_8 : Int) (x_9 : Int) (v22 : Int) (o0_0 : (List Int)) (o0_1 : Int) (o1 : List Int) : second_Deck_Values.L1 (((), n_1, (), shape_6, width_7, i_8, x_9, v22, ()), ((o0_0, o0_1, ()), o1, ())) = second_Deck_Values.f1 second_Deck_Values.L2 n_1 shape_6 width_7 i_8 x_9 v22 o0_0 o0_1 o1 := rfl
theorem second_Deck_Values.L2_eq (n_1 : Int) (shape_6 : Int) (width_7 : Int) (i_8 : Int) (x_9 : Int) (v22 : Int) (v23 : Bool) (o0_0 : (List Int)) (o0_1 : Int) (o1 : List Int) : second_Deck_Values.L2 (((), n_1, (), shape_6, width_7, i_8, x_9, v22, v23, ()), ((o0_0, o0_1, ()), o1, ())) = second_Deck_Values.f2 second_Deck_Next.F n_1 shape_6 width_7 i_8 x_9 v22 v23 o0_0 o0_1 o1 := rfl
theorem second_Deck_Values.F_eq (n : Int) (o0_0 : (List Int)) (o0_1 : Int) : second_Deck_Values.F (((), n, ()), ((o0_0, o0_1, ()), ())) = second_Deck_Values.f second_Deck_Next.F second_Deck_Values.L0 n o0_0 o0_1 := rfl
theorem second_Deck_Values.ok {tabs : List (Nat × Go.Obj)} (ht : TabsOk tabs) : FOK Go.Proofs.Try.prog tabs 17 (FE.of [true, true] true second_Deck_Values.sh second_Deck_Values.osh second_Deck_Values.F) := by
  refine fn_keeps (E := (second_Deck_Values.E second_Deck_Next.F second_Deck_Sample.F second_Deck_Values.L0 second_Deck_Values.L1 second_Deck_Values.L2)) (c := second_Deck_Values.c) (fn := Go.Proofs.Try.f17) (hs := second_Deck_Values.hs) (by kernel_rfl) Go.Proofs.Try.func17 ⟨by kernel_rfl, by kernel_rfl, tb, by kernel_rfl, by kernel_rfl, by kernel_rfl, by kernel_rfl, by kernel_rfl⟩ ⟨fun g ks fe h => ?_, gt_ok ht⟩ ?_ (fun x => second_Deck_Values.eq second_Deck_Next.F second_Deck_Sample.F second_Deck_Values.L0 second_Deck_Values.L1 second_Deck_Values.L2 x)
  · rcases c_cons h with ⟨rfl, rfl⟩ | h
    · exact second_Deck_Next.ok ht
    rcases c_cons h with ⟨rfl, rfl⟩ | h
    · exact second_Deck_Sample.ok ht
    cases h
  · refine known_at 3 (by kernel_rfl) fun i hi => ?_
    match i, hi with
    | 0, _ => exact atom_at (id := 0) (live := [0, 1, 5, 6, 7, 8]) (outs := [(2, [5])]) (loop := true) (by kernel_rfl) (loop_ok (E := (second_Deck_Values.E second_Deck_Next.F second_Deck_Sample.F second_Deck_Values.L0 second_Deck_Values.L1 second_Deck_Values.L2)) (sh := second_Deck_Values.s0) (es := second_Deck_Values.x0) rfl (fun L x => second_Deck_Values.eq0 second_Deck_Next.F second_Deck_Sample.F second_Deck_Values.L0 second_Deck_Values.L1 second_Deck_Values.L2 L x))
    | 1, _ => exact atom_at (id := 1) (live := [0, 1, 5, 6, 7, 8, 9, 22]) (outs := [(0, [0, 1, 5, 6, 7, 8, 9])]) (loop := false) (by kernel_rfl) (cut_ok (E := (second_Deck_Values.E second_Deck_Next.F second_Deck_Sample.F second_Deck_Values.L0 second_Deck_Values.L1 second_Deck_Values.L2)) (sh := second_Deck_Values.s1) (es := second_Deck_Values.x1) rfl (fun L x => second_Deck_Values.eq1 second_Deck_Next.F second_Deck_Sample.F second_Deck_Values.L0 second_Deck_Values.L1 second_Deck_Values.L2 L x))
    | 2, _ => exact atom_at (id := 2) (live := [0, 1, 5, 6, 7, 8, 9, 22, 23]) (outs := [(0, [0, 1, 5, 6, 7, 8, 9])]) (loop := false) (by kernel_rfl) (cut_ok (E := (second_Deck_Values.E second_Deck_Next.F second_Deck_Sample.F second_Deck_Values.L0 second_Deck_Values.L1 second_Deck_Values.L2)) (sh := second_Deck_Values.s2) (es := second_Deck_Values.x2) rfl (fun L x => second_Deck_Values.eq2 second_Deck_Next.F second_Deck_Sample.F second_Deck_Values.L0 second_Deck_Values.L1 second_Deck_Values.L2 L x))
    | n + 3, h => exact absurd h (by omega)

/-! second_Deck_Measure -/
def second_Deck_Measure.f (g_second_Deck_Next : ((Unit × Int × Unit) × (((List Int) × Int × Unit) × Unit)) → Option ((Int × Unit) × (((List Int) × Int × Unit) × Unit))) (kind : Int) (o0_0 : (List Int)) (o0_1 : Int) : Option (((Int × Int × Int × Unit) × Unit) × (((List Int) × Int × Unit) × Unit)) :=
  (bif (kind == (0:Int)) then
   (Option.bind (g_second_Deck_Next (((), ((5:Int), ())), ((o0_0, (o0_1, ())), ()))) (fun y1 =>
   (bif ((Go.IntKind.wrap Go.IntKind.i64 ((1:Int) + y1.1.1)) == (4:Int)) then
    (Option.bind (g_second_Deck_Next (((), ((5:Int), ())), ((y1.2.1.1, (y1.2.1.2.1, ())), ()))) (fun y3 =>
    (bif (decide ((0:Int) ≤ y3.1.1)) then
     (bif (decide (y3.1.1 < (((List.length [(0:Int), (1:Int), (2:Int), (5:Int), (32:Int)]) : Nat) : Int))) then
      (some ((((Go.IntKind.wrap Go.IntKind.i64 ((1:Int) + y1.1.1)), ((List.getD [(0:Int), (1:Int), (2:Int), (5:Int), (32:Int)] (Int.toNat y3.1.1) (0:Int)), ((0:Int), ()))), ()), ((y3.2.1.1, (y3.2.1.2.1, ())), ())))
     else
      none)
    else
     none)))
   else
    (bif ((Go.IntKind.wrap Go.IntKind.i64 ((1:Int) + y1.1.1)) == (5:Int)) then
     (Option.bind (g_second_Deck_Next (((), ((9:Int), ())), ((y1.2.1.1, (y1.2.1.2.1, ())), ()))) (fun y4 =>
     (some ((((Go.IntKind.wrap Go.IntKind.i64 ((1:Int) + y1.1.1)), ((0:Int), ((Go.IntKind.wrap Go.IntKind.i64 (y4.1.1 - (3:Int))), ()))), ()), ((y4.2.1.1, (y4.2.1.2.1, ())), ())))))
    else
     (some ((((Go.IntKind.wrap Go.IntKind.i64 ((1:Int) + y1.1.1)), ((0:Int), ((0:Int), ()))), ()), ((y1.2.1.1, (y1.2.1.2.1, ())), ())))))))
  else
   (bif (kind == (4:Int)) then
    (Option.bind (g_second_Deck_Next (((), ((5:Int), ())), ((o0_0, (o0_1, ())), ()))) (fun y2 =>
    (bif (decide ((0:Int) ≤ y2.1.1)) then
     (bif (decide (y2.1.1 < (((List.length [(0:Int), (1:Int), (2:Int), (5:Int), (32:Int)]) : Nat) : Int))) then
      (some (((kind, ((List.getD [(0:Int), (1:Int), (2:Int), (5:Int), (32:Int)] (Int.toNat y2.1.1) (0:Int)), ((0:Int), ()))), ()), ((y2.2.1.1, (y2.2.1.2.1, ())), ())))
     else
      none)
    else
     none)))
   else
    (bif (kind == (5:Int)) then
     (Option.bind (g_second_Deck_Next (((), ((9:Int), ())), ((o0_0, (o0_1, ())), ()))) (fun y3 =>
     (some (((kind, ((0:Int), ((Go.IntKind.wrap Go.IntKind.i64 (y3.1.1 - (3:Int))), ()))), ()), ((y3.2.1.1, (y3.2.1.2.1, ())), ())))))
    else
     (some (((kind, ((0:Int), ((0:Int), ()))), ()), ((o0_0, (o0_1, ())), ()))))))
theorem second_Deck_Measure.eq (g_second_Deck_Next : second_Deck_Next.sh.X → Option second_Deck_Next.osh.X) (x : ((Unit × Int × Unit) × (((List Int) × Int × Unit) × Unit))) : (bodyO (second_Deck_Measure.E g_second_Deck_Next) (mk second_Deck_Measure.hs second_Deck_Measure.c []) Go.Proofs.Try.f19.results.toList second_Deck_Measure.sh second_Deck_Measure.osh x).run _ some = second_Deck_Measure.f g_second_Deck_Next x.1.2.1 x.2.1.1 x.2.1.2.1 := by
  show _ = (_ : Option _)
  kernel_rfl
noncomputable def second_Deck_Measure (kind : Int) (o0_0 : (List Int)) (o0_1 : Int) : Option (((Int × Int × Int × Unit) × Unit) × (((List Int) × Int × Unit) × Unit)) := second_Deck_Measure.f second_Deck_Next.F kind o0_0 o0_1
noncomputable def second_Deck_Measure.F (x : ((Unit × Int × Unit) × (((List Int) × Int × Unit) × Unit))) : Option (((Int × Int × Int × Unit) × Unit) × (((List Int) × Int × Unit) × Unit)) := second_Deck_Measure x.1.2.1 x.2.1.1 x.2.1.2.1
theorem second_Deck_Measure.F_eq (kind : Int) (o0_0 : (List Int)) (o0_1 : Int) : second_Deck_Measure.F (((), kind, ()), ((o0_0, o0_1, ()), ())) = second_Deck_Measure.f second_Deck_Next.F kind o0_0 o0_1 := rfl
theorem second_Deck_Measure.ok {tabs : List (Nat × Go.Obj)} (ht : TabsOk tabs) : FOK Go.Proofs.Try.prog tabs 19 (FE.of [true, true] true second_Deck_Measure.sh second_Deck_Measure.osh second_Deck_Measure.F) := by
  refine fn_keeps (E := (second_Deck_Measure.E second_Deck_Next.F)) (c := second_Deck_Measure.c) (fn := Go.Proofs.Try.f19) (hs := second_Deck_Measure.hs) (by kernel_rfl) Go.Proofs.Try.func19 ⟨by kernel_rfl, by kernel_rfl, tb, by kernel_rfl, by kernel_rfl, by kernel_rfl, by kernel_rfl, by kernel_rfl⟩ ⟨fun g ks fe h => ?_, gt_ok ht⟩ ?_ (fun x => second_Deck_Measure.eq second_Deck_Next.F x)
  · rcases c_cons h with ⟨rfl, rfl⟩ | h
    · exact second_Deck_Next.ok ht
    cases h
  · exact known_at 0 (by kernel_rfl) fun i hi => absurd hi (Nat.not_lt_zero i)

/-! second_Deck_Length -/
def second_Deck_Length.f (g_second_Deck_Next : ((Unit × Int × Unit) × (((List Int) × Int × Unit) × Unit)) → Option ((Int × Unit) × (((List Int) × Int × Unit) × Unit))) (o0_0 : (List Int)) (o0_1 : Int) : Option ((Int × Unit) × (((List Int) × Int × Unit) × Unit)) :=
  (Option.bind (g_second_Deck_Next (((), ((5:Int), ())), ((o0_0, (o0_1, ())), ()))) (fun y0 =>
  (some (((Go.IntKind.wrap Go.IntKind.i64 ((2:Int) + y0.1.1)), ()), ((y0.2.1.1, (y0.2.1.2.1, ())), ())))))
theorem second_Deck_Length.eq (g_second_Deck_Next : second_Deck_Next.sh.X → Option second_Deck_Next.osh.X) (x : ((Unit × Unit) × (((List Int) × Int × Unit) × Unit))) : (bodyO (second_Deck_Length.E g_second_Deck_Next) (mk second_Deck_Length.hs second_Deck_Length.c []) Go.Proofs.Try.f20.results.toList second_Deck_Length.sh second_Deck_Length.osh x).run _ some = second_Deck_Length.f g_second_Deck_Next x.2.1.1 x.2.1.2.1 := by
  show _ = (_ : Option _)
  kernel_rfl
noncomputable def second_Deck_Length (o0_0 : (List Int)) (o0_1 : Int) : Option ((Int × Unit) × (((List Int) × Int × Unit) × Unit)) := second_Deck_Length.f second_Deck_Next.F o0_0 o0_1
noncomputable def second_Deck_Length.F (x : ((Unit × Unit) × (((List Int) × Int × Unit) × Unit))) : Option ((Int × Unit) × (((List Int) × Int × Unit) × Unit)) := second_Deck_Length x.2.1.1 x.2.1.2.1
theorem second_Deck_Length.F_eq (o0_0 : (List Int)) (o0_1 : Int) : second_Deck_Length.F (((), ()), ((o0_0, o0_1, ()), ())) = second_Deck_Length.f second_Deck_Next.F o0_0 o0_1 := rfl
theorem second_Deck_Length.ok {tabs : List (Nat × Go.Obj)} (ht : TabsOk tabs) : FOK Go.Proofs.Try.prog tabs 20 (FE.of [true] true second_Deck_Length.sh second_Deck_Length.osh second_Deck_Length.F) := by
  refine fn_keeps (E := (second_Deck_Length.E second_Deck_Next.F)) (c := second_Deck_Length.c) (fn := Go.Proofs.Try.f20) (hs := second_Deck_Length.hs) (by kernel_rfl) Go.Proofs.Try.func20 ⟨by kernel_rfl, by kernel_rfl, tb, by kernel_rfl, by kernel_rfl, by kernel_rfl, by kernel_rfl, by kernel_rfl⟩ ⟨fun g ks fe h => ?_, gt_ok ht⟩ ?_ (fun x => second_Deck_Length.eq second_Deck_Next.F x)
  · rcases c_cons h with ⟨rfl, rfl⟩ | h
    · exact second_Deck_Next.ok ht
    cases h
  · exact known_at 0 (by kernel_rfl) fun i hi => absurd hi (Nat.not_lt_zero i)

/-! ref37_SameNeighbours -/
def ref37_SameNeighbours.f0 (L : (((List (Int × (Int × Int))) × (List (Int × (Int × Int))) × Int × Unit) × (Unit)) → Option (((Unit) × (Unit)) ⊕ ((Bool × Unit) × (Unit)) ⊕ Empty)) (a_0 : (List (Int × (Int × Int)))) (b_1 : (List (Int × (Int × Int)))) (i_5 : Int) : Option (((Unit) × (Unit)) ⊕ ((Bool × Unit) × (Unit)) ⊕ Empty) :=
  (bif (decide (i_5 < (((List.length a_0) : Nat) : Int))) then
   (bif (decide ((0:Int) ≤ i_5)) then
    (bif (decide (i_5 < (((List.length a_0) : Nat) : Int))) then
     (bif (decide ((0:Int) ≤ i_5)) then
      (bif (decide (i_5 < (((List.length b_1) : Nat) : Int))) then
       (bif (!(((List.getD a_0 (Int.toNat i_5) ((0:Int), ((0:Int), (0:Int)))).1 == (List.getD b_1 (Int.toNat i_5) ((0:Int), ((0:Int), (0:Int)))).1) && ((((List.getD a_0 (Int.toNat i_5) ((0:Int), ((0:Int), (0:Int)))).2.1 == (List.getD b_1 (Int.toNat i_5) ((0:Int), ((0:Int), (0:Int)))).2.1) && (((List.getD a_0 (Int.toNat i_5) ((0:Int), ((0:Int), (0:Int)))).2.2 == (List.getD b_1 (Int.toNat i_5) ((0:Int), ((0:Int), (0:Int)))).2.2) && Bool.true)) && Bool.true))) then
        (some (Sum.inr (Sum.inl ((Bool.false, ()), ()))))
       else
        (Option.bind (L ((a_0, (b_1, ((Go.IntKind.wrap Go.IntKind.i64 (i_5 + (1:Int))), ()))), ())) (fun y6 =>
        (some y6))))
      else
       none)
     else
      none)
    else
     none)
   else
    none)
  else
   (some (Sum.inl ((), ()))))
theorem ref37_SameNeighbours.eq0 (l0 : ref37_SameNeighbours.s0.X → Option (sumX ref37_SameNeighbours.x0)) (L : (((List (Int × (Int × Int))) × (List (Int × (Int × Int))) × Int × Unit) × (Unit)) → Option (((Unit) × (Unit)) ⊕ ((Bool × Unit) × (Unit)) ⊕ Empty)) (x : (((List (Int × (Int × Int))) × (List (Int × (Int × Int))) × Int × Unit) × (Unit))) : (roundK (ref37_SameNeighbours.E l0) ref37_SameNeighbours.s0 [0, 1, 5] [(2, []), (1, [4])] true (((mk ref37_SameNeighbours.hs ref37_SameNeighbours.c []).atoms.getD 0 .bad).body) ref37_SameNeighbours.x0 L x).run _ some = ref37_SameNeighbours.f0 L x.1.1 x.1.2.1 x.1.2.2.1 := by
  show _ = (_ : Option _)
  kernel_rfl
noncomputable def ref37_SameNeighbours.L0 : (((List (Int × (Int × Int))) × (List (Int × (Int × Int))) × Int × Unit) × (Unit)) → Option (((Unit) × (Unit)) ⊕ ((Bool × Unit) × (Unit)) ⊕ Empty) := loop fun L x => ref37_SameNeighbours.f0 L x.1.1 x.1.2.1 x.1.2.2.1
def ref37_SameNeighbours.f (l0 : (((List (Int × (Int × Int))) × (List (Int × (Int × Int))) × Int × Unit) × (Unit)) → Option (((Unit) × (Unit)) ⊕ ((Bool × Unit) × (Unit)) ⊕ Empty)) (a : (List (Int × (Int × Int)))) (b : (List (Int × (Int × Int)))) : Option ((Bool × Unit) × (Unit)) :=
  (bif ((((List.length a) : Nat) : Int) != (((List.length b) : Nat) : Int)) then
   (some ((Bool.false, ()), ()))
  else
   (Option.bind (l0 ((a, (b, ((0:Int), ()))), ())) (fun y1 =>
   (Sum.elim (fun a2 =>
    (some ((Bool.true, ()), ()))) (fun b2 =>
    (Sum.elim (fun a3 =>
     (some ((a3.1.1, ()), ()))) (fun b3 =>
     (Empty.elim b3)) b2)) y1))))
theorem ref37_SameNeighbours.eq (l0 : ref37_SameNeighbours.s0.X → Option (sumX ref37_SameNeighbours.x0)) (x : (((List (Int × (Int × Int))) × (List (Int × (Int × Int))) × Unit) × (Unit))) : (bodyO (ref37_SameNeighbours.E l0) (mk ref37_SameNeighbours.hs ref37_SameNeighbours.c []) Go.Proofs.Try.f48.results.toList ref37_SameNeighbours.sh ref37_SameNeighbours.osh x).run _ some = ref37_SameNeighbours.f l0 x.1.1 x.1.2.1 := by
  show _ = (_ : Option _)
  kernel_rfl
noncomputable def ref37_SameNeighbours (a : (List (Int × (Int × Int)))) (b : (List (Int × (Int × Int)))) : Option ((Bool × Unit) × (Unit)) := ref37_SameNeighbours.f ref37_SameNeighbours.L0 a b
noncomputable def ref37_SameNeighbours.F (x : (((List (Int × (Int × Int))) × (List (Int × (Int × Int))) × Unit) × (Unit))) : Option ((Bool × Unit) × (Unit)) := ref37_SameNeighbours x.1.1 x.1.2.1
theorem ref37_SameNeighbours.L0_eq (a_0 : (List (Int × (Int × Int)))) (b_1 : (List (Int × (Int × Int)))) (i_5 : Int) : ref37_SameNeighbours.L0 ((a_0, b_1, i_5, ()), ()) = ref37_SameNeighbours.f0 ref37_SameNeighbours.L0 a_0 b_1 i_5 :=
  loop_eq (E := (ref37_SameNeighbours.E ref37_SameNeighbours.L0)) (sh := ref37_SameNeighbours.s0) (es := ref37_SameNeighbours.x0) (lp := true) (H := fun L x => ref37_SameNeighbours.eq0 ref37_SameNeighbours.L0 L x) ((a_0, b_1, i_5, ()), ())
theorem ref37_SameNeighbours.F_eq (a : (List (Int × (Int × Int)))) (b : (List (Int × (Int × Int)))) : ref37_SameNeighbours.F ((a, b, ()), ()) = ref37_SameNeighbours.f ref37_SameNeighbours.L0 a b := rfl
theorem ref37_SameNeighbours.ok {tabs : List (Nat × Go.Obj)} (ht : TabsOk tabs) : FOK Go.Proofs.Try.prog tabs 48 (FE.of [true, true] false ref37_SameNeighbours.sh ref37_SameNeighbours.osh ref37_SameNeighbours.F) := by
  refine fn_keeps (E := (ref37_SameNeighbours.E ref37_SameNeighbours.L0)) (c := ref37_SameNeighbours.c) (fn := Go.Proofs.Try.f48) (hs := ref37_SameNeighbours.hs) (by kernel_rfl) Go.Proofs.Try.func48 ⟨by kernel_rfl, by kernel_rfl, tb, by kernel_rfl, by kernel_rfl, by kernel_rfl, by kernel_rfl, by kernel_rfl⟩ ⟨fun g ks fe h => ?_, gt_ok ht⟩ ?_ (fun x => ref37_SameNeighbours.eq ref37_SameNeighbours.L0 x)
  · cases h
  · refine known_at 1 (by kernel_rfl) fun i hi => ?_
    match i, hi with
    | 0, _ => exact atom_at (id := 0) (live := [0, 1, 5]) (outs := [(2, []), (1, [4])]) (loop := true) (by kernel_rfl) (loop_ok (E := (ref37_SameNeighbours.E ref37_SameNeighbours.L0)) (sh := ref37_SameNeighbours.s0) (es := ref37_SameNeighbours.x0) rfl (fun L x => ref37_SameNeighbours.eq0 ref37_SameNeighbours.L0 L x))
    | n + 1, h => exact absurd h (by omega)

/-! ref37_Same -/
def ref37_Same.f0 (g_ref37_SameNeighbours : (((List (Int × (Int × Int))) × (List (Int × (Int × Int))) × Unit) × (Unit)) → Option ((Bool × Unit) × (Unit))) (o0_0 : Int) (o0_1 : Int) (o0_2 : Int) (o0_3 : Int) (o0_4 : Int) (o0_5 : (List (Int × (Int × Int)))) (o0_6 : (List (Int × (Int × Int)))) (o0_7 : (List (Int × (Int × Int)))) (o1_0 : Int) (o1_1 : Int) (o1_2 : Int) (o1_3 : Int) (o1_4 : Int) (o1_5 : (List (Int × (Int × Int)))) (o1_6 : (List (Int × (Int × Int)))) (o1_7 : (List (Int × (Int × Int)))) : Option (((Bool × Unit) × (Unit)) ⊕ Empty) :=
  (bif ((o0_0 == o1_0) && ((o0_1 == o1_1) && ((o0_2 == o1_2) && Bool.true))) then
   (bif (o0_3 == o1_3) then
    (bif (o0_4 == o1_4) then
     (Option.bind (g_ref37_SameNeighbours ((o0_5, (o1_5, ())), ())) (fun y3 =>
     (bif y3.1.1 then
      (Option.bind (g_ref37_SameNeighbours ((o0_6, (o1_6, ())), ())) (fun y5 =>
      (bif y5.1.1 then
       (Option.bind (g_ref37_SameNeighbours ((o0_7, (o1_7, ())), ())) (fun y7 =>
       (some (Sum.inl ((y7.1.1, ()), ())))))
      else
       (some (Sum.inl ((Bool.false, ()), ()))))))
     else
      (some (Sum.inl ((Bool.false, ()), ()))))))
    else
     (some (Sum.inl ((Bool.false, ()), ()))))
   else
    (some (Sum.inl ((Bool.false, ()), ()))))
  else
   (some (Sum.inl ((Bool.false, ()), ()))))
theorem ref37_Same.eq0 (g_ref37_SameNeighbours : ref37_SameNeighbours.sh.X → Option ref37_SameNeighbours.osh.X) (l0 : ref37_Same.s0.X → Option (sumX ref37_Same.x0)) (L : ((Unit × Unit × Unit) × ((Int × Int × Int × Int × Int × (List (Int × (Int × Int))) × (List (Int × (Int × Int))) × (List (Int × (Int × Int))) × Unit) × (Int × Int × Int × Int × Int × (List (Int × (Int × Int))) × (List (Int × (Int × Int))) × (List (Int × (Int × Int))) × Unit) × Unit)) → Option (((Bool × Unit) × (Unit)) ⊕ Empty)) (x : ((Unit × Unit × Unit) × ((Int × Int × Int × Int × Int × (List (Int × (Int × Int))) × (List (Int × (Int × Int))) × (List (Int × (Int × Int))) × Unit) × (Int × Int × Int × Int × Int × (List (Int × (Int × Int))) × (List (Int × (Int × Int))) × (List (Int × (Int × Int))) × Unit) × Unit))) : (roundK (ref37_Same.E g_ref37_SameNeighbours l0) ref37_Same.s0 [2, 3] [(0, [4])] false (((mk ref37_Same.hs ref37_Same.c []).atoms.getD 0 .bad).body) ref37_Same.x0 L x).run _ some = ref37_Same.f0 g_ref37_SameNeighbours x.2.1.1 x.2.1.2.1 x.2.1.2.2.1 x.2.1.2.2.2.1 x.2.1.2.2.2.2.1 x.2.1.2.2.2.2.2.1 x.2.1.2.2.2.2.2.2.1 x.2.1.2.2.2.2.2.2.2.1 x.2.2.1.1 x.2.2.1.2.1 x.2.2.1.2.2.1 x.2.2.1.2.2.2.1 x.2.2.1.2.2.2.2.1 x.2.2.1.2.2.2.2.2.1 x.2.2.1.2.2.2.2.2.2.1 x.2.2.1.2.2.2.2.2.2.2.1 := by
  show _ = (_ : Option _)
  kernel_rfl
noncomputable def ref37_Same.L0 : ((Unit × Unit × Unit) × ((Int × Int × Int × Int × Int × (List (Int × (Int × Int))) × (List (Int × (Int × Int))) × (List (Int × (Int × Int))) × Unit) × (Int × Int × Int × Int × Int × (List (Int × (Int × Int))) × (List (Int × (Int × Int))) × (List (Int × (Int × Int))) × Unit) × Unit)) → Option (((Bool × Unit) × (Unit)) ⊕ Empty) := fun x => ref37_Same.f0 ref37_SameNeighbours.F x.2.1.1 x.2.1.2.1 x.2.1.2.2.1 x.2.1.2.2.2.1 x.2.1.2.2.2.2.1 x.2.1.2.2.2.2.2.1 x.2.1.2.2.2.2.2.2.1 x.2.1.2.2.2.2.2.2.2.1 x.2.2.1.1 x.2.2.1.2.1 x.2.2.1.2.2.1 x.2.2.1.2.2.2.1 x.2.2.1.2.2.2.2.1 x.2.2.1.2.2.2.2.2.1 x.2.2.1.2.2.2.2.2.2.1 x.2.2.1.2.2.2.2.2.2.2.1
def ref37_Same.f (l0 : ((Unit × Unit × Unit) × ((Int × Int × Int × Int × Int × (List (Int × (Int × Int))) × (List (Int × (Int × Int))) × (List (Int × (Int × Int))) × Unit) × (Int × Int × Int × Int × Int × (List (Int × (Int × Int))) × (List (Int × (Int × Int))) × (List (Int × (Int × Int))) × Unit) × Unit)) → Option (((Bool × Unit) × (Unit)) ⊕ Empty)) (a_Measure_Kind : Int) (a_Measure_Band : Int) (a_Measure_Gap : Int) (a_Length : Int) (a_Zone : Int) (a_All : (List (Int × (Int × Int)))) (a_Left : (List (Int × (Int × Int)))) (a_Right : (List (Int × (Int × Int)))) (b_Measure_Kind : Int) (b_Measure_Band : Int) (b_Measure_Gap : Int) (b_Length : Int) (b_Zone : Int) (b_All : (List (Int × (Int × Int)))) (b_Left : (List (Int × (Int × Int)))) (b_Right : (List (Int × (Int × Int)))) : Option ((Bool × Unit) × (Unit)) :=
  (Option.bind (l0 (((), ((), ())), ((a_Measure_Kind, (a_Measure_Band, (a_Measure_Gap, (a_Length, (a_Zone, (a_All, (a_Left, (a_Right, ())))))))), ((b_Measure_Kind, (b_Measure_Band, (b_Measure_Gap, (b_Length, (b_Zone, (b_All, (b_Left, (b_Right, ())))))))), ())))) (fun y0 =>
  (Sum.elim (fun a1 =>
   (some ((a1.1.1, ()), ()))) (fun b1 =>
   (Empty.elim b1)) y0)))
theorem ref37_Same.eq (g_ref37_SameNeighbours : ref37_SameNeighbours.sh.X → Option ref37_SameNeighbours.osh.X) (l0 : ref37_Same.s0.X → Option (sumX ref37_Same.x0)) (x : (((Int × Int × Int × Int × Int × (List (Int × (Int × Int))) × (List (Int × (Int × Int))) × (List (Int × (Int × Int))) × Unit) × (Int × Int × Int × Int × Int × (List (Int × (Int × Int))) × (List (Int × (Int × Int))) × (List (Int × (Int × Int))) × Unit) × Unit) × (Unit))) : (bodyO (ref37_Same.E g_ref37_SameNeighbours l0) (mk ref37_Same.hs ref37_Same.c []) Go.Proofs.Try.f25.results.toList ref37_Same.sh ref37_Same.osh x).run _ some = ref37_Same.f l0 x.1.1.1 x.1.1.2.1 x.1.1.2.2.1 x.1.1.2.2.2.1 x.1.1.2.2.2.2.1 x.1.1.2.2.2.2.2.1 x.1.1.2.2.2.2.2.2.1 x.1.1.2.2.2.2.2.2.2.1 x.1.2.1.1 x.1.2.1.2.1 x.1.2.1.2.2.1 x.1.2.1.2.2.2.1 x.1.2.1.2.2.2.2.1 x.1.2.1.2.2.2.2.2.1 x.1.2.1.2.2.2.2.2.2.1 x.1.2.1.2.2.2.2.2.2.2.1 := by
  show _ = (_ : Option _)
  kernel_rfl
noncomputable def ref37_Same (a_Measure_Kind : Int) (a_Measure_Band : Int) (a_Measure_Gap : Int) (a_Length : Int) (a_Zone : Int) (a_All : (List (Int × (Int × Int)))) (a_Left : (List (Int × (Int × Int)))) (a_Right : (List (Int × (Int × Int)))) (b_Measure_Kind : Int) (b_Measure_Band : Int) (b_Measure_Gap : Int) (b_Length : Int) (b_Zone : Int) (b_All : (List (Int × (Int × Int)))) (b_Left : (List (Int × (Int × Int)))) (b_Right : (List (Int × (Int × Int)))) : Option ((Bool × Unit) × (Unit)) := ref37_Same.f ref37_Same.L0 a_Measure_Kind a_Measure_Band a_Measure_Gap a_Length a_Zone a_All a_Left a_Right b_Measure_Kind b_Measure_Band b_Measure_Gap b_Length b_Zone b_All b_Left b_Right
noncomputable def ref37_Same.F (x : (((Int × Int × Int × Int × Int × (List (Int × (Int × Int))) × (List (Int × (Int × Int))) × (List (Int × (Int × Int))) × Unit) × (Int × Int × Int × Int × Int × (List (Int × (Int × Int))) × (List (Int × (Int × Int))) × (List (Int × (Int × Int))) × Unit) × Unit) × (Unit))) : Option ((Bool × Unit) × (Unit)) := ref37_Same x.1.1.1 x.1.1.2.1 x.1.1.2.2.1 x.1.1.2.2.2.1 x.1.1.2.2.2.2.1 x.1.1.2.2.2.2.2.1 x.1.1.2.2.2.2.2.2.1 x.1.1.2.2.2.2.2.2.2.1 x.1.2.1.1 x.1.2.1.2.1 x.1.2.1.2.2.1 x.1.2.1.2.2.2.1 x.1.2.1.2.2.2.2.1 x.1.2.1.2.2.2.2.2.1 x.1.2.1.2.2.2.2.2.2.1 x.1.2.1.2.2.2.2.2.2.2.1
theorem ref37_Same.L0_eq (o0_0 : Int) (o0_1 : Int) (o0_2 : Int) (o0_3 : Int) (o0_4 : Int) (o0_5 : (List (Int × (Int × Int)))) (o0_6 : (List (Int × (Int × Int)))) (o0_7 : (List (Int × (Int × Int)))) (o1_0 : Int) (o1_1 : Int) (o1_2 : Int) (o1_3 : Int) (o1_4 : Int) (o1_5 : (List (Int × (Int × Int)))) (o1_6 : (List (Int × (Int × Int)))) (o1_7 : (List (Int × (Int × Int)))) : ref37_Same.L0 (((), (), ()), ((o0_0, o0_1, o0_2, o0_3, o0_4, o0_5, o0_6, o0_7, ()), (o1_0, o1_1, o1_2, o1_3, o1_4, o1_5, o1_6, o1_7, ()), ())) = ref37_Same.f0 ref37_SameNeighbours.F o0_0 o0_1 o0_2 o0_3 o0_4 o0_5 o0_6 o0_7 o1_0 o1_1 o1_2 o1_3 o1_4 o1_5 o1_6 o1_7 := rfl
theorem ref37_Same.F_eq (a_Measure_Kind : Int) (a_Measure_Band : Int) (a_Measure_Gap : Int) (a_Length : Int) (a_Zone : Int) (a_All : (List (Int × (Int × Int)))) (a_Left : (List (Int × (Int × Int)))) (a_Right : (List (Int × (Int × Int)))) (b_Measure_Kind : Int) (b_Measure_Band : Int) (b_Measure_Gap : Int) (b_Length : Int) (b_Zone : Int) (b_All : (List (Int × (Int × Int)))) (b_Left : (List (Int × (Int × Int)))) (b_Right : (List (Int × (Int × Int)))) : ref37_Same.F (((a_Measure_Kind, a_Measure_Band, a_Measure_Gap, a_Length, a_Zone, a_All, a_Left, a_Right, ()), (b_Measure_Kind, b_Measure_Band, b_Measure_Gap, b_Length, b_Zone, b_All, b_Left, b_Right, ()), ()), ()) = ref37_Same.f ref37_Same.L0 a_Measure_Kind a_Measure_Band a_Measure_Gap a_Length a_Zone a_All a_Left a_Right b_Measure_Kind b_Measure_Band b_Measure_Gap b_Length b_Zone b_All b_Left b_Right := rfl
theorem ref37_Same.ok {tabs : List (Nat × Go.Obj)} (ht : TabsOk tabs) : FOK Go.Proofs.Try.prog tabs 25 (FE.of [true, true] false ref37_Same.sh ref37_Same.osh ref37_Same.F) := by
  refine fn_keeps (E := (ref37_Same.E ref37_SameNeighbours.F ref37_Same.L0)) (c := ref37_Same.c) (fn := Go.Proofs.Try.f25) (hs := ref37_Same.hs) (by kernel_rfl) Go.Proofs.Try.func25 ⟨by kernel_rfl, by kernel_rfl, tb, by kernel_rfl, by kernel_rfl, by kernel_rfl, by kernel_rfl, by kernel_rfl⟩ ⟨fun g ks fe h => ?_, gt_ok ht⟩ ?_ (fun x => ref37_Same.eq ref37_SameNeighbours.F ref37_Same.L0 x)
  · rcases c_cons h with ⟨rfl, rfl⟩ | h
    · exact ref37_SameNeighbours.ok ht
    cases h
  · refine known_at 1 (by kernel_rfl) fun i hi => ?_
    match i, hi with
    | 0, _ => exact atom_at (id := 0) (live := [2, 3]) (outs := [(0, [4])]) (loop := false) (by kernel_rfl) (cut_ok (E := (ref37_Same.E ref37_SameNeighbours.F ref37_Same.L0)) (sh := ref37_Same.s0) (es := ref37_Same.x0) rfl (fun L x => ref37_Same.eq0 ref37_SameNeighbours.F ref37_Same.L0 L x))
    | n + 1, h => exact absurd h (by omega)
end Go.Proofs.Ytefcciajemkicaa.V
