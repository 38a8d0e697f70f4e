import Derived.Test.YtefcciajemkicaaVg6
import Derived.WalkKit
set_option linter.unusedVariables false
set_option maxRecDepth 100000
namespace Go.Proofs.Ytefcciajemkicaa.V
open Go.VI
/-! second_Deck_Values -/
def second_Deck_Values.f2 (g_second_Deck_Next : ((Unit × Int × Unit) × (((List Int) × Int × Unit) × Unit)) → Option ((Int × Unit) × (((List Int) × Int × Unit) × Unit))) (n_1 : Int) (shape_6 : Int) (width_7 : Int) (i_8 : Int) (x_9 : Int) (v22 : Int) (v23 : Bool) (o0_0 : (List Int)) (o0_1 : Int) (o1 : List Int) : Option (((Unit × Int × Unit × Int × Int × Int × Int × Unit) × (((List Int) × Int × Unit) × (List Int) × Unit)) ⊕ Empty) :=
  (bif v23 then
   (bif (!(decide (width_7 = (0:Int)))) then
    (some (Sum.inl (((), (n_1, ((), (shape_6, (width_7, (i_8, ((Go.IntKind.wrap Go.IntKind.i64 ((Int.tmod i_8 width_7) * (3:Int))), ()))))))), ((o0_0, (o0_1, ())), (o1, ())))))
   else
    none)
  else
   (bif (v22 == (1:Int)) then
    (bif (!(decide (width_7 = (0:Int)))) then
     (Option.bind (g_second_Deck_Next (((), ((2:Int), ())), ((o0_0, (o0_1, ())), ()))) (fun y3 =>
     (some (Sum.inl (((), (n_1, ((), (shape_6, (width_7, (i_8, ((Go.IntKind.wrap Go.IntKind.i64 ((Go.IntKind.wrap Go.IntKind.i64 ((Int.tmod i_8 width_7) * (4:Int))) + y3.1.1)), ()))))))), ((y3.2.1.1, (y3.2.1.2.1, ())), (o1, ())))))))
    else
     none)
   else
    (bif (v22 == (2:Int)) then
     (bif (!(decide (width_7 = (0:Int)))) then
      (some (Sum.inl (((), (n_1, ((), (shape_6, (width_7, (i_8, ((Go.IntKind.wrap Go.IntKind.i64 ((Go.IntKind.wrap Go.IntKind.i64 (Int.tdiv i_8 width_7)) * (2:Int))), ()))))))), ((o0_0, (o0_1, ())), (o1, ())))))
     else
      none)
    else
     (some (Sum.inl (((), (n_1, ((), (shape_6, (width_7, (i_8, (x_9, ()))))))), ((o0_0, (o0_1, ())), (o1, ()))))))))
theorem second_Deck_Values.eq2 (g_second_Deck_Next : second_Deck_Next.sh.X → Option second_Deck_Next.osh.X) (g_second_Deck_Sample : second_Deck_Sample.sh.X → Option second_Deck_Sample.osh.X) (l0 : second_Deck_Values.s0.X → Option (sumX second_Deck_Values.x0)) (l1 : second_Deck_Values.s1.X → Option (sumX second_Deck_Values.x1)) (l2 : second_Deck_Values.s2.X → Option (sumX second_Deck_Values.x2)) (L : ((Unit × Int × Unit × Int × Int × Int × Int × Int × Bool × Unit) × (((List Int) × Int × Unit) × (List Int) × Unit)) → Option (((Unit × Int × Unit × Int × Int × Int × Int × Unit) × (((List Int) × Int × Unit) × (List Int) × Unit)) ⊕ Empty)) (x : ((Unit × Int × Unit × Int × Int × Int × Int × Int × Bool × Unit) × (((List Int) × Int × Unit) × (List Int) × Unit))) : (roundK (second_Deck_Values.E g_second_Deck_Next g_second_Deck_Sample l0 l1 l2) second_Deck_Values.s2 [0, 1, 5, 6, 7, 8, 9, 22, 23] [(0, [0, 1, 5, 6, 7, 8, 9])] false (((mk second_Deck_Values.hs second_Deck_Values.c []).atoms.getD 2 .bad).body) second_Deck_Values.x2 L x).run _ some = second_Deck_Values.f2 g_second_Deck_Next x.1.2.1 x.1.2.2.2.1 x.1.2.2.2.2.1 x.1.2.2.2.2.2.1 x.1.2.2.2.2.2.2.1 x.1.2.2.2.2.2.2.2.1 x.1.2.2.2.2.2.2.2.2.1 x.2.1.1 x.2.1.2.1 x.2.2.1 := by
  show _ = (_ : Option _)
  kernel_rfl
noncomputable def second_Deck_Values.L2 : ((Unit × Int × Unit × Int × Int × Int × Int × Int × Bool × Unit) × (((List Int) × Int × Unit) × (List Int) × Unit)) → Option (((Unit × Int × Unit × Int × Int × Int × Int × Unit) × (((List Int) × Int × Unit) × (List Int) × Unit)) ⊕ Empty) := fun x => second_Deck_Values.f2 second_Deck_Next.F x.1.2.1 x.1.2.2.2.1 x.1.2.2.2.2.1 x.1.2.2.2.2.2.1 x.1.2.2.2.2.2.2.1 x.1.2.2.2.2.2.2.2.1 x.1.2.2.2.2.2.2.2.2.1 x.2.1.1 x.2.1.2.1 x.2.2.1
def second_Deck_Values.f1 (l2 : ((Unit × Int × Unit × Int × Int × Int × Int × Int × Bool × Unit) × (((List Int) × Int × Unit) × (List Int) × Unit)) → Option (((Unit × Int × Unit × Int × Int × Int × Int × Unit) × (((List Int) × Int × Unit) × (List Int) × Unit)) ⊕ Empty)) (n_1 : Int) (shape_6 : Int) (width_7 : Int) (i_8 : Int) (x_9 : Int) (v22 : Int) (o0_0 : (List Int)) (o0_1 : Int) (o1 : List Int) : Option (((Unit × Int × Unit × Int × Int × Int × Int × Unit) × (((List Int) × Int × Unit) × (List Int) × Unit)) ⊕ Empty) :=
  (Option.bind (l2 (((), (n_1, ((), (shape_6, (width_7, (i_8, (x_9, (v22, ((v22 == (0:Int)), ()))))))))), ((o0_0, (o0_1, ())), (o1, ())))) (fun y0 =>
  (Sum.elim (fun a1 =>
   (some (Sum.inl (((), (a1.1.2.1, ((), (a1.1.2.2.2.1, (a1.1.2.2.2.2.1, (a1.1.2.2.2.2.2.1, (a1.1.2.2.2.2.2.2.1, ()))))))), ((a1.2.1.1, (a1.2.1.2.1, ())), (a1.2.2.1, ())))))) (fun b1 =>
   (Empty.elim b1)) y0)))
theorem second_Deck_Values.eq1 (g_second_Deck_Next : second_Deck_Next.sh.X → Option second_Deck_Next.osh.X) (g_second_Deck_Sample : second_Deck_Sample.sh.X → Option second_Deck_Sample.osh.X) (l0 : second_Deck_Values.s0.X → Option (sumX second_Deck_Values.x0)) (l1 : second_Deck_Values.s1.X → Option (sumX second_Deck_Values.x1)) (l2 : second_Deck_Values.s2.X → Option (sumX second_Deck_Values.x2)) (L : ((Unit × Int × Unit × Int × Int × Int × Int × Int × Unit) × (((List Int) × Int × Unit) × (List Int) × Unit)) → Option (((Unit × Int × Unit × Int × Int × Int × Int × Unit) × (((List Int) × Int × Unit) × (List Int) × Unit)) ⊕ Empty)) (x : ((Unit × Int × Unit × Int × Int × Int × Int × Int × Unit) × (((List Int) × Int × Unit) × (List Int) × Unit))) : (roundK (second_Deck_Values.E g_second_Deck_Next g_second_Deck_Sample l0 l1 l2) second_Deck_Values.s1 [0, 1, 5, 6, 7, 8, 9, 22] [(0, [0, 1, 5, 6, 7, 8, 9])] false (((mk second_Deck_Values.hs second_Deck_Values.c []).atoms.getD 1 .bad).body) second_Deck_Values.x1 L x).run _ some = second_Deck_Values.f1 l2 x.1.2.1 x.1.2.2.2.1 x.1.2.2.2.2.1 x.1.2.2.2.2.2.1 x.1.2.2.2.2.2.2.1 x.1.2.2.2.2.2.2.2.1 x.2.1.1 x.2.1.2.1 x.2.2.1 := by
  show _ = (_ : Option _)
  kernel_rfl
noncomputable def second_Deck_Values.L1 : ((Unit × Int × Unit × Int × Int × Int × Int × Int × Unit) × (((List Int) × Int × Unit) × (List Int) × Unit)) → Option (((Unit × Int × Unit × Int × Int × Int × Int × Unit) × (((List Int) × Int × Unit) × (List Int) × Unit)) ⊕ Empty) := fun x => second_Deck_Values.f1 second_Deck_Values.L2 x.1.2.1 x.1.2.2.2.1 x.1.2.2.2.2.1 x.1.2.2.2.2.2.1 x.1.2.2.2.2.2.2.1 x.1.2.2.2.2.2.2.2.1 x.2.1.1 x.2.1.2.1 x.2.2.1
def second_Deck_Values.f0 (g_second_Deck_Next : ((Unit × Int × Unit) × (((List Int) × Int × Unit) × Unit)) → Option ((Int × Unit) × (((List Int) × Int × Unit) × Unit))) (g_second_Deck_Sample : ((Unit × Unit) × (((List Int) × Int × Unit) × Unit)) → Option ((Int × Unit) × (((List Int) × Int × Unit) × Unit))) (l1 : ((Unit × Int × Unit × Int × Int × Int × Int × Int × Unit) × (((List Int) × Int × Unit) × (List Int) × Unit)) → Option (((Unit × Int × Unit × Int × Int × Int × Int × Unit) × (((List Int) × Int × Unit) × (List Int) × Unit)) ⊕ Empty)) (L : ((Unit × Int × Unit × Int × Int × Int × Unit) × (((List Int) × Int × Unit) × (List Int) × Unit)) → Option (((Unit × Unit) × (((List Int) × Int × Unit) × (List Int) × Unit)) ⊕ Empty)) (n_1 : Int) (shape_6 : Int) (width_7 : Int) (i_8 : Int) (o0_0 : (List Int)) (o0_1 : Int) (o1 : List Int) : Option (((Unit × Unit) × (((List Int) × Int × Unit) × (List Int) × Unit)) ⊕ Empty) :=
  (bif (decide (i_8 < n_1)) then
   (Option.bind (g_second_Deck_Sample (((), ()), ((o0_0, (o0_1, ())), ()))) (fun y1 =>
   (Option.bind (l1 (((), (n_1, ((), (shape_6, (width_7, (i_8, (y1.1.1, (shape_6, ())))))))), ((y1.2.1.1, (y1.2.1.2.1, ())), (o1, ())))) (fun y2 =>
   (Sum.elim (fun a3 =>
    (Option.bind (g_second_Deck_Next (((), ((30:Int), ())), ((a3.2.1.1, (a3.2.1.2.1, ())), ()))) (fun y4 =>
    (bif (y4.1.1 == (29:Int)) then
     (bif (decide ((((List.length a3.2.2.1) + (List.length [(1073741824:Int)])) * (8:Nat)) ≤ (140737488355328:Nat))) then
      (Option.bind (L (((), (a3.1.2.1, ((), (a3.1.2.2.2.1, (a3.1.2.2.2.2.1, ((Go.IntKind.wrap Go.IntKind.i64 (a3.1.2.2.2.2.2.1 + (1:Int))), ())))))), ((y4.2.1.1, (y4.2.1.2.1, ())), ((a3.2.2.1 ++ [(1073741824:Int)]), ())))) (fun y7 =>
      (some y7)))
     else
      none)
    else
     (bif (decide ((((List.length a3.2.2.1) + (List.length [a3.1.2.2.2.2.2.2.1])) * (8:Nat)) ≤ (140737488355328:Nat))) then
      (Option.bind (L (((), (a3.1.2.1, ((), (a3.1.2.2.2.1, (a3.1.2.2.2.2.1, ((Go.IntKind.wrap Go.IntKind.i64 (a3.1.2.2.2.2.2.1 + (1:Int))), ())))))), ((y4.2.1.1, (y4.2.1.2.1, ())), ((a3.2.2.1 ++ [a3.1.2.2.2.2.2.2.1]), ())))) (fun y7 =>
      (some y7)))
     else
      none))))) (fun b3 =>
    (Empty.elim b3)) y2)))))
  else
   (some (Sum.inl (((), ()), ((o0_0, (o0_1, ())), (o1, ()))))))
theorem second_Deck_Values.eq0 (g_second_Deck_Next : second_Deck_Next.sh.X → Option second_Deck_Next.osh.X) (g_second_Deck_Sample : second_Deck_Sample.sh.X → Option second_Deck_Sample.osh.X) (l0 : second_Deck_Values.s0.X → Option (sumX second_Deck_Values.x0)) (l1 : second_Deck_Values.s1.X → Option (sumX second_Deck_Values.x1)) (l2 : second_Deck_Values.s2.X → Option (sumX second_Deck_Values.x2)) (L : ((Unit × Int × Unit × Int × Int × Int × Unit) × (((List Int) × Int × Unit) × (List Int) × Unit)) → Option (((Unit × Unit) × (((List Int) × Int × Unit) × (List Int) × Unit)) ⊕ Empty)) (x : ((Unit × Int × Unit × Int × Int × Int × Unit) × (((List Int) × Int × Unit) × (List Int) × Unit))) : (roundK (second_Deck_Values.E g_second_Deck_Next g_second_Deck_Sample l0 l1 l2) second_Deck_Values.s0 [0, 1, 5, 6, 7, 8] [(2, [5])] true (((mk second_Deck_Values.hs second_Deck_Values.c []).atoms.getD 0 .bad).body) second_Deck_Values.x0 L x).run _ some = second_Deck_Values.f0 g_second_Deck_Next g_second_Deck_Sample l1 L x.1.2.1 x.1.2.2.2.1 x.1.2.2.2.2.1 x.1.2.2.2.2.2.1 x.2.1.1 x.2.1.2.1 x.2.2.1 := by
  show _ = (_ : Option _)
  kernel_rfl
noncomputable def second_Deck_Values.L0 : ((Unit × Int × Unit × Int × Int × Int × Unit) × (((List Int) × Int × Unit) × (List Int) × Unit)) → Option (((Unit × Unit) × (((List Int) × Int × Unit) × (List Int) × Unit)) ⊕ Empty) := loop fun L x => second_Deck_Values.f0 second_Deck_Next.F second_Deck_Sample.F second_Deck_Values.L1 L x.1.2.1 x.1.2.2.2.1 x.1.2.2.2.2.1 x.1.2.2.2.2.2.1 x.2.1.1 x.2.1.2.1 x.2.2.1
def second_Deck_Values.f (g_second_Deck_Next : ((Unit × Int × Unit) × (((List Int) × Int × Unit) × Unit)) → Option ((Int × Unit) × (((List Int) × Int × Unit) × Unit))) (l0 : ((Unit × Int × Unit × Int × Int × Int × Unit) × (((List Int) × Int × Unit) × (List Int) × Unit)) → Option (((Unit × Unit) × (((List Int) × Int × Unit) × (List Int) × Unit)) ⊕ Empty)) (n : Int) (o0_0 : (List Int)) (o0_1 : Int) : Option ((Unit × Unit) × (((List Int) × Int × Unit) × (List Int) × Unit)) :=
  (Option.bind (g_second_Deck_Next (((), ((5:Int), ())), ((o0_0, (o0_1, ())), ()))) (fun y0 =>
  (Option.bind (g_second_Deck_Next (((), ((4:Int), ())), ((y0.2.1.1, (y0.2.1.2.1, ())), ()))) (fun y1 =>
  (Option.bind (l0 (((), (n, ((), (y0.1.1, ((Go.IntKind.wrap Go.IntKind.i64 ((2:Int) + y1.1.1)), ((0:Int), ())))))), ((y1.2.1.1, (y1.2.1.2.1, ())), (([] : List Int), ())))) (fun y2 =>
  (Sum.elim (fun a3 =>
   (some (((), ()), ((a3.2.1.1, (a3.2.1.2.1, ())), (a3.2.2.1, ()))))) (fun b3 =>
   (Empty.elim b3)) y2)))))))
theorem second_Deck_Values.eq (g_second_Deck_Next : second_Deck_Next.sh.X → Option second_Deck_Next.osh.X) (g_second_Deck_Sample : second_Deck_Sample.sh.X → Option second_Deck_Sample.osh.X) (l0 : second_Deck_Values.s0.X → Option (sumX second_Deck_Values.x0)) (l1 : second_Deck_Values.s1.X → Option (sumX second_Deck_Values.x1)) (l2 : second_Deck_Values.s2.X → Option (sumX second_Deck_Values.x2)) (x : ((Unit × Int × Unit) × (((List Int) × Int × Unit) × Unit))) : (bodyO (second_Deck_Values.E g_second_Deck_Next g_second_Deck_Sample l0 l1 l2) (mk second_Deck_Values.hs second_Deck_Values.c []) Go.Proofs.Try.f17.results.toList second_Deck_Values.sh second_Deck_Values.osh x).run _ some = second_Deck_Values.f g_second_Deck_Next l0 x.1.2.1 x.2.1.1 x.2.1.2.1 := by
  show _ = (_ : Option _)
  kernel_rfl
noncomputable def second_Deck_Values (n : Int) (o0_0 : (List Int)) (o0_1 : Int) : Option ((Unit × Unit) × (((List Int) × Int × Unit) × (List Int) × Unit)) := second_Deck_Values.f second_Deck_Next.F second_Deck_Values.L0 n o0_0 o0_1
noncomputable def second_Deck_Values.F (x : ((Unit × Int × Unit) × (((List Int) × Int × Unit) × Unit))) : Option ((Unit × Unit) × (((List Int) × Int × Unit) × (List Int) × Unit)) := second_Deck_Values x.1.2.1 x.2.1.1 x.2.1.2.1
theorem second_Deck_Values.L0_eq (n_1 : Int) (shape_6 : Int) (width_7 : Int) (i_8 : Int) (o0_0 : (List Int)) (o0_1 : Int) (o1 : List Int) : second_Deck_Values.L0 (((), n_1, (), shape_6, width_7, i_8, ()), ((o0_0, o0_1, ()), o1, ())) = second_Deck_Values.f0 second_Deck_Next.F second_Deck_Sample.F second_Deck_Values.L1 second_Deck_Values.L0 n_1 shape_6 width_7 i_8 o0_0 o0_1 o1 :=
  loop_eq (E := (second_Deck_Values.E second_Deck_Next.F second_Deck_Sample.F second_Deck_Values.L0 second_Deck_Values.L1 second_Deck_Values.L2)) (sh := second_Deck_Values.s0) (es := second_Deck_Values.x0) (lp := true) (H := fun L x => second_Deck_Values.eq0 second_Deck_Next.F second_Deck_Sample.F second_Deck_Values.L0 second_Deck_Values.L1 second_Deck_Values.L2 L x) (((), n_1, (), shape_6, width_7, i_8, ()), ((o0_0, o0_1, ()), o1, ()))
theorem second_Deck_Values.L1_eq (n_1 : Int) (shape_6 : Int) (width_7 : Int) (i_8 : Int) (x_9 : Int) (v22 : Int) (o0_0 : (List Int)) (o0_1 : Int) (o1 : List Int) : second_Deck_Values.L1 (((), n_1, (), shape_6, width_7, i_8, x_9, v22, ()), ((o0_0, o0_1, ()), o1, ())) = second_Deck_Values.f1 second_Deck_Values.L2 n_1 shape_6 width_7 i_8 x_9 v22 o0_0 o0_1 o1 := rfl
theorem second_Deck_Values.L2_eq (n_1 : Int) (shape_6 : Int) (width_7 : Int) (i_8 : Int) (x_9 : Int) (v22 : Int) (v23 : Bool) (o0_0 : (List Int)) (o0_1 : Int) (o1 : List Int) : second_Deck_Values.L2 (((), n_1, (), shape_6, width_7, i_8, x_9, v22, v23, ()), ((o0_0, o0_1, ()), o1, ())) = second_Deck_Values.f2 second_Deck_Next.F n_1 shape_6 width_7 i_8 x_9 v22 v23 o0_0 o0_1 o1 := rfl
theorem second_Deck_Values.F_eq (n : Int) (o0_0 : (List Int)) (o0_1 : Int) : second_Deck_Values.F (((), n, ()), ((o0_0, o0_1, ()), ())) = second_Deck_Values.f second_Deck_Next.F second_Deck_Values.L0 n o0_0 o0_1 := rfl
theorem second_Deck_Values.ok {tabs : List (Nat × Go.Obj)} (ht : TabsOk tabs) : FOK Go.Proofs.Try.prog tabs 17 (FE.of [true, true] true second_Deck_Values.sh second_Deck_Values.osh second_Deck_Values.F) := by
  refine fn_keeps (E := (second_Deck_Values.E second_Deck_Next.F second_Deck_Sample.F second_Deck_Values.L0 second_Deck_Values.L1 second_Deck_Values.L2)) (c := second_Deck_Values.c) (fn := Go.Proofs.Try.f17) (hs := second_Deck_Values.hs) (by kernel_rfl) Go.Proofs.Try.func17 ⟨by kernel_rfl, by kernel_rfl, tb, by kernel_rfl, by kernel_rfl, by kernel_rfl, by kernel_rfl, by kernel_rfl⟩ ⟨fun g ks fe h => ?_, gt_ok ht⟩ ?_ (fun x => second_Deck_Values.eq second_Deck_Next.F second_Deck_Sample.F second_Deck_Values.L0 second_Deck_Values.L1 second_Deck_Values.L2 x)
  · rcases c_cons h with ⟨rfl, rfl⟩ | h
    · exact second_Deck_Next.ok ht
    rcases c_cons h with ⟨rfl, rfl⟩ | h
    · exact second_Deck_Sample.ok ht
    cases h
  · refine known_at 3 (by kernel_rfl) fun i hi => ?_
    match i, hi with
    | 0, _ => exact atom_at (id := 0) (live := [0, 1, 5, 6, 7, 8]) (outs := [(2, [5])]) (loop := true) (by kernel_rfl) (loop_ok (E := (second_Deck_Values.E second_Deck_Next.F second_Deck_Sample.F second_Deck_Values.L0 second_Deck_Values.L1 second_Deck_Values.L2)) (sh := second_Deck_Values.s0) (es := second_Deck_Values.x0) rfl (fun L x => second_Deck_Values.eq0 second_Deck_Next.F second_Deck_Sample.F second_Deck_Values.L0 second_Deck_Values.L1 second_Deck_Values.L2 L x))
    | 1, _ => exact atom_at (id := 1) (live := [0, 1, 5, 6, 7, 8, 9, 22]) (outs := [(0, [0, 1, 5, 6, 7, 8, 9])]) (loop := false) (by kernel_rfl) (cut_ok (E := (second_Deck_Values.E second_Deck_Next.F second_Deck_Sample.F second_Deck_Values.L0 second_Deck_Values.L1 second_Deck_Values.L2)) (sh := second_Deck_Values.s1) (es := second_Deck_Values.x1) rfl (fun L x => second_Deck_Values.eq1 second_Deck_Next.F second_Deck_Sample.F second_Deck_Values.L0 second_Deck_Values.L1 second_Deck_Values.L2 L x))
    | 2, _ => exact atom_at (id := 2) (live := [0, 1, 5, 6, 7, 8, 9, 22, 23]) (outs := [(0, [0, 1, 5, 6, 7, 8, 9])]) (loop := false) (by kernel_rfl) (cut_ok (E := (second_Deck_Values.E second_Deck_Next.F second_Deck_Sample.F second_Deck_Values.L0 second_Deck_Values.L1 second_Deck_Values.L2)) (sh := second_Deck_Values.s2) (es := second_Deck_Values.x2) rfl (fun L x => second_Deck_Values.eq2 second_Deck_Next.F second_Deck_Sample.F second_Deck_Values.L0 second_Deck_Values.L1 second_Deck_Values.L2 L x))
    | n + 3, h => exact absurd h (by omega)

/-! second_Deck_Measure -/
def second_Deck_Measure.f (g_second_Deck_Next : ((Unit × Int × Unit) × (((List Int) × Int × Unit) × Unit)) → Option ((Int × Unit) × (((List Int) × Int × Unit) × Unit))) (kind : Int) (o0_0 : (List Int)) (o0_1 : Int) : Option (((Int × Int × Int × Unit) × Unit) × (((List Int) × Int × Unit) × Unit)) :=
  (bif (kind == (0:Int)) then
   (Option.bind (g_second_Deck_Next (((), ((5:Int), ())), ((o0_0, (o0_1, ())), ()))) (fun y1 =>
   (bif ((Go.IntKind.wrap Go.IntKind.i64 ((1:Int) + y1.1.1)) == (4:Int)) then
    (Option.bind (g_second_Deck_Next (((), ((5:Int), ())), ((y1.2.1.1, (y1.2.1.2.1, ())), ()))) (fun y3 =>
    (bif (decide ((0:Int) ≤ y3.1.1)) then
     (bif (decide (y3.1.1 < (((List.length [(0:Int), (1:Int), (2:Int), (5:Int), (32:Int)]) : Nat) : Int))) then
      (some ((((Go.IntKind.wrap Go.IntKind.i64 ((1:Int) + y1.1.1)), ((List.getD [(0:Int), (1:Int), (2:Int), (5:Int), (32:Int)] (Int.toNat y3.1.1) (0:Int)), ((0:Int), ()))), ()), ((y3.2.1.1, (y3.2.1.2.1, ())), ())))
     else
      none)
    else
     none)))
   else
    (bif ((Go.IntKind.wrap Go.IntKind.i64 ((1:Int) + y1.1.1)) == (5:Int)) then
     (Option.bind (g_second_Deck_Next (((), ((9:Int), ())), ((y1.2.1.1, (y1.2.1.2.1, ())), ()))) (fun y4 =>
     (some ((((Go.IntKind.wrap Go.IntKind.i64 ((1:Int) + y1.1.1)), ((0:Int), ((Go.IntKind.wrap Go.IntKind.i64 (y4.1.1 - (3:Int))), ()))), ()), ((y4.2.1.1, (y4.2.1.2.1, ())), ())))))
    else
     (some ((((Go.IntKind.wrap Go.IntKind.i64 ((1:Int) + y1.1.1)), ((0:Int), ((0:Int), ()))), ()), ((y1.2.1.1, (y1.2.1.2.1, ())), ())))))))
  else
   (bif (kind == (4:Int)) then
    (Option.bind (g_second_Deck_Next (((), ((5:Int), ())), ((o0_0, (o0_1, ())), ()))) (fun y2 =>
    (bif (decide ((0:Int) ≤ y2.1.1)) then
     (bif (decide (y2.1.1 < (((List.length [(0:Int), (1:Int), (2:Int), (5:Int), (32:Int)]) : Nat) : Int))) then
      (some (((kind, ((List.getD [(0:Int), (1:Int), (2:Int), (5:Int), (32:Int)] (Int.toNat y2.1.1) (0:Int)), ((0:Int), ()))), ()), ((y2.2.1.1, (y2.2.1.2.1, ())), ())))
     else
      none)
    else
     none)))
   else
    (bif (kind == (5:Int)) then
     (Option.bind (g_second_Deck_Next (((), ((9:Int), ())), ((o0_0, (o0_1, ())), ()))) (fun y3 =>
     (some (((kind, ((0:Int), ((Go.IntKind.wrap Go.IntKind.i64 (y3.1.1 - (3:Int))), ()))), ()), ((y3.2.1.1, (y3.2.1.2.1, ())), ())))))
    else
     (some (((kind, ((0:Int), ((0:Int), ()))), ()), ((o0_0, (o0_1, ())), ()))))))
theorem second_Deck_Measure.eq (g_second_Deck_Next : second_Deck_Next.sh.X → Option second_Deck_Next.osh.X) (x : ((Unit × Int × Unit) × (((List Int) × Int × Unit) × Unit))) : (bodyO (second_Deck_Measure.E g_second_Deck_Next) (mk second_Deck_Measure.hs second_Deck_Measure.c []) Go.Proofs.Try.f19.results.toList second_Deck_Measure.sh second_Deck_Measure.osh x).run _ some = second_Deck_Measure.f g_second_Deck_Next x.1.2.1 x.2.1.1 x.2.1.2.1 := by
  show _ = (_ : Option _)
  kernel_rfl
noncomputable def second_Deck_Measure (kind : Int) (o0_0 : (List Int)) (o0_1 : Int) : Option (((Int × Int × Int × Unit) × Unit) × (((List Int) × Int × Unit) × Unit)) := second_Deck_Measure.f second_Deck_Next.F kind o0_0 o0_1
noncomputable def second_Deck_Measure.F (x : ((Unit × Int × Unit) × (((List Int) × Int × Unit) × Unit))) : Option (((Int × Int × Int × Unit) × Unit) × (((List Int) × Int × Unit) × Unit)) := second_Deck_Measure x.1.2.1 x.2.1.1 x.2.1.2.1
theorem second_Deck_Measure.F_eq (kind : Int) (o0_0 : (List Int)) (o0_1 : Int) : second_Deck_Measure.F (((), kind, ()), ((o0_0, o0_1, ()), ())) = second_Deck_Measure.f second_Deck_Next.F kind o0_0 o0_1 := rfl
theorem second_Deck_Measure.ok {tabs : List (Nat × Go.Obj)} (ht : TabsOk tabs) : FOK Go.Proofs.Try.prog tabs 19 (FE.of [true, true] true second_Deck_Measure.sh second_Deck_Measure.osh second_Deck_Measure.F) := by
  refine fn_keeps (E := (second_Deck_Measure.E second_Deck_Next.F)) (c := second_Deck_Measure.c) (fn := Go.Proofs.Try.f19) (hs := second_Deck_Measure.hs) (by kernel_rfl) Go.Proofs.Try.func19 ⟨by kernel_rfl, by kernel_rfl, tb, by kernel_rfl, by kernel_rfl, by kernel_rfl, by kernel_rfl, by kernel_rfl⟩ ⟨fun g ks fe h => ?_, gt_ok ht⟩ ?_ (fun x => second_Deck_Measure.eq second_Deck_Next.F x)
  · rcases c_cons h with ⟨rfl, rfl⟩ | h
    · exact second_Deck_Next.ok ht
    cases h
  · exact known_at 0 (by kernel_rfl) fun i hi => absurd hi (Nat.not_lt_zero i)

/-! second_Deck_Length -/
def second_Deck_Length.f (g_second_Deck_Next : ((Unit × Int × Unit) × (((List Int) × Int × Unit) × Unit)) → Option ((Int × Unit) × (((List Int) × Int × Unit) × Unit))) (o0_0 : (List Int)) (o0_1 : Int) : Option ((Int × Unit) × (((List Int) × Int × Unit) × Unit)) :=
  (Option.bind (g_second_Deck_Next (((), ((5:Int), ())), ((o0_0, (o0_1, ())), ()))) (fun y0 =>
  (some (((Go.IntKind.wrap Go.IntKind.i64 ((2:Int) + y0.1.1)), ()), ((y0.2.1.1, (y0.2.1.2.1, ())), ())))))
theorem second_Deck_Length.eq (g_second_Deck_Next : second_Deck_Next.sh.X → Option second_Deck_Next.osh.X) (x : ((Unit × Unit) × (((List Int) × Int × Unit) × Unit))) : (bodyO (second_Deck_Length.E g_second_Deck_Next) (mk second_Deck_Length.hs second_Deck_Length.c []) Go.Proofs.Try.f20.results.toList second_Deck_Length.sh second_Deck_Length.osh x).run _ some = second_Deck_Length.f g_second_Deck_Next x.2.1.1 x.2.1.2.1 := by
  show _ = (_ : Option _)
  kernel_rfl
noncomputable def second_Deck_Length (o0_0 : (List Int)) (o0_1 : Int) : Option ((Int × Unit) × (((List Int) × Int × Unit) × Unit)) := second_Deck_Length.f second_Deck_Next.F o0_0 o0_1
noncomputable def second_Deck_Length.F (x : ((Unit × Unit) × (((List Int) × Int × Unit) × Unit))) : Option ((Int × Unit) × (((List Int) × Int × Unit) × Unit)) := second_Deck_Length x.2.1.1 x.2.1.2.1
theorem second_Deck_Length.F_eq (o0_0 : (List Int)) (o0_1 : Int) : second_Deck_Length.F (((), ()), ((o0_0, o0_1, ()), ())) = second_Deck_Length.f second_Deck_Next.F o0_0 o0_1 := rfl
theorem second_Deck_Length.ok {tabs : List (Nat × Go.Obj)} (ht : TabsOk tabs) : FOK Go.Proofs.Try.prog tabs 20 (FE.of [true] true second_Deck_Length.sh second_Deck_Length.osh second_Deck_Length.F) := by
  refine fn_keeps (E := (second_Deck_Length.E second_Deck_Next.F)) (c := second_Deck_Length.c) (fn := Go.Proofs.Try.f20) (hs := second_Deck_Length.hs) (by kernel_rfl) Go.Proofs.Try.func20 ⟨by kernel_rfl, by kernel_rfl, tb, by kernel_rfl, by kernel_rfl, by kernel_rfl, by kernel_rfl, by kernel_rfl⟩ ⟨fun g ks fe h => ?_, gt_ok ht⟩ ?_ (fun x => second_Deck_Length.eq second_Deck_Next.F x)
  · rcases c_cons h with ⟨rfl, rfl⟩ | h
    · exact second_Deck_Next.ok ht
    cases h
  · exact known_at 0 (by kernel_rfl) fun i hi => absurd hi (Nat.not_lt_zero i)

/-! ref01_common -/
def ref01_common.f0 (L : ((Int × Int × Unit) × (Unit)) → Option (((Int × Unit) × (Unit)) ⊕ Empty)) (a_0 : Int) (b_1 : Int) : Option (((Int × Unit) × (Unit)) ⊕ Empty) :=
  (bif (decide (b_1 > (0:Int))) then
   (bif (!(decide (b_1 = (0:Int)))) then
    (Option.bind (L ((b_1, ((Int.tmod a_0 b_1), ())), ())) (fun y2 =>
    (some y2)))
   else
    none)
  else
   (some (Sum.inl ((a_0, ()), ()))))
theorem ref01_common.eq0 (l0 : ref01_common.s0.X → Option (sumX ref01_common.x0)) (L : ((Int × Int × Unit) × (Unit)) → Option (((Int × Unit) × (Unit)) ⊕ Empty)) (x : ((Int × Int × Unit) × (Unit))) : (roundK (ref01_common.E l0) ref01_common.s0 [0, 1] [(2, [0])] true (((mk ref01_common.hs ref01_common.c []).atoms.getD 0 .bad).body) ref01_common.x0 L x).run _ some = ref01_common.f0 L x.1.1 x.1.2.1 := by
  show _ = (_ : Option _)
  kernel_rfl
noncomputable def ref01_common.L0 : ((Int × Int × Unit) × (Unit)) → Option (((Int × Unit) × (Unit)) ⊕ Empty) := loop fun L x => ref01_common.f0 L x.1.1 x.1.2.1
def ref01_common.f (l0 : ((Int × Int × Unit) × (Unit)) → Option (((Int × Unit) × (Unit)) ⊕ Empty)) (a : Int) (b : Int) : Option ((Int × Unit) × (Unit)) :=
  (Option.bind (l0 ((a, (b, ())), ())) (fun y0 =>
  (Sum.elim (fun a1 =>
   (some ((a1.1.1, ()), ()))) (fun b1 =>
   (Empty.elim b1)) y0)))
theorem ref01_common.eq (l0 : ref01_common.s0.X → Option (sumX ref01_common.x0)) (x : ((Int × Int × Unit) × (Unit))) : (bodyO (ref01_common.E l0) (mk ref01_common.hs ref01_common.c []) Go.Proofs.Try.f74.results.toList ref01_common.sh ref01_common.osh x).run _ some = ref01_common.f l0 x.1.1 x.1.2.1 := by
  show _ = (_ : Option _)
  kernel_rfl
noncomputable def ref01_common (a : Int) (b : Int) : Option ((Int × Unit) × (Unit)) := ref01_common.f ref01_common.L0 a b
noncomputable def ref01_common.F (x : ((Int × Int × Unit) × (Unit))) : Option ((Int × Unit) × (Unit)) := ref01_common x.1.1 x.1.2.1
theorem ref01_common.L0_eq (a_0 : Int) (b_1 : Int) : ref01_common.L0 ((a_0, b_1, ()), ()) = ref01_common.f0 ref01_common.L0 a_0 b_1 :=
  loop_eq (E := (ref01_common.E ref01_common.L0)) (sh := ref01_common.s0) (es := ref01_common.x0) (lp := true) (H := fun L x => ref01_common.eq0 ref01_common.L0 L x) ((a_0, b_1, ()), ())
theorem ref01_common.F_eq (a : Int) (b : Int) : ref01_common.F ((a, b, ()), ()) = ref01_common.f ref01_common.L0 a b := rfl
theorem ref01_common.ok {tabs : List (Nat × Go.Obj)} (ht : TabsOk tabs) : FOK Go.Proofs.Try.prog tabs 74 (FE.of [true, true] false ref01_common.sh ref01_common.osh ref01_common.F) := by
  refine fn_keeps (E := (ref01_common.E ref01_common.L0)) (c := ref01_common.c) (fn := Go.Proofs.Try.f74) (hs := ref01_common.hs) (by kernel_rfl) Go.Proofs.Try.func74 ⟨by kernel_rfl, by kernel_rfl, tb, by kernel_rfl, by kernel_rfl, by kernel_rfl, by kernel_rfl, by kernel_rfl⟩ ⟨fun g ks fe h => ?_, gt_ok ht⟩ ?_ (fun x => ref01_common.eq ref01_common.L0 x)
  · cases h
  · refine known_at 1 (by kernel_rfl) fun i hi => ?_
    match i, hi with
    | 0, _ => exact atom_at (id := 0) (live := [0, 1]) (outs := [(2, [0])]) (loop := true) (by kernel_rfl) (loop_ok (E := (ref01_common.E ref01_common.L0)) (sh := ref01_common.s0) (es := ref01_common.x0) rfl (fun L x => ref01_common.eq0 ref01_common.L0 L x))
    | n + 1, h => exact absurd h (by omega)

/-! ref01_Valid -/
def ref01_Valid.f0 (g_ref01_common : ((Int × Int × Unit) × (Unit)) → Option ((Int × Unit) × (Unit))) (o0_0 : Int) (o0_1 : Int) : Option (((Bool × Unit) × (Unit)) ⊕ Empty) :=
  (bif (decide (o0_0 ≥ (0:Int))) then
   (bif (decide (o0_0 ≤ (2305843009213693952:Int))) then
    (bif (decide (o0_1 ≥ (1:Int))) then
     (bif (decide (o0_1 ≤ (1152921504606846976:Int))) then
      (Option.bind (g_ref01_common ((o0_0, (o0_1, ())), ())) (fun y4 =>
      (some (Sum.inl (((y4.1.1 == (1:Int)), ()), ())))))
     else
      (some (Sum.inl ((Bool.false, ()), ()))))
    else
     (some (Sum.inl ((Bool.false, ()), ()))))
   else
    (some (Sum.inl ((Bool.false, ()), ()))))
  else
   (some (Sum.inl ((Bool.false, ()), ()))))
theorem ref01_Valid.eq0 (g_ref01_common : ref01_common.sh.X → Option ref01_common.osh.X) (l0 : ref01_Valid.s0.X → Option (sumX ref01_Valid.x0)) (L : ((Unit × Unit) × ((Int × Int × Unit) × Unit)) → Option (((Bool × Unit) × (Unit)) ⊕ Empty)) (x : ((Unit × Unit) × ((Int × Int × Unit) × Unit))) : (roundK (ref01_Valid.E g_ref01_common l0) ref01_Valid.s0 [1] [(0, [2])] false (((mk ref01_Valid.hs ref01_Valid.c []).atoms.getD 0 .bad).body) ref01_Valid.x0 L x).run _ some = ref01_Valid.f0 g_ref01_common x.2.1.1 x.2.1.2.1 := by
  show _ = (_ : Option _)
  kernel_rfl
noncomputable def ref01_Valid.L0 : ((Unit × Unit) × ((Int × Int × Unit) × Unit)) → Option (((Bool × Unit) × (Unit)) ⊕ Empty) := fun x => ref01_Valid.f0 ref01_common.F x.2.1.1 x.2.1.2.1
def ref01_Valid.f (l0 : ((Unit × Unit) × ((Int × Int × Unit) × Unit)) → Option (((Bool × Unit) × (Unit)) ⊕ Empty)) (a_Num : Int) (a_Den : Int) : Option ((Bool × Unit) × (Unit)) :=
  (Option.bind (l0 (((), ()), ((a_Num, (a_Den, ())), ()))) (fun y0 =>
  (Sum.elim (fun a1 =>
   (some ((a1.1.1, ()), ()))) (fun b1 =>
   (Empty.elim b1)) y0)))
theorem ref01_Valid.eq (g_ref01_common : ref01_common.sh.X → Option ref01_common.osh.X) (l0 : ref01_Valid.s0.X → Option (sumX ref01_Valid.x0)) (x : (((Int × Int × Unit) × Unit) × (Unit))) : (bodyO (ref01_Valid.E g_ref01_common l0) (mk ref01_Valid.hs ref01_Valid.c []) Go.Proofs.Try.f54.results.toList ref01_Valid.sh ref01_Valid.osh x).run _ some = ref01_Valid.f l0 x.1.1.1 x.1.1.2.1 := by
  show _ = (_ : Option _)
  kernel_rfl
noncomputable def ref01_Valid (a_Num : Int) (a_Den : Int) : Option ((Bool × Unit) × (Unit)) := ref01_Valid.f ref01_Valid.L0 a_Num a_Den
noncomputable def ref01_Valid.F (x : (((Int × Int × Unit) × Unit) × (Unit))) : Option ((Bool × Unit) × (Unit)) := ref01_Valid x.1.1.1 x.1.1.2.1
theorem ref01_Valid.L0_eq (o0_0 : Int) (o0_1 : Int) : ref01_Valid.L0 (((), ()), ((o0_0, o0_1, ()), ())) = ref01_Valid.f0 ref01_common.F o0_0 o0_1 := rfl
theorem ref01_Valid.F_eq (a_Num : Int) (a_Den : Int) : ref01_Valid.F (((a_Num, a_Den, ()), ()), ()) = ref01_Valid.f ref01_Valid.L0 a_Num a_Den := rfl
theorem ref01_Valid.ok {tabs : List (Nat × Go.Obj)} (ht : TabsOk tabs) : FOK Go.Proofs.Try.prog tabs 54 (FE.of [true] false ref01_Valid.sh ref01_Valid.osh ref01_Valid.F) := by
  refine fn_keeps (E := (ref01_Valid.E ref01_common.F ref01_Valid.L0)) (c := ref01_Valid.c) (fn := Go.Proofs.Try.f54) (hs := ref01_Valid.hs) (by kernel_rfl) Go.Proofs.Try.func54 ⟨by kernel_rfl, by kernel_rfl, tb, by kernel_rfl, by kernel_rfl, by kernel_rfl, by kernel_rfl, by kernel_rfl⟩ ⟨fun g ks fe h => ?_, gt_ok ht⟩ ?_ (fun x => ref01_Valid.eq ref01_common.F ref01_Valid.L0 x)
  · rcases c_cons h with ⟨rfl, rfl⟩ | h
    · exact ref01_common.ok ht
    cases h
  · refine known_at 1 (by kernel_rfl) fun i hi => ?_
    match i, hi with
    | 0, _ => exact atom_at (id := 0) (live := [1]) (outs := [(0, [2])]) (loop := false) (by kernel_rfl) (cut_ok (E := (ref01_Valid.E ref01_common.F ref01_Valid.L0)) (sh := ref01_Valid.s0) (es := ref01_Valid.x0) rfl (fun L x => ref01_Valid.eq0 ref01_common.F ref01_Valid.L0 L x))
    | n + 1, h => exact absurd h (by omega)

/-! ref01_order -/
def ref01_order.f0 (a_0 : Int) (b_1 : Int) (c_2 : Int) (d_3 : Int) : Option (((Int × Int × Int × Int × Bool × Unit) × (Unit)) ⊕ Empty) :=
  (bif (a_0 == (0:Int)) then
   (some (Sum.inl ((a_0, (b_1, (c_2, (d_3, ((c_2 == (0:Int)), ()))))), ())))
  else
   (some (Sum.inl ((a_0, (b_1, (c_2, (d_3, (Bool.false, ()))))), ()))))
theorem ref01_order.eq0 (g_ref01_order : ref01_order.sh.X → Option ref01_order.osh.X) (l0 : ref01_order.s0.X → Option (sumX ref01_order.x0)) (L : ((Int × Int × Int × Int × Unit) × (Unit)) → Option (((Int × Int × Int × Int × Bool × Unit) × (Unit)) ⊕ Empty)) (x : ((Int × Int × Int × Int × Unit) × (Unit))) : (roundK (ref01_order.E g_ref01_order l0) ref01_order.s0 [0, 1, 2, 3] [(0, [0, 1, 2, 3, 29])] false (((mk ref01_order.hs ref01_order.c []).atoms.getD 0 .bad).body) ref01_order.x0 L x).run _ some = ref01_order.f0 x.1.1 x.1.2.1 x.1.2.2.1 x.1.2.2.2.1 := by
  show _ = (_ : Option _)
  kernel_rfl
noncomputable def ref01_order.L0 (g : ((Int × Int × Int × Int × Unit) × (Unit)) → Option ((Int × Unit) × (Unit))) : ((Int × Int × Int × Int × Unit) × (Unit)) → Option (((Int × Int × Int × Int × Bool × Unit) × (Unit)) ⊕ Empty) := fun x => ref01_order.f0 x.1.1 x.1.2.1 x.1.2.2.1 x.1.2.2.2.1
def ref01_order.f (g_ref01_order : ((Int × Int × Int × Int × Unit) × (Unit)) → Option ((Int × Unit) × (Unit))) (l0 : ((Int × Int × Int × Int × Unit) × (Unit)) → Option (((Int × Int × Int × Int × Bool × Unit) × (Unit)) ⊕ Empty)) (a : Int) (b : Int) (c : Int) (d : Int) : Option ((Int × Unit) × (Unit)) :=
  (bif (!(decide (b = (0:Int)))) then
   (bif (!(decide (d = (0:Int)))) then
    (bif ((Go.IntKind.wrap Go.IntKind.i64 (Int.tdiv a b)) != (Go.IntKind.wrap Go.IntKind.i64 (Int.tdiv c d))) then
     (bif (decide ((Go.IntKind.wrap Go.IntKind.i64 (Int.tdiv a b)) < (Go.IntKind.wrap Go.IntKind.i64 (Int.tdiv c d)))) then
      (some (((-(1:Int)), ()), ()))
     else
      (some (((1:Int), ()), ())))
    else
     (bif (!(decide (b = (0:Int)))) then
      (bif (!(decide (d = (0:Int)))) then
       (Option.bind (l0 (((Int.tmod a b), (b, ((Int.tmod c d), (d, ())))), ())) (fun y5 =>
       (Sum.elim (fun a6 =>
        (bif a6.1.2.2.2.2.1 then
         (some (((0:Int), ()), ()))
        else
         (bif (a6.1.1 == (0:Int)) then
          (some (((-(1:Int)), ()), ()))
         else
          (bif (a6.1.2.2.1 == (0:Int)) then
           (some (((1:Int), ()), ()))
          else
           (Option.bind (g_ref01_order ((a6.1.2.2.2.1, (a6.1.2.2.1, (a6.1.2.1, (a6.1.1, ())))), ())) (fun y10 =>
           (some ((y10.1.1, ()), ())))))))) (fun b6 =>
        (Empty.elim b6)) y5)))
      else
       none)
     else
      none))
   else
    none)
  else
   none)
theorem ref01_order.eq (g_ref01_order : ref01_order.sh.X → Option ref01_order.osh.X) (l0 : ref01_order.s0.X → Option (sumX ref01_order.x0)) (x : ((Int × Int × Int × Int × Unit) × (Unit))) : (bodyO (ref01_order.E g_ref01_order l0) (mk ref01_order.hs ref01_order.c []) Go.Proofs.Try.f70.results.toList ref01_order.sh ref01_order.osh x).run _ some = ref01_order.f g_ref01_order l0 x.1.1 x.1.2.1 x.1.2.2.1 x.1.2.2.2.1 := by
  show _ = (_ : Option _)
  kernel_rfl
noncomputable def ref01_order.S (g : ((Int × Int × Int × Int × Unit) × (Unit)) → Option ((Int × Unit) × (Unit))) (x : ((Int × Int × Int × Int × Unit) × (Unit))) : Option ((Int × Unit) × (Unit)) := ref01_order.f g (ref01_order.L0 g) x.1.1 x.1.2.1 x.1.2.2.1 x.1.2.2.2.1
noncomputable def ref01_order.F : ((Int × Int × Int × Int × Unit) × (Unit)) → Option ((Int × Unit) × (Unit)) := recR ref01_order.S 200
theorem ref01_order.R_eq (n : Nat) (a : Int) (b : Int) (c : Int) (d : Int) : recR ref01_order.S (n + 1) ((a, b, c, d, ()), ()) = (fun g => ref01_order.f g (ref01_order.L0 g) a b c d) (recR ref01_order.S n) := rfl
noncomputable def ref01_order (a : Int) (b : Int) (c : Int) (d : Int) : Option ((Int × Unit) × (Unit)) := ref01_order.F ((a, b, c, d, ()), ())
theorem ref01_order.L0_eq (g : ((Int × Int × Int × Int × Unit) × (Unit)) → Option ((Int × Unit) × (Unit))) (a_0 : Int) (b_1 : Int) (c_2 : Int) (d_3 : Int) : ref01_order.L0 g ((a_0, b_1, c_2, d_3, ()), ()) = ref01_order.f0 a_0 b_1 c_2 d_3 := rfl
theorem ref01_order.okS {tabs : List (Nat × Go.Obj)} (ht : TabsOk tabs) (g : ((Int × Int × Int × Int × Unit) × (Unit)) → Option ((Int × Unit) × (Unit))) (hg : FOK Go.Proofs.Try.prog tabs 70 (FE.of [true, true, true, true] false ref01_order.sh ref01_order.osh g)) : FOK Go.Proofs.Try.prog tabs 70 (FE.of [true, true, true, true] false ref01_order.sh ref01_order.osh (ref01_order.S g)) := by
  refine fn_keeps (E := (ref01_order.E g (ref01_order.L0 g))) (c := ref01_order.c) (fn := Go.Proofs.Try.f70) (hs := ref01_order.hs) (by kernel_rfl) Go.Proofs.Try.func70 ⟨by kernel_rfl, by kernel_rfl, tb, by kernel_rfl, by kernel_rfl, by kernel_rfl, by kernel_rfl, by kernel_rfl⟩ ⟨fun g ks fe h => ?_, gt_ok ht⟩ ?_ (fun x => ref01_order.eq g (ref01_order.L0 g) x)
  · rcases c_cons h with ⟨rfl, rfl⟩ | h
    · exact hg
    cases h
  · refine known_at 1 (by kernel_rfl) fun i hi => ?_
    match i, hi with
    | 0, _ => exact atom_at (id := 0) (live := [0, 1, 2, 3]) (outs := [(0, [0, 1, 2, 3, 29])]) (loop := false) (by kernel_rfl) (cut_ok (E := (ref01_order.E g (ref01_order.L0 g))) (sh := ref01_order.s0) (es := ref01_order.x0) rfl (fun L x => ref01_order.eq0 g (ref01_order.L0 g) L x))
    | n + 1, h => exact absurd h (by omega)
theorem ref01_order.ok {tabs : List (Nat × Go.Obj)} (ht : TabsOk tabs) : FOK Go.Proofs.Try.prog tabs 70 (FE.of [true, true, true, true] false ref01_order.sh ref01_order.osh ref01_order.F) :=
  rec_ok (lend := [true, true, true, true]) (ret := false) (sh := ref01_order.sh) (osh := ref01_order.osh) (S := ref01_order.S) Go.Proofs.Try.func70 (c := ref01_order.c) (by kernel_rfl) (by kernel_rfl) (fun g hg => ref01_order.okS ht g hg) _

/-! ref01_Cmp -/
def ref01_Cmp.f0 (g_ref01_Valid : (((Int × Int × Unit) × Unit) × (Unit)) → Option ((Bool × Unit) × (Unit))) (o0_0 : Int) (o0_1 : Int) (o1_0 : Int) (o1_1 : Int) : Option (((Unit × Unit × Bool × Unit) × ((Int × Int × Unit) × (Int × Int × Unit) × Unit)) ⊕ Empty) :=
  (Option.bind (g_ref01_Valid (((o0_0, (o0_1, ())), ()), ())) (fun y0 =>
  (bif (!y0.1.1) then
   (some (Sum.inl (((), ((), (Bool.true, ()))), ((o0_0, (o0_1, ())), ((o1_0, (o1_1, ())), ())))))
  else
   (Option.bind (g_ref01_Valid (((o1_0, (o1_1, ())), ()), ())) (fun y2 =>
   (some (Sum.inl (((), ((), ((!y2.1.1), ()))), ((o0_0, (o0_1, ())), ((o1_0, (o1_1, ())), ()))))))))))
theorem ref01_Cmp.eq0 (g_ref01_Valid : ref01_Valid.sh.X → Option ref01_Valid.osh.X) (g_ref01_order : ref01_order.sh.X → Option ref01_order.osh.X) (l0 : ref01_Cmp.s0.X → Option (sumX ref01_Cmp.x0)) (L : ((Unit × Unit × Unit) × ((Int × Int × Unit) × (Int × Int × Unit) × Unit)) → Option (((Unit × Unit × Bool × Unit) × ((Int × Int × Unit) × (Int × Int × Unit) × Unit)) ⊕ Empty)) (x : ((Unit × Unit × Unit) × ((Int × Int × Unit) × (Int × Int × Unit) × Unit))) : (roundK (ref01_Cmp.E g_ref01_Valid g_ref01_order l0) ref01_Cmp.s0 [2, 3] [(0, [2, 3, 12])] false (((mk ref01_Cmp.hs ref01_Cmp.c []).atoms.getD 0 .bad).body) ref01_Cmp.x0 L x).run _ some = ref01_Cmp.f0 g_ref01_Valid x.2.1.1 x.2.1.2.1 x.2.2.1.1 x.2.2.1.2.1 := by
  show _ = (_ : Option _)
  kernel_rfl
noncomputable def ref01_Cmp.L0 : ((Unit × Unit × Unit) × ((Int × Int × Unit) × (Int × Int × Unit) × Unit)) → Option (((Unit × Unit × Bool × Unit) × ((Int × Int × Unit) × (Int × Int × Unit) × Unit)) ⊕ Empty) := fun x => ref01_Cmp.f0 ref01_Valid.F x.2.1.1 x.2.1.2.1 x.2.2.1.1 x.2.2.1.2.1
def ref01_Cmp.f (g_ref01_order : ((Int × Int × Int × Int × Unit) × (Unit)) → Option ((Int × Unit) × (Unit))) (l0 : ((Unit × Unit × Unit) × ((Int × Int × Unit) × (Int × Int × Unit) × Unit)) → Option (((Unit × Unit × Bool × Unit) × ((Int × Int × Unit) × (Int × Int × Unit) × Unit)) ⊕ Empty)) (a_Num : Int) (a_Den : Int) (b_Num : Int) (b_Den : Int) : Option ((Int × Unit) × (Unit)) :=
  (Option.bind (l0 (((), ((), ())), ((a_Num, (a_Den, ())), ((b_Num, (b_Den, ())), ())))) (fun y0 =>
  (Sum.elim (fun a1 =>
   (bif a1.1.2.2.1 then
    (some (((0:Int), ()), ()))
   else
    (Option.bind (g_ref01_order ((a1.2.1.1, (a1.2.1.2.1, (a1.2.2.1.1, (a1.2.2.1.2.1, ())))), ())) (fun y3 =>
    (some ((y3.1.1, ()), ())))))) (fun b1 =>
   (Empty.elim b1)) y0)))
theorem ref01_Cmp.eq (g_ref01_Valid : ref01_Valid.sh.X → Option ref01_Valid.osh.X) (g_ref01_order : ref01_order.sh.X → Option ref01_order.osh.X) (l0 : ref01_Cmp.s0.X → Option (sumX ref01_Cmp.x0)) (x : (((Int × Int × Unit) × (Int × Int × Unit) × Unit) × (Unit))) : (bodyO (ref01_Cmp.E g_ref01_Valid g_ref01_order l0) (mk ref01_Cmp.hs ref01_Cmp.c []) Go.Proofs.Try.f47.results.toList ref01_Cmp.sh ref01_Cmp.osh x).run _ some = ref01_Cmp.f g_ref01_order l0 x.1.1.1 x.1.1.2.1 x.1.2.1.1 x.1.2.1.2.1 := by
  show _ = (_ : Option _)
  kernel_rfl
noncomputable def ref01_Cmp (a_Num : Int) (a_Den : Int) (b_Num : Int) (b_Den : Int) : Option ((Int × Unit) × (Unit)) := ref01_Cmp.f ref01_order.F ref01_Cmp.L0 a_Num a_Den b_Num b_Den
noncomputable def ref01_Cmp.F (x : (((Int × Int × Unit) × (Int × Int × Unit) × Unit) × (Unit))) : Option ((Int × Unit) × (Unit)) := ref01_Cmp x.1.1.1 x.1.1.2.1 x.1.2.1.1 x.1.2.1.2.1
theorem ref01_Cmp.L0_eq (o0_0 : Int) (o0_1 : Int) (o1_0 : Int) (o1_1 : Int) : ref01_Cmp.L0 (((), (), ()), ((o0_0, o0_1, ()), (o1_0, o1_1, ()), ())) = ref01_Cmp.f0 ref01_Valid.F o0_0 o0_1 o1_0 o1_1 := rfl
theorem ref01_Cmp.F_eq (a_Num : Int) (a_Den : Int) (b_Num : Int) (b_Den : Int) : ref01_Cmp.F (((a_Num, a_Den, ()), (b_Num, b_Den, ()), ()), ()) = ref01_Cmp.f ref01_order.F ref01_Cmp.L0 a_Num a_Den b_Num b_Den := rfl
theorem ref01_Cmp.ok {tabs : List (Nat × Go.Obj)} (ht : TabsOk tabs) : FOK Go.Proofs.Try.prog tabs 47 (FE.of [true, true] false ref01_Cmp.sh ref01_Cmp.osh ref01_Cmp.F) := by
  refine fn_keeps (E := (ref01_Cmp.E ref01_Valid.F ref01_order.F ref01_Cmp.L0)) (c := ref01_Cmp.c) (fn := Go.Proofs.Try.f47) (hs := ref01_Cmp.hs) (by kernel_rfl) Go.Proofs.Try.func47 ⟨by kernel_rfl, by kernel_rfl, tb, by kernel_rfl, by kernel_rfl, by kernel_rfl, by kernel_rfl, by kernel_rfl⟩ ⟨fun g ks fe h => ?_, gt_ok ht⟩ ?_ (fun x => ref01_Cmp.eq ref01_Valid.F ref01_order.F ref01_Cmp.L0 x)
  · rcases c_cons h with ⟨rfl, rfl⟩ | h
    · exact ref01_Valid.ok ht
    rcases c_cons h with ⟨rfl, rfl⟩ | h
    · exact ref01_order.ok ht
    cases h
  · refine known_at 1 (by kernel_rfl) fun i hi => ?_
    match i, hi with
    | 0, _ => exact atom_at (id := 0) (live := [2, 3]) (outs := [(0, [2, 3, 12])]) (loop := false) (by kernel_rfl) (cut_ok (E := (ref01_Cmp.E ref01_Valid.F ref01_order.F ref01_Cmp.L0)) (sh := ref01_Cmp.s0) (es := ref01_Cmp.x0) rfl (fun L x => ref01_Cmp.eq0 ref01_Valid.F ref01_order.F ref01_Cmp.L0 L x))
    | n + 1, h => exact absurd h (by omega)

/-! ref01_Less -/
def ref01_Less.f (g_ref01_Cmp : (((Int × Int × Unit) × (Int × Int × Unit) × Unit) × (Unit)) → Option ((Int × Unit) × (Unit))) (a_Num : Int) (a_Den : Int) (b_Num : Int) (b_Den : Int) : Option ((Bool × Unit) × (Unit)) :=
  (Option.bind (g_ref01_Cmp (((a_Num, (a_Den, ())), ((b_Num, (b_Den, ())), ())), ())) (fun y0 =>
  (some (((decide (y0.1.1 < (0:Int))), ()), ()))))
theorem ref01_Less.eq (g_ref01_Cmp : ref01_Cmp.sh.X → Option ref01_Cmp.osh.X) (x : (((Int × Int × Unit) × (Int × Int × Unit) × Unit) × (Unit))) : (bodyO (ref01_Less.E g_ref01_Cmp) (mk ref01_Less.hs ref01_Less.c []) Go.Proofs.Try.f24.results.toList ref01_Less.sh ref01_Less.osh x).run _ some = ref01_Less.f g_ref01_Cmp x.1.1.1 x.1.1.2.1 x.1.2.1.1 x.1.2.1.2.1 := by
  show _ = (_ : Option _)
  kernel_rfl
noncomputable def ref01_Less (a_Num : Int) (a_Den : Int) (b_Num : Int) (b_Den : Int) : Option ((Bool × Unit) × (Unit)) := ref01_Less.f ref01_Cmp.F a_Num a_Den b_Num b_Den
noncomputable def ref01_Less.F (x : (((Int × Int × Unit) × (Int × Int × Unit) × Unit) × (Unit))) : Option ((Bool × Unit) × (Unit)) := ref01_Less x.1.1.1 x.1.1.2.1 x.1.2.1.1 x.1.2.1.2.1
theorem ref01_Less.F_eq (a_Num : Int) (a_Den : Int) (b_Num : Int) (b_Den : Int) : ref01_Less.F (((a_Num, a_Den, ()), (b_Num, b_Den, ()), ()), ()) = ref01_Less.f ref01_Cmp.F a_Num a_Den b_Num b_Den := rfl
theorem ref01_Less.ok {tabs : List (Nat × Go.Obj)} (ht : TabsOk tabs) : FOK Go.Proofs.Try.prog tabs 24 (FE.of [true, true] false ref01_Less.sh ref01_Less.osh ref01_Less.F) := by
  refine fn_keeps (E := (ref01_Less.E ref01_Cmp.F)) (c := ref01_Less.c) (fn := Go.Proofs.Try.f24) (hs := ref01_Less.hs) (by kernel_rfl) Go.Proofs.Try.func24 ⟨by kernel_rfl, by kernel_rfl, tb, by kernel_rfl, by kernel_rfl, by kernel_rfl, by kernel_rfl, by kernel_rfl⟩ ⟨fun g ks fe h => ?_, gt_ok ht⟩ ?_ (fun x => ref01_Less.eq ref01_Cmp.F x)
  · rcases c_cons h with ⟨rfl, rfl⟩ | h
    · exact ref01_Cmp.ok ht
    cases h
  · exact known_at 0 (by kernel_rfl) fun i hi => absurd hi (Nat.not_lt_zero i)
end Go.Proofs.Ytefcciajemkicaa.V
