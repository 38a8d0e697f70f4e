import Derived.Test.YtadniiehehiblaaDoorVg3
import Derived.Test.YtadniiehehiblaaDoorShelf
import Derived.WalkKit
set_option linter.unusedVariables false
set_option maxRecDepth 100000
namespace Go.Proofs.YtadniiehehiblaaDoor.V
open Go.VI
/-! keep_Src_List -/
def keep_Src_List.f0 (g_keep_Src_Range : ((Unit × Int × Int × Unit) × (((List Int) × Int × Unit) × Unit)) → Option ((Int × Unit) × (((List Int) × Int × Unit) × Unit))) (n_1 : Int) (kind_5 : Int) (size_6 : Int) (x_7 : Int) (v17 : Bool) (o0_0 : (List Int)) (o0_1 : Int) : Option (((Unit × Int × Int × Int × Int × Unit) × (((List Int) × Int × Unit) × Unit)) ⊕ Empty) :=
  (bif v17 then
   (Option.bind (g_keep_Src_Range (((), ((-(1000:Int)), ((1000:Int), ()))), ((o0_0, (o0_1, ())), ()))) (fun y1 =>
   (some (Sum.inl (((), (n_1, (kind_5, (size_6, (y1.1.1, ()))))), ((y1.2.1.1, (y1.2.1.2.1, ())), ()))))))
  else
   (some (Sum.inl (((), (n_1, (kind_5, (size_6, (x_7, ()))))), ((o0_0, (o0_1, ())), ())))))
theorem keep_Src_List.eq0 (g_keep_Src_N : keep_Src_N.sh.X → Option keep_Src_N.osh.X) (g_keep_Src_Pick : keep_Src_Pick.sh.X → Option keep_Src_Pick.osh.X) (g_keep_Src_Range : keep_Src_Range.sh.X → Option keep_Src_Range.osh.X) (g_keep_clip : keep_clip.sh.X → Option keep_clip.osh.X) (l0 : keep_Src_List.s0.X → Option (sumX keep_Src_List.x0)) (l1 : keep_Src_List.s1.X → Option (sumX keep_Src_List.x1)) (l2 : keep_Src_List.s2.X → Option (sumX keep_Src_List.x2)) (l3 : keep_Src_List.s3.X → Option (sumX keep_Src_List.x3)) (L : ((Unit × Int × Int × Int × Int × Bool × Unit) × (((List Int) × Int × Unit) × Unit)) → Option (((Unit × Int × Int × Int × Int × Unit) × (((List Int) × Int × Unit) × Unit)) ⊕ Empty)) (x : ((Unit × Int × Int × Int × Int × Bool × Unit) × (((List Int) × Int × Unit) × Unit))) : (roundK (keep_Src_List.E g_keep_Src_N g_keep_Src_Pick g_keep_Src_Range g_keep_clip l0 l1 l2 l3) keep_Src_List.s0 [0, 1, 5, 6, 7, 17] [(0, [0, 1, 5, 6, 7])] false (((mk keep_Src_List.hs keep_Src_List.c []).atoms.getD 0 .bad).body) keep_Src_List.x0 L x).run _ some = keep_Src_List.f0 g_keep_Src_Range x.1.2.1 x.1.2.2.1 x.1.2.2.2.1 x.1.2.2.2.2.1 x.1.2.2.2.2.2.1 x.2.1.1 x.2.1.2.1 := by
  show _ = (_ : Option _)
  kernel_rfl
noncomputable def keep_Src_List.L0 : ((Unit × Int × Int × Int × Int × Bool × Unit) × (((List Int) × Int × Unit) × Unit)) → Option (((Unit × Int × Int × Int × Int × Unit) × (((List Int) × Int × Unit) × Unit)) ⊕ Empty) := fun x => keep_Src_List.f0 keep_Src_Range.F x.1.2.1 x.1.2.2.1 x.1.2.2.2.1 x.1.2.2.2.2.1 x.1.2.2.2.2.2.1 x.2.1.1 x.2.1.2.1
def keep_Src_List.f2 (n_1 : Int) (kind_5 : Int) (size_6 : Int) (x_7 : Int) (i_9 : Int) (v25 : Int) (v32 : Bool) (o0_0 : (List Int)) (o0_1 : Int) (o1 : List Int) : Option (((Unit × Int × Int × Int × Int × Unit × Int × Int × Bool × Unit) × (((List Int) × Int × Unit) × (List Int) × Unit)) ⊕ Empty) :=
  (bif v32 then
   (some (Sum.inl (((), (n_1, (kind_5, (size_6, (x_7, ((), (i_9, (v25, (v32, ()))))))))), ((o0_0, (o0_1, ())), (o1, ())))))
  else
   (some (Sum.inl (((), (n_1, (kind_5, (size_6, (x_7, ((), (i_9, (v25, ((v25 == (1:Int)), ()))))))))), ((o0_0, (o0_1, ())), (o1, ()))))))
theorem keep_Src_List.eq2 (g_keep_Src_N : keep_Src_N.sh.X → Option keep_Src_N.osh.X) (g_keep_Src_Pick : keep_Src_Pick.sh.X → Option keep_Src_Pick.osh.X) (g_keep_Src_Range : keep_Src_Range.sh.X → Option keep_Src_Range.osh.X) (g_keep_clip : keep_clip.sh.X → Option keep_clip.osh.X) (l0 : keep_Src_List.s0.X → Option (sumX keep_Src_List.x0)) (l1 : keep_Src_List.s1.X → Option (sumX keep_Src_List.x1)) (l2 : keep_Src_List.s2.X → Option (sumX keep_Src_List.x2)) (l3 : keep_Src_List.s3.X → Option (sumX keep_Src_List.x3)) (L : ((Unit × Int × Int × Int × Int × Unit × Int × Int × Bool × Unit) × (((List Int) × Int × Unit) × (List Int) × Unit)) → Option (((Unit × Int × Int × Int × Int × Unit × Int × Int × Bool × Unit) × (((List Int) × Int × Unit) × (List Int) × Unit)) ⊕ Empty)) (x : ((Unit × Int × Int × Int × Int × Unit × Int × Int × Bool × Unit) × (((List Int) × Int × Unit) × (List Int) × Unit))) : (roundK (keep_Src_List.E g_keep_Src_N g_keep_Src_Pick g_keep_Src_Range g_keep_clip l0 l1 l2 l3) keep_Src_List.s2 [0, 1, 5, 6, 7, 8, 9, 25, 32] [(0, [0, 1, 5, 6, 7, 8, 9, 25, 32])] false (((mk keep_Src_List.hs keep_Src_List.c []).atoms.getD 2 .bad).body) keep_Src_List.x2 L x).run _ some = keep_Src_List.f2 x.1.2.1 x.1.2.2.1 x.1.2.2.2.1 x.1.2.2.2.2.1 x.1.2.2.2.2.2.2.1 x.1.2.2.2.2.2.2.2.1 x.1.2.2.2.2.2.2.2.2.1 x.2.1.1 x.2.1.2.1 x.2.2.1 := by
  show _ = (_ : Option _)
  kernel_rfl
noncomputable def keep_Src_List.L2 : ((Unit × Int × Int × Int × Int × Unit × Int × Int × Bool × Unit) × (((List Int) × Int × Unit) × (List Int) × Unit)) → Option (((Unit × Int × Int × Int × Int × Unit × Int × Int × Bool × Unit) × (((List Int) × Int × Unit) × (List Int) × Unit)) ⊕ Empty) := fun x => keep_Src_List.f2 x.1.2.1 x.1.2.2.1 x.1.2.2.2.1 x.1.2.2.2.2.1 x.1.2.2.2.2.2.2.1 x.1.2.2.2.2.2.2.2.1 x.1.2.2.2.2.2.2.2.2.1 x.2.1.1 x.2.1.2.1 x.2.2.1
def keep_Src_List.f3 (n_1 : Int) (kind_5 : Int) (size_6 : Int) (x_7 : Int) (i_9 : Int) (v25 : Int) (v43 : Bool) (o0_0 : (List Int)) (o0_1 : Int) (o1 : List Int) : Option (((Unit × Int × Int × Int × Int × Unit × Int × Int × Bool × Unit) × (((List Int) × Int × Unit) × (List Int) × Unit)) ⊕ Empty) :=
  (bif v43 then
   (some (Sum.inl (((), (n_1, (kind_5, (size_6, (x_7, ((), (i_9, (v25, (v43, ()))))))))), ((o0_0, (o0_1, ())), (o1, ())))))
  else
   (some (Sum.inl (((), (n_1, (kind_5, (size_6, (x_7, ((), (i_9, (v25, ((v25 == (3:Int)), ()))))))))), ((o0_0, (o0_1, ())), (o1, ()))))))
theorem keep_Src_List.eq3 (g_keep_Src_N : keep_Src_N.sh.X → Option keep_Src_N.osh.X) (g_keep_Src_Pick : keep_Src_Pick.sh.X → Option keep_Src_Pick.osh.X) (g_keep_Src_Range : keep_Src_Range.sh.X → Option keep_Src_Range.osh.X) (g_keep_clip : keep_clip.sh.X → Option keep_clip.osh.X) (l0 : keep_Src_List.s0.X → Option (sumX keep_Src_List.x0)) (l1 : keep_Src_List.s1.X → Option (sumX keep_Src_List.x1)) (l2 : keep_Src_List.s2.X → Option (sumX keep_Src_List.x2)) (l3 : keep_Src_List.s3.X → Option (sumX keep_Src_List.x3)) (L : ((Unit × Int × Int × Int × Int × Unit × Int × Int × Bool × Unit) × (((List Int) × Int × Unit) × (List Int) × Unit)) → Option (((Unit × Int × Int × Int × Int × Unit × Int × Int × Bool × Unit) × (((List Int) × Int × Unit) × (List Int) × Unit)) ⊕ Empty)) (x : ((Unit × Int × Int × Int × Int × Unit × Int × Int × Bool × Unit) × (((List Int) × Int × Unit) × (List Int) × Unit))) : (roundK (keep_Src_List.E g_keep_Src_N g_keep_Src_Pick g_keep_Src_Range g_keep_clip l0 l1 l2 l3) keep_Src_List.s3 [0, 1, 5, 6, 7, 8, 9, 25, 43] [(0, [0, 1, 5, 6, 7, 8, 9, 25, 43])] false (((mk keep_Src_List.hs keep_Src_List.c []).atoms.getD 3 .bad).body) keep_Src_List.x3 L x).run _ some = keep_Src_List.f3 x.1.2.1 x.1.2.2.1 x.1.2.2.2.1 x.1.2.2.2.2.1 x.1.2.2.2.2.2.2.1 x.1.2.2.2.2.2.2.2.1 x.1.2.2.2.2.2.2.2.2.1 x.2.1.1 x.2.1.2.1 x.2.2.1 := by
  show _ = (_ : Option _)
  kernel_rfl
noncomputable def keep_Src_List.L3 : ((Unit × Int × Int × Int × Int × Unit × Int × Int × Bool × Unit) × (((List Int) × Int × Unit) × (List Int) × Unit)) → Option (((Unit × Int × Int × Int × Int × Unit × Int × Int × Bool × Unit) × (((List Int) × Int × Unit) × (List Int) × Unit)) ⊕ Empty) := fun x => keep_Src_List.f3 x.1.2.1 x.1.2.2.1 x.1.2.2.2.1 x.1.2.2.2.2.1 x.1.2.2.2.2.2.2.1 x.1.2.2.2.2.2.2.2.1 x.1.2.2.2.2.2.2.2.2.1 x.2.1.1 x.2.1.2.1 x.2.2.1
def keep_Src_List.f1 (g_keep_Src_N : ((Unit × Int × Unit) × (((List Int) × Int × Unit) × Unit)) → Option ((Int × Unit) × (((List Int) × Int × Unit) × Unit))) (g_keep_Src_Pick : ((Unit × (List Int) × Unit) × (((List Int) × Int × Unit) × Unit)) → Option ((Int × Unit) × (((List Int) × Int × Unit) × Unit))) (g_keep_Src_Range : ((Unit × Int × Int × Unit) × (((List Int) × Int × Unit) × Unit)) → Option ((Int × Unit) × (((List Int) × Int × Unit) × Unit))) (g_keep_clip : ((Int × Unit) × (Unit)) → Option ((Int × Unit) × (Unit))) (l2 : ((Unit × Int × Int × Int × Int × Unit × Int × Int × Bool × Unit) × (((List Int) × Int × Unit) × (List Int) × Unit)) → Option (((Unit × Int × Int × Int × Int × Unit × Int × Int × Bool × Unit) × (((List Int) × Int × Unit) × (List Int) × Unit)) ⊕ Empty)) (l3 : ((Unit × Int × Int × Int × Int × Unit × Int × Int × Bool × Unit) × (((List Int) × Int × Unit) × (List Int) × Unit)) → Option (((Unit × Int × Int × Int × Int × Unit × Int × Int × Bool × Unit) × (((List Int) × Int × Unit) × (List Int) × Unit)) ⊕ Empty)) (L : ((Unit × Int × Int × Int × Int × Unit × Int × Unit) × (((List Int) × Int × Unit) × (List Int) × Unit)) → Option (((Unit × Unit) × (((List Int) × Int × Unit) × (List Int) × Unit)) ⊕ Empty)) (n_1 : Int) (kind_5 : Int) (size_6 : Int) (x_7 : Int) (i_9 : Int) (o0_0 : (List Int)) (o0_1 : Int) (o1 : List Int) : Option (((Unit × Unit) × (((List Int) × Int × Unit) × (List Int) × Unit)) ⊕ Empty) :=
  (bif (decide (i_9 < n_1)) then
   (Option.bind (l2 (((), (n_1, (kind_5, (size_6, (x_7, ((), (i_9, (kind_5, ((kind_5 == (0:Int)), ()))))))))), ((o0_0, (o0_1, ())), (o1, ())))) (fun y1 =>
   (Sum.elim (fun a2 =>
    (bif a2.1.2.2.2.2.2.2.2.2.1 then
     (Option.bind (g_keep_Src_Range (((), ((Go.IntKind.wrap Go.IntKind.i64 ((0:Int) - a2.1.2.2.2.1)), (a2.1.2.2.2.1, ()))), ((a2.2.1.1, (a2.2.1.2.1, ())), ()))) (fun y4 =>
     (bif (decide ((((List.length a2.2.2.1) + (List.length [y4.1.1])) * (8:Nat)) ≤ (140737488355328:Nat))) then
      (Option.bind (L (((), (a2.1.2.1, (a2.1.2.2.1, (a2.1.2.2.2.1, (a2.1.2.2.2.2.1, ((), ((Go.IntKind.wrap Go.IntKind.i64 (a2.1.2.2.2.2.2.2.1 + (1:Int))), ()))))))), ((y4.2.1.1, (y4.2.1.2.1, ())), ((a2.2.2.1 ++ [y4.1.1]), ())))) (fun y6 =>
      (some y6)))
     else
      none)))
    else
     (Option.bind (l3 (((), (a2.1.2.1, (a2.1.2.2.1, (a2.1.2.2.2.1, (a2.1.2.2.2.2.1, ((), (a2.1.2.2.2.2.2.2.1, (a2.1.2.2.2.2.2.2.2.1, ((a2.1.2.2.2.2.2.2.2.1 == (2:Int)), ()))))))))), ((a2.2.1.1, (a2.2.1.2.1, ())), (a2.2.2.1, ())))) (fun y4 =>
     (Sum.elim (fun a5 =>
      (bif a5.1.2.2.2.2.2.2.2.2.1 then
       (Option.bind (g_keep_Src_Range (((), ((Go.IntKind.wrap Go.IntKind.i64 ((0:Int) - a5.1.2.2.2.1)), (a5.1.2.2.2.1, ()))), ((a5.2.1.1, (a5.2.1.2.1, ())), ()))) (fun y7 =>
       (Option.bind (g_keep_clip (((Go.IntKind.wrap Go.IntKind.i64 (a5.1.2.2.2.2.1 + y7.1.1)), ()), ())) (fun y8 =>
       (bif (decide ((((List.length a5.2.2.1) + (List.length [y8.1.1])) * (8:Nat)) ≤ (140737488355328:Nat))) then
        (Option.bind (L (((), (a5.1.2.1, (a5.1.2.2.1, (a5.1.2.2.2.1, (y8.1.1, ((), ((Go.IntKind.wrap Go.IntKind.i64 (a5.1.2.2.2.2.2.2.1 + (1:Int))), ()))))))), ((y7.2.1.1, (y7.2.1.2.1, ())), ((a5.2.2.1 ++ [y8.1.1]), ())))) (fun y10 =>
        (some y10)))
       else
        none)))))
      else
       (bif (a5.1.2.2.2.2.2.2.2.1 == (4:Int)) then
        (Option.bind (g_keep_Src_N (((), ((4:Int), ())), ((a5.2.1.1, (a5.2.1.2.1, ())), ()))) (fun y8 =>
        (bif (y8.1.1 == (0:Int)) then
         (Option.bind (g_keep_Src_Range (((), ((Go.IntKind.wrap Go.IntKind.i64 ((0:Int) - a5.1.2.2.2.1)), (a5.1.2.2.2.1, ()))), ((y8.2.1.1, (y8.2.1.2.1, ())), ()))) (fun y10 =>
         (bif (decide ((((List.length a5.2.2.1) + (List.length [y10.1.1])) * (8:Nat)) ≤ (140737488355328:Nat))) then
          (Option.bind (L (((), (a5.1.2.1, (a5.1.2.2.1, (a5.1.2.2.2.1, (y10.1.1, ((), ((Go.IntKind.wrap Go.IntKind.i64 (a5.1.2.2.2.2.2.2.1 + (1:Int))), ()))))))), ((y10.2.1.1, (y10.2.1.2.1, ())), ((a5.2.2.1 ++ [y10.1.1]), ())))) (fun y12 =>
          (some y12)))
         else
          none)))
        else
         (bif (decide ((((List.length a5.2.2.1) + (List.length [a5.1.2.2.2.2.1])) * (8:Nat)) ≤ (140737488355328:Nat))) then
          (Option.bind (L (((), (a5.1.2.1, (a5.1.2.2.1, (a5.1.2.2.2.1, (a5.1.2.2.2.2.1, ((), ((Go.IntKind.wrap Go.IntKind.i64 (a5.1.2.2.2.2.2.2.1 + (1:Int))), ()))))))), ((y8.2.1.1, (y8.2.1.2.1, ())), ((a5.2.2.1 ++ [a5.1.2.2.2.2.1]), ())))) (fun y11 =>
          (some y11)))
         else
          none))))
       else
        (Option.bind (g_keep_Src_Pick (((), ([(-(1000:Int)), (1000:Int), (1000:Int), (0:Int)], ())), ((a5.2.1.1, (a5.2.1.2.1, ())), ()))) (fun y8 =>
        (bif (decide ((((List.length a5.2.2.1) + (List.length [y8.1.1])) * (8:Nat)) ≤ (140737488355328:Nat))) then
         (Option.bind (L (((), (a5.1.2.1, (a5.1.2.2.1, (a5.1.2.2.2.1, (a5.1.2.2.2.2.1, ((), ((Go.IntKind.wrap Go.IntKind.i64 (a5.1.2.2.2.2.2.2.1 + (1:Int))), ()))))))), ((y8.2.1.1, (y8.2.1.2.1, ())), ((a5.2.2.1 ++ [y8.1.1]), ())))) (fun y10 =>
         (some y10)))
        else
         none)))))) (fun b5 =>
      (Empty.elim b5)) y4))))) (fun b2 =>
    (Empty.elim b2)) y1)))
  else
   (some (Sum.inl (((), ()), ((o0_0, (o0_1, ())), (o1, ()))))))
theorem keep_Src_List.eq1 (g_keep_Src_N : keep_Src_N.sh.X → Option keep_Src_N.osh.X) (g_keep_Src_Pick : keep_Src_Pick.sh.X → Option keep_Src_Pick.osh.X) (g_keep_Src_Range : keep_Src_Range.sh.X → Option keep_Src_Range.osh.X) (g_keep_clip : keep_clip.sh.X → Option keep_clip.osh.X) (l0 : keep_Src_List.s0.X → Option (sumX keep_Src_List.x0)) (l1 : keep_Src_List.s1.X → Option (sumX keep_Src_List.x1)) (l2 : keep_Src_List.s2.X → Option (sumX keep_Src_List.x2)) (l3 : keep_Src_List.s3.X → Option (sumX keep_Src_List.x3)) (L : ((Unit × Int × Int × Int × Int × Unit × Int × Unit) × (((List Int) × Int × Unit) × (List Int) × Unit)) → Option (((Unit × Unit) × (((List Int) × Int × Unit) × (List Int) × Unit)) ⊕ Empty)) (x : ((Unit × Int × Int × Int × Int × Unit × Int × Unit) × (((List Int) × Int × Unit) × (List Int) × Unit))) : (roundK (keep_Src_List.E g_keep_Src_N g_keep_Src_Pick g_keep_Src_Range g_keep_clip l0 l1 l2 l3) keep_Src_List.s1 [0, 1, 5, 6, 7, 8, 9] [(2, [8])] true (((mk keep_Src_List.hs keep_Src_List.c []).atoms.getD 1 .bad).body) keep_Src_List.x1 L x).run _ some = keep_Src_List.f1 g_keep_Src_N g_keep_Src_Pick g_keep_Src_Range g_keep_clip l2 l3 L x.1.2.1 x.1.2.2.1 x.1.2.2.2.1 x.1.2.2.2.2.1 x.1.2.2.2.2.2.2.1 x.2.1.1 x.2.1.2.1 x.2.2.1 := by
  show _ = (_ : Option _)
  kernel_rfl
noncomputable def keep_Src_List.L1 : ((Unit × Int × Int × Int × Int × Unit × Int × Unit) × (((List Int) × Int × Unit) × (List Int) × Unit)) → Option (((Unit × Unit) × (((List Int) × Int × Unit) × (List Int) × Unit)) ⊕ Empty) := loop fun L x => keep_Src_List.f1 keep_Src_N.F keep_Src_Pick.F keep_Src_Range.F keep_clip.F keep_Src_List.L2 keep_Src_List.L3 L x.1.2.1 x.1.2.2.1 x.1.2.2.2.1 x.1.2.2.2.2.1 x.1.2.2.2.2.2.2.1 x.2.1.1 x.2.1.2.1 x.2.2.1
def keep_Src_List.f (g_keep_Src_N : ((Unit × Int × Unit) × (((List Int) × Int × Unit) × Unit)) → Option ((Int × Unit) × (((List Int) × Int × Unit) × Unit))) (g_keep_Src_Pick : ((Unit × (List Int) × Unit) × (((List Int) × Int × Unit) × Unit)) → Option ((Int × Unit) × (((List Int) × Int × Unit) × Unit))) (l0 : ((Unit × Int × Int × Int × Int × Bool × Unit) × (((List Int) × Int × Unit) × Unit)) → Option (((Unit × Int × Int × Int × Int × Unit) × (((List Int) × Int × Unit) × Unit)) ⊕ Empty)) (l1 : ((Unit × Int × Int × Int × Int × Unit × Int × Unit) × (((List Int) × Int × Unit) × (List Int) × Unit)) → Option (((Unit × Unit) × (((List Int) × Int × Unit) × (List Int) × Unit)) ⊕ Empty)) (n : Int) (o0_0 : (List Int)) (o0_1 : Int) : Option ((Unit × Unit) × (((List Int) × Int × Unit) × (List Int) × Unit)) :=
  (Option.bind (g_keep_Src_N (((), ((6:Int), ())), ((o0_0, (o0_1, ())), ()))) (fun y0 =>
  (Option.bind (g_keep_Src_Pick (((), ([(1:Int), (3:Int), (10:Int), (100:Int), (1000:Int)], ())), ((y0.2.1.1, (y0.2.1.2.1, ())), ()))) (fun y1 =>
  (Option.bind (g_keep_Src_N (((), ((3:Int), ())), ((y1.2.1.1, (y1.2.1.2.1, ())), ()))) (fun y2 =>
  (Option.bind (l0 (((), (n, (y0.1.1, (y1.1.1, ((0:Int), ((y2.1.1 == (0:Int)), ())))))), ((y2.2.1.1, (y2.2.1.2.1, ())), ()))) (fun y3 =>
  (Sum.elim (fun a4 =>
   (Option.bind (l1 (((), (a4.1.2.1, (a4.1.2.2.1, (a4.1.2.2.2.1, (a4.1.2.2.2.2.1, ((), ((0:Int), ()))))))), ((a4.2.1.1, (a4.2.1.2.1, ())), (([] : List Int), ())))) (fun y5 =>
   (Sum.elim (fun a6 =>
    (some (((), ()), ((a6.2.1.1, (a6.2.1.2.1, ())), (a6.2.2.1, ()))))) (fun b6 =>
    (Empty.elim b6)) y5)))) (fun b4 =>
   (Empty.elim b4)) y3)))))))))
theorem keep_Src_List.eq (g_keep_Src_N : keep_Src_N.sh.X → Option keep_Src_N.osh.X) (g_keep_Src_Pick : keep_Src_Pick.sh.X → Option keep_Src_Pick.osh.X) (g_keep_Src_Range : keep_Src_Range.sh.X → Option keep_Src_Range.osh.X) (g_keep_clip : keep_clip.sh.X → Option keep_clip.osh.X) (l0 : keep_Src_List.s0.X → Option (sumX keep_Src_List.x0)) (l1 : keep_Src_List.s1.X → Option (sumX keep_Src_List.x1)) (l2 : keep_Src_List.s2.X → Option (sumX keep_Src_List.x2)) (l3 : keep_Src_List.s3.X → Option (sumX keep_Src_List.x3)) (x : ((Unit × Int × Unit) × (((List Int) × Int × Unit) × Unit))) : (bodyO (keep_Src_List.E g_keep_Src_N g_keep_Src_Pick g_keep_Src_Range g_keep_clip l0 l1 l2 l3) (mk keep_Src_List.hs keep_Src_List.c []) Go.Proofs.Tryd.f27.results.toList keep_Src_List.sh keep_Src_List.osh x).run _ some = keep_Src_List.f g_keep_Src_N g_keep_Src_Pick l0 l1 x.1.2.1 x.2.1.1 x.2.1.2.1 := by
  show _ = (_ : Option _)
  kernel_rfl
noncomputable def keep_Src_List (n : Int) (o0_0 : (List Int)) (o0_1 : Int) : Option ((Unit × Unit) × (((List Int) × Int × Unit) × (List Int) × Unit)) := keep_Src_List.f keep_Src_N.F keep_Src_Pick.F keep_Src_List.L0 keep_Src_List.L1 n o0_0 o0_1
noncomputable def keep_Src_List.F (x : ((Unit × Int × Unit) × (((List Int) × Int × Unit) × Unit))) : Option ((Unit × Unit) × (((List Int) × Int × Unit) × (List Int) × Unit)) := keep_Src_List x.1.2.1 x.2.1.1 x.2.1.2.1
theorem keep_Src_List.L0_eq (n_1 : Int) (kind_5 : Int) (size_6 : Int) (x_7 : Int) (v17 : Bool) (o0_0 : (List Int)) (o0_1 : Int) : keep_Src_List.L0 (((), n_1, kind_5, size_6, x_7, v17, ()), ((o0_0, o0_1, ()), ())) = keep_Src_List.f0 keep_Src_Range.F n_1 kind_5 size_6 x_7 v17 o0_0 o0_1 := rfl
theorem keep_Src_List.L1_eq (n_1 : Int) (kind_5 : Int) (size_6 : Int) (x_7 : Int) (i_9 : Int) (o0_0 : (List Int)) (o0_1 : Int) (o1 : List Int) : keep_Src_List.L1 (((), n_1, kind_5, size_6, x_7, (), i_9, ()), ((o0_0, o0_1, ()), o1, ())) = keep_Src_List.f1 keep_Src_N.F keep_Src_Pick.F keep_Src_Range.F keep_clip.F keep_Src_List.L2 keep_Src_List.L3 keep_Src_List.L1 n_1 kind_5 size_6 x_7 i_9 o0_0 o0_1 o1 :=
  loop_eq (E := (keep_Src_List.E keep_Src_N.F keep_Src_Pick.F keep_Src_Range.F keep_clip.F keep_Src_List.L0 keep_Src_List.L1 keep_Src_List.L2 keep_Src_List.L3)) (sh := keep_Src_List.s1) (es := keep_Src_List.x1) (lp := true) (H := fun L x => keep_Src_List.eq1 keep_Src_N.F keep_Src_Pick.F keep_Src_Range.F keep_clip.F keep_Src_List.L0 keep_Src_List.L1 keep_Src_List.L2 keep_Src_List.L3 L x) (((), n_1, kind_5, size_6, x_7, (), i_9, ()), ((o0_0, o0_1, ()), o1, ()))
theorem keep_Src_List.L2_eq (n_1 : Int) (kind_5 : Int) (size_6 : Int) (x_7 : Int) (i_9 : Int) (v25 : Int) (v32 : Bool) (o0_0 : (List Int)) (o0_1 : Int) (o1 : List Int) : keep_Src_List.L2 (((), n_1, kind_5, size_6, x_7, (), i_9, v25, v32, ()), ((o0_0, o0_1, ()), o1, ())) = keep_Src_List.f2 n_1 kind_5 size_6 x_7 i_9 v25 v32 o0_0 o0_1 o1 := rfl
theorem keep_Src_List.L3_eq (n_1 : Int) (kind_5 : Int) (size_6 : Int) (x_7 : Int) (i_9 : Int) (v25 : Int) (v43 : Bool) (o0_0 : (List Int)) (o0_1 : Int) (o1 : List Int) : keep_Src_List.L3 (((), n_1, kind_5, size_6, x_7, (), i_9, v25, v43, ()), ((o0_0, o0_1, ()), o1, ())) = keep_Src_List.f3 n_1 kind_5 size_6 x_7 i_9 v25 v43 o0_0 o0_1 o1 := rfl
theorem keep_Src_List.F_eq (n : Int) (o0_0 : (List Int)) (o0_1 : Int) : keep_Src_List.F (((), n, ()), ((o0_0, o0_1, ()), ())) = keep_Src_List.f keep_Src_N.F keep_Src_Pick.F keep_Src_List.L0 keep_Src_List.L1 n o0_0 o0_1 := rfl
theorem keep_Src_List.ok {tabs : List (Nat × Go.Obj)} (ht : TabsOk tabs) : FOK Go.Proofs.Tryd.prog tabs 27 (FE.of [true, true] true keep_Src_List.sh keep_Src_List.osh keep_Src_List.F) := by
  refine fn_keeps (E := (keep_Src_List.E keep_Src_N.F keep_Src_Pick.F keep_Src_Range.F keep_clip.F keep_Src_List.L0 keep_Src_List.L1 keep_Src_List.L2 keep_Src_List.L3)) (c := keep_Src_List.c) (fn := Go.Proofs.Tryd.f27) (hs := keep_Src_List.hs) (by kernel_rfl) Go.Proofs.Tryd.func27 ⟨by kernel_rfl, by kernel_rfl, tb, by kernel_rfl, by kernel_rfl, by kernel_rfl, by kernel_rfl, by kernel_rfl⟩ ⟨fun g ks fe h => ?_, gt_ok ht⟩ ?_ (fun x => keep_Src_List.eq keep_Src_N.F keep_Src_Pick.F keep_Src_Range.F keep_clip.F keep_Src_List.L0 keep_Src_List.L1 keep_Src_List.L2 keep_Src_List.L3 x)
  · rcases c_cons h with ⟨rfl, rfl⟩ | h
    · exact keep_Src_N.ok ht
    rcases c_cons h with ⟨rfl, rfl⟩ | h
    · exact keep_Src_Pick.ok ht
    rcases c_cons h with ⟨rfl, rfl⟩ | h
    · exact keep_Src_Range.ok ht
    rcases c_cons h with ⟨rfl, rfl⟩ | h
    · exact keep_clip.ok ht
    cases h
  · refine known_at 4 (by kernel_rfl) fun i hi => ?_
    match i, hi with
    | 0, _ => exact atom_at (id := 0) (live := [0, 1, 5, 6, 7, 17]) (outs := [(0, [0, 1, 5, 6, 7])]) (loop := false) (by kernel_rfl) (cut_ok (E := (keep_Src_List.E keep_Src_N.F keep_Src_Pick.F keep_Src_Range.F keep_clip.F keep_Src_List.L0 keep_Src_List.L1 keep_Src_List.L2 keep_Src_List.L3)) (sh := keep_Src_List.s0) (es := keep_Src_List.x0) rfl (fun L x => keep_Src_List.eq0 keep_Src_N.F keep_Src_Pick.F keep_Src_Range.F keep_clip.F keep_Src_List.L0 keep_Src_List.L1 keep_Src_List.L2 keep_Src_List.L3 L x))
    | 1, _ => exact atom_at (id := 1) (live := [0, 1, 5, 6, 7, 8, 9]) (outs := [(2, [8])]) (loop := true) (by kernel_rfl) (loop_ok (E := (keep_Src_List.E keep_Src_N.F keep_Src_Pick.F keep_Src_Range.F keep_clip.F keep_Src_List.L0 keep_Src_List.L1 keep_Src_List.L2 keep_Src_List.L3)) (sh := keep_Src_List.s1) (es := keep_Src_List.x1) rfl (fun L x => keep_Src_List.eq1 keep_Src_N.F keep_Src_Pick.F keep_Src_Range.F keep_clip.F keep_Src_List.L0 keep_Src_List.L1 keep_Src_List.L2 keep_Src_List.L3 L x))
    | 2, _ => exact atom_at (id := 2) (live := [0, 1, 5, 6, 7, 8, 9, 25, 32]) (outs := [(0, [0, 1, 5, 6, 7, 8, 9, 25, 32])]) (loop := false) (by kernel_rfl) (cut_ok (E := (keep_Src_List.E keep_Src_N.F keep_Src_Pick.F keep_Src_Range.F keep_clip.F keep_Src_List.L0 keep_Src_List.L1 keep_Src_List.L2 keep_Src_List.L3)) (sh := keep_Src_List.s2) (es := keep_Src_List.x2) rfl (fun L x => keep_Src_List.eq2 keep_Src_N.F keep_Src_Pick.F keep_Src_Range.F keep_clip.F keep_Src_List.L0 keep_Src_List.L1 keep_Src_List.L2 keep_Src_List.L3 L x))
    | 3, _ => exact atom_at (id := 3) (live := [0, 1, 5, 6, 7, 8, 9, 25, 43]) (outs := [(0, [0, 1, 5, 6, 7, 8, 9, 25, 43])]) (loop := false) (by kernel_rfl) (cut_ok (E := (keep_Src_List.E keep_Src_N.F keep_Src_Pick.F keep_Src_Range.F keep_clip.F keep_Src_List.L0 keep_Src_List.L1 keep_Src_List.L2 keep_Src_List.L3)) (sh := keep_Src_List.s3) (es := keep_Src_List.x3) rfl (fun L x => keep_Src_List.eq3 keep_Src_N.F keep_Src_Pick.F keep_Src_Range.F keep_clip.F keep_Src_List.L0 keep_Src_List.L1 keep_Src_List.L2 keep_Src_List.L3 L x))
    | n + 4, h => exact absurd h (by omega)

/-! keep_Src_Near -/
def keep_Src_Near.f0 (g_keep_Src_Range : ((Unit × Int × Int × Unit) × (((List Int) × Int × Unit) × Unit)) → Option ((Int × Unit) × (((List Int) × Int × Unit) × Unit))) (g_keep_clip : ((Int × Unit) × (Unit)) → Option ((Int × Unit) × (Unit))) (g_keep_Mod : ((Int × Int × Unit) × (Unit)) → Option ((Int × Unit) × (Unit))) (L : ((Unit × (List Int) × Int × Int × Int × Unit × Int × Int × Unit) × (((List Int) × Int × Unit) × (List Int) × Unit)) → Option (((Unit × Unit) × (((List Int) × Int × Unit) × (List Int) × Unit)) ⊕ Empty)) (x_1 : (List Int)) (kind_5 : Int) (by_6 : Int) (k_7 : Int) (v20 : Int) (v21 : Int) (o0_0 : (List Int)) (o0_1 : Int) (o1 : List Int) : Option (((Unit × Unit) × (((List Int) × Int × Unit) × (List Int) × Unit)) ⊕ Empty) :=
  (bif (decide (v21 < v20)) then
   (bif (kind_5 == (1:Int)) then
    (bif (decide ((0:Int) ≤ v21)) then
     (bif (decide (v21 < (((List.length o1) : Nat) : Int))) then
      (Option.bind (g_keep_Src_Range (((), ((-(2:Int)), ((2:Int), ()))), ((o0_0, (o0_1, ())), ()))) (fun y4 =>
      (Option.bind (g_keep_clip (((Go.IntKind.wrap Go.IntKind.i64 ((List.getD o1 (Int.toNat v21) (0:Int)) + y4.1.1)), ()), ())) (fun y5 =>
      (bif (decide ((0:Int) ≤ v21)) then
       (bif (decide (v21 < (((List.length o1) : Nat) : Int))) then
        (Option.bind (L (((), (x_1, (kind_5, (by_6, (k_7, ((), (v20, ((Go.IntKind.wrap Go.IntKind.i64 (v21 + (1:Int))), ())))))))), ((y4.2.1.1, (y4.2.1.2.1, ())), ((List.set o1 (Int.toNat v21) y5.1.1), ())))) (fun y8 =>
        (some y8)))
       else
        none)
      else
       none)))))
     else
      none)
    else
     none)
   else
    (bif (kind_5 == (2:Int)) then
     (bif (decide ((0:Int) ≤ v21)) then
      (bif (decide (v21 < (((List.length o1) : Nat) : Int))) then
       (Option.bind (g_keep_clip (((Go.IntKind.wrap Go.IntKind.i64 ((List.getD o1 (Int.toNat v21) (0:Int)) + by_6)), ()), ())) (fun y5 =>
       (bif (decide ((0:Int) ≤ v21)) then
        (bif (decide (v21 < (((List.length o1) : Nat) : Int))) then
         (Option.bind (L (((), (x_1, (kind_5, (by_6, (k_7, ((), (v20, ((Go.IntKind.wrap Go.IntKind.i64 (v21 + (1:Int))), ())))))))), ((o0_0, (o0_1, ())), ((List.set o1 (Int.toNat v21) y5.1.1), ())))) (fun y8 =>
         (some y8)))
        else
         none)
       else
        none)))
      else
       none)
     else
      none)
    else
     (bif (kind_5 == (3:Int)) then
      (bif (decide ((0:Int) ≤ v21)) then
       (bif (decide (v21 < (((List.length o1) : Nat) : Int))) then
        (Option.bind (g_keep_clip (((Go.IntKind.wrap Go.IntKind.i64 ((Go.IntKind.wrap Go.IntKind.i64 ((List.getD o1 (Int.toNat v21) (0:Int)) * k_7)) + by_6)), ()), ())) (fun y6 =>
        (bif (decide ((0:Int) ≤ v21)) then
         (bif (decide (v21 < (((List.length o1) : Nat) : Int))) then
          (Option.bind (L (((), (x_1, (kind_5, (by_6, (k_7, ((), (v20, ((Go.IntKind.wrap Go.IntKind.i64 (v21 + (1:Int))), ())))))))), ((o0_0, (o0_1, ())), ((List.set o1 (Int.toNat v21) y6.1.1), ())))) (fun y9 =>
          (some y9)))
         else
          none)
        else
         none)))
       else
        none)
      else
       none)
     else
      (bif (kind_5 == (4:Int)) then
       (bif (decide ((0:Int) ≤ (Go.IntKind.wrap Go.IntKind.i64 ((Go.IntKind.wrap Go.IntKind.i64 ((((List.length x_1) : Nat) : Int) - (1:Int))) - v21)))) then
        (bif (decide ((Go.IntKind.wrap Go.IntKind.i64 ((Go.IntKind.wrap Go.IntKind.i64 ((((List.length x_1) : Nat) : Int) - (1:Int))) - v21)) < (((List.length x_1) : Nat) : Int))) then
         (bif (decide ((0:Int) ≤ v21)) then
          (bif (decide (v21 < (((List.length o1) : Nat) : Int))) then
           (Option.bind (L (((), (x_1, (kind_5, (by_6, (k_7, ((), (v20, ((Go.IntKind.wrap Go.IntKind.i64 (v21 + (1:Int))), ())))))))), ((o0_0, (o0_1, ())), ((List.set o1 (Int.toNat v21) (List.getD x_1 (Int.toNat (Go.IntKind.wrap Go.IntKind.i64 ((Go.IntKind.wrap Go.IntKind.i64 ((((List.length x_1) : Nat) : Int) - (1:Int))) - v21))) (0:Int))), ())))) (fun y9 =>
           (some y9)))
          else
           none)
         else
          none)
        else
         none)
       else
        none)
      else
       (bif (kind_5 == (5:Int)) then
        (Option.bind (g_keep_Src_Range (((), ((-(1:Int)), ((1:Int), ()))), ((o0_0, (o0_1, ())), ()))) (fun y6 =>
        (Option.bind (g_keep_Mod (((Go.IntKind.wrap Go.IntKind.i64 (v21 + y6.1.1)), ((((List.length x_1) : Nat) : Int), ())), ())) (fun y7 =>
        (bif (decide ((0:Int) ≤ y7.1.1)) then
         (bif (decide (y7.1.1 < (((List.length x_1) : Nat) : Int))) then
          (bif (decide ((0:Int) ≤ v21)) then
           (bif (decide (v21 < (((List.length o1) : Nat) : Int))) then
            (Option.bind (L (((), (x_1, (kind_5, (by_6, (k_7, ((), (v20, ((Go.IntKind.wrap Go.IntKind.i64 (v21 + (1:Int))), ())))))))), ((y6.2.1.1, (y6.2.1.2.1, ())), ((List.set o1 (Int.toNat v21) (List.getD x_1 (Int.toNat y7.1.1) (0:Int))), ())))) (fun y12 =>
            (some y12)))
           else
            none)
          else
           none)
         else
          none)
        else
         none)))))
       else
        (bif (kind_5 == (6:Int)) then
         (bif (decide ((0:Int) ≤ v21)) then
          (bif (decide (v21 < (((List.length o1) : Nat) : Int))) then
           (Option.bind (g_keep_clip (((Go.IntKind.wrap Go.IntKind.i64 (by_6 - (Go.IntKind.wrap Go.IntKind.i64 ((List.getD o1 (Int.toNat v21) (0:Int)) * k_7)))), ()), ())) (fun y9 =>
           (bif (decide ((0:Int) ≤ v21)) then
            (bif (decide (v21 < (((List.length o1) : Nat) : Int))) then
             (Option.bind (L (((), (x_1, (kind_5, (by_6, (k_7, ((), (v20, ((Go.IntKind.wrap Go.IntKind.i64 (v21 + (1:Int))), ())))))))), ((o0_0, (o0_1, ())), ((List.set o1 (Int.toNat v21) y9.1.1), ())))) (fun y12 =>
             (some y12)))
            else
             none)
           else
            none)))
          else
           none)
         else
          none)
        else
         (Option.bind (L (((), (x_1, (kind_5, (by_6, (k_7, ((), (v20, ((Go.IntKind.wrap Go.IntKind.i64 (v21 + (1:Int))), ())))))))), ((o0_0, (o0_1, ())), (o1, ())))) (fun y7 =>
         (some y7)))))))))
  else
   (some (Sum.inl (((), ()), ((o0_0, (o0_1, ())), (o1, ()))))))
theorem keep_Src_Near.eq0 (g_keep_Src_N : keep_Src_N.sh.X → Option keep_Src_N.osh.X) (g_keep_Src_Range : keep_Src_Range.sh.X → Option keep_Src_Range.osh.X) (g_keep_clip : keep_clip.sh.X → Option keep_clip.osh.X) (g_keep_Mod : keep_Mod.sh.X → Option keep_Mod.osh.X) (l0 : keep_Src_Near.s0.X → Option (sumX keep_Src_Near.x0)) (L : ((Unit × (List Int) × Int × Int × Int × Unit × Int × Int × Unit) × (((List Int) × Int × Unit) × (List Int) × Unit)) → Option (((Unit × Unit) × (((List Int) × Int × Unit) × (List Int) × Unit)) ⊕ Empty)) (x : ((Unit × (List Int) × Int × Int × Int × Unit × Int × Int × Unit) × (((List Int) × Int × Unit) × (List Int) × Unit))) : (roundK (keep_Src_Near.E g_keep_Src_N g_keep_Src_Range g_keep_clip g_keep_Mod l0) keep_Src_Near.s0 [0, 1, 5, 6, 7, 8, 20, 21] [(2, [8])] true (((mk keep_Src_Near.hs keep_Src_Near.c []).atoms.getD 0 .bad).body) keep_Src_Near.x0 L x).run _ some = keep_Src_Near.f0 g_keep_Src_Range g_keep_clip g_keep_Mod L x.1.2.1 x.1.2.2.1 x.1.2.2.2.1 x.1.2.2.2.2.1 x.1.2.2.2.2.2.2.1 x.1.2.2.2.2.2.2.2.1 x.2.1.1 x.2.1.2.1 x.2.2.1 := by
  show _ = (_ : Option _)
  kernel_rfl
noncomputable def keep_Src_Near.L0 : ((Unit × (List Int) × Int × Int × Int × Unit × Int × Int × Unit) × (((List Int) × Int × Unit) × (List Int) × Unit)) → Option (((Unit × Unit) × (((List Int) × Int × Unit) × (List Int) × Unit)) ⊕ Empty) := loop fun L x => keep_Src_Near.f0 keep_Src_Range.F keep_clip.F keep_Mod.F L x.1.2.1 x.1.2.2.1 x.1.2.2.2.1 x.1.2.2.2.2.1 x.1.2.2.2.2.2.2.1 x.1.2.2.2.2.2.2.2.1 x.2.1.1 x.2.1.2.1 x.2.2.1
def keep_Src_Near.f (g_keep_Src_N : ((Unit × Int × Unit) × (((List Int) × Int × Unit) × Unit)) → Option ((Int × Unit) × (((List Int) × Int × Unit) × Unit))) (g_keep_Src_Range : ((Unit × Int × Int × Unit) × (((List Int) × Int × Unit) × Unit)) → Option ((Int × Unit) × (((List Int) × Int × Unit) × Unit))) (l0 : ((Unit × (List Int) × Int × Int × Int × Unit × Int × Int × Unit) × (((List Int) × Int × Unit) × (List Int) × Unit)) → Option (((Unit × Unit) × (((List Int) × Int × Unit) × (List Int) × Unit)) ⊕ Empty)) (x_ : (List Int)) (o0_0 : (List Int)) (o0_1 : Int) : Option ((Unit × Unit) × (((List Int) × Int × Unit) × (List Int) × Unit)) :=
  (Option.bind (g_keep_Src_N (((), ((7:Int), ())), ((o0_0, (o0_1, ())), ()))) (fun y0 =>
  (Option.bind (g_keep_Src_Range (((), ((-(20:Int)), ((20:Int), ()))), ((y0.2.1.1, (y0.2.1.2.1, ())), ()))) (fun y1 =>
  (Option.bind (g_keep_Src_Range (((), ((1:Int), ((3:Int), ()))), ((y1.2.1.1, (y1.2.1.2.1, ())), ()))) (fun y2 =>
  (bif (decide ((((List.length ([] : List Int)) + (List.length x_)) * (8:Nat)) ≤ (140737488355328:Nat))) then
   (Option.bind (l0 (((), (x_, (y0.1.1, (y1.1.1, (y2.1.1, ((), ((((List.length (([] : List Int) ++ x_)) : Nat) : Int), ((0:Int), ())))))))), ((y2.2.1.1, (y2.2.1.2.1, ())), ((([] : List Int) ++ x_), ())))) (fun y4 =>
   (Sum.elim (fun a5 =>
    (some (((), ()), ((a5.2.1.1, (a5.2.1.2.1, ())), (a5.2.2.1, ()))))) (fun b5 =>
    (Empty.elim b5)) y4)))
  else
   none)))))))
theorem keep_Src_Near.eq (g_keep_Src_N : keep_Src_N.sh.X → Option keep_Src_N.osh.X) (g_keep_Src_Range : keep_Src_Range.sh.X → Option keep_Src_Range.osh.X) (g_keep_clip : keep_clip.sh.X → Option keep_clip.osh.X) (g_keep_Mod : keep_Mod.sh.X → Option keep_Mod.osh.X) (l0 : keep_Src_Near.s0.X → Option (sumX keep_Src_Near.x0)) (x : ((Unit × (List Int) × Unit) × (((List Int) × Int × Unit) × Unit))) : (bodyO (keep_Src_Near.E g_keep_Src_N g_keep_Src_Range g_keep_clip g_keep_Mod l0) (mk keep_Src_Near.hs keep_Src_Near.c []) Go.Proofs.Tryd.f29.results.toList keep_Src_Near.sh keep_Src_Near.osh x).run _ some = keep_Src_Near.f g_keep_Src_N g_keep_Src_Range l0 x.1.2.1 x.2.1.1 x.2.1.2.1 := by
  show _ = (_ : Option _)
  kernel_rfl
noncomputable def keep_Src_Near (x_ : (List Int)) (o0_0 : (List Int)) (o0_1 : Int) : Option ((Unit × Unit) × (((List Int) × Int × Unit) × (List Int) × Unit)) := keep_Src_Near.f keep_Src_N.F keep_Src_Range.F keep_Src_Near.L0 x_ o0_0 o0_1
noncomputable def keep_Src_Near.F (x : ((Unit × (List Int) × Unit) × (((List Int) × Int × Unit) × Unit))) : Option ((Unit × Unit) × (((List Int) × Int × Unit) × (List Int) × Unit)) := keep_Src_Near x.1.2.1 x.2.1.1 x.2.1.2.1
theorem keep_Src_Near.L0_eq (x_1 : (List Int)) (kind_5 : Int) (by_6 : Int) (k_7 : Int) (v20 : Int) (v21 : Int) (o0_0 : (List Int)) (o0_1 : Int) (o1 : List Int) : keep_Src_Near.L0 (((), x_1, kind_5, by_6, k_7, (), v20, v21, ()), ((o0_0, o0_1, ()), o1, ())) = keep_Src_Near.f0 keep_Src_Range.F keep_clip.F keep_Mod.F keep_Src_Near.L0 x_1 kind_5 by_6 k_7 v20 v21 o0_0 o0_1 o1 :=
  loop_eq (E := (keep_Src_Near.E keep_Src_N.F keep_Src_Range.F keep_clip.F keep_Mod.F keep_Src_Near.L0)) (sh := keep_Src_Near.s0) (es := keep_Src_Near.x0) (lp := true) (H := fun L x => keep_Src_Near.eq0 keep_Src_N.F keep_Src_Range.F keep_clip.F keep_Mod.F keep_Src_Near.L0 L x) (((), x_1, kind_5, by_6, k_7, (), v20, v21, ()), ((o0_0, o0_1, ()), o1, ()))
theorem keep_Src_Near.F_eq (x_ : (List Int)) (o0_0 : (List Int)) (o0_1 : Int) : keep_Src_Near.F (((), x_, ()), ((o0_0, o0_1, ()), ())) = keep_Src_Near.f keep_Src_N.F keep_Src_Range.F keep_Src_Near.L0 x_ o0_0 o0_1 := rfl
theorem keep_Src_Near.ok {tabs : List (Nat × Go.Obj)} (ht : TabsOk tabs) : FOK Go.Proofs.Tryd.prog tabs 29 (FE.of [true, true] true keep_Src_Near.sh keep_Src_Near.osh keep_Src_Near.F) := by
  refine fn_keeps (E := (keep_Src_Near.E keep_Src_N.F keep_Src_Range.F keep_clip.F keep_Mod.F keep_Src_Near.L0)) (c := keep_Src_Near.c) (fn := Go.Proofs.Tryd.f29) (hs := keep_Src_Near.hs) (by kernel_rfl) Go.Proofs.Tryd.func29 ⟨by kernel_rfl, by kernel_rfl, tb, by kernel_rfl, by kernel_rfl, by kernel_rfl, by kernel_rfl, by kernel_rfl⟩ ⟨fun g ks fe h => ?_, gt_ok ht⟩ ?_ (fun x => keep_Src_Near.eq keep_Src_N.F keep_Src_Range.F keep_clip.F keep_Mod.F keep_Src_Near.L0 x)
  · rcases c_cons h with ⟨rfl, rfl⟩ | h
    · exact keep_Src_N.ok ht
    rcases c_cons h with ⟨rfl, rfl⟩ | h
    · exact keep_Src_Range.ok ht
    rcases c_cons h with ⟨rfl, rfl⟩ | h
    · exact keep_clip.ok ht
    rcases c_cons h with ⟨rfl, rfl⟩ | h
    · exact keep_Mod.ok ht
    cases h
  · refine known_at 1 (by kernel_rfl) fun i hi => ?_
    match i, hi with
    | 0, _ => exact atom_at (id := 0) (live := [0, 1, 5, 6, 7, 8, 20, 21]) (outs := [(2, [8])]) (loop := true) (by kernel_rfl) (loop_ok (E := (keep_Src_Near.E keep_Src_N.F keep_Src_Range.F keep_clip.F keep_Mod.F keep_Src_Near.L0)) (sh := keep_Src_Near.s0) (es := keep_Src_Near.x0) rfl (fun L x => keep_Src_Near.eq0 keep_Src_N.F keep_Src_Range.F keep_clip.F keep_Mod.F keep_Src_Near.L0 L x))
    | n + 1, h => exact absurd h (by omega)

/-! keep_Src_Pair -/
def keep_Src_Pair.f (g_keep_Src_Length : ((Unit × Unit) × (((List Int) × Int × Unit) × Unit)) → Option ((Int × Unit) × (((List Int) × Int × Unit) × Unit))) (g_keep_Src_List : ((Unit × Int × Unit) × (((List Int) × Int × Unit) × Unit)) → Option ((Unit × Unit) × (((List Int) × Int × Unit) × (List Int) × Unit))) (g_keep_Src_N : ((Unit × Int × Unit) × (((List Int) × Int × Unit) × Unit)) → Option ((Int × Unit) × (((List Int) × Int × Unit) × Unit))) (g_keep_Src_Near : ((Unit × (List Int) × Unit) × (((List Int) × Int × Unit) × Unit)) → Option ((Unit × Unit) × (((List Int) × Int × Unit) × (List Int) × Unit))) (o0_0 : (List Int)) (o0_1 : Int) : Option (((List Int) × Unit × Unit) × (((List Int) × Int × Unit) × (List Int) × Unit)) :=
  (Option.bind (g_keep_Src_Length (((), ()), ((o0_0, (o0_1, ())), ()))) (fun y0 =>
  (Option.bind (g_keep_Src_List (((), (y0.1.1, ())), ((y0.2.1.1, (y0.2.1.2.1, ())), ()))) (fun y1 =>
  (Option.bind (g_keep_Src_N (((), ((3:Int), ())), ((y1.2.1.1, (y1.2.1.2.1, ())), ()))) (fun y2 =>
  (bif (y2.1.1 == (0:Int)) then
   (Option.bind (g_keep_Src_List (((), ((((List.length y1.2.2.1) : Nat) : Int), ())), ((y2.2.1.1, (y2.2.1.2.1, ())), ()))) (fun y4 =>
   (some ((y1.2.2.1, ((), ())), ((y4.2.1.1, (y4.2.1.2.1, ())), (y4.2.2.1, ()))))))
  else
   (Option.bind (g_keep_Src_Near (((), (y1.2.2.1, ())), ((y2.2.1.1, (y2.2.1.2.1, ())), ()))) (fun y4 =>
   (some ((y1.2.2.1, ((), ())), ((y4.2.1.1, (y4.2.1.2.1, ())), (y4.2.2.1, ())))))))))))))
theorem keep_Src_Pair.eq (g_keep_Src_Length : keep_Src_Length.sh.X → Option keep_Src_Length.osh.X) (g_keep_Src_List : keep_Src_List.sh.X → Option keep_Src_List.osh.X) (g_keep_Src_N : keep_Src_N.sh.X → Option keep_Src_N.osh.X) (g_keep_Src_Near : keep_Src_Near.sh.X → Option keep_Src_Near.osh.X) (x : ((Unit × Unit) × (((List Int) × Int × Unit) × Unit))) : (bodyO (keep_Src_Pair.E g_keep_Src_Length g_keep_Src_List g_keep_Src_N g_keep_Src_Near) (mk keep_Src_Pair.hs keep_Src_Pair.c []) Go.Proofs.Tryd.f14.results.toList keep_Src_Pair.sh keep_Src_Pair.osh x).run _ some = keep_Src_Pair.f g_keep_Src_Length g_keep_Src_List g_keep_Src_N g_keep_Src_Near x.2.1.1 x.2.1.2.1 := by
  show _ = (_ : Option _)
  kernel_rfl
noncomputable def keep_Src_Pair (o0_0 : (List Int)) (o0_1 : Int) : Option (((List Int) × Unit × Unit) × (((List Int) × Int × Unit) × (List Int) × Unit)) := keep_Src_Pair.f keep_Src_Length.F keep_Src_List.F keep_Src_N.F keep_Src_Near.F o0_0 o0_1
noncomputable def keep_Src_Pair.F (x : ((Unit × Unit) × (((List Int) × Int × Unit) × Unit))) : Option (((List Int) × Unit × Unit) × (((List Int) × Int × Unit) × (List Int) × Unit)) := keep_Src_Pair x.2.1.1 x.2.1.2.1
theorem keep_Src_Pair.F_eq (o0_0 : (List Int)) (o0_1 : Int) : keep_Src_Pair.F (((), ()), ((o0_0, o0_1, ()), ())) = keep_Src_Pair.f keep_Src_Length.F keep_Src_List.F keep_Src_N.F keep_Src_Near.F o0_0 o0_1 := rfl
theorem keep_Src_Pair.ok {tabs : List (Nat × Go.Obj)} (ht : TabsOk tabs) : FOK Go.Proofs.Tryd.prog tabs 14 (FE.of [true] true keep_Src_Pair.sh keep_Src_Pair.osh keep_Src_Pair.F) := by
  refine fn_keeps (E := (keep_Src_Pair.E keep_Src_Length.F keep_Src_List.F keep_Src_N.F keep_Src_Near.F)) (c := keep_Src_Pair.c) (fn := Go.Proofs.Tryd.f14) (hs := keep_Src_Pair.hs) (by kernel_rfl) Go.Proofs.Tryd.func14 ⟨by kernel_rfl, by kernel_rfl, tb, by kernel_rfl, by kernel_rfl, by kernel_rfl, by kernel_rfl, by kernel_rfl⟩ ⟨fun g ks fe h => ?_, gt_ok ht⟩ ?_ (fun x => keep_Src_Pair.eq keep_Src_Length.F keep_Src_List.F keep_Src_N.F keep_Src_Near.F x)
  · rcases c_cons h with ⟨rfl, rfl⟩ | h
    · exact keep_Src_Length.ok ht
    rcases c_cons h with ⟨rfl, rfl⟩ | h
    · exact keep_Src_List.ok ht
    rcases c_cons h with ⟨rfl, rfl⟩ | h
    · exact keep_Src_N.ok ht
    rcases c_cons h with ⟨rfl, rfl⟩ | h
    · exact keep_Src_Near.ok ht
    cases h
  · exact known_at 0 (by kernel_rfl) fun i hi => absurd hi (Nat.not_lt_zero i)

/-! ref01_common -/
def ref01_common.f0 (L : ((Int × Int × Unit) × (Unit)) → Option (((Int × Unit) × (Unit)) ⊕ Empty)) (a_0 : Int) (b_1 : Int) : Option (((Int × Unit) × (Unit)) ⊕ Empty) :=
  (bif (decide (b_1 > (0:Int))) then
   (bif (!(decide (b_1 = (0:Int)))) then
    (Option.bind (L ((b_1, ((Int.tmod a_0 b_1), ())), ())) (fun y2 =>
    (some y2)))
   else
    none)
  else
   (some (Sum.inl ((a_0, ()), ()))))
theorem ref01_common.eq0 (l0 : ref01_common.s0.X → Option (sumX ref01_common.x0)) (L : ((Int × Int × Unit) × (Unit)) → Option (((Int × Unit) × (Unit)) ⊕ Empty)) (x : ((Int × Int × Unit) × (Unit))) : (roundK (ref01_common.E l0) ref01_common.s0 [0, 1] [(2, [0])] true (((mk ref01_common.hs ref01_common.c []).atoms.getD 0 .bad).body) ref01_common.x0 L x).run _ some = ref01_common.f0 L x.1.1 x.1.2.1 := by
  show _ = (_ : Option _)
  kernel_rfl
noncomputable def ref01_common.L0 : ((Int × Int × Unit) × (Unit)) → Option (((Int × Unit) × (Unit)) ⊕ Empty) := loop fun L x => ref01_common.f0 L x.1.1 x.1.2.1
def ref01_common.f (l0 : ((Int × Int × Unit) × (Unit)) → Option (((Int × Unit) × (Unit)) ⊕ Empty)) (a : Int) (b : Int) : Option ((Int × Unit) × (Unit)) :=
  (Option.bind (l0 ((a, (b, ())), ())) (fun y0 =>
  (Sum.elim (fun a1 =>
   (some ((a1.1.1, ()), ()))) (fun b1 =>
   (Empty.elim b1)) y0)))
theorem ref01_common.eq (l0 : ref01_common.s0.X → Option (sumX ref01_common.x0)) (x : ((Int × Int × Unit) × (Unit))) : (bodyO (ref01_common.E l0) (mk ref01_common.hs ref01_common.c []) Go.Proofs.Tryd.f26.results.toList ref01_common.sh ref01_common.osh x).run _ some = ref01_common.f l0 x.1.1 x.1.2.1 := by
  show _ = (_ : Option _)
  kernel_rfl
noncomputable def ref01_common (a : Int) (b : Int) : Option ((Int × Unit) × (Unit)) := ref01_common.f ref01_common.L0 a b
noncomputable def ref01_common.F (x : ((Int × Int × Unit) × (Unit))) : Option ((Int × Unit) × (Unit)) := ref01_common x.1.1 x.1.2.1
theorem ref01_common.L0_eq (a_0 : Int) (b_1 : Int) : ref01_common.L0 ((a_0, b_1, ()), ()) = ref01_common.f0 ref01_common.L0 a_0 b_1 :=
  loop_eq (E := (ref01_common.E ref01_common.L0)) (sh := ref01_common.s0) (es := ref01_common.x0) (lp := true) (H := fun L x => ref01_common.eq0 ref01_common.L0 L x) ((a_0, b_1, ()), ())
theorem ref01_common.F_eq (a : Int) (b : Int) : ref01_common.F ((a, b, ()), ()) = ref01_common.f ref01_common.L0 a b := rfl
theorem ref01_common.ok {tabs : List (Nat × Go.Obj)} (ht : TabsOk tabs) : FOK Go.Proofs.Tryd.prog tabs 26 (FE.of [true, true] false ref01_common.sh ref01_common.osh ref01_common.F) := by
  refine fn_keeps (E := (ref01_common.E ref01_common.L0)) (c := ref01_common.c) (fn := Go.Proofs.Tryd.f26) (hs := ref01_common.hs) (by kernel_rfl) Go.Proofs.Tryd.func26 ⟨by kernel_rfl, by kernel_rfl, tb, by kernel_rfl, by kernel_rfl, by kernel_rfl, by kernel_rfl, by kernel_rfl⟩ ⟨fun g ks fe h => ?_, gt_ok ht⟩ ?_ (fun x => ref01_common.eq ref01_common.L0 x)
  · cases h
  · refine known_at 1 (by kernel_rfl) fun i hi => ?_
    match i, hi with
    | 0, _ => exact atom_at (id := 0) (live := [0, 1]) (outs := [(2, [0])]) (loop := true) (by kernel_rfl) (loop_ok (E := (ref01_common.E ref01_common.L0)) (sh := ref01_common.s0) (es := ref01_common.x0) rfl (fun L x => ref01_common.eq0 ref01_common.L0 L x))
    | n + 1, h => exact absurd h (by omega)

/-! ref01_Valid -/
def ref01_Valid.f0 (g_ref01_common : ((Int × Int × Unit) × (Unit)) → Option ((Int × Unit) × (Unit))) (o0_0 : Int) (o0_1 : Int) : Option (((Bool × Unit) × (Unit)) ⊕ Empty) :=
  (bif (decide (o0_0 ≥ (0:Int))) then
   (bif (decide (o0_0 ≤ (2305843009213693952:Int))) then
    (bif (decide (o0_1 ≥ (1:Int))) then
     (bif (decide (o0_1 ≤ (1152921504606846976:Int))) then
      (Option.bind (g_ref01_common ((o0_0, (o0_1, ())), ())) (fun y4 =>
      (some (Sum.inl (((y4.1.1 == (1:Int)), ()), ())))))
     else
      (some (Sum.inl ((Bool.false, ()), ()))))
    else
     (some (Sum.inl ((Bool.false, ()), ()))))
   else
    (some (Sum.inl ((Bool.false, ()), ()))))
  else
   (some (Sum.inl ((Bool.false, ()), ()))))
theorem ref01_Valid.eq0 (g_ref01_common : ref01_common.sh.X → Option ref01_common.osh.X) (l0 : ref01_Valid.s0.X → Option (sumX ref01_Valid.x0)) (L : ((Unit × Unit) × ((Int × Int × Unit) × Unit)) → Option (((Bool × Unit) × (Unit)) ⊕ Empty)) (x : ((Unit × Unit) × ((Int × Int × Unit) × Unit))) : (roundK (ref01_Valid.E g_ref01_common l0) ref01_Valid.s0 [1] [(0, [2])] false (((mk ref01_Valid.hs ref01_Valid.c []).atoms.getD 0 .bad).body) ref01_Valid.x0 L x).run _ some = ref01_Valid.f0 g_ref01_common x.2.1.1 x.2.1.2.1 := by
  show _ = (_ : Option _)
  kernel_rfl
noncomputable def ref01_Valid.L0 : ((Unit × Unit) × ((Int × Int × Unit) × Unit)) → Option (((Bool × Unit) × (Unit)) ⊕ Empty) := fun x => ref01_Valid.f0 ref01_common.F x.2.1.1 x.2.1.2.1
def ref01_Valid.f (l0 : ((Unit × Unit) × ((Int × Int × Unit) × Unit)) → Option (((Bool × Unit) × (Unit)) ⊕ Empty)) (a_Num : Int) (a_Den : Int) : Option ((Bool × Unit) × (Unit)) :=
  (Option.bind (l0 (((), ()), ((a_Num, (a_Den, ())), ()))) (fun y0 =>
  (Sum.elim (fun a1 =>
   (some ((a1.1.1, ()), ()))) (fun b1 =>
   (Empty.elim b1)) y0)))
theorem ref01_Valid.eq (g_ref01_common : ref01_common.sh.X → Option ref01_common.osh.X) (l0 : ref01_Valid.s0.X → Option (sumX ref01_Valid.x0)) (x : (((Int × Int × Unit) × Unit) × (Unit))) : (bodyO (ref01_Valid.E g_ref01_common l0) (mk ref01_Valid.hs ref01_Valid.c []) Go.Proofs.Tryd.f12.results.toList ref01_Valid.sh ref01_Valid.osh x).run _ some = ref01_Valid.f l0 x.1.1.1 x.1.1.2.1 := by
  show _ = (_ : Option _)
  kernel_rfl
noncomputable def ref01_Valid (a_Num : Int) (a_Den : Int) : Option ((Bool × Unit) × (Unit)) := ref01_Valid.f ref01_Valid.L0 a_Num a_Den
noncomputable def ref01_Valid.F (x : (((Int × Int × Unit) × Unit) × (Unit))) : Option ((Bool × Unit) × (Unit)) := ref01_Valid x.1.1.1 x.1.1.2.1
theorem ref01_Valid.L0_eq (o0_0 : Int) (o0_1 : Int) : ref01_Valid.L0 (((), ()), ((o0_0, o0_1, ()), ())) = ref01_Valid.f0 ref01_common.F o0_0 o0_1 := rfl
theorem ref01_Valid.F_eq (a_Num : Int) (a_Den : Int) : ref01_Valid.F (((a_Num, a_Den, ()), ()), ()) = ref01_Valid.f ref01_Valid.L0 a_Num a_Den := rfl
theorem ref01_Valid.ok {tabs : List (Nat × Go.Obj)} (ht : TabsOk tabs) : FOK Go.Proofs.Tryd.prog tabs 12 (FE.of [true] false ref01_Valid.sh ref01_Valid.osh ref01_Valid.F) := by
  refine fn_keeps (E := (ref01_Valid.E ref01_common.F ref01_Valid.L0)) (c := ref01_Valid.c) (fn := Go.Proofs.Tryd.f12) (hs := ref01_Valid.hs) (by kernel_rfl) Go.Proofs.Tryd.func12 ⟨by kernel_rfl, by kernel_rfl, tb, by kernel_rfl, by kernel_rfl, by kernel_rfl, by kernel_rfl, by kernel_rfl⟩ ⟨fun g ks fe h => ?_, gt_ok ht⟩ ?_ (fun x => ref01_Valid.eq ref01_common.F ref01_Valid.L0 x)
  · rcases c_cons h with ⟨rfl, rfl⟩ | h
    · exact ref01_common.ok ht
    cases h
  · refine known_at 1 (by kernel_rfl) fun i hi => ?_
    match i, hi with
    | 0, _ => exact atom_at (id := 0) (live := [1]) (outs := [(0, [2])]) (loop := false) (by kernel_rfl) (cut_ok (E := (ref01_Valid.E ref01_common.F ref01_Valid.L0)) (sh := ref01_Valid.s0) (es := ref01_Valid.x0) rfl (fun L x => ref01_Valid.eq0 ref01_common.F ref01_Valid.L0 L x))
    | n + 1, h => exact absurd h (by omega)

/-! ref01_order -/
def ref01_order.f0 (a_0 : Int) (b_1 : Int) (c_2 : Int) (d_3 : Int) : Option (((Int × Int × Int × Int × Bool × Unit) × (Unit)) ⊕ Empty) :=
  (bif (a_0 == (0:Int)) then
   (some (Sum.inl ((a_0, (b_1, (c_2, (d_3, ((c_2 == (0:Int)), ()))))), ())))
  else
   (some (Sum.inl ((a_0, (b_1, (c_2, (d_3, (Bool.false, ()))))), ()))))
theorem ref01_order.eq0 (g_ref01_order : ref01_order.sh.X → Option ref01_order.osh.X) (l0 : ref01_order.s0.X → Option (sumX ref01_order.x0)) (L : ((Int × Int × Int × Int × Unit) × (Unit)) → Option (((Int × Int × Int × Int × Bool × Unit) × (Unit)) ⊕ Empty)) (x : ((Int × Int × Int × Int × Unit) × (Unit))) : (roundK (ref01_order.E g_ref01_order l0) ref01_order.s0 [0, 1, 2, 3] [(0, [0, 1, 2, 3, 29])] false (((mk ref01_order.hs ref01_order.c []).atoms.getD 0 .bad).body) ref01_order.x0 L x).run _ some = ref01_order.f0 x.1.1 x.1.2.1 x.1.2.2.1 x.1.2.2.2.1 := by
  show _ = (_ : Option _)
  kernel_rfl
noncomputable def ref01_order.L0 (g : ((Int × Int × Int × Int × Unit) × (Unit)) → Option ((Int × Unit) × (Unit))) : ((Int × Int × Int × Int × Unit) × (Unit)) → Option (((Int × Int × Int × Int × Bool × Unit) × (Unit)) ⊕ Empty) := fun x => ref01_order.f0 x.1.1 x.1.2.1 x.1.2.2.1 x.1.2.2.2.1
def ref01_order.f (g_ref01_order : ((Int × Int × Int × Int × Unit) × (Unit)) → Option ((Int × Unit) × (Unit))) (l0 : ((Int × Int × Int × Int × Unit) × (Unit)) → Option (((Int × Int × Int × Int × Bool × Unit) × (Unit)) ⊕ Empty)) (a : Int) (b : Int) (c : Int) (d : Int) : Option ((Int × Unit) × (Unit)) :=
  (bif (!(decide (b = (0:Int)))) then
   (bif (!(decide (d = (0:Int)))) then
    (bif ((Go.IntKind.wrap Go.IntKind.i64 (Int.tdiv a b)) != (Go.IntKind.wrap Go.IntKind.i64 (Int.tdiv c d))) then
     (bif (decide ((Go.IntKind.wrap Go.IntKind.i64 (Int.tdiv a b)) < (Go.IntKind.wrap Go.IntKind.i64 (Int.tdiv c d)))) then
      (some (((-(1:Int)), ()), ()))
     else
      (some (((1:Int), ()), ())))
    else
     (bif (!(decide (b = (0:Int)))) then
      (bif (!(decide (d = (0:Int)))) then
       (Option.bind (l0 (((Int.tmod a b), (b, ((Int.tmod c d), (d, ())))), ())) (fun y5 =>
       (Sum.elim (fun a6 =>
        (bif a6.1.2.2.2.2.1 then
         (some (((0:Int), ()), ()))
        else
         (bif (a6.1.1 == (0:Int)) then
          (some (((-(1:Int)), ()), ()))
         else
          (bif (a6.1.2.2.1 == (0:Int)) then
           (some (((1:Int), ()), ()))
          else
           (Option.bind (g_ref01_order ((a6.1.2.2.2.1, (a6.1.2.2.1, (a6.1.2.1, (a6.1.1, ())))), ())) (fun y10 =>
           (some ((y10.1.1, ()), ())))))))) (fun b6 =>
        (Empty.elim b6)) y5)))
      else
       none)
     else
      none))
   else
    none)
  else
   none)
theorem ref01_order.eq (g_ref01_order : ref01_order.sh.X → Option ref01_order.osh.X) (l0 : ref01_order.s0.X → Option (sumX ref01_order.x0)) (x : ((Int × Int × Int × Int × Unit) × (Unit))) : (bodyO (ref01_order.E g_ref01_order l0) (mk ref01_order.hs ref01_order.c []) Go.Proofs.Tryd.f36.results.toList ref01_order.sh ref01_order.osh x).run _ some = ref01_order.f g_ref01_order l0 x.1.1 x.1.2.1 x.1.2.2.1 x.1.2.2.2.1 := by
  show _ = (_ : Option _)
  kernel_rfl
noncomputable def ref01_order.S (g : ((Int × Int × Int × Int × Unit) × (Unit)) → Option ((Int × Unit) × (Unit))) (x : ((Int × Int × Int × Int × Unit) × (Unit))) : Option ((Int × Unit) × (Unit)) := ref01_order.f g (ref01_order.L0 g) x.1.1 x.1.2.1 x.1.2.2.1 x.1.2.2.2.1
noncomputable def ref01_order.F : ((Int × Int × Int × Int × Unit) × (Unit)) → Option ((Int × Unit) × (Unit)) := recR ref01_order.S 200
theorem ref01_order.R_eq (n : Nat) (a : Int) (b : Int) (c : Int) (d : Int) : recR ref01_order.S (n + 1) ((a, b, c, d, ()), ()) = (fun g => ref01_order.f g (ref01_order.L0 g) a b c d) (recR ref01_order.S n) := rfl
noncomputable def ref01_order (a : Int) (b : Int) (c : Int) (d : Int) : Option ((Int × Unit) × (Unit)) := ref01_order.F ((a, b, c, d, ()), ())
theorem ref01_order.L0_eq (g : ((Int × Int × Int × Int × Unit) × (Unit)) → Option ((Int × Unit) × (Unit))) (a_0 : Int) (b_1 : Int) (c_2 : Int) (d_3 : Int) : ref01_order.L0 g ((a_0, b_1, c_2, d_3, ()), ()) = ref01_order.f0 a_0 b_1 c_2 d_3 := rfl
theorem ref01_order.okS {tabs : List (Nat × Go.Obj)} (ht : TabsOk tabs) (g : ((Int × Int × Int × Int × Unit) × (Unit)) → Option ((Int × Unit) × (Unit))) (hg : FOK Go.Proofs.Tryd.prog tabs 36 (FE.of [true, true, true, true] false ref01_order.sh ref01_order.osh g)) : FOK Go.Proofs.Tryd.prog tabs 36 (FE.of [true, true, true, true] false ref01_order.sh ref01_order.osh (ref01_order.S g)) := by
  refine fn_keeps (E := (ref01_order.E g (ref01_order.L0 g))) (c := ref01_order.c) (fn := Go.Proofs.Tryd.f36) (hs := ref01_order.hs) (by kernel_rfl) Go.Proofs.Tryd.func36 ⟨by kernel_rfl, by kernel_rfl, tb, by kernel_rfl, by kernel_rfl, by kernel_rfl, by kernel_rfl, by kernel_rfl⟩ ⟨fun g ks fe h => ?_, gt_ok ht⟩ ?_ (fun x => ref01_order.eq g (ref01_order.L0 g) x)
  · rcases c_cons h with ⟨rfl, rfl⟩ | h
    · exact hg
    cases h
  · refine known_at 1 (by kernel_rfl) fun i hi => ?_
    match i, hi with
    | 0, _ => exact atom_at (id := 0) (live := [0, 1, 2, 3]) (outs := [(0, [0, 1, 2, 3, 29])]) (loop := false) (by kernel_rfl) (cut_ok (E := (ref01_order.E g (ref01_order.L0 g))) (sh := ref01_order.s0) (es := ref01_order.x0) rfl (fun L x => ref01_order.eq0 g (ref01_order.L0 g) L x))
    | n + 1, h => exact absurd h (by omega)
theorem ref01_order.ok {tabs : List (Nat × Go.Obj)} (ht : TabsOk tabs) : FOK Go.Proofs.Tryd.prog tabs 36 (FE.of [true, true, true, true] false ref01_order.sh ref01_order.osh ref01_order.F) :=
  rec_ok (lend := [true, true, true, true]) (ret := false) (sh := ref01_order.sh) (osh := ref01_order.osh) (S := ref01_order.S) Go.Proofs.Tryd.func36 (c := ref01_order.c) (by kernel_rfl) (by kernel_rfl) (fun g hg => ref01_order.okS ht g hg) _

/-! ref01_Cmp -/
def ref01_Cmp.f0 (g_ref01_Valid : (((Int × Int × Unit) × Unit) × (Unit)) → Option ((Bool × Unit) × (Unit))) (o0_0 : Int) (o0_1 : Int) (o1_0 : Int) (o1_1 : Int) : Option (((Unit × Unit × Bool × Unit) × ((Int × Int × Unit) × (Int × Int × Unit) × Unit)) ⊕ Empty) :=
  (Option.bind (g_ref01_Valid (((o0_0, (o0_1, ())), ()), ())) (fun y0 =>
  (bif (!y0.1.1) then
   (some (Sum.inl (((), ((), (Bool.true, ()))), ((o0_0, (o0_1, ())), ((o1_0, (o1_1, ())), ())))))
  else
   (Option.bind (g_ref01_Valid (((o1_0, (o1_1, ())), ()), ())) (fun y2 =>
   (some (Sum.inl (((), ((), ((!y2.1.1), ()))), ((o0_0, (o0_1, ())), ((o1_0, (o1_1, ())), ()))))))))))
theorem ref01_Cmp.eq0 (g_ref01_Valid : ref01_Valid.sh.X → Option ref01_Valid.osh.X) (g_ref01_order : ref01_order.sh.X → Option ref01_order.osh.X) (l0 : ref01_Cmp.s0.X → Option (sumX ref01_Cmp.x0)) (L : ((Unit × Unit × Unit) × ((Int × Int × Unit) × (Int × Int × Unit) × Unit)) → Option (((Unit × Unit × Bool × Unit) × ((Int × Int × Unit) × (Int × Int × Unit) × Unit)) ⊕ Empty)) (x : ((Unit × Unit × Unit) × ((Int × Int × Unit) × (Int × Int × Unit) × Unit))) : (roundK (ref01_Cmp.E g_ref01_Valid g_ref01_order l0) ref01_Cmp.s0 [2, 3] [(0, [2, 3, 12])] false (((mk ref01_Cmp.hs ref01_Cmp.c []).atoms.getD 0 .bad).body) ref01_Cmp.x0 L x).run _ some = ref01_Cmp.f0 g_ref01_Valid x.2.1.1 x.2.1.2.1 x.2.2.1.1 x.2.2.1.2.1 := by
  show _ = (_ : Option _)
  kernel_rfl
noncomputable def ref01_Cmp.L0 : ((Unit × Unit × Unit) × ((Int × Int × Unit) × (Int × Int × Unit) × Unit)) → Option (((Unit × Unit × Bool × Unit) × ((Int × Int × Unit) × (Int × Int × Unit) × Unit)) ⊕ Empty) := fun x => ref01_Cmp.f0 ref01_Valid.F x.2.1.1 x.2.1.2.1 x.2.2.1.1 x.2.2.1.2.1
def ref01_Cmp.f (g_ref01_order : ((Int × Int × Int × Int × Unit) × (Unit)) → Option ((Int × Unit) × (Unit))) (l0 : ((Unit × Unit × Unit) × ((Int × Int × Unit) × (Int × Int × Unit) × Unit)) → Option (((Unit × Unit × Bool × Unit) × ((Int × Int × Unit) × (Int × Int × Unit) × Unit)) ⊕ Empty)) (a_Num : Int) (a_Den : Int) (b_Num : Int) (b_Den : Int) : Option ((Int × Unit) × (Unit)) :=
  (Option.bind (l0 (((), ((), ())), ((a_Num, (a_Den, ())), ((b_Num, (b_Den, ())), ())))) (fun y0 =>
  (Sum.elim (fun a1 =>
   (bif a1.1.2.2.1 then
    (some (((0:Int), ()), ()))
   else
    (Option.bind (g_ref01_order ((a1.2.1.1, (a1.2.1.2.1, (a1.2.2.1.1, (a1.2.2.1.2.1, ())))), ())) (fun y3 =>
    (some ((y3.1.1, ()), ())))))) (fun b1 =>
   (Empty.elim b1)) y0)))
theorem ref01_Cmp.eq (g_ref01_Valid : ref01_Valid.sh.X → Option ref01_Valid.osh.X) (g_ref01_order : ref01_order.sh.X → Option ref01_order.osh.X) (l0 : ref01_Cmp.s0.X → Option (sumX ref01_Cmp.x0)) (x : (((Int × Int × Unit) × (Int × Int × Unit) × Unit) × (Unit))) : (bodyO (ref01_Cmp.E g_ref01_Valid g_ref01_order l0) (mk ref01_Cmp.hs ref01_Cmp.c []) Go.Proofs.Tryd.f21.results.toList ref01_Cmp.sh ref01_Cmp.osh x).run _ some = ref01_Cmp.f g_ref01_order l0 x.1.1.1 x.1.1.2.1 x.1.2.1.1 x.1.2.1.2.1 := by
  show _ = (_ : Option _)
  kernel_rfl
noncomputable def ref01_Cmp (a_Num : Int) (a_Den : Int) (b_Num : Int) (b_Den : Int) : Option ((Int × Unit) × (Unit)) := ref01_Cmp.f ref01_order.F ref01_Cmp.L0 a_Num a_Den b_Num b_Den
noncomputable def ref01_Cmp.F (x : (((Int × Int × Unit) × (Int × Int × Unit) × Unit) × (Unit))) : Option ((Int × Unit) × (Unit)) := ref01_Cmp x.1.1.1 x.1.1.2.1 x.1.2.1.1 x.1.2.1.2.1
theorem ref01_Cmp.L0_eq (o0_0 : Int) (o0_1 : Int) (o1_0 : Int) (o1_1 : Int) : ref01_Cmp.L0 (((), (), ()), ((o0_0, o0_1, ()), (o1_0, o1_1, ()), ())) = ref01_Cmp.f0 ref01_Valid.F o0_0 o0_1 o1_0 o1_1 := rfl
theorem ref01_Cmp.F_eq (a_Num : Int) (a_Den : Int) (b_Num : Int) (b_Den : Int) : ref01_Cmp.F (((a_Num, a_Den, ()), (b_Num, b_Den, ()), ()), ()) = ref01_Cmp.f ref01_order.F ref01_Cmp.L0 a_Num a_Den b_Num b_Den := rfl
theorem ref01_Cmp.ok {tabs : List (Nat × Go.Obj)} (ht : TabsOk tabs) : FOK Go.Proofs.Tryd.prog tabs 21 (FE.of [true, true] false ref01_Cmp.sh ref01_Cmp.osh ref01_Cmp.F) := by
  refine fn_keeps (E := (ref01_Cmp.E ref01_Valid.F ref01_order.F ref01_Cmp.L0)) (c := ref01_Cmp.c) (fn := Go.Proofs.Tryd.f21) (hs := ref01_Cmp.hs) (by kernel_rfl) Go.Proofs.Tryd.func21 ⟨by kernel_rfl, by kernel_rfl, tb, by kernel_rfl, by kernel_rfl, by kernel_rfl, by kernel_rfl, by kernel_rfl⟩ ⟨fun g ks fe h => ?_, gt_ok ht⟩ ?_ (fun x => ref01_Cmp.eq ref01_Valid.F ref01_order.F ref01_Cmp.L0 x)
  · rcases c_cons h with ⟨rfl, rfl⟩ | h
    · exact ref01_Valid.ok ht
    rcases c_cons h with ⟨rfl, rfl⟩ | h
    · exact ref01_order.ok ht
    cases h
  · refine known_at 1 (by kernel_rfl) fun i hi => ?_
    match i, hi with
    | 0, _ => exact atom_at (id := 0) (live := [2, 3]) (outs := [(0, [2, 3, 12])]) (loop := false) (by kernel_rfl) (cut_ok (E := (ref01_Cmp.E ref01_Valid.F ref01_order.F ref01_Cmp.L0)) (sh := ref01_Cmp.s0) (es := ref01_Cmp.x0) rfl (fun L x => ref01_Cmp.eq0 ref01_Valid.F ref01_order.F ref01_Cmp.L0 L x))
    | n + 1, h => exact absurd h (by omega)

/-! ref01_Less -/
def ref01_Less.f (g_ref01_Cmp : (((Int × Int × Unit) × (Int × Int × Unit) × Unit) × (Unit)) → Option ((Int × Unit) × (Unit))) (a_Num : Int) (a_Den : Int) (b_Num : Int) (b_Den : Int) : Option ((Bool × Unit) × (Unit)) :=
  (Option.bind (g_ref01_Cmp (((a_Num, (a_Den, ())), ((b_Num, (b_Den, ())), ())), ())) (fun y0 =>
  (some (((decide (y0.1.1 < (0:Int))), ()), ()))))
theorem ref01_Less.eq (g_ref01_Cmp : ref01_Cmp.sh.X → Option ref01_Cmp.osh.X) (x : (((Int × Int × Unit) × (Int × Int × Unit) × Unit) × (Unit))) : (bodyO (ref01_Less.E g_ref01_Cmp) (mk ref01_Less.hs ref01_Less.c []) Go.Proofs.Tryd.f15.results.toList ref01_Less.sh ref01_Less.osh x).run _ some = ref01_Less.f g_ref01_Cmp x.1.1.1 x.1.1.2.1 x.1.2.1.1 x.1.2.1.2.1 := by
  show _ = (_ : Option _)
  kernel_rfl
noncomputable def ref01_Less (a_Num : Int) (a_Den : Int) (b_Num : Int) (b_Den : Int) : Option ((Bool × Unit) × (Unit)) := ref01_Less.f ref01_Cmp.F a_Num a_Den b_Num b_Den
noncomputable def ref01_Less.F (x : (((Int × Int × Unit) × (Int × Int × Unit) × Unit) × (Unit))) : Option ((Bool × Unit) × (Unit)) := ref01_Less x.1.1.1 x.1.1.2.1 x.1.2.1.1 x.1.2.1.2.1
theorem ref01_Less.F_eq (a_Num : Int) (a_Den : Int) (b_Num : Int) (b_Den : Int) : ref01_Less.F (((a_Num, a_Den, ()), (b_Num, b_Den, ()), ()), ()) = ref01_Less.f ref01_Cmp.F a_Num a_Den b_Num b_Den := rfl
theorem ref01_Less.ok {tabs : List (Nat × Go.Obj)} (ht : TabsOk tabs) : FOK Go.Proofs.Tryd.prog tabs 15 (FE.of [true, true] false ref01_Less.sh ref01_Less.osh ref01_Less.F) := by
  refine fn_keeps (E := (ref01_Less.E ref01_Cmp.F)) (c := ref01_Less.c) (fn := Go.Proofs.Tryd.f15) (hs := ref01_Less.hs) (by kernel_rfl) Go.Proofs.Tryd.func15 ⟨by kernel_rfl, by kernel_rfl, tb, by kernel_rfl, by kernel_rfl, by kernel_rfl, by kernel_rfl, by kernel_rfl⟩ ⟨fun g ks fe h => ?_, gt_ok ht⟩ ?_ (fun x => ref01_Less.eq ref01_Cmp.F x)
  · rcases c_cons h with ⟨rfl, rfl⟩ | h
    · exact ref01_Cmp.ok ht
    cases h
  · exact known_at 0 (by kernel_rfl) fun i hi => absurd hi (Nat.not_lt_zero i)
end Go.Proofs.YtadniiehehiblaaDoor.V
