import Derived.Test.YtadniiehehiblaaDoorVg4
import Derived.Test.YtadniiehehiblaaDoorShelf
import Derived.WalkKit
set_option linter.unusedVariables false
set_option maxRecDepth 100000
namespace Go.Proofs.YtadniiehehiblaaDoor.V
open Go.VI
/-! law17_MeasureOrder -/
def law17_MeasureOrder.f0 (g_ref01_Less : (((Int × Int × Unit) × (Int × Int × Unit) × Unit) × (Unit)) → Option ((Bool × Unit) × (Unit))) (g_ref01_Valid : (((Int × Int × Unit) × Unit) × (Unit)) → Option ((Bool × Unit) × (Unit))) (g_law17_awake : ((Unit) × (Unit)) → Option ((Bool × Unit) × (Unit))) (e_10 : Int) (f_12 : Int) (g_14 : Int) (h_16 : Int) (o0_0 : Int) (o0_1 : Int) (o1_0 : Int) (o1_1 : Int) (o2_0 : Int) (o2_1 : Int) (o3_0 : Int) (o3_1 : Int) : Option (((Bool × Unit) × (Unit)) ⊕ Empty) :=
  (bif (e_10 == (0:Int)) then
   (bif (f_12 == (0:Int)) then
    (bif (g_14 == (0:Int)) then
     (bif (h_16 == (0:Int)) then
      (Option.bind (g_ref01_Less (((o0_0, (o0_1, ())), ((o1_0, (o1_1, ())), ())), ())) (fun y4 =>
      (bif (!y4.1.1) then
       (Option.bind (g_ref01_Less (((o0_0, (o0_1, ())), ((o2_0, (o2_1, ())), ())), ())) (fun y6 =>
       (bif (!y6.1.1) then
        (Option.bind (g_ref01_Less (((o2_0, (o2_1, ())), ((o3_0, (o3_1, ())), ())), ())) (fun y8 =>
        (bif (!y8.1.1) then
         (Option.bind (g_ref01_Valid (((o3_0, (o3_1, ())), ()), ())) (fun y10 =>
         (bif y10.1.1 then
          (Option.bind (g_law17_awake ((), ())) (fun y12 =>
          (some (Sum.inl ((y12.1.1, ()), ())))))
         else
          (some (Sum.inl ((Bool.false, ()), ()))))))
        else
         (some (Sum.inl ((Bool.false, ()), ()))))))
       else
        (some (Sum.inl ((Bool.false, ()), ()))))))
      else
       (some (Sum.inl ((Bool.false, ()), ()))))))
     else
      (some (Sum.inl ((Bool.false, ()), ()))))
    else
     (some (Sum.inl ((Bool.false, ()), ()))))
   else
    (some (Sum.inl ((Bool.false, ()), ()))))
  else
   (some (Sum.inl ((Bool.false, ()), ()))))
theorem law17_MeasureOrder.eq0 (g_keep_New : keep_New.sh.X → Option keep_New.osh.X) (g_keep_Src_Pair : keep_Src_Pair.sh.X → Option keep_Src_Pair.osh.X) (g_measure_Distance : measure_Distance.sh.X → Option measure_Distance.osh.X) (g_ref01_Less : ref01_Less.sh.X → Option ref01_Less.osh.X) (g_ref01_Valid : ref01_Valid.sh.X → Option ref01_Valid.osh.X) (g_law17_awake : law17_awake.sh.X → Option law17_awake.osh.X) (l0 : law17_MeasureOrder.s0.X → Option (sumX law17_MeasureOrder.x0)) (L : ((Unit × Int × Unit × Int × Unit × Int × Unit × Int × Unit) × ((Int × Int × Unit) × (Int × Int × Unit) × (Int × Int × Unit) × (Int × Int × Unit) × Unit)) → Option (((Bool × Unit) × (Unit)) ⊕ Empty)) (x : ((Unit × Int × Unit × Int × Unit × Int × Unit × Int × Unit) × ((Int × Int × Unit) × (Int × Int × Unit) × (Int × Int × Unit) × (Int × Int × Unit) × Unit))) : (roundK (law17_MeasureOrder.E g_keep_New g_keep_Src_Pair g_measure_Distance g_ref01_Less g_ref01_Valid g_law17_awake l0) law17_MeasureOrder.s0 [9, 10, 11, 12, 13, 14, 15, 16] [(0, [4])] false (((mk law17_MeasureOrder.hs law17_MeasureOrder.c []).atoms.getD 0 .bad).body) law17_MeasureOrder.x0 L x).run _ some = law17_MeasureOrder.f0 g_ref01_Less g_ref01_Valid g_law17_awake x.1.2.1 x.1.2.2.2.1 x.1.2.2.2.2.2.1 x.1.2.2.2.2.2.2.2.1 x.2.1.1 x.2.1.2.1 x.2.2.1.1 x.2.2.1.2.1 x.2.2.2.1.1 x.2.2.2.1.2.1 x.2.2.2.2.1.1 x.2.2.2.2.1.2.1 := by
  show _ = (_ : Option _)
  kernel_rfl
noncomputable def law17_MeasureOrder.L0 : ((Unit × Int × Unit × Int × Unit × Int × Unit × Int × Unit) × ((Int × Int × Unit) × (Int × Int × Unit) × (Int × Int × Unit) × (Int × Int × Unit) × Unit)) → Option (((Bool × Unit) × (Unit)) ⊕ Empty) := fun x => law17_MeasureOrder.f0 ref01_Less.F ref01_Valid.F law17_awake.F x.1.2.1 x.1.2.2.2.1 x.1.2.2.2.2.2.1 x.1.2.2.2.2.2.2.2.1 x.2.1.1 x.2.1.2.1 x.2.2.1.1 x.2.2.1.2.1 x.2.2.2.1.1 x.2.2.2.1.2.1 x.2.2.2.2.1.1 x.2.2.2.2.1.2.1
def law17_MeasureOrder.f (g_keep_New : (((List Int) × Unit) × (Unit)) → Option ((Unit × Unit) × (((List Int) × Int × Unit) × Unit))) (g_keep_Src_Pair : ((Unit × Unit) × (((List Int) × Int × Unit) × Unit)) → Option (((List Int) × Unit × Unit) × (((List Int) × Int × Unit) × (List Int) × Unit))) (g_measure_Distance : (((Int × Int × Int × Unit) × (List Int) × (List Int) × Unit) × (Unit)) → Option (((Int × Int × Unit) × Int × Unit) × (Unit))) (l0 : ((Unit × Int × Unit × Int × Unit × Int × Unit × Int × Unit) × ((Int × Int × Unit) × (Int × Int × Unit) × (Int × Int × Unit) × (Int × Int × Unit) × Unit)) → Option (((Bool × Unit) × (Unit)) ⊕ Empty)) (l : (List Int)) (band : Int) : Option ((Bool × Unit) × (Unit)) :=
  (Option.bind (g_keep_New ((l, ()), ())) (fun y0 =>
  (Option.bind (g_keep_Src_Pair (((), ()), ((y0.2.1.1, (y0.2.1.2.1, ())), ()))) (fun y1 =>
  (Option.bind (g_measure_Distance ((((1:Int), ((0:Int), ((0:Int), ()))), (y1.1.1, (y1.2.2.1, ()))), ())) (fun y2 =>
  (Option.bind (g_measure_Distance ((((2:Int), ((0:Int), ((0:Int), ()))), (y1.1.1, (y1.2.2.1, ()))), ())) (fun y3 =>
  (Option.bind (g_measure_Distance ((((4:Int), ((Int.tmod (Go.IntKind.wrap Go.IntKind.i64 band) (33:Int)), ((0:Int), ()))), (y1.1.1, (y1.2.2.1, ()))), ())) (fun y4 =>
  (Option.bind (g_measure_Distance ((((4:Int), ((32:Int), ((0:Int), ()))), (y1.1.1, (y1.2.2.1, ()))), ())) (fun y5 =>
  (Option.bind (l0 (((), (y2.1.2.1, ((), (y3.1.2.1, ((), (y4.1.2.1, ((), (y5.1.2.1, ())))))))), ((y2.1.1.1, (y2.1.1.2.1, ())), ((y3.1.1.1, (y3.1.1.2.1, ())), ((y4.1.1.1, (y4.1.1.2.1, ())), ((y5.1.1.1, (y5.1.1.2.1, ())), ())))))) (fun y6 =>
  (Sum.elim (fun a7 =>
   (some ((a7.1.1, ()), ()))) (fun b7 =>
   (Empty.elim b7)) y6)))))))))))))))
theorem law17_MeasureOrder.eq (g_keep_New : keep_New.sh.X → Option keep_New.osh.X) (g_keep_Src_Pair : keep_Src_Pair.sh.X → Option keep_Src_Pair.osh.X) (g_measure_Distance : measure_Distance.sh.X → Option measure_Distance.osh.X) (g_ref01_Less : ref01_Less.sh.X → Option ref01_Less.osh.X) (g_ref01_Valid : ref01_Valid.sh.X → Option ref01_Valid.osh.X) (g_law17_awake : law17_awake.sh.X → Option law17_awake.osh.X) (l0 : law17_MeasureOrder.s0.X → Option (sumX law17_MeasureOrder.x0)) (x : (((List Int) × Int × Unit) × (Unit))) : (bodyO (law17_MeasureOrder.E g_keep_New g_keep_Src_Pair g_measure_Distance g_ref01_Less g_ref01_Valid g_law17_awake l0) (mk law17_MeasureOrder.hs law17_MeasureOrder.c []) Go.Proofs.Tryd.f5.results.toList law17_MeasureOrder.sh law17_MeasureOrder.osh x).run _ some = law17_MeasureOrder.f g_keep_New g_keep_Src_Pair g_measure_Distance l0 x.1.1 x.1.2.1 := by
  show _ = (_ : Option _)
  kernel_rfl
noncomputable def law17_MeasureOrder (l : (List Int)) (band : Int) : Option ((Bool × Unit) × (Unit)) := law17_MeasureOrder.f keep_New.F keep_Src_Pair.F measure_Distance.F law17_MeasureOrder.L0 l band
noncomputable def law17_MeasureOrder.F (x : (((List Int) × Int × Unit) × (Unit))) : Option ((Bool × Unit) × (Unit)) := law17_MeasureOrder x.1.1 x.1.2.1
theorem law17_MeasureOrder.L0_eq (e_10 : Int) (f_12 : Int) (g_14 : Int) (h_16 : Int) (o0_0 : Int) (o0_1 : Int) (o1_0 : Int) (o1_1 : Int) (o2_0 : Int) (o2_1 : Int) (o3_0 : Int) (o3_1 : Int) : law17_MeasureOrder.L0 (((), e_10, (), f_12, (), g_14, (), h_16, ()), ((o0_0, o0_1, ()), (o1_0, o1_1, ()), (o2_0, o2_1, ()), (o3_0, o3_1, ()), ())) = law17_MeasureOrder.f0 ref01_Less.F ref01_Valid.F law17_awake.F e_10 f_12 g_14 h_16 o0_0 o0_1 o1_0 o1_1 o2_0 o2_1 o3_0 o3_1 := rfl
theorem law17_MeasureOrder.F_eq (l : (List Int)) (band : Int) : law17_MeasureOrder.F ((l, band, ()), ()) = law17_MeasureOrder.f keep_New.F keep_Src_Pair.F measure_Distance.F law17_MeasureOrder.L0 l band := rfl
theorem law17_MeasureOrder.ok {tabs : List (Nat × Go.Obj)} (ht : TabsOk tabs) : FOK Go.Proofs.Tryd.prog tabs 5 (FE.of [true, true] false law17_MeasureOrder.sh law17_MeasureOrder.osh law17_MeasureOrder.F) := by
  refine fn_keeps (E := (law17_MeasureOrder.E keep_New.F keep_Src_Pair.F measure_Distance.F ref01_Less.F ref01_Valid.F law17_awake.F law17_MeasureOrder.L0)) (c := law17_MeasureOrder.c) (fn := Go.Proofs.Tryd.f5) (hs := law17_MeasureOrder.hs) (by kernel_rfl) Go.Proofs.Tryd.func5 ⟨by kernel_rfl, by kernel_rfl, tb, by kernel_rfl, by kernel_rfl, by kernel_rfl, by kernel_rfl, by kernel_rfl⟩ ⟨fun g ks fe h => ?_, gt_ok ht⟩ ?_ (fun x => law17_MeasureOrder.eq keep_New.F keep_Src_Pair.F measure_Distance.F ref01_Less.F ref01_Valid.F law17_awake.F law17_MeasureOrder.L0 x)
  · rcases c_cons h with ⟨rfl, rfl⟩ | h
    · exact keep_New.ok ht
    rcases c_cons h with ⟨rfl, rfl⟩ | h
    · exact keep_Src_Pair.ok ht
    rcases c_cons h with ⟨rfl, rfl⟩ | h
    · exact measure_Distance.ok ht
    rcases c_cons h with ⟨rfl, rfl⟩ | h
    · exact ref01_Less.ok ht
    rcases c_cons h with ⟨rfl, rfl⟩ | h
    · exact ref01_Valid.ok ht
    rcases c_cons h with ⟨rfl, rfl⟩ | h
    · exact law17_awake.ok ht
    cases h
  · refine known_at 1 (by kernel_rfl) fun i hi => ?_
    match i, hi with
    | 0, _ => exact atom_at (id := 0) (live := [9, 10, 11, 12, 13, 14, 15, 16]) (outs := [(0, [4])]) (loop := false) (by kernel_rfl) (cut_ok (E := (law17_MeasureOrder.E keep_New.F keep_Src_Pair.F measure_Distance.F ref01_Less.F ref01_Valid.F law17_awake.F law17_MeasureOrder.L0)) (sh := law17_MeasureOrder.s0) (es := law17_MeasureOrder.x0) rfl (fun L x => law17_MeasureOrder.eq0 keep_New.F keep_Src_Pair.F measure_Distance.F ref01_Less.F ref01_Valid.F law17_awake.F law17_MeasureOrder.L0 L x))
    | n + 1, h => exact absurd h (by omega)
end Go.Proofs.YtadniiehehiblaaDoor.V
