import Derived.Test.YtadniiehehiblaaDoorVg2
import Derived.Test.YtadniiehehiblaaDoorShelf
import Derived.WalkKit
set_option linter.unusedVariables false
set_option maxRecDepth 100000
namespace Go.Proofs.YtadniiehehiblaaDoor.V
open Go.VI
/-! edit_check -/
def edit_check.f0 (x_0 : (List Int)) (y_1 : (List Int)) (gap_2 : Int) : Option ((((List Int) × (List Int) × Bool × Unit) × (Unit)) ⊕ Empty) :=
  (bif (decide (gap_2 < (-(1000:Int)))) then
   (some (Sum.inl ((x_0, (y_1, (Bool.true, ()))), ())))
  else
   (some (Sum.inl ((x_0, (y_1, ((decide (gap_2 > (1000:Int))), ()))), ()))))
theorem edit_check.eq0 (g_euclid_Distance : euclid_Distance.sh.X → Option euclid_Distance.osh.X) (l0 : edit_check.s0.X → Option (sumX edit_check.x0)) (L : (((List Int) × (List Int) × Int × Unit) × (Unit)) → Option ((((List Int) × (List Int) × Bool × Unit) × (Unit)) ⊕ Empty)) (x : (((List Int) × (List Int) × Int × Unit) × (Unit))) : (roundK (edit_check.E g_euclid_Distance l0) edit_check.s0 [0, 1, 2] [(0, [0, 1, 16])] false (((mk edit_check.hs edit_check.c []).atoms.getD 0 .bad).body) edit_check.x0 L x).run _ some = edit_check.f0 x.1.1 x.1.2.1 x.1.2.2.1 := by
  show _ = (_ : Option _)
  kernel_rfl
noncomputable def edit_check.L0 : (((List Int) × (List Int) × Int × Unit) × (Unit)) → Option ((((List Int) × (List Int) × Bool × Unit) × (Unit)) ⊕ Empty) := fun x => edit_check.f0 x.1.1 x.1.2.1 x.1.2.2.1
def edit_check.f (g_euclid_Distance : (((List Int) × (List Int) × Unit) × (Unit)) → Option ((Int × Int × Unit) × (Unit))) (l0 : (((List Int) × (List Int) × Int × Unit) × (Unit)) → Option ((((List Int) × (List Int) × Bool × Unit) × (Unit)) ⊕ Empty)) (x_ : (List Int)) (y : (List Int)) (gap : Int) : Option ((Int × Unit) × (Unit)) :=
  (Option.bind (l0 ((x_, (y, (gap, ()))), ())) (fun y0 =>
  (Sum.elim (fun a1 =>
   (bif a1.1.2.2.1 then
    (some (((1:Int), ()), ()))
   else
    (Option.bind (g_euclid_Distance ((a1.1.1, (a1.1.1, ())), ())) (fun y3 =>
    (Option.bind (g_euclid_Distance ((a1.1.2.1, (a1.1.2.1, ())), ())) (fun y4 =>
    (bif (y3.1.2.1 == (8:Int)) then
     (some (((8:Int), ()), ()))
    else
     (bif (y4.1.2.1 == (8:Int)) then
      (some (((8:Int), ()), ()))
     else
      (some (((Go.VI.mx y3.1.2.1 y4.1.2.1), ()), ())))))))))) (fun b1 =>
   (Empty.elim b1)) y0)))
theorem edit_check.eq (g_euclid_Distance : euclid_Distance.sh.X → Option euclid_Distance.osh.X) (l0 : edit_check.s0.X → Option (sumX edit_check.x0)) (x : (((List Int) × (List Int) × Int × Unit) × (Unit))) : (bodyO (edit_check.E g_euclid_Distance l0) (mk edit_check.hs edit_check.c []) Go.Proofs.Tryd.f62.results.toList edit_check.sh edit_check.osh x).run _ some = edit_check.f g_euclid_Distance l0 x.1.1 x.1.2.1 x.1.2.2.1 := by
  show _ = (_ : Option _)
  kernel_rfl
noncomputable def edit_check (x_ : (List Int)) (y : (List Int)) (gap : Int) : Option ((Int × Unit) × (Unit)) := edit_check.f euclid_Distance.F edit_check.L0 x_ y gap
noncomputable def edit_check.F (x : (((List Int) × (List Int) × Int × Unit) × (Unit))) : Option ((Int × Unit) × (Unit)) := edit_check x.1.1 x.1.2.1 x.1.2.2.1
theorem edit_check.L0_eq (x_0 : (List Int)) (y_1 : (List Int)) (gap_2 : Int) : edit_check.L0 ((x_0, y_1, gap_2, ()), ()) = edit_check.f0 x_0 y_1 gap_2 := rfl
theorem edit_check.F_eq (x_ : (List Int)) (y : (List Int)) (gap : Int) : edit_check.F ((x_, y, gap, ()), ()) = edit_check.f euclid_Distance.F edit_check.L0 x_ y gap := rfl
theorem edit_check.ok {tabs : List (Nat × Go.Obj)} (ht : TabsOk tabs) : FOK Go.Proofs.Tryd.prog tabs 62 (FE.of [true, true, true] false edit_check.sh edit_check.osh edit_check.F) := by
  refine fn_keeps (E := (edit_check.E euclid_Distance.F edit_check.L0)) (c := edit_check.c) (fn := Go.Proofs.Tryd.f62) (hs := edit_check.hs) (by kernel_rfl) Go.Proofs.Tryd.func62 ⟨by kernel_rfl, by kernel_rfl, tb, by kernel_rfl, by kernel_rfl, by kernel_rfl, by kernel_rfl, by kernel_rfl⟩ ⟨fun g ks fe h => ?_, gt_ok ht⟩ ?_ (fun x => edit_check.eq euclid_Distance.F edit_check.L0 x)
  · rcases c_cons h with ⟨rfl, rfl⟩ | h
    · exact euclid_Distance.ok ht
    cases h
  · refine known_at 1 (by kernel_rfl) fun i hi => ?_
    match i, hi with
    | 0, _ => exact atom_at (id := 0) (live := [0, 1, 2]) (outs := [(0, [0, 1, 16])]) (loop := false) (by kernel_rfl) (cut_ok (E := (edit_check.E euclid_Distance.F edit_check.L0)) (sh := edit_check.s0) (es := edit_check.x0) rfl (fun L x => edit_check.eq0 euclid_Distance.F edit_check.L0 L x))
    | n + 1, h => exact absurd h (by omega)

/-! edit_Distance -/
def edit_Distance.f (g_edit_check : (((List Int) × (List Int) × Int × Unit) × (Unit)) → Option ((Int × Unit) × (Unit))) (x_ : (List Int)) (y : (List Int)) (gap : Int) : Option ((Int × Int × Unit) × (Unit)) :=
  (Option.bind (g_edit_check ((x_, (y, (gap, ()))), ())) (fun y0 =>
  (bif (y0.1.1 != (0:Int)) then
   (some (((0:Int), (y0.1.1, ())), ()))
  else
   none)))
theorem edit_Distance.eq (g_edit_check : edit_check.sh.X → Option edit_check.osh.X) (x : (((List Int) × (List Int) × Int × Unit) × (Unit))) : (bodyO (edit_Distance.E g_edit_check) (mk edit_Distance.hs edit_Distance.c []) Go.Proofs.Tryd.f47.results.toList edit_Distance.sh edit_Distance.osh x).run _ some = edit_Distance.f g_edit_check x.1.1 x.1.2.1 x.1.2.2.1 := by
  show _ = (_ : Option _)
  kernel_rfl
noncomputable def edit_Distance (x_ : (List Int)) (y : (List Int)) (gap : Int) : Option ((Int × Int × Unit) × (Unit)) := edit_Distance.f edit_check.F x_ y gap
noncomputable def edit_Distance.F (x : (((List Int) × (List Int) × Int × Unit) × (Unit))) : Option ((Int × Int × Unit) × (Unit)) := edit_Distance x.1.1 x.1.2.1 x.1.2.2.1
theorem edit_Distance.F_eq (x_ : (List Int)) (y : (List Int)) (gap : Int) : edit_Distance.F ((x_, y, gap, ()), ()) = edit_Distance.f edit_check.F x_ y gap := rfl
theorem edit_Distance.ok {tabs : List (Nat × Go.Obj)} (ht : TabsOk tabs) : FOK Go.Proofs.Tryd.prog tabs 47 (FE.of [true, true, true] false edit_Distance.sh edit_Distance.osh edit_Distance.F) := by
  refine fn_keeps (E := (edit_Distance.E edit_check.F)) (c := edit_Distance.c) (fn := Go.Proofs.Tryd.f47) (hs := edit_Distance.hs) (by kernel_rfl) Go.Proofs.Tryd.func47 ⟨by kernel_rfl, by kernel_rfl, tb, by kernel_rfl, by kernel_rfl, by kernel_rfl, by kernel_rfl, by kernel_rfl⟩ ⟨fun g ks fe h => ?_, gt_ok ht⟩ ?_ (fun x => edit_Distance.eq edit_check.F x)
  · rcases c_cons h with ⟨rfl, rfl⟩ | h
    · exact edit_check.ok ht
    cases h
  · exact known_at 0 (by kernel_rfl) fun i hi => absurd hi (Nat.not_lt_zero i)

/-! measure_distances_3 -/
def measure_distances_3.f (g_edit_Distance : (((List Int) × (List Int) × Int × Unit) × (Unit)) → Option ((Int × Int × Unit) × (Unit))) (g_measure_whole : ((Int × Int × Unit) × (Unit)) → Option (((Int × Int × Unit) × Int × Unit) × (Unit))) (x_ : (List Int)) (y : (List Int)) (o0_0 : Int) (o0_1 : Int) (o0_2 : Int) : Option (((Int × Int × Unit) × Int × Unit) × ((Int × Int × Int × Unit) × Unit)) :=
  (Option.bind (g_edit_Distance ((x_, (y, (o0_2, ()))), ())) (fun y0 =>
  (Option.bind (g_measure_whole ((y0.1.1, (y0.1.2.1, ())), ())) (fun y1 =>
  (some (((y1.1.1.1, (y1.1.1.2.1, ())), (y1.1.2.1, ())), ((o0_0, (o0_1, (o0_2, ()))), ())))))))
theorem measure_distances_3.eq (g_edit_Distance : edit_Distance.sh.X → Option edit_Distance.osh.X) (g_measure_whole : measure_whole.sh.X → Option measure_whole.osh.X) (x : (((List Int) × (List Int) × Unit × Unit) × ((Int × Int × Int × Unit) × Unit))) : (bodyO (measure_distances_3.E g_edit_Distance g_measure_whole) (mk measure_distances_3.hs measure_distances_3.c []) Go.Proofs.Tryd.f46.results.toList measure_distances_3.sh measure_distances_3.osh x).run _ some = measure_distances_3.f g_edit_Distance g_measure_whole x.1.1 x.1.2.1 x.2.1.1 x.2.1.2.1 x.2.1.2.2.1 := by
  show _ = (_ : Option _)
  kernel_rfl
noncomputable def measure_distances_3 (x_ : (List Int)) (y : (List Int)) (o0_0 : Int) (o0_1 : Int) (o0_2 : Int) : Option (((Int × Int × Unit) × Int × Unit) × ((Int × Int × Int × Unit) × Unit)) := measure_distances_3.f edit_Distance.F measure_whole.F x_ y o0_0 o0_1 o0_2
noncomputable def measure_distances_3.F (x : (((List Int) × (List Int) × Unit × Unit) × ((Int × Int × Int × Unit) × Unit))) : Option (((Int × Int × Unit) × Int × Unit) × ((Int × Int × Int × Unit) × Unit)) := measure_distances_3 x.1.1 x.1.2.1 x.2.1.1 x.2.1.2.1 x.2.1.2.2.1
theorem measure_distances_3.F_eq (x_ : (List Int)) (y : (List Int)) (o0_0 : Int) (o0_1 : Int) (o0_2 : Int) : measure_distances_3.F ((x_, y, (), ()), ((o0_0, o0_1, o0_2, ()), ())) = measure_distances_3.f edit_Distance.F measure_whole.F x_ y o0_0 o0_1 o0_2 := rfl
theorem measure_distances_3.ok {tabs : List (Nat × Go.Obj)} (ht : TabsOk tabs) : FOK Go.Proofs.Tryd.prog tabs 46 (FE.of [true, true] false measure_distances_3.sh measure_distances_3.osh measure_distances_3.F) := by
  refine fn_keeps (E := (measure_distances_3.E edit_Distance.F measure_whole.F)) (c := measure_distances_3.c) (fn := Go.Proofs.Tryd.f46) (hs := measure_distances_3.hs) (by kernel_rfl) Go.Proofs.Tryd.func46 ⟨by kernel_rfl, by kernel_rfl, tb, by kernel_rfl, by kernel_rfl, by kernel_rfl, by kernel_rfl, by kernel_rfl⟩ ⟨fun g ks fe h => ?_, gt_ok ht⟩ ?_ (fun x => measure_distances_3.eq edit_Distance.F measure_whole.F x)
  · rcases c_cons h with ⟨rfl, rfl⟩ | h
    · exact edit_Distance.ok ht
    rcases c_cons h with ⟨rfl, rfl⟩ | h
    · exact measure_whole.ok ht
    cases h
  · exact known_at 0 (by kernel_rfl) fun i hi => absurd hi (Nat.not_lt_zero i)

/-! measure_Distance -/
def measure_Distance.f (g_measure_Check : (((Int × Int × Int × Unit) × Unit) × (Unit)) → Option ((Int × Unit) × (Unit))) (g_measure_distances : (((Int × Int × Int × Unit) × Unit) × (Unit)) → Option ((Unit × Unit) × ((Int × Int × Int × Unit) × Unit))) (g_measure_distances_1 : (((List Int) × (List Int) × Unit) × (Unit)) → Option (((Int × Int × Unit) × Int × Unit) × (Unit))) (g_euclid_Shifted : (((List Int) × (List Int) × Unit) × (Unit)) → Option (((Int × Int × Unit) × Int × Unit) × (Unit))) (g_normal_Gap : (((List Int) × (List Int) × Unit) × (Unit)) → Option (((Int × Int × Unit) × Int × Unit) × (Unit))) (g_measure_distances_2 : (((List Int) × (List Int) × Unit × Unit) × ((Int × Int × Int × Unit) × Unit)) → Option (((Int × Int × Unit) × Int × Unit) × ((Int × Int × Int × Unit) × Unit))) (g_measure_distances_3 : (((List Int) × (List Int) × Unit × Unit) × ((Int × Int × Int × Unit) × Unit)) → Option (((Int × Int × Unit) × Int × Unit) × ((Int × Int × Int × Unit) × Unit))) (m_Kind : Int) (m_Band : Int) (m_Gap : Int) (x_ : (List Int)) (y : (List Int)) : Option (((Int × Int × Unit) × Int × Unit) × (Unit)) :=
  (Option.bind (g_measure_Check (((m_Kind, (m_Band, (m_Gap, ()))), ()), ())) (fun y0 =>
  (bif (y0.1.1 != (0:Int)) then
   (some ((((0:Int), ((0:Int), ())), (y0.1.1, ())), ()))
  else
   (Option.bind (g_measure_distances (((m_Kind, (m_Band, (m_Gap, ()))), ()), ())) (fun y2 =>
   (bif (m_Kind == (1:Int)) then
    (Option.bind (g_measure_distances_1 ((x_, (y, ())), ())) (fun y4 =>
    (some (((y4.1.1.1, (y4.1.1.2.1, ())), (y4.1.2.1, ())), ()))))
   else
    (bif (m_Kind == (2:Int)) then
     (Option.bind (g_euclid_Shifted ((x_, (y, ())), ())) (fun y5 =>
     (some (((y5.1.1.1, (y5.1.1.2.1, ())), (y5.1.2.1, ())), ()))))
    else
     (bif (m_Kind == (3:Int)) then
      (Option.bind (g_normal_Gap ((x_, (y, ())), ())) (fun y6 =>
      (some (((y6.1.1.1, (y6.1.1.2.1, ())), (y6.1.2.1, ())), ()))))
     else
      (bif (m_Kind == (4:Int)) then
       (Option.bind (g_measure_distances_2 ((x_, (y, ((), ()))), ((y2.2.1.1, (y2.2.1.2.1, (y2.2.1.2.2.1, ()))), ()))) (fun y7 =>
       (some (((y7.1.1.1, (y7.1.1.2.1, ())), (y7.1.2.1, ())), ()))))
      else
       (bif (m_Kind == (5:Int)) then
        (Option.bind (g_measure_distances_3 ((x_, (y, ((), ()))), ((y2.2.1.1, (y2.2.1.2.1, (y2.2.1.2.2.1, ()))), ()))) (fun y8 =>
        (some (((y8.1.1.1, (y8.1.1.2.1, ())), (y8.1.2.1, ())), ()))))
       else
        none))))))))))
theorem measure_Distance.eq (g_measure_Check : measure_Check.sh.X → Option measure_Check.osh.X) (g_measure_distances : measure_distances.sh.X → Option measure_distances.osh.X) (g_measure_distances_1 : measure_distances_1.sh.X → Option measure_distances_1.osh.X) (g_euclid_Shifted : euclid_Shifted.sh.X → Option euclid_Shifted.osh.X) (g_normal_Gap : normal_Gap.sh.X → Option normal_Gap.osh.X) (g_measure_distances_2 : measure_distances_2.sh.X → Option measure_distances_2.osh.X) (g_measure_distances_3 : measure_distances_3.sh.X → Option measure_distances_3.osh.X) (x : (((Int × Int × Int × Unit) × (List Int) × (List Int) × Unit) × (Unit))) : (bodyO (measure_Distance.E g_measure_Check g_measure_distances g_measure_distances_1 g_euclid_Shifted g_normal_Gap g_measure_distances_2 g_measure_distances_3) (mk measure_Distance.hs measure_Distance.c []) Go.Proofs.Tryd.f11.results.toList measure_Distance.sh measure_Distance.osh x).run _ some = measure_Distance.f g_measure_Check g_measure_distances g_measure_distances_1 g_euclid_Shifted g_normal_Gap g_measure_distances_2 g_measure_distances_3 x.1.1.1 x.1.1.2.1 x.1.1.2.2.1 x.1.2.1 x.1.2.2.1 := by
  show _ = (_ : Option _)
  kernel_rfl
noncomputable def measure_Distance (m_Kind : Int) (m_Band : Int) (m_Gap : Int) (x_ : (List Int)) (y : (List Int)) : Option (((Int × Int × Unit) × Int × Unit) × (Unit)) := measure_Distance.f measure_Check.F measure_distances.F measure_distances_1.F euclid_Shifted.F normal_Gap.F measure_distances_2.F measure_distances_3.F m_Kind m_Band m_Gap x_ y
noncomputable def measure_Distance.F (x : (((Int × Int × Int × Unit) × (List Int) × (List Int) × Unit) × (Unit))) : Option (((Int × Int × Unit) × Int × Unit) × (Unit)) := measure_Distance x.1.1.1 x.1.1.2.1 x.1.1.2.2.1 x.1.2.1 x.1.2.2.1
theorem measure_Distance.F_eq (m_Kind : Int) (m_Band : Int) (m_Gap : Int) (x_ : (List Int)) (y : (List Int)) : measure_Distance.F (((m_Kind, m_Band, m_Gap, ()), x_, y, ()), ()) = measure_Distance.f measure_Check.F measure_distances.F measure_distances_1.F euclid_Shifted.F normal_Gap.F measure_distances_2.F measure_distances_3.F m_Kind m_Band m_Gap x_ y := rfl
theorem measure_Distance.ok {tabs : List (Nat × Go.Obj)} (ht : TabsOk tabs) : FOK Go.Proofs.Tryd.prog tabs 11 (FE.of [true, true, true] false measure_Distance.sh measure_Distance.osh measure_Distance.F) := by
  refine fn_keeps (E := (measure_Distance.E measure_Check.F measure_distances.F measure_distances_1.F euclid_Shifted.F normal_Gap.F measure_distances_2.F measure_distances_3.F)) (c := measure_Distance.c) (fn := Go.Proofs.Tryd.f11) (hs := measure_Distance.hs) (by kernel_rfl) Go.Proofs.Tryd.func11 ⟨by kernel_rfl, by kernel_rfl, tb, by kernel_rfl, by kernel_rfl, by kernel_rfl, by kernel_rfl, by kernel_rfl⟩ ⟨fun g ks fe h => ?_, gt_ok ht⟩ ?_ (fun x => measure_Distance.eq measure_Check.F measure_distances.F measure_distances_1.F euclid_Shifted.F normal_Gap.F measure_distances_2.F measure_distances_3.F x)
  · rcases c_cons h with ⟨rfl, rfl⟩ | h
    · exact measure_Check.ok ht
    rcases c_cons h with ⟨rfl, rfl⟩ | h
    · exact measure_distances.ok ht
    rcases c_cons h with ⟨rfl, rfl⟩ | h
    · exact measure_distances_1.ok ht
    rcases c_cons h with ⟨rfl, rfl⟩ | h
    · exact euclid_Shifted.ok ht
    rcases c_cons h with ⟨rfl, rfl⟩ | h
    · exact normal_Gap.ok ht
    rcases c_cons h with ⟨rfl, rfl⟩ | h
    · exact measure_distances_2.ok ht
    rcases c_cons h with ⟨rfl, rfl⟩ | h
    · exact measure_distances_3.ok ht
    cases h
  · exact known_at 0 (by kernel_rfl) fun i hi => absurd hi (Nat.not_lt_zero i)

/-! law17_awake -/
def law17_awake.f0 (g_measure_Check : (((Int × Int × Int × Unit) × Unit) × (Unit)) → Option ((Int × Unit) × (Unit))) (e_2 : Int) (f_4 : Int) (o0_0 : Int) (o0_1 : Int) (o0_2 : Int) (o1_0 : Int) (o1_1 : Int) : Option (((Bool × Unit) × (Unit)) ⊕ Empty) :=
  (bif (e_2 == (0:Int)) then
   (bif ((o0_0 == (5:Int)) && ((o0_1 == (0:Int)) && ((o0_2 == (-(5:Int))) && Bool.true))) then
    (bif (f_4 == (0:Int)) then
     (bif ((o1_0 == (0:Int)) && ((o1_1 == (1:Int)) && Bool.true)) then
      (Option.bind (g_measure_Check ((((0:Int), ((1:Int), ((0:Int), ()))), ()), ())) (fun y4 =>
      (some (Sum.inl (((y4.1.1 == (9:Int)), ()), ())))))
     else
      (some (Sum.inl ((Bool.false, ()), ()))))
    else
     (some (Sum.inl ((Bool.false, ()), ()))))
   else
    (some (Sum.inl ((Bool.false, ()), ()))))
  else
   (some (Sum.inl ((Bool.false, ()), ()))))
theorem law17_awake.eq0 (g_measure_Parse : measure_Parse.sh.X → Option measure_Parse.osh.X) (g_measure_Distance : measure_Distance.sh.X → Option measure_Distance.osh.X) (g_measure_Check : measure_Check.sh.X → Option measure_Check.osh.X) (l0 : law17_awake.s0.X → Option (sumX law17_awake.x0)) (L : ((Unit × Int × Unit × Int × Unit) × ((Int × Int × Int × Unit) × (Int × Int × Unit) × Unit)) → Option (((Bool × Unit) × (Unit)) ⊕ Empty)) (x : ((Unit × Int × Unit × Int × Unit) × ((Int × Int × Int × Unit) × (Int × Int × Unit) × Unit))) : (roundK (law17_awake.E g_measure_Parse g_measure_Distance g_measure_Check l0) law17_awake.s0 [1, 2, 3, 4] [(0, [0])] false (((mk law17_awake.hs law17_awake.c []).atoms.getD 0 .bad).body) law17_awake.x0 L x).run _ some = law17_awake.f0 g_measure_Check x.1.2.1 x.1.2.2.2.1 x.2.1.1 x.2.1.2.1 x.2.1.2.2.1 x.2.2.1.1 x.2.2.1.2.1 := by
  show _ = (_ : Option _)
  kernel_rfl
noncomputable def law17_awake.L0 : ((Unit × Int × Unit × Int × Unit) × ((Int × Int × Int × Unit) × (Int × Int × Unit) × Unit)) → Option (((Bool × Unit) × (Unit)) ⊕ Empty) := fun x => law17_awake.f0 measure_Check.F x.1.2.1 x.1.2.2.2.1 x.2.1.1 x.2.1.2.1 x.2.1.2.2.1 x.2.2.1.1 x.2.2.1.2.1
def law17_awake.f (g_measure_Parse : ((ByteArray × Unit) × (Unit)) → Option (((Int × Int × Int × Unit) × Int × Unit) × (Unit))) (g_measure_Distance : (((Int × Int × Int × Unit) × (List Int) × (List Int) × Unit) × (Unit)) → Option (((Int × Int × Unit) × Int × Unit) × (Unit))) (l0 : ((Unit × Int × Unit × Int × Unit) × ((Int × Int × Int × Unit) × (Int × Int × Unit) × Unit)) → Option (((Bool × Unit) × (Unit)) ⊕ Empty)) : Option ((Bool × Unit) × (Unit)) :=
  (Option.bind (g_measure_Parse (((ByteArray.mk #[(101:UInt8), (100:UInt8), (105:UInt8), (116:UInt8), (32:UInt8), (45:UInt8), (53:UInt8)]), ()), ())) (fun y0 =>
  (Option.bind (g_measure_Distance ((((4:Int), ((1:Int), ((0:Int), ()))), ([(0:Int), (0:Int), (5:Int)], ([(0:Int), (5:Int), (5:Int)], ()))), ())) (fun y1 =>
  (Option.bind (l0 (((), (y0.1.2.1, ((), (y1.1.2.1, ())))), ((y0.1.1.1, (y0.1.1.2.1, (y0.1.1.2.2.1, ()))), ((y1.1.1.1, (y1.1.1.2.1, ())), ())))) (fun y2 =>
  (Sum.elim (fun a3 =>
   (some ((a3.1.1, ()), ()))) (fun b3 =>
   (Empty.elim b3)) y2)))))))
theorem law17_awake.eq (g_measure_Parse : measure_Parse.sh.X → Option measure_Parse.osh.X) (g_measure_Distance : measure_Distance.sh.X → Option measure_Distance.osh.X) (g_measure_Check : measure_Check.sh.X → Option measure_Check.osh.X) (l0 : law17_awake.s0.X → Option (sumX law17_awake.x0)) (x : ((Unit) × (Unit))) : (bodyO (law17_awake.E g_measure_Parse g_measure_Distance g_measure_Check l0) (mk law17_awake.hs law17_awake.c []) Go.Proofs.Tryd.f13.results.toList law17_awake.sh law17_awake.osh x).run _ some = law17_awake.f g_measure_Parse g_measure_Distance l0 := by
  show _ = (_ : Option _)
  kernel_rfl
noncomputable def law17_awake : Option ((Bool × Unit) × (Unit)) := law17_awake.f measure_Parse.F measure_Distance.F law17_awake.L0
noncomputable def law17_awake.F (x : ((Unit) × (Unit))) : Option ((Bool × Unit) × (Unit)) := law17_awake
theorem law17_awake.L0_eq (e_2 : Int) (f_4 : Int) (o0_0 : Int) (o0_1 : Int) (o0_2 : Int) (o1_0 : Int) (o1_1 : Int) : law17_awake.L0 (((), e_2, (), f_4, ()), ((o0_0, o0_1, o0_2, ()), (o1_0, o1_1, ()), ())) = law17_awake.f0 measure_Check.F e_2 f_4 o0_0 o0_1 o0_2 o1_0 o1_1 := rfl
theorem law17_awake.F_eq : law17_awake.F ((), ()) = law17_awake.f measure_Parse.F measure_Distance.F law17_awake.L0 := rfl
theorem law17_awake.ok {tabs : List (Nat × Go.Obj)} (ht : TabsOk tabs) : FOK Go.Proofs.Tryd.prog tabs 13 (FE.of [] false law17_awake.sh law17_awake.osh law17_awake.F) := by
  refine fn_keeps (E := (law17_awake.E measure_Parse.F measure_Distance.F measure_Check.F law17_awake.L0)) (c := law17_awake.c) (fn := Go.Proofs.Tryd.f13) (hs := law17_awake.hs) (by kernel_rfl) Go.Proofs.Tryd.func13 ⟨by kernel_rfl, by kernel_rfl, tb, by kernel_rfl, by kernel_rfl, by kernel_rfl, by kernel_rfl, by kernel_rfl⟩ ⟨fun g ks fe h => ?_, gt_ok ht⟩ ?_ (fun x => law17_awake.eq measure_Parse.F measure_Distance.F measure_Check.F law17_awake.L0 x)
  · rcases c_cons h with ⟨rfl, rfl⟩ | h
    · exact measure_Parse.ok ht
    rcases c_cons h with ⟨rfl, rfl⟩ | h
    · exact measure_Distance.ok ht
    rcases c_cons h with ⟨rfl, rfl⟩ | h
    · exact measure_Check.ok ht
    cases h
  · refine known_at 1 (by kernel_rfl) fun i hi => ?_
    match i, hi with
    | 0, _ => exact atom_at (id := 0) (live := [1, 2, 3, 4]) (outs := [(0, [0])]) (loop := false) (by kernel_rfl) (cut_ok (E := (law17_awake.E measure_Parse.F measure_Distance.F measure_Check.F law17_awake.L0)) (sh := law17_awake.s0) (es := law17_awake.x0) rfl (fun L x => law17_awake.eq0 measure_Parse.F measure_Distance.F measure_Check.F law17_awake.L0 L x))
    | n + 1, h => exact absurd h (by omega)

/-! keep_New -/
def keep_New.f (l : (List Int)) : Option ((Unit × Unit) × (((List Int) × Int × Unit) × Unit)) :=
  (bif (decide ((0:Int) ≤ (Go.VI.mn (((List.length l) : Nat) : Int) (2000:Int)))) then
   (bif (decide ((Go.VI.mn (((List.length l) : Nat) : Int) (2000:Int)) ≤ (((List.length l) : Nat) : Int))) then
    (some (((), ()), (((List.drop (Int.toNat (0:Int)) (List.take (Int.toNat (Go.VI.mn (((List.length l) : Nat) : Int) (2000:Int))) l)), ((0:Int), ())), ())))
   else
    none)
  else
   none)
theorem keep_New.eq (x : (((List Int) × Unit) × (Unit))) : (bodyO (keep_New.E) (mk keep_New.hs keep_New.c []) Go.Proofs.Tryd.f8.results.toList keep_New.sh keep_New.osh x).run _ some = keep_New.f x.1.1 := by
  show _ = (_ : Option _)
  kernel_rfl
noncomputable def keep_New (l : (List Int)) : Option ((Unit × Unit) × (((List Int) × Int × Unit) × Unit)) := keep_New.f l
noncomputable def keep_New.F (x : (((List Int) × Unit) × (Unit))) : Option ((Unit × Unit) × (((List Int) × Int × Unit) × Unit)) := keep_New x.1.1
theorem keep_New.F_eq (l : (List Int)) : keep_New.F ((l, ()), ()) = keep_New.f l := rfl
theorem keep_New.ok {tabs : List (Nat × Go.Obj)} (ht : TabsOk tabs) : FOK Go.Proofs.Tryd.prog tabs 8 (FE.of [true] true keep_New.sh keep_New.osh keep_New.F) := by
  refine fn_keeps (E := (keep_New.E)) (c := keep_New.c) (fn := Go.Proofs.Tryd.f8) (hs := keep_New.hs) (by kernel_rfl) Go.Proofs.Tryd.func8 ⟨by kernel_rfl, by kernel_rfl, tb, by kernel_rfl, by kernel_rfl, by kernel_rfl, by kernel_rfl, by kernel_rfl⟩ ⟨fun g ks fe h => ?_, gt_ok ht⟩ ?_ (fun x => keep_New.eq x)
  · cases h
  · exact known_at 0 (by kernel_rfl) fun i hi => absurd hi (Nat.not_lt_zero i)

/-! keep_Src_Raw -/
def keep_Src_Raw.f (o0_0 : (List Int)) (o0_1 : Int) : Option ((Int × Unit) × (((List Int) × Int × Unit) × Unit)) :=
  (bif (decide (o0_1 ≥ (((List.length o0_0) : Nat) : Int))) then
   (some (((0:Int), ()), ((o0_0, (o0_1, ())), ())))
  else
   (bif (decide ((0:Int) ≤ (Go.IntKind.wrap Go.IntKind.i64 ((Go.IntKind.wrap Go.IntKind.i64 (o0_1 + (1:Int))) - (1:Int))))) then
    (bif (decide ((Go.IntKind.wrap Go.IntKind.i64 ((Go.IntKind.wrap Go.IntKind.i64 (o0_1 + (1:Int))) - (1:Int))) < (((List.length o0_0) : Nat) : Int))) then
     (some (((List.getD o0_0 (Int.toNat (Go.IntKind.wrap Go.IntKind.i64 ((Go.IntKind.wrap Go.IntKind.i64 (o0_1 + (1:Int))) - (1:Int)))) (0:Int)), ()), ((o0_0, ((Go.IntKind.wrap Go.IntKind.i64 (o0_1 + (1:Int))), ())), ())))
    else
     none)
   else
    none))
theorem keep_Src_Raw.eq (x : ((Unit × Unit) × (((List Int) × Int × Unit) × Unit))) : (bodyO (keep_Src_Raw.E) (mk keep_Src_Raw.hs keep_Src_Raw.c []) Go.Proofs.Tryd.f38.results.toList keep_Src_Raw.sh keep_Src_Raw.osh x).run _ some = keep_Src_Raw.f x.2.1.1 x.2.1.2.1 := by
  show _ = (_ : Option _)
  kernel_rfl
noncomputable def keep_Src_Raw (o0_0 : (List Int)) (o0_1 : Int) : Option ((Int × Unit) × (((List Int) × Int × Unit) × Unit)) := keep_Src_Raw.f o0_0 o0_1
noncomputable def keep_Src_Raw.F (x : ((Unit × Unit) × (((List Int) × Int × Unit) × Unit))) : Option ((Int × Unit) × (((List Int) × Int × Unit) × Unit)) := keep_Src_Raw x.2.1.1 x.2.1.2.1
theorem keep_Src_Raw.F_eq (o0_0 : (List Int)) (o0_1 : Int) : keep_Src_Raw.F (((), ()), ((o0_0, o0_1, ()), ())) = keep_Src_Raw.f o0_0 o0_1 := rfl
theorem keep_Src_Raw.ok {tabs : List (Nat × Go.Obj)} (ht : TabsOk tabs) : FOK Go.Proofs.Tryd.prog tabs 38 (FE.of [true] true keep_Src_Raw.sh keep_Src_Raw.osh keep_Src_Raw.F) := by
  refine fn_keeps (E := (keep_Src_Raw.E)) (c := keep_Src_Raw.c) (fn := Go.Proofs.Tryd.f38) (hs := keep_Src_Raw.hs) (by kernel_rfl) Go.Proofs.Tryd.func38 ⟨by kernel_rfl, by kernel_rfl, tb, by kernel_rfl, by kernel_rfl, by kernel_rfl, by kernel_rfl, by kernel_rfl⟩ ⟨fun g ks fe h => ?_, gt_ok ht⟩ ?_ (fun x => keep_Src_Raw.eq x)
  · cases h
  · exact known_at 0 (by kernel_rfl) fun i hi => absurd hi (Nat.not_lt_zero i)

/-! keep_Mod -/
def keep_Mod.f (x_ : Int) (n : Int) : Option ((Int × Unit) × (Unit)) :=
  (bif (decide (n < (1:Int))) then
   (some (((0:Int), ()), ()))
  else
   (bif (!(decide (n = (0:Int)))) then
    (bif (decide ((Int.tmod x_ n) < (0:Int))) then
     (some (((Go.IntKind.wrap Go.IntKind.i64 ((Int.tmod x_ n) + n)), ()), ()))
    else
     (some (((Int.tmod x_ n), ()), ())))
   else
    none))
theorem keep_Mod.eq (x : ((Int × Int × Unit) × (Unit))) : (bodyO (keep_Mod.E) (mk keep_Mod.hs keep_Mod.c []) Go.Proofs.Tryd.f37.results.toList keep_Mod.sh keep_Mod.osh x).run _ some = keep_Mod.f x.1.1 x.1.2.1 := by
  show _ = (_ : Option _)
  kernel_rfl
noncomputable def keep_Mod (x_ : Int) (n : Int) : Option ((Int × Unit) × (Unit)) := keep_Mod.f x_ n
noncomputable def keep_Mod.F (x : ((Int × Int × Unit) × (Unit))) : Option ((Int × Unit) × (Unit)) := keep_Mod x.1.1 x.1.2.1
theorem keep_Mod.F_eq (x_ : Int) (n : Int) : keep_Mod.F ((x_, n, ()), ()) = keep_Mod.f x_ n := rfl
theorem keep_Mod.ok {tabs : List (Nat × Go.Obj)} (ht : TabsOk tabs) : FOK Go.Proofs.Tryd.prog tabs 37 (FE.of [true, true] false keep_Mod.sh keep_Mod.osh keep_Mod.F) := by
  refine fn_keeps (E := (keep_Mod.E)) (c := keep_Mod.c) (fn := Go.Proofs.Tryd.f37) (hs := keep_Mod.hs) (by kernel_rfl) Go.Proofs.Tryd.func37 ⟨by kernel_rfl, by kernel_rfl, tb, by kernel_rfl, by kernel_rfl, by kernel_rfl, by kernel_rfl, by kernel_rfl⟩ ⟨fun g ks fe h => ?_, gt_ok ht⟩ ?_ (fun x => keep_Mod.eq x)
  · cases h
  · exact known_at 0 (by kernel_rfl) fun i hi => absurd hi (Nat.not_lt_zero i)

/-! keep_Src_N -/
def keep_Src_N.f (g_keep_Src_Raw : ((Unit × Unit) × (((List Int) × Int × Unit) × Unit)) → Option ((Int × Unit) × (((List Int) × Int × Unit) × Unit))) (g_keep_Mod : ((Int × Int × Unit) × (Unit)) → Option ((Int × Unit) × (Unit))) (n : Int) (o0_0 : (List Int)) (o0_1 : Int) : Option ((Int × Unit) × (((List Int) × Int × Unit) × Unit)) :=
  (Option.bind (g_keep_Src_Raw (((), ()), ((o0_0, (o0_1, ())), ()))) (fun y0 =>
  (Option.bind (g_keep_Mod ((y0.1.1, (n, ())), ())) (fun y1 =>
  (some ((y1.1.1, ()), ((y0.2.1.1, (y0.2.1.2.1, ())), ())))))))
theorem keep_Src_N.eq (g_keep_Src_Raw : keep_Src_Raw.sh.X → Option keep_Src_Raw.osh.X) (g_keep_Mod : keep_Mod.sh.X → Option keep_Mod.osh.X) (x : ((Unit × Int × Unit) × (((List Int) × Int × Unit) × Unit))) : (bodyO (keep_Src_N.E g_keep_Src_Raw g_keep_Mod) (mk keep_Src_N.hs keep_Src_N.c []) Go.Proofs.Tryd.f24.results.toList keep_Src_N.sh keep_Src_N.osh x).run _ some = keep_Src_N.f g_keep_Src_Raw g_keep_Mod x.1.2.1 x.2.1.1 x.2.1.2.1 := by
  show _ = (_ : Option _)
  kernel_rfl
noncomputable def keep_Src_N (n : Int) (o0_0 : (List Int)) (o0_1 : Int) : Option ((Int × Unit) × (((List Int) × Int × Unit) × Unit)) := keep_Src_N.f keep_Src_Raw.F keep_Mod.F n o0_0 o0_1
noncomputable def keep_Src_N.F (x : ((Unit × Int × Unit) × (((List Int) × Int × Unit) × Unit))) : Option ((Int × Unit) × (((List Int) × Int × Unit) × Unit)) := keep_Src_N x.1.2.1 x.2.1.1 x.2.1.2.1
theorem keep_Src_N.F_eq (n : Int) (o0_0 : (List Int)) (o0_1 : Int) : keep_Src_N.F (((), n, ()), ((o0_0, o0_1, ()), ())) = keep_Src_N.f keep_Src_Raw.F keep_Mod.F n o0_0 o0_1 := rfl
theorem keep_Src_N.ok {tabs : List (Nat × Go.Obj)} (ht : TabsOk tabs) : FOK Go.Proofs.Tryd.prog tabs 24 (FE.of [true, true] true keep_Src_N.sh keep_Src_N.osh keep_Src_N.F) := by
  refine fn_keeps (E := (keep_Src_N.E keep_Src_Raw.F keep_Mod.F)) (c := keep_Src_N.c) (fn := Go.Proofs.Tryd.f24) (hs := keep_Src_N.hs) (by kernel_rfl) Go.Proofs.Tryd.func24 ⟨by kernel_rfl, by kernel_rfl, tb, by kernel_rfl, by kernel_rfl, by kernel_rfl, by kernel_rfl, by kernel_rfl⟩ ⟨fun g ks fe h => ?_, gt_ok ht⟩ ?_ (fun x => keep_Src_N.eq keep_Src_Raw.F keep_Mod.F x)
  · rcases c_cons h with ⟨rfl, rfl⟩ | h
    · exact keep_Src_Raw.ok ht
    rcases c_cons h with ⟨rfl, rfl⟩ | h
    · exact keep_Mod.ok ht
    cases h
  · exact known_at 0 (by kernel_rfl) fun i hi => absurd hi (Nat.not_lt_zero i)

/-! keep_Src_Range -/
def keep_Src_Range.f (g_keep_Src_N : ((Unit × Int × Unit) × (((List Int) × Int × Unit) × Unit)) → Option ((Int × Unit) × (((List Int) × Int × Unit) × Unit))) (lo : Int) (hi : Int) (o0_0 : (List Int)) (o0_1 : Int) : Option ((Int × Unit) × (((List Int) × Int × Unit) × Unit)) :=
  (Option.bind (g_keep_Src_N (((), ((Go.IntKind.wrap Go.IntKind.i64 ((Go.IntKind.wrap Go.IntKind.i64 (hi - lo)) + (1:Int))), ())), ((o0_0, (o0_1, ())), ()))) (fun y0 =>
  (some (((Go.IntKind.wrap Go.IntKind.i64 (lo + y0.1.1)), ()), ((y0.2.1.1, (y0.2.1.2.1, ())), ())))))
theorem keep_Src_Range.eq (g_keep_Src_N : keep_Src_N.sh.X → Option keep_Src_N.osh.X) (x : ((Unit × Int × Int × Unit) × (((List Int) × Int × Unit) × Unit))) : (bodyO (keep_Src_Range.E g_keep_Src_N) (mk keep_Src_Range.hs keep_Src_Range.c []) Go.Proofs.Tryd.f22.results.toList keep_Src_Range.sh keep_Src_Range.osh x).run _ some = keep_Src_Range.f g_keep_Src_N x.1.2.1 x.1.2.2.1 x.2.1.1 x.2.1.2.1 := by
  show _ = (_ : Option _)
  kernel_rfl
noncomputable def keep_Src_Range (lo : Int) (hi : Int) (o0_0 : (List Int)) (o0_1 : Int) : Option ((Int × Unit) × (((List Int) × Int × Unit) × Unit)) := keep_Src_Range.f keep_Src_N.F lo hi o0_0 o0_1
noncomputable def keep_Src_Range.F (x : ((Unit × Int × Int × Unit) × (((List Int) × Int × Unit) × Unit))) : Option ((Int × Unit) × (((List Int) × Int × Unit) × Unit)) := keep_Src_Range x.1.2.1 x.1.2.2.1 x.2.1.1 x.2.1.2.1
theorem keep_Src_Range.F_eq (lo : Int) (hi : Int) (o0_0 : (List Int)) (o0_1 : Int) : keep_Src_Range.F (((), lo, hi, ()), ((o0_0, o0_1, ()), ())) = keep_Src_Range.f keep_Src_N.F lo hi o0_0 o0_1 := rfl
theorem keep_Src_Range.ok {tabs : List (Nat × Go.Obj)} (ht : TabsOk tabs) : FOK Go.Proofs.Tryd.prog tabs 22 (FE.of [true, true, true] true keep_Src_Range.sh keep_Src_Range.osh keep_Src_Range.F) := by
  refine fn_keeps (E := (keep_Src_Range.E keep_Src_N.F)) (c := keep_Src_Range.c) (fn := Go.Proofs.Tryd.f22) (hs := keep_Src_Range.hs) (by kernel_rfl) Go.Proofs.Tryd.func22 ⟨by kernel_rfl, by kernel_rfl, tb, by kernel_rfl, by kernel_rfl, by kernel_rfl, by kernel_rfl, by kernel_rfl⟩ ⟨fun g ks fe h => ?_, gt_ok ht⟩ ?_ (fun x => keep_Src_Range.eq keep_Src_N.F x)
  · rcases c_cons h with ⟨rfl, rfl⟩ | h
    · exact keep_Src_N.ok ht
    cases h
  · exact known_at 0 (by kernel_rfl) fun i hi => absurd hi (Nat.not_lt_zero i)

/-! keep_Src_Pick -/
def keep_Src_Pick.f (g_keep_Src_N : ((Unit × Int × Unit) × (((List Int) × Int × Unit) × Unit)) → Option ((Int × Unit) × (((List Int) × Int × Unit) × Unit))) (l : (List Int)) (o0_0 : (List Int)) (o0_1 : Int) : Option ((Int × Unit) × (((List Int) × Int × Unit) × Unit)) :=
  (Option.bind (g_keep_Src_N (((), ((((List.length l) : Nat) : Int), ())), ((o0_0, (o0_1, ())), ()))) (fun y0 =>
  (bif (decide ((0:Int) ≤ y0.1.1)) then
   (bif (decide (y0.1.1 < (((List.length l) : Nat) : Int))) then
    (some (((List.getD l (Int.toNat y0.1.1) (0:Int)), ()), ((y0.2.1.1, (y0.2.1.2.1, ())), ())))
   else
    none)
  else
   none)))
theorem keep_Src_Pick.eq (g_keep_Src_N : keep_Src_N.sh.X → Option keep_Src_N.osh.X) (x : ((Unit × (List Int) × Unit) × (((List Int) × Int × Unit) × Unit))) : (bodyO (keep_Src_Pick.E g_keep_Src_N) (mk keep_Src_Pick.hs keep_Src_Pick.c []) Go.Proofs.Tryd.f23.results.toList keep_Src_Pick.sh keep_Src_Pick.osh x).run _ some = keep_Src_Pick.f g_keep_Src_N x.1.2.1 x.2.1.1 x.2.1.2.1 := by
  show _ = (_ : Option _)
  kernel_rfl
noncomputable def keep_Src_Pick (l : (List Int)) (o0_0 : (List Int)) (o0_1 : Int) : Option ((Int × Unit) × (((List Int) × Int × Unit) × Unit)) := keep_Src_Pick.f keep_Src_N.F l o0_0 o0_1
noncomputable def keep_Src_Pick.F (x : ((Unit × (List Int) × Unit) × (((List Int) × Int × Unit) × Unit))) : Option ((Int × Unit) × (((List Int) × Int × Unit) × Unit)) := keep_Src_Pick x.1.2.1 x.2.1.1 x.2.1.2.1
theorem keep_Src_Pick.F_eq (l : (List Int)) (o0_0 : (List Int)) (o0_1 : Int) : keep_Src_Pick.F (((), l, ()), ((o0_0, o0_1, ()), ())) = keep_Src_Pick.f keep_Src_N.F l o0_0 o0_1 := rfl
theorem keep_Src_Pick.ok {tabs : List (Nat × Go.Obj)} (ht : TabsOk tabs) : FOK Go.Proofs.Tryd.prog tabs 23 (FE.of [true, true] true keep_Src_Pick.sh keep_Src_Pick.osh keep_Src_Pick.F) := by
  refine fn_keeps (E := (keep_Src_Pick.E keep_Src_N.F)) (c := keep_Src_Pick.c) (fn := Go.Proofs.Tryd.f23) (hs := keep_Src_Pick.hs) (by kernel_rfl) Go.Proofs.Tryd.func23 ⟨by kernel_rfl, by kernel_rfl, tb, by kernel_rfl, by kernel_rfl, by kernel_rfl, by kernel_rfl, by kernel_rfl⟩ ⟨fun g ks fe h => ?_, gt_ok ht⟩ ?_ (fun x => keep_Src_Pick.eq keep_Src_N.F x)
  · rcases c_cons h with ⟨rfl, rfl⟩ | h
    · exact keep_Src_N.ok ht
    cases h
  · exact known_at 0 (by kernel_rfl) fun i hi => absurd hi (Nat.not_lt_zero i)

/-! keep_Src_Measure -/
def keep_Src_Measure.f (g_keep_Src_Range : ((Unit × Int × Int × Unit) × (((List Int) × Int × Unit) × Unit)) → Option ((Int × Unit) × (((List Int) × Int × Unit) × Unit))) (g_keep_Src_Pick : ((Unit × (List Int) × Unit) × (((List Int) × Int × Unit) × Unit)) → Option ((Int × Unit) × (((List Int) × Int × Unit) × Unit))) (o0_0 : (List Int)) (o0_1 : Int) : Option (((Int × Int × Int × Unit) × Unit) × (((List Int) × Int × Unit) × Unit)) :=
  (Option.bind (g_keep_Src_Range (((), ((1:Int), ((5:Int), ()))), ((o0_0, (o0_1, ())), ()))) (fun y0 =>
  (bif (y0.1.1 == (4:Int)) then
   (Option.bind (g_keep_Src_Pick (((), ([(0:Int), (1:Int), (2:Int), (3:Int), (5:Int), (32:Int)], ())), ((y0.2.1.1, (y0.2.1.2.1, ())), ()))) (fun y2 =>
   (bif (y0.1.1 == (5:Int)) then
    (Option.bind (g_keep_Src_Pick (((), ([(0:Int), (0:Int), (1:Int), (-(3:Int)), (20:Int), (-(1000:Int))], ())), ((y2.2.1.1, (y2.2.1.2.1, ())), ()))) (fun y4 =>
    (some (((y0.1.1, (y2.1.1, (y4.1.1, ()))), ()), ((y4.2.1.1, (y4.2.1.2.1, ())), ())))))
   else
    (some (((y0.1.1, (y2.1.1, ((0:Int), ()))), ()), ((y2.2.1.1, (y2.2.1.2.1, ())), ()))))))
  else
   (bif (y0.1.1 == (5:Int)) then
    (Option.bind (g_keep_Src_Pick (((), ([(0:Int), (0:Int), (1:Int), (-(3:Int)), (20:Int), (-(1000:Int))], ())), ((y0.2.1.1, (y0.2.1.2.1, ())), ()))) (fun y3 =>
    (some (((y0.1.1, ((0:Int), (y3.1.1, ()))), ()), ((y3.2.1.1, (y3.2.1.2.1, ())), ())))))
   else
    (some (((y0.1.1, ((0:Int), ((0:Int), ()))), ()), ((y0.2.1.1, (y0.2.1.2.1, ())), ())))))))
theorem keep_Src_Measure.eq (g_keep_Src_Range : keep_Src_Range.sh.X → Option keep_Src_Range.osh.X) (g_keep_Src_Pick : keep_Src_Pick.sh.X → Option keep_Src_Pick.osh.X) (x : ((Unit × Unit) × (((List Int) × Int × Unit) × Unit))) : (bodyO (keep_Src_Measure.E g_keep_Src_Range g_keep_Src_Pick) (mk keep_Src_Measure.hs keep_Src_Measure.c []) Go.Proofs.Tryd.f9.results.toList keep_Src_Measure.sh keep_Src_Measure.osh x).run _ some = keep_Src_Measure.f g_keep_Src_Range g_keep_Src_Pick x.2.1.1 x.2.1.2.1 := by
  show _ = (_ : Option _)
  kernel_rfl
noncomputable def keep_Src_Measure (o0_0 : (List Int)) (o0_1 : Int) : Option (((Int × Int × Int × Unit) × Unit) × (((List Int) × Int × Unit) × Unit)) := keep_Src_Measure.f keep_Src_Range.F keep_Src_Pick.F o0_0 o0_1
noncomputable def keep_Src_Measure.F (x : ((Unit × Unit) × (((List Int) × Int × Unit) × Unit))) : Option (((Int × Int × Int × Unit) × Unit) × (((List Int) × Int × Unit) × Unit)) := keep_Src_Measure x.2.1.1 x.2.1.2.1
theorem keep_Src_Measure.F_eq (o0_0 : (List Int)) (o0_1 : Int) : keep_Src_Measure.F (((), ()), ((o0_0, o0_1, ()), ())) = keep_Src_Measure.f keep_Src_Range.F keep_Src_Pick.F o0_0 o0_1 := rfl
theorem keep_Src_Measure.ok {tabs : List (Nat × Go.Obj)} (ht : TabsOk tabs) : FOK Go.Proofs.Tryd.prog tabs 9 (FE.of [true] true keep_Src_Measure.sh keep_Src_Measure.osh keep_Src_Measure.F) := by
  refine fn_keeps (E := (keep_Src_Measure.E keep_Src_Range.F keep_Src_Pick.F)) (c := keep_Src_Measure.c) (fn := Go.Proofs.Tryd.f9) (hs := keep_Src_Measure.hs) (by kernel_rfl) Go.Proofs.Tryd.func9 ⟨by kernel_rfl, by kernel_rfl, tb, by kernel_rfl, by kernel_rfl, by kernel_rfl, by kernel_rfl, by kernel_rfl⟩ ⟨fun g ks fe h => ?_, gt_ok ht⟩ ?_ (fun x => keep_Src_Measure.eq keep_Src_Range.F keep_Src_Pick.F x)
  · rcases c_cons h with ⟨rfl, rfl⟩ | h
    · exact keep_Src_Range.ok ht
    rcases c_cons h with ⟨rfl, rfl⟩ | h
    · exact keep_Src_Pick.ok ht
    cases h
  · exact known_at 0 (by kernel_rfl) fun i hi => absurd hi (Nat.not_lt_zero i)

/-! law17_MeasureTexts -/
def law17_MeasureTexts.f0 (g_law17_awake : ((Unit) × (Unit)) → Option ((Bool × Unit) × (Unit))) (g_measure_Format : (((Int × Int × Int × Unit) × Unit) × (Unit)) → Option ((ByteArray × Unit) × (Unit))) (g_measure_Check : (((Int × Int × Int × Unit) × Unit) × (Unit)) → Option ((Int × Unit) × (Unit))) (s_1 : ByteArray) (e_7 : Int) (f_9 : Int) (o0_0 : Int) (o0_1 : Int) (o0_2 : Int) (o1_0 : Int) (o1_1 : Int) (o1_2 : Int) (o2_0 : Int) (o2_1 : Int) (o2_2 : Int) : Option (((Bool × Unit) × (Unit)) ⊕ Empty) :=
  (bif (e_7 == (0:Int)) then
   (bif ((o1_0 == o0_0) && ((o1_1 == o0_1) && ((o1_2 == o0_2) && Bool.true))) then
    (bif (f_9 != (0:Int)) then
     (Option.bind (g_law17_awake ((), ())) (fun y3 =>
     (some (Sum.inl ((y3.1.1, ()), ())))))
    else
     (Option.bind (g_measure_Format (((o2_0, (o2_1, (o2_2, ()))), ()), ())) (fun y3 =>
     (bif ((ByteArray.toList y3.1.1) == (ByteArray.toList s_1)) then
      (Option.bind (g_measure_Check (((o2_0, (o2_1, (o2_2, ()))), ()), ())) (fun y5 =>
      (bif (y5.1.1 == (0:Int)) then
       (Option.bind (g_law17_awake ((), ())) (fun y7 =>
       (some (Sum.inl ((y7.1.1, ()), ())))))
      else
       (some (Sum.inl ((Bool.false, ()), ()))))))
     else
      (some (Sum.inl ((Bool.false, ()), ())))))))
   else
    (some (Sum.inl ((Bool.false, ()), ()))))
  else
   (some (Sum.inl ((Bool.false, ()), ()))))
theorem law17_MeasureTexts.eq0 (g_law17_awake : law17_awake.sh.X → Option law17_awake.osh.X) (g_keep_New : keep_New.sh.X → Option keep_New.osh.X) (g_keep_Src_Measure : keep_Src_Measure.sh.X → Option keep_Src_Measure.osh.X) (g_measure_Format : measure_Format.sh.X → Option measure_Format.osh.X) (g_measure_Parse : measure_Parse.sh.X → Option measure_Parse.osh.X) (g_measure_Check : measure_Check.sh.X → Option measure_Check.osh.X) (l0 : law17_MeasureTexts.s0.X → Option (sumX law17_MeasureTexts.x0)) (L : ((ByteArray × Unit × Unit × Int × Unit × Int × Unit) × ((Int × Int × Int × Unit) × (Int × Int × Int × Unit) × (Int × Int × Int × Unit) × Unit)) → Option (((Bool × Unit) × (Unit)) ⊕ Empty)) (x : ((ByteArray × Unit × Unit × Int × Unit × Int × Unit) × ((Int × Int × Int × Unit) × (Int × Int × Int × Unit) × (Int × Int × Int × Unit) × Unit))) : (roundK (law17_MeasureTexts.E g_law17_awake g_keep_New g_keep_Src_Measure g_measure_Format g_measure_Parse g_measure_Check l0) law17_MeasureTexts.s0 [1, 5, 6, 7, 8, 9] [(0, [4])] false (((mk law17_MeasureTexts.hs law17_MeasureTexts.c []).atoms.getD 0 .bad).body) law17_MeasureTexts.x0 L x).run _ some = law17_MeasureTexts.f0 g_law17_awake g_measure_Format g_measure_Check x.1.1 x.1.2.2.2.1 x.1.2.2.2.2.2.1 x.2.1.1 x.2.1.2.1 x.2.1.2.2.1 x.2.2.1.1 x.2.2.1.2.1 x.2.2.1.2.2.1 x.2.2.2.1.1 x.2.2.2.1.2.1 x.2.2.2.1.2.2.1 := by
  show _ = (_ : Option _)
  kernel_rfl
noncomputable def law17_MeasureTexts.L0 : ((ByteArray × Unit × Unit × Int × Unit × Int × Unit) × ((Int × Int × Int × Unit) × (Int × Int × Int × Unit) × (Int × Int × Int × Unit) × Unit)) → Option (((Bool × Unit) × (Unit)) ⊕ Empty) := fun x => law17_MeasureTexts.f0 law17_awake.F measure_Format.F measure_Check.F x.1.1 x.1.2.2.2.1 x.1.2.2.2.2.2.1 x.2.1.1 x.2.1.2.1 x.2.1.2.2.1 x.2.2.1.1 x.2.2.1.2.1 x.2.2.1.2.2.1 x.2.2.2.1.1 x.2.2.2.1.2.1 x.2.2.2.1.2.2.1
def law17_MeasureTexts.f (g_law17_awake : ((Unit) × (Unit)) → Option ((Bool × Unit) × (Unit))) (g_keep_New : (((List Int) × Unit) × (Unit)) → Option ((Unit × Unit) × (((List Int) × Int × Unit) × Unit))) (g_keep_Src_Measure : ((Unit × Unit) × (((List Int) × Int × Unit) × Unit)) → Option (((Int × Int × Int × Unit) × Unit) × (((List Int) × Int × Unit) × Unit))) (g_measure_Format : (((Int × Int × Int × Unit) × Unit) × (Unit)) → Option ((ByteArray × Unit) × (Unit))) (g_measure_Parse : ((ByteArray × Unit) × (Unit)) → Option (((Int × Int × Int × Unit) × Int × Unit) × (Unit))) (l0 : ((ByteArray × Unit × Unit × Int × Unit × Int × Unit) × ((Int × Int × Int × Unit) × (Int × Int × Int × Unit) × (Int × Int × Int × Unit) × Unit)) → Option (((Bool × Unit) × (Unit)) ⊕ Empty)) (l : (List Int)) (s : ByteArray) : Option ((Bool × Unit) × (Unit)) :=
  (bif (decide ((((ByteArray.size s) : Nat) : Int) > (40:Int))) then
   (Option.bind (g_law17_awake ((), ())) (fun y1 =>
   (some ((y1.1.1, ()), ()))))
  else
   (Option.bind (g_keep_New ((l, ()), ())) (fun y1 =>
   (Option.bind (g_keep_Src_Measure (((), ()), ((y1.2.1.1, (y1.2.1.2.1, ())), ()))) (fun y2 =>
   (Option.bind (g_measure_Format (((y2.1.1.1, (y2.1.1.2.1, (y2.1.1.2.2.1, ()))), ()), ())) (fun y3 =>
   (Option.bind (g_measure_Parse ((y3.1.1, ()), ())) (fun y4 =>
   (Option.bind (g_measure_Parse ((s, ()), ())) (fun y5 =>
   (Option.bind (l0 ((s, ((), ((), (y4.1.2.1, ((), (y5.1.2.1, ())))))), ((y2.1.1.1, (y2.1.1.2.1, (y2.1.1.2.2.1, ()))), ((y4.1.1.1, (y4.1.1.2.1, (y4.1.1.2.2.1, ()))), ((y5.1.1.1, (y5.1.1.2.1, (y5.1.1.2.2.1, ()))), ()))))) (fun y6 =>
   (Sum.elim (fun a7 =>
    (some ((a7.1.1, ()), ()))) (fun b7 =>
    (Empty.elim b7)) y6))))))))))))))
theorem law17_MeasureTexts.eq (g_law17_awake : law17_awake.sh.X → Option law17_awake.osh.X) (g_keep_New : keep_New.sh.X → Option keep_New.osh.X) (g_keep_Src_Measure : keep_Src_Measure.sh.X → Option keep_Src_Measure.osh.X) (g_measure_Format : measure_Format.sh.X → Option measure_Format.osh.X) (g_measure_Parse : measure_Parse.sh.X → Option measure_Parse.osh.X) (g_measure_Check : measure_Check.sh.X → Option measure_Check.osh.X) (l0 : law17_MeasureTexts.s0.X → Option (sumX law17_MeasureTexts.x0)) (x : (((List Int) × ByteArray × Unit) × (Unit))) : (bodyO (law17_MeasureTexts.E g_law17_awake g_keep_New g_keep_Src_Measure g_measure_Format g_measure_Parse g_measure_Check l0) (mk law17_MeasureTexts.hs law17_MeasureTexts.c []) Go.Proofs.Tryd.f6.results.toList law17_MeasureTexts.sh law17_MeasureTexts.osh x).run _ some = law17_MeasureTexts.f g_law17_awake g_keep_New g_keep_Src_Measure g_measure_Format g_measure_Parse l0 x.1.1 x.1.2.1 := by
  show _ = (_ : Option _)
  kernel_rfl
noncomputable def law17_MeasureTexts (l : (List Int)) (s : ByteArray) : Option ((Bool × Unit) × (Unit)) := law17_MeasureTexts.f law17_awake.F keep_New.F keep_Src_Measure.F measure_Format.F measure_Parse.F law17_MeasureTexts.L0 l s
noncomputable def law17_MeasureTexts.F (x : (((List Int) × ByteArray × Unit) × (Unit))) : Option ((Bool × Unit) × (Unit)) := law17_MeasureTexts x.1.1 x.1.2.1
theorem law17_MeasureTexts.L0_eq (s_1 : ByteArray) (e_7 : Int) (f_9 : Int) (o0_0 : Int) (o0_1 : Int) (o0_2 : Int) (o1_0 : Int) (o1_1 : Int) (o1_2 : Int) (o2_0 : Int) (o2_1 : Int) (o2_2 : Int) : law17_MeasureTexts.L0 ((s_1, (), (), e_7, (), f_9, ()), ((o0_0, o0_1, o0_2, ()), (o1_0, o1_1, o1_2, ()), (o2_0, o2_1, o2_2, ()), ())) = law17_MeasureTexts.f0 law17_awake.F measure_Format.F measure_Check.F s_1 e_7 f_9 o0_0 o0_1 o0_2 o1_0 o1_1 o1_2 o2_0 o2_1 o2_2 := rfl
theorem law17_MeasureTexts.F_eq (l : (List Int)) (s : ByteArray) : law17_MeasureTexts.F ((l, s, ()), ()) = law17_MeasureTexts.f law17_awake.F keep_New.F keep_Src_Measure.F measure_Format.F measure_Parse.F law17_MeasureTexts.L0 l s := rfl
theorem law17_MeasureTexts.ok {tabs : List (Nat × Go.Obj)} (ht : TabsOk tabs) : FOK Go.Proofs.Tryd.prog tabs 6 (FE.of [true, true] false law17_MeasureTexts.sh law17_MeasureTexts.osh law17_MeasureTexts.F) := by
  refine fn_keeps (E := (law17_MeasureTexts.E law17_awake.F keep_New.F keep_Src_Measure.F measure_Format.F measure_Parse.F measure_Check.F law17_MeasureTexts.L0)) (c := law17_MeasureTexts.c) (fn := Go.Proofs.Tryd.f6) (hs := law17_MeasureTexts.hs) (by kernel_rfl) Go.Proofs.Tryd.func6 ⟨by kernel_rfl, by kernel_rfl, tb, by kernel_rfl, by kernel_rfl, by kernel_rfl, by kernel_rfl, by kernel_rfl⟩ ⟨fun g ks fe h => ?_, gt_ok ht⟩ ?_ (fun x => law17_MeasureTexts.eq law17_awake.F keep_New.F keep_Src_Measure.F measure_Format.F measure_Parse.F measure_Check.F law17_MeasureTexts.L0 x)
  · rcases c_cons h with ⟨rfl, rfl⟩ | h
    · exact law17_awake.ok ht
    rcases c_cons h with ⟨rfl, rfl⟩ | h
    · exact keep_New.ok ht
    rcases c_cons h with ⟨rfl, rfl⟩ | h
    · exact keep_Src_Measure.ok ht
    rcases c_cons h with ⟨rfl, rfl⟩ | h
    · exact measure_Format.ok ht
    rcases c_cons h with ⟨rfl, rfl⟩ | h
    · exact measure_Parse.ok ht
    rcases c_cons h with ⟨rfl, rfl⟩ | h
    · exact measure_Check.ok ht
    cases h
  · refine known_at 1 (by kernel_rfl) fun i hi => ?_
    match i, hi with
    | 0, _ => exact atom_at (id := 0) (live := [1, 5, 6, 7, 8, 9]) (outs := [(0, [4])]) (loop := false) (by kernel_rfl) (cut_ok (E := (law17_MeasureTexts.E law17_awake.F keep_New.F keep_Src_Measure.F measure_Format.F measure_Parse.F measure_Check.F law17_MeasureTexts.L0)) (sh := law17_MeasureTexts.s0) (es := law17_MeasureTexts.x0) rfl (fun L x => law17_MeasureTexts.eq0 law17_awake.F keep_New.F keep_Src_Measure.F measure_Format.F measure_Parse.F measure_Check.F law17_MeasureTexts.L0 L x))
    | n + 1, h => exact absurd h (by omega)

/-! keep_Src_Length -/
def keep_Src_Length.f (g_keep_Src_N : ((Unit × Int × Unit) × (((List Int) × Int × Unit) × Unit)) → Option ((Int × Unit) × (((List Int) × Int × Unit) × Unit))) (g_keep_Src_Range : ((Unit × Int × Int × Unit) × (((List Int) × Int × Unit) × Unit)) → Option ((Int × Unit) × (((List Int) × Int × Unit) × Unit))) (o0_0 : (List Int)) (o0_1 : Int) : Option ((Int × Unit) × (((List Int) × Int × Unit) × Unit)) :=
  (Option.bind (g_keep_Src_N (((), ((8:Int), ())), ((o0_0, (o0_1, ())), ()))) (fun y0 =>
  (bif (y0.1.1 == (7:Int)) then
   (Option.bind (g_keep_Src_Range (((), ((13:Int), ((32:Int), ()))), ((y0.2.1.1, (y0.2.1.2.1, ())), ()))) (fun y2 =>
   (some ((y2.1.1, ()), ((y2.2.1.1, (y2.2.1.2.1, ())), ())))))
  else
   (Option.bind (g_keep_Src_Range (((), ((2:Int), ((12:Int), ()))), ((y0.2.1.1, (y0.2.1.2.1, ())), ()))) (fun y2 =>
   (some ((y2.1.1, ()), ((y2.2.1.1, (y2.2.1.2.1, ())), ()))))))))
theorem keep_Src_Length.eq (g_keep_Src_N : keep_Src_N.sh.X → Option keep_Src_N.osh.X) (g_keep_Src_Range : keep_Src_Range.sh.X → Option keep_Src_Range.osh.X) (x : ((Unit × Unit) × (((List Int) × Int × Unit) × Unit))) : (bodyO (keep_Src_Length.E g_keep_Src_N g_keep_Src_Range) (mk keep_Src_Length.hs keep_Src_Length.c []) Go.Proofs.Tryd.f28.results.toList keep_Src_Length.sh keep_Src_Length.osh x).run _ some = keep_Src_Length.f g_keep_Src_N g_keep_Src_Range x.2.1.1 x.2.1.2.1 := by
  show _ = (_ : Option _)
  kernel_rfl
noncomputable def keep_Src_Length (o0_0 : (List Int)) (o0_1 : Int) : Option ((Int × Unit) × (((List Int) × Int × Unit) × Unit)) := keep_Src_Length.f keep_Src_N.F keep_Src_Range.F o0_0 o0_1
noncomputable def keep_Src_Length.F (x : ((Unit × Unit) × (((List Int) × Int × Unit) × Unit))) : Option ((Int × Unit) × (((List Int) × Int × Unit) × Unit)) := keep_Src_Length x.2.1.1 x.2.1.2.1
theorem keep_Src_Length.F_eq (o0_0 : (List Int)) (o0_1 : Int) : keep_Src_Length.F (((), ()), ((o0_0, o0_1, ()), ())) = keep_Src_Length.f keep_Src_N.F keep_Src_Range.F o0_0 o0_1 := rfl
theorem keep_Src_Length.ok {tabs : List (Nat × Go.Obj)} (ht : TabsOk tabs) : FOK Go.Proofs.Tryd.prog tabs 28 (FE.of [true] true keep_Src_Length.sh keep_Src_Length.osh keep_Src_Length.F) := by
  refine fn_keeps (E := (keep_Src_Length.E keep_Src_N.F keep_Src_Range.F)) (c := keep_Src_Length.c) (fn := Go.Proofs.Tryd.f28) (hs := keep_Src_Length.hs) (by kernel_rfl) Go.Proofs.Tryd.func28 ⟨by kernel_rfl, by kernel_rfl, tb, by kernel_rfl, by kernel_rfl, by kernel_rfl, by kernel_rfl, by kernel_rfl⟩ ⟨fun g ks fe h => ?_, gt_ok ht⟩ ?_ (fun x => keep_Src_Length.eq keep_Src_N.F keep_Src_Range.F x)
  · rcases c_cons h with ⟨rfl, rfl⟩ | h
    · exact keep_Src_N.ok ht
    rcases c_cons h with ⟨rfl, rfl⟩ | h
    · exact keep_Src_Range.ok ht
    cases h
  · exact known_at 0 (by kernel_rfl) fun i hi => absurd hi (Nat.not_lt_zero i)

/-! keep_clip -/
def keep_clip.f (n : Int) : Option ((Int × Unit) × (Unit)) :=
  (some (((Go.VI.mn (Go.VI.mx n (-(1000:Int))) (1000:Int)), ()), ()))
theorem keep_clip.eq (x : ((Int × Unit) × (Unit))) : (bodyO (keep_clip.E) (mk keep_clip.hs keep_clip.c []) Go.Proofs.Tryd.f48.results.toList keep_clip.sh keep_clip.osh x).run _ some = keep_clip.f x.1.1 := by
  show _ = (_ : Option _)
  kernel_rfl
noncomputable def keep_clip (n : Int) : Option ((Int × Unit) × (Unit)) := keep_clip.f n
noncomputable def keep_clip.F (x : ((Int × Unit) × (Unit))) : Option ((Int × Unit) × (Unit)) := keep_clip x.1.1
theorem keep_clip.F_eq (n : Int) : keep_clip.F ((n, ()), ()) = keep_clip.f n := rfl
theorem keep_clip.ok {tabs : List (Nat × Go.Obj)} (ht : TabsOk tabs) : FOK Go.Proofs.Tryd.prog tabs 48 (FE.of [true] false keep_clip.sh keep_clip.osh keep_clip.F) := by
  refine fn_keeps (E := (keep_clip.E)) (c := keep_clip.c) (fn := Go.Proofs.Tryd.f48) (hs := keep_clip.hs) (by kernel_rfl) Go.Proofs.Tryd.func48 ⟨by kernel_rfl, by kernel_rfl, tb, by kernel_rfl, by kernel_rfl, by kernel_rfl, by kernel_rfl, by kernel_rfl⟩ ⟨fun g ks fe h => ?_, gt_ok ht⟩ ?_ (fun x => keep_clip.eq x)
  · cases h
  · exact known_at 0 (by kernel_rfl) fun i hi => absurd hi (Nat.not_lt_zero i)
end Go.Proofs.YtadniiehehiblaaDoor.V
