import Derived.Test.YtefcciajemkicaaVg1
import Derived.WalkKit
set_option linter.unusedVariables false
set_option maxRecDepth 100000
namespace Go.Proofs.Ytefcciajemkicaa.V
open Go.VI
/-! slices_Min -/
def slices_Min.f0 (L : Y127 → Option Y137) (x_0 : List Int) (m_3 i_4 : Int) : Option Y137 :=
  (bif (decide (i_4 < (((List.length x_0) : Nat) : Int))) then
 (bif (decide ((0:Int) ≤ i_4)) then
 (bif (decide (i_4 < (((List.length x_0) : Nat) : Int))) then
 (Option.bind (L ((x_0, ((Go.VI.mn m_3 (List.getD x_0 (Int.toNat i_4) (0:Int))), ((Go.IntKind.wrap Go.IntKind.i64 (i_4 + (1:Int))), ()))), ())) (fun y3 =>
 (some y3)))
 else
 none)
 else
 none)
 else
 (some (Sum.inl ((m_3, ()), ()))))
theorem slices_Min.eq0 (l0 : slices_Min.A0) (L : slices_Min.A0) (x : slices_Min.s0.X) : rndO (slices_Min.E l0) slices_Min.hs slices_Min.c slices_Min.s0 slices_Min.x0 0 true L x = slices_Min.f0 L x.1.1 x.1.2.1 x.1.2.2.1 := by
  show _ = (_ : Option _)
  kernel_rfl
noncomputable def slices_Min.L0 : Y127 → Option Y137 := loop fun L x => slices_Min.f0 L x.1.1 x.1.2.1 x.1.2.2.1
def slices_Min.f (l0 : Y127 → Option Y137) (x_ : List Int) : Option Y143 :=
  (bif (decide ((((List.length x_) : Nat) : Int) < (1:Int))) then
 none
 else
 (bif (decide ((0:Int) < (((List.length x_) : Nat) : Int))) then
 (Option.bind (l0 ((x_, ((List.getD x_ (Int.toNat (0:Int)) (0:Int)), ((1:Int), ()))), ())) (fun y2 =>
 (Sum.elim (fun a3 =>
 (some ((a3.1.1, ()), ()))) (fun b3 =>
 (Empty.elim b3)) y2)))
 else
 none))
theorem slices_Min.eq (l0 : slices_Min.A0) (x : slices_Min.sh.X) : bodO (slices_Min.E l0) slices_Min.hs slices_Min.c Try.f103 slices_Min.sh slices_Min.osh x = slices_Min.f l0 x.1.1 := by
  show _ = (_ : Option _)
  kernel_rfl
noncomputable def slices_Min (x_ : List Int) : Option Y143 := slices_Min.f slices_Min.L0 x_
noncomputable def slices_Min.F (x : Y139) : Option Y143 := slices_Min x.1.1
theorem slices_Min.L0_eq (x_0 : List Int) (m_3 i_4 : Int) : slices_Min.L0 ((x_0, m_3, i_4, ()), ()) = slices_Min.f0 slices_Min.L0 x_0 m_3 i_4 :=
  loop_eq (E := (slices_Min.E slices_Min.L0)) (sh := slices_Min.s0) (es := slices_Min.x0) (lp := true) (H := fun L x => slices_Min.eq0 slices_Min.L0 L x) ((x_0, m_3, i_4, ()), ())
theorem slices_Min.F_eq (x_ : List Int) : slices_Min.F ((x_, ()), ()) = slices_Min.f slices_Min.L0 x_ := rfl
theorem slices_Min.ok {tabs : List (Nat × Go.Obj)} (ht : TabsOk tabs) : FOK Try.prog tabs 103 (slices_Min.fe slices_Min.F) := by
  refine fn_keep2 Try.func103 (slices_Min.eq slices_Min.L0) pw tb (gt_ok ht) (by kernel_rfl) (by kernel_rfl) (fun g ks fe h => ?_) ?_
  · cases h
  · refine known_at 1 (by kernel_rfl) fun i hi => ?_
    match i, hi with
    | 0, _ => exact atomH (loop_ok (es := slices_Min.x0) rfl (slices_Min.eq0 slices_Min.L0)) (by kernel_rfl)
    | n + 1, h => exact absurd h (by omega)

/-! warp_distance -/
def warp_distance.f0 (g_warp_fill : Y60 → Option Y138) (g_slices_Min : Y139 → Option Y143) (L : Y42 → Option Y63) (x_0 y_1 : List Int) (band_2 limit_3 v19 v20 : Int) (o0 o1 : List Int) : Option Y63 :=
  (bif (decide (v20 < v19)) then
 (Option.bind (g_warp_fill (((), (o1, (x_0, (y_1, (band_2, (v20, ())))))), (o0, ()))) (fun y1 =>
 (Option.bind (g_slices_Min ((y1.2.1, ()), ())) (fun y2 =>
 (bif (decide (y2.1.1 > limit_3)) then
 (some (Sum.inr (Sum.inl (((4611686018427387904:Int), ()), ()))))
 else
 (Option.bind (L ((x_0, (y_1, (band_2, (limit_3, ((), ((), (v19, ((Go.IntKind.wrap Go.IntKind.i64 (v20 + (1:Int))), ())))))))), (o1, (y1.2.1, ())))) (fun y4 =>
 (some y4))))))))
 else
 (some (Sum.inl ((y_1, ((), ())), (o1, ())))))
theorem warp_distance.eq0 (g_warp_fill : warp_fill.G) (g_slices_Min : slices_Min.G) (l0 : warp_distance.A0) (L : warp_distance.A0) (x : warp_distance.s0.X) : rndO (warp_distance.E g_warp_fill g_slices_Min l0) warp_distance.hs warp_distance.c warp_distance.s0 warp_distance.x0 0 true L x = warp_distance.f0 g_warp_fill g_slices_Min L x.1.1 x.1.2.1 x.1.2.2.1 x.1.2.2.2.1 x.1.2.2.2.2.2.2.1 x.1.2.2.2.2.2.2.2.1 x.2.1 x.2.2.1 := by
  show _ = (_ : Option _)
  kernel_rfl
noncomputable def warp_distance.L0 : Y42 → Option Y63 := loop fun L x => warp_distance.f0 warp_fill.F slices_Min.F L x.1.1 x.1.2.1 x.1.2.2.1 x.1.2.2.2.1 x.1.2.2.2.2.2.2.1 x.1.2.2.2.2.2.2.2.1 x.2.1 x.2.2.1
def warp_distance.f (l0 : Y42 → Option Y63) (x_ y : List Int) (band limit : Int) : Option Y143 :=
  (bif (decide ((((List.length y) : Nat) : Int) = (((List.length y) : Nat) : Int))) then
 (bif ((decide (((((8:Nat) : Nat) : Int) * (((List.length y) : Nat) : Int)) ≤ (281474976710656:Int))) && Bool.true) then
 (bif (decide ((((List.length y) : Nat) : Int) = (((List.length y) : Nat) : Int))) then
 (bif ((decide (((((8:Nat) : Nat) : Int) * (((List.length y) : Nat) : Int)) ≤ (281474976710656:Int))) && Bool.true) then
 (Option.bind (l0 ((x_, (y, (band, (limit, ((), ((), ((((List.length x_) : Nat) : Int), ((0:Int), ())))))))), ((List.replicate (Int.toNat (((List.length y) : Nat) : Int)) (0:Int)), ((List.replicate (Int.toNat (((List.length y) : Nat) : Int)) (0:Int)), ())))) (fun y4 =>
 (Sum.elim (fun a5 =>
 (bif (decide ((0:Int) ≤ (Go.IntKind.wrap Go.IntKind.i64 ((((List.length a5.1.1) : Nat) : Int) - (1:Int))))) then
 (bif (decide ((Go.IntKind.wrap Go.IntKind.i64 ((((List.length a5.1.1) : Nat) : Int) - (1:Int))) < (((List.length a5.2.1) : Nat) : Int))) then
 (some (((List.getD a5.2.1 (Int.toNat (Go.IntKind.wrap Go.IntKind.i64 ((((List.length a5.1.1) : Nat) : Int) - (1:Int)))) (0:Int)), ()), ()))
 else
 none)
 else
 none)) (fun b5 =>
 (Sum.elim (fun a6 =>
 (some ((a6.1.1, ()), ()))) (fun b6 =>
 (Empty.elim b6)) b5)) y4)))
 else
 none)
 else
 none)
 else
 none)
 else
 none)
theorem warp_distance.eq (g_warp_fill : warp_fill.G) (g_slices_Min : slices_Min.G) (l0 : warp_distance.A0) (x : warp_distance.sh.X) : bodO (warp_distance.E g_warp_fill g_slices_Min l0) warp_distance.hs warp_distance.c Try.f95 warp_distance.sh warp_distance.osh x = warp_distance.f l0 x.1.1 x.1.2.1 x.1.2.2.1 x.1.2.2.2.1 := by
  show _ = (_ : Option _)
  kernel_rfl
noncomputable def warp_distance (x_ y : List Int) (band limit : Int) : Option Y143 := warp_distance.f warp_distance.L0 x_ y band limit
noncomputable def warp_distance.F (x : Y106) : Option Y143 := warp_distance x.1.1 x.1.2.1 x.1.2.2.1 x.1.2.2.2.1
theorem warp_distance.L0_eq (x_0 y_1 : List Int) (band_2 limit_3 v19 v20 : Int) (o0 o1 : List Int) : warp_distance.L0 ((x_0, y_1, band_2, limit_3, (), (), v19, v20, ()), (o0, o1, ())) = warp_distance.f0 warp_fill.F slices_Min.F warp_distance.L0 x_0 y_1 band_2 limit_3 v19 v20 o0 o1 :=
  loop_eq (E := (warp_distance.E warp_fill.F slices_Min.F warp_distance.L0)) (sh := warp_distance.s0) (es := warp_distance.x0) (lp := true) (H := fun L x => warp_distance.eq0 warp_fill.F slices_Min.F warp_distance.L0 L x) ((x_0, y_1, band_2, limit_3, (), (), v19, v20, ()), (o0, o1, ()))
theorem warp_distance.F_eq (x_ y : List Int) (band limit : Int) : warp_distance.F ((x_, y, band, limit, ()), ()) = warp_distance.f warp_distance.L0 x_ y band limit := rfl
theorem warp_distance.ok {tabs : List (Nat × Go.Obj)} (ht : TabsOk tabs) : FOK Try.prog tabs 95 (warp_distance.fe warp_distance.F) := by
  refine fn_keep2 Try.func95 (warp_distance.eq warp_fill.F slices_Min.F warp_distance.L0) pw tb (gt_ok ht) (by kernel_rfl) (by kernel_rfl) (fun g ks fe h => ?_) ?_
  · rcases c_cons h with ⟨rfl, rfl⟩ | h
    · exact warp_fill.ok ht
    rcases c_cons h with ⟨rfl, rfl⟩ | h
    · exact slices_Min.ok ht
    cases h
  · refine known_at 1 (by kernel_rfl) fun i hi => ?_
    match i, hi with
    | 0, _ => exact atomH (loop_ok (es := warp_distance.x0) rfl (warp_distance.eq0 warp_fill.F slices_Min.F warp_distance.L0)) (by kernel_rfl)
    | n + 1, h => exact absurd h (by omega)

/-! warp_Distance -/
def warp_Distance.f (g_warp_check : Y115 → Option Y143) (g_warp_distance : Y106 → Option Y143) (x_ y : List Int) (band : Int) : Option Y140 :=
  (Option.bind (g_warp_check ((x_, (y, (band, ()))), ())) (fun y0 =>
 (bif (y0.1.1 != (0:Int)) then
 (some (((0:Int), (y0.1.1, ())), ()))
 else
 (Option.bind (g_warp_distance ((x_, (y, (band, ((4611686018427387904:Int), ())))), ())) (fun y2 =>
 (some ((y2.1.1, ((0:Int), ())), ())))))))
theorem warp_Distance.eq (g_warp_check : warp_check.G) (g_warp_distance : warp_distance.G) (x : warp_Distance.sh.X) : bodO (warp_Distance.E g_warp_check g_warp_distance) warp_Distance.hs warp_Distance.c Try.f82 warp_Distance.sh warp_Distance.osh x = warp_Distance.f g_warp_check g_warp_distance x.1.1 x.1.2.1 x.1.2.2.1 := by
  show _ = (_ : Option _)
  kernel_rfl
noncomputable def warp_Distance (x_ y : List Int) (band : Int) : Option Y140 := warp_Distance.f warp_check.F warp_distance.F x_ y band
noncomputable def warp_Distance.F (x : Y115) : Option Y140 := warp_Distance x.1.1 x.1.2.1 x.1.2.2.1
theorem warp_Distance.F_eq (x_ y : List Int) (band : Int) : warp_Distance.F ((x_, y, band, ()), ()) = warp_Distance.f warp_check.F warp_distance.F x_ y band := rfl
theorem warp_Distance.ok {tabs : List (Nat × Go.Obj)} (ht : TabsOk tabs) : FOK Try.prog tabs 82 (warp_Distance.fe warp_Distance.F) := by
  refine fn_keep2 Try.func82 (warp_Distance.eq warp_check.F warp_distance.F) pw tb (gt_ok ht) (by kernel_rfl) (by kernel_rfl) (fun g ks fe h => ?_) ?_
  · rcases c_cons h with ⟨rfl, rfl⟩ | h
    · exact warp_check.ok ht
    rcases c_cons h with ⟨rfl, rfl⟩ | h
    · exact warp_distance.ok ht
    cases h
  · exact known_at 0 (by kernel_rfl) fun i hi => absurd hi (Nat.not_lt_zero i)

/-! measure_distances_2 -/
def measure_distances_2.f (g_warp_Distance : Y115 → Option Y140) (g_measure_whole : Y140 → Option Y122) (x_ y : List Int) (o0_0 o0_1 o0_2 : Int) : Option Y82 :=
  (Option.bind (g_warp_Distance ((x_, (y, (o0_1, ()))), ())) (fun y0 =>
 (Option.bind (g_measure_whole ((y0.1.1, (y0.1.2.1, ())), ())) (fun y1 =>
 (some (((y1.1.1.1, (y1.1.1.2.1, ())), (y1.1.2.1, ())), ((o0_0, (o0_1, (o0_2, ()))), ())))))))
theorem measure_distances_2.eq (g_warp_Distance : warp_Distance.G) (g_measure_whole : measure_whole.G) (x : measure_distances_2.sh.X) : bodO (measure_distances_2.E g_warp_Distance g_measure_whole) measure_distances_2.hs measure_distances_2.c Try.f81 measure_distances_2.sh measure_distances_2.osh x = measure_distances_2.f g_warp_Distance g_measure_whole x.1.1 x.1.2.1 x.2.1.1 x.2.1.2.1 x.2.1.2.2.1 := by
  show _ = (_ : Option _)
  kernel_rfl
noncomputable def measure_distances_2 (x_ y : List Int) (o0_0 o0_1 o0_2 : Int) : Option Y82 := measure_distances_2.f warp_Distance.F measure_whole.F x_ y o0_0 o0_1 o0_2
noncomputable def measure_distances_2.F (x : Y73) : Option Y82 := measure_distances_2 x.1.1 x.1.2.1 x.2.1.1 x.2.1.2.1 x.2.1.2.2.1
theorem measure_distances_2.F_eq (x_ y : List Int) (o0_0 o0_1 o0_2 : Int) : measure_distances_2.F ((x_, y, (), ()), ((o0_0, o0_1, o0_2, ()), ())) = measure_distances_2.f warp_Distance.F measure_whole.F x_ y o0_0 o0_1 o0_2 := rfl
theorem measure_distances_2.ok {tabs : List (Nat × Go.Obj)} (ht : TabsOk tabs) : FOK Try.prog tabs 81 (measure_distances_2.fe measure_distances_2.F) := by
  refine fn_keep2 Try.func81 (measure_distances_2.eq warp_Distance.F measure_whole.F) pw tb (gt_ok ht) (by kernel_rfl) (by kernel_rfl) (fun g ks fe h => ?_) ?_
  · rcases c_cons h with ⟨rfl, rfl⟩ | h
    · exact warp_Distance.ok ht
    rcases c_cons h with ⟨rfl, rfl⟩ | h
    · exact measure_whole.ok ht
    cases h
  · exact known_at 0 (by kernel_rfl) fun i hi => absurd hi (Nat.not_lt_zero i)

/-! edit_check -/
def edit_check.f0 (x_0 y_1 : List Int) (gap_2 : Int) : Option Y98 :=
  (bif (decide (gap_2 < (-(1000:Int)))) then
 (some (Sum.inl ((x_0, (y_1, (Bool.true, ()))), ())))
 else
 (some (Sum.inl ((x_0, (y_1, ((decide (gap_2 > (1000:Int))), ()))), ()))))
theorem edit_check.eq0 (g_euclid_Distance : euclid_Distance.G) (l0 : edit_check.A0) (L : edit_check.A0) (x : edit_check.s0.X) : rndO (edit_check.E g_euclid_Distance l0) edit_check.hs edit_check.c edit_check.s0 edit_check.x0 0 false L x = edit_check.f0 x.1.1 x.1.2.1 x.1.2.2.1 := by
  show _ = (_ : Option _)
  kernel_rfl
noncomputable def edit_check.L0 : Y115 → Option Y98 := fun x => edit_check.f0 x.1.1 x.1.2.1 x.1.2.2.1
def edit_check.f (g_euclid_Distance : Y124 → Option Y140) (l0 : Y115 → Option Y98) (x_ y : List Int) (gap : Int) : Option Y143 :=
  (Option.bind (l0 ((x_, (y, (gap, ()))), ())) (fun y0 =>
 (Sum.elim (fun a1 =>
 (bif a1.1.2.2.1 then
 (some (((1:Int), ()), ()))
 else
 (Option.bind (g_euclid_Distance ((a1.1.1, (a1.1.1, ())), ())) (fun y3 =>
 (Option.bind (g_euclid_Distance ((a1.1.2.1, (a1.1.2.1, ())), ())) (fun y4 =>
 (bif (y3.1.2.1 == (8:Int)) then
 (some (((8:Int), ()), ()))
 else
 (bif (y4.1.2.1 == (8:Int)) then
 (some (((8:Int), ()), ()))
 else
 (some (((Go.VI.mx y3.1.2.1 y4.1.2.1), ()), ())))))))))) (fun b1 =>
 (Empty.elim b1)) y0)))
theorem edit_check.eq (g_euclid_Distance : euclid_Distance.G) (l0 : edit_check.A0) (x : edit_check.sh.X) : bodO (edit_check.E g_euclid_Distance l0) edit_check.hs edit_check.c Try.f96 edit_check.sh edit_check.osh x = edit_check.f g_euclid_Distance l0 x.1.1 x.1.2.1 x.1.2.2.1 := by
  show _ = (_ : Option _)
  kernel_rfl
noncomputable def edit_check (x_ y : List Int) (gap : Int) : Option Y143 := edit_check.f euclid_Distance.F edit_check.L0 x_ y gap
noncomputable def edit_check.F (x : Y115) : Option Y143 := edit_check x.1.1 x.1.2.1 x.1.2.2.1
theorem edit_check.L0_eq (x_0 y_1 : List Int) (gap_2 : Int) : edit_check.L0 ((x_0, y_1, gap_2, ()), ()) = edit_check.f0 x_0 y_1 gap_2 := rfl
theorem edit_check.F_eq (x_ y : List Int) (gap : Int) : edit_check.F ((x_, y, gap, ()), ()) = edit_check.f euclid_Distance.F edit_check.L0 x_ y gap := rfl
theorem edit_check.ok {tabs : List (Nat × Go.Obj)} (ht : TabsOk tabs) : FOK Try.prog tabs 96 (edit_check.fe edit_check.F) := by
  refine fn_keep2 Try.func96 (edit_check.eq euclid_Distance.F edit_check.L0) pw tb (gt_ok ht) (by kernel_rfl) (by kernel_rfl) (fun g ks fe h => ?_) ?_
  · rcases c_cons h with ⟨rfl, rfl⟩ | h
    · exact euclid_Distance.ok ht
    cases h
  · refine known_at 1 (by kernel_rfl) fun i hi => ?_
    match i, hi with
    | 0, _ => exact atomH (cut_ok (es := edit_check.x0) rfl (edit_check.eq0 euclid_Distance.F edit_check.L0)) (by kernel_rfl)
    | n + 1, h => exact absurd h (by omega)

/-! edit_apart -/
def edit_apart.f (a b : Int) : Option Y143 :=
  (some (((Go.VI.mx (Go.IntKind.wrap Go.IntKind.i64 (a - b)) (Go.IntKind.wrap Go.IntKind.i64 (b - a))), ()), ()))
theorem edit_apart.eq (x : edit_apart.sh.X) : bodO (edit_apart.E) edit_apart.hs edit_apart.c Try.f107 edit_apart.sh edit_apart.osh x = edit_apart.f x.1.1 x.1.2.1 := by
  show _ = (_ : Option _)
  kernel_rfl
noncomputable def edit_apart (a b : Int) : Option Y143 := edit_apart.f a b
noncomputable def edit_apart.F (x : Y140) : Option Y143 := edit_apart x.1.1 x.1.2.1
theorem edit_apart.F_eq (a b : Int) : edit_apart.F ((a, b, ()), ()) = edit_apart.f a b := rfl
theorem edit_apart.ok {tabs : List (Nat × Go.Obj)} (ht : TabsOk tabs) : FOK Try.prog tabs 107 (edit_apart.fe edit_apart.F) := by
  refine fn_keep2 Try.func107 (edit_apart.eq) pw tb (gt_ok ht) (by kernel_rfl) (by kernel_rfl) (fun g ks fe h => ?_) ?_
  · cases h
  · exact known_at 0 (by kernel_rfl) fun i hi => absurd hi (Nat.not_lt_zero i)

/-! edit_last -/
def edit_last.f0 (step_0 : Int) (x_1 y_2 : List Int) (gap_3 i_4 j_5 : Int) : Option Y65 :=
  (bif (step_0 == (1:Int)) then
 (bif (decide (i_4 > (0:Int))) then
 (some (Sum.inl ((step_0, (x_1, (y_2, (gap_3, (i_4, (j_5, ((decide (j_5 > (0:Int))), ()))))))), ())))
 else
 (some (Sum.inl ((step_0, (x_1, (y_2, (gap_3, (i_4, (j_5, (Bool.false, ()))))))), ()))))
 else
 (some (Sum.inl ((step_0, (x_1, (y_2, (gap_3, (i_4, (j_5, (Bool.false, ()))))))), ()))))
theorem edit_last.eq0 (g_edit_apart : edit_apart.G) (l0 : edit_last.A0) (l1 : edit_last.A1) (l2 : edit_last.A2) (L : edit_last.A0) (x : edit_last.s0.X) : rndO (edit_last.E g_edit_apart l0 l1 l2) edit_last.hs edit_last.c edit_last.s0 edit_last.x0 0 false L x = edit_last.f0 x.1.1 x.1.2.1 x.1.2.2.1 x.1.2.2.2.1 x.1.2.2.2.2.1 x.1.2.2.2.2.2.1 := by
  show _ = (_ : Option _)
  kernel_rfl
noncomputable def edit_last.L0 : Y90 → Option Y65 := fun x => edit_last.f0 x.1.1 x.1.2.1 x.1.2.2.1 x.1.2.2.2.1 x.1.2.2.2.2.1 x.1.2.2.2.2.2.1
def edit_last.f1 (step_0 : Int) (x_1 y_2 : List Int) (gap_3 i_4 j_5 : Int) : Option Y65 :=
  (bif (step_0 == (2:Int)) then
 (some (Sum.inl ((step_0, (x_1, (y_2, (gap_3, (i_4, (j_5, ((decide (i_4 > (0:Int))), ()))))))), ())))
 else
 (some (Sum.inl ((step_0, (x_1, (y_2, (gap_3, (i_4, (j_5, (Bool.false, ()))))))), ()))))
theorem edit_last.eq1 (g_edit_apart : edit_apart.G) (l0 : edit_last.A0) (l1 : edit_last.A1) (l2 : edit_last.A2) (L : edit_last.A1) (x : edit_last.s1.X) : rndO (edit_last.E g_edit_apart l0 l1 l2) edit_last.hs edit_last.c edit_last.s1 edit_last.x1 1 false L x = edit_last.f1 x.1.1 x.1.2.1 x.1.2.2.1 x.1.2.2.2.1 x.1.2.2.2.2.1 x.1.2.2.2.2.2.1 := by
  show _ = (_ : Option _)
  kernel_rfl
noncomputable def edit_last.L1 : Y90 → Option Y65 := fun x => edit_last.f1 x.1.1 x.1.2.1 x.1.2.2.1 x.1.2.2.2.1 x.1.2.2.2.2.1 x.1.2.2.2.2.2.1
def edit_last.f2 (step_0 : Int) (y_2 : List Int) (gap_3 i_4 j_5 : Int) : Option Y93 :=
  (bif (step_0 == (3:Int)) then
 (some (Sum.inl ((y_2, (gap_3, (i_4, (j_5, ((decide (j_5 > (0:Int))), ()))))), ())))
 else
 (some (Sum.inl ((y_2, (gap_3, (i_4, (j_5, (Bool.false, ()))))), ()))))
theorem edit_last.eq2 (g_edit_apart : edit_apart.G) (l0 : edit_last.A0) (l1 : edit_last.A1) (l2 : edit_last.A2) (L : edit_last.A2) (x : edit_last.s2.X) : rndO (edit_last.E g_edit_apart l0 l1 l2) edit_last.hs edit_last.c edit_last.s2 edit_last.x2 2 false L x = edit_last.f2 x.1.1 x.1.2.1 x.1.2.2.1 x.1.2.2.2.1 x.1.2.2.2.2.1 := by
  show _ = (_ : Option _)
  kernel_rfl
noncomputable def edit_last.L2 : Y107 → Option Y93 := fun x => edit_last.f2 x.1.1 x.1.2.1 x.1.2.2.1 x.1.2.2.2.1 x.1.2.2.2.2.1
def edit_last.f (g_edit_apart : Y140 → Option Y143) (l0 : Y90 → Option Y65) (l1 : Y90 → Option Y65) (l2 : Y107 → Option Y93) (step : Int) (x_ y : List Int) (gap i j : Int) : Option Y126 :=
  (Option.bind (l0 ((step, (x_, (y, (gap, (i, (j, ())))))), ())) (fun y0 =>
 (Sum.elim (fun a1 =>
 (bif a1.1.2.2.2.2.2.2.1 then
 (bif (decide ((0:Int) ≤ (Go.IntKind.wrap Go.IntKind.i64 (a1.1.2.2.2.2.1 - (1:Int))))) then
 (bif (decide ((Go.IntKind.wrap Go.IntKind.i64 (a1.1.2.2.2.2.1 - (1:Int))) < (((List.length a1.1.2.1) : Nat) : Int))) then
 (bif (decide ((0:Int) ≤ (Go.IntKind.wrap Go.IntKind.i64 (a1.1.2.2.2.2.2.1 - (1:Int))))) then
 (bif (decide ((Go.IntKind.wrap Go.IntKind.i64 (a1.1.2.2.2.2.2.1 - (1:Int))) < (((List.length a1.1.2.2.1) : Nat) : Int))) then
 (Option.bind (g_edit_apart (((List.getD a1.1.2.1 (Int.toNat (Go.IntKind.wrap Go.IntKind.i64 (a1.1.2.2.2.2.1 - (1:Int)))) (0:Int)), ((List.getD a1.1.2.2.1 (Int.toNat (Go.IntKind.wrap Go.IntKind.i64 (a1.1.2.2.2.2.2.1 - (1:Int)))) (0:Int)), ())), ())) (fun y7 =>
 (some ((y7.1.1, ((Go.IntKind.wrap Go.IntKind.i64 (a1.1.2.2.2.2.1 - (1:Int))), ((Go.IntKind.wrap Go.IntKind.i64 (a1.1.2.2.2.2.2.1 - (1:Int))), (Bool.true, ())))), ()))))
 else
 none)
 else
 none)
 else
 none)
 else
 none)
 else
 (Option.bind (l1 ((a1.1.1, (a1.1.2.1, (a1.1.2.2.1, (a1.1.2.2.2.1, (a1.1.2.2.2.2.1, (a1.1.2.2.2.2.2.1, ())))))), ())) (fun y3 =>
 (Sum.elim (fun a4 =>
 (bif a4.1.2.2.2.2.2.2.1 then
 (bif (decide ((0:Int) ≤ (Go.IntKind.wrap Go.IntKind.i64 (a4.1.2.2.2.2.1 - (1:Int))))) then
 (bif (decide ((Go.IntKind.wrap Go.IntKind.i64 (a4.1.2.2.2.2.1 - (1:Int))) < (((List.length a4.1.2.1) : Nat) : Int))) then
 (Option.bind (g_edit_apart (((List.getD a4.1.2.1 (Int.toNat (Go.IntKind.wrap Go.IntKind.i64 (a4.1.2.2.2.2.1 - (1:Int)))) (0:Int)), (a4.1.2.2.2.1, ())), ())) (fun y8 =>
 (some ((y8.1.1, ((Go.IntKind.wrap Go.IntKind.i64 (a4.1.2.2.2.2.1 - (1:Int))), (a4.1.2.2.2.2.2.1, (Bool.true, ())))), ()))))
 else
 none)
 else
 none)
 else
 (Option.bind (l2 ((a4.1.1, (a4.1.2.2.1, (a4.1.2.2.2.1, (a4.1.2.2.2.2.1, (a4.1.2.2.2.2.2.1, ()))))), ())) (fun y6 =>
 (Sum.elim (fun a7 =>
 (bif a7.1.2.2.2.2.1 then
 (bif (decide ((0:Int) ≤ (Go.IntKind.wrap Go.IntKind.i64 (a7.1.2.2.2.1 - (1:Int))))) then
 (bif (decide ((Go.IntKind.wrap Go.IntKind.i64 (a7.1.2.2.2.1 - (1:Int))) < (((List.length a7.1.1) : Nat) : Int))) then
 (Option.bind (g_edit_apart (((List.getD a7.1.1 (Int.toNat (Go.IntKind.wrap Go.IntKind.i64 (a7.1.2.2.2.1 - (1:Int)))) (0:Int)), (a7.1.2.1, ())), ())) (fun y11 =>
 (some ((y11.1.1, (a7.1.2.2.1, ((Go.IntKind.wrap Go.IntKind.i64 (a7.1.2.2.2.1 - (1:Int))), (Bool.true, ())))), ()))))
 else
 none)
 else
 none)
 else
 (some (((0:Int), ((0:Int), ((0:Int), (Bool.false, ())))), ())))) (fun b7 =>
 (Empty.elim b7)) y6))))) (fun b4 =>
 (Empty.elim b4)) y3))))) (fun b1 =>
 (Empty.elim b1)) y0)))
theorem edit_last.eq (g_edit_apart : edit_apart.G) (l0 : edit_last.A0) (l1 : edit_last.A1) (l2 : edit_last.A2) (x : edit_last.sh.X) : bodO (edit_last.E g_edit_apart l0 l1 l2) edit_last.hs edit_last.c Try.f104 edit_last.sh edit_last.osh x = edit_last.f g_edit_apart l0 l1 l2 x.1.1 x.1.2.1 x.1.2.2.1 x.1.2.2.2.1 x.1.2.2.2.2.1 x.1.2.2.2.2.2.1 := by
  show _ = (_ : Option _)
  kernel_rfl
noncomputable def edit_last (step : Int) (x_ y : List Int) (gap i j : Int) : Option Y126 := edit_last.f edit_apart.F edit_last.L0 edit_last.L1 edit_last.L2 step x_ y gap i j
noncomputable def edit_last.F (x : Y90) : Option Y126 := edit_last x.1.1 x.1.2.1 x.1.2.2.1 x.1.2.2.2.1 x.1.2.2.2.2.1 x.1.2.2.2.2.2.1
theorem edit_last.L0_eq (step_0 : Int) (x_1 y_2 : List Int) (gap_3 i_4 j_5 : Int) : edit_last.L0 ((step_0, x_1, y_2, gap_3, i_4, j_5, ()), ()) = edit_last.f0 step_0 x_1 y_2 gap_3 i_4 j_5 := rfl
theorem edit_last.L1_eq (step_0 : Int) (x_1 y_2 : List Int) (gap_3 i_4 j_5 : Int) : edit_last.L1 ((step_0, x_1, y_2, gap_3, i_4, j_5, ()), ()) = edit_last.f1 step_0 x_1 y_2 gap_3 i_4 j_5 := rfl
theorem edit_last.L2_eq (step_0 : Int) (y_2 : List Int) (gap_3 i_4 j_5 : Int) : edit_last.L2 ((step_0, y_2, gap_3, i_4, j_5, ()), ()) = edit_last.f2 step_0 y_2 gap_3 i_4 j_5 := rfl
theorem edit_last.F_eq (step : Int) (x_ y : List Int) (gap i j : Int) : edit_last.F ((step, x_, y, gap, i, j, ()), ()) = edit_last.f edit_apart.F edit_last.L0 edit_last.L1 edit_last.L2 step x_ y gap i j := rfl
theorem edit_last.ok {tabs : List (Nat × Go.Obj)} (ht : TabsOk tabs) : FOK Try.prog tabs 104 (edit_last.fe edit_last.F) := by
  refine fn_keep2 Try.func104 (edit_last.eq edit_apart.F edit_last.L0 edit_last.L1 edit_last.L2) pw tb (gt_ok ht) (by kernel_rfl) (by kernel_rfl) (fun g ks fe h => ?_) ?_
  · rcases c_cons h with ⟨rfl, rfl⟩ | h
    · exact edit_apart.ok ht
    cases h
  · refine known_at 3 (by kernel_rfl) fun i hi => ?_
    match i, hi with
    | 0, _ => exact atomH (cut_ok (es := edit_last.x0) rfl (edit_last.eq0 edit_apart.F edit_last.L0 edit_last.L1 edit_last.L2)) (by kernel_rfl)
    | 1, _ => exact atomH (cut_ok (es := edit_last.x1) rfl (edit_last.eq1 edit_apart.F edit_last.L0 edit_last.L1 edit_last.L2)) (by kernel_rfl)
    | 2, _ => exact atomH (cut_ok (es := edit_last.x2) rfl (edit_last.eq2 edit_apart.F edit_last.L0 edit_last.L1 edit_last.L2)) (by kernel_rfl)
    | n + 3, h => exact absurd h (by omega)

/-! edit_table -/
def edit_table.f3 (x_0 y_1 : List Int) (gap_2 i_8 j_9 : Int) (first_10 : Bool) (step_11 cost_12 a_13 b_14 : Int) (ok_15 : Bool) (o0 o1 : List Int) : Option Y22 :=
  (bif ok_15 then
 (bif first_10 then
 (some (Sum.inl ((x_0, (y_1, (gap_2, ((), ((), (i_8, (j_9, (first_10, (step_11, (cost_12, (a_13, (b_14, (Bool.true, ()))))))))))))), (o0, (o1, ())))))
 else
 (bif (decide ((0:Int) ≤ a_13)) then
 (bif (decide (a_13 < (((33:Nat) : Nat) : Int))) then
 (bif (decide (((((0:Nat) + ((Int.toNat a_13) * (33:Nat))) : Nat) : Int) < (((List.length o1) : Nat) : Int))) then
 (bif (decide ((0:Int) ≤ b_14)) then
 (bif (decide (b_14 < (((33:Nat) : Nat) : Int))) then
 (bif (decide ((((((0:Nat) + ((Int.toNat a_13) * (33:Nat))) + ((Int.toNat b_14) * (1:Nat))) : Nat) : Int) < (((List.length o1) : Nat) : Int))) then
 (bif (decide ((0:Int) ≤ i_8)) then
 (bif (decide (i_8 < (((33:Nat) : Nat) : Int))) then
 (bif (decide (((((0:Nat) + ((Int.toNat i_8) * (33:Nat))) : Nat) : Int) < (((List.length o1) : Nat) : Int))) then
 (bif (decide ((0:Int) ≤ j_9)) then
 (bif (decide (j_9 < (((33:Nat) : Nat) : Int))) then
 (bif (decide ((((((0:Nat) + ((Int.toNat i_8) * (33:Nat))) + ((Int.toNat j_9) * (1:Nat))) : Nat) : Int) < (((List.length o1) : Nat) : Int))) then
 (some (Sum.inl ((x_0, (y_1, (gap_2, ((), ((), (i_8, (j_9, (first_10, (step_11, (cost_12, (a_13, (b_14, ((decide ((Go.IntKind.wrap Go.IntKind.i64 ((List.getD o1 (((0:Nat) + ((Int.toNat a_13) * (33:Nat))) + ((Int.toNat b_14) * (1:Nat))) (0:Int)) + cost_12)) < (List.getD o1 (((0:Nat) + ((Int.toNat i_8) * (33:Nat))) + ((Int.toNat j_9) * (1:Nat))) (0:Int)))), ()))))))))))))), (o0, (o1, ())))))
 else
 none)
 else
 none)
 else
 none)
 else
 none)
 else
 none)
 else
 none)
 else
 none)
 else
 none)
 else
 none)
 else
 none)
 else
 none)
 else
 none))
 else
 (some (Sum.inl ((x_0, (y_1, (gap_2, ((), ((), (i_8, (j_9, (first_10, (step_11, (cost_12, (a_13, (b_14, (Bool.false, ()))))))))))))), (o0, (o1, ()))))))
theorem edit_table.eq3 (g_edit_last : edit_last.G) (l0 : edit_table.A0) (l1 : edit_table.A1) (l2 : edit_table.A2) (l3 : edit_table.A3) (L : edit_table.A3) (x : edit_table.s3.X) : rndO (edit_table.E g_edit_last l0 l1 l2 l3) edit_table.hs edit_table.c edit_table.s3 edit_table.x3 3 false L x = edit_table.f3 x.1.1 x.1.2.1 x.1.2.2.1 x.1.2.2.2.2.2.1 x.1.2.2.2.2.2.2.1 x.1.2.2.2.2.2.2.2.1 x.1.2.2.2.2.2.2.2.2.1 x.1.2.2.2.2.2.2.2.2.2.1 x.1.2.2.2.2.2.2.2.2.2.2.1 x.1.2.2.2.2.2.2.2.2.2.2.2.1 x.1.2.2.2.2.2.2.2.2.2.2.2.2.1 x.2.1 x.2.2.1 := by
  show _ = (_ : Option _)
  kernel_rfl
noncomputable def edit_table.L3 : Y25 → Option Y22 := fun x => edit_table.f3 x.1.1 x.1.2.1 x.1.2.2.1 x.1.2.2.2.2.2.1 x.1.2.2.2.2.2.2.1 x.1.2.2.2.2.2.2.2.1 x.1.2.2.2.2.2.2.2.2.1 x.1.2.2.2.2.2.2.2.2.2.1 x.1.2.2.2.2.2.2.2.2.2.2.1 x.1.2.2.2.2.2.2.2.2.2.2.2.1 x.1.2.2.2.2.2.2.2.2.2.2.2.2.1 x.2.1 x.2.2.1
def edit_table.f2 (g_edit_last : Y90 → Option Y126) (l3 : Y25 → Option Y22) (L : Y35 → Option Y38) (x_0 y_1 : List Int) (gap_2 i_8 j_9 : Int) (first_10 : Bool) (step_11 : Int) (o0 o1 : List Int) : Option Y38 :=
  (bif (decide (step_11 ≤ (3:Int))) then
 (Option.bind (g_edit_last ((step_11, (x_0, (y_1, (gap_2, (i_8, (j_9, ())))))), ())) (fun y1 =>
 (Option.bind (l3 ((x_0, (y_1, (gap_2, ((), ((), (i_8, (j_9, (first_10, (step_11, (y1.1.1, (y1.1.2.1, (y1.1.2.2.1, (y1.1.2.2.2.1, ()))))))))))))), (o0, (o1, ())))) (fun y2 =>
 (Sum.elim (fun a3 =>
 (bif a3.1.2.2.2.2.2.2.2.2.2.2.2.2.1 then
 (bif (decide ((0:Int) ≤ a3.1.2.2.2.2.2.2.2.2.2.2.1)) then
 (bif (decide (a3.1.2.2.2.2.2.2.2.2.2.2.1 < (((33:Nat) : Nat) : Int))) then
 (bif (decide (((((0:Nat) + ((Int.toNat a3.1.2.2.2.2.2.2.2.2.2.2.1) * (33:Nat))) : Nat) : Int) < (((List.length a3.2.2.1) : Nat) : Int))) then
 (bif (decide ((0:Int) ≤ a3.1.2.2.2.2.2.2.2.2.2.2.2.1)) then
 (bif (decide (a3.1.2.2.2.2.2.2.2.2.2.2.2.1 < (((33:Nat) : Nat) : Int))) then
 (bif (decide ((((((0:Nat) + ((Int.toNat a3.1.2.2.2.2.2.2.2.2.2.2.1) * (33:Nat))) + ((Int.toNat a3.1.2.2.2.2.2.2.2.2.2.2.2.1) * (1:Nat))) : Nat) : Int) < (((List.length a3.2.2.1) : Nat) : Int))) then
 (bif (decide ((0:Int) ≤ a3.1.2.2.2.2.2.1)) then
 (bif (decide (a3.1.2.2.2.2.2.1 < (((33:Nat) : Nat) : Int))) then
 (bif (decide (((((0:Nat) + ((Int.toNat a3.1.2.2.2.2.2.1) * (33:Nat))) : Nat) : Int) < (((List.length a3.2.2.1) : Nat) : Int))) then
 (bif (decide ((0:Int) ≤ a3.1.2.2.2.2.2.2.1)) then
 (bif (decide (a3.1.2.2.2.2.2.2.1 < (((33:Nat) : Nat) : Int))) then
 (bif (decide ((((((0:Nat) + ((Int.toNat a3.1.2.2.2.2.2.1) * (33:Nat))) + ((Int.toNat a3.1.2.2.2.2.2.2.1) * (1:Nat))) : Nat) : Int) < (((List.length a3.2.2.1) : Nat) : Int))) then
 (Option.bind (L ((a3.1.1, (a3.1.2.1, (a3.1.2.2.1, ((), ((), (a3.1.2.2.2.2.2.1, (a3.1.2.2.2.2.2.2.1, (Bool.false, ((Go.IntKind.wrap Go.IntKind.i64 (a3.1.2.2.2.2.2.2.2.2.1 + (1:Int))), ()))))))))), (a3.2.1, ((List.set a3.2.2.1 (((0:Nat) + ((Int.toNat a3.1.2.2.2.2.2.1) * (33:Nat))) + ((Int.toNat a3.1.2.2.2.2.2.2.1) * (1:Nat))) (Go.IntKind.wrap Go.IntKind.i64 ((List.getD a3.2.2.1 (((0:Nat) + ((Int.toNat a3.1.2.2.2.2.2.2.2.2.2.2.1) * (33:Nat))) + ((Int.toNat a3.1.2.2.2.2.2.2.2.2.2.2.2.1) * (1:Nat))) (0:Int)) + a3.1.2.2.2.2.2.2.2.2.2.1))), ())))) (fun y17 =>
 (some y17)))
 else
 none)
 else
 none)
 else
 none)
 else
 none)
 else
 none)
 else
 none)
 else
 none)
 else
 none)
 else
 none)
 else
 none)
 else
 none)
 else
 none)
 else
 (Option.bind (L ((a3.1.1, (a3.1.2.1, (a3.1.2.2.1, ((), ((), (a3.1.2.2.2.2.2.1, (a3.1.2.2.2.2.2.2.1, (a3.1.2.2.2.2.2.2.2.1, ((Go.IntKind.wrap Go.IntKind.i64 (a3.1.2.2.2.2.2.2.2.2.1 + (1:Int))), ()))))))))), (a3.2.1, (a3.2.2.1, ())))) (fun y5 =>
 (some y5))))) (fun b3 =>
 (Empty.elim b3)) y2)))))
 else
 (some (Sum.inl ((x_0, (y_1, (gap_2, ((), ((), (i_8, (j_9, ()))))))), (o0, (o1, ()))))))
theorem edit_table.eq2 (g_edit_last : edit_last.G) (l0 : edit_table.A0) (l1 : edit_table.A1) (l2 : edit_table.A2) (l3 : edit_table.A3) (L : edit_table.A2) (x : edit_table.s2.X) : rndO (edit_table.E g_edit_last l0 l1 l2 l3) edit_table.hs edit_table.c edit_table.s2 edit_table.x2 2 true L x = edit_table.f2 g_edit_last l3 L x.1.1 x.1.2.1 x.1.2.2.1 x.1.2.2.2.2.2.1 x.1.2.2.2.2.2.2.1 x.1.2.2.2.2.2.2.2.1 x.1.2.2.2.2.2.2.2.2.1 x.2.1 x.2.2.1 := by
  show _ = (_ : Option _)
  kernel_rfl
noncomputable def edit_table.L2 : Y35 → Option Y38 := loop fun L x => edit_table.f2 edit_last.F edit_table.L3 L x.1.1 x.1.2.1 x.1.2.2.1 x.1.2.2.2.2.2.1 x.1.2.2.2.2.2.2.1 x.1.2.2.2.2.2.2.2.1 x.1.2.2.2.2.2.2.2.2.1 x.2.1 x.2.2.1
def edit_table.f1 (l2 : Y35 → Option Y38) (L : Y46 → Option Y44) (x_0 y_1 : List Int) (gap_2 i_8 j_9 : Int) (o0 o1 : List Int) : Option Y44 :=
  (bif (decide (j_9 ≤ (((List.length y_1) : Nat) : Int))) then
 (Option.bind (l2 ((x_0, (y_1, (gap_2, ((), ((), (i_8, (j_9, (Bool.true, ((1:Int), ()))))))))), (o0, (o1, ())))) (fun y1 =>
 (Sum.elim (fun a2 =>
 (Option.bind (L ((a2.1.1, (a2.1.2.1, (a2.1.2.2.1, ((), ((), (a2.1.2.2.2.2.2.1, ((Go.IntKind.wrap Go.IntKind.i64 (a2.1.2.2.2.2.2.2.1 + (1:Int))), ()))))))), (a2.2.1, (a2.2.2.1, ())))) (fun y3 =>
 (some y3)))) (fun b2 =>
 (Empty.elim b2)) y1)))
 else
 (some (Sum.inl ((x_0, (y_1, (gap_2, ((), ((), (i_8, ())))))), (o0, (o1, ()))))))
theorem edit_table.eq1 (g_edit_last : edit_last.G) (l0 : edit_table.A0) (l1 : edit_table.A1) (l2 : edit_table.A2) (l3 : edit_table.A3) (L : edit_table.A1) (x : edit_table.s1.X) : rndO (edit_table.E g_edit_last l0 l1 l2 l3) edit_table.hs edit_table.c edit_table.s1 edit_table.x1 1 true L x = edit_table.f1 l2 L x.1.1 x.1.2.1 x.1.2.2.1 x.1.2.2.2.2.2.1 x.1.2.2.2.2.2.2.1 x.2.1 x.2.2.1 := by
  show _ = (_ : Option _)
  kernel_rfl
noncomputable def edit_table.L1 : Y46 → Option Y44 := loop fun L x => edit_table.f1 edit_table.L2 L x.1.1 x.1.2.1 x.1.2.2.1 x.1.2.2.2.2.2.1 x.1.2.2.2.2.2.2.1 x.2.1 x.2.2.1
def edit_table.f0 (l1 : Y46 → Option Y44) (L : Y53 → Option Y89) (x_0 y_1 : List Int) (gap_2 i_8 : Int) (o0 o1 : List Int) : Option Y89 :=
  (bif (decide (i_8 ≤ (((List.length x_0) : Nat) : Int))) then
 (Option.bind (l1 ((x_0, (y_1, (gap_2, ((), ((), (i_8, ((0:Int), ()))))))), (o0, (o1, ())))) (fun y1 =>
 (Sum.elim (fun a2 =>
 (Option.bind (L ((a2.1.1, (a2.1.2.1, (a2.1.2.2.1, ((), ((), ((Go.IntKind.wrap Go.IntKind.i64 (a2.1.2.2.2.2.2.1 + (1:Int))), ())))))), (a2.2.1, (a2.2.2.1, ())))) (fun y3 =>
 (some y3)))) (fun b2 =>
 (Empty.elim b2)) y1)))
 else
 (some (Sum.inl (((), ((), ())), (o0, (o1, ()))))))
theorem edit_table.eq0 (g_edit_last : edit_last.G) (l0 : edit_table.A0) (l1 : edit_table.A1) (l2 : edit_table.A2) (l3 : edit_table.A3) (L : edit_table.A0) (x : edit_table.s0.X) : rndO (edit_table.E g_edit_last l0 l1 l2 l3) edit_table.hs edit_table.c edit_table.s0 edit_table.x0 0 true L x = edit_table.f0 l1 L x.1.1 x.1.2.1 x.1.2.2.1 x.1.2.2.2.2.2.1 x.2.1 x.2.2.1 := by
  show _ = (_ : Option _)
  kernel_rfl
noncomputable def edit_table.L0 : Y53 → Option Y89 := loop fun L x => edit_table.f0 edit_table.L1 L x.1.1 x.1.2.1 x.1.2.2.1 x.1.2.2.2.2.2.1 x.2.1 x.2.2.1
def edit_table.f (l0 : Y53 → Option Y89) (x_ y : List Int) (gap : Int) : Option Y139 :=
  (Option.bind (l0 ((x_, (y, (gap, ((), ((), ((0:Int), ())))))), ((List.replicate (1089:Nat) (0:Int)), ((List.replicate (1089:Nat) (0:Int)), ())))) (fun y0 =>
 (Sum.elim (fun a1 =>
 (bif (decide ((((List.length a1.2.2.1) : Nat) : Int) = (((1089:Nat) : Nat) : Int))) then
 (bif (decide ((((List.length a1.2.1) : Nat) : Int) = (((1089:Nat) : Nat) : Int))) then
 (bif (decide ((((List.length a1.2.2.1) : Nat) : Int) = (((1089:Nat) : Nat) : Int))) then
 (bif (decide ((((List.length a1.2.2.1) : Nat) : Int) = (((1089:Nat) : Nat) : Int))) then
 (some ((a1.2.2.1, ()), ()))
 else
 none)
 else
 none)
 else
 none)
 else
 none)) (fun b1 =>
 (Empty.elim b1)) y0)))
theorem edit_table.eq (g_edit_last : edit_last.G) (l0 : edit_table.A0) (l1 : edit_table.A1) (l2 : edit_table.A2) (l3 : edit_table.A3) (x : edit_table.sh.X) : bodO (edit_table.E g_edit_last l0 l1 l2 l3) edit_table.hs edit_table.c Try.f97 edit_table.sh edit_table.osh x = edit_table.f l0 x.1.1 x.1.2.1 x.1.2.2.1 := by
  show _ = (_ : Option _)
  kernel_rfl
noncomputable def edit_table (x_ y : List Int) (gap : Int) : Option Y139 := edit_table.f edit_table.L0 x_ y gap
noncomputable def edit_table.F (x : Y115) : Option Y139 := edit_table x.1.1 x.1.2.1 x.1.2.2.1
theorem edit_table.L0_eq (x_0 y_1 : List Int) (gap_2 i_8 : Int) (o0 o1 : List Int) : edit_table.L0 ((x_0, y_1, gap_2, (), (), i_8, ()), (o0, o1, ())) = edit_table.f0 edit_table.L1 edit_table.L0 x_0 y_1 gap_2 i_8 o0 o1 :=
  loop_eq (E := (edit_table.E edit_last.F edit_table.L0 edit_table.L1 edit_table.L2 edit_table.L3)) (sh := edit_table.s0) (es := edit_table.x0) (lp := true) (H := fun L x => edit_table.eq0 edit_last.F edit_table.L0 edit_table.L1 edit_table.L2 edit_table.L3 L x) ((x_0, y_1, gap_2, (), (), i_8, ()), (o0, o1, ()))
theorem edit_table.L1_eq (x_0 y_1 : List Int) (gap_2 i_8 j_9 : Int) (o0 o1 : List Int) : edit_table.L1 ((x_0, y_1, gap_2, (), (), i_8, j_9, ()), (o0, o1, ())) = edit_table.f1 edit_table.L2 edit_table.L1 x_0 y_1 gap_2 i_8 j_9 o0 o1 :=
  loop_eq (E := (edit_table.E edit_last.F edit_table.L0 edit_table.L1 edit_table.L2 edit_table.L3)) (sh := edit_table.s1) (es := edit_table.x1) (lp := true) (H := fun L x => edit_table.eq1 edit_last.F edit_table.L0 edit_table.L1 edit_table.L2 edit_table.L3 L x) ((x_0, y_1, gap_2, (), (), i_8, j_9, ()), (o0, o1, ()))
theorem edit_table.L2_eq (x_0 y_1 : List Int) (gap_2 i_8 j_9 : Int) (first_10 : Bool) (step_11 : Int) (o0 o1 : List Int) : edit_table.L2 ((x_0, y_1, gap_2, (), (), i_8, j_9, first_10, step_11, ()), (o0, o1, ())) = edit_table.f2 edit_last.F edit_table.L3 edit_table.L2 x_0 y_1 gap_2 i_8 j_9 first_10 step_11 o0 o1 :=
  loop_eq (E := (edit_table.E edit_last.F edit_table.L0 edit_table.L1 edit_table.L2 edit_table.L3)) (sh := edit_table.s2) (es := edit_table.x2) (lp := true) (H := fun L x => edit_table.eq2 edit_last.F edit_table.L0 edit_table.L1 edit_table.L2 edit_table.L3 L x) ((x_0, y_1, gap_2, (), (), i_8, j_9, first_10, step_11, ()), (o0, o1, ()))
theorem edit_table.L3_eq (x_0 y_1 : List Int) (gap_2 i_8 j_9 : Int) (first_10 : Bool) (step_11 cost_12 a_13 b_14 : Int) (ok_15 : Bool) (o0 o1 : List Int) : edit_table.L3 ((x_0, y_1, gap_2, (), (), i_8, j_9, first_10, step_11, cost_12, a_13, b_14, ok_15, ()), (o0, o1, ())) = edit_table.f3 x_0 y_1 gap_2 i_8 j_9 first_10 step_11 cost_12 a_13 b_14 ok_15 o0 o1 := rfl
theorem edit_table.F_eq (x_ y : List Int) (gap : Int) : edit_table.F ((x_, y, gap, ()), ()) = edit_table.f edit_table.L0 x_ y gap := rfl
theorem edit_table.ok {tabs : List (Nat × Go.Obj)} (ht : TabsOk tabs) : FOK Try.prog tabs 97 (edit_table.fe edit_table.F) := by
  refine fn_keep2 Try.func97 (edit_table.eq edit_last.F edit_table.L0 edit_table.L1 edit_table.L2 edit_table.L3) pw tb (gt_ok ht) (by kernel_rfl) (by kernel_rfl) (fun g ks fe h => ?_) ?_
  · rcases c_cons h with ⟨rfl, rfl⟩ | h
    · exact edit_last.ok ht
    cases h
  · refine known_at 4 (by kernel_rfl) fun i hi => ?_
    match i, hi with
    | 0, _ => exact atomH (loop_ok (es := edit_table.x0) rfl (edit_table.eq0 edit_last.F edit_table.L0 edit_table.L1 edit_table.L2 edit_table.L3)) (by kernel_rfl)
    | 1, _ => exact atomH (loop_ok (es := edit_table.x1) rfl (edit_table.eq1 edit_last.F edit_table.L0 edit_table.L1 edit_table.L2 edit_table.L3)) (by kernel_rfl)
    | 2, _ => exact atomH (loop_ok (es := edit_table.x2) rfl (edit_table.eq2 edit_last.F edit_table.L0 edit_table.L1 edit_table.L2 edit_table.L3)) (by kernel_rfl)
    | 3, _ => exact atomH (cut_ok (es := edit_table.x3) rfl (edit_table.eq3 edit_last.F edit_table.L0 edit_table.L1 edit_table.L2 edit_table.L3)) (by kernel_rfl)
    | n + 4, h => exact absurd h (by omega)

/-! edit_Distance -/
def edit_Distance.f (g_edit_check : Y115 → Option Y143) (g_edit_table : Y115 → Option Y139) (x_ y : List Int) (gap : Int) : Option Y140 :=
  (Option.bind (g_edit_check ((x_, (y, (gap, ()))), ())) (fun y0 =>
 (bif (y0.1.1 != (0:Int)) then
 (some (((0:Int), (y0.1.1, ())), ()))
 else
 (Option.bind (g_edit_table ((x_, (y, (gap, ()))), ())) (fun y2 =>
 (bif (decide ((((List.length x_) : Nat) : Int) < (((33:Nat) : Nat) : Int))) then
 (bif (decide ((((((Int.toNat (((List.length x_) : Nat) : Int)) * (33:Nat)) + (33:Nat)) : Nat) : Int) ≤ (((List.length y2.1.1) : Nat) : Int))) then
 (bif (decide ((((List.length y) : Nat) : Int) < (((33:Nat) : Nat) : Int))) then
 (bif (decide ((((List.length y) : Nat) : Int) < (((List.length (List.take (33:Nat) (List.drop ((Int.toNat (((List.length x_) : Nat) : Int)) * (33:Nat)) y2.1.1))) : Nat) : Int))) then
 (some (((List.getD (List.take (33:Nat) (List.drop ((Int.toNat (((List.length x_) : Nat) : Int)) * (33:Nat)) y2.1.1)) (Int.toNat (((List.length y) : Nat) : Int)) (0:Int)), ((0:Int), ())), ()))
 else
 none)
 else
 none)
 else
 none)
 else
 none))))))
theorem edit_Distance.eq (g_edit_check : edit_check.G) (g_edit_table : edit_table.G) (x : edit_Distance.sh.X) : bodO (edit_Distance.E g_edit_check g_edit_table) edit_Distance.hs edit_Distance.c Try.f84 edit_Distance.sh edit_Distance.osh x = edit_Distance.f g_edit_check g_edit_table x.1.1 x.1.2.1 x.1.2.2.1 := by
  show _ = (_ : Option _)
  kernel_rfl
noncomputable def edit_Distance (x_ y : List Int) (gap : Int) : Option Y140 := edit_Distance.f edit_check.F edit_table.F x_ y gap
noncomputable def edit_Distance.F (x : Y115) : Option Y140 := edit_Distance x.1.1 x.1.2.1 x.1.2.2.1
theorem edit_Distance.F_eq (x_ y : List Int) (gap : Int) : edit_Distance.F ((x_, y, gap, ()), ()) = edit_Distance.f edit_check.F edit_table.F x_ y gap := rfl
theorem edit_Distance.ok {tabs : List (Nat × Go.Obj)} (ht : TabsOk tabs) : FOK Try.prog tabs 84 (edit_Distance.fe edit_Distance.F) := by
  refine fn_keep2 Try.func84 (edit_Distance.eq edit_check.F edit_table.F) pw tb (gt_ok ht) (by kernel_rfl) (by kernel_rfl) (fun g ks fe h => ?_) ?_
  · rcases c_cons h with ⟨rfl, rfl⟩ | h
    · exact edit_check.ok ht
    rcases c_cons h with ⟨rfl, rfl⟩ | h
    · exact edit_table.ok ht
    cases h
  · exact known_at 0 (by kernel_rfl) fun i hi => absurd hi (Nat.not_lt_zero i)

/-! measure_distances_3 -/
def measure_distances_3.f (g_edit_Distance : Y115 → Option Y140) (g_measure_whole : Y140 → Option Y122) (x_ y : List Int) (o0_0 o0_1 o0_2 : Int) : Option Y82 :=
  (Option.bind (g_edit_Distance ((x_, (y, (o0_2, ()))), ())) (fun y0 =>
 (Option.bind (g_measure_whole ((y0.1.1, (y0.1.2.1, ())), ())) (fun y1 =>
 (some (((y1.1.1.1, (y1.1.1.2.1, ())), (y1.1.2.1, ())), ((o0_0, (o0_1, (o0_2, ()))), ())))))))
theorem measure_distances_3.eq (g_edit_Distance : edit_Distance.G) (g_measure_whole : measure_whole.G) (x : measure_distances_3.sh.X) : bodO (measure_distances_3.E g_edit_Distance g_measure_whole) measure_distances_3.hs measure_distances_3.c Try.f83 measure_distances_3.sh measure_distances_3.osh x = measure_distances_3.f g_edit_Distance g_measure_whole x.1.1 x.1.2.1 x.2.1.1 x.2.1.2.1 x.2.1.2.2.1 := by
  show _ = (_ : Option _)
  kernel_rfl
noncomputable def measure_distances_3 (x_ y : List Int) (o0_0 o0_1 o0_2 : Int) : Option Y82 := measure_distances_3.f edit_Distance.F measure_whole.F x_ y o0_0 o0_1 o0_2
noncomputable def measure_distances_3.F (x : Y73) : Option Y82 := measure_distances_3 x.1.1 x.1.2.1 x.2.1.1 x.2.1.2.1 x.2.1.2.2.1
theorem measure_distances_3.F_eq (x_ y : List Int) (o0_0 o0_1 o0_2 : Int) : measure_distances_3.F ((x_, y, (), ()), ((o0_0, o0_1, o0_2, ()), ())) = measure_distances_3.f edit_Distance.F measure_whole.F x_ y o0_0 o0_1 o0_2 := rfl
theorem measure_distances_3.ok {tabs : List (Nat × Go.Obj)} (ht : TabsOk tabs) : FOK Try.prog tabs 83 (measure_distances_3.fe measure_distances_3.F) := by
  refine fn_keep2 Try.func83 (measure_distances_3.eq edit_Distance.F measure_whole.F) pw tb (gt_ok ht) (by kernel_rfl) (by kernel_rfl) (fun g ks fe h => ?_) ?_
  · rcases c_cons h with ⟨rfl, rfl⟩ | h
    · exact edit_Distance.ok ht
    rcases c_cons h with ⟨rfl, rfl⟩ | h
    · exact measure_whole.ok ht
    cases h
  · exact known_at 0 (by kernel_rfl) fun i hi => absurd hi (Nat.not_lt_zero i)

/-! measure_Distance -/
def measure_Distance.f (g_measure_Check : Y120 → Option Y143) (g_measure_distances : Y120 → Option Y112) (g_measure_distances_1 : Y124 → Option Y122) (g_euclid_Shifted : Y124 → Option Y122) (g_normal_Gap : Y124 → Option Y122) (g_measure_distances_2 : Y73 → Option Y82) (g_measure_distances_3 : Y73 → Option Y82) (m_Kind m_Band m_Gap : Int) (x_ y : List Int) : Option Y122 :=
  (Option.bind (g_measure_Check (((m_Kind, (m_Band, (m_Gap, ()))), ()), ())) (fun y0 =>
 (bif (y0.1.1 != (0:Int)) then
 (some ((((0:Int), ((0:Int), ())), (y0.1.1, ())), ()))
 else
 (Option.bind (g_measure_distances (((m_Kind, (m_Band, (m_Gap, ()))), ()), ())) (fun y2 =>
 (bif (m_Kind == (1:Int)) then
 (Option.bind (g_measure_distances_1 ((x_, (y, ())), ())) (fun y4 =>
 (some (((y4.1.1.1, (y4.1.1.2.1, ())), (y4.1.2.1, ())), ()))))
 else
 (bif (m_Kind == (2:Int)) then
 (Option.bind (g_euclid_Shifted ((x_, (y, ())), ())) (fun y5 =>
 (some (((y5.1.1.1, (y5.1.1.2.1, ())), (y5.1.2.1, ())), ()))))
 else
 (bif (m_Kind == (3:Int)) then
 (Option.bind (g_normal_Gap ((x_, (y, ())), ())) (fun y6 =>
 (some (((y6.1.1.1, (y6.1.1.2.1, ())), (y6.1.2.1, ())), ()))))
 else
 (bif (m_Kind == (4:Int)) then
 (Option.bind (g_measure_distances_2 ((x_, (y, ((), ()))), ((y2.2.1.1, (y2.2.1.2.1, (y2.2.1.2.2.1, ()))), ()))) (fun y7 =>
 (some (((y7.1.1.1, (y7.1.1.2.1, ())), (y7.1.2.1, ())), ()))))
 else
 (bif (m_Kind == (5:Int)) then
 (Option.bind (g_measure_distances_3 ((x_, (y, ((), ()))), ((y2.2.1.1, (y2.2.1.2.1, (y2.2.1.2.2.1, ()))), ()))) (fun y8 =>
 (some (((y8.1.1.1, (y8.1.1.2.1, ())), (y8.1.2.1, ())), ()))))
 else
 none))))))))))
theorem measure_Distance.eq (g_measure_Check : measure_Check.G) (g_measure_distances : measure_distances.G) (g_measure_distances_1 : measure_distances_1.G) (g_euclid_Shifted : euclid_Shifted.G) (g_normal_Gap : normal_Gap.G) (g_measure_distances_2 : measure_distances_2.G) (g_measure_distances_3 : measure_distances_3.G) (x : measure_Distance.sh.X) : bodO (measure_Distance.E g_measure_Check g_measure_distances g_measure_distances_1 g_euclid_Shifted g_normal_Gap g_measure_distances_2 g_measure_distances_3) measure_Distance.hs measure_Distance.c Try.f37 measure_Distance.sh measure_Distance.osh x = measure_Distance.f g_measure_Check g_measure_distances g_measure_distances_1 g_euclid_Shifted g_normal_Gap g_measure_distances_2 g_measure_distances_3 x.1.1.1 x.1.1.2.1 x.1.1.2.2.1 x.1.2.1 x.1.2.2.1 := by
  show _ = (_ : Option _)
  kernel_rfl
noncomputable def measure_Distance (m_Kind m_Band m_Gap : Int) (x_ y : List Int) : Option Y122 := measure_Distance.f measure_Check.F measure_distances.F measure_distances_1.F euclid_Shifted.F normal_Gap.F measure_distances_2.F measure_distances_3.F m_Kind m_Band m_Gap x_ y
noncomputable def measure_Distance.F (x : Y84) : Option Y122 := measure_Distance x.1.1.1 x.1.1.2.1 x.1.1.2.2.1 x.1.2.1 x.1.2.2.1
theorem measure_Distance.F_eq (m_Kind m_Band m_Gap : Int) (x_ y : List Int) : measure_Distance.F (((m_Kind, m_Band, m_Gap, ()), x_, y, ()), ()) = measure_Distance.f measure_Check.F measure_distances.F measure_distances_1.F euclid_Shifted.F normal_Gap.F measure_distances_2.F measure_distances_3.F m_Kind m_Band m_Gap x_ y := rfl
theorem measure_Distance.ok {tabs : List (Nat × Go.Obj)} (ht : TabsOk tabs) : FOK Try.prog tabs 37 (measure_Distance.fe measure_Distance.F) := by
  refine fn_keep2 Try.func37 (measure_Distance.eq measure_Check.F measure_distances.F measure_distances_1.F euclid_Shifted.F normal_Gap.F measure_distances_2.F measure_distances_3.F) pw tb (gt_ok ht) (by kernel_rfl) (by kernel_rfl) (fun g ks fe h => ?_) ?_
  · rcases c_cons h with ⟨rfl, rfl⟩ | h
    · exact measure_Check.ok ht
    rcases c_cons h with ⟨rfl, rfl⟩ | h
    · exact measure_distances.ok ht
    rcases c_cons h with ⟨rfl, rfl⟩ | h
    · exact measure_distances_1.ok ht
    rcases c_cons h with ⟨rfl, rfl⟩ | h
    · exact euclid_Shifted.ok ht
    rcases c_cons h with ⟨rfl, rfl⟩ | h
    · exact normal_Gap.ok ht
    rcases c_cons h with ⟨rfl, rfl⟩ | h
    · exact measure_distances_2.ok ht
    rcases c_cons h with ⟨rfl, rfl⟩ | h
    · exact measure_distances_3.ok ht
    cases h
  · exact known_at 0 (by kernel_rfl) fun i hi => absurd hi (Nat.not_lt_zero i)

/-! ratio_Valid -/
def ratio_Valid.f (g_ratio_within : Y131 → Option Y142) (g_ratio_divisor : Y140 → Option Y143) (a_Num a_Den : Int) : Option Y142 :=
  (Option.bind (g_ratio_within (((a_Num, (a_Den, ())), ()), ())) (fun y0 =>
 (bif y0.1.1 then
 (Option.bind (g_ratio_divisor ((a_Num, (a_Den, ())), ())) (fun y2 =>
 (some (((y2.1.1 == (1:Int)), ()), ()))))
 else
 (some ((Bool.false, ()), ())))))
theorem ratio_Valid.eq (g_ratio_within : ratio_within.G) (g_ratio_divisor : ratio_divisor.G) (x : ratio_Valid.sh.X) : bodO (ratio_Valid.E g_ratio_within g_ratio_divisor) ratio_Valid.hs ratio_Valid.c Try.f52 ratio_Valid.sh ratio_Valid.osh x = ratio_Valid.f g_ratio_within g_ratio_divisor x.1.1.1 x.1.1.2.1 := by
  show _ = (_ : Option _)
  kernel_rfl
noncomputable def ratio_Valid (a_Num a_Den : Int) : Option Y142 := ratio_Valid.f ratio_within.F ratio_divisor.F a_Num a_Den
noncomputable def ratio_Valid.F (x : Y131) : Option Y142 := ratio_Valid x.1.1.1 x.1.1.2.1
theorem ratio_Valid.F_eq (a_Num a_Den : Int) : ratio_Valid.F (((a_Num, a_Den, ()), ()), ()) = ratio_Valid.f ratio_within.F ratio_divisor.F a_Num a_Den := rfl
theorem ratio_Valid.ok {tabs : List (Nat × Go.Obj)} (ht : TabsOk tabs) : FOK Try.prog tabs 52 (ratio_Valid.fe ratio_Valid.F) := by
  refine fn_keep2 Try.func52 (ratio_Valid.eq ratio_within.F ratio_divisor.F) pw tb (gt_ok ht) (by kernel_rfl) (by kernel_rfl) (fun g ks fe h => ?_) ?_
  · rcases c_cons h with ⟨rfl, rfl⟩ | h
    · exact ratio_within.ok ht
    rcases c_cons h with ⟨rfl, rfl⟩ | h
    · exact ratio_divisor.ok ht
    cases h
  · exact known_at 0 (by kernel_rfl) fun i hi => absurd hi (Nat.not_lt_zero i)

/-! bits_Mul64 -/
def bits_Mul64.f (x_ y : Int) : Option Y140 :=
  (some (((Go.IntKind.wrap Go.IntKind.u64 ((Go.IntKind.wrap Go.IntKind.u64 ((Go.IntKind.wrap Go.IntKind.u64 ((Int.fdiv x_ ((2:Int) ^ (Min.min (Int.toNat (32:Int)) (64:Nat)))) * (Int.fdiv y ((2:Int) ^ (Min.min (Int.toNat (32:Int)) (64:Nat)))))) + (Int.fdiv (Go.IntKind.wrap Go.IntKind.u64 ((Go.IntKind.wrap Go.IntKind.u64 ((Int.fdiv x_ ((2:Int) ^ (Min.min (Int.toNat (32:Int)) (64:Nat)))) * (Go.IntKind.wrap Go.IntKind.u64 (((BitVec.toNat (HAnd.hAnd (BitVec.ofInt (64:Nat) y) (BitVec.ofInt (64:Nat) (4294967295:Int)))) : Nat) : Int)))) + (Int.fdiv (Go.IntKind.wrap Go.IntKind.u64 ((Go.IntKind.wrap Go.IntKind.u64 (((BitVec.toNat (HAnd.hAnd (BitVec.ofInt (64:Nat) x_) (BitVec.ofInt (64:Nat) (4294967295:Int)))) : Nat) : Int)) * (Go.IntKind.wrap Go.IntKind.u64 (((BitVec.toNat (HAnd.hAnd (BitVec.ofInt (64:Nat) y) (BitVec.ofInt (64:Nat) (4294967295:Int)))) : Nat) : Int)))) ((2:Int) ^ (Min.min (Int.toNat (32:Int)) (64:Nat)))))) ((2:Int) ^ (Min.min (Int.toNat (32:Int)) (64:Nat)))))) + (Int.fdiv (Go.IntKind.wrap Go.IntKind.u64 ((Go.IntKind.wrap Go.IntKind.u64 (((BitVec.toNat (HAnd.hAnd (BitVec.ofInt (64:Nat) (Go.IntKind.wrap Go.IntKind.u64 ((Go.IntKind.wrap Go.IntKind.u64 ((Int.fdiv x_ ((2:Int) ^ (Min.min (Int.toNat (32:Int)) (64:Nat)))) * (Go.IntKind.wrap Go.IntKind.u64 (((BitVec.toNat (HAnd.hAnd (BitVec.ofInt (64:Nat) y) (BitVec.ofInt (64:Nat) (4294967295:Int)))) : Nat) : Int)))) + (Int.fdiv (Go.IntKind.wrap Go.IntKind.u64 ((Go.IntKind.wrap Go.IntKind.u64 (((BitVec.toNat (HAnd.hAnd (BitVec.ofInt (64:Nat) x_) (BitVec.ofInt (64:Nat) (4294967295:Int)))) : Nat) : Int)) * (Go.IntKind.wrap Go.IntKind.u64 (((BitVec.toNat (HAnd.hAnd (BitVec.ofInt (64:Nat) y) (BitVec.ofInt (64:Nat) (4294967295:Int)))) : Nat) : Int)))) ((2:Int) ^ (Min.min (Int.toNat (32:Int)) (64:Nat))))))) (BitVec.ofInt (64:Nat) (4294967295:Int)))) : Nat) : Int)) + (Go.IntKind.wrap Go.IntKind.u64 ((Go.IntKind.wrap Go.IntKind.u64 (((BitVec.toNat (HAnd.hAnd (BitVec.ofInt (64:Nat) x_) (BitVec.ofInt (64:Nat) (4294967295:Int)))) : Nat) : Int)) * (Int.fdiv y ((2:Int) ^ (Min.min (Int.toNat (32:Int)) (64:Nat)))))))) ((2:Int) ^ (Min.min (Int.toNat (32:Int)) (64:Nat)))))), ((Go.IntKind.wrap Go.IntKind.u64 (x_ * y)), ())), ()))
theorem bits_Mul64.eq (x : bits_Mul64.sh.X) : bodO (bits_Mul64.E) bits_Mul64.hs bits_Mul64.c Try.f75 bits_Mul64.sh bits_Mul64.osh x = bits_Mul64.f x.1.1 x.1.2.1 := by
  show _ = (_ : Option _)
  kernel_rfl
noncomputable def bits_Mul64 (x_ y : Int) : Option Y140 := bits_Mul64.f x_ y
noncomputable def bits_Mul64.F (x : Y140) : Option Y140 := bits_Mul64 x.1.1 x.1.2.1
theorem bits_Mul64.F_eq (x_ y : Int) : bits_Mul64.F ((x_, y, ()), ()) = bits_Mul64.f x_ y := rfl
theorem bits_Mul64.ok {tabs : List (Nat × Go.Obj)} (ht : TabsOk tabs) : FOK Try.prog tabs 75 (bits_Mul64.fe bits_Mul64.F) := by
  refine fn_keep2 Try.func75 (bits_Mul64.eq) pw tb (gt_ok ht) (by kernel_rfl) (by kernel_rfl) (fun g ks fe h => ?_) ?_
  · cases h
  · exact known_at 0 (by kernel_rfl) fun i hi => absurd hi (Nat.not_lt_zero i)

/-! ratio_Cmp -/
def ratio_Cmp.f0 (g_ratio_Valid : Y131 → Option Y142) (o0_0 o0_1 o1_0 o1_1 : Int) : Option Y58 :=
  (Option.bind (g_ratio_Valid (((o0_0, (o0_1, ())), ()), ())) (fun y0 =>
 (bif (!y0.1.1) then
 (some (Sum.inl (((), ((), (Bool.true, ()))), ((o0_0, (o0_1, ())), ((o1_0, (o1_1, ())), ())))))
 else
 (Option.bind (g_ratio_Valid (((o1_0, (o1_1, ())), ()), ())) (fun y2 =>
 (some (Sum.inl (((), ((), ((!y2.1.1), ()))), ((o0_0, (o0_1, ())), ((o1_0, (o1_1, ())), ()))))))))))
theorem ratio_Cmp.eq0 (g_ratio_Valid : ratio_Valid.G) (g_bits_Mul64 : bits_Mul64.G) (l0 : ratio_Cmp.A0) (l1 : ratio_Cmp.A1) (L : ratio_Cmp.A0) (x : ratio_Cmp.s0.X) : rndO (ratio_Cmp.E g_ratio_Valid g_bits_Mul64 l0 l1) ratio_Cmp.hs ratio_Cmp.c ratio_Cmp.s0 ratio_Cmp.x0 0 false L x = ratio_Cmp.f0 g_ratio_Valid x.2.1.1 x.2.1.2.1 x.2.2.1.1 x.2.2.1.2.1 := by
  show _ = (_ : Option _)
  kernel_rfl
noncomputable def ratio_Cmp.L0 : Y80 → Option Y58 := fun x => ratio_Cmp.f0 ratio_Valid.F x.2.1.1 x.2.1.2.1 x.2.2.1.1 x.2.2.1.2.1
def ratio_Cmp.f1 (high_5 low_6 other_7 rest_8 : Int) : Option Y100 :=
  (bif (decide (high_5 < other_7)) then
 (some (Sum.inl ((high_5, (low_6, (other_7, (rest_8, (Bool.true, ()))))), ())))
 else
 (bif (high_5 == other_7) then
 (some (Sum.inl ((high_5, (low_6, (other_7, (rest_8, ((decide (low_6 < rest_8)), ()))))), ())))
 else
 (some (Sum.inl ((high_5, (low_6, (other_7, (rest_8, (Bool.false, ()))))), ())))))
theorem ratio_Cmp.eq1 (g_ratio_Valid : ratio_Valid.G) (g_bits_Mul64 : bits_Mul64.G) (l0 : ratio_Cmp.A0) (l1 : ratio_Cmp.A1) (L : ratio_Cmp.A1) (x : ratio_Cmp.s1.X) : rndO (ratio_Cmp.E g_ratio_Valid g_bits_Mul64 l0 l1) ratio_Cmp.hs ratio_Cmp.c ratio_Cmp.s1 ratio_Cmp.x1 1 false L x = ratio_Cmp.f1 x.1.1 x.1.2.1 x.1.2.2.1 x.1.2.2.2.1 := by
  show _ = (_ : Option _)
  kernel_rfl
noncomputable def ratio_Cmp.L1 : Y128 → Option Y100 := fun x => ratio_Cmp.f1 x.1.1 x.1.2.1 x.1.2.2.1 x.1.2.2.2.1
def ratio_Cmp.f (g_bits_Mul64 : Y140 → Option Y140) (l0 : Y80 → Option Y58) (l1 : Y128 → Option Y100) (a_Num a_Den b_Num b_Den : Int) : Option Y143 :=
  (Option.bind (l0 (((), ((), ())), ((a_Num, (a_Den, ())), ((b_Num, (b_Den, ())), ())))) (fun y0 =>
 (Sum.elim (fun a1 =>
 (bif a1.1.2.2.1 then
 (some (((0:Int), ()), ()))
 else
 (Option.bind (g_bits_Mul64 (((Go.IntKind.wrap Go.IntKind.u64 a1.2.1.1), ((Go.IntKind.wrap Go.IntKind.u64 a1.2.2.1.2.1), ())), ())) (fun y3 =>
 (Option.bind (g_bits_Mul64 (((Go.IntKind.wrap Go.IntKind.u64 a1.2.2.1.1), ((Go.IntKind.wrap Go.IntKind.u64 a1.2.1.2.1), ())), ())) (fun y4 =>
 (Option.bind (l1 ((y3.1.1, (y3.1.2.1, (y4.1.1, (y4.1.2.1, ())))), ())) (fun y5 =>
 (Sum.elim (fun a6 =>
 (bif a6.1.2.2.2.2.1 then
 (some (((-(1:Int)), ()), ()))
 else
 (bif (a6.1.1 == a6.1.2.2.1) then
 (bif (a6.1.2.1 == a6.1.2.2.2.1) then
 (some (((0:Int), ()), ()))
 else
 (some (((1:Int), ()), ())))
 else
 (some (((1:Int), ()), ()))))) (fun b6 =>
 (Empty.elim b6)) y5))))))))) (fun b1 =>
 (Empty.elim b1)) y0)))
theorem ratio_Cmp.eq (g_ratio_Valid : ratio_Valid.G) (g_bits_Mul64 : bits_Mul64.G) (l0 : ratio_Cmp.A0) (l1 : ratio_Cmp.A1) (x : ratio_Cmp.sh.X) : bodO (ratio_Cmp.E g_ratio_Valid g_bits_Mul64 l0 l1) ratio_Cmp.hs ratio_Cmp.c Try.f55 ratio_Cmp.sh ratio_Cmp.osh x = ratio_Cmp.f g_bits_Mul64 l0 l1 x.1.1.1 x.1.1.2.1 x.1.2.1.1 x.1.2.1.2.1 := by
  show _ = (_ : Option _)
  kernel_rfl
noncomputable def ratio_Cmp (a_Num a_Den b_Num b_Den : Int) : Option Y143 := ratio_Cmp.f bits_Mul64.F ratio_Cmp.L0 ratio_Cmp.L1 a_Num a_Den b_Num b_Den
noncomputable def ratio_Cmp.F (x : Y99) : Option Y143 := ratio_Cmp x.1.1.1 x.1.1.2.1 x.1.2.1.1 x.1.2.1.2.1
theorem ratio_Cmp.L0_eq (o0_0 o0_1 o1_0 o1_1 : Int) : ratio_Cmp.L0 (((), (), ()), ((o0_0, o0_1, ()), (o1_0, o1_1, ()), ())) = ratio_Cmp.f0 ratio_Valid.F o0_0 o0_1 o1_0 o1_1 := rfl
theorem ratio_Cmp.L1_eq (high_5 low_6 other_7 rest_8 : Int) : ratio_Cmp.L1 ((high_5, low_6, other_7, rest_8, ()), ()) = ratio_Cmp.f1 high_5 low_6 other_7 rest_8 := rfl
theorem ratio_Cmp.F_eq (a_Num a_Den b_Num b_Den : Int) : ratio_Cmp.F (((a_Num, a_Den, ()), (b_Num, b_Den, ()), ()), ()) = ratio_Cmp.f bits_Mul64.F ratio_Cmp.L0 ratio_Cmp.L1 a_Num a_Den b_Num b_Den := rfl
theorem ratio_Cmp.ok {tabs : List (Nat × Go.Obj)} (ht : TabsOk tabs) : FOK Try.prog tabs 55 (ratio_Cmp.fe ratio_Cmp.F) := by
  refine fn_keep2 Try.func55 (ratio_Cmp.eq ratio_Valid.F bits_Mul64.F ratio_Cmp.L0 ratio_Cmp.L1) pw tb (gt_ok ht) (by kernel_rfl) (by kernel_rfl) (fun g ks fe h => ?_) ?_
  · rcases c_cons h with ⟨rfl, rfl⟩ | h
    · exact ratio_Valid.ok ht
    rcases c_cons h with ⟨rfl, rfl⟩ | h
    · exact bits_Mul64.ok ht
    cases h
  · refine known_at 2 (by kernel_rfl) fun i hi => ?_
    match i, hi with
    | 0, _ => exact atomH (cut_ok (es := ratio_Cmp.x0) rfl (ratio_Cmp.eq0 ratio_Valid.F bits_Mul64.F ratio_Cmp.L0 ratio_Cmp.L1)) (by kernel_rfl)
    | 1, _ => exact atomH (cut_ok (es := ratio_Cmp.x1) rfl (ratio_Cmp.eq1 ratio_Valid.F bits_Mul64.F ratio_Cmp.L0 ratio_Cmp.L1)) (by kernel_rfl)
    | n + 2, h => exact absurd h (by omega)

/-! ratio_Less -/
def ratio_Less.f (g_ratio_Cmp : Y99 → Option Y143) (a_Num a_Den b_Num b_Den : Int) : Option Y142 :=
  (Option.bind (g_ratio_Cmp (((a_Num, (a_Den, ())), ((b_Num, (b_Den, ())), ())), ())) (fun y0 =>
 (some (((decide (y0.1.1 < (0:Int))), ()), ()))))
theorem ratio_Less.eq (g_ratio_Cmp : ratio_Cmp.G) (x : ratio_Less.sh.X) : bodO (ratio_Less.E g_ratio_Cmp) ratio_Less.hs ratio_Less.c Try.f34 ratio_Less.sh ratio_Less.osh x = ratio_Less.f g_ratio_Cmp x.1.1.1 x.1.1.2.1 x.1.2.1.1 x.1.2.1.2.1 := by
  show _ = (_ : Option _)
  kernel_rfl
noncomputable def ratio_Less (a_Num a_Den b_Num b_Den : Int) : Option Y142 := ratio_Less.f ratio_Cmp.F a_Num a_Den b_Num b_Den
noncomputable def ratio_Less.F (x : Y99) : Option Y142 := ratio_Less x.1.1.1 x.1.1.2.1 x.1.2.1.1 x.1.2.1.2.1
theorem ratio_Less.F_eq (a_Num a_Den b_Num b_Den : Int) : ratio_Less.F (((a_Num, a_Den, ()), (b_Num, b_Den, ()), ()), ()) = ratio_Less.f ratio_Cmp.F a_Num a_Den b_Num b_Den := rfl
theorem ratio_Less.ok {tabs : List (Nat × Go.Obj)} (ht : TabsOk tabs) : FOK Try.prog tabs 34 (ratio_Less.fe ratio_Less.F) := by
  refine fn_keep2 Try.func34 (ratio_Less.eq ratio_Cmp.F) pw tb (gt_ok ht) (by kernel_rfl) (by kernel_rfl) (fun g ks fe h => ?_) ?_
  · rcases c_cons h with ⟨rfl, rfl⟩ | h
    · exact ratio_Cmp.ok ht
    cases h
  · exact known_at 0 (by kernel_rfl) fun i hi => absurd hi (Nat.not_lt_zero i)

/-! profile_Nearer -/
def profile_Nearer.f0 (o0_0 o0_1 o0_2 o1_0 o1_1 o1_2 : Int) : Option Y45 :=
  (bif ((o0_0 == o1_0) && (((o0_1 == o1_1) && ((o0_2 == o1_2) && Bool.true)) && Bool.true)) then
 (some (Sum.inl (((), ((), (Bool.true, ()))), ((o0_0, (o0_1, (o0_2, ()))), ((o1_0, (o1_1, (o1_2, ()))), ())))))
 else
 (some (Sum.inl (((), ((), ((decide (o0_0 < (0:Int))), ()))), ((o0_0, (o0_1, (o0_2, ()))), ((o1_0, (o1_1, (o1_2, ()))), ()))))))
theorem profile_Nearer.eq0 (g_ratio_Less : ratio_Less.G) (l0 : profile_Nearer.A0) (L : profile_Nearer.A0) (x : profile_Nearer.s0.X) : rndO (profile_Nearer.E g_ratio_Less l0) profile_Nearer.hs profile_Nearer.c profile_Nearer.s0 profile_Nearer.x0 0 false L x = profile_Nearer.f0 x.2.1.1 x.2.1.2.1 x.2.1.2.2.1 x.2.2.1.1 x.2.2.1.2.1 x.2.2.1.2.2.1 := by
  show _ = (_ : Option _)
  kernel_rfl
noncomputable def profile_Nearer.L0 : Y64 → Option Y45 := fun x => profile_Nearer.f0 x.2.1.1 x.2.1.2.1 x.2.1.2.2.1 x.2.2.1.1 x.2.2.1.2.1 x.2.2.1.2.2.1
def profile_Nearer.f (g_ratio_Less : Y99 → Option Y142) (l0 : Y64 → Option Y45) (a_At a_Distance_Num a_Distance_Den b_At b_Distance_Num b_Distance_Den : Int) : Option Y142 :=
  (Option.bind (l0 (((), ((), ())), ((a_At, (a_Distance_Num, (a_Distance_Den, ()))), ((b_At, (b_Distance_Num, (b_Distance_Den, ()))), ())))) (fun y0 =>
 (Sum.elim (fun a1 =>
 (bif a1.1.2.2.1 then
 (some ((Bool.false, ()), ()))
 else
 (bif (decide (a1.2.2.1.1 < (0:Int))) then
 (some ((Bool.true, ()), ()))
 else
 (Option.bind (g_ratio_Less (((a1.2.1.2.1, (a1.2.1.2.2.1, ())), ((a1.2.2.1.2.1, (a1.2.2.1.2.2.1, ())), ())), ())) (fun y4 =>
 (bif y4.1.1 then
 (some ((Bool.true, ()), ()))
 else
 (Option.bind (g_ratio_Less (((a1.2.2.1.2.1, (a1.2.2.1.2.2.1, ())), ((a1.2.1.2.1, (a1.2.1.2.2.1, ())), ())), ())) (fun y6 =>
 (bif (!y6.1.1) then
 (some (((decide (a1.2.1.1 < a1.2.2.1.1)), ()), ()))
 else
 (some ((Bool.false, ()), ()))))))))))) (fun b1 =>
 (Empty.elim b1)) y0)))
theorem profile_Nearer.eq (g_ratio_Less : ratio_Less.G) (l0 : profile_Nearer.A0) (x : profile_Nearer.sh.X) : bodO (profile_Nearer.E g_ratio_Less l0) profile_Nearer.hs profile_Nearer.c Try.f15 profile_Nearer.sh profile_Nearer.osh x = profile_Nearer.f g_ratio_Less l0 x.1.1.1 x.1.1.2.1 x.1.1.2.2.1 x.1.2.1.1 x.1.2.1.2.1 x.1.2.1.2.2.1 := by
  show _ = (_ : Option _)
  kernel_rfl
noncomputable def profile_Nearer (a_At a_Distance_Num a_Distance_Den b_At b_Distance_Num b_Distance_Den : Int) : Option Y142 := profile_Nearer.f ratio_Less.F profile_Nearer.L0 a_At a_Distance_Num a_Distance_Den b_At b_Distance_Num b_Distance_Den
noncomputable def profile_Nearer.F (x : Y83) : Option Y142 := profile_Nearer x.1.1.1 x.1.1.2.1 x.1.1.2.2.1 x.1.2.1.1 x.1.2.1.2.1 x.1.2.1.2.2.1
theorem profile_Nearer.L0_eq (o0_0 o0_1 o0_2 o1_0 o1_1 o1_2 : Int) : profile_Nearer.L0 (((), (), ()), ((o0_0, o0_1, o0_2, ()), (o1_0, o1_1, o1_2, ()), ())) = profile_Nearer.f0 o0_0 o0_1 o0_2 o1_0 o1_1 o1_2 := rfl
theorem profile_Nearer.F_eq (a_At a_Distance_Num a_Distance_Den b_At b_Distance_Num b_Distance_Den : Int) : profile_Nearer.F (((a_At, a_Distance_Num, a_Distance_Den, ()), (b_At, b_Distance_Num, b_Distance_Den, ()), ()), ()) = profile_Nearer.f ratio_Less.F profile_Nearer.L0 a_At a_Distance_Num a_Distance_Den b_At b_Distance_Num b_Distance_Den := rfl
theorem profile_Nearer.ok {tabs : List (Nat × Go.Obj)} (ht : TabsOk tabs) : FOK Try.prog tabs 15 (profile_Nearer.fe profile_Nearer.F) := by
  refine fn_keep2 Try.func15 (profile_Nearer.eq ratio_Less.F profile_Nearer.L0) pw tb (gt_ok ht) (by kernel_rfl) (by kernel_rfl) (fun g ks fe h => ?_) ?_
  · rcases c_cons h with ⟨rfl, rfl⟩ | h
    · exact ratio_Less.ok ht
    cases h
  · refine known_at 1 (by kernel_rfl) fun i hi => ?_
    match i, hi with
    | 0, _ => exact atomH (cut_ok (es := profile_Nearer.x0) rfl (profile_Nearer.eq0 ratio_Less.F profile_Nearer.L0)) (by kernel_rfl)
    | n + 1, h => exact absurd h (by omega)
end Go.Proofs.Ytefcciajemkicaa.V
