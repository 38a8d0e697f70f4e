import Derived.Test.YtefcciajemkicaaVg1
import Derived.WalkKit
set_option linter.unusedVariables false
set_option maxRecDepth 100000
namespace Go.Proofs.Ytefcciajemkicaa.V
open Go.VI
/-! warp_check -/
def warp_check.f0 (x_0 : (List Int)) (y_1 : (List Int)) (band_2 : Int) : Option ((((List Int) × (List Int) × Int × Bool × Unit) × (Unit)) ⊕ Empty) :=
  (bif (decide (band_2 < (0:Int))) then
   (some (Sum.inl ((x_0, (y_1, (band_2, (Bool.true, ())))), ())))
  else
   (some (Sum.inl ((x_0, (y_1, (band_2, ((decide (band_2 > (32:Int))), ())))), ()))))
theorem warp_check.eq0 (g_euclid_Distance : euclid_Distance.sh.X → Option euclid_Distance.osh.X) (l0 : warp_check.s0.X → Option (sumX warp_check.x0)) (l1 : warp_check.s1.X → Option (sumX warp_check.x1)) (L : (((List Int) × (List Int) × Int × Unit) × (Unit)) → Option ((((List Int) × (List Int) × Int × Bool × Unit) × (Unit)) ⊕ Empty)) (x : (((List Int) × (List Int) × Int × Unit) × (Unit))) : (roundK (warp_check.E g_euclid_Distance l0 l1) warp_check.s0 [0, 1, 2] [(0, [0, 1, 2, 16])] false (((mk warp_check.hs warp_check.c []).atoms.getD 0 .bad).body) warp_check.x0 L x).run _ some = warp_check.f0 x.1.1 x.1.2.1 x.1.2.2.1 := by
  show _ = (_ : Option _)
  kernel_rfl
noncomputable def warp_check.L0 : (((List Int) × (List Int) × Int × Unit) × (Unit)) → Option ((((List Int) × (List Int) × Int × Bool × Unit) × (Unit)) ⊕ Empty) := fun x => warp_check.f0 x.1.1 x.1.2.1 x.1.2.2.1
def warp_check.f1 (x_0 : (List Int)) (y_1 : (List Int)) (band_2 : Int) (e_8 : Int) (f_10 : Int) : Option ((((List Int) × (List Int) × Int × Int × Int × Bool × Unit) × (Unit)) ⊕ Empty) :=
  (bif (e_8 == (8:Int)) then
   (some (Sum.inl ((x_0, (y_1, (band_2, (e_8, (f_10, (Bool.true, ())))))), ())))
  else
   (some (Sum.inl ((x_0, (y_1, (band_2, (e_8, (f_10, ((f_10 == (8:Int)), ())))))), ()))))
theorem warp_check.eq1 (g_euclid_Distance : euclid_Distance.sh.X → Option euclid_Distance.osh.X) (l0 : warp_check.s0.X → Option (sumX warp_check.x0)) (l1 : warp_check.s1.X → Option (sumX warp_check.x1)) (L : (((List Int) × (List Int) × Int × Int × Int × Unit) × (Unit)) → Option ((((List Int) × (List Int) × Int × Int × Int × Bool × Unit) × (Unit)) ⊕ Empty)) (x : (((List Int) × (List Int) × Int × Int × Int × Unit) × (Unit))) : (roundK (warp_check.E g_euclid_Distance l0 l1) warp_check.s1 [0, 1, 2, 8, 10] [(0, [0, 1, 2, 8, 10, 29])] false (((mk warp_check.hs warp_check.c []).atoms.getD 1 .bad).body) warp_check.x1 L x).run _ some = warp_check.f1 x.1.1 x.1.2.1 x.1.2.2.1 x.1.2.2.2.1 x.1.2.2.2.2.1 := by
  show _ = (_ : Option _)
  kernel_rfl
noncomputable def warp_check.L1 : (((List Int) × (List Int) × Int × Int × Int × Unit) × (Unit)) → Option ((((List Int) × (List Int) × Int × Int × Int × Bool × Unit) × (Unit)) ⊕ Empty) := fun x => warp_check.f1 x.1.1 x.1.2.1 x.1.2.2.1 x.1.2.2.2.1 x.1.2.2.2.2.1
def warp_check.f (g_euclid_Distance : (((List Int) × (List Int) × Unit) × (Unit)) → Option ((Int × Int × Unit) × (Unit))) (l0 : (((List Int) × (List Int) × Int × Unit) × (Unit)) → Option ((((List Int) × (List Int) × Int × Bool × Unit) × (Unit)) ⊕ Empty)) (l1 : (((List Int) × (List Int) × Int × Int × Int × Unit) × (Unit)) → Option ((((List Int) × (List Int) × Int × Int × Int × Bool × Unit) × (Unit)) ⊕ Empty)) (x_ : (List Int)) (y : (List Int)) (band : Int) : Option ((Int × Unit) × (Unit)) :=
  (Option.bind (l0 ((x_, (y, (band, ()))), ())) (fun y0 =>
  (Sum.elim (fun a1 =>
   (bif a1.1.2.2.2.1 then
    (some (((1:Int), ()), ()))
   else
    (Option.bind (g_euclid_Distance ((a1.1.1, (a1.1.1, ())), ())) (fun y3 =>
    (Option.bind (g_euclid_Distance ((a1.1.2.1, (a1.1.2.1, ())), ())) (fun y4 =>
    (Option.bind (l1 ((a1.1.1, (a1.1.2.1, (a1.1.2.2.1, (y3.1.2.1, (y4.1.2.1, ()))))), ())) (fun y5 =>
    (Sum.elim (fun a6 =>
     (bif a6.1.2.2.2.2.2.1 then
      (some (((8:Int), ()), ()))
     else
      (bif (a6.1.2.2.2.1 != (0:Int)) then
       (some ((a6.1.2.2.2.1, ()), ()))
      else
       (bif (a6.1.2.2.2.2.1 != (0:Int)) then
        (some ((a6.1.2.2.2.2.1, ()), ()))
       else
        (bif (decide ((Go.IntKind.wrap Go.IntKind.i64 ((((List.length a6.1.1) : Nat) : Int) - (((List.length a6.1.2.1) : Nat) : Int))) > a6.1.2.2.1)) then
         (some (((8:Int), ()), ()))
        else
         (bif (decide ((Go.IntKind.wrap Go.IntKind.i64 ((((List.length a6.1.2.1) : Nat) : Int) - (((List.length a6.1.1) : Nat) : Int))) > a6.1.2.2.1)) then
          (some (((8:Int), ()), ()))
         else
          (some (((0:Int), ()), ())))))))) (fun b6 =>
     (Empty.elim b6)) y5))))))))) (fun b1 =>
   (Empty.elim b1)) y0)))
theorem warp_check.eq (g_euclid_Distance : euclid_Distance.sh.X → Option euclid_Distance.osh.X) (l0 : warp_check.s0.X → Option (sumX warp_check.x0)) (l1 : warp_check.s1.X → Option (sumX warp_check.x1)) (x : (((List Int) × (List Int) × Int × Unit) × (Unit))) : (bodyO (warp_check.E g_euclid_Distance l0 l1) (mk warp_check.hs warp_check.c []) Go.Proofs.Try.f94.results.toList warp_check.sh warp_check.osh x).run _ some = warp_check.f g_euclid_Distance l0 l1 x.1.1 x.1.2.1 x.1.2.2.1 := by
  show _ = (_ : Option _)
  kernel_rfl
noncomputable def warp_check (x_ : (List Int)) (y : (List Int)) (band : Int) : Option ((Int × Unit) × (Unit)) := warp_check.f euclid_Distance.F warp_check.L0 warp_check.L1 x_ y band
noncomputable def warp_check.F (x : (((List Int) × (List Int) × Int × Unit) × (Unit))) : Option ((Int × Unit) × (Unit)) := warp_check x.1.1 x.1.2.1 x.1.2.2.1
theorem warp_check.L0_eq (x_0 : (List Int)) (y_1 : (List Int)) (band_2 : Int) : warp_check.L0 ((x_0, y_1, band_2, ()), ()) = warp_check.f0 x_0 y_1 band_2 := rfl
theorem warp_check.L1_eq (x_0 : (List Int)) (y_1 : (List Int)) (band_2 : Int) (e_8 : Int) (f_10 : Int) : warp_check.L1 ((x_0, y_1, band_2, e_8, f_10, ()), ()) = warp_check.f1 x_0 y_1 band_2 e_8 f_10 := rfl
theorem warp_check.F_eq (x_ : (List Int)) (y : (List Int)) (band : Int) : warp_check.F ((x_, y, band, ()), ()) = warp_check.f euclid_Distance.F warp_check.L0 warp_check.L1 x_ y band := rfl
theorem warp_check.ok {tabs : List (Nat × Go.Obj)} (ht : TabsOk tabs) : FOK Go.Proofs.Try.prog tabs 94 (FE.of [true, true, true] false warp_check.sh warp_check.osh warp_check.F) := by
  refine fn_keeps (E := (warp_check.E euclid_Distance.F warp_check.L0 warp_check.L1)) (c := warp_check.c) (fn := Go.Proofs.Try.f94) (hs := warp_check.hs) (by kernel_rfl) Go.Proofs.Try.func94 ⟨by kernel_rfl, by kernel_rfl, tb, by kernel_rfl, by kernel_rfl, by kernel_rfl, by kernel_rfl, by kernel_rfl⟩ ⟨fun g ks fe h => ?_, gt_ok ht⟩ ?_ (fun x => warp_check.eq euclid_Distance.F warp_check.L0 warp_check.L1 x)
  · rcases c_cons h with ⟨rfl, rfl⟩ | h
    · exact euclid_Distance.ok ht
    cases h
  · refine known_at 2 (by kernel_rfl) fun i hi => ?_
    match i, hi with
    | 0, _ => exact atom_at (id := 0) (live := [0, 1, 2]) (outs := [(0, [0, 1, 2, 16])]) (loop := false) (by kernel_rfl) (cut_ok (E := (warp_check.E euclid_Distance.F warp_check.L0 warp_check.L1)) (sh := warp_check.s0) (es := warp_check.x0) rfl (fun L x => warp_check.eq0 euclid_Distance.F warp_check.L0 warp_check.L1 L x))
    | 1, _ => exact atom_at (id := 1) (live := [0, 1, 2, 8, 10]) (outs := [(0, [0, 1, 2, 8, 10, 29])]) (loop := false) (by kernel_rfl) (cut_ok (E := (warp_check.E euclid_Distance.F warp_check.L0 warp_check.L1)) (sh := warp_check.s1) (es := warp_check.x1) rfl (fun L x => warp_check.eq1 euclid_Distance.F warp_check.L0 warp_check.L1 L x))
    | n + 2, h => exact absurd h (by omega)

/-! warp_near -/
def warp_near.f (i : Int) (j : Int) (band : Int) : Option ((Bool × Unit) × (Unit)) :=
  (bif (decide ((Go.IntKind.wrap Go.IntKind.i64 (i - j)) ≤ band)) then
   (some (((decide ((Go.IntKind.wrap Go.IntKind.i64 (j - i)) ≤ band)), ()), ()))
  else
   (some ((Bool.false, ()), ())))
theorem warp_near.eq (x : ((Int × Int × Int × Unit) × (Unit))) : (bodyO (warp_near.E) (mk warp_near.hs warp_near.c []) Go.Proofs.Try.f106.results.toList warp_near.sh warp_near.osh x).run _ some = warp_near.f x.1.1 x.1.2.1 x.1.2.2.1 := by
  show _ = (_ : Option _)
  kernel_rfl
noncomputable def warp_near (i : Int) (j : Int) (band : Int) : Option ((Bool × Unit) × (Unit)) := warp_near.f i j band
noncomputable def warp_near.F (x : ((Int × Int × Int × Unit) × (Unit))) : Option ((Bool × Unit) × (Unit)) := warp_near x.1.1 x.1.2.1 x.1.2.2.1
theorem warp_near.F_eq (i : Int) (j : Int) (band : Int) : warp_near.F ((i, j, band, ()), ()) = warp_near.f i j band := rfl
theorem warp_near.ok {tabs : List (Nat × Go.Obj)} (ht : TabsOk tabs) : FOK Go.Proofs.Try.prog tabs 106 (FE.of [true, true, true] false warp_near.sh warp_near.osh warp_near.F) := by
  refine fn_keeps (E := (warp_near.E)) (c := warp_near.c) (fn := Go.Proofs.Try.f106) (hs := warp_near.hs) (by kernel_rfl) Go.Proofs.Try.func106 ⟨by kernel_rfl, by kernel_rfl, tb, by kernel_rfl, by kernel_rfl, by kernel_rfl, by kernel_rfl, by kernel_rfl⟩ ⟨fun g ks fe h => ?_, gt_ok ht⟩ ?_ (fun x => warp_near.eq x)
  · cases h
  · exact known_at 0 (by kernel_rfl) fun i hi => absurd hi (Nat.not_lt_zero i)

/-! warp_fill -/
def warp_fill.f1 (before_1 : (List Int)) (x_2 : (List Int)) (y_3 : (List Int)) (band_4 : Int) (i_5 : Int) (j_12 : Int) (least_13 : Int) (v15 : Int) (v16 : Int) (o0 : List Int) : Option (((Unit × (List Int) × (List Int) × (List Int) × Int × Int × Int × Int × Int × Int × Bool × Unit) × ((List Int) × Unit)) ⊕ Empty) :=
  (bif (i_5 == (0:Int)) then
   (some (Sum.inl (((), (before_1, (x_2, (y_3, (band_4, (i_5, (j_12, (least_13, (v15, (v16, ((j_12 == (0:Int)), ()))))))))))), (o0, ()))))
  else
   (some (Sum.inl (((), (before_1, (x_2, (y_3, (band_4, (i_5, (j_12, (least_13, (v15, (v16, (Bool.false, ()))))))))))), (o0, ())))))
theorem warp_fill.eq1 (g_warp_near : warp_near.sh.X → Option warp_near.osh.X) (l0 : warp_fill.s0.X → Option (sumX warp_fill.x0)) (l1 : warp_fill.s1.X → Option (sumX warp_fill.x1)) (l2 : warp_fill.s2.X → Option (sumX warp_fill.x2)) (l3 : warp_fill.s3.X → Option (sumX warp_fill.x3)) (l4 : warp_fill.s4.X → Option (sumX warp_fill.x4)) (l5 : warp_fill.s5.X → Option (sumX warp_fill.x5)) (L : ((Unit × (List Int) × (List Int) × (List Int) × Int × Int × Int × Int × Int × Int × Unit) × ((List Int) × Unit)) → Option (((Unit × (List Int) × (List Int) × (List Int) × Int × Int × Int × Int × Int × Int × Bool × Unit) × ((List Int) × Unit)) ⊕ Empty)) (x : ((Unit × (List Int) × (List Int) × (List Int) × Int × Int × Int × Int × Int × Int × Unit) × ((List Int) × Unit))) : (roundK (warp_fill.E g_warp_near l0 l1 l2 l3 l4 l5) warp_fill.s1 [0, 1, 2, 3, 4, 5, 12, 13, 15, 16] [(0, [0, 1, 2, 3, 4, 5, 12, 13, 15, 16, 32])] false (((mk warp_fill.hs warp_fill.c []).atoms.getD 1 .bad).body) warp_fill.x1 L x).run _ some = warp_fill.f1 x.1.2.1 x.1.2.2.1 x.1.2.2.2.1 x.1.2.2.2.2.1 x.1.2.2.2.2.2.1 x.1.2.2.2.2.2.2.1 x.1.2.2.2.2.2.2.2.1 x.1.2.2.2.2.2.2.2.2.1 x.1.2.2.2.2.2.2.2.2.2.1 x.2.1 := by
  show _ = (_ : Option _)
  kernel_rfl
noncomputable def warp_fill.L1 : ((Unit × (List Int) × (List Int) × (List Int) × Int × Int × Int × Int × Int × Int × Unit) × ((List Int) × Unit)) → Option (((Unit × (List Int) × (List Int) × (List Int) × Int × Int × Int × Int × Int × Int × Bool × Unit) × ((List Int) × Unit)) ⊕ Empty) := fun x => warp_fill.f1 x.1.2.1 x.1.2.2.1 x.1.2.2.2.1 x.1.2.2.2.2.1 x.1.2.2.2.2.2.1 x.1.2.2.2.2.2.2.1 x.1.2.2.2.2.2.2.2.1 x.1.2.2.2.2.2.2.2.2.1 x.1.2.2.2.2.2.2.2.2.2.1 x.2.1
def warp_fill.f2 (before_1 : (List Int)) (x_2 : (List Int)) (y_3 : (List Int)) (band_4 : Int) (i_5 : Int) (j_12 : Int) (least_13 : Int) (v15 : Int) (v16 : Int) (v32 : Bool) (o0 : List Int) : Option (((Unit × (List Int) × (List Int) × (List Int) × Int × Int × Int × Int × Int × Int × Unit) × ((List Int) × Unit)) ⊕ Empty) :=
  (bif v32 then
   (some (Sum.inl (((), (before_1, (x_2, (y_3, (band_4, (i_5, (j_12, ((0:Int), (v15, (v16, ())))))))))), (o0, ()))))
  else
   (some (Sum.inl (((), (before_1, (x_2, (y_3, (band_4, (i_5, (j_12, (least_13, (v15, (v16, ())))))))))), (o0, ())))))
theorem warp_fill.eq2 (g_warp_near : warp_near.sh.X → Option warp_near.osh.X) (l0 : warp_fill.s0.X → Option (sumX warp_fill.x0)) (l1 : warp_fill.s1.X → Option (sumX warp_fill.x1)) (l2 : warp_fill.s2.X → Option (sumX warp_fill.x2)) (l3 : warp_fill.s3.X → Option (sumX warp_fill.x3)) (l4 : warp_fill.s4.X → Option (sumX warp_fill.x4)) (l5 : warp_fill.s5.X → Option (sumX warp_fill.x5)) (L : ((Unit × (List Int) × (List Int) × (List Int) × Int × Int × Int × Int × Int × Int × Bool × Unit) × ((List Int) × Unit)) → Option (((Unit × (List Int) × (List Int) × (List Int) × Int × Int × Int × Int × Int × Int × Unit) × ((List Int) × Unit)) ⊕ Empty)) (x : ((Unit × (List Int) × (List Int) × (List Int) × Int × Int × Int × Int × Int × Int × Bool × Unit) × ((List Int) × Unit))) : (roundK (warp_fill.E g_warp_near l0 l1 l2 l3 l4 l5) warp_fill.s2 [0, 1, 2, 3, 4, 5, 12, 13, 15, 16, 32] [(0, [0, 1, 2, 3, 4, 5, 12, 13, 15, 16])] false (((mk warp_fill.hs warp_fill.c []).atoms.getD 2 .bad).body) warp_fill.x2 L x).run _ some = warp_fill.f2 x.1.2.1 x.1.2.2.1 x.1.2.2.2.1 x.1.2.2.2.2.1 x.1.2.2.2.2.2.1 x.1.2.2.2.2.2.2.1 x.1.2.2.2.2.2.2.2.1 x.1.2.2.2.2.2.2.2.2.1 x.1.2.2.2.2.2.2.2.2.2.1 x.1.2.2.2.2.2.2.2.2.2.2.1 x.2.1 := by
  show _ = (_ : Option _)
  kernel_rfl
noncomputable def warp_fill.L2 : ((Unit × (List Int) × (List Int) × (List Int) × Int × Int × Int × Int × Int × Int × Bool × Unit) × ((List Int) × Unit)) → Option (((Unit × (List Int) × (List Int) × (List Int) × Int × Int × Int × Int × Int × Int × Unit) × ((List Int) × Unit)) ⊕ Empty) := fun x => warp_fill.f2 x.1.2.1 x.1.2.2.1 x.1.2.2.2.1 x.1.2.2.2.2.1 x.1.2.2.2.2.2.1 x.1.2.2.2.2.2.2.1 x.1.2.2.2.2.2.2.2.1 x.1.2.2.2.2.2.2.2.2.1 x.1.2.2.2.2.2.2.2.2.2.1 x.1.2.2.2.2.2.2.2.2.2.2.1 x.2.1
def warp_fill.f3 (before_1 : (List Int)) (x_2 : (List Int)) (y_3 : (List Int)) (band_4 : Int) (i_5 : Int) (j_12 : Int) (least_13 : Int) (v15 : Int) (v16 : Int) (v34 : Bool) (o0 : List Int) : Option (((Unit × (List Int) × (List Int) × (List Int) × Int × Int × Int × Int × Int × Int × Unit) × ((List Int) × Unit)) ⊕ Empty) :=
  (bif v34 then
   (bif (decide ((0:Int) ≤ (Go.IntKind.wrap Go.IntKind.i64 (j_12 - (1:Int))))) then
    (bif (decide ((Go.IntKind.wrap Go.IntKind.i64 (j_12 - (1:Int))) < (((List.length o0) : Nat) : Int))) then
     (some (Sum.inl (((), (before_1, (x_2, (y_3, (band_4, (i_5, (j_12, ((Go.VI.mn least_13 (List.getD o0 (Int.toNat (Go.IntKind.wrap Go.IntKind.i64 (j_12 - (1:Int)))) (0:Int))), (v15, (v16, ())))))))))), (o0, ()))))
    else
     none)
   else
    none)
  else
   (some (Sum.inl (((), (before_1, (x_2, (y_3, (band_4, (i_5, (j_12, (least_13, (v15, (v16, ())))))))))), (o0, ())))))
theorem warp_fill.eq3 (g_warp_near : warp_near.sh.X → Option warp_near.osh.X) (l0 : warp_fill.s0.X → Option (sumX warp_fill.x0)) (l1 : warp_fill.s1.X → Option (sumX warp_fill.x1)) (l2 : warp_fill.s2.X → Option (sumX warp_fill.x2)) (l3 : warp_fill.s3.X → Option (sumX warp_fill.x3)) (l4 : warp_fill.s4.X → Option (sumX warp_fill.x4)) (l5 : warp_fill.s5.X → Option (sumX warp_fill.x5)) (L : ((Unit × (List Int) × (List Int) × (List Int) × Int × Int × Int × Int × Int × Int × Bool × Unit) × ((List Int) × Unit)) → Option (((Unit × (List Int) × (List Int) × (List Int) × Int × Int × Int × Int × Int × Int × Unit) × ((List Int) × Unit)) ⊕ Empty)) (x : ((Unit × (List Int) × (List Int) × (List Int) × Int × Int × Int × Int × Int × Int × Bool × Unit) × ((List Int) × Unit))) : (roundK (warp_fill.E g_warp_near l0 l1 l2 l3 l4 l5) warp_fill.s3 [0, 1, 2, 3, 4, 5, 12, 13, 15, 16, 34] [(0, [0, 1, 2, 3, 4, 5, 12, 13, 15, 16])] false (((mk warp_fill.hs warp_fill.c []).atoms.getD 3 .bad).body) warp_fill.x3 L x).run _ some = warp_fill.f3 x.1.2.1 x.1.2.2.1 x.1.2.2.2.1 x.1.2.2.2.2.1 x.1.2.2.2.2.2.1 x.1.2.2.2.2.2.2.1 x.1.2.2.2.2.2.2.2.1 x.1.2.2.2.2.2.2.2.2.1 x.1.2.2.2.2.2.2.2.2.2.1 x.1.2.2.2.2.2.2.2.2.2.2.1 x.2.1 := by
  show _ = (_ : Option _)
  kernel_rfl
noncomputable def warp_fill.L3 : ((Unit × (List Int) × (List Int) × (List Int) × Int × Int × Int × Int × Int × Int × Bool × Unit) × ((List Int) × Unit)) → Option (((Unit × (List Int) × (List Int) × (List Int) × Int × Int × Int × Int × Int × Int × Unit) × ((List Int) × Unit)) ⊕ Empty) := fun x => warp_fill.f3 x.1.2.1 x.1.2.2.1 x.1.2.2.2.1 x.1.2.2.2.2.1 x.1.2.2.2.2.2.1 x.1.2.2.2.2.2.2.1 x.1.2.2.2.2.2.2.2.1 x.1.2.2.2.2.2.2.2.2.1 x.1.2.2.2.2.2.2.2.2.2.1 x.1.2.2.2.2.2.2.2.2.2.2.1 x.2.1
def warp_fill.f4 (before_1 : (List Int)) (x_2 : (List Int)) (y_3 : (List Int)) (band_4 : Int) (i_5 : Int) (j_12 : Int) (least_13 : Int) (v15 : Int) (v16 : Int) (v43 : Bool) (o0 : List Int) : Option (((Unit × (List Int) × (List Int) × (List Int) × Int × Int × Int × Int × Int × Int × Unit) × ((List Int) × Unit)) ⊕ Empty) :=
  (bif v43 then
   (bif (decide ((0:Int) ≤ j_12)) then
    (bif (decide (j_12 < (((List.length before_1) : Nat) : Int))) then
     (some (Sum.inl (((), (before_1, (x_2, (y_3, (band_4, (i_5, (j_12, ((Go.VI.mn least_13 (List.getD before_1 (Int.toNat j_12) (0:Int))), (v15, (v16, ())))))))))), (o0, ()))))
    else
     none)
   else
    none)
  else
   (some (Sum.inl (((), (before_1, (x_2, (y_3, (band_4, (i_5, (j_12, (least_13, (v15, (v16, ())))))))))), (o0, ())))))
theorem warp_fill.eq4 (g_warp_near : warp_near.sh.X → Option warp_near.osh.X) (l0 : warp_fill.s0.X → Option (sumX warp_fill.x0)) (l1 : warp_fill.s1.X → Option (sumX warp_fill.x1)) (l2 : warp_fill.s2.X → Option (sumX warp_fill.x2)) (l3 : warp_fill.s3.X → Option (sumX warp_fill.x3)) (l4 : warp_fill.s4.X → Option (sumX warp_fill.x4)) (l5 : warp_fill.s5.X → Option (sumX warp_fill.x5)) (L : ((Unit × (List Int) × (List Int) × (List Int) × Int × Int × Int × Int × Int × Int × Bool × Unit) × ((List Int) × Unit)) → Option (((Unit × (List Int) × (List Int) × (List Int) × Int × Int × Int × Int × Int × Int × Unit) × ((List Int) × Unit)) ⊕ Empty)) (x : ((Unit × (List Int) × (List Int) × (List Int) × Int × Int × Int × Int × Int × Int × Bool × Unit) × ((List Int) × Unit))) : (roundK (warp_fill.E g_warp_near l0 l1 l2 l3 l4 l5) warp_fill.s4 [0, 1, 2, 3, 4, 5, 12, 13, 15, 16, 43] [(0, [0, 1, 2, 3, 4, 5, 12, 13, 15, 16])] false (((mk warp_fill.hs warp_fill.c []).atoms.getD 4 .bad).body) warp_fill.x4 L x).run _ some = warp_fill.f4 x.1.2.1 x.1.2.2.1 x.1.2.2.2.1 x.1.2.2.2.2.1 x.1.2.2.2.2.2.1 x.1.2.2.2.2.2.2.1 x.1.2.2.2.2.2.2.2.1 x.1.2.2.2.2.2.2.2.2.1 x.1.2.2.2.2.2.2.2.2.2.1 x.1.2.2.2.2.2.2.2.2.2.2.1 x.2.1 := by
  show _ = (_ : Option _)
  kernel_rfl
noncomputable def warp_fill.L4 : ((Unit × (List Int) × (List Int) × (List Int) × Int × Int × Int × Int × Int × Int × Bool × Unit) × ((List Int) × Unit)) → Option (((Unit × (List Int) × (List Int) × (List Int) × Int × Int × Int × Int × Int × Int × Unit) × ((List Int) × Unit)) ⊕ Empty) := fun x => warp_fill.f4 x.1.2.1 x.1.2.2.1 x.1.2.2.2.1 x.1.2.2.2.2.1 x.1.2.2.2.2.2.1 x.1.2.2.2.2.2.2.1 x.1.2.2.2.2.2.2.2.1 x.1.2.2.2.2.2.2.2.2.1 x.1.2.2.2.2.2.2.2.2.2.1 x.1.2.2.2.2.2.2.2.2.2.2.1 x.2.1
def warp_fill.f5 (before_1 : (List Int)) (x_2 : (List Int)) (y_3 : (List Int)) (band_4 : Int) (i_5 : Int) (j_12 : Int) (least_13 : Int) (v15 : Int) (v16 : Int) (o0 : List Int) : Option (((Unit × (List Int) × (List Int) × (List Int) × Int × Int × Int × Int × Int × Int × Bool × Unit) × ((List Int) × Unit)) ⊕ Empty) :=
  (bif (decide (i_5 > (0:Int))) then
   (some (Sum.inl (((), (before_1, (x_2, (y_3, (band_4, (i_5, (j_12, (least_13, (v15, (v16, ((decide (j_12 > (0:Int))), ()))))))))))), (o0, ()))))
  else
   (some (Sum.inl (((), (before_1, (x_2, (y_3, (band_4, (i_5, (j_12, (least_13, (v15, (v16, (Bool.false, ()))))))))))), (o0, ())))))
theorem warp_fill.eq5 (g_warp_near : warp_near.sh.X → Option warp_near.osh.X) (l0 : warp_fill.s0.X → Option (sumX warp_fill.x0)) (l1 : warp_fill.s1.X → Option (sumX warp_fill.x1)) (l2 : warp_fill.s2.X → Option (sumX warp_fill.x2)) (l3 : warp_fill.s3.X → Option (sumX warp_fill.x3)) (l4 : warp_fill.s4.X → Option (sumX warp_fill.x4)) (l5 : warp_fill.s5.X → Option (sumX warp_fill.x5)) (L : ((Unit × (List Int) × (List Int) × (List Int) × Int × Int × Int × Int × Int × Int × Unit) × ((List Int) × Unit)) → Option (((Unit × (List Int) × (List Int) × (List Int) × Int × Int × Int × Int × Int × Int × Bool × Unit) × ((List Int) × Unit)) ⊕ Empty)) (x : ((Unit × (List Int) × (List Int) × (List Int) × Int × Int × Int × Int × Int × Int × Unit) × ((List Int) × Unit))) : (roundK (warp_fill.E g_warp_near l0 l1 l2 l3 l4 l5) warp_fill.s5 [0, 1, 2, 3, 4, 5, 12, 13, 15, 16] [(0, [0, 1, 2, 3, 4, 5, 12, 13, 15, 16, 55])] false (((mk warp_fill.hs warp_fill.c []).atoms.getD 5 .bad).body) warp_fill.x5 L x).run _ some = warp_fill.f5 x.1.2.1 x.1.2.2.1 x.1.2.2.2.1 x.1.2.2.2.2.1 x.1.2.2.2.2.2.1 x.1.2.2.2.2.2.2.1 x.1.2.2.2.2.2.2.2.1 x.1.2.2.2.2.2.2.2.2.1 x.1.2.2.2.2.2.2.2.2.2.1 x.2.1 := by
  show _ = (_ : Option _)
  kernel_rfl
noncomputable def warp_fill.L5 : ((Unit × (List Int) × (List Int) × (List Int) × Int × Int × Int × Int × Int × Int × Unit) × ((List Int) × Unit)) → Option (((Unit × (List Int) × (List Int) × (List Int) × Int × Int × Int × Int × Int × Int × Bool × Unit) × ((List Int) × Unit)) ⊕ Empty) := fun x => warp_fill.f5 x.1.2.1 x.1.2.2.1 x.1.2.2.2.1 x.1.2.2.2.2.1 x.1.2.2.2.2.2.1 x.1.2.2.2.2.2.2.1 x.1.2.2.2.2.2.2.2.1 x.1.2.2.2.2.2.2.2.2.1 x.1.2.2.2.2.2.2.2.2.2.1 x.2.1
def warp_fill.f0 (g_warp_near : ((Int × Int × Int × Unit) × (Unit)) → Option ((Bool × Unit) × (Unit))) (l1 : ((Unit × (List Int) × (List Int) × (List Int) × Int × Int × Int × Int × Int × Int × Unit) × ((List Int) × Unit)) → Option (((Unit × (List Int) × (List Int) × (List Int) × Int × Int × Int × Int × Int × Int × Bool × Unit) × ((List Int) × Unit)) ⊕ Empty)) (l2 : ((Unit × (List Int) × (List Int) × (List Int) × Int × Int × Int × Int × Int × Int × Bool × Unit) × ((List Int) × Unit)) → Option (((Unit × (List Int) × (List Int) × (List Int) × Int × Int × Int × Int × Int × Int × Unit) × ((List Int) × Unit)) ⊕ Empty)) (l3 : ((Unit × (List Int) × (List Int) × (List Int) × Int × Int × Int × Int × Int × Int × Bool × Unit) × ((List Int) × Unit)) → Option (((Unit × (List Int) × (List Int) × (List Int) × Int × Int × Int × Int × Int × Int × Unit) × ((List Int) × Unit)) ⊕ Empty)) (l4 : ((Unit × (List Int) × (List Int) × (List Int) × Int × Int × Int × Int × Int × Int × Bool × Unit) × ((List Int) × Unit)) → Option (((Unit × (List Int) × (List Int) × (List Int) × Int × Int × Int × Int × Int × Int × Unit) × ((List Int) × Unit)) ⊕ Empty)) (l5 : ((Unit × (List Int) × (List Int) × (List Int) × Int × Int × Int × Int × Int × Int × Unit) × ((List Int) × Unit)) → Option (((Unit × (List Int) × (List Int) × (List Int) × Int × Int × Int × Int × Int × Int × Bool × Unit) × ((List Int) × Unit)) ⊕ Empty)) (L : ((Unit × (List Int) × (List Int) × (List Int) × Int × Int × Int × Int × Unit) × ((List Int) × Unit)) → Option (((Unit) × ((List Int) × Unit)) ⊕ Empty)) (before_1 : (List Int)) (x_2 : (List Int)) (y_3 : (List Int)) (band_4 : Int) (i_5 : Int) (v15 : Int) (v16 : Int) (o0 : List Int) : Option (((Unit) × ((List Int) × Unit)) ⊕ Empty) :=
  (bif (decide (v16 < v15)) then
   (bif (decide ((0:Int) ≤ v16)) then
    (bif (decide (v16 < (((List.length o0) : Nat) : Int))) then
     (Option.bind (g_warp_near ((i_5, (v16, (band_4, ()))), ())) (fun y3 =>
     (bif (!y3.1.1) then
      (Option.bind (L (((), (before_1, (x_2, (y_3, (band_4, (i_5, (v15, ((Go.IntKind.wrap Go.IntKind.i64 (v16 + (1:Int))), ())))))))), ((List.set o0 (Int.toNat v16) (4611686018427387904:Int)), ()))) (fun y5 =>
      (some y5)))
     else
      (Option.bind (l1 (((), (before_1, (x_2, (y_3, (band_4, (i_5, (v16, ((4611686018427387904:Int), (v15, (v16, ())))))))))), ((List.set o0 (Int.toNat v16) (4611686018427387904:Int)), ()))) (fun y5 =>
      (Sum.elim (fun a6 =>
       (Option.bind (l2 (((), (a6.1.2.1, (a6.1.2.2.1, (a6.1.2.2.2.1, (a6.1.2.2.2.2.1, (a6.1.2.2.2.2.2.1, (a6.1.2.2.2.2.2.2.1, (a6.1.2.2.2.2.2.2.2.1, (a6.1.2.2.2.2.2.2.2.2.1, (a6.1.2.2.2.2.2.2.2.2.2.1, (a6.1.2.2.2.2.2.2.2.2.2.2.1, ()))))))))))), (a6.2.1, ()))) (fun y7 =>
       (Sum.elim (fun a8 =>
        (Option.bind (l3 (((), (a8.1.2.1, (a8.1.2.2.1, (a8.1.2.2.2.1, (a8.1.2.2.2.2.1, (a8.1.2.2.2.2.2.1, (a8.1.2.2.2.2.2.2.1, (a8.1.2.2.2.2.2.2.2.1, (a8.1.2.2.2.2.2.2.2.2.1, (a8.1.2.2.2.2.2.2.2.2.2.1, ((decide (a8.1.2.2.2.2.2.2.1 > (0:Int))), ()))))))))))), (a8.2.1, ()))) (fun y9 =>
        (Sum.elim (fun a10 =>
         (Option.bind (l4 (((), (a10.1.2.1, (a10.1.2.2.1, (a10.1.2.2.2.1, (a10.1.2.2.2.2.1, (a10.1.2.2.2.2.2.1, (a10.1.2.2.2.2.2.2.1, (a10.1.2.2.2.2.2.2.2.1, (a10.1.2.2.2.2.2.2.2.2.1, (a10.1.2.2.2.2.2.2.2.2.2.1, ((decide (a10.1.2.2.2.2.2.1 > (0:Int))), ()))))))))))), (a10.2.1, ()))) (fun y11 =>
         (Sum.elim (fun a12 =>
          (Option.bind (l5 (((), (a12.1.2.1, (a12.1.2.2.1, (a12.1.2.2.2.1, (a12.1.2.2.2.2.1, (a12.1.2.2.2.2.2.1, (a12.1.2.2.2.2.2.2.1, (a12.1.2.2.2.2.2.2.2.1, (a12.1.2.2.2.2.2.2.2.2.1, (a12.1.2.2.2.2.2.2.2.2.2.1, ())))))))))), (a12.2.1, ()))) (fun y13 =>
          (Sum.elim (fun a14 =>
           (bif a14.1.2.2.2.2.2.2.2.2.2.2.1 then
            (bif (decide ((0:Int) ≤ a14.1.2.2.2.2.2.2.1)) then
             (bif (decide (a14.1.2.2.2.2.2.2.1 < (((List.length a14.1.2.1) : Nat) : Int))) then
              (bif (decide ((0:Int) ≤ (Go.IntKind.wrap Go.IntKind.i64 (a14.1.2.2.2.2.2.2.1 - (1:Int))))) then
               (bif (decide ((Go.IntKind.wrap Go.IntKind.i64 (a14.1.2.2.2.2.2.2.1 - (1:Int))) < (((List.length a14.1.2.1) : Nat) : Int))) then
                (bif (decide ((0:Int) ≤ a14.1.2.2.2.2.2.1)) then
                 (bif (decide (a14.1.2.2.2.2.2.1 < (((List.length a14.1.2.2.1) : Nat) : Int))) then
                  (bif (decide ((0:Int) ≤ a14.1.2.2.2.2.2.2.1)) then
                   (bif (decide (a14.1.2.2.2.2.2.2.1 < (((List.length a14.1.2.2.2.1) : Nat) : Int))) then
                    (bif (decide ((0:Int) ≤ a14.1.2.2.2.2.2.1)) then
                     (bif (decide (a14.1.2.2.2.2.2.1 < (((List.length a14.1.2.2.1) : Nat) : Int))) then
                      (bif (decide ((0:Int) ≤ a14.1.2.2.2.2.2.2.1)) then
                       (bif (decide (a14.1.2.2.2.2.2.2.1 < (((List.length a14.1.2.2.2.1) : Nat) : Int))) then
                        (bif (decide ((0:Int) ≤ a14.1.2.2.2.2.2.2.1)) then
                         (bif (decide (a14.1.2.2.2.2.2.2.1 < (((List.length a14.2.1) : Nat) : Int))) then
                          (Option.bind (L (((), (a14.1.2.1, (a14.1.2.2.1, (a14.1.2.2.2.1, (a14.1.2.2.2.2.1, (a14.1.2.2.2.2.2.1, (a14.1.2.2.2.2.2.2.2.2.1, ((Go.IntKind.wrap Go.IntKind.i64 (a14.1.2.2.2.2.2.2.2.2.2.1 + (1:Int))), ())))))))), ((List.set a14.2.1 (Int.toNat a14.1.2.2.2.2.2.2.1) (Go.VI.mn (4611686018427387904:Int) (Go.IntKind.wrap Go.IntKind.i64 ((Go.VI.mn (Go.VI.mn a14.1.2.2.2.2.2.2.2.1 (List.getD a14.1.2.1 (Int.toNat a14.1.2.2.2.2.2.2.1) (0:Int))) (List.getD a14.1.2.1 (Int.toNat (Go.IntKind.wrap Go.IntKind.i64 (a14.1.2.2.2.2.2.2.1 - (1:Int)))) (0:Int))) + (Go.IntKind.wrap Go.IntKind.i64 ((Go.IntKind.wrap Go.IntKind.i64 ((List.getD a14.1.2.2.1 (Int.toNat a14.1.2.2.2.2.2.1) (0:Int)) - (List.getD a14.1.2.2.2.1 (Int.toNat a14.1.2.2.2.2.2.2.1) (0:Int)))) * (Go.IntKind.wrap Go.IntKind.i64 ((List.getD a14.1.2.2.1 (Int.toNat a14.1.2.2.2.2.2.1) (0:Int)) - (List.getD a14.1.2.2.2.1 (Int.toNat a14.1.2.2.2.2.2.2.1) (0:Int)))))))))), ()))) (fun y30 =>
                          (some y30)))
                         else
                          none)
                        else
                         none)
                       else
                        none)
                      else
                       none)
                     else
                      none)
                    else
                     none)
                   else
                    none)
                  else
                   none)
                 else
                  none)
                else
                 none)
               else
                none)
              else
               none)
             else
              none)
            else
             none)
           else
            (bif (decide ((0:Int) ≤ a14.1.2.2.2.2.2.1)) then
             (bif (decide (a14.1.2.2.2.2.2.1 < (((List.length a14.1.2.2.1) : Nat) : Int))) then
              (bif (decide ((0:Int) ≤ a14.1.2.2.2.2.2.2.1)) then
               (bif (decide (a14.1.2.2.2.2.2.2.1 < (((List.length a14.1.2.2.2.1) : Nat) : Int))) then
                (bif (decide ((0:Int) ≤ a14.1.2.2.2.2.2.1)) then
                 (bif (decide (a14.1.2.2.2.2.2.1 < (((List.length a14.1.2.2.1) : Nat) : Int))) then
                  (bif (decide ((0:Int) ≤ a14.1.2.2.2.2.2.2.1)) then
                   (bif (decide (a14.1.2.2.2.2.2.2.1 < (((List.length a14.1.2.2.2.1) : Nat) : Int))) then
                    (bif (decide ((0:Int) ≤ a14.1.2.2.2.2.2.2.1)) then
                     (bif (decide (a14.1.2.2.2.2.2.2.1 < (((List.length a14.2.1) : Nat) : Int))) then
                      (Option.bind (L (((), (a14.1.2.1, (a14.1.2.2.1, (a14.1.2.2.2.1, (a14.1.2.2.2.2.1, (a14.1.2.2.2.2.2.1, (a14.1.2.2.2.2.2.2.2.2.1, ((Go.IntKind.wrap Go.IntKind.i64 (a14.1.2.2.2.2.2.2.2.2.2.1 + (1:Int))), ())))))))), ((List.set a14.2.1 (Int.toNat a14.1.2.2.2.2.2.2.1) (Go.VI.mn (4611686018427387904:Int) (Go.IntKind.wrap Go.IntKind.i64 (a14.1.2.2.2.2.2.2.2.1 + (Go.IntKind.wrap Go.IntKind.i64 ((Go.IntKind.wrap Go.IntKind.i64 ((List.getD a14.1.2.2.1 (Int.toNat a14.1.2.2.2.2.2.1) (0:Int)) - (List.getD a14.1.2.2.2.1 (Int.toNat a14.1.2.2.2.2.2.2.1) (0:Int)))) * (Go.IntKind.wrap Go.IntKind.i64 ((List.getD a14.1.2.2.1 (Int.toNat a14.1.2.2.2.2.2.1) (0:Int)) - (List.getD a14.1.2.2.2.1 (Int.toNat a14.1.2.2.2.2.2.2.1) (0:Int)))))))))), ()))) (fun y26 =>
                      (some y26)))
                     else
                      none)
                    else
                     none)
                   else
                    none)
                  else
                   none)
                 else
                  none)
                else
                 none)
               else
                none)
              else
               none)
             else
              none)
            else
             none))) (fun b14 =>
           (Empty.elim b14)) y13)))) (fun b12 =>
          (Empty.elim b12)) y11)))) (fun b10 =>
         (Empty.elim b10)) y9)))) (fun b8 =>
        (Empty.elim b8)) y7)))) (fun b6 =>
       (Empty.elim b6)) y5))))))
    else
     none)
   else
    none)
  else
   (some (Sum.inl ((), (o0, ())))))
theorem warp_fill.eq0 (g_warp_near : warp_near.sh.X → Option warp_near.osh.X) (l0 : warp_fill.s0.X → Option (sumX warp_fill.x0)) (l1 : warp_fill.s1.X → Option (sumX warp_fill.x1)) (l2 : warp_fill.s2.X → Option (sumX warp_fill.x2)) (l3 : warp_fill.s3.X → Option (sumX warp_fill.x3)) (l4 : warp_fill.s4.X → Option (sumX warp_fill.x4)) (l5 : warp_fill.s5.X → Option (sumX warp_fill.x5)) (L : ((Unit × (List Int) × (List Int) × (List Int) × Int × Int × Int × Int × Unit) × ((List Int) × Unit)) → Option (((Unit) × ((List Int) × Unit)) ⊕ Empty)) (x : ((Unit × (List Int) × (List Int) × (List Int) × Int × Int × Int × Int × Unit) × ((List Int) × Unit))) : (roundK (warp_fill.E g_warp_near l0 l1 l2 l3 l4 l5) warp_fill.s0 [0, 1, 2, 3, 4, 5, 15, 16] [(2, [])] true (((mk warp_fill.hs warp_fill.c []).atoms.getD 0 .bad).body) warp_fill.x0 L x).run _ some = warp_fill.f0 g_warp_near l1 l2 l3 l4 l5 L x.1.2.1 x.1.2.2.1 x.1.2.2.2.1 x.1.2.2.2.2.1 x.1.2.2.2.2.2.1 x.1.2.2.2.2.2.2.1 x.1.2.2.2.2.2.2.2.1 x.2.1 := by
  show _ = (_ : Option _)
  kernel_rfl
noncomputable def warp_fill.L0 : ((Unit × (List Int) × (List Int) × (List Int) × Int × Int × Int × Int × Unit) × ((List Int) × Unit)) → Option (((Unit) × ((List Int) × Unit)) ⊕ Empty) := loop fun L x => warp_fill.f0 warp_near.F warp_fill.L1 warp_fill.L2 warp_fill.L3 warp_fill.L4 warp_fill.L5 L x.1.2.1 x.1.2.2.1 x.1.2.2.2.1 x.1.2.2.2.2.1 x.1.2.2.2.2.2.1 x.1.2.2.2.2.2.2.1 x.1.2.2.2.2.2.2.2.1 x.2.1
def warp_fill.f (l0 : ((Unit × (List Int) × (List Int) × (List Int) × Int × Int × Int × Int × Unit) × ((List Int) × Unit)) → Option (((Unit) × ((List Int) × Unit)) ⊕ Empty)) (before : (List Int)) (x_ : (List Int)) (y : (List Int)) (band : Int) (i : Int) (o0 : List Int) : Option ((Unit) × ((List Int) × Unit)) :=
  (Option.bind (l0 (((), (before, (x_, (y, (band, (i, ((((List.length y) : Nat) : Int), ((0:Int), ())))))))), (o0, ()))) (fun y0 =>
  (Sum.elim (fun a1 =>
   (some ((), (a1.2.1, ())))) (fun b1 =>
   (Empty.elim b1)) y0)))
theorem warp_fill.eq (g_warp_near : warp_near.sh.X → Option warp_near.osh.X) (l0 : warp_fill.s0.X → Option (sumX warp_fill.x0)) (l1 : warp_fill.s1.X → Option (sumX warp_fill.x1)) (l2 : warp_fill.s2.X → Option (sumX warp_fill.x2)) (l3 : warp_fill.s3.X → Option (sumX warp_fill.x3)) (l4 : warp_fill.s4.X → Option (sumX warp_fill.x4)) (l5 : warp_fill.s5.X → Option (sumX warp_fill.x5)) (x : ((Unit × (List Int) × (List Int) × (List Int) × Int × Int × Unit) × ((List Int) × Unit))) : (bodyO (warp_fill.E g_warp_near l0 l1 l2 l3 l4 l5) (mk warp_fill.hs warp_fill.c []) Go.Proofs.Try.f102.results.toList warp_fill.sh warp_fill.osh x).run _ some = warp_fill.f l0 x.1.2.1 x.1.2.2.1 x.1.2.2.2.1 x.1.2.2.2.2.1 x.1.2.2.2.2.2.1 x.2.1 := by
  show _ = (_ : Option _)
  kernel_rfl
noncomputable def warp_fill (before : (List Int)) (x_ : (List Int)) (y : (List Int)) (band : Int) (i : Int) (o0 : List Int) : Option ((Unit) × ((List Int) × Unit)) := warp_fill.f warp_fill.L0 before x_ y band i o0
noncomputable def warp_fill.F (x : ((Unit × (List Int) × (List Int) × (List Int) × Int × Int × Unit) × ((List Int) × Unit))) : Option ((Unit) × ((List Int) × Unit)) := warp_fill x.1.2.1 x.1.2.2.1 x.1.2.2.2.1 x.1.2.2.2.2.1 x.1.2.2.2.2.2.1 x.2.1
theorem warp_fill.L0_eq (before_1 : (List Int)) (x_2 : (List Int)) (y_3 : (List Int)) (band_4 : Int) (i_5 : Int) (v15 : Int) (v16 : Int) (o0 : List Int) : warp_fill.L0 (((), before_1, x_2, y_3, band_4, i_5, v15, v16, ()), (o0, ())) = warp_fill.f0 warp_near.F warp_fill.L1 warp_fill.L2 warp_fill.L3 warp_fill.L4 warp_fill.L5 warp_fill.L0 before_1 x_2 y_3 band_4 i_5 v15 v16 o0 :=
  loop_eq (E := (warp_fill.E warp_near.F warp_fill.L0 warp_fill.L1 warp_fill.L2 warp_fill.L3 warp_fill.L4 warp_fill.L5)) (sh := warp_fill.s0) (es := warp_fill.x0) (lp := true) (H := fun L x => warp_fill.eq0 warp_near.F warp_fill.L0 warp_fill.L1 warp_fill.L2 warp_fill.L3 warp_fill.L4 warp_fill.L5 L x) (((), before_1, x_2, y_3, band_4, i_5, v15, v16, ()), (o0, ()))
theorem warp_fill.L1_eq (before_1 : (List Int)) (x_2 : (List Int)) (y_3 : (List Int)) (band_4 : Int) (i_5 : Int) (j_12 : Int) (least_13 : Int) (v15 : Int) (v16 : Int) (o0 : List Int) : warp_fill.L1 (((), before_1, x_2, y_3, band_4, i_5, j_12, least_13, v15, v16, ()), (o0, ())) = warp_fill.f1 before_1 x_2 y_3 band_4 i_5 j_12 least_13 v15 v16 o0 := rfl
theorem warp_fill.L2_eq (before_1 : (List Int)) (x_2 : (List Int)) (y_3 : (List Int)) (band_4 : Int) (i_5 : Int) (j_12 : Int) (least_13 : Int) (v15 : Int) (v16 : Int) (v32 : Bool) (o0 : List Int) : warp_fill.L2 (((), before_1, x_2, y_3, band_4, i_5, j_12, least_13, v15, v16, v32, ()), (o0, ())) = warp_fill.f2 before_1 x_2 y_3 band_4 i_5 j_12 least_13 v15 v16 v32 o0 := rfl
theorem warp_fill.L3_eq (before_1 : (List Int)) (x_2 : (List Int)) (y_3 : (List Int)) (band_4 : Int) (i_5 : Int) (j_12 : Int) (least_13 : Int) (v15 : Int) (v16 : Int) (v34 : Bool) (o0 : List Int) : warp_fill.L3 (((), before_1, x_2, y_3, band_4, i_5, j_12, least_13, v15, v16, v34, ()), (o0, ())) = warp_fill.f3 before_1 x_2 y_3 band_4 i_5 j_12 least_13 v15 v16 v34 o0 := rfl
theorem warp_fill.L4_eq (before_1 : (List Int)) (x_2 : (List Int)) (y_3 : (List Int)) (band_4 : Int) (i_5 : Int) (j_12 : Int) (least_13 : Int) (v15 : Int) (v16 : Int) (v43 : Bool) (o0 : List Int) : warp_fill.L4 (((), before_1, x_2, y_3, band_4, i_5, j_12, least_13, v15, v16, v43, ()), (o0, ())) = warp_fill.f4 before_1 x_2 y_3 band_4 i_5 j_12 least_13 v15 v16 v43 o0 := rfl
theorem warp_fill.L5_eq (before_1 : (List Int)) (x_2 : (List Int)) (y_3 : (List Int)) (band_4 : Int) (i_5 : Int) (j_12 : Int) (least_13 : Int) (v15 : Int) (v16 : Int) (o0 : List Int) : warp_fill.L5 (((), before_1, x_2, y_3, band_4, i_5, j_12, least_13, v15, v16, ()), (o0, ())) = warp_fill.f5 before_1 x_2 y_3 band_4 i_5 j_12 least_13 v15 v16 o0 := rfl
theorem warp_fill.F_eq (before : (List Int)) (x_ : (List Int)) (y : (List Int)) (band : Int) (i : Int) (o0 : List Int) : warp_fill.F (((), before, x_, y, band, i, ()), (o0, ())) = warp_fill.f warp_fill.L0 before x_ y band i o0 := rfl
theorem warp_fill.ok {tabs : List (Nat × Go.Obj)} (ht : TabsOk tabs) : FOK Go.Proofs.Try.prog tabs 102 (FE.of [false, true, true, true, true, true] false warp_fill.sh warp_fill.osh warp_fill.F) := by
  refine fn_keeps (E := (warp_fill.E warp_near.F warp_fill.L0 warp_fill.L1 warp_fill.L2 warp_fill.L3 warp_fill.L4 warp_fill.L5)) (c := warp_fill.c) (fn := Go.Proofs.Try.f102) (hs := warp_fill.hs) (by kernel_rfl) Go.Proofs.Try.func102 ⟨by kernel_rfl, by kernel_rfl, tb, by kernel_rfl, by kernel_rfl, by kernel_rfl, by kernel_rfl, by kernel_rfl⟩ ⟨fun g ks fe h => ?_, gt_ok ht⟩ ?_ (fun x => warp_fill.eq warp_near.F warp_fill.L0 warp_fill.L1 warp_fill.L2 warp_fill.L3 warp_fill.L4 warp_fill.L5 x)
  · rcases c_cons h with ⟨rfl, rfl⟩ | h
    · exact warp_near.ok ht
    cases h
  · refine known_at 6 (by kernel_rfl) fun i hi => ?_
    match i, hi with
    | 0, _ => exact atom_at (id := 0) (live := [0, 1, 2, 3, 4, 5, 15, 16]) (outs := [(2, [])]) (loop := true) (by kernel_rfl) (loop_ok (E := (warp_fill.E warp_near.F warp_fill.L0 warp_fill.L1 warp_fill.L2 warp_fill.L3 warp_fill.L4 warp_fill.L5)) (sh := warp_fill.s0) (es := warp_fill.x0) rfl (fun L x => warp_fill.eq0 warp_near.F warp_fill.L0 warp_fill.L1 warp_fill.L2 warp_fill.L3 warp_fill.L4 warp_fill.L5 L x))
    | 1, _ => exact atom_at (id := 1) (live := [0, 1, 2, 3, 4, 5, 12, 13, 15, 16]) (outs := [(0, [0, 1, 2, 3, 4, 5, 12, 13, 15, 16, 32])]) (loop := false) (by kernel_rfl) (cut_ok (E := (warp_fill.E warp_near.F warp_fill.L0 warp_fill.L1 warp_fill.L2 warp_fill.L3 warp_fill.L4 warp_fill.L5)) (sh := warp_fill.s1) (es := warp_fill.x1) rfl (fun L x => warp_fill.eq1 warp_near.F warp_fill.L0 warp_fill.L1 warp_fill.L2 warp_fill.L3 warp_fill.L4 warp_fill.L5 L x))
    | 2, _ => exact atom_at (id := 2) (live := [0, 1, 2, 3, 4, 5, 12, 13, 15, 16, 32]) (outs := [(0, [0, 1, 2, 3, 4, 5, 12, 13, 15, 16])]) (loop := false) (by kernel_rfl) (cut_ok (E := (warp_fill.E warp_near.F warp_fill.L0 warp_fill.L1 warp_fill.L2 warp_fill.L3 warp_fill.L4 warp_fill.L5)) (sh := warp_fill.s2) (es := warp_fill.x2) rfl (fun L x => warp_fill.eq2 warp_near.F warp_fill.L0 warp_fill.L1 warp_fill.L2 warp_fill.L3 warp_fill.L4 warp_fill.L5 L x))
    | 3, _ => exact atom_at (id := 3) (live := [0, 1, 2, 3, 4, 5, 12, 13, 15, 16, 34]) (outs := [(0, [0, 1, 2, 3, 4, 5, 12, 13, 15, 16])]) (loop := false) (by kernel_rfl) (cut_ok (E := (warp_fill.E warp_near.F warp_fill.L0 warp_fill.L1 warp_fill.L2 warp_fill.L3 warp_fill.L4 warp_fill.L5)) (sh := warp_fill.s3) (es := warp_fill.x3) rfl (fun L x => warp_fill.eq3 warp_near.F warp_fill.L0 warp_fill.L1 warp_fill.L2 warp_fill.L3 warp_fill.L4 warp_fill.L5 L x))
    | 4, _ => exact atom_at (id := 4) (live := [0, 1, 2, 3, 4, 5, 12, 13, 15, 16, 43]) (outs := [(0, [0, 1, 2, 3, 4, 5, 12, 13, 15, 16])]) (loop := false) (by kernel_rfl) (cut_ok (E := (warp_fill.E warp_near.F warp_fill.L0 warp_fill.L1 warp_fill.L2 warp_fill.L3 warp_fill.L4 warp_fill.L5)) (sh := warp_fill.s4) (es := warp_fill.x4) rfl (fun L x => warp_fill.eq4 warp_near.F warp_fill.L0 warp_fill.L1 warp_fill.L2 warp_fill.L3 warp_fill.L4 warp_fill.L5 L x))
    | 5, _ => exact atom_at (id := 5) (live := [0, 1, 2, 3, 4, 5, 12, 13, 15, 16]) (outs := [(0, [0, 1, 2, 3, 4, 5, 12, 13, 15, 16, 55])]) (loop := false) (by kernel_rfl) (cut_ok (E := (warp_fill.E warp_near.F warp_fill.L0 warp_fill.L1 warp_fill.L2 warp_fill.L3 warp_fill.L4 warp_fill.L5)) (sh := warp_fill.s5) (es := warp_fill.x5) rfl (fun L x => warp_fill.eq5 warp_near.F warp_fill.L0 warp_fill.L1 warp_fill.L2 warp_fill.L3 warp_fill.L4 warp_fill.L5 L x))
    | n + 6, h => exact absurd h (by omega)

/-! slices_Min -/
def slices_Min.f0 (L : (((List Int) × Int × Int × Unit) × (Unit)) → Option (((Int × Unit) × (Unit)) ⊕ Empty)) (x_0 : (List Int)) (m_3 : Int) (i_4 : Int) : Option (((Int × Unit) × (Unit)) ⊕ Empty) :=
  (bif (decide (i_4 < (((List.length x_0) : Nat) : Int))) then
   (bif (decide ((0:Int) ≤ i_4)) then
    (bif (decide (i_4 < (((List.length x_0) : Nat) : Int))) then
     (Option.bind (L ((x_0, ((Go.VI.mn m_3 (List.getD x_0 (Int.toNat i_4) (0:Int))), ((Go.IntKind.wrap Go.IntKind.i64 (i_4 + (1:Int))), ()))), ())) (fun y3 =>
     (some y3)))
    else
     none)
   else
    none)
  else
   (some (Sum.inl ((m_3, ()), ()))))
theorem slices_Min.eq0 (l0 : slices_Min.s0.X → Option (sumX slices_Min.x0)) (L : (((List Int) × Int × Int × Unit) × (Unit)) → Option (((Int × Unit) × (Unit)) ⊕ Empty)) (x : (((List Int) × Int × Int × Unit) × (Unit))) : (roundK (slices_Min.E l0) slices_Min.s0 [0, 3, 4] [(2, [3])] true (((mk slices_Min.hs slices_Min.c []).atoms.getD 0 .bad).body) slices_Min.x0 L x).run _ some = slices_Min.f0 L x.1.1 x.1.2.1 x.1.2.2.1 := by
  show _ = (_ : Option _)
  kernel_rfl
noncomputable def slices_Min.L0 : (((List Int) × Int × Int × Unit) × (Unit)) → Option (((Int × Unit) × (Unit)) ⊕ Empty) := loop fun L x => slices_Min.f0 L x.1.1 x.1.2.1 x.1.2.2.1
def slices_Min.f (l0 : (((List Int) × Int × Int × Unit) × (Unit)) → Option (((Int × Unit) × (Unit)) ⊕ Empty)) (x_ : (List Int)) : Option ((Int × Unit) × (Unit)) :=
  (bif (decide ((((List.length x_) : Nat) : Int) < (1:Int))) then
   none
  else
   (bif (decide ((0:Int) < (((List.length x_) : Nat) : Int))) then
    (Option.bind (l0 ((x_, ((List.getD x_ (Int.toNat (0:Int)) (0:Int)), ((1:Int), ()))), ())) (fun y2 =>
    (Sum.elim (fun a3 =>
     (some ((a3.1.1, ()), ()))) (fun b3 =>
     (Empty.elim b3)) y2)))
   else
    none))
theorem slices_Min.eq (l0 : slices_Min.s0.X → Option (sumX slices_Min.x0)) (x : (((List Int) × Unit) × (Unit))) : (bodyO (slices_Min.E l0) (mk slices_Min.hs slices_Min.c []) Go.Proofs.Try.f103.results.toList slices_Min.sh slices_Min.osh x).run _ some = slices_Min.f l0 x.1.1 := by
  show _ = (_ : Option _)
  kernel_rfl
noncomputable def slices_Min (x_ : (List Int)) : Option ((Int × Unit) × (Unit)) := slices_Min.f slices_Min.L0 x_
noncomputable def slices_Min.F (x : (((List Int) × Unit) × (Unit))) : Option ((Int × Unit) × (Unit)) := slices_Min x.1.1
theorem slices_Min.L0_eq (x_0 : (List Int)) (m_3 : Int) (i_4 : Int) : slices_Min.L0 ((x_0, m_3, i_4, ()), ()) = slices_Min.f0 slices_Min.L0 x_0 m_3 i_4 :=
  loop_eq (E := (slices_Min.E slices_Min.L0)) (sh := slices_Min.s0) (es := slices_Min.x0) (lp := true) (H := fun L x => slices_Min.eq0 slices_Min.L0 L x) ((x_0, m_3, i_4, ()), ())
theorem slices_Min.F_eq (x_ : (List Int)) : slices_Min.F ((x_, ()), ()) = slices_Min.f slices_Min.L0 x_ := rfl
theorem slices_Min.ok {tabs : List (Nat × Go.Obj)} (ht : TabsOk tabs) : FOK Go.Proofs.Try.prog tabs 103 (FE.of [true] false slices_Min.sh slices_Min.osh slices_Min.F) := by
  refine fn_keeps (E := (slices_Min.E slices_Min.L0)) (c := slices_Min.c) (fn := Go.Proofs.Try.f103) (hs := slices_Min.hs) (by kernel_rfl) Go.Proofs.Try.func103 ⟨by kernel_rfl, by kernel_rfl, tb, by kernel_rfl, by kernel_rfl, by kernel_rfl, by kernel_rfl, by kernel_rfl⟩ ⟨fun g ks fe h => ?_, gt_ok ht⟩ ?_ (fun x => slices_Min.eq slices_Min.L0 x)
  · cases h
  · refine known_at 1 (by kernel_rfl) fun i hi => ?_
    match i, hi with
    | 0, _ => exact atom_at (id := 0) (live := [0, 3, 4]) (outs := [(2, [3])]) (loop := true) (by kernel_rfl) (loop_ok (E := (slices_Min.E slices_Min.L0)) (sh := slices_Min.s0) (es := slices_Min.x0) rfl (fun L x => slices_Min.eq0 slices_Min.L0 L x))
    | n + 1, h => exact absurd h (by omega)

/-! warp_distance -/
def warp_distance.f0 (g_warp_fill : ((Unit × (List Int) × (List Int) × (List Int) × Int × Int × Unit) × ((List Int) × Unit)) → Option ((Unit) × ((List Int) × Unit))) (g_slices_Min : (((List Int) × Unit) × (Unit)) → Option ((Int × Unit) × (Unit))) (L : (((List Int) × (List Int) × Int × Int × Unit × Unit × Int × Int × Unit) × ((List Int) × (List Int) × Unit)) → Option ((((List Int) × Unit × Unit) × ((List Int) × Unit)) ⊕ ((Int × Unit) × (Unit)) ⊕ Empty)) (x_0 : (List Int)) (y_1 : (List Int)) (band_2 : Int) (limit_3 : Int) (v19 : Int) (v20 : Int) (o0 : List Int) (o1 : List Int) : Option ((((List Int) × Unit × Unit) × ((List Int) × Unit)) ⊕ ((Int × Unit) × (Unit)) ⊕ Empty) :=
  (bif (decide (v20 < v19)) then
   (Option.bind (g_warp_fill (((), (o1, (x_0, (y_1, (band_2, (v20, ())))))), (o0, ()))) (fun y1 =>
   (Option.bind (g_slices_Min ((y1.2.1, ()), ())) (fun y2 =>
   (bif (decide (y2.1.1 > limit_3)) then
    (some (Sum.inr (Sum.inl (((4611686018427387904:Int), ()), ()))))
   else
    (Option.bind (L ((x_0, (y_1, (band_2, (limit_3, ((), ((), (v19, ((Go.IntKind.wrap Go.IntKind.i64 (v20 + (1:Int))), ())))))))), (o1, (y1.2.1, ())))) (fun y4 =>
    (some y4))))))))
  else
   (some (Sum.inl ((y_1, ((), ())), (o1, ())))))
theorem warp_distance.eq0 (g_warp_fill : warp_fill.sh.X → Option warp_fill.osh.X) (g_slices_Min : slices_Min.sh.X → Option slices_Min.osh.X) (l0 : warp_distance.s0.X → Option (sumX warp_distance.x0)) (L : (((List Int) × (List Int) × Int × Int × Unit × Unit × Int × Int × Unit) × ((List Int) × (List Int) × Unit)) → Option ((((List Int) × Unit × Unit) × ((List Int) × Unit)) ⊕ ((Int × Unit) × (Unit)) ⊕ Empty)) (x : (((List Int) × (List Int) × Int × Int × Unit × Unit × Int × Int × Unit) × ((List Int) × (List Int) × Unit))) : (roundK (warp_distance.E g_warp_fill g_slices_Min l0) warp_distance.s0 [0, 1, 2, 3, 9, 10, 19, 20] [(2, [1, 10]), (1, [8])] true (((mk warp_distance.hs warp_distance.c []).atoms.getD 0 .bad).body) warp_distance.x0 L x).run _ some = warp_distance.f0 g_warp_fill g_slices_Min L x.1.1 x.1.2.1 x.1.2.2.1 x.1.2.2.2.1 x.1.2.2.2.2.2.2.1 x.1.2.2.2.2.2.2.2.1 x.2.1 x.2.2.1 := by
  show _ = (_ : Option _)
  kernel_rfl
noncomputable def warp_distance.L0 : (((List Int) × (List Int) × Int × Int × Unit × Unit × Int × Int × Unit) × ((List Int) × (List Int) × Unit)) → Option ((((List Int) × Unit × Unit) × ((List Int) × Unit)) ⊕ ((Int × Unit) × (Unit)) ⊕ Empty) := loop fun L x => warp_distance.f0 warp_fill.F slices_Min.F L x.1.1 x.1.2.1 x.1.2.2.1 x.1.2.2.2.1 x.1.2.2.2.2.2.2.1 x.1.2.2.2.2.2.2.2.1 x.2.1 x.2.2.1
def warp_distance.f (l0 : (((List Int) × (List Int) × Int × Int × Unit × Unit × Int × Int × Unit) × ((List Int) × (List Int) × Unit)) → Option ((((List Int) × Unit × Unit) × ((List Int) × Unit)) ⊕ ((Int × Unit) × (Unit)) ⊕ Empty)) (x_ : (List Int)) (y : (List Int)) (band : Int) (limit : Int) : Option ((Int × Unit) × (Unit)) :=
  (bif (decide ((((List.length y) : Nat) : Int) = (((List.length y) : Nat) : Int))) then
   (bif ((decide (((((8:Nat) : Nat) : Int) * (((List.length y) : Nat) : Int)) ≤ (281474976710656:Int))) && Bool.true) then
    (bif (decide ((((List.length y) : Nat) : Int) = (((List.length y) : Nat) : Int))) then
     (bif ((decide (((((8:Nat) : Nat) : Int) * (((List.length y) : Nat) : Int)) ≤ (281474976710656:Int))) && Bool.true) then
      (Option.bind (l0 ((x_, (y, (band, (limit, ((), ((), ((((List.length x_) : Nat) : Int), ((0:Int), ())))))))), ((List.replicate (Int.toNat (((List.length y) : Nat) : Int)) (0:Int)), ((List.replicate (Int.toNat (((List.length y) : Nat) : Int)) (0:Int)), ())))) (fun y4 =>
      (Sum.elim (fun a5 =>
       (bif (decide ((0:Int) ≤ (Go.IntKind.wrap Go.IntKind.i64 ((((List.length a5.1.1) : Nat) : Int) - (1:Int))))) then
        (bif (decide ((Go.IntKind.wrap Go.IntKind.i64 ((((List.length a5.1.1) : Nat) : Int) - (1:Int))) < (((List.length a5.2.1) : Nat) : Int))) then
         (some (((List.getD a5.2.1 (Int.toNat (Go.IntKind.wrap Go.IntKind.i64 ((((List.length a5.1.1) : Nat) : Int) - (1:Int)))) (0:Int)), ()), ()))
        else
         none)
       else
        none)) (fun b5 =>
       (Sum.elim (fun a6 =>
        (some ((a6.1.1, ()), ()))) (fun b6 =>
        (Empty.elim b6)) b5)) y4)))
     else
      none)
    else
     none)
   else
    none)
  else
   none)
theorem warp_distance.eq (g_warp_fill : warp_fill.sh.X → Option warp_fill.osh.X) (g_slices_Min : slices_Min.sh.X → Option slices_Min.osh.X) (l0 : warp_distance.s0.X → Option (sumX warp_distance.x0)) (x : (((List Int) × (List Int) × Int × Int × Unit) × (Unit))) : (bodyO (warp_distance.E g_warp_fill g_slices_Min l0) (mk warp_distance.hs warp_distance.c []) Go.Proofs.Try.f95.results.toList warp_distance.sh warp_distance.osh x).run _ some = warp_distance.f l0 x.1.1 x.1.2.1 x.1.2.2.1 x.1.2.2.2.1 := by
  show _ = (_ : Option _)
  kernel_rfl
noncomputable def warp_distance (x_ : (List Int)) (y : (List Int)) (band : Int) (limit : Int) : Option ((Int × Unit) × (Unit)) := warp_distance.f warp_distance.L0 x_ y band limit
noncomputable def warp_distance.F (x : (((List Int) × (List Int) × Int × Int × Unit) × (Unit))) : Option ((Int × Unit) × (Unit)) := warp_distance x.1.1 x.1.2.1 x.1.2.2.1 x.1.2.2.2.1
theorem warp_distance.L0_eq (x_0 : (List Int)) (y_1 : (List Int)) (band_2 : Int) (limit_3 : Int) (v19 : Int) (v20 : Int) (o0 : List Int) (o1 : List Int) : warp_distance.L0 ((x_0, y_1, band_2, limit_3, (), (), v19, v20, ()), (o0, o1, ())) = warp_distance.f0 warp_fill.F slices_Min.F warp_distance.L0 x_0 y_1 band_2 limit_3 v19 v20 o0 o1 :=
  loop_eq (E := (warp_distance.E warp_fill.F slices_Min.F warp_distance.L0)) (sh := warp_distance.s0) (es := warp_distance.x0) (lp := true) (H := fun L x => warp_distance.eq0 warp_fill.F slices_Min.F warp_distance.L0 L x) ((x_0, y_1, band_2, limit_3, (), (), v19, v20, ()), (o0, o1, ()))
theorem warp_distance.F_eq (x_ : (List Int)) (y : (List Int)) (band : Int) (limit : Int) : warp_distance.F ((x_, y, band, limit, ()), ()) = warp_distance.f warp_distance.L0 x_ y band limit := rfl
theorem warp_distance.ok {tabs : List (Nat × Go.Obj)} (ht : TabsOk tabs) : FOK Go.Proofs.Try.prog tabs 95 (FE.of [true, true, true, true] false warp_distance.sh warp_distance.osh warp_distance.F) := by
  refine fn_keeps (E := (warp_distance.E warp_fill.F slices_Min.F warp_distance.L0)) (c := warp_distance.c) (fn := Go.Proofs.Try.f95) (hs := warp_distance.hs) (by kernel_rfl) Go.Proofs.Try.func95 ⟨by kernel_rfl, by kernel_rfl, tb, by kernel_rfl, by kernel_rfl, by kernel_rfl, by kernel_rfl, by kernel_rfl⟩ ⟨fun g ks fe h => ?_, gt_ok ht⟩ ?_ (fun x => warp_distance.eq warp_fill.F slices_Min.F warp_distance.L0 x)
  · rcases c_cons h with ⟨rfl, rfl⟩ | h
    · exact warp_fill.ok ht
    rcases c_cons h with ⟨rfl, rfl⟩ | h
    · exact slices_Min.ok ht
    cases h
  · refine known_at 1 (by kernel_rfl) fun i hi => ?_
    match i, hi with
    | 0, _ => exact atom_at (id := 0) (live := [0, 1, 2, 3, 9, 10, 19, 20]) (outs := [(2, [1, 10]), (1, [8])]) (loop := true) (by kernel_rfl) (loop_ok (E := (warp_distance.E warp_fill.F slices_Min.F warp_distance.L0)) (sh := warp_distance.s0) (es := warp_distance.x0) rfl (fun L x => warp_distance.eq0 warp_fill.F slices_Min.F warp_distance.L0 L x))
    | n + 1, h => exact absurd h (by omega)

/-! warp_Distance -/
def warp_Distance.f (g_warp_check : (((List Int) × (List Int) × Int × Unit) × (Unit)) → Option ((Int × Unit) × (Unit))) (g_warp_distance : (((List Int) × (List Int) × Int × Int × Unit) × (Unit)) → Option ((Int × Unit) × (Unit))) (x_ : (List Int)) (y : (List Int)) (band : Int) : Option ((Int × Int × Unit) × (Unit)) :=
  (Option.bind (g_warp_check ((x_, (y, (band, ()))), ())) (fun y0 =>
  (bif (y0.1.1 != (0:Int)) then
   (some (((0:Int), (y0.1.1, ())), ()))
  else
   (Option.bind (g_warp_distance ((x_, (y, (band, ((4611686018427387904:Int), ())))), ())) (fun y2 =>
   (some ((y2.1.1, ((0:Int), ())), ())))))))
theorem warp_Distance.eq (g_warp_check : warp_check.sh.X → Option warp_check.osh.X) (g_warp_distance : warp_distance.sh.X → Option warp_distance.osh.X) (x : (((List Int) × (List Int) × Int × Unit) × (Unit))) : (bodyO (warp_Distance.E g_warp_check g_warp_distance) (mk warp_Distance.hs warp_Distance.c []) Go.Proofs.Try.f82.results.toList warp_Distance.sh warp_Distance.osh x).run _ some = warp_Distance.f g_warp_check g_warp_distance x.1.1 x.1.2.1 x.1.2.2.1 := by
  show _ = (_ : Option _)
  kernel_rfl
noncomputable def warp_Distance (x_ : (List Int)) (y : (List Int)) (band : Int) : Option ((Int × Int × Unit) × (Unit)) := warp_Distance.f warp_check.F warp_distance.F x_ y band
noncomputable def warp_Distance.F (x : (((List Int) × (List Int) × Int × Unit) × (Unit))) : Option ((Int × Int × Unit) × (Unit)) := warp_Distance x.1.1 x.1.2.1 x.1.2.2.1
theorem warp_Distance.F_eq (x_ : (List Int)) (y : (List Int)) (band : Int) : warp_Distance.F ((x_, y, band, ()), ()) = warp_Distance.f warp_check.F warp_distance.F x_ y band := rfl
theorem warp_Distance.ok {tabs : List (Nat × Go.Obj)} (ht : TabsOk tabs) : FOK Go.Proofs.Try.prog tabs 82 (FE.of [true, true, true] false warp_Distance.sh warp_Distance.osh warp_Distance.F) := by
  refine fn_keeps (E := (warp_Distance.E warp_check.F warp_distance.F)) (c := warp_Distance.c) (fn := Go.Proofs.Try.f82) (hs := warp_Distance.hs) (by kernel_rfl) Go.Proofs.Try.func82 ⟨by kernel_rfl, by kernel_rfl, tb, by kernel_rfl, by kernel_rfl, by kernel_rfl, by kernel_rfl, by kernel_rfl⟩ ⟨fun g ks fe h => ?_, gt_ok ht⟩ ?_ (fun x => warp_Distance.eq warp_check.F warp_distance.F x)
  · rcases c_cons h with ⟨rfl, rfl⟩ | h
    · exact warp_check.ok ht
    rcases c_cons h with ⟨rfl, rfl⟩ | h
    · exact warp_distance.ok ht
    cases h
  · exact known_at 0 (by kernel_rfl) fun i hi => absurd hi (Nat.not_lt_zero i)

/-! measure_distances_2 -/
def measure_distances_2.f (g_warp_Distance : (((List Int) × (List Int) × Int × Unit) × (Unit)) → Option ((Int × Int × Unit) × (Unit))) (g_measure_whole : ((Int × Int × Unit) × (Unit)) → Option (((Int × Int × Unit) × Int × Unit) × (Unit))) (x_ : (List Int)) (y : (List Int)) (o0_0 : Int) (o0_1 : Int) (o0_2 : Int) : Option (((Int × Int × Unit) × Int × Unit) × ((Int × Int × Int × Unit) × Unit)) :=
  (Option.bind (g_warp_Distance ((x_, (y, (o0_1, ()))), ())) (fun y0 =>
  (Option.bind (g_measure_whole ((y0.1.1, (y0.1.2.1, ())), ())) (fun y1 =>
  (some (((y1.1.1.1, (y1.1.1.2.1, ())), (y1.1.2.1, ())), ((o0_0, (o0_1, (o0_2, ()))), ())))))))
theorem measure_distances_2.eq (g_warp_Distance : warp_Distance.sh.X → Option warp_Distance.osh.X) (g_measure_whole : measure_whole.sh.X → Option measure_whole.osh.X) (x : (((List Int) × (List Int) × Unit × Unit) × ((Int × Int × Int × Unit) × Unit))) : (bodyO (measure_distances_2.E g_warp_Distance g_measure_whole) (mk measure_distances_2.hs measure_distances_2.c []) Go.Proofs.Try.f81.results.toList measure_distances_2.sh measure_distances_2.osh x).run _ some = measure_distances_2.f g_warp_Distance g_measure_whole x.1.1 x.1.2.1 x.2.1.1 x.2.1.2.1 x.2.1.2.2.1 := by
  show _ = (_ : Option _)
  kernel_rfl
noncomputable def measure_distances_2 (x_ : (List Int)) (y : (List Int)) (o0_0 : Int) (o0_1 : Int) (o0_2 : Int) : Option (((Int × Int × Unit) × Int × Unit) × ((Int × Int × Int × Unit) × Unit)) := measure_distances_2.f warp_Distance.F measure_whole.F x_ y o0_0 o0_1 o0_2
noncomputable def measure_distances_2.F (x : (((List Int) × (List Int) × Unit × Unit) × ((Int × Int × Int × Unit) × Unit))) : Option (((Int × Int × Unit) × Int × Unit) × ((Int × Int × Int × Unit) × Unit)) := measure_distances_2 x.1.1 x.1.2.1 x.2.1.1 x.2.1.2.1 x.2.1.2.2.1
theorem measure_distances_2.F_eq (x_ : (List Int)) (y : (List Int)) (o0_0 : Int) (o0_1 : Int) (o0_2 : Int) : measure_distances_2.F ((x_, y, (), ()), ((o0_0, o0_1, o0_2, ()), ())) = measure_distances_2.f warp_Distance.F measure_whole.F x_ y o0_0 o0_1 o0_2 := rfl
theorem measure_distances_2.ok {tabs : List (Nat × Go.Obj)} (ht : TabsOk tabs) : FOK Go.Proofs.Try.prog tabs 81 (FE.of [true, true] false measure_distances_2.sh measure_distances_2.osh measure_distances_2.F) := by
  refine fn_keeps (E := (measure_distances_2.E warp_Distance.F measure_whole.F)) (c := measure_distances_2.c) (fn := Go.Proofs.Try.f81) (hs := measure_distances_2.hs) (by kernel_rfl) Go.Proofs.Try.func81 ⟨by kernel_rfl, by kernel_rfl, tb, by kernel_rfl, by kernel_rfl, by kernel_rfl, by kernel_rfl, by kernel_rfl⟩ ⟨fun g ks fe h => ?_, gt_ok ht⟩ ?_ (fun x => measure_distances_2.eq warp_Distance.F measure_whole.F x)
  · rcases c_cons h with ⟨rfl, rfl⟩ | h
    · exact warp_Distance.ok ht
    rcases c_cons h with ⟨rfl, rfl⟩ | h
    · exact measure_whole.ok ht
    cases h
  · exact known_at 0 (by kernel_rfl) fun i hi => absurd hi (Nat.not_lt_zero i)
end Go.Proofs.Ytefcciajemkicaa.V
