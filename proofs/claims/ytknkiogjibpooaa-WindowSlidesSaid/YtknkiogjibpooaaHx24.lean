-- Written by wip/tools/hprint.py of this session, over the kit's print with hand-made contracts; Lean checks it.
import Derived.Test.YtknkiogjibpooaaHx0
import Derived.Test.YtknkiogjibpooaaHx2
import Derived.Test.YtknkiogjibpooaaHx3
import Derived.Test.YtknkiogjibpooaaHx4
import Derived.Test.YtknkiogjibpooaaHx12
import Derived.Test.YtknkiogjibpooaaHx19
namespace Go.Proofs.Ytknkiogjibpooaa.Hp
open Go.RowKit Go.Proofs.YtknkiogjibpooaaW.PrintWords Go.Proofs.YtknkiogjibpooaaW.PrintLast Go.Proofs.YtknkiogjibpooaaW.PrintMore
attribute [local go_sem] max2_int min2_int max_two min_two max_three min_three max_four min_four   -- for this text's walks alone
attribute [local go_sem] i64_w
set_option linter.unusedVariables false
set_option linter.unusedSimpArgs false

/-! ### shapesearchlaw11_WindowSlides: function 8 -/
mutual
def shapesearchlaw11_WindowSlides.j0 : Nat → List Int → Int → List (S33) → Bool → Option (Bool)
  | 0, _, _, _, _ => none
  | k + 1, x6, x7, x8, x41 => if x41 = true then (none) else (shapesearchlaw11_WindowSlides.l0 k x6 x7 x8 1)
def shapesearchlaw11_WindowSlides.l0 : Nat → List Int → Int → List (S33) → Int → Option (Bool)
  | 0, _, _, _, _ => none
  | k + 1, x6, x7, x8, x10 => if x10 < (x8.length : Int) then (if 0 ≤ (wrap64 (x10 - 1)) then (if (wrap64 (x10 - 1)) < (x6.length : Int) then (if 0 ≤ (wrap64 ((wrap64 (x10 + x7)) - 1)) then (if (wrap64 ((wrap64 (x10 + x7)) - 1)) < (x6.length : Int) then (if 0 ≤ x10 then (if ((rd_T33 x8 x10).f0) = x7 then (if (wrap64 (x10 - 1)) < (x8.length : Int) then (if ((rd_T33 x8 x10).f1) = (wrap64 ((wrap64 (((rd_T33 x8 (wrap64 (x10 - 1))).f1) - (rd x6 (wrap64 (x10 - 1))))) + (rd x6 (wrap64 ((wrap64 (x10 + x7)) - 1))))) then (if ((rd_T33 x8 x10).f2) = (wrap64 ((wrap64 (((rd_T33 x8 (wrap64 (x10 - 1))).f2) - (wrap64 ((rd x6 (wrap64 (x10 - 1))) * (rd x6 (wrap64 (x10 - 1))))))) + (wrap64 ((rd x6 (wrap64 ((wrap64 (x10 + x7)) - 1))) * (rd x6 (wrap64 ((wrap64 (x10 + x7)) - 1))))))) then (shapesearchlaw11_WindowSlides.l0 k x6 x7 x8 (wrap64 (x10 + 1))) else (none)) else (none)) else (none)) else (none)) else (none)) else (none)) else (none)) else (none)) else (none)) else ((shapesearchlaw11_awake.f k).bind fun t471 => (some t471))
end
def shapesearchlaw11_WindowSlides.f (k : Nat) (l0 : List Int) (a1 : Int) : Option (Bool) := (shapesearchkeep_New.f l0).bind fun bt451 => ((shapesearchkeep_Src_N.f bt451.1 bt451.2 60).bind fun bt454 => ((shapesearchkeep_Src_List.f k bt451.1 bt454.2 bt454.1).bind fun bt456 => ((window_Slide.f k bt456.1 (wrap64 (2 + (Int.tmod (wrap64 (a1)) 11)))).bind fun bt460 => (if bt460.2 = 0 then (shapesearchlaw11_WindowSlides.j0 k bt456.1 (wrap64 (2 + (Int.tmod (wrap64 (a1)) 11))) bt460.1 ((bt460.1.length : Int) != (mx 0 (wrap64 ((wrap64 ((bt456.1.length : Int) - (wrap64 (2 + (Int.tmod (wrap64 (a1)) 11))))) + 1))))) else (shapesearchlaw11_WindowSlides.j0 k bt456.1 (wrap64 (2 + (Int.tmod (wrap64 (a1)) 11))) bt460.1 true)))))
theorem shapesearchlaw11_WindowSlides.mono_l : ∀ k, (∀ y0 y1 y2 y3, LeO (shapesearchlaw11_WindowSlides.j0 k y0 y1 y2 y3) (shapesearchlaw11_WindowSlides.j0 (k + 1) y0 y1 y2 y3)) ∧ (∀ y0 y1 y2 y3, LeO (shapesearchlaw11_WindowSlides.l0 k y0 y1 y2 y3) (shapesearchlaw11_WindowSlides.l0 (k + 1) y0 y1 y2 y3))
  | 0 => ⟨fun _ _ _ _ r h => by simp [shapesearchlaw11_WindowSlides.j0] at h, fun _ _ _ _ r h => by simp [shapesearchlaw11_WindowSlides.l0] at h⟩
  | k + 1 => by
    obtain ⟨ih0, ih1⟩ := shapesearchlaw11_WindowSlides.mono_l k
    refine ⟨?_, ?_⟩
    · intro y0 y1 y2 y3
      unfold shapesearchlaw11_WindowSlides.j0
      repeat' first
      | (with_reducible exact ih0 _ _ _ _)
      | (with_reducible exact ih1 _ _ _ _)
      | (with_reducible exact shapesearchkeep_Src_List.mono _ _ _ _)
      | (with_reducible exact shapesearchlaw11_awake.mono _)
      | (with_reducible exact window_Slide.mono _ _ _)
      | (with_reducible exact LeO.refl _)
      | (with_reducible exact LeO.none _)
      | (with_reducible refine LeO.ite ?_ ?_)
      | (with_reducible refine LeO.bind ?_ (fun _ => ?_))
      | exact ih0 _ _ _ _
      | exact ih1 _ _ _ _
      | exact shapesearchkeep_Src_List.mono _ _ _ _
      | exact shapesearchlaw11_awake.mono _
      | exact window_Slide.mono _ _ _
      | exact LeO.none _
      | refine LeO.ite ?_ ?_
      | refine LeO.bind ?_ (fun _ => ?_)
    · intro y0 y1 y2 y3
      unfold shapesearchlaw11_WindowSlides.l0
      repeat' first
      | (with_reducible exact ih0 _ _ _ _)
      | (with_reducible exact ih1 _ _ _ _)
      | (with_reducible exact shapesearchkeep_Src_List.mono _ _ _ _)
      | (with_reducible exact shapesearchlaw11_awake.mono _)
      | (with_reducible exact window_Slide.mono _ _ _)
      | (with_reducible exact LeO.refl _)
      | (with_reducible exact LeO.none _)
      | (with_reducible refine LeO.ite ?_ ?_)
      | (with_reducible refine LeO.bind ?_ (fun _ => ?_))
      | exact ih0 _ _ _ _
      | exact ih1 _ _ _ _
      | exact shapesearchkeep_Src_List.mono _ _ _ _
      | exact shapesearchlaw11_awake.mono _
      | exact window_Slide.mono _ _ _
      | exact LeO.none _
      | refine LeO.ite ?_ ?_
      | refine LeO.bind ?_ (fun _ => ?_)
theorem shapesearchlaw11_WindowSlides.mono : ∀ a0 a1 k, LeO (shapesearchlaw11_WindowSlides.f k a0 a1) (shapesearchlaw11_WindowSlides.f (k + 1) a0 a1) := by
  intro a0 a1 k
  obtain ⟨ih0, ih1⟩ := shapesearchlaw11_WindowSlides.mono_l k
  unfold shapesearchlaw11_WindowSlides.f
  repeat' first
      | (with_reducible exact ih0 _ _ _ _)
      | (with_reducible exact ih1 _ _ _ _)
      | (with_reducible exact shapesearchkeep_Src_List.mono _ _ _ _)
      | (with_reducible exact shapesearchlaw11_awake.mono _)
      | (with_reducible exact window_Slide.mono _ _ _)
      | (with_reducible exact LeO.refl _)
      | (with_reducible exact LeO.none _)
      | (with_reducible refine LeO.ite ?_ ?_)
      | (with_reducible refine LeO.bind ?_ (fun _ => ?_))
      | exact ih0 _ _ _ _
      | exact ih1 _ _ _ _
      | exact shapesearchkeep_Src_List.mono _ _ _ _
      | exact shapesearchlaw11_awake.mono _
      | exact window_Slide.mono _ _ _
      | exact LeO.none _
      | refine LeO.ite ?_ ?_
      | refine LeO.bind ?_ (fun _ => ?_)
set_option maxHeartbeats 8000000 in
set_option maxRecDepth 100000 in
theorem shapesearchlaw11_WindowSlides.calls (k : Nat) (A0 : Option Addr) (c0 : Nat) (l0 : List Int) (a1 : Int) (r : Bool) (w : World) (hr0 : Kd.C (Kd.int .i64) w A0 l0.length l0) (hc0 : l0.length ≤ c0) (h : shapesearchlaw11_WindowSlides.f k l0 a1 = some r) :
    Calls Try.prog 8 #[.slice A0 l0.length c0, .int .u8 a1] w fun e w' => e = .returned (.bool r) ∧ Below w.heap.size w w' := by
  have HR0 := Aside0.mk hr0
  have HC0 := Aside0.mk hc0
  clear hr0 hc0
  have HB := Aside0.mk (Below.refl w.heap.size w)
  have H : ((shapesearchkeep_New.f l0).bind fun bt451 => ((shapesearchkeep_Src_N.f bt451.1 bt451.2 60).bind fun bt454 => ((shapesearchkeep_Src_List.f k bt451.1 bt454.2 bt454.1).bind fun bt456 => ((window_Slide.f k bt456.1 (wrap64 (2 + (Int.tmod (wrap64 (a1)) 11)))).bind fun bt460 => (if bt460.2 = 0 then (shapesearchlaw11_WindowSlides.j0 k bt456.1 (wrap64 (2 + (Int.tmod (wrap64 (a1)) 11))) bt460.1 ((bt460.1.length : Int) != (mx 0 (wrap64 ((wrap64 ((bt456.1.length : Int) - (wrap64 (2 + (Int.tmod (wrap64 (a1)) 11))))) + 1))))) else (shapesearchlaw11_WindowSlides.j0 k bt456.1 (wrap64 (2 + (Int.tmod (wrap64 (a1)) 11))) bt460.1 true)))))) = some r := h
  clear h
  replace H := Option.bind_eq_some_iff.mp H
  obtain ⟨⟨t451, t452⟩, A30, H⟩ := H
  replace H : ((shapesearchkeep_Src_N.f t451 t452 60).bind fun bt454 => ((shapesearchkeep_Src_List.f k t451 bt454.2 bt454.1).bind fun bt456 => ((window_Slide.f k bt456.1 (wrap64 (2 + (Int.tmod (wrap64 (a1)) 11)))).bind fun bt460 => (if bt460.2 = 0 then (shapesearchlaw11_WindowSlides.j0 k bt456.1 (wrap64 (2 + (Int.tmod (wrap64 (a1)) 11))) bt460.1 ((bt460.1.length : Int) != (mx 0 (wrap64 ((wrap64 ((bt456.1.length : Int) - (wrap64 (2 + (Int.tmod (wrap64 (a1)) 11))))) + 1))))) else (shapesearchlaw11_WindowSlides.j0 k bt456.1 (wrap64 (2 + (Int.tmod (wrap64 (a1)) 11))) bt460.1 true))))) = some r := H
  have A3 := Aside0.mk A30
  clear A30
  replace H := Option.bind_eq_some_iff.mp H
  obtain ⟨⟨t454, t455⟩, A40, H⟩ := H
  replace H : ((shapesearchkeep_Src_List.f k t451 t455 t454).bind fun bt456 => ((window_Slide.f k bt456.1 (wrap64 (2 + (Int.tmod (wrap64 (a1)) 11)))).bind fun bt460 => (if bt460.2 = 0 then (shapesearchlaw11_WindowSlides.j0 k bt456.1 (wrap64 (2 + (Int.tmod (wrap64 (a1)) 11))) bt460.1 ((bt460.1.length : Int) != (mx 0 (wrap64 ((wrap64 ((bt456.1.length : Int) - (wrap64 (2 + (Int.tmod (wrap64 (a1)) 11))))) + 1))))) else (shapesearchlaw11_WindowSlides.j0 k bt456.1 (wrap64 (2 + (Int.tmod (wrap64 (a1)) 11))) bt460.1 true)))) = some r := H
  have A4 := Aside0.mk A40
  clear A40
  replace H := Option.bind_eq_some_iff.mp H
  obtain ⟨⟨t456, t459⟩, A50, H⟩ := H
  replace H : ((window_Slide.f k t456 (wrap64 (2 + (Int.tmod (wrap64 (a1)) 11)))).bind fun bt460 => (if bt460.2 = 0 then (shapesearchlaw11_WindowSlides.j0 k t456 (wrap64 (2 + (Int.tmod (wrap64 (a1)) 11))) bt460.1 ((bt460.1.length : Int) != (mx 0 (wrap64 ((wrap64 ((t456.length : Int) - (wrap64 (2 + (Int.tmod (wrap64 (a1)) 11))))) + 1))))) else (shapesearchlaw11_WindowSlides.j0 k t456 (wrap64 (2 + (Int.tmod (wrap64 (a1)) 11))) bt460.1 true))) = some r := H
  have A5 := Aside0.mk A50
  clear A50
  replace H := Option.bind_eq_some_iff.mp H
  obtain ⟨⟨t460, t461⟩, A60, H⟩ := H
  replace H : (if t461 = 0 then (shapesearchlaw11_WindowSlides.j0 k t456 (wrap64 (2 + (Int.tmod (wrap64 (a1)) 11))) t460 ((t460.length : Int) != (mx 0 (wrap64 ((wrap64 ((t456.length : Int) - (wrap64 (2 + (Int.tmod (wrap64 (a1)) 11))))) + 1))))) else (shapesearchlaw11_WindowSlides.j0 k t456 (wrap64 (2 + (Int.tmod (wrap64 (a1)) 11))) t460 true)) = some r := H
  have A6 := Aside0.mk A60
  clear A60
  have HC7 := Aside0.mk H
  clear H
  go_enter Try.func8, Try.ntmps8
  go_upto_region 4 with (first | (go_at_call 9; (with_reducible refine (shapesearchkeep_New.calls _ _ l0 t451 t452 w _ ?side1 ?side2 ?side3 A3.out).mono ?_); (case side1 => repeat (first | (with_reducible first | exact HB.out | apply below_alloc | apply pw_below_drewN | apply below_drew1) | exact HB.out)); (case side2 => exact HR0.out); (case side3 => exact HC0.out); rintro e w8 ⟨g453, rfl, hi, hb, hb2⟩; have n0_ := Aside0.mk (hb); have n1_ := Aside0.mk (hi); clear HB; have HB := n0_; have HI453 := n1_; clear n0_ n1_; (try clear hb); (try clear hb2); (try clear hk); (try clear hi)) | (go_at_call 18; (with_reducible refine (shapesearchkeep_Src_N.calls g453 t451 t452 60 t454 t455 w _ ?side1 ?side2 A4.out).mono ?_); (case side1 => repeat (first | (with_reducible first | exact HI453.out | apply IsS58.alloc | apply IsS58.drewN | apply IsS58.drew | apply IsS58.set_1) | exact HI453.out)); (case side2 => repeat (first | (with_reducible first | exact HB.out | apply below_alloc | apply pw_below_drewN | apply below_drew1 | refine below_set ?_ (IsS58.ge HI453.out)) | exact HB.out)); rintro e w9 ⟨rfl, hi, hb, hk⟩; have n0_ := Aside0.mk (hb); have n1_ := Aside0.mk (hi); clear HB; clear HI453; have HB := n0_; have HI453 := n1_; clear n0_ n1_; (try clear hb); (try clear hb2); (try clear hk); (try clear hi)) | (go_at_call 10; (with_reducible refine (shapesearchkeep_Src_List.calls k g453 t451 t455 t454 t456 t459 w _ ?side1 ?side2 A5.out).mono ?_); (case side1 => repeat (first | (with_reducible first | exact HI453.out | apply IsS58.alloc | apply IsS58.drewN | apply IsS58.drew | apply IsS58.set_1) | exact HI453.out)); (case side2 => repeat (first | (with_reducible first | exact HB.out | apply below_alloc | apply pw_below_drewN | apply below_drew1 | refine below_set ?_ (IsS58.ge HI453.out)) | exact HB.out)); rintro e w10 ⟨v457, rfl, ho0, hi, hb, hk⟩; have n0_ := Aside0.mk (Kd.R_lower ho0 (below_size (by repeat (first | (with_reducible first | exact HB.out | apply below_alloc | apply pw_below_drewN | apply below_drew1 | refine below_set ?_ (IsS58.ge HI453.out)) | exact HB.out)))); have n1_ := Aside0.mk (hb); have n2_ := Aside0.mk (hi); clear HB; clear HI453; have HO458 := n0_; have HB := n1_; have HI453 := n2_; clear n0_ n1_ n2_; (try clear hb); (try clear hb2); (try clear hk); (try clear hi); (try clear ho0); obtain ⟨Ao11, co11, eo11⟩ := Kd.R_slice HO458.out; subst eo11) | (go_at_call 22; (with_reducible refine (window_Slide.calls k _ _ t456 (wrap64 (2 + (Int.tmod (wrap64 (a1)) 11))) t460 t461 _ ?side1 ?side2 A6.out).mono ?_); (case side1 => repeat (first | exact (Kd.R_reads' HO458.out).2.2 | (with_reducible refine Kd.C_alloc ?_ _) | (with_reducible refine Kd.C_drewN ?_ _) | (with_reducible refine Kd.C_drew ?_))); (case side2 => exact (Kd.R_reads' HO458.out).2.1); rintro e w12 ⟨v462, rfl, ho0, hb⟩; have n0_ := Aside0.mk (Kd.R_below (by (with_reducible repeat (first | apply Kd.R_alloc | apply Kd.R_drewN | apply Kd.R_drew)); exact HO458.out) hb); have n1_ := Aside0.mk (Kd.R_lower ho0 (below_size (by repeat (first | (with_reducible first | exact HB.out | apply below_alloc | apply pw_below_drewN | apply below_drew1 | refine below_set ?_ (IsS58.ge HI453.out)) | exact HB.out)))); have n2_ := Aside0.mk (IsS58.below (by repeat (first | (with_reducible first | exact HI453.out | apply IsS58.alloc | apply IsS58.drewN | apply IsS58.drew | apply IsS58.set_1) | exact HI453.out)) hb); have n3_ := Aside0.mk (below_step (by repeat (first | (with_reducible first | exact HB.out | apply below_alloc | apply pw_below_drewN | apply below_drew1 | refine below_set ?_ (IsS58.ge HI453.out)) | exact HB.out)) hb); clear HO458; clear HI453; clear HB; have HO458 := n0_; have HO463 := n1_; have HI453 := n2_; have HB := n3_; clear n0_ n1_ n2_ n3_; (try clear hb); (try clear hb2); (try clear hk); (try clear hi); (try clear ho0)))
  repeat (go_quiet (first | (go_at_call 9; (with_reducible refine (shapesearchkeep_New.calls _ _ l0 t451 t452 w _ ?side1 ?side2 ?side3 A3.out).mono ?_); (case side1 => repeat (first | (with_reducible first | exact HB.out | apply below_alloc | apply pw_below_drewN | apply below_drew1) | exact HB.out)); (case side2 => exact HR0.out); (case side3 => exact HC0.out); rintro e w8 ⟨g453, rfl, hi, hb, hb2⟩; have n0_ := Aside0.mk (hb); have n1_ := Aside0.mk (hi); clear HB; have HB := n0_; have HI453 := n1_; clear n0_ n1_; (try clear hb); (try clear hb2); (try clear hk); (try clear hi)) | (go_at_call 18; (with_reducible refine (shapesearchkeep_Src_N.calls g453 t451 t452 60 t454 t455 w _ ?side1 ?side2 A4.out).mono ?_); (case side1 => repeat (first | (with_reducible first | exact HI453.out | apply IsS58.alloc | apply IsS58.drewN | apply IsS58.drew | apply IsS58.set_1) | exact HI453.out)); (case side2 => repeat (first | (with_reducible first | exact HB.out | apply below_alloc | apply pw_below_drewN | apply below_drew1 | refine below_set ?_ (IsS58.ge HI453.out)) | exact HB.out)); rintro e w9 ⟨rfl, hi, hb, hk⟩; have n0_ := Aside0.mk (hb); have n1_ := Aside0.mk (hi); clear HB; clear HI453; have HB := n0_; have HI453 := n1_; clear n0_ n1_; (try clear hb); (try clear hb2); (try clear hk); (try clear hi)) | (go_at_call 10; (with_reducible refine (shapesearchkeep_Src_List.calls k g453 t451 t455 t454 t456 t459 w _ ?side1 ?side2 A5.out).mono ?_); (case side1 => repeat (first | (with_reducible first | exact HI453.out | apply IsS58.alloc | apply IsS58.drewN | apply IsS58.drew | apply IsS58.set_1) | exact HI453.out)); (case side2 => repeat (first | (with_reducible first | exact HB.out | apply below_alloc | apply pw_below_drewN | apply below_drew1 | refine below_set ?_ (IsS58.ge HI453.out)) | exact HB.out)); rintro e w10 ⟨v457, rfl, ho0, hi, hb, hk⟩; have n0_ := Aside0.mk (Kd.R_lower ho0 (below_size (by repeat (first | (with_reducible first | exact HB.out | apply below_alloc | apply pw_below_drewN | apply below_drew1 | refine below_set ?_ (IsS58.ge HI453.out)) | exact HB.out)))); have n1_ := Aside0.mk (hb); have n2_ := Aside0.mk (hi); clear HB; clear HI453; have HO458 := n0_; have HB := n1_; have HI453 := n2_; clear n0_ n1_ n2_; (try clear hb); (try clear hb2); (try clear hk); (try clear hi); (try clear ho0); obtain ⟨Ao11, co11, eo11⟩ := Kd.R_slice HO458.out; subst eo11) | (go_at_call 22; (with_reducible refine (window_Slide.calls k _ _ t456 (wrap64 (2 + (Int.tmod (wrap64 (a1)) 11))) t460 t461 _ ?side1 ?side2 A6.out).mono ?_); (case side1 => repeat (first | exact (Kd.R_reads' HO458.out).2.2 | (with_reducible refine Kd.C_alloc ?_ _) | (with_reducible refine Kd.C_drewN ?_ _) | (with_reducible refine Kd.C_drew ?_))); (case side2 => exact (Kd.R_reads' HO458.out).2.1); rintro e w12 ⟨v462, rfl, ho0, hb⟩; have n0_ := Aside0.mk (Kd.R_below (by (with_reducible repeat (first | apply Kd.R_alloc | apply Kd.R_drewN | apply Kd.R_drew)); exact HO458.out) hb); have n1_ := Aside0.mk (Kd.R_lower ho0 (below_size (by repeat (first | (with_reducible first | exact HB.out | apply below_alloc | apply pw_below_drewN | apply below_drew1 | refine below_set ?_ (IsS58.ge HI453.out)) | exact HB.out)))); have n2_ := Aside0.mk (IsS58.below (by repeat (first | (with_reducible first | exact HI453.out | apply IsS58.alloc | apply IsS58.drewN | apply IsS58.drew | apply IsS58.set_1) | exact HI453.out)) hb); have n3_ := Aside0.mk (below_step (by repeat (first | (with_reducible first | exact HB.out | apply below_alloc | apply pw_below_drewN | apply below_drew1 | refine below_set ?_ (IsS58.ge HI453.out)) | exact HB.out)) hb); clear HO458; clear HI453; clear HB; have HO458 := n0_; have HO463 := n1_; have HI453 := n2_; have HB := n3_; clear n0_ n1_ n2_ n3_; (try clear hb); (try clear hb2); (try clear hk); (try clear hi); (try clear ho0))); go_upto_region 4 with (first | (go_at_call 9; (with_reducible refine (shapesearchkeep_New.calls _ _ l0 t451 t452 w _ ?side1 ?side2 ?side3 A3.out).mono ?_); (case side1 => repeat (first | (with_reducible first | exact HB.out | apply below_alloc | apply pw_below_drewN | apply below_drew1) | exact HB.out)); (case side2 => exact HR0.out); (case side3 => exact HC0.out); rintro e w8 ⟨g453, rfl, hi, hb, hb2⟩; have n0_ := Aside0.mk (hb); have n1_ := Aside0.mk (hi); clear HB; have HB := n0_; have HI453 := n1_; clear n0_ n1_; (try clear hb); (try clear hb2); (try clear hk); (try clear hi)) | (go_at_call 18; (with_reducible refine (shapesearchkeep_Src_N.calls g453 t451 t452 60 t454 t455 w _ ?side1 ?side2 A4.out).mono ?_); (case side1 => repeat (first | (with_reducible first | exact HI453.out | apply IsS58.alloc | apply IsS58.drewN | apply IsS58.drew | apply IsS58.set_1) | exact HI453.out)); (case side2 => repeat (first | (with_reducible first | exact HB.out | apply below_alloc | apply pw_below_drewN | apply below_drew1 | refine below_set ?_ (IsS58.ge HI453.out)) | exact HB.out)); rintro e w9 ⟨rfl, hi, hb, hk⟩; have n0_ := Aside0.mk (hb); have n1_ := Aside0.mk (hi); clear HB; clear HI453; have HB := n0_; have HI453 := n1_; clear n0_ n1_; (try clear hb); (try clear hb2); (try clear hk); (try clear hi)) | (go_at_call 10; (with_reducible refine (shapesearchkeep_Src_List.calls k g453 t451 t455 t454 t456 t459 w _ ?side1 ?side2 A5.out).mono ?_); (case side1 => repeat (first | (with_reducible first | exact HI453.out | apply IsS58.alloc | apply IsS58.drewN | apply IsS58.drew | apply IsS58.set_1) | exact HI453.out)); (case side2 => repeat (first | (with_reducible first | exact HB.out | apply below_alloc | apply pw_below_drewN | apply below_drew1 | refine below_set ?_ (IsS58.ge HI453.out)) | exact HB.out)); rintro e w10 ⟨v457, rfl, ho0, hi, hb, hk⟩; have n0_ := Aside0.mk (Kd.R_lower ho0 (below_size (by repeat (first | (with_reducible first | exact HB.out | apply below_alloc | apply pw_below_drewN | apply below_drew1 | refine below_set ?_ (IsS58.ge HI453.out)) | exact HB.out)))); have n1_ := Aside0.mk (hb); have n2_ := Aside0.mk (hi); clear HB; clear HI453; have HO458 := n0_; have HB := n1_; have HI453 := n2_; clear n0_ n1_ n2_; (try clear hb); (try clear hb2); (try clear hk); (try clear hi); (try clear ho0); obtain ⟨Ao11, co11, eo11⟩ := Kd.R_slice HO458.out; subst eo11) | (go_at_call 22; (with_reducible refine (window_Slide.calls k _ _ t456 (wrap64 (2 + (Int.tmod (wrap64 (a1)) 11))) t460 t461 _ ?side1 ?side2 A6.out).mono ?_); (case side1 => repeat (first | exact (Kd.R_reads' HO458.out).2.2 | (with_reducible refine Kd.C_alloc ?_ _) | (with_reducible refine Kd.C_drewN ?_ _) | (with_reducible refine Kd.C_drew ?_))); (case side2 => exact (Kd.R_reads' HO458.out).2.1); rintro e w12 ⟨v462, rfl, ho0, hb⟩; have n0_ := Aside0.mk (Kd.R_below (by (with_reducible repeat (first | apply Kd.R_alloc | apply Kd.R_drewN | apply Kd.R_drew)); exact HO458.out) hb); have n1_ := Aside0.mk (Kd.R_lower ho0 (below_size (by repeat (first | (with_reducible first | exact HB.out | apply below_alloc | apply pw_below_drewN | apply below_drew1 | refine below_set ?_ (IsS58.ge HI453.out)) | exact HB.out)))); have n2_ := Aside0.mk (IsS58.below (by repeat (first | (with_reducible first | exact HI453.out | apply IsS58.alloc | apply IsS58.drewN | apply IsS58.drew | apply IsS58.set_1) | exact HI453.out)) hb); have n3_ := Aside0.mk (below_step (by repeat (first | (with_reducible first | exact HB.out | apply below_alloc | apply pw_below_drewN | apply below_drew1 | refine below_set ?_ (IsS58.ge HI453.out)) | exact HB.out)) hb); clear HO458; clear HI453; clear HB; have HO458 := n0_; have HO463 := n1_; have HI453 := n2_; have HB := n3_; clear n0_ n1_ n2_ n3_; (try clear hb); (try clear hb2); (try clear hk); (try clear hi); (try clear ho0))))
  (try simp only [Act.put, List.setIfInBounds_toArray, List.set_cons_zero, List.set_cons_succ])
  go_cut [41] (fun v41 wc => ∃ (kq : Nat) (x41_6 : Bool), v41 = .bool x41_6 ∧ Aside0 (shapesearchlaw11_WindowSlides.j0 kq t456 (wrap64 (2 + (Int.tmod (wrap64 (a1)) 11))) t460 x41_6 = some r) ∧ Aside0 (kq ≤ k) ∧ Aside0 (Kd.R (Kd.int .i64) 3 wc w.heap.size (fun _ => True) (.slice Ao11 t456.length co11) t456) ∧ Aside0 (Kd.R k33 33 wc w.heap.size (fun _ => True) v462 t460) ∧ Aside0 (Below w.heap.size w wc))
  case first =>
    have H := HC7.out
    clear HC7
    by_cases c13 : t461 = 0
    · rw [if_pos c13] at H
      have c13b0 : (t461 == 0) = true := beq_iff_eq.mpr c13
      have c13b1 : (t461 != 0) = false := bne_eq_false_iff_eq.mpr c13
      clear c13
      (first | rw [c13b0] | (simp only [i64_w, i32_w]; rw [c13b0]) | skip)
      obtain ⟨ji14, hji14⟩ : ∃ j_ : Int, (mx 0 (wrap64 ((wrap64 ((t456.length : Int) - (wrap64 (2 + (Int.tmod (wrap64 (a1)) 11))))) + 1))) = j_ := ⟨_, rfl⟩
      replace H : (shapesearchlaw11_WindowSlides.j0 k t456 (wrap64 (2 + (Int.tmod (wrap64 (a1)) 11))) t460 ((t460.length : Int) != (ji14))) = some r := by first | (rw [hji14] at H; exact H) | (simp only [hji14] at H ⊢; exact H)
      (try (have hji14l : 0 ≤ ji14 := by (rw [← hji14]; unfold mx; (repeat' split) <;> omega)))
      (try (have hji14m : 0 ≤ ji14 := by omega))
      have hji14_ : (if 0 < (wrap64 ((wrap64 ((t456.length : Int) - (wrap64 (2 + (Int.tmod (wrap64 (a1)) 11))))) + 1)) then (wrap64 ((wrap64 ((t456.length : Int) - (wrap64 (2 + (Int.tmod (wrap64 (a1)) 11))))) + 1)) else 0) = ji14 := hji14
      have H' := Aside0.mk H
      clear H
      obtain ⟨Ao15, co15, eo15⟩ := Kd.R_slice HO463.out
      subst eo15
      go_wp2
      repeat (go_quiet (fail); try go_wp2)
      go_meet
      case rel => exact ⟨_, (((t460.length : Int) != (ji14))), (by first | rfl | (simp; done) | (simp only [← hji14] <;> (first | rfl | simp)) | (simp [*]; done)), H', ⟨by first | omega | exact Nat.le_refl _⟩, ⟨by (with_reducible repeat (first | apply Kd.R_alloc | apply Kd.R_drewN | apply Kd.R_drew)); exact HO458.out⟩, ⟨by (with_reducible repeat (first | apply Kd.R_alloc | apply Kd.R_drewN | apply Kd.R_drew)); exact HO463.out⟩, ⟨by repeat (first | (with_reducible first | exact HB.out | apply below_alloc | apply pw_below_drewN | apply below_drew1 | refine below_set ?_ (IsS58.ge HI453.out)) | exact HB.out)⟩⟩
    · rw [if_neg c13] at H
      have c13b0 : (t461 == 0) = false := beq_eq_false_iff_ne.mpr c13
      have c13b1 : (t461 != 0) = true := bne_iff_ne.mpr c13
      (first | rw [c13b0] | (simp only [i64_w, i32_w]; rw [c13b0]) | skip)
      have H' := Aside0.mk H
      clear H
      go_wp2
      repeat (go_quiet (fail); try go_wp2)
      go_meet
      case rel => exact ⟨_, (true), (by first | rfl | (simp; done) | (simp [*]; done)), H', ⟨by first | omega | exact Nat.le_refl _⟩, ⟨by (with_reducible repeat (first | apply Kd.R_alloc | apply Kd.R_drewN | apply Kd.R_drew)); exact HO458.out⟩, ⟨by (with_reducible repeat (first | apply Kd.R_alloc | apply Kd.R_drewN | apply Kd.R_drew)); exact HO463.out⟩, ⟨by repeat (first | (with_reducible first | exact HB.out | apply below_alloc | apply pw_below_drewN | apply below_drew1 | refine below_set ?_ (IsS58.ge HI453.out)) | exact HB.out)⟩⟩
  case rest =>
    clear HC7
    try clear c1
    try clear p2
    try clear p6
    try clear c8
    try clear c13
    try clear c13b0
    try clear c13b1
    obtain ⟨kq, x41_6, rfl, HA, HJ6, HO_6, HO_8, HB⟩ := hcut
    cases kq with
    | zero => exact absurd HA.out (by simp [shapesearchlaw11_WindowSlides.j0])
    | succ kj6 =>
      have H := HA.out
      clear HA
      simp only [shapesearchlaw11_WindowSlides.j0] at H
      by_cases c16 : x41_6 = true
      · subst c16
        have H1 : (none) = some r := by rw [if_pos rfl] at H; exact H
        clear H
        have H := H1
        clear H1
        exact absurd H (by simp)
      · replace c16 := Bool.eq_false_iff.mpr c16
        subst c16
        have H1 : (shapesearchlaw11_WindowSlides.l0 kj6 t456 (wrap64 (2 + (Int.tmod (wrap64 (a1)) 11))) t460 1) = some r := by rw [if_neg (show ¬ (false = true) by decide)] at H; exact H
        clear H
        have H := H1
        clear H1
        have H' := Aside0.mk H
        clear H
        go_wp2
        repeat (go_quiet (fail); try go_wp2)
        go_loopg [10] kj6 (fun kq v10 w' => ∃ (x10_2 : Int), v10 = .int .i64 x10_2 ∧ Aside0 (shapesearchlaw11_WindowSlides.l0 kq t456 (wrap64 (2 + (Int.tmod (wrap64 (a1)) 11))) t460 x10_2 = some r) ∧ Aside0 (kq ≤ kj6) ∧ Aside0 (Kd.R (Kd.int .i64) 3 w' w.heap.size (fun _ => True) (.slice Ao11 t456.length co11) t456) ∧ Aside0 (Kd.R k33 33 w' w.heap.size (fun _ => True) v462 t460) ∧ Aside0 (Below w.heap.size w w'))
        case atStart => exact ⟨(1), (by first | rfl | (simp; done) | (simp [*]; done)), H', ⟨Nat.le_refl _⟩, ⟨by (with_reducible repeat (first | apply Kd.R_alloc | apply Kd.R_drewN | apply Kd.R_drew)); exact HO_6.out⟩, ⟨by (with_reducible repeat (first | apply Kd.R_alloc | apply Kd.R_drewN | apply Kd.R_drew)); exact HO_8.out⟩, ⟨by repeat (first | (with_reducible first | exact HB.out | apply below_alloc | apply pw_below_drewN | apply below_drew1) | exact HB.out)⟩⟩
        case round =>
          clear H'
          try clear c1
          try clear p2
          try clear p6
          try clear c8
          try clear c13
          try clear c13b0
          try clear c13b1
          try clear c16
          try clear p2
          try clear p6
          obtain ⟨x10_2, rfl, HA, HK2, HO_6, HO_8, HB⟩ := hrel
          cases gk with
          | zero => exact absurd HA.out (by simp [shapesearchlaw11_WindowSlides.l0])
          | succ k2 =>
            have H := HA.out
            clear HA
            simp only [shapesearchlaw11_WindowSlides.l0] at H
            by_cases c17 : x10_2 < (t460.length : Int)
            · rw [if_pos c17] at H
              have c17b0 : decide (x10_2 < (t460.length : Int)) = true := decide_eq_true c17
              clear c17
              obtain ⟨ji18, hji18⟩ : ∃ j_ : Int, (wrap64 (x10_2 - 1)) = j_ := ⟨_, rfl⟩
              replace H : (if 0 ≤ (ji18) then (if (ji18) < (t456.length : Int) then (if 0 ≤ (wrap64 ((wrap64 (x10_2 + (wrap64 (2 + (Int.tmod (wrap64 (a1)) 11))))) - 1)) then (if (wrap64 ((wrap64 (x10_2 + (wrap64 (2 + (Int.tmod (wrap64 (a1)) 11))))) - 1)) < (t456.length : Int) then (if 0 ≤ x10_2 then (if ((rd_T33 t460 x10_2).f0) = (wrap64 (2 + (Int.tmod (wrap64 (a1)) 11))) then (if (ji18) < (t460.length : Int) then (if ((rd_T33 t460 x10_2).f1) = (wrap64 ((wrap64 (((rd_T33 t460 (ji18)).f1) - (rd t456 (ji18)))) + (rd t456 (wrap64 ((wrap64 (x10_2 + (wrap64 (2 + (Int.tmod (wrap64 (a1)) 11))))) - 1))))) then (if ((rd_T33 t460 x10_2).f2) = (wrap64 ((wrap64 (((rd_T33 t460 (ji18)).f2) - (wrap64 ((rd t456 (ji18)) * (rd t456 (ji18)))))) + (wrap64 ((rd t456 (wrap64 ((wrap64 (x10_2 + (wrap64 (2 + (Int.tmod (wrap64 (a1)) 11))))) - 1))) * (rd t456 (wrap64 ((wrap64 (x10_2 + (wrap64 (2 + (Int.tmod (wrap64 (a1)) 11))))) - 1))))))) then (shapesearchlaw11_WindowSlides.l0 k2 t456 (wrap64 (2 + (Int.tmod (wrap64 (a1)) 11))) t460 (wrap64 (x10_2 + 1))) else (none)) else (none)) else (none)) else (none)) else (none)) else (none)) else (none)) else (none)) else (none)) = some r := by first | (rw [hji18] at H; exact H) | (simp only [hji18] at H ⊢; exact H)
              have hji18w : (IntKind.i64.wrap (x10_2 - 1)) = ji18 := (i64_w _).trans hji18
              by_cases c19 : 0 ≤ (ji18)
              · rw [if_pos c19] at H
                have c19b0 : decide (0 ≤ (ji18)) = true := decide_eq_true c19
                clear c19
                by_cases c20 : (ji18) < (t456.length : Int)
                · rw [if_pos c20] at H
                  have c20b0 : decide ((ji18) < (t456.length : Int)) = true := decide_eq_true c20
                  clear c20
                  obtain ⟨ji21, hji21⟩ : ∃ j_ : Int, (wrap64 ((wrap64 (x10_2 + (wrap64 (2 + (Int.tmod (wrap64 (a1)) 11))))) - 1)) = j_ := ⟨_, rfl⟩
                  replace H : (if 0 ≤ (ji21) then (if (ji21) < (t456.length : Int) then (if 0 ≤ x10_2 then (if ((rd_T33 t460 x10_2).f0) = (wrap64 (2 + (Int.tmod (wrap64 (a1)) 11))) then (if (ji18) < (t460.length : Int) then (if ((rd_T33 t460 x10_2).f1) = (wrap64 ((wrap64 (((rd_T33 t460 (ji18)).f1) - (rd t456 (ji18)))) + (rd t456 (ji21)))) then (if ((rd_T33 t460 x10_2).f2) = (wrap64 ((wrap64 (((rd_T33 t460 (ji18)).f2) - (wrap64 ((rd t456 (ji18)) * (rd t456 (ji18)))))) + (wrap64 ((rd t456 (ji21)) * (rd t456 (ji21)))))) then (shapesearchlaw11_WindowSlides.l0 k2 t456 (wrap64 (2 + (Int.tmod (wrap64 (a1)) 11))) t460 (wrap64 (x10_2 + 1))) else (none)) else (none)) else (none)) else (none)) else (none)) else (none)) else (none)) = some r := by first | (rw [hji21] at H; exact H) | (simp only [hji21] at H ⊢; exact H)
                  have hji21w : (IntKind.i64.wrap ((wrap64 (x10_2 + (wrap64 (2 + (Int.tmod (wrap64 (a1)) 11))))) - 1)) = ji21 := (i64_w _).trans hji21
                  by_cases c22 : 0 ≤ (ji21)
                  · rw [if_pos c22] at H
                    have c22b0 : decide (0 ≤ (ji21)) = true := decide_eq_true c22
                    clear c22
                    by_cases c23 : (ji21) < (t456.length : Int)
                    · rw [if_pos c23] at H
                      have c23b0 : decide ((ji21) < (t456.length : Int)) = true := decide_eq_true c23
                      clear c23
                      by_cases c24 : 0 ≤ x10_2
                      · rw [if_pos c24] at H
                        have c24b0 : decide (0 ≤ x10_2) = true := decide_eq_true c24
                        clear c24
                        by_cases c25 : ((rd_T33 t460 x10_2).f0) = (wrap64 (2 + (Int.tmod (wrap64 (a1)) 11)))
                        · rw [if_pos c25] at H
                          have c25b0 : (((rd_T33 t460 x10_2).f0) == (wrap64 (2 + (Int.tmod (wrap64 (a1)) 11)))) = true := beq_iff_eq.mpr c25
                          have c25b1 : (((rd_T33 t460 x10_2).f0) != (wrap64 (2 + (Int.tmod (wrap64 (a1)) 11)))) = false := bne_eq_false_iff_eq.mpr c25
                          clear c25
                          by_cases c26 : (ji18) < (t460.length : Int)
                          · rw [if_pos c26] at H
                            have c26b0 : decide ((ji18) < (t460.length : Int)) = true := decide_eq_true c26
                            clear c26
                            by_cases c27 : ((rd_T33 t460 x10_2).f1) = (wrap64 ((wrap64 (((rd_T33 t460 (ji18)).f1) - (rd t456 (ji18)))) + (rd t456 (ji21))))
                            · rw [if_pos c27] at H
                              have c27b0 : (((rd_T33 t460 x10_2).f1) == (wrap64 ((wrap64 (((rd_T33 t460 (ji18)).f1) - (rd t456 (ji18)))) + (rd t456 (ji21))))) = true := beq_iff_eq.mpr c27
                              have c27b1 : (((rd_T33 t460 x10_2).f1) != (wrap64 ((wrap64 (((rd_T33 t460 (ji18)).f1) - (rd t456 (ji18)))) + (rd t456 (ji21))))) = false := bne_eq_false_iff_eq.mpr c27
                              clear c27
                              by_cases c28 : ((rd_T33 t460 x10_2).f2) = (wrap64 ((wrap64 (((rd_T33 t460 (ji18)).f2) - (wrap64 ((rd t456 (ji18)) * (rd t456 (ji18)))))) + (wrap64 ((rd t456 (ji21)) * (rd t456 (ji21))))))
                              · rw [if_pos c28] at H
                                have c28b0 : (((rd_T33 t460 x10_2).f2) == (wrap64 ((wrap64 (((rd_T33 t460 (ji18)).f2) - (wrap64 ((rd t456 (ji18)) * (rd t456 (ji18)))))) + (wrap64 ((rd t456 (ji21)) * (rd t456 (ji21))))))) = true := beq_iff_eq.mpr c28
                                have c28b1 : (((rd_T33 t460 x10_2).f2) != (wrap64 ((wrap64 (((rd_T33 t460 (ji18)).f2) - (wrap64 ((rd t456 (ji18)) * (rd t456 (ji18)))))) + (wrap64 ((rd t456 (ji21)) * (rd t456 (ji21))))))) = false := bne_eq_false_iff_eq.mpr c28
                                clear c28
                                have H' := Aside0.mk H
                                clear H
                                obtain ⟨Ao29, co29, eo29⟩ := Kd.R_slice HO_8.out
                                subst eo29
                                have p464 : 0 ≤ ((ji18) : Int) := of_decide_eq_true (by first | (with_reducible assumption) | assumption)
                                have q464 : (ji18) < (t456.length : Int) := of_decide_eq_true (by first | (with_reducible assumption) | assumption)
                                obtain ⟨ad464, e464, hx464_0⟩ := Kd.at_int (Kd.R_reads' HO_6.out).2.2 (ji18) p464 q464
                                cases e464
                                replace p464 := eq_true p464
                                replace q464 := eq_true q464
                                have p465 : 0 ≤ ((ji21) : Int) := of_decide_eq_true (by first | (with_reducible assumption) | assumption)
                                have q465 : (ji21) < (t456.length : Int) := of_decide_eq_true (by first | (with_reducible assumption) | assumption)
                                obtain ⟨ad465, e465, hx465_0⟩ := Kd.at_int (Kd.R_reads' HO_6.out).2.2 (ji21) p465 q465
                                obtain rfl : ad464 = ad465 := (by injection e465)
                                replace p465 := eq_true p465
                                replace q465 := eq_true q465
                                have p466 : 0 ≤ (x10_2 : Int) := of_decide_eq_true (by first | (with_reducible assumption) | assumption)
                                have q466 : x10_2 < (t460.length : Int) := of_decide_eq_true (by first | (with_reducible assumption) | assumption)
                                obtain ⟨ad466, e466, hx466_0, hx466_1, hx466_2⟩ := at_T33 (Kd.R_reads' HO_8.out).2.2 x10_2 p466 q466
                                cases e466
                                replace p466 := eq_true p466
                                replace q466 := eq_true q466
                                have p467 : 0 ≤ (x10_2 : Int) := of_decide_eq_true (by first | (with_reducible assumption) | assumption)
                                have q467 : x10_2 < (t460.length : Int) := of_decide_eq_true (by first | (with_reducible assumption) | assumption)
                                obtain ⟨ad467, e467, hx467_0, hx467_1, hx467_2⟩ := at_T33 (Kd.R_reads' HO_8.out).2.2 x10_2 p467 q467
                                obtain rfl : ad466 = ad467 := (by injection e467)
                                replace p467 := eq_true p467
                                replace q467 := eq_true q467
                                have p468 : 0 ≤ ((ji18) : Int) := of_decide_eq_true (by first | (with_reducible assumption) | assumption)
                                have q468 : (ji18) < (t460.length : Int) := of_decide_eq_true (by first | (with_reducible assumption) | assumption)
                                obtain ⟨ad468, e468, hx468_0, hx468_1, hx468_2⟩ := at_T33 (Kd.R_reads' HO_8.out).2.2 (ji18) p468 q468
                                obtain rfl : ad466 = ad468 := (by injection e468)
                                replace p468 := eq_true p468
                                replace q468 := eq_true q468
                                have p469 : 0 ≤ (x10_2 : Int) := of_decide_eq_true (by first | (with_reducible assumption) | assumption)
                                have q469 : x10_2 < (t460.length : Int) := of_decide_eq_true (by first | (with_reducible assumption) | assumption)
                                obtain ⟨ad469, e469, hx469_0, hx469_1, hx469_2⟩ := at_T33 (Kd.R_reads' HO_8.out).2.2 x10_2 p469 q469
                                obtain rfl : ad466 = ad469 := (by injection e469)
                                replace p469 := eq_true p469
                                replace q469 := eq_true q469
                                have p470 : 0 ≤ ((ji18) : Int) := of_decide_eq_true (by first | (with_reducible assumption) | assumption)
                                have q470 : (ji18) < (t460.length : Int) := of_decide_eq_true (by first | (with_reducible assumption) | assumption)
                                obtain ⟨ad470, e470, hx470_0, hx470_1, hx470_2⟩ := at_T33 (Kd.R_reads' HO_8.out).2.2 (ji18) p470 q470
                                obtain rfl : ad466 = ad470 := (by injection e470)
                                replace p470 := eq_true p470
                                replace q470 := eq_true q470
                                go_wp2
                                repeat (go_quiet (fail); try go_wp2)
                                go_roundg k2
                                case measure => have := HJ6.out; have := HK2.out; omega
                                case rel => exact ⟨(wrap64 (x10_2 + 1)), (by first | rfl | (simp; done) | (simp [*]; done)), H', ⟨by have := HJ6.out; have := HK2.out; omega⟩, ⟨by (with_reducible repeat (first | apply Kd.R_alloc | apply Kd.R_drewN | apply Kd.R_drew)); exact HO_6.out⟩, ⟨by (with_reducible repeat (first | apply Kd.R_alloc | apply Kd.R_drewN | apply Kd.R_drew)); exact HO_8.out⟩, ⟨by repeat (first | (with_reducible first | exact HB.out | apply below_alloc | apply pw_below_drewN | apply below_drew1) | exact HB.out)⟩⟩
                              · rw [if_neg c28] at H
                                exact absurd H (by simp)
                            · rw [if_neg c27] at H
                              exact absurd H (by simp)
                          · rw [if_neg c26] at H
                            exact absurd H (by simp)
                        · rw [if_neg c25] at H
                          exact absurd H (by simp)
                      · rw [if_neg c24] at H
                        exact absurd H (by simp)
                    · rw [if_neg c23] at H
                      exact absurd H (by simp)
                  · rw [if_neg c22] at H
                    exact absurd H (by simp)
                · rw [if_neg c20] at H
                  exact absurd H (by simp)
              · rw [if_neg c19] at H
                exact absurd H (by simp)
            · rw [if_neg c17] at H
              have c17b0 : decide (x10_2 < (t460.length : Int)) = false := decide_eq_false c17
              clear c17
              replace H := Option.bind_eq_some_iff.mp H
              obtain ⟨t471, A300, H⟩ := H
              replace H : (some t471) = some r := H
              have A30 := Aside0.mk A300
              clear A300
              obtain rfl := Option.some.inj H
              obtain ⟨Ao31, co31, eo31⟩ := Kd.R_slice HO_8.out
              subst eo31
              go_wp2_with (first | (go_at_call 15; (with_reducible refine (shapesearchlaw11_awake.calls k2  t471 _ A30.out).mono ?_); rintro e w32 ⟨rfl, hb⟩; have n0_ := Aside0.mk (Kd.R_below (by (with_reducible repeat (first | apply Kd.R_alloc | apply Kd.R_drewN | apply Kd.R_drew)); exact HO_6.out) hb); have n1_ := Aside0.mk (Kd.R_below (by (with_reducible repeat (first | apply Kd.R_alloc | apply Kd.R_drewN | apply Kd.R_drew)); exact HO_8.out) hb); have n2_ := Aside0.mk (below_step (by repeat (first | (with_reducible first | exact HB.out | apply below_alloc | apply pw_below_drewN | apply below_drew1) | exact HB.out)) hb); clear HO_6; clear HO_8; clear HB; have HO_6 := n0_; have HO_8 := n1_; have HB := n2_; clear n0_ n1_ n2_; (try clear hb); (try clear hb2); (try clear hk); (try clear hi)))
              repeat (go_quiet (first | (go_at_call 15; (with_reducible refine (shapesearchlaw11_awake.calls k2  t471 _ A30.out).mono ?_); rintro e w32 ⟨rfl, hb⟩; have n0_ := Aside0.mk (Kd.R_below (by (with_reducible repeat (first | apply Kd.R_alloc | apply Kd.R_drewN | apply Kd.R_drew)); exact HO_6.out) hb); have n1_ := Aside0.mk (Kd.R_below (by (with_reducible repeat (first | apply Kd.R_alloc | apply Kd.R_drewN | apply Kd.R_drew)); exact HO_8.out) hb); have n2_ := Aside0.mk (below_step (by repeat (first | (with_reducible first | exact HB.out | apply below_alloc | apply pw_below_drewN | apply below_drew1) | exact HB.out)) hb); clear HO_6; clear HO_8; clear HB; have HO_6 := n0_; have HO_8 := n1_; have HB := n2_; clear n0_ n1_ n2_; (try clear hb); (try clear hb2); (try clear hk); (try clear hi))); try go_wp2_with (first | (go_at_call 15; (with_reducible refine (shapesearchlaw11_awake.calls k2  t471 _ A30.out).mono ?_); rintro e w32 ⟨rfl, hb⟩; have n0_ := Aside0.mk (Kd.R_below (by (with_reducible repeat (first | apply Kd.R_alloc | apply Kd.R_drewN | apply Kd.R_drew)); exact HO_6.out) hb); have n1_ := Aside0.mk (Kd.R_below (by (with_reducible repeat (first | apply Kd.R_alloc | apply Kd.R_drewN | apply Kd.R_drew)); exact HO_8.out) hb); have n2_ := Aside0.mk (below_step (by repeat (first | (with_reducible first | exact HB.out | apply below_alloc | apply pw_below_drewN | apply below_drew1) | exact HB.out)) hb); clear HO_6; clear HO_8; clear HB; have HO_6 := n0_; have HO_8 := n1_; have HB := n2_; clear n0_ n1_ n2_; (try clear hb); (try clear hb2); (try clear hk); (try clear hi))))
              go_ret
              exact ⟨by first | rfl | (simp [errW_none, errW_some] <;> rfl) | (simp [*, errW_none, errW_some] <;> rfl), by repeat (first | (with_reducible first | exact HB.out | apply below_alloc | apply pw_below_drewN | apply below_drew1) | exact HB.out)⟩

/-- THE ONE PURE STATEMENT of shapesearchlaw11_WindowSlides: yours. -/
def shapesearchlaw11_WindowSlides.Pure : Prop := ∀ (l0 : List Int) (a1 : Int), l0.length ≤ maxLen → l0.length * 8 ≤ 140737488351232 → (∀ x ∈ l0, (Lit.int .i64 x).wf = true) → (Lit.int .u8 a1).wf = true → ∃ k, shapesearchlaw11_WindowSlides.f k l0 a1 = some true
theorem shapesearchlaw11_WindowSlides.walk (P : shapesearchlaw11_WindowSlides.Pure) (a0 : Option Addr) (len0 cap0 : Nat) (z0 : List Int) (a1 : Int) (w : World) (w0 : (a0 = none ∧ len0 = 0 ∧ cap0 = 0 ∧ z0 = []) ∨ ∃ x, a0 = some x ∧ len0 ≤ cap0 ∧ cap0 ≤ maxLen ∧ z0.length = cap0 ∧ (∀ i, i < z0.length → w.cell? (x.add i) = some (.int .i64 (z0.getD i 0))) ∧ ∀ n ∈ z0, (Lit.int .i64 n).wf = true) (y0 : len0 * 8 ≤ 140737488351232) (w1 : (Lit.int .u8 a1).wf = true) :
    Calls Try.prog 8 #[.slice a0 len0 cap0, .int .u8 a1] w fun e w' => e = .returned (.bool true) ∧ Below w.heap.size w w' := by
  obtain ⟨l0, rfl, hr0, hm0, hw0, hc0⟩ := ReadsInt.ofRowC w0
  obtain ⟨k, h⟩ := P l0 a1 hm0 y0 hw0 w1
  refine (shapesearchlaw11_WindowSlides.calls k _ _ l0 a1 true w (Kd.C_of_reads (d := (0 : Int)) (h1 := fun _ => rfl) hr0) hc0 h).mono ?_
  rintro e w' ⟨rfl, hd⟩
  exact ⟨rfl, hd⟩

end Go.Proofs.Ytknkiogjibpooaa.Hp
