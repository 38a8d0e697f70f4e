-- Written by wip/tools/hprint.py of this session, over the kit's print with hand-made contracts; Lean checks it.
import Derived.Test.YtknkiogjibpooabHx0
import Derived.Test.YtknkiogjibpooabHx1
import Derived.Test.YtknkiogjibpooabHx2
import Derived.Test.YtknkiogjibpooabHx10
import Derived.Test.YtknkiogjibpooabHx17
namespace Go.Proofs.Ytknkiogjibpooab.Hp
open Go.RowKit Go.Proofs.YtknkiogjibpooabW.PrintWords Go.Proofs.YtknkiogjibpooabW.PrintLast Go.Proofs.YtknkiogjibpooabW.PrintMore
attribute [local go_sem] max2_int min2_int max_two min_two max_three min_three max_four min_four   -- for this text's walks alone
attribute [local go_sem] i64_w
set_option linter.unusedVariables false
set_option linter.unusedSimpArgs false

/-! ### shapesearchlaw08_ResampleReach: function 6 -/
def shapesearchlaw08_ResampleReach.j0 : Nat → Int → Int → List (S29) → Int → Int → Option (Bool)
  | 0, _, _, _, _, _ => none
  | k + 1, x2, x3, x11, x12, x13 => (shapesearchlaw08_grid.f x13 (wrap64 (x2))).bind fun bt456 => ((resample_At.f k x11 bt456.1 bt456.2.1 bt456.2.2.1 bt456.2.2.2.1 bt456.2.2.2.2 (mn x12 1099511627776)).bind fun bt461 => ((shapesearchlaw08_grid.f x13 (wrap64 ((wrap64 (x2)) + (wrap64 (x3))))).bind fun bt463 => ((resample_At.f k x11 bt463.1 bt463.2.1 bt463.2.2.1 bt463.2.2.2.1 bt463.2.2.2.2 (mn x12 1099511627776)).bind fun bt468 => (if bt461.2 = true then (if bt468.2 = true then (if bt461.1 = bt468.1 then ((shapesearchlaw08_awake.f k).bind fun t470 => (some t470)) else (none)) else (none)) else ((shapesearchlaw08_awake.f k).bind fun t471 => (some t471))))))
def shapesearchlaw08_ResampleReach.f (k : Nat) (l0 : List Int) (a1 : Int) (a2 : Int) (a3 : Int) (a4 : Int) : Option (Bool) := (shapesearchkeep_New.f l0).bind fun bt448 => ((shapesearchkeep_Src_Ascending.f k bt448.1 bt448.2 10).bind fun bt451 => (if (bt451.1.length : Int) > 0 then (if 0 < (bt451.1.length : Int) then (shapesearchlaw08_ResampleReach.j0 k a2 a3 bt451.1 (wrap64 ((wrap64 (a1)) + ((rd_T29 bt451.1 0).f0))) (wrap64 (1 + (Int.tmod (wrap64 (a4)) 3)))) else (none)) else (shapesearchlaw08_ResampleReach.j0 k a2 a3 bt451.1 (wrap64 (a1)) (wrap64 (1 + (Int.tmod (wrap64 (a4)) 3))))))
theorem shapesearchlaw08_ResampleReach.mono_l : ∀ k, (∀ y0 y1 y2 y3 y4, LeO (shapesearchlaw08_ResampleReach.j0 k y0 y1 y2 y3 y4) (shapesearchlaw08_ResampleReach.j0 (k + 1) y0 y1 y2 y3 y4))
  | 0 => fun _ _ _ _ _ r h => by simp [shapesearchlaw08_ResampleReach.j0] at h
  | k + 1 => by
    have ih0 := shapesearchlaw08_ResampleReach.mono_l k
    · intro y0 y1 y2 y3 y4
      unfold shapesearchlaw08_ResampleReach.j0
      repeat' first
      | (with_reducible exact ih0 _ _ _ _ _)
      | (with_reducible exact resample_At.mono _ _ _ _ _ _ _ _)
      | (with_reducible exact shapesearchkeep_Src_Ascending.mono _ _ _ _)
      | (with_reducible exact shapesearchlaw08_awake.mono _)
      | (with_reducible exact LeO.refl _)
      | (with_reducible exact LeO.none _)
      | (with_reducible refine LeO.ite ?_ ?_)
      | (with_reducible refine LeO.bind ?_ (fun _ => ?_))
      | exact ih0 _ _ _ _ _
      | exact resample_At.mono _ _ _ _ _ _ _ _
      | exact shapesearchkeep_Src_Ascending.mono _ _ _ _
      | exact shapesearchlaw08_awake.mono _
      | exact LeO.none _
      | refine LeO.ite ?_ ?_
      | refine LeO.bind ?_ (fun _ => ?_)
theorem shapesearchlaw08_ResampleReach.mono : ∀ a0 a1 a2 a3 a4 k, LeO (shapesearchlaw08_ResampleReach.f k a0 a1 a2 a3 a4) (shapesearchlaw08_ResampleReach.f (k + 1) a0 a1 a2 a3 a4) := by
  intro a0 a1 a2 a3 a4 k
  have ih0 := shapesearchlaw08_ResampleReach.mono_l k
  unfold shapesearchlaw08_ResampleReach.f
  repeat' first
      | (with_reducible exact ih0 _ _ _ _ _)
      | (with_reducible exact resample_At.mono _ _ _ _ _ _ _ _)
      | (with_reducible exact shapesearchkeep_Src_Ascending.mono _ _ _ _)
      | (with_reducible exact shapesearchlaw08_awake.mono _)
      | (with_reducible exact LeO.refl _)
      | (with_reducible exact LeO.none _)
      | (with_reducible refine LeO.ite ?_ ?_)
      | (with_reducible refine LeO.bind ?_ (fun _ => ?_))
      | exact ih0 _ _ _ _ _
      | exact resample_At.mono _ _ _ _ _ _ _ _
      | exact shapesearchkeep_Src_Ascending.mono _ _ _ _
      | exact shapesearchlaw08_awake.mono _
      | exact LeO.none _
      | refine LeO.ite ?_ ?_
      | refine LeO.bind ?_ (fun _ => ?_)
set_option maxHeartbeats 8000000 in
set_option maxRecDepth 100000 in
theorem shapesearchlaw08_ResampleReach.calls (k : Nat) (A0 : Option Addr) (c0 : Nat) (l0 : List Int) (a1 : Int) (a2 : Int) (a3 : Int) (a4 : Int) (r : Bool) (w : World) (hr0 : Kd.C (Kd.int .i64) w A0 l0.length l0) (hc0 : l0.length ≤ c0) (h : shapesearchlaw08_ResampleReach.f k l0 a1 a2 a3 a4 = some r) :
    Calls Try.prog 6 #[.slice A0 l0.length c0, .int .u8 a1, .int .u8 a2, .int .u8 a3, .int .u8 a4] w fun e w' => e = .returned (.bool r) ∧ Below w.heap.size w w' := by
  have HR0 := Aside0.mk hr0
  have HC0 := Aside0.mk hc0
  clear hr0 hc0
  have HB := Aside0.mk (Below.refl w.heap.size w)
  have H : ((shapesearchkeep_New.f l0).bind fun bt448 => ((shapesearchkeep_Src_Ascending.f k bt448.1 bt448.2 10).bind fun bt451 => (if (bt451.1.length : Int) > 0 then (if 0 < (bt451.1.length : Int) then (shapesearchlaw08_ResampleReach.j0 k a2 a3 bt451.1 (wrap64 ((wrap64 (a1)) + ((rd_T29 bt451.1 0).f0))) (wrap64 (1 + (Int.tmod (wrap64 (a4)) 3)))) else (none)) else (shapesearchlaw08_ResampleReach.j0 k a2 a3 bt451.1 (wrap64 (a1)) (wrap64 (1 + (Int.tmod (wrap64 (a4)) 3))))))) = some r := h
  clear h
  replace H := Option.bind_eq_some_iff.mp H
  obtain ⟨⟨t448, t449⟩, A60, H⟩ := H
  replace H : ((shapesearchkeep_Src_Ascending.f k t448 t449 10).bind fun bt451 => (if (bt451.1.length : Int) > 0 then (if 0 < (bt451.1.length : Int) then (shapesearchlaw08_ResampleReach.j0 k a2 a3 bt451.1 (wrap64 ((wrap64 (a1)) + ((rd_T29 bt451.1 0).f0))) (wrap64 (1 + (Int.tmod (wrap64 (a4)) 3)))) else (none)) else (shapesearchlaw08_ResampleReach.j0 k a2 a3 bt451.1 (wrap64 (a1)) (wrap64 (1 + (Int.tmod (wrap64 (a4)) 3)))))) = some r := H
  have A6 := Aside0.mk A60
  clear A60
  replace H := Option.bind_eq_some_iff.mp H
  obtain ⟨⟨t451, t454⟩, A70, H⟩ := H
  replace H : (if (t451.length : Int) > 0 then (if 0 < (t451.length : Int) then (shapesearchlaw08_ResampleReach.j0 k a2 a3 t451 (wrap64 ((wrap64 (a1)) + ((rd_T29 t451 0).f0))) (wrap64 (1 + (Int.tmod (wrap64 (a4)) 3)))) else (none)) else (shapesearchlaw08_ResampleReach.j0 k a2 a3 t451 (wrap64 (a1)) (wrap64 (1 + (Int.tmod (wrap64 (a4)) 3))))) = some r := H
  have A7 := Aside0.mk A70
  clear A70
  have HC8 := Aside0.mk H
  clear H
  go_enter Try.func6, Try.ntmps6
  go_upto_if 29 with (first | ((with_reducible refine gate_callee (f := 9) rfl ?_); refine goesL_ (some 19) rfl rfl Try.func9 (by kernel_rfl) rfl #[.slice A0 l0.length c0] rfl (by (try simp only [List.map_toArray, List.map_cons, List.map_nil]); first | done | rfl | (simp only [List.length_drop, List.length_take]; rfl)) ?_; (with_reducible refine (shapesearchkeep_New.calls _ _ l0 t448 t449 w _ ?side1 ?side2 ?side3 A6.out).mono ?_); (case side1 => repeat (first | (with_reducible first | exact HB.out | apply below_alloc | apply pw_below_drewN | apply below_drew1) | exact HB.out)); (case side2 => exact HR0.out); (case side3 => exact HC0.out); rintro e w9 ⟨g450, rfl, hi, hb, hb2⟩; refine ⟨_, rfl, ?_⟩; have n0_ := Aside0.mk (hb); have n1_ := Aside0.mk (hi); clear HB; have HB := n0_; have HI450 := n1_; clear n0_ n1_; (try clear hb); (try clear hb2); (try clear hk); (try clear hi)) | ((with_reducible refine gate_callee (f := 10) rfl ?_); refine goesL_ (some 20) rfl rfl Try.func10 (by kernel_rfl) rfl #[.pointer (some ⟨g450, 0, none⟩), .int .i64 10] rfl (by (try simp only [List.map_toArray, List.map_cons, List.map_nil]); first | done | rfl | (simp only [List.length_drop, List.length_take]; rfl)) ?_; (with_reducible refine (shapesearchkeep_Src_Ascending.calls k g450 t448 t449 10 t451 t454 w _ ?side1 ?side2 A7.out).mono ?_); (case side1 => repeat (first | (with_reducible first | exact HI450.out | apply IsS58.alloc | apply IsS58.drewN | apply IsS58.drew | apply IsS58.set_1) | exact HI450.out)); (case side2 => repeat (first | (with_reducible first | exact HB.out | apply below_alloc | apply pw_below_drewN | apply below_drew1 | refine below_set ?_ (IsS58.ge HI450.out)) | exact HB.out)); rintro e w10 ⟨v452, rfl, ho0, hi, hb, hk⟩; refine ⟨_, rfl, ?_⟩; have n0_ := Aside0.mk (Kd.R_lower ho0 (below_size (by repeat (first | (with_reducible first | exact HB.out | apply below_alloc | apply pw_below_drewN | apply below_drew1 | refine below_set ?_ (IsS58.ge HI450.out)) | exact HB.out)))); have n1_ := Aside0.mk (hb); have n2_ := Aside0.mk (hi); clear HB; clear HI450; have HO453 := n0_; have HB := n1_; have HI450 := n2_; clear n0_ n1_ n2_; (try clear hb); (try clear hb2); (try clear hk); (try clear hi); (try clear ho0); obtain ⟨Ao11, co11, eo11⟩ := Kd.R_slice HO453.out; subst eo11))
  (try simp only [Act.put, List.setIfInBounds_toArray, List.set_cons_zero, List.set_cons_succ])
  go_cut [12] (fun v12 wc => ∃ (kq : Nat) (x12_7 : Int), v12 = .int .i64 x12_7 ∧ Aside0 (shapesearchlaw08_ResampleReach.j0 kq a2 a3 t451 x12_7 (wrap64 (1 + (Int.tmod (wrap64 (a4)) 3))) = some r) ∧ Aside0 (kq ≤ k) ∧ Aside0 (Kd.R k29 29 wc w.heap.size (fun _ => True) (.slice Ao11 t451.length co11) t451) ∧ Aside0 (Below w.heap.size w wc))
  case first =>
    have H := HC8.out
    clear HC8
    by_cases c12 : (t451.length : Int) > 0
    · rw [if_pos c12] at H
      have c12b0 : decide (0 < (t451.length : Int)) = true := decide_eq_true c12
      have c12b1 : decide (0 < t451.length) = true := decide_eq_true (by omega)
      clear c12
      (first | rw [c12b0] | (simp only [i64_w, i32_w]; rw [c12b0]) | rw [c12b1] | skip)
      by_cases c13 : 0 < (t451.length : Int)
      · rw [if_pos c13] at H
        have c13b0 : decide (0 < (t451.length : Int)) = true := decide_eq_true c13
        have c13b1 : decide (0 < t451.length) = true := decide_eq_true (by omega)
        clear c13
        have H' := Aside0.mk H
        clear H
        have p455 : 0 ≤ (0 : Int) := (by omega)
        have q455 : 0 < (t451.length : Int) := of_decide_eq_true (by first | (with_reducible assumption) | assumption)
        obtain ⟨ad455, e455, hx455_0, hx455_1⟩ := at_T29 (Kd.R_reads' HO453.out).2.2 0 p455 q455
        cases e455
        have qi455 : (0 < t451.length) = True := eq_true (by omega)
        (try rw [show ((0 : Int)).toNat = 0 from rfl] at hx455_0)
        (try rw [show 0 * 2 = 0 from rfl] at hx455_0)
        (try rw [Addr.add_zero'] at hx455_0)
        (try rw [show ((0 : Int)).toNat = 0 from rfl] at hx455_1)
        (try rw [show 0 * 2 = 0 from rfl] at hx455_1)
        (try rw [Addr.add_zero'] at hx455_1)
        replace p455 := eq_true p455
        replace q455 := eq_true q455
        go_wp2
        go_meet
        case rel => exact ⟨_, (wrap64 ((wrap64 (a1)) + ((rd_T29 t451 0).f0))), (by first | rfl | (simp; done) | (simp [*]; done)), H', ⟨by first | omega | exact Nat.le_refl _⟩, ⟨by (with_reducible repeat (first | apply Kd.R_alloc | apply Kd.R_drewN | apply Kd.R_drew)); exact HO453.out⟩, ⟨by repeat (first | (with_reducible first | exact HB.out | apply below_alloc | apply pw_below_drewN | apply below_drew1 | refine below_set ?_ (IsS58.ge HI450.out)) | exact HB.out)⟩⟩
      · rw [if_neg c13] at H
        exact absurd H (by simp)
    · rw [if_neg c12] at H
      have c12b0 : decide (0 < (t451.length : Int)) = false := decide_eq_false c12
      have c12b1 : decide (0 < t451.length) = false := decide_eq_false (by omega)
      clear c12
      (first | rw [c12b0] | (simp only [i64_w, i32_w]; rw [c12b0]) | rw [c12b1] | skip)
      have H' := Aside0.mk H
      clear H
      go_wp2
      go_meet
      case rel => exact ⟨_, (wrap64 (a1)), (by first | rfl | (simp; done) | (simp [*]; done)), H', ⟨by first | omega | exact Nat.le_refl _⟩, ⟨by (with_reducible repeat (first | apply Kd.R_alloc | apply Kd.R_drewN | apply Kd.R_drew)); exact HO453.out⟩, ⟨by repeat (first | (with_reducible first | exact HB.out | apply below_alloc | apply pw_below_drewN | apply below_drew1 | refine below_set ?_ (IsS58.ge HI450.out)) | exact HB.out)⟩⟩
  case rest =>
    clear HC8
    try clear c1
    try clear p2
    try clear p4
    try clear q4
    try clear hx4
    try clear qi4
    try clear c6
    try clear p6
    try clear c9
    try clear c10
    try clear c12
    try clear c12b0
    try clear c12b1
    try clear c13
    try clear c13b0
    try clear c13b1
    try clear hx455_0
    try clear hx455_1
    try clear p455
    try clear q455
    obtain ⟨kq, x12_7, rfl, HA, HJ7, HO_11, HB⟩ := hcut
    cases kq with
    | zero => exact absurd HA.out (by simp [shapesearchlaw08_ResampleReach.j0])
    | succ kj7 =>
      have H := HA.out
      clear HA
      simp only [shapesearchlaw08_ResampleReach.j0] at H
      obtain ⟨ji14, hji14⟩ : ∃ j_ : Int, (mn x12_7 1099511627776) = j_ := ⟨_, rfl⟩
      replace H : ((shapesearchlaw08_grid.f (wrap64 (1 + (Int.tmod (wrap64 (a4)) 3))) (wrap64 (a2))).bind fun bt456 => ((resample_At.f kj7 t451 bt456.1 bt456.2.1 bt456.2.2.1 bt456.2.2.2.1 bt456.2.2.2.2 (ji14)).bind fun bt461 => ((shapesearchlaw08_grid.f (wrap64 (1 + (Int.tmod (wrap64 (a4)) 3))) (wrap64 ((wrap64 (a2)) + (wrap64 (a3))))).bind fun bt463 => ((resample_At.f kj7 t451 bt463.1 bt463.2.1 bt463.2.2.1 bt463.2.2.2.1 bt463.2.2.2.2 (ji14)).bind fun bt468 => (if bt461.2 = true then (if bt468.2 = true then (if bt461.1 = bt468.1 then ((shapesearchlaw08_awake.f kj7).bind fun t470 => (some t470)) else (none)) else (none)) else ((shapesearchlaw08_awake.f kj7).bind fun t471 => (some t471))))))) = some r := by first | (rw [hji14] at H; exact H) | (simp only [hji14] at H ⊢; exact H)
      have hji14_ : (if 1099511627776 < x12_7 then 1099511627776 else x12_7) = ji14 := hji14
      replace H := Option.bind_eq_some_iff.mp H
      obtain ⟨⟨t456, t457, t458, t459, t460⟩, A150, H⟩ := H
      replace H : ((resample_At.f kj7 t451 t456 t457 t458 t459 t460 (ji14)).bind fun bt461 => ((shapesearchlaw08_grid.f (wrap64 (1 + (Int.tmod (wrap64 (a4)) 3))) (wrap64 ((wrap64 (a2)) + (wrap64 (a3))))).bind fun bt463 => ((resample_At.f kj7 t451 bt463.1 bt463.2.1 bt463.2.2.1 bt463.2.2.2.1 bt463.2.2.2.2 (ji14)).bind fun bt468 => (if bt461.2 = true then (if bt468.2 = true then (if bt461.1 = bt468.1 then ((shapesearchlaw08_awake.f kj7).bind fun t470 => (some t470)) else (none)) else (none)) else ((shapesearchlaw08_awake.f kj7).bind fun t471 => (some t471)))))) = some r := H
      have A15 := Aside0.mk A150
      clear A150
      replace H := Option.bind_eq_some_iff.mp H
      obtain ⟨⟨t461, t462⟩, A160, H⟩ := H
      replace H : ((shapesearchlaw08_grid.f (wrap64 (1 + (Int.tmod (wrap64 (a4)) 3))) (wrap64 ((wrap64 (a2)) + (wrap64 (a3))))).bind fun bt463 => ((resample_At.f kj7 t451 bt463.1 bt463.2.1 bt463.2.2.1 bt463.2.2.2.1 bt463.2.2.2.2 (ji14)).bind fun bt468 => (if t462 = true then (if bt468.2 = true then (if t461 = bt468.1 then ((shapesearchlaw08_awake.f kj7).bind fun t470 => (some t470)) else (none)) else (none)) else ((shapesearchlaw08_awake.f kj7).bind fun t471 => (some t471))))) = some r := H
      have A16 := Aside0.mk A160
      clear A160
      replace H := Option.bind_eq_some_iff.mp H
      obtain ⟨⟨t463, t464, t465, t466, t467⟩, A170, H⟩ := H
      replace H : ((resample_At.f kj7 t451 t463 t464 t465 t466 t467 (ji14)).bind fun bt468 => (if t462 = true then (if bt468.2 = true then (if t461 = bt468.1 then ((shapesearchlaw08_awake.f kj7).bind fun t470 => (some t470)) else (none)) else (none)) else ((shapesearchlaw08_awake.f kj7).bind fun t471 => (some t471)))) = some r := H
      have A17 := Aside0.mk A170
      clear A170
      replace H := Option.bind_eq_some_iff.mp H
      obtain ⟨⟨t468, t469⟩, A180, H⟩ := H
      replace H : (if t462 = true then (if t469 = true then (if t461 = t468 then ((shapesearchlaw08_awake.f kj7).bind fun t470 => (some t470)) else (none)) else (none)) else ((shapesearchlaw08_awake.f kj7).bind fun t471 => (some t471))) = some r := H
      have A18 := Aside0.mk A180
      clear A180
      by_cases c19 : t462 = true
      · subst c19
        have H1 : (if t469 = true then (if t461 = t468 then ((shapesearchlaw08_awake.f kj7).bind fun t470 => (some t470)) else (none)) else (none)) = some r := by rw [if_pos rfl] at H; exact H
        clear H
        have H := H1
        clear H1
        by_cases c20 : t469 = true
        · subst c20
          have H1 : (if t461 = t468 then ((shapesearchlaw08_awake.f kj7).bind fun t470 => (some t470)) else (none)) = some r := by rw [if_pos rfl] at H; exact H
          clear H
          have H := H1
          clear H1
          by_cases c21 : t461 = t468
          · rw [if_pos c21] at H
            have c21b0 : (t461 == t468) = true := beq_iff_eq.mpr c21
            have c21b1 : (t461 != t468) = false := bne_eq_false_iff_eq.mpr c21
            clear c21
            replace H := Option.bind_eq_some_iff.mp H
            obtain ⟨t470, A220, H⟩ := H
            replace H : (some t470) = some r := H
            have A22 := Aside0.mk A220
            clear A220
            obtain rfl := Option.some.inj H
            go_wp2_with (first | ((with_reducible refine gate_callee (f := 25) rfl ?_); refine goesL_ (some 43) rfl rfl Try.func25 (by kernel_rfl) rfl #[.int .i64 (wrap64 (1 + (Int.tmod (wrap64 (a4)) 3))), .int .i64 (wrap64 (a2))] rfl (by (try simp only [List.map_toArray, List.map_cons, List.map_nil]); first | done | rfl | (simp only [List.length_drop, List.length_take]; rfl)) ?_; (with_reducible refine (shapesearchlaw08_grid.calls (wrap64 (1 + (Int.tmod (wrap64 (a4)) 3))) (wrap64 (a2)) t456 t457 t458 t459 t460 _ A15.out).mono ?_); rintro e w23 ⟨rfl, hb⟩; refine ⟨_, rfl, ?_⟩; have n0_ := Aside0.mk (Kd.R_below (by (with_reducible repeat (first | apply Kd.R_alloc | apply Kd.R_drewN | apply Kd.R_drew)); exact HO_11.out) hb); have n1_ := Aside0.mk (below_step (by repeat (first | (with_reducible first | exact HB.out | apply below_alloc | apply pw_below_drewN | apply below_drew1) | exact HB.out)) hb); clear HO_11; clear HB; have HO_11 := n0_; have HB := n1_; clear n0_ n1_; (try clear hb); (try clear hb2); (try clear hk); (try clear hi)) | ((with_reducible refine gate_callee (f := 23) rfl ?_); refine goesL_ (some 45) rfl rfl Try.func23 (by kernel_rfl) rfl #[.slice Ao11 t451.length co11, .agg #[.int .i64 t456, .int .i64 t457, .int .i64 t458, .int .i64 t459, .int .i64 t460], .int .i64 ji14] rfl (by (try simp only [List.map_toArray, List.map_cons, List.map_nil]); first | done | (simp only [hji14]; rfl) | rfl | (simp only [List.length_drop, List.length_take]; rfl)) ?_; (with_reducible refine (resample_At.calls kj7 _ _ t451 t456 t457 t458 t459 t460 ji14 t461 true _ ?side1 ?side2 A16.out).mono ?_); (case side1 => repeat (first | exact (Kd.R_reads' HO_11.out).2.2 | (with_reducible refine Kd.C_alloc ?_ _) | (with_reducible refine Kd.C_drewN ?_ _) | (with_reducible refine Kd.C_drew ?_))); (case side2 => exact (Kd.R_reads' HO_11.out).2.1); rintro e w24 ⟨rfl, hb⟩; refine ⟨_, rfl, ?_⟩; have n0_ := Aside0.mk (Kd.R_below (by (with_reducible repeat (first | apply Kd.R_alloc | apply Kd.R_drewN | apply Kd.R_drew)); exact HO_11.out) hb); have n1_ := Aside0.mk (below_step (by repeat (first | (with_reducible first | exact HB.out | apply below_alloc | apply pw_below_drewN | apply below_drew1) | exact HB.out)) hb); clear HO_11; clear HB; have HO_11 := n0_; have HB := n1_; clear n0_ n1_; (try clear hb); (try clear hb2); (try clear hk); (try clear hi)) | ((with_reducible refine gate_callee (f := 25) rfl ?_); refine goesL_ (some 56) rfl rfl Try.func25 (by kernel_rfl) rfl #[.int .i64 (wrap64 (1 + (Int.tmod (wrap64 (a4)) 3))), .int .i64 (wrap64 ((wrap64 (a2)) + (wrap64 (a3))))] rfl (by (try simp only [List.map_toArray, List.map_cons, List.map_nil]); first | done | rfl | (simp only [List.length_drop, List.length_take]; rfl)) ?_; (with_reducible refine (shapesearchlaw08_grid.calls (wrap64 (1 + (Int.tmod (wrap64 (a4)) 3))) (wrap64 ((wrap64 (a2)) + (wrap64 (a3)))) t463 t464 t465 t466 t467 _ A17.out).mono ?_); rintro e w25 ⟨rfl, hb⟩; refine ⟨_, rfl, ?_⟩; have n0_ := Aside0.mk (Kd.R_below (by (with_reducible repeat (first | apply Kd.R_alloc | apply Kd.R_drewN | apply Kd.R_drew)); exact HO_11.out) hb); have n1_ := Aside0.mk (below_step (by repeat (first | (with_reducible first | exact HB.out | apply below_alloc | apply pw_below_drewN | apply below_drew1) | exact HB.out)) hb); clear HO_11; clear HB; have HO_11 := n0_; have HB := n1_; clear n0_ n1_; (try clear hb); (try clear hb2); (try clear hk); (try clear hi)) | ((with_reducible refine gate_callee (f := 23) rfl ?_); refine goesL_ (some 58) rfl rfl Try.func23 (by kernel_rfl) rfl #[.slice Ao11 t451.length co11, .agg #[.int .i64 t463, .int .i64 t464, .int .i64 t465, .int .i64 t466, .int .i64 t467], .int .i64 ji14] rfl (by (try simp only [List.map_toArray, List.map_cons, List.map_nil]); first | done | (simp only [hji14]; rfl) | rfl | (simp only [List.length_drop, List.length_take]; rfl)) ?_; (with_reducible refine (resample_At.calls kj7 _ _ t451 t463 t464 t465 t466 t467 ji14 t468 true _ ?side1 ?side2 A18.out).mono ?_); (case side1 => repeat (first | exact (Kd.R_reads' HO_11.out).2.2 | (with_reducible refine Kd.C_alloc ?_ _) | (with_reducible refine Kd.C_drewN ?_ _) | (with_reducible refine Kd.C_drew ?_))); (case side2 => exact (Kd.R_reads' HO_11.out).2.1); rintro e w26 ⟨rfl, hb⟩; refine ⟨_, rfl, ?_⟩; have n0_ := Aside0.mk (Kd.R_below (by (with_reducible repeat (first | apply Kd.R_alloc | apply Kd.R_drewN | apply Kd.R_drew)); exact HO_11.out) hb); have n1_ := Aside0.mk (below_step (by repeat (first | (with_reducible first | exact HB.out | apply below_alloc | apply pw_below_drewN | apply below_drew1) | exact HB.out)) hb); clear HO_11; clear HB; have HO_11 := n0_; have HB := n1_; clear n0_ n1_; (try clear hb); (try clear hb2); (try clear hk); (try clear hi)) | (go_at_call 11; (with_reducible refine (shapesearchlaw08_awake.calls kj7  t470 _ A22.out).mono ?_); rintro e w27 ⟨rfl, hb⟩; have n0_ := Aside0.mk (Kd.R_below (by (with_reducible repeat (first | apply Kd.R_alloc | apply Kd.R_drewN | apply Kd.R_drew)); exact HO_11.out) hb); have n1_ := Aside0.mk (below_step (by repeat (first | (with_reducible first | exact HB.out | apply below_alloc | apply pw_below_drewN | apply below_drew1) | exact HB.out)) hb); clear HO_11; clear HB; have HO_11 := n0_; have HB := n1_; clear n0_ n1_; (try clear hb); (try clear hb2); (try clear hk); (try clear hi)))
            go_ret
            exact ⟨by first | rfl | (simp [errW_none, errW_some] <;> rfl) | (simp only [← hji14]; first | rfl | (simp [errW_none, errW_some] <;> rfl)) | (simp [*, errW_none, errW_some] <;> rfl), by repeat (first | (with_reducible first | exact HB.out | apply below_alloc | apply pw_below_drewN | apply below_drew1) | exact HB.out)⟩
          · rw [if_neg c21] at H
            exact absurd H (by simp)
        · replace c20 := Bool.eq_false_iff.mpr c20
          subst c20
          have H1 : (none) = some r := by rw [if_neg (show ¬ (false = true) by decide)] at H; exact H
          clear H
          have H := H1
          clear H1
          exact absurd H (by simp)
      · replace c19 := Bool.eq_false_iff.mpr c19
        subst c19
        have H1 : ((shapesearchlaw08_awake.f kj7).bind fun t471 => (some t471)) = some r := by rw [if_neg (show ¬ (false = true) by decide)] at H; exact H
        clear H
        have H := H1
        clear H1
        replace H := Option.bind_eq_some_iff.mp H
        obtain ⟨t471, A280, H⟩ := H
        replace H : (some t471) = some r := H
        have A28 := Aside0.mk A280
        clear A280
        obtain rfl := Option.some.inj H
        go_wp2_with (first | ((with_reducible refine gate_callee (f := 25) rfl ?_); refine goesL_ (some 43) rfl rfl Try.func25 (by kernel_rfl) rfl #[.int .i64 (wrap64 (1 + (Int.tmod (wrap64 (a4)) 3))), .int .i64 (wrap64 (a2))] rfl (by (try simp only [List.map_toArray, List.map_cons, List.map_nil]); first | done | rfl | (simp only [List.length_drop, List.length_take]; rfl)) ?_; (with_reducible refine (shapesearchlaw08_grid.calls (wrap64 (1 + (Int.tmod (wrap64 (a4)) 3))) (wrap64 (a2)) t456 t457 t458 t459 t460 _ A15.out).mono ?_); rintro e w29 ⟨rfl, hb⟩; refine ⟨_, rfl, ?_⟩; have n0_ := Aside0.mk (Kd.R_below (by (with_reducible repeat (first | apply Kd.R_alloc | apply Kd.R_drewN | apply Kd.R_drew)); exact HO_11.out) hb); have n1_ := Aside0.mk (below_step (by repeat (first | (with_reducible first | exact HB.out | apply below_alloc | apply pw_below_drewN | apply below_drew1) | exact HB.out)) hb); clear HO_11; clear HB; have HO_11 := n0_; have HB := n1_; clear n0_ n1_; (try clear hb); (try clear hb2); (try clear hk); (try clear hi)) | ((with_reducible refine gate_callee (f := 23) rfl ?_); refine goesL_ (some 45) rfl rfl Try.func23 (by kernel_rfl) rfl #[.slice Ao11 t451.length co11, .agg #[.int .i64 t456, .int .i64 t457, .int .i64 t458, .int .i64 t459, .int .i64 t460], .int .i64 ji14] rfl (by (try simp only [List.map_toArray, List.map_cons, List.map_nil]); first | done | (simp only [hji14]; rfl) | rfl | (simp only [List.length_drop, List.length_take]; rfl)) ?_; (with_reducible refine (resample_At.calls kj7 _ _ t451 t456 t457 t458 t459 t460 ji14 t461 false _ ?side1 ?side2 A16.out).mono ?_); (case side1 => repeat (first | exact (Kd.R_reads' HO_11.out).2.2 | (with_reducible refine Kd.C_alloc ?_ _) | (with_reducible refine Kd.C_drewN ?_ _) | (with_reducible refine Kd.C_drew ?_))); (case side2 => exact (Kd.R_reads' HO_11.out).2.1); rintro e w30 ⟨rfl, hb⟩; refine ⟨_, rfl, ?_⟩; have n0_ := Aside0.mk (Kd.R_below (by (with_reducible repeat (first | apply Kd.R_alloc | apply Kd.R_drewN | apply Kd.R_drew)); exact HO_11.out) hb); have n1_ := Aside0.mk (below_step (by repeat (first | (with_reducible first | exact HB.out | apply below_alloc | apply pw_below_drewN | apply below_drew1) | exact HB.out)) hb); clear HO_11; clear HB; have HO_11 := n0_; have HB := n1_; clear n0_ n1_; (try clear hb); (try clear hb2); (try clear hk); (try clear hi)) | ((with_reducible refine gate_callee (f := 25) rfl ?_); refine goesL_ (some 56) rfl rfl Try.func25 (by kernel_rfl) rfl #[.int .i64 (wrap64 (1 + (Int.tmod (wrap64 (a4)) 3))), .int .i64 (wrap64 ((wrap64 (a2)) + (wrap64 (a3))))] rfl (by (try simp only [List.map_toArray, List.map_cons, List.map_nil]); first | done | rfl | (simp only [List.length_drop, List.length_take]; rfl)) ?_; (with_reducible refine (shapesearchlaw08_grid.calls (wrap64 (1 + (Int.tmod (wrap64 (a4)) 3))) (wrap64 ((wrap64 (a2)) + (wrap64 (a3)))) t463 t464 t465 t466 t467 _ A17.out).mono ?_); rintro e w31 ⟨rfl, hb⟩; refine ⟨_, rfl, ?_⟩; have n0_ := Aside0.mk (Kd.R_below (by (with_reducible repeat (first | apply Kd.R_alloc | apply Kd.R_drewN | apply Kd.R_drew)); exact HO_11.out) hb); have n1_ := Aside0.mk (below_step (by repeat (first | (with_reducible first | exact HB.out | apply below_alloc | apply pw_below_drewN | apply below_drew1) | exact HB.out)) hb); clear HO_11; clear HB; have HO_11 := n0_; have HB := n1_; clear n0_ n1_; (try clear hb); (try clear hb2); (try clear hk); (try clear hi)) | ((with_reducible refine gate_callee (f := 23) rfl ?_); refine goesL_ (some 58) rfl rfl Try.func23 (by kernel_rfl) rfl #[.slice Ao11 t451.length co11, .agg #[.int .i64 t463, .int .i64 t464, .int .i64 t465, .int .i64 t466, .int .i64 t467], .int .i64 ji14] rfl (by (try simp only [List.map_toArray, List.map_cons, List.map_nil]); first | done | (simp only [hji14]; rfl) | rfl | (simp only [List.length_drop, List.length_take]; rfl)) ?_; (with_reducible refine (resample_At.calls kj7 _ _ t451 t463 t464 t465 t466 t467 ji14 t468 t469 _ ?side1 ?side2 A18.out).mono ?_); (case side1 => repeat (first | exact (Kd.R_reads' HO_11.out).2.2 | (with_reducible refine Kd.C_alloc ?_ _) | (with_reducible refine Kd.C_drewN ?_ _) | (with_reducible refine Kd.C_drew ?_))); (case side2 => exact (Kd.R_reads' HO_11.out).2.1); rintro e w32 ⟨rfl, hb⟩; refine ⟨_, rfl, ?_⟩; have n0_ := Aside0.mk (Kd.R_below (by (with_reducible repeat (first | apply Kd.R_alloc | apply Kd.R_drewN | apply Kd.R_drew)); exact HO_11.out) hb); have n1_ := Aside0.mk (below_step (by repeat (first | (with_reducible first | exact HB.out | apply below_alloc | apply pw_below_drewN | apply below_drew1) | exact HB.out)) hb); clear HO_11; clear HB; have HO_11 := n0_; have HB := n1_; clear n0_ n1_; (try clear hb); (try clear hb2); (try clear hk); (try clear hi)) | (go_at_call 11; (with_reducible refine (shapesearchlaw08_awake.calls kj7  t471 _ A28.out).mono ?_); rintro e w33 ⟨rfl, hb⟩; have n0_ := Aside0.mk (Kd.R_below (by (with_reducible repeat (first | apply Kd.R_alloc | apply Kd.R_drewN | apply Kd.R_drew)); exact HO_11.out) hb); have n1_ := Aside0.mk (below_step (by repeat (first | (with_reducible first | exact HB.out | apply below_alloc | apply pw_below_drewN | apply below_drew1) | exact HB.out)) hb); clear HO_11; clear HB; have HO_11 := n0_; have HB := n1_; clear n0_ n1_; (try clear hb); (try clear hb2); (try clear hk); (try clear hi)))
        go_ret
        exact ⟨by first | rfl | (simp [errW_none, errW_some] <;> rfl) | (simp only [← hji14]; first | rfl | (simp [errW_none, errW_some] <;> rfl)) | (simp [*, errW_none, errW_some] <;> rfl), by repeat (first | (with_reducible first | exact HB.out | apply below_alloc | apply pw_below_drewN | apply below_drew1) | exact HB.out)⟩

/-- THE ONE PURE STATEMENT of shapesearchlaw08_ResampleReach: yours. -/
def shapesearchlaw08_ResampleReach.Pure : Prop := ∀ (l0 : List Int) (a1 : Int) (a2 : Int) (a3 : Int) (a4 : Int), l0.length ≤ maxLen → l0.length * 8 ≤ 140737488351232 → (∀ x ∈ l0, (Lit.int .i64 x).wf = true) → (Lit.int .u8 a1).wf = true → (Lit.int .u8 a2).wf = true → (Lit.int .u8 a3).wf = true → (Lit.int .u8 a4).wf = true → ∃ k, shapesearchlaw08_ResampleReach.f k l0 a1 a2 a3 a4 = some true
theorem shapesearchlaw08_ResampleReach.walk (P : shapesearchlaw08_ResampleReach.Pure) (a0 : Option Addr) (len0 cap0 : Nat) (z0 : List Int) (a1 : Int) (a2 : Int) (a3 : Int) (a4 : Int) (w : World) (w0 : (a0 = none ∧ len0 = 0 ∧ cap0 = 0 ∧ z0 = []) ∨ ∃ x, a0 = some x ∧ len0 ≤ cap0 ∧ cap0 ≤ maxLen ∧ z0.length = cap0 ∧ (∀ i, i < z0.length → w.cell? (x.add i) = some (.int .i64 (z0.getD i 0))) ∧ ∀ n ∈ z0, (Lit.int .i64 n).wf = true) (y0 : len0 * 8 ≤ 140737488351232) (w1 : (Lit.int .u8 a1).wf = true) (w2 : (Lit.int .u8 a2).wf = true) (w3 : (Lit.int .u8 a3).wf = true) (w4 : (Lit.int .u8 a4).wf = true) :
    Calls Try.prog 6 #[.slice a0 len0 cap0, .int .u8 a1, .int .u8 a2, .int .u8 a3, .int .u8 a4] w fun e w' => e = .returned (.bool true) ∧ Below w.heap.size w w' := by
  obtain ⟨l0, rfl, hr0, hm0, hw0, hc0⟩ := ReadsInt.ofRowC w0
  obtain ⟨k, h⟩ := P l0 a1 a2 a3 a4 hm0 y0 hw0 w1 w2 w3 w4
  refine (shapesearchlaw08_ResampleReach.calls k _ _ l0 a1 a2 a3 a4 true w (Kd.C_of_reads (d := (0 : Int)) (h1 := fun _ => rfl) hr0) hc0 h).mono ?_
  rintro e w' ⟨rfl, hd⟩
  exact ⟨rfl, hd⟩

end Go.Proofs.Ytknkiogjibpooab.Hp
