-- Written by wip/tools/hprint.py of this session, over the kit's print with hand-made contracts; Lean checks it.
import Derived.Test.YtknkiogjibpooabHx0
import Derived.Test.YtknkiogjibpooabHx1
import Derived.Test.YtknkiogjibpooabHx2
import Derived.Test.YtknkiogjibpooabHx10
import Derived.Test.YtknkiogjibpooabHx17
namespace Go.Proofs.Ytknkiogjibpooab.Hp
open Go.RowKit Go.Proofs.YtknkiogjibpooabW.PrintWords Go.Proofs.YtknkiogjibpooabW.PrintLast Go.Proofs.YtknkiogjibpooabW.PrintMore
attribute [local go_sem] max2_int min2_int max_two min_two max_three min_three max_four min_four   -- for this text's walks alone
attribute [local go_sem] i64_w
set_option linter.unusedVariables false
set_option linter.unusedSimpArgs false

/-! ### shapesearchlaw08_ResampleRules: function 5 -/
mutual
def shapesearchlaw08_ResampleRules.l0 : Nat → Int → List (S29) → Int → Bool → Bool → Int → Int → Option (Bool)
  | 0, _, _, _, _, _, _, _ => none
  | k + 1, x2, x7, x10, x11, x12, x49, x50 => if x50 < x49 then (if 0 ≤ x50 then (if x50 < (x7.length : Int) then (if x11 = true then (shapesearchlaw08_ResampleRules.j1 k x2 x7 x10 true x12 x50 (wrap64 (x10 - ((rd_T29 x7 x50).f0))) x49 x50) else (if (wrap64 (x10 - ((rd_T29 x7 x50).f0))) ≥ 0 then (shapesearchlaw08_ResampleRules.j1 k x2 x7 x10 (decide ((wrap64 (x10 - ((rd_T29 x7 x50).f0))) ≤ (wrap64 (x2)))) x12 x50 (wrap64 (x10 - ((rd_T29 x7 x50).f0))) x49 x50) else (shapesearchlaw08_ResampleRules.j1 k x2 x7 x10 false x12 x50 (wrap64 (x10 - ((rd_T29 x7 x50).f0))) x49 x50))) else (none)) else (none)) else ((shapesearchlaw08_grid.f 1 (wrap64 (x2))).bind fun bt425 => ((resample_At.f k x7 bt425.1 bt425.2.1 bt425.2.2.1 bt425.2.2.2.1 bt425.2.2.2.2 x10).bind fun bt430 => ((shapesearchlaw08_grid.f 2 (wrap64 (x2))).bind fun bt432 => ((resample_At.f k x7 bt432.1 bt432.2.1 bt432.2.2.1 bt432.2.2.2.1 bt432.2.2.2.2 x10).bind fun bt437 => ((shapesearchlaw08_grid.f 3 (wrap64 (x2))).bind fun bt439 => ((resample_At.f k x7 bt439.1 bt439.2.1 bt439.2.2.1 bt439.2.2.2.1 bt439.2.2.2.2 x10).bind fun bt444 => (if (bt430.2 == x11) = true then (if (bt437.2 == x12) = true then (if bt444.2 = true then (if bt430.2 = true then (if bt437.2 = true then ((shapesearchlaw08_awake.f k).bind fun t446 => (some t446)) else (none)) else (none)) else ((shapesearchlaw08_awake.f k).bind fun t447 => (some t447))) else (none)) else (none))))))))
def shapesearchlaw08_ResampleRules.j1 : Nat → Int → List (S29) → Int → Bool → Bool → Int → Int → Int → Int → Option (Bool)
  | 0, _, _, _, _, _, _, _, _, _ => none
  | k + 1, x2, x7, x10, x11, x12, x13, x14, x49, x50 => if x12 = true then (shapesearchlaw08_ResampleRules.j2 k x2 x7 x10 x11 true x13 x49 x50) else (shapesearchlaw08_ResampleRules.j2 k x2 x7 x10 x11 (decide ((mx x14 (wrap64 (-x14))) ≤ (wrap64 (x2)))) x13 x49 x50)
def shapesearchlaw08_ResampleRules.j2 : Nat → Int → List (S29) → Int → Bool → Bool → Int → Int → Int → Option (Bool)
  | 0, _, _, _, _, _, _, _, _ => none
  | k + 1, x2, x7, x10, x11, x12, x13, x49, x50 => shapesearchlaw08_ResampleRules.l1 k x2 x7 x10 x11 x12 x13 1 x49 x50
def shapesearchlaw08_ResampleRules.l1 : Nat → Int → List (S29) → Int → Bool → Bool → Int → Int → Int → Int → Option (Bool)
  | 0, _, _, _, _, _, _, _, _, _ => none
  | k + 1, x2, x7, x10, x11, x12, x13, x15, x49, x50 => if x15 ≤ 3 then ((shapesearchlaw08_grid.f x15 0).bind fun bt416 => (if 0 ≤ x13 then (if x13 < (x7.length : Int) then ((resample_At.f k x7 bt416.1 bt416.2.1 bt416.2.2.1 bt416.2.2.2.1 bt416.2.2.2.2 ((rd_T29 x7 x13).f0)).bind fun bt422 => (if bt422.2 = true then (if bt422.1 = ((rd_T29 x7 x13).f1) then (shapesearchlaw08_ResampleRules.l1 k x2 x7 x10 x11 x12 x13 (wrap64 (x15 + 1)) x49 x50) else (none)) else (none))) else (none)) else (none))) else (shapesearchlaw08_ResampleRules.l0 k x2 x7 x10 x11 x12 x49 (wrap64 (x50 + 1)))
end
def shapesearchlaw08_ResampleRules.f (k : Nat) (l0 : List Int) (a1 : Int) (a2 : Int) : Option (Bool) := (shapesearchkeep_New.f l0).bind fun bt399 => ((shapesearchkeep_Src_Ascending.f k bt399.1 bt399.2 10).bind fun bt402 => (if (bt402.1.length : Int) = 0 then ((shapesearchlaw08_grid.f 1 5).bind fun bt406 => ((resample_At.f k bt402.1 bt406.1 bt406.2.1 bt406.2.2.1 bt406.2.2.2.1 bt406.2.2.2.2 3).bind fun bt411 => (if bt411.2 = true then (none) else ((shapesearchlaw08_awake.f k).bind fun t413 => (some t413))))) else (if 0 < (bt402.1.length : Int) then (shapesearchlaw08_ResampleRules.l0 k a2 bt402.1 (wrap64 (((rd_T29 bt402.1 0).f0) + (wrap64 (a1)))) false false (bt402.1.length : Int) 0) else (none))))
theorem shapesearchlaw08_ResampleRules.mono_l : ∀ k, (∀ y0 y1 y2 y3 y4 y5 y6, LeO (shapesearchlaw08_ResampleRules.l0 k y0 y1 y2 y3 y4 y5 y6) (shapesearchlaw08_ResampleRules.l0 (k + 1) y0 y1 y2 y3 y4 y5 y6)) ∧ (∀ y0 y1 y2 y3 y4 y5 y6 y7 y8, LeO (shapesearchlaw08_ResampleRules.j1 k y0 y1 y2 y3 y4 y5 y6 y7 y8) (shapesearchlaw08_ResampleRules.j1 (k + 1) y0 y1 y2 y3 y4 y5 y6 y7 y8)) ∧ (∀ y0 y1 y2 y3 y4 y5 y6 y7, LeO (shapesearchlaw08_ResampleRules.j2 k y0 y1 y2 y3 y4 y5 y6 y7) (shapesearchlaw08_ResampleRules.j2 (k + 1) y0 y1 y2 y3 y4 y5 y6 y7)) ∧ (∀ y0 y1 y2 y3 y4 y5 y6 y7 y8, LeO (shapesearchlaw08_ResampleRules.l1 k y0 y1 y2 y3 y4 y5 y6 y7 y8) (shapesearchlaw08_ResampleRules.l1 (k + 1) y0 y1 y2 y3 y4 y5 y6 y7 y8))
  | 0 => ⟨fun _ _ _ _ _ _ _ r h => by simp [shapesearchlaw08_ResampleRules.l0] at h, fun _ _ _ _ _ _ _ _ _ r h => by simp [shapesearchlaw08_ResampleRules.j1] at h, fun _ _ _ _ _ _ _ _ r h => by simp [shapesearchlaw08_ResampleRules.j2] at h, fun _ _ _ _ _ _ _ _ _ r h => by simp [shapesearchlaw08_ResampleRules.l1] at h⟩
  | k + 1 => by
    obtain ⟨ih0, ih1, ih2, ih3⟩ := shapesearchlaw08_ResampleRules.mono_l k
    refine ⟨?_, ?_, ?_, ?_⟩
    · intro y0 y1 y2 y3 y4 y5 y6
      unfold shapesearchlaw08_ResampleRules.l0
      repeat' first
      | (with_reducible exact ih0 _ _ _ _ _ _ _)
      | (with_reducible exact ih1 _ _ _ _ _ _ _ _ _)
      | (with_reducible exact ih2 _ _ _ _ _ _ _ _)
      | (with_reducible exact ih3 _ _ _ _ _ _ _ _ _)
      | (with_reducible exact resample_At.mono _ _ _ _ _ _ _ _)
      | (with_reducible exact shapesearchkeep_Src_Ascending.mono _ _ _ _)
      | (with_reducible exact shapesearchlaw08_awake.mono _)
      | (with_reducible exact LeO.refl _)
      | (with_reducible exact LeO.none _)
      | (with_reducible refine LeO.ite ?_ ?_)
      | (with_reducible refine LeO.bind ?_ (fun _ => ?_))
      | exact ih0 _ _ _ _ _ _ _
      | exact ih1 _ _ _ _ _ _ _ _ _
      | exact ih2 _ _ _ _ _ _ _ _
      | exact ih3 _ _ _ _ _ _ _ _ _
      | exact resample_At.mono _ _ _ _ _ _ _ _
      | exact shapesearchkeep_Src_Ascending.mono _ _ _ _
      | exact shapesearchlaw08_awake.mono _
      | exact LeO.none _
      | refine LeO.ite ?_ ?_
      | refine LeO.bind ?_ (fun _ => ?_)
    · intro y0 y1 y2 y3 y4 y5 y6 y7 y8
      unfold shapesearchlaw08_ResampleRules.j1
      repeat' first
      | (with_reducible exact ih0 _ _ _ _ _ _ _)
      | (with_reducible exact ih1 _ _ _ _ _ _ _ _ _)
      | (with_reducible exact ih2 _ _ _ _ _ _ _ _)
      | (with_reducible exact ih3 _ _ _ _ _ _ _ _ _)
      | (with_reducible exact resample_At.mono _ _ _ _ _ _ _ _)
      | (with_reducible exact shapesearchkeep_Src_Ascending.mono _ _ _ _)
      | (with_reducible exact shapesearchlaw08_awake.mono _)
      | (with_reducible exact LeO.refl _)
      | (with_reducible exact LeO.none _)
      | (with_reducible refine LeO.ite ?_ ?_)
      | (with_reducible refine LeO.bind ?_ (fun _ => ?_))
      | exact ih0 _ _ _ _ _ _ _
      | exact ih1 _ _ _ _ _ _ _ _ _
      | exact ih2 _ _ _ _ _ _ _ _
      | exact ih3 _ _ _ _ _ _ _ _ _
      | exact resample_At.mono _ _ _ _ _ _ _ _
      | exact shapesearchkeep_Src_Ascending.mono _ _ _ _
      | exact shapesearchlaw08_awake.mono _
      | exact LeO.none _
      | refine LeO.ite ?_ ?_
      | refine LeO.bind ?_ (fun _ => ?_)
    · intro y0 y1 y2 y3 y4 y5 y6 y7
      unfold shapesearchlaw08_ResampleRules.j2
      repeat' first
      | (with_reducible exact ih0 _ _ _ _ _ _ _)
      | (with_reducible exact ih1 _ _ _ _ _ _ _ _ _)
      | (with_reducible exact ih2 _ _ _ _ _ _ _ _)
      | (with_reducible exact ih3 _ _ _ _ _ _ _ _ _)
      | (with_reducible exact resample_At.mono _ _ _ _ _ _ _ _)
      | (with_reducible exact shapesearchkeep_Src_Ascending.mono _ _ _ _)
      | (with_reducible exact shapesearchlaw08_awake.mono _)
      | (with_reducible exact LeO.refl _)
      | (with_reducible exact LeO.none _)
      | (with_reducible refine LeO.ite ?_ ?_)
      | (with_reducible refine LeO.bind ?_ (fun _ => ?_))
      | exact ih0 _ _ _ _ _ _ _
      | exact ih1 _ _ _ _ _ _ _ _ _
      | exact ih2 _ _ _ _ _ _ _ _
      | exact ih3 _ _ _ _ _ _ _ _ _
      | exact resample_At.mono _ _ _ _ _ _ _ _
      | exact shapesearchkeep_Src_Ascending.mono _ _ _ _
      | exact shapesearchlaw08_awake.mono _
      | exact LeO.none _
      | refine LeO.ite ?_ ?_
      | refine LeO.bind ?_ (fun _ => ?_)
    · intro y0 y1 y2 y3 y4 y5 y6 y7 y8
      unfold shapesearchlaw08_ResampleRules.l1
      repeat' first
      | (with_reducible exact ih0 _ _ _ _ _ _ _)
      | (with_reducible exact ih1 _ _ _ _ _ _ _ _ _)
      | (with_reducible exact ih2 _ _ _ _ _ _ _ _)
      | (with_reducible exact ih3 _ _ _ _ _ _ _ _ _)
      | (with_reducible exact resample_At.mono _ _ _ _ _ _ _ _)
      | (with_reducible exact shapesearchkeep_Src_Ascending.mono _ _ _ _)
      | (with_reducible exact shapesearchlaw08_awake.mono _)
      | (with_reducible exact LeO.refl _)
      | (with_reducible exact LeO.none _)
      | (with_reducible refine LeO.ite ?_ ?_)
      | (with_reducible refine LeO.bind ?_ (fun _ => ?_))
      | exact ih0 _ _ _ _ _ _ _
      | exact ih1 _ _ _ _ _ _ _ _ _
      | exact ih2 _ _ _ _ _ _ _ _
      | exact ih3 _ _ _ _ _ _ _ _ _
      | exact resample_At.mono _ _ _ _ _ _ _ _
      | exact shapesearchkeep_Src_Ascending.mono _ _ _ _
      | exact shapesearchlaw08_awake.mono _
      | exact LeO.none _
      | refine LeO.ite ?_ ?_
      | refine LeO.bind ?_ (fun _ => ?_)
theorem shapesearchlaw08_ResampleRules.mono : ∀ a0 a1 a2 k, LeO (shapesearchlaw08_ResampleRules.f k a0 a1 a2) (shapesearchlaw08_ResampleRules.f (k + 1) a0 a1 a2) := by
  intro a0 a1 a2 k
  obtain ⟨ih0, ih1, ih2, ih3⟩ := shapesearchlaw08_ResampleRules.mono_l k
  unfold shapesearchlaw08_ResampleRules.f
  repeat' first
      | (with_reducible exact ih0 _ _ _ _ _ _ _)
      | (with_reducible exact ih1 _ _ _ _ _ _ _ _ _)
      | (with_reducible exact ih2 _ _ _ _ _ _ _ _)
      | (with_reducible exact ih3 _ _ _ _ _ _ _ _ _)
      | (with_reducible exact resample_At.mono _ _ _ _ _ _ _ _)
      | (with_reducible exact shapesearchkeep_Src_Ascending.mono _ _ _ _)
      | (with_reducible exact shapesearchlaw08_awake.mono _)
      | (with_reducible exact LeO.refl _)
      | (with_reducible exact LeO.none _)
      | (with_reducible refine LeO.ite ?_ ?_)
      | (with_reducible refine LeO.bind ?_ (fun _ => ?_))
      | exact ih0 _ _ _ _ _ _ _
      | exact ih1 _ _ _ _ _ _ _ _ _
      | exact ih2 _ _ _ _ _ _ _ _
      | exact ih3 _ _ _ _ _ _ _ _ _
      | exact resample_At.mono _ _ _ _ _ _ _ _
      | exact shapesearchkeep_Src_Ascending.mono _ _ _ _
      | exact shapesearchlaw08_awake.mono _
      | exact LeO.none _
      | refine LeO.ite ?_ ?_
      | refine LeO.bind ?_ (fun _ => ?_)
def shapesearchlaw08_ResampleRules.T16 : Bool × List (List Nat × List Nat) := (true, [([], []), ([], []), ([1], [1]), ([], []), ([], []), ([3, 4], [3, 4]), ([5], [5]), ([6], [6]), ([0, 2, 7, 2], [0, 2, 7]), ([8], [8]), ([9], [9]), ([9], [9]), ([10, 8, 0, 1, 2, 3, 4, 5, 6, 7, 8, 9, 10], [10]), ([11, 12, 0, 1, 2, 3, 4, 5, 6, 7, 8, 9, 10, 11, 12], [11])])
def shapesearchlaw08_ResampleRules.B16 : List Nat := [0, 0, 2, 0, 0, 24, 56, 120, 255, 511, 1023, 1023, 2047, 8191]
theorem shapesearchlaw08_ResampleRules.tab16 : rtab .any (opsOf Try.f5 16) = shapesearchlaw08_ResampleRules.T16 := by kernel_rfl
theorem shapesearchlaw08_ResampleRules.bits16 : waitsOk shapesearchlaw08_ResampleRules.T16.2 shapesearchlaw08_ResampleRules.B16 = true := by kernel_rfl
set_option maxHeartbeats 8000000 in
set_option maxRecDepth 100000 in
theorem shapesearchlaw08_ResampleRules.calls (k : Nat) (A0 : Option Addr) (c0 : Nat) (l0 : List Int) (a1 : Int) (a2 : Int) (r : Bool) (w : World) (hr0 : Kd.C (Kd.int .i64) w A0 l0.length l0) (hc0 : l0.length ≤ c0) (h : shapesearchlaw08_ResampleRules.f k l0 a1 a2 = some r) :
    Calls Try.prog 5 #[.slice A0 l0.length c0, .int .u8 a1, .int .u8 a2] w fun e w' => e = .returned (.bool r) ∧ Below w.heap.size w w' := by
  have HR0 := Aside0.mk hr0
  have HC0 := Aside0.mk hc0
  clear hr0 hc0
  have HB := Aside0.mk (Below.refl w.heap.size w)
  have H : ((shapesearchkeep_New.f l0).bind fun bt399 => ((shapesearchkeep_Src_Ascending.f k bt399.1 bt399.2 10).bind fun bt402 => (if (bt402.1.length : Int) = 0 then ((shapesearchlaw08_grid.f 1 5).bind fun bt406 => ((resample_At.f k bt402.1 bt406.1 bt406.2.1 bt406.2.2.1 bt406.2.2.2.1 bt406.2.2.2.2 3).bind fun bt411 => (if bt411.2 = true then (none) else ((shapesearchlaw08_awake.f k).bind fun t413 => (some t413))))) else (if 0 < (bt402.1.length : Int) then (shapesearchlaw08_ResampleRules.l0 k a2 bt402.1 (wrap64 (((rd_T29 bt402.1 0).f0) + (wrap64 (a1)))) false false (bt402.1.length : Int) 0) else (none))))) = some r := h
  clear h
  replace H := Option.bind_eq_some_iff.mp H
  obtain ⟨⟨t399, t400⟩, A40, H⟩ := H
  replace H : ((shapesearchkeep_Src_Ascending.f k t399 t400 10).bind fun bt402 => (if (bt402.1.length : Int) = 0 then ((shapesearchlaw08_grid.f 1 5).bind fun bt406 => ((resample_At.f k bt402.1 bt406.1 bt406.2.1 bt406.2.2.1 bt406.2.2.2.1 bt406.2.2.2.2 3).bind fun bt411 => (if bt411.2 = true then (none) else ((shapesearchlaw08_awake.f k).bind fun t413 => (some t413))))) else (if 0 < (bt402.1.length : Int) then (shapesearchlaw08_ResampleRules.l0 k a2 bt402.1 (wrap64 (((rd_T29 bt402.1 0).f0) + (wrap64 (a1)))) false false (bt402.1.length : Int) 0) else (none)))) = some r := H
  have A4 := Aside0.mk A40
  clear A40
  replace H := Option.bind_eq_some_iff.mp H
  obtain ⟨⟨t402, t405⟩, A50, H⟩ := H
  replace H : (if (t402.length : Int) = 0 then ((shapesearchlaw08_grid.f 1 5).bind fun bt406 => ((resample_At.f k t402 bt406.1 bt406.2.1 bt406.2.2.1 bt406.2.2.2.1 bt406.2.2.2.2 3).bind fun bt411 => (if bt411.2 = true then (none) else ((shapesearchlaw08_awake.f k).bind fun t413 => (some t413))))) else (if 0 < (t402.length : Int) then (shapesearchlaw08_ResampleRules.l0 k a2 t402 (wrap64 (((rd_T29 t402 0).f0) + (wrap64 (a1)))) false false (t402.length : Int) 0) else (none))) = some r := H
  have A5 := Aside0.mk A50
  clear A50
  by_cases c6 : (t402.length : Int) = 0
  · rw [if_pos c6] at H
    have c6b0 : ((t402.length : Int) == 0) = true := beq_iff_eq.mpr c6
    have c6b1 : ((t402.length : Int) != 0) = false := bne_eq_false_iff_eq.mpr c6
    clear c6
    replace H := Option.bind_eq_some_iff.mp H
    obtain ⟨⟨t406, t407, t408, t409, t410⟩, A70, H⟩ := H
    replace H : ((resample_At.f k t402 t406 t407 t408 t409 t410 3).bind fun bt411 => (if bt411.2 = true then (none) else ((shapesearchlaw08_awake.f k).bind fun t413 => (some t413)))) = some r := H
    have A7 := Aside0.mk A70
    clear A70
    replace H := Option.bind_eq_some_iff.mp H
    obtain ⟨⟨t411, t412⟩, A80, H⟩ := H
    replace H : (if t412 = true then (none) else ((shapesearchlaw08_awake.f k).bind fun t413 => (some t413))) = some r := H
    have A8 := Aside0.mk A80
    clear A80
    by_cases c9 : t412 = true
    · subst c9
      have H1 : (none) = some r := by rw [if_pos rfl] at H; exact H
      clear H
      have H := H1
      clear H1
      exact absurd H (by simp)
    · replace c9 := Bool.eq_false_iff.mpr c9
      subst c9
      have H1 : ((shapesearchlaw08_awake.f k).bind fun t413 => (some t413)) = some r := by rw [if_neg (show ¬ (false = true) by decide)] at H; exact H
      clear H
      have H := H1
      clear H1
      replace H := Option.bind_eq_some_iff.mp H
      obtain ⟨t413, A100, H⟩ := H
      replace H : (some t413) = some r := H
      have A10 := Aside0.mk A100
      clear A100
      obtain rfl := Option.some.inj H
      go_enter Try.func5, Try.ntmps5
      go_wp2_with (first | ((with_reducible refine gate_callee (f := 9) rfl ?_); refine goesL_ (some 25) rfl rfl Try.func9 (by kernel_rfl) rfl #[.slice A0 l0.length c0] rfl (by (try simp only [List.map_toArray, List.map_cons, List.map_nil]); first | done | rfl | (simp only [List.length_drop, List.length_take]; rfl)) ?_; (with_reducible refine (shapesearchkeep_New.calls _ _ l0 t399 t400 w _ ?side1 ?side2 ?side3 A4.out).mono ?_); (case side1 => repeat (first | (with_reducible first | exact HB.out | apply below_alloc | apply pw_below_drewN | apply below_drew1) | exact HB.out)); (case side2 => exact HR0.out); (case side3 => exact HC0.out); rintro e w11 ⟨g401, rfl, hi, hb, hb2⟩; refine ⟨_, rfl, ?_⟩; have n0_ := Aside0.mk (hb); have n1_ := Aside0.mk (hi); clear HB; have HB := n0_; have HI401 := n1_; clear n0_ n1_; (try clear hb); (try clear hb2); (try clear hk); (try clear hi)) | ((with_reducible refine gate_callee (f := 10) rfl ?_); refine goesL_ (some 26) rfl rfl Try.func10 (by kernel_rfl) rfl #[.pointer (some ⟨g401, 0, none⟩), .int .i64 10] rfl (by (try simp only [List.map_toArray, List.map_cons, List.map_nil]); first | done | rfl | (simp only [List.length_drop, List.length_take]; rfl)) ?_; (with_reducible refine (shapesearchkeep_Src_Ascending.calls k g401 t399 t400 10 t402 t405 w _ ?side1 ?side2 A5.out).mono ?_); (case side1 => repeat (first | (with_reducible first | exact HI401.out | apply IsS58.alloc | apply IsS58.drewN | apply IsS58.drew | apply IsS58.set_1) | exact HI401.out)); (case side2 => repeat (first | (with_reducible first | exact HB.out | apply below_alloc | apply pw_below_drewN | apply below_drew1 | refine below_set ?_ (IsS58.ge HI401.out)) | exact HB.out)); rintro e w12 ⟨v403, rfl, ho0, hi, hb, hk⟩; refine ⟨_, rfl, ?_⟩; have n0_ := Aside0.mk (Kd.R_lower ho0 (below_size (by repeat (first | (with_reducible first | exact HB.out | apply below_alloc | apply pw_below_drewN | apply below_drew1 | refine below_set ?_ (IsS58.ge HI401.out)) | exact HB.out)))); have n1_ := Aside0.mk (hb); have n2_ := Aside0.mk (hi); clear HB; clear HI401; have HO404 := n0_; have HB := n1_; have HI401 := n2_; clear n0_ n1_ n2_; (try clear hb); (try clear hb2); (try clear hk); (try clear hi); (try clear ho0); obtain ⟨Ao13, co13, eo13⟩ := Kd.R_slice HO404.out; subst eo13) | ((with_reducible refine gate_callee (f := 25) rfl ?_); refine goesL_ (some 32) rfl rfl Try.func25 (by kernel_rfl) rfl #[.int .i64 1, .int .i64 5] rfl (by (try simp only [List.map_toArray, List.map_cons, List.map_nil]); first | done | rfl | (simp only [List.length_drop, List.length_take]; rfl)) ?_; (with_reducible refine (shapesearchlaw08_grid.calls 1 5 t406 t407 t408 t409 t410 _ A7.out).mono ?_); rintro e w14 ⟨rfl, hb⟩; refine ⟨_, rfl, ?_⟩; have n0_ := Aside0.mk (Kd.R_below (by (with_reducible repeat (first | apply Kd.R_alloc | apply Kd.R_drewN | apply Kd.R_drew)); exact HO404.out) hb); have n1_ := Aside0.mk (IsS58.below (by repeat (first | (with_reducible first | exact HI401.out | apply IsS58.alloc | apply IsS58.drewN | apply IsS58.drew | apply IsS58.set_1) | exact HI401.out)) hb); have n2_ := Aside0.mk (below_step (by repeat (first | (with_reducible first | exact HB.out | apply below_alloc | apply pw_below_drewN | apply below_drew1 | refine below_set ?_ (IsS58.ge HI401.out)) | exact HB.out)) hb); clear HO404; clear HI401; clear HB; have HO404 := n0_; have HI401 := n1_; have HB := n2_; clear n0_ n1_ n2_; (try clear hb); (try clear hb2); (try clear hk); (try clear hi)) | ((with_reducible refine gate_callee (f := 23) rfl ?_); refine goesL_ (some 33) rfl rfl Try.func23 (by kernel_rfl) rfl #[.slice Ao13 t402.length co13, .agg #[.int .i64 t406, .int .i64 t407, .int .i64 t408, .int .i64 t409, .int .i64 t410], .int .i64 3] rfl (by (try simp only [List.map_toArray, List.map_cons, List.map_nil]); first | done | rfl | (simp only [List.length_drop, List.length_take]; rfl)) ?_; (with_reducible refine (resample_At.calls k _ _ t402 t406 t407 t408 t409 t410 3 t411 false _ ?side1 ?side2 A8.out).mono ?_); (case side1 => repeat (first | exact (Kd.R_reads' HO404.out).2.2 | (with_reducible refine Kd.C_alloc ?_ _) | (with_reducible refine Kd.C_drewN ?_ _) | (with_reducible refine Kd.C_drew ?_))); (case side2 => exact (Kd.R_reads' HO404.out).2.1); rintro e w15 ⟨rfl, hb⟩; refine ⟨_, rfl, ?_⟩; have n0_ := Aside0.mk (Kd.R_below (by (with_reducible repeat (first | apply Kd.R_alloc | apply Kd.R_drewN | apply Kd.R_drew)); exact HO404.out) hb); have n1_ := Aside0.mk (IsS58.below (by repeat (first | (with_reducible first | exact HI401.out | apply IsS58.alloc | apply IsS58.drewN | apply IsS58.drew | apply IsS58.set_1) | exact HI401.out)) hb); have n2_ := Aside0.mk (below_step (by repeat (first | (with_reducible first | exact HB.out | apply below_alloc | apply pw_below_drewN | apply below_drew1 | refine below_set ?_ (IsS58.ge HI401.out)) | exact HB.out)) hb); clear HO404; clear HI401; clear HB; have HO404 := n0_; have HI401 := n1_; have HB := n2_; clear n0_ n1_ n2_; (try clear hb); (try clear hb2); (try clear hk); (try clear hi)) | (go_at_call 11; (with_reducible refine (shapesearchlaw08_awake.calls k  t413 _ A10.out).mono ?_); rintro e w16 ⟨rfl, hb⟩; have n0_ := Aside0.mk (Kd.R_below (by (with_reducible repeat (first | apply Kd.R_alloc | apply Kd.R_drewN | apply Kd.R_drew)); exact HO404.out) hb); have n1_ := Aside0.mk (IsS58.below (by repeat (first | (with_reducible first | exact HI401.out | apply IsS58.alloc | apply IsS58.drewN | apply IsS58.drew | apply IsS58.set_1) | exact HI401.out)) hb); have n2_ := Aside0.mk (below_step (by repeat (first | (with_reducible first | exact HB.out | apply below_alloc | apply pw_below_drewN | apply below_drew1 | refine below_set ?_ (IsS58.ge HI401.out)) | exact HB.out)) hb); clear HO404; clear HI401; clear HB; have HO404 := n0_; have HI401 := n1_; have HB := n2_; clear n0_ n1_ n2_; (try clear hb); (try clear hb2); (try clear hk); (try clear hi)))
      go_ret
      exact ⟨by first | rfl | (simp [errW_none, errW_some] <;> rfl) | (simp [*, errW_none, errW_some] <;> rfl), by repeat (first | (with_reducible first | exact HB.out | apply below_alloc | apply pw_below_drewN | apply below_drew1 | refine below_set ?_ (IsS58.ge HI401.out)) | exact HB.out)⟩
  · rw [if_neg c6] at H
    have c6b0 : ((t402.length : Int) == 0) = false := beq_eq_false_iff_ne.mpr c6
    have c6b1 : ((t402.length : Int) != 0) = true := bne_iff_ne.mpr c6
    have c6b2 : ¬ (t402 = []) := fun h_ => c6 (by rw [h_]; rfl)
    by_cases c17 : 0 < (t402.length : Int)
    · rw [if_pos c17] at H
      have c17b0 : decide (0 < (t402.length : Int)) = true := decide_eq_true c17
      have c17b1 : decide (0 < t402.length) = true := decide_eq_true (by omega)
      clear c17
      have H' := Aside0.mk H
      clear H
      go_enter Try.func5, Try.ntmps5
      go_wp2_with (first | ((with_reducible refine gate_callee (f := 9) rfl ?_); refine goesL_ (some 25) rfl rfl Try.func9 (by kernel_rfl) rfl #[.slice A0 l0.length c0] rfl (by (try simp only [List.map_toArray, List.map_cons, List.map_nil]); first | done | rfl | (simp only [List.length_drop, List.length_take]; rfl)) ?_; (with_reducible refine (shapesearchkeep_New.calls _ _ l0 t399 t400 w _ ?side1 ?side2 ?side3 A4.out).mono ?_); (case side1 => repeat (first | (with_reducible first | exact HB.out | apply below_alloc | apply pw_below_drewN | apply below_drew1) | exact HB.out)); (case side2 => exact HR0.out); (case side3 => exact HC0.out); rintro e w18 ⟨g401, rfl, hi, hb, hb2⟩; refine ⟨_, rfl, ?_⟩; have n0_ := Aside0.mk (hb); have n1_ := Aside0.mk (hi); clear HB; have HB := n0_; have HI401 := n1_; clear n0_ n1_; (try clear hb); (try clear hb2); (try clear hk); (try clear hi)) | ((with_reducible refine gate_callee (f := 10) rfl ?_); refine goesL_ (some 26) rfl rfl Try.func10 (by kernel_rfl) rfl #[.pointer (some ⟨g401, 0, none⟩), .int .i64 10] rfl (by (try simp only [List.map_toArray, List.map_cons, List.map_nil]); first | done | rfl | (simp only [List.length_drop, List.length_take]; rfl)) ?_; (with_reducible refine (shapesearchkeep_Src_Ascending.calls k g401 t399 t400 10 t402 t405 w _ ?side1 ?side2 A5.out).mono ?_); (case side1 => repeat (first | (with_reducible first | exact HI401.out | apply IsS58.alloc | apply IsS58.drewN | apply IsS58.drew | apply IsS58.set_1) | exact HI401.out)); (case side2 => repeat (first | (with_reducible first | exact HB.out | apply below_alloc | apply pw_below_drewN | apply below_drew1 | refine below_set ?_ (IsS58.ge HI401.out)) | exact HB.out)); rintro e w19 ⟨v403, rfl, ho0, hi, hb, hk⟩; refine ⟨_, rfl, ?_⟩; have n0_ := Aside0.mk (Kd.R_lower ho0 (below_size (by repeat (first | (with_reducible first | exact HB.out | apply below_alloc | apply pw_below_drewN | apply below_drew1 | refine below_set ?_ (IsS58.ge HI401.out)) | exact HB.out)))); have n1_ := Aside0.mk (hb); have n2_ := Aside0.mk (hi); clear HB; clear HI401; have HO404 := n0_; have HB := n1_; have HI401 := n2_; clear n0_ n1_ n2_; (try clear hb); (try clear hb2); (try clear hk); (try clear hi); (try clear ho0); obtain ⟨Ao20, co20, eo20⟩ := Kd.R_slice HO404.out; subst eo20; have p414 : 0 ≤ (0 : Int) := (by omega); have q414 : 0 < (t402.length : Int) := of_decide_eq_true (by first | (with_reducible assumption) | assumption); obtain ⟨ad414, e414, hx414_0, hx414_1⟩ := at_T29 (Kd.R_reads' HO404.out).2.2 0 p414 q414; cases e414; have qi414 : (0 < t402.length) = True := eq_true (by omega); (try rw [show ((0 : Int)).toNat = 0 from rfl] at hx414_0); (try rw [show 0 * 2 = 0 from rfl] at hx414_0); (try rw [Addr.add_zero'] at hx414_0); (try rw [show ((0 : Int)).toNat = 0 from rfl] at hx414_1); (try rw [show 0 * 2 = 0 from rfl] at hx414_1); (try rw [Addr.add_zero'] at hx414_1); replace p414 := eq_true p414; replace q414 := eq_true q414))
      go_loopg [11, 12, 50] k (fun kq v11 v12 v50 w' => ∃ (x11_1 : Bool) (x12_1 : Bool) (x50_1 : Int), v11 = .bool x11_1 ∧ v12 = .bool x12_1 ∧ v50 = .int .i64 x50_1 ∧ Aside0 (shapesearchlaw08_ResampleRules.l0 kq a2 t402 (wrap64 (((rd_T29 t402 0).f0) + (wrap64 (a1)))) x11_1 x12_1 (t402.length : Int) x50_1 = some r) ∧ Aside0 (kq ≤ k) ∧ Aside0 (Kd.R k29 29 w' w.heap.size (fun _ => True) (.slice (some ad414) t402.length co20) t402) ∧ Aside0 (Below w.heap.size w w'))
      case atStart => exact ⟨(false), (false), (0), (by first | rfl | (simp; done) | (simp [*]; done)), (by first | rfl | (simp; done) | (simp [*]; done)), (by first | rfl | (simp; done) | (simp [*]; done)), H', ⟨Nat.le_refl _⟩, ⟨by (with_reducible repeat (first | apply Kd.R_alloc | apply Kd.R_drewN | apply Kd.R_drew)); exact HO404.out⟩, ⟨by repeat (first | (with_reducible first | exact HB.out | apply below_alloc | apply pw_below_drewN | apply below_drew1 | refine below_set ?_ (IsS58.ge HI401.out)) | exact HB.out)⟩⟩
      case round =>
        clear H'
        try clear c1
        try clear c2
        try clear p2
        try clear p4
        try clear q4
        try clear hx4
        try clear qi4
        try clear c5
        try clear c6
        try clear c6b0
        try clear c6b1
        try clear c6b2
        try clear p6
        try clear c9
        try clear c10
        try clear c17
        try clear c17b0
        try clear c17b1
        try clear hx414_0
        try clear hx414_1
        try clear p414
        try clear q414
        obtain ⟨x11_1, x12_1, x50_1, rfl, rfl, rfl, HA, HK1, HO_7, HB⟩ := hrel
        cases gk with
        | zero => exact absurd HA.out (by simp [shapesearchlaw08_ResampleRules.l0])
        | succ k1 =>
          have H := HA.out
          clear HA
          simp only [shapesearchlaw08_ResampleRules.l0] at H
          by_cases c21 : x50_1 < (t402.length : Int)
          · rw [if_pos c21] at H
            have c21b0 : decide (x50_1 < (t402.length : Int)) = true := decide_eq_true c21
            clear c21
            by_cases c22 : 0 ≤ x50_1
            · rw [if_pos c22] at H
              have c22b0 : decide (0 ≤ x50_1) = true := decide_eq_true c22
              clear c22
              by_cases c23 : x50_1 < (t402.length : Int)
              · rw [if_pos c23] at H
                have c23b0 : decide (x50_1 < (t402.length : Int)) = true := decide_eq_true c23
                clear c23
                have HC24 := Aside0.mk H
                clear H
                have p415 : 0 ≤ (x50_1 : Int) := of_decide_eq_true (by first | (with_reducible assumption) | assumption)
                have q415 : x50_1 < (t402.length : Int) := of_decide_eq_true (by first | (with_reducible assumption) | assumption)
                obtain ⟨ad415, e415, hx415_0, hx415_1⟩ := at_T29 (Kd.R_reads' HO_7.out).2.2 x50_1 p415 q415
                obtain rfl : ad414 = ad415 := (by injection e415)
                replace p415 := eq_true p415
                replace q415 := eq_true q415
                go_upto_region 11 with (fail)
                go_cut [11] (fun v11 wc => ∃ (kq : Nat) (x11_23 : Bool), v11 = .bool x11_23 ∧ Aside0 (shapesearchlaw08_ResampleRules.j1 kq a2 t402 (wrap64 (((rd_T29 t402 0).f0) + (wrap64 (a1)))) x11_23 x12_1 x50_1 (wrap64 ((wrap64 (((rd_T29 t402 0).f0) + (wrap64 (a1)))) - ((rd_T29 t402 x50_1).f0))) (t402.length : Int) x50_1 = some r) ∧ Aside0 (kq ≤ k1) ∧ Aside0 (Kd.R k29 29 wc w.heap.size (fun _ => True) (.slice (some ad414) t402.length co20) t402) ∧ Aside0 (Below w.heap.size w wc))
                case first =>
                  have H := HC24.out
                  clear HC24
                  by_cases c25 : x11_1 = true
                  · subst c25
                    have H1 : (shapesearchlaw08_ResampleRules.j1 k1 a2 t402 (wrap64 (((rd_T29 t402 0).f0) + (wrap64 (a1)))) true x12_1 x50_1 (wrap64 ((wrap64 (((rd_T29 t402 0).f0) + (wrap64 (a1)))) - ((rd_T29 t402 x50_1).f0))) (t402.length : Int) x50_1) = some r := by rw [if_pos rfl] at H; exact H
                    clear H
                    have H := H1
                    clear H1
                    have H' := Aside0.mk H
                    clear H
                    go_wp2
                    go_meet
                    case rel => exact ⟨_, (true), (by first | rfl | (simp; done) | (simp [*]; done)), H', ⟨by have := HK1.out; first | omega | exact Nat.le_refl _⟩, ⟨by (with_reducible repeat (first | apply Kd.R_alloc | apply Kd.R_drewN | apply Kd.R_drew)); exact HO_7.out⟩, ⟨by repeat (first | (with_reducible first | exact HB.out | apply below_alloc | apply pw_below_drewN | apply below_drew1) | exact HB.out)⟩⟩
                  · replace c25 := Bool.eq_false_iff.mpr c25
                    subst c25
                    have H1 : (if (wrap64 ((wrap64 (((rd_T29 t402 0).f0) + (wrap64 (a1)))) - ((rd_T29 t402 x50_1).f0))) ≥ 0 then (shapesearchlaw08_ResampleRules.j1 k1 a2 t402 (wrap64 (((rd_T29 t402 0).f0) + (wrap64 (a1)))) (decide ((wrap64 ((wrap64 (((rd_T29 t402 0).f0) + (wrap64 (a1)))) - ((rd_T29 t402 x50_1).f0))) ≤ (wrap64 (a2)))) x12_1 x50_1 (wrap64 ((wrap64 (((rd_T29 t402 0).f0) + (wrap64 (a1)))) - ((rd_T29 t402 x50_1).f0))) (t402.length : Int) x50_1) else (shapesearchlaw08_ResampleRules.j1 k1 a2 t402 (wrap64 (((rd_T29 t402 0).f0) + (wrap64 (a1)))) false x12_1 x50_1 (wrap64 ((wrap64 (((rd_T29 t402 0).f0) + (wrap64 (a1)))) - ((rd_T29 t402 x50_1).f0))) (t402.length : Int) x50_1)) = some r := by rw [if_neg (show ¬ (false = true) by decide)] at H; exact H
                    clear H
                    have H := H1
                    clear H1
                    by_cases c26 : (wrap64 ((wrap64 (((rd_T29 t402 0).f0) + (wrap64 (a1)))) - ((rd_T29 t402 x50_1).f0))) ≥ 0
                    · rw [if_pos c26] at H
                      have c26b0 : decide (0 ≤ (wrap64 ((wrap64 (((rd_T29 t402 0).f0) + (wrap64 (a1)))) - ((rd_T29 t402 x50_1).f0)))) = true := decide_eq_true c26
                      clear c26
                      (first | rw [c26b0] | (simp only [i64_w, i32_w]; rw [c26b0]) | skip)
                      have H' := Aside0.mk H
                      clear H
                      go_wp2
                      go_meet
                      case rel => exact ⟨_, (decide ((wrap64 ((wrap64 (((rd_T29 t402 0).f0) + (wrap64 (a1)))) - ((rd_T29 t402 x50_1).f0))) ≤ (wrap64 (a2)))), (by first | rfl | (simp; done) | (simp [*]; done)), H', ⟨by have := HK1.out; first | omega | exact Nat.le_refl _⟩, ⟨by (with_reducible repeat (first | apply Kd.R_alloc | apply Kd.R_drewN | apply Kd.R_drew)); exact HO_7.out⟩, ⟨by repeat (first | (with_reducible first | exact HB.out | apply below_alloc | apply pw_below_drewN | apply below_drew1) | exact HB.out)⟩⟩
                    · rw [if_neg c26] at H
                      have c26b0 : decide (0 ≤ (wrap64 ((wrap64 (((rd_T29 t402 0).f0) + (wrap64 (a1)))) - ((rd_T29 t402 x50_1).f0)))) = false := decide_eq_false c26
                      clear c26
                      (first | rw [c26b0] | (simp only [i64_w, i32_w]; rw [c26b0]) | skip)
                      have H' := Aside0.mk H
                      clear H
                      go_wp2
                      go_meet
                      case rel => exact ⟨_, (false), (by first | rfl | (simp; done) | (simp [*]; done)), H', ⟨by have := HK1.out; first | omega | exact Nat.le_refl _⟩, ⟨by (with_reducible repeat (first | apply Kd.R_alloc | apply Kd.R_drewN | apply Kd.R_drew)); exact HO_7.out⟩, ⟨by repeat (first | (with_reducible first | exact HB.out | apply below_alloc | apply pw_below_drewN | apply below_drew1) | exact HB.out)⟩⟩
                case rest =>
                  clear HC24
                  try clear c1
                  try clear c2
                  try clear p2
                  try clear p4
                  try clear q4
                  try clear hx4
                  try clear qi4
                  try clear c5
                  try clear c6
                  try clear c6b0
                  try clear c6b1
                  try clear c6b2
                  try clear p6
                  try clear c9
                  try clear c10
                  try clear c17
                  try clear c17b0
                  try clear c17b1
                  try clear c21
                  try clear c21b0
                  try clear c22
                  try clear c22b0
                  try clear c23
                  try clear c23b0
                  try clear c25
                  try clear c26
                  try clear c26b0
                  try clear hx414_0
                  try clear hx414_1
                  try clear hx415_0
                  try clear hx415_1
                  try clear p2
                  try clear p4
                  try clear p414
                  try clear p415
                  try clear p6
                  try clear q4
                  try clear q414
                  try clear q415
                  obtain ⟨kq, x11_23, rfl, HA, HJ23, HO_7, HB⟩ := hcut
                  cases kq with
                  | zero => exact absurd HA.out (by simp [shapesearchlaw08_ResampleRules.j1])
                  | succ kj23 =>
                    have H := HA.out
                    clear HA
                    simp only [shapesearchlaw08_ResampleRules.j1] at H
                    have HC27 := Aside0.mk H
                    clear H
                    go_upto_region 12 with (fail)
                    go_cut [12] (fun v12 wc => ∃ (kq : Nat) (x12_26 : Bool), v12 = .bool x12_26 ∧ Aside0 (shapesearchlaw08_ResampleRules.j2 kq a2 t402 (wrap64 (((rd_T29 t402 0).f0) + (wrap64 (a1)))) x11_23 x12_26 x50_1 (t402.length : Int) x50_1 = some r) ∧ Aside0 (kq ≤ kj23) ∧ Aside0 (Kd.R k29 29 wc w.heap.size (fun _ => True) (.slice (some ad414) t402.length co20) t402) ∧ Aside0 (Below w.heap.size w wc))
                    case first =>
                      have H := HC27.out
                      clear HC27
                      by_cases c28 : x12_1 = true
                      · subst c28
                        have H1 : (shapesearchlaw08_ResampleRules.j2 kj23 a2 t402 (wrap64 (((rd_T29 t402 0).f0) + (wrap64 (a1)))) x11_23 true x50_1 (t402.length : Int) x50_1) = some r := by rw [if_pos rfl] at H; exact H
                        clear H
                        have H := H1
                        clear H1
                        have H' := Aside0.mk H
                        clear H
                        go_wp2
                        go_meet
                        case rel => exact ⟨_, (true), (by first | rfl | (simp; done) | (simp [*]; done)), H', ⟨by have := HK1.out; have := HJ23.out; first | omega | exact Nat.le_refl _⟩, ⟨by (with_reducible repeat (first | apply Kd.R_alloc | apply Kd.R_drewN | apply Kd.R_drew)); exact HO_7.out⟩, ⟨by repeat (first | (with_reducible first | exact HB.out | apply below_alloc | apply pw_below_drewN | apply below_drew1) | exact HB.out)⟩⟩
                      · replace c28 := Bool.eq_false_iff.mpr c28
                        subst c28
                        have H1 : (shapesearchlaw08_ResampleRules.j2 kj23 a2 t402 (wrap64 (((rd_T29 t402 0).f0) + (wrap64 (a1)))) x11_23 (decide ((mx (wrap64 ((wrap64 (((rd_T29 t402 0).f0) + (wrap64 (a1)))) - ((rd_T29 t402 x50_1).f0))) (wrap64 (-(wrap64 ((wrap64 (((rd_T29 t402 0).f0) + (wrap64 (a1)))) - ((rd_T29 t402 x50_1).f0)))))) ≤ (wrap64 (a2)))) x50_1 (t402.length : Int) x50_1) = some r := by rw [if_neg (show ¬ (false = true) by decide)] at H; exact H
                        clear H
                        have H := H1
                        clear H1
                        obtain ⟨ji29, hji29⟩ : ∃ j_ : Int, (mx (wrap64 ((wrap64 (((rd_T29 t402 0).f0) + (wrap64 (a1)))) - ((rd_T29 t402 x50_1).f0))) (wrap64 (-(wrap64 ((wrap64 (((rd_T29 t402 0).f0) + (wrap64 (a1)))) - ((rd_T29 t402 x50_1).f0)))))) = j_ := ⟨_, rfl⟩
                        replace H : (shapesearchlaw08_ResampleRules.j2 kj23 a2 t402 (wrap64 (((rd_T29 t402 0).f0) + (wrap64 (a1)))) x11_23 (decide ((ji29) ≤ (wrap64 (a2)))) x50_1 (t402.length : Int) x50_1) = some r := by first | (rw [hji29] at H; exact H) | (simp only [hji29] at H ⊢; exact H)
                        have hji29_ : (if (wrap64 ((wrap64 (((rd_T29 t402 0).f0) + (wrap64 (a1)))) - ((rd_T29 t402 x50_1).f0))) < (wrap64 (-(wrap64 ((wrap64 (((rd_T29 t402 0).f0) + (wrap64 (a1)))) - ((rd_T29 t402 x50_1).f0))))) then (wrap64 (-(wrap64 ((wrap64 (((rd_T29 t402 0).f0) + (wrap64 (a1)))) - ((rd_T29 t402 x50_1).f0))))) else (wrap64 ((wrap64 (((rd_T29 t402 0).f0) + (wrap64 (a1)))) - ((rd_T29 t402 x50_1).f0)))) = ji29 := hji29
                        have H' := Aside0.mk H
                        clear H
                        go_wp2
                        go_meet
                        case rel => exact ⟨_, (decide ((ji29) ≤ (wrap64 (a2)))), (by first | rfl | (simp; done) | (simp only [← hji29] <;> (first | rfl | simp)) | (simp [*]; done)), H', ⟨by have := HK1.out; have := HJ23.out; first | omega | exact Nat.le_refl _⟩, ⟨by (with_reducible repeat (first | apply Kd.R_alloc | apply Kd.R_drewN | apply Kd.R_drew)); exact HO_7.out⟩, ⟨by repeat (first | (with_reducible first | exact HB.out | apply below_alloc | apply pw_below_drewN | apply below_drew1) | exact HB.out)⟩⟩
                    case rest =>
                      clear HC27
                      try clear c1
                      try clear c2
                      try clear p2
                      try clear p4
                      try clear q4
                      try clear hx4
                      try clear qi4
                      try clear c5
                      try clear c6
                      try clear c6b0
                      try clear c6b1
                      try clear c6b2
                      try clear p6
                      try clear c9
                      try clear c10
                      try clear c17
                      try clear c17b0
                      try clear c17b1
                      try clear c21
                      try clear c21b0
                      try clear c22
                      try clear c22b0
                      try clear c23
                      try clear c23b0
                      try clear c25
                      try clear c26
                      try clear c26b0
                      try clear c28
                      try clear hx414_0
                      try clear hx414_1
                      try clear hx415_0
                      try clear hx415_1
                      try clear p2
                      try clear p4
                      try clear p414
                      try clear p415
                      try clear p6
                      try clear q4
                      try clear q414
                      try clear q415
                      obtain ⟨kq, x12_26, rfl, HA, HJ26, HO_7, HB⟩ := hcut
                      cases kq with
                      | zero => exact absurd HA.out (by simp [shapesearchlaw08_ResampleRules.j2])
                      | succ kj26 =>
                        have H := HA.out
                        clear HA
                        simp only [shapesearchlaw08_ResampleRules.j2] at H
                        have H' := Aside0.mk H
                        clear H
                        go_wp2
                        go_loopg [15] kj26 (fun kq v15 w' => ∃ (x15_4 : Int), v15 = .int .i64 x15_4 ∧ Aside0 (shapesearchlaw08_ResampleRules.l1 kq a2 t402 (wrap64 (((rd_T29 t402 0).f0) + (wrap64 (a1)))) x11_23 x12_26 x50_1 x15_4 (t402.length : Int) x50_1 = some r) ∧ Aside0 (kq ≤ kj26) ∧ Aside0 (Kd.R k29 29 w' w.heap.size (fun _ => True) (.slice (some ad414) t402.length co20) t402) ∧ Aside0 (Below w.heap.size w w'))
                        case atStart => exact ⟨(1), (by first | rfl | (simp; done) | (simp [*]; done)), H', ⟨Nat.le_refl _⟩, ⟨by (with_reducible repeat (first | apply Kd.R_alloc | apply Kd.R_drewN | apply Kd.R_drew)); exact HO_7.out⟩, ⟨by repeat (first | (with_reducible first | exact HB.out | apply below_alloc | apply pw_below_drewN | apply below_drew1) | exact HB.out)⟩⟩
                        case round =>
                          clear H'
                          try clear c1
                          try clear c2
                          try clear p2
                          try clear p4
                          try clear q4
                          try clear hx4
                          try clear qi4
                          try clear c5
                          try clear c6
                          try clear c6b0
                          try clear c6b1
                          try clear c6b2
                          try clear p6
                          try clear c9
                          try clear c10
                          try clear c17
                          try clear c17b0
                          try clear c17b1
                          try clear c21
                          try clear c21b0
                          try clear c22
                          try clear c22b0
                          try clear c23
                          try clear c23b0
                          try clear c25
                          try clear c26
                          try clear c26b0
                          try clear c28
                          try clear hx414_0
                          try clear hx414_1
                          try clear hx415_0
                          try clear hx415_1
                          try clear p2
                          try clear p4
                          try clear p414
                          try clear p415
                          try clear p6
                          try clear q4
                          try clear q414
                          try clear q415
                          obtain ⟨x15_4, rfl, HA, HK4, HO_7, HB⟩ := hrel
                          cases gk with
                          | zero => exact absurd HA.out (by simp [shapesearchlaw08_ResampleRules.l1])
                          | succ k4 =>
                            have H := HA.out
                            clear HA
                            simp only [shapesearchlaw08_ResampleRules.l1] at H
                            by_cases c30 : x15_4 ≤ 3
                            · rw [if_pos c30] at H
                              have c30b0 : decide (x15_4 ≤ 3) = true := decide_eq_true c30
                              clear c30
                              replace H := Option.bind_eq_some_iff.mp H
                              obtain ⟨⟨t416, t417, t418, t419, t420⟩, A310, H⟩ := H
                              replace H : (if 0 ≤ x50_1 then (if x50_1 < (t402.length : Int) then ((resample_At.f k4 t402 t416 t417 t418 t419 t420 ((rd_T29 t402 x50_1).f0)).bind fun bt422 => (if bt422.2 = true then (if bt422.1 = ((rd_T29 t402 x50_1).f1) then (shapesearchlaw08_ResampleRules.l1 k4 a2 t402 (wrap64 (((rd_T29 t402 0).f0) + (wrap64 (a1)))) x11_23 x12_26 x50_1 (wrap64 (x15_4 + 1)) (t402.length : Int) x50_1) else (none)) else (none))) else (none)) else (none)) = some r := H
                              have A31 := Aside0.mk A310
                              clear A310
                              by_cases c32 : 0 ≤ x50_1
                              · rw [if_pos c32] at H
                                have c32b0 : decide (0 ≤ x50_1) = true := decide_eq_true c32
                                clear c32
                                by_cases c33 : x50_1 < (t402.length : Int)
                                · rw [if_pos c33] at H
                                  have c33b0 : decide (x50_1 < (t402.length : Int)) = true := decide_eq_true c33
                                  clear c33
                                  replace H := Option.bind_eq_some_iff.mp H
                                  obtain ⟨⟨t422, t423⟩, A340, H⟩ := H
                                  replace H : (if t423 = true then (if t422 = ((rd_T29 t402 x50_1).f1) then (shapesearchlaw08_ResampleRules.l1 k4 a2 t402 (wrap64 (((rd_T29 t402 0).f0) + (wrap64 (a1)))) x11_23 x12_26 x50_1 (wrap64 (x15_4 + 1)) (t402.length : Int) x50_1) else (none)) else (none)) = some r := H
                                  have A34 := Aside0.mk A340
                                  clear A340
                                  by_cases c35 : t423 = true
                                  · subst c35
                                    have H1 : (if t422 = ((rd_T29 t402 x50_1).f1) then (shapesearchlaw08_ResampleRules.l1 k4 a2 t402 (wrap64 (((rd_T29 t402 0).f0) + (wrap64 (a1)))) x11_23 x12_26 x50_1 (wrap64 (x15_4 + 1)) (t402.length : Int) x50_1) else (none)) = some r := by rw [if_pos rfl] at H; exact H
                                    clear H
                                    have H := H1
                                    clear H1
                                    by_cases c36 : t422 = ((rd_T29 t402 x50_1).f1)
                                    · rw [if_pos c36] at H
                                      have c36b0 : (t422 == ((rd_T29 t402 x50_1).f1)) = true := beq_iff_eq.mpr c36
                                      have c36b1 : (t422 != ((rd_T29 t402 x50_1).f1)) = false := bne_eq_false_iff_eq.mpr c36
                                      clear c36
                                      have H' := Aside0.mk H
                                      clear H
                                      try go_wp2
                                      have n0_ := Aside0.mk (Kd.R_drew HO_7.out)
                                      have n1_ := Aside0.mk (below_drew1 HB.out)
                                      clear HO_7
                                      clear HB
                                      have HO_7 := n0_
                                      have HB := n1_
                                      clear n0_ n1_
                                      have p421 : 0 ≤ (x50_1 : Int) := of_decide_eq_true (by first | (with_reducible assumption) | assumption)
                                      have q421 : x50_1 < (t402.length : Int) := of_decide_eq_true (by first | (with_reducible assumption) | assumption)
                                      obtain ⟨ad421, e421, hx421_0, hx421_1⟩ := at_T29 (Kd.R_reads' HO_7.out).2.2 x50_1 p421 q421
                                      obtain rfl : ad414 = ad421 := (by injection e421)
                                      replace p421 := eq_true p421
                                      replace q421 := eq_true q421
                                      refine start_ (n := 14) (S := fun w' => w'.cell? (ad414.add ((x50_1).toNat * 2)) = some (.int .i64 ((rd_T29 t402 x50_1).f0)) ∧ w'.cell? ⟨(ad414.add ((x50_1).toNat * 2)).block, (ad414.add ((x50_1).toNat * 2)).off + 1, none⟩ = some (.int .i64 ((rd_T29 t402 x50_1).f1))) (ds := []) #[false, false, false, false, false, false, false, false, false, false, false, false, false, false] (by kernel_rfl) rfl rfl ⟨hx421_0, hx421_1⟩ (fun hHeld => ?_); refine with_tabW shapesearchlaw08_ResampleRules.tab16 shapesearchlaw08_ResampleRules.bits16 (fun HT_ HW_ => ?_)
                                      generalize wr.drew = w37 at HO_7 HB hx421_0 hx421_1 hHeld ⊢
                                      refine pure_ (i := 0) (N := some 86) (v := ?_) (a' := ?_) #[true, false, false, false, false, false, false, false, false, false, false, false, false, false] rfl rfl (any_of HT_.out (by kernel_rfl)) (fun _ _ _ h => h) (Or.inl ⟨by rfl, ?_⟩) ?_ ?_
                                      rotate_left
                                      · intro w'
                                        go_simp
                                        with_reducible rfl
                                      rotate_left
                                      · simp only [Act.put, List.setIfInBounds_toArray, List.set_cons_zero, List.set_cons_succ, i64_w, i32_w]
                                        rfl
                                      refine pure_ (i := 1) (N := some 87) (v := ?_) (a' := ?_) #[true, true, false, false, false, false, false, false, false, false, false, false, false, false] rfl rfl (any_of HT_.out (by kernel_rfl)) (fun _ _ _ h => h) (Or.inl ⟨by rfl, ?_⟩) ?_ ?_
                                      rotate_left
                                      · intro w'
                                        go_simp
                                        with_reducible rfl
                                      rotate_left
                                      · simp only [Act.put, List.setIfInBounds_toArray, List.set_cons_zero, List.set_cons_succ, i64_w, i32_w]
                                        rfl
                                      refine pure_ (i := 3) (N := some 89) (v := ?_) (a' := ?_) #[true, true, false, true, false, false, false, false, false, false, false, false, false, false] rfl rfl (any_of HT_.out (by kernel_rfl)) (fun _ _ _ h => h) (Or.inl ⟨by rfl, ?_⟩) ?_ ?_
                                      rotate_left
                                      · intro w'
                                        go_simp
                                        with_reducible rfl
                                      rotate_left
                                      · simp only [Act.put, List.setIfInBounds_toArray, List.set_cons_zero, List.set_cons_succ, i64_w, i32_w]
                                        rfl
                                      refine pure_ (i := 4) (N := some 90) (v := ?_) (a' := ?_) #[true, true, false, true, true, false, false, false, false, false, false, false, false, false] rfl rfl (any_of HT_.out (by kernel_rfl)) (fun _ _ _ h => h) (Or.inl ⟨by rfl, ?_⟩) ?_ ?_
                                      rotate_left
                                      · intro w'
                                        go_simp
                                        with_reducible rfl
                                      rotate_left
                                      · simp only [Act.put, List.setIfInBounds_toArray, List.set_cons_zero, List.set_cons_succ, i64_w, i32_w]
                                        rfl
                                      refine pure_ (i := 5) (N := some 91) (v := ?_) (a' := ?_) #[true, true, false, true, true, true, false, false, false, false, false, false, false, false] rfl rfl (any_of HT_.out (by kernel_rfl)) (fun _ _ _ h => h) (Or.inl ⟨by rfl, ?_⟩) ?_ ?_
                                      rotate_left
                                      · intro w'
                                        go_simp
                                        with_reducible rfl
                                      rotate_left
                                      · simp only [Act.put, List.setIfInBounds_toArray, List.set_cons_zero, List.set_cons_succ, i64_w, i32_w]
                                        rfl
                                      refine pure_ (i := 6) (N := some 92) (v := ?_) (a' := ?_) #[true, true, false, true, true, true, true, false, false, false, false, false, false, false] rfl rfl (any_of HT_.out (by kernel_rfl)) (fun _ _ _ h => h) (Or.inl ⟨by rfl, ?_⟩) ?_ ?_
                                      rotate_left
                                      · intro w'
                                        go_simp
                                        with_reducible rfl
                                      rotate_left
                                      · simp only [Act.put, List.setIfInBounds_toArray, List.set_cons_zero, List.set_cons_succ, i64_w, i32_w]
                                        rfl
                                      refine take_ (i := 7) (N := some 93) (v := ?_) (a' := ?_) #[true, true, false, true, true, true, true, true, false, false, false, false, false, false] rfl rfl (take_ofW HT_.out HW_.out (by kernel_rfl)) (fun _ _ _ h => h) (Or.inl ⟨by rfl, ?_⟩) hHeld ?_ ?_
                                      rotate_left
                                      · rintro w' ⟨s0, s1⟩
                                        go_simp
                                        with_reducible rfl
                                      rotate_left
                                      · simp only [Act.put, List.setIfInBounds_toArray, List.set_cons_zero, List.set_cons_succ, i64_w, i32_w]
                                        rfl
                                      refine one_ (i := 2) (N := some 88) #[true, true, true, true, true, true, true, true, false, false, false, false, false, false] rfl rfl (one_of HT_.out (by kernel_rfl)) (by decide) (fun K hK => ?_)
                                      refine goes_ Try.func25 (by kernel_rfl) rfl #[.int .i64 x15_4, .int .i64 0] (by rfl) rfl rfl (by (try simp only [List.map_toArray, List.map_cons, List.map_nil]); first | done | rfl | (simp only [List.length_drop, List.length_take]; rfl)) ?_
                                      with_reducible refine (shapesearchlaw08_grid.calls x15_4 0 t416 t417 t418 t419 t420 _ A31.out).mono ?_
                                      rintro e w38 ⟨rfl, hb⟩
                                      have HS0_ := (hb.cell (World.block_lt_of_cell? _ _ (hHeld.1))).trans (hHeld.1)
                                      have HS1_ := (hb.cell (World.block_lt_of_cell? _ _ (hHeld.2))).trans (hHeld.2)
                                      refine ⟨_, rfl, ?_⟩
                                      have n0_ := Aside0.mk (Kd.R_below (by (with_reducible repeat (first | apply Kd.R_alloc | apply Kd.R_drewN | apply Kd.R_drew)); exact HO_7.out) hb)
                                      have n1_ := Aside0.mk (below_step (by repeat (first | (with_reducible first | exact HB.out | apply below_alloc | apply pw_below_drewN | apply below_drew1) | exact HB.out)) hb)
                                      clear HO_7
                                      clear HB
                                      have HO_7 := n0_
                                      have HB := n1_
                                      clear n0_ n1_
                                      (try clear hb)
                                      (try clear hb2)
                                      (try clear hk)
                                      (try clear hi)
                                      refine hK.out _ _ ⟨HS0_, HS1_⟩ (fun hHeld => ?_)
                                      clear hK K
                                      refine norm_ (a' := ?_) ?_ ?_
                                      rotate_left
                                      · show Act.put _ (some 88) _ = _
                                        simp only [Act.put, List.setIfInBounds_toArray, List.set_cons_zero, List.set_cons_succ, i64_w, i32_w]
                                        rfl
                                      refine one_ (i := 8) (N := some 94) #[true, true, true, true, true, true, true, true, true, false, false, false, false, false] rfl rfl (one_of HT_.out (by kernel_rfl)) (by decide) (fun K hK => ?_)
                                      refine goes_ Try.func23 (by kernel_rfl) rfl #[.slice (some ad414) t402.length co20, .agg #[.int .i64 t416, .int .i64 t417, .int .i64 t418, .int .i64 t419, .int .i64 t420], .int .i64 ((rd_T29 t402 x50_1).f0)] (by rfl) rfl rfl (by (try simp only [List.map_toArray, List.map_cons, List.map_nil]); first | done | rfl | (simp only [List.length_drop, List.length_take]; rfl)) ?_
                                      with_reducible refine (resample_At.calls k4 _ _ t402 t416 t417 t418 t419 t420 ((rd_T29 t402 x50_1).f0) t422 true _ ?side1 ?side2 A34.out).mono ?_
                                      (case side1 => repeat (first | exact (Kd.R_reads' HO_7.out).2.2 | (with_reducible refine Kd.C_alloc ?_ _) | (with_reducible refine Kd.C_drewN ?_ _) | (with_reducible refine Kd.C_drew ?_)))
                                      (case side2 => exact (Kd.R_reads' HO_7.out).2.1)
                                      rintro e w39 ⟨rfl, hb⟩
                                      have HS0_ := (hb.cell (World.block_lt_of_cell? _ _ (hHeld.1))).trans (hHeld.1)
                                      have HS1_ := (hb.cell (World.block_lt_of_cell? _ _ (hHeld.2))).trans (hHeld.2)
                                      refine ⟨_, rfl, ?_⟩
                                      have n0_ := Aside0.mk (Kd.R_below (by (with_reducible repeat (first | apply Kd.R_alloc | apply Kd.R_drewN | apply Kd.R_drew)); exact HO_7.out) hb)
                                      have n1_ := Aside0.mk (below_step (by repeat (first | (with_reducible first | exact HB.out | apply below_alloc | apply pw_below_drewN | apply below_drew1) | exact HB.out)) hb)
                                      clear HO_7
                                      clear HB
                                      have HO_7 := n0_
                                      have HB := n1_
                                      clear n0_ n1_
                                      (try clear hb)
                                      (try clear hb2)
                                      (try clear hk)
                                      (try clear hi)
                                      refine hK.out _ _ ⟨HS0_, HS1_⟩ (fun hHeld => ?_)
                                      clear hK K
                                      refine norm_ (a' := ?_) ?_ ?_
                                      rotate_left
                                      · show Act.put _ (some 94) _ = _
                                        simp only [Act.put, List.setIfInBounds_toArray, List.set_cons_zero, List.set_cons_succ, i64_w, i32_w]
                                        rfl
                                      refine pure_ (i := 9) (N := some 85) (v := ?_) (a' := ?_) #[true, true, true, true, true, true, true, true, true, true, false, false, false, false] rfl rfl (any_of HT_.out (by kernel_rfl)) (fun _ _ _ h => h) (Or.inl ⟨by rfl, ?_⟩) ?_ ?_
                                      rotate_left
                                      · intro w'
                                        go_simp
                                        with_reducible rfl
                                      rotate_left
                                      · simp only [Act.put, List.setIfInBounds_toArray, List.set_cons_zero, List.set_cons_succ, i64_w, i32_w]
                                        rfl
                                      refine pure_ (i := 10) (N := some 95) (v := ?_) (a' := ?_) #[true, true, true, true, true, true, true, true, true, true, true, false, false, false] rfl rfl (any_of HT_.out (by kernel_rfl)) (fun _ _ _ h => h) (Or.inl ⟨by rfl, ?_⟩) ?_ ?_
                                      rotate_left
                                      · intro w'
                                        go_simp
                                        with_reducible rfl
                                      rotate_left
                                      · simp only [Act.put, List.setIfInBounds_toArray, List.set_cons_zero, List.set_cons_succ, i64_w, i32_w]
                                        rfl
                                      refine pure_ (i := 11) (N := some 96) (v := ?_) (a' := ?_) #[true, true, true, true, true, true, true, true, true, true, true, true, false, false] rfl rfl (any_of HT_.out (by kernel_rfl)) (fun _ _ _ h => h) (Or.inl ⟨by rfl, ?_⟩) ?_ ?_
                                      rotate_left
                                      · intro w'
                                        go_simp
                                        with_reducible rfl
                                      rotate_left
                                      · simp only [Act.put, List.setIfInBounds_toArray, List.set_cons_zero, List.set_cons_succ, i64_w, i32_w]
                                        rfl
                                      refine pure_ (i := 12) (N := some 16) (v := ?_) (a' := ?_) #[true, true, true, true, true, true, true, true, true, true, true, true, true, false] rfl rfl (any_of HT_.out (by kernel_rfl)) (fun _ _ _ h => h) (Or.inl ⟨by rfl, ?_⟩) ?_ ?_
                                      rotate_left
                                      · intro w'
                                        go_simp
                                        with_reducible rfl
                                      rotate_left
                                      · simp only [Act.put, List.setIfInBounds_toArray, List.set_cons_zero, List.set_cons_succ, i64_w, i32_w]
                                        rfl
                                      refine pure_ (i := 13) (N := some 17) (v := ?_) (a' := ?_) #[true, true, true, true, true, true, true, true, true, true, true, true, true, true] rfl rfl (any_of HT_.out (by kernel_rfl)) (fun _ _ _ h => h) (Or.inl ⟨by rfl, ?_⟩) ?_ ?_
                                      rotate_left
                                      · intro w'
                                        go_simp
                                        with_reducible rfl
                                      rotate_left
                                      · simp only [Act.put, List.setIfInBounds_toArray, List.set_cons_zero, List.set_cons_succ, i64_w, i32_w]
                                        rfl
                                      refine done_ (done_of HT_.out (by kernel_rfl)) ?_
                                      have p424 : 0 ≤ (x50_1 : Int) := of_decide_eq_true (by first | (with_reducible assumption) | assumption)
                                      have q424 : x50_1 < (t402.length : Int) := of_decide_eq_true (by first | (with_reducible assumption) | assumption)
                                      obtain ⟨ad424, e424, hx424_0, hx424_1⟩ := at_T29 (Kd.R_reads' HO_7.out).2.2 x50_1 p424 q424
                                      obtain rfl : ad414 = ad424 := (by injection e424)
                                      replace p424 := eq_true p424
                                      replace q424 := eq_true q424
                                      try go_wp2
                                      go_roundg k4
                                      case measure => have := HK1.out; have := HJ23.out; have := HJ26.out; have := HK4.out; omega
                                      case rel => exact ⟨(wrap64 (x15_4 + 1)), (by first | rfl | (simp; done) | (simp [*]; done)), H', ⟨by have := HK1.out; have := HJ23.out; have := HJ26.out; have := HK4.out; omega⟩, ⟨by (with_reducible repeat (first | apply Kd.R_alloc | apply Kd.R_drewN | apply Kd.R_drew)); exact HO_7.out⟩, ⟨by repeat (first | (with_reducible first | exact HB.out | apply below_alloc | apply pw_below_drewN | apply below_drew1) | exact HB.out)⟩⟩
                                    · rw [if_neg c36] at H
                                      exact absurd H (by simp)
                                  · replace c35 := Bool.eq_false_iff.mpr c35
                                    subst c35
                                    have H1 : (none) = some r := by rw [if_neg (show ¬ (false = true) by decide)] at H; exact H
                                    clear H
                                    have H := H1
                                    clear H1
                                    exact absurd H (by simp)
                                · rw [if_neg c33] at H
                                  exact absurd H (by simp)
                              · rw [if_neg c32] at H
                                exact absurd H (by simp)
                            · rw [if_neg c30] at H
                              have c30b0 : decide (x15_4 ≤ 3) = false := decide_eq_false c30
                              clear c30
                              have H' := Aside0.mk H
                              clear H
                              go_wp2
                              go_roundg k4
                              case measure => have := HK1.out; have := HJ23.out; have := HJ26.out; have := HK4.out; omega
                              case rel => exact ⟨(x11_23), (x12_26), (wrap64 (x50_1 + 1)), (by first | rfl | (simp; done) | (simp [*]; done)), (by first | rfl | (simp; done) | (simp [*]; done)), (by first | rfl | (simp; done) | (simp [*]; done)), H', ⟨by have := HK1.out; have := HJ23.out; have := HJ26.out; have := HK4.out; omega⟩, ⟨by (with_reducible repeat (first | apply Kd.R_alloc | apply Kd.R_drewN | apply Kd.R_drew)); exact HO_7.out⟩, ⟨by repeat (first | (with_reducible first | exact HB.out | apply below_alloc | apply pw_below_drewN | apply below_drew1) | exact HB.out)⟩⟩
              · rw [if_neg c23] at H
                exact absurd H (by simp)
            · rw [if_neg c22] at H
              exact absurd H (by simp)
          · rw [if_neg c21] at H
            have c21b0 : decide (x50_1 < (t402.length : Int)) = false := decide_eq_false c21
            clear c21
            replace H := Option.bind_eq_some_iff.mp H
            obtain ⟨⟨t425, t426, t427, t428, t429⟩, A400, H⟩ := H
            replace H : ((resample_At.f k1 t402 t425 t426 t427 t428 t429 (wrap64 (((rd_T29 t402 0).f0) + (wrap64 (a1))))).bind fun bt430 => ((shapesearchlaw08_grid.f 2 (wrap64 (a2))).bind fun bt432 => ((resample_At.f k1 t402 bt432.1 bt432.2.1 bt432.2.2.1 bt432.2.2.2.1 bt432.2.2.2.2 (wrap64 (((rd_T29 t402 0).f0) + (wrap64 (a1))))).bind fun bt437 => ((shapesearchlaw08_grid.f 3 (wrap64 (a2))).bind fun bt439 => ((resample_At.f k1 t402 bt439.1 bt439.2.1 bt439.2.2.1 bt439.2.2.2.1 bt439.2.2.2.2 (wrap64 (((rd_T29 t402 0).f0) + (wrap64 (a1))))).bind fun bt444 => (if (bt430.2 == x11_1) = true then (if (bt437.2 == x12_1) = true then (if bt444.2 = true then (if bt430.2 = true then (if bt437.2 = true then ((shapesearchlaw08_awake.f k1).bind fun t446 => (some t446)) else (none)) else (none)) else ((shapesearchlaw08_awake.f k1).bind fun t447 => (some t447))) else (none)) else (none))))))) = some r := H
            have A40 := Aside0.mk A400
            clear A400
            replace H := Option.bind_eq_some_iff.mp H
            obtain ⟨⟨t430, t431⟩, A410, H⟩ := H
            replace H : ((shapesearchlaw08_grid.f 2 (wrap64 (a2))).bind fun bt432 => ((resample_At.f k1 t402 bt432.1 bt432.2.1 bt432.2.2.1 bt432.2.2.2.1 bt432.2.2.2.2 (wrap64 (((rd_T29 t402 0).f0) + (wrap64 (a1))))).bind fun bt437 => ((shapesearchlaw08_grid.f 3 (wrap64 (a2))).bind fun bt439 => ((resample_At.f k1 t402 bt439.1 bt439.2.1 bt439.2.2.1 bt439.2.2.2.1 bt439.2.2.2.2 (wrap64 (((rd_T29 t402 0).f0) + (wrap64 (a1))))).bind fun bt444 => (if (t431 == x11_1) = true then (if (bt437.2 == x12_1) = true then (if bt444.2 = true then (if t431 = true then (if bt437.2 = true then ((shapesearchlaw08_awake.f k1).bind fun t446 => (some t446)) else (none)) else (none)) else ((shapesearchlaw08_awake.f k1).bind fun t447 => (some t447))) else (none)) else (none)))))) = some r := H
            have A41 := Aside0.mk A410
            clear A410
            replace H := Option.bind_eq_some_iff.mp H
            obtain ⟨⟨t432, t433, t434, t435, t436⟩, A420, H⟩ := H
            replace H : ((resample_At.f k1 t402 t432 t433 t434 t435 t436 (wrap64 (((rd_T29 t402 0).f0) + (wrap64 (a1))))).bind fun bt437 => ((shapesearchlaw08_grid.f 3 (wrap64 (a2))).bind fun bt439 => ((resample_At.f k1 t402 bt439.1 bt439.2.1 bt439.2.2.1 bt439.2.2.2.1 bt439.2.2.2.2 (wrap64 (((rd_T29 t402 0).f0) + (wrap64 (a1))))).bind fun bt444 => (if (t431 == x11_1) = true then (if (bt437.2 == x12_1) = true then (if bt444.2 = true then (if t431 = true then (if bt437.2 = true then ((shapesearchlaw08_awake.f k1).bind fun t446 => (some t446)) else (none)) else (none)) else ((shapesearchlaw08_awake.f k1).bind fun t447 => (some t447))) else (none)) else (none))))) = some r := H
            have A42 := Aside0.mk A420
            clear A420
            replace H := Option.bind_eq_some_iff.mp H
            obtain ⟨⟨t437, t438⟩, A430, H⟩ := H
            replace H : ((shapesearchlaw08_grid.f 3 (wrap64 (a2))).bind fun bt439 => ((resample_At.f k1 t402 bt439.1 bt439.2.1 bt439.2.2.1 bt439.2.2.2.1 bt439.2.2.2.2 (wrap64 (((rd_T29 t402 0).f0) + (wrap64 (a1))))).bind fun bt444 => (if (t431 == x11_1) = true then (if (t438 == x12_1) = true then (if bt444.2 = true then (if t431 = true then (if t438 = true then ((shapesearchlaw08_awake.f k1).bind fun t446 => (some t446)) else (none)) else (none)) else ((shapesearchlaw08_awake.f k1).bind fun t447 => (some t447))) else (none)) else (none)))) = some r := H
            have A43 := Aside0.mk A430
            clear A430
            replace H := Option.bind_eq_some_iff.mp H
            obtain ⟨⟨t439, t440, t441, t442, t443⟩, A440, H⟩ := H
            replace H : ((resample_At.f k1 t402 t439 t440 t441 t442 t443 (wrap64 (((rd_T29 t402 0).f0) + (wrap64 (a1))))).bind fun bt444 => (if (t431 == x11_1) = true then (if (t438 == x12_1) = true then (if bt444.2 = true then (if t431 = true then (if t438 = true then ((shapesearchlaw08_awake.f k1).bind fun t446 => (some t446)) else (none)) else (none)) else ((shapesearchlaw08_awake.f k1).bind fun t447 => (some t447))) else (none)) else (none))) = some r := H
            have A44 := Aside0.mk A440
            clear A440
            replace H := Option.bind_eq_some_iff.mp H
            obtain ⟨⟨t444, t445⟩, A450, H⟩ := H
            replace H : (if (t431 == x11_1) = true then (if (t438 == x12_1) = true then (if t445 = true then (if t431 = true then (if t438 = true then ((shapesearchlaw08_awake.f k1).bind fun t446 => (some t446)) else (none)) else (none)) else ((shapesearchlaw08_awake.f k1).bind fun t447 => (some t447))) else (none)) else (none)) = some r := H
            have A45 := Aside0.mk A450
            clear A450
            by_cases c46 : (t431 == x11_1) = true
            · rw [if_pos c46] at H
              have c46b0 : (t431 == x11_1) = true := c46
              (try (have c46b1 : decide (t431 = x11_1) = true := by simpa using c46))
              (try (have c46b2 : (t431 == x11_1) = true := by simpa using c46))
              clear c46
              by_cases c47 : (t438 == x12_1) = true
              · rw [if_pos c47] at H
                have c47b0 : (t438 == x12_1) = true := c47
                (try (have c47b1 : decide (t438 = x12_1) = true := by simpa using c47))
                (try (have c47b2 : (t438 == x12_1) = true := by simpa using c47))
                clear c47
                by_cases c48 : t445 = true
                · subst c48
                  have H1 : (if t431 = true then (if t438 = true then ((shapesearchlaw08_awake.f k1).bind fun t446 => (some t446)) else (none)) else (none)) = some r := by rw [if_pos rfl] at H; exact H
                  clear H
                  have H := H1
                  clear H1
                  by_cases c49 : t431 = true
                  · subst c49
                    have H1 : (if t438 = true then ((shapesearchlaw08_awake.f k1).bind fun t446 => (some t446)) else (none)) = some r := by rw [if_pos rfl] at H; exact H
                    clear H
                    have H := H1
                    clear H1
                    by_cases c50 : t438 = true
                    · subst c50
                      have H1 : ((shapesearchlaw08_awake.f k1).bind fun t446 => (some t446)) = some r := by rw [if_pos rfl] at H; exact H
                      clear H
                      have H := H1
                      clear H1
                      replace H := Option.bind_eq_some_iff.mp H
                      obtain ⟨t446, A510, H⟩ := H
                      replace H : (some t446) = some r := H
                      have A51 := Aside0.mk A510
                      clear A510
                      obtain rfl := Option.some.inj H
                      go_wp2_with (first | ((with_reducible refine gate_callee (f := 25) rfl ?_); refine goesL_ (some 113) rfl rfl Try.func25 (by kernel_rfl) rfl #[.int .i64 1, .int .i64 (wrap64 (a2))] rfl (by (try simp only [List.map_toArray, List.map_cons, List.map_nil]); first | done | rfl | (simp only [List.length_drop, List.length_take]; rfl)) ?_; (with_reducible refine (shapesearchlaw08_grid.calls 1 (wrap64 (a2)) t425 t426 t427 t428 t429 _ A40.out).mono ?_); rintro e w52 ⟨rfl, hb⟩; refine ⟨_, rfl, ?_⟩; have n0_ := Aside0.mk (Kd.R_below (by (with_reducible repeat (first | apply Kd.R_alloc | apply Kd.R_drewN | apply Kd.R_drew)); exact HO_7.out) hb); have n1_ := Aside0.mk (below_step (by repeat (first | (with_reducible first | exact HB.out | apply below_alloc | apply pw_below_drewN | apply below_drew1) | exact HB.out)) hb); clear HO_7; clear HB; have HO_7 := n0_; have HB := n1_; clear n0_ n1_; (try clear hb); (try clear hb2); (try clear hk); (try clear hi)) | ((with_reducible refine gate_callee (f := 23) rfl ?_); refine goesL_ (some 115) rfl rfl Try.func23 (by kernel_rfl) rfl #[.slice (some ad414) t402.length co20, .agg #[.int .i64 t425, .int .i64 t426, .int .i64 t427, .int .i64 t428, .int .i64 t429], .int .i64 (wrap64 (((rd_T29 t402 0).f0) + (wrap64 (a1))))] rfl (by (try simp only [List.map_toArray, List.map_cons, List.map_nil]); first | done | rfl | (simp only [List.length_drop, List.length_take]; rfl)) ?_; (with_reducible refine (resample_At.calls k1 _ _ t402 t425 t426 t427 t428 t429 (wrap64 (((rd_T29 t402 0).f0) + (wrap64 (a1)))) t430 true _ ?side1 ?side2 A41.out).mono ?_); (case side1 => repeat (first | exact (Kd.R_reads' HO_7.out).2.2 | (with_reducible refine Kd.C_alloc ?_ _) | (with_reducible refine Kd.C_drewN ?_ _) | (with_reducible refine Kd.C_drew ?_))); (case side2 => exact (Kd.R_reads' HO_7.out).2.1); rintro e w53 ⟨rfl, hb⟩; refine ⟨_, rfl, ?_⟩; have n0_ := Aside0.mk (Kd.R_below (by (with_reducible repeat (first | apply Kd.R_alloc | apply Kd.R_drewN | apply Kd.R_drew)); exact HO_7.out) hb); have n1_ := Aside0.mk (below_step (by repeat (first | (with_reducible first | exact HB.out | apply below_alloc | apply pw_below_drewN | apply below_drew1) | exact HB.out)) hb); clear HO_7; clear HB; have HO_7 := n0_; have HB := n1_; clear n0_ n1_; (try clear hb); (try clear hb2); (try clear hk); (try clear hi)) | ((with_reducible refine gate_callee (f := 25) rfl ?_); refine goesL_ (some 122) rfl rfl Try.func25 (by kernel_rfl) rfl #[.int .i64 2, .int .i64 (wrap64 (a2))] rfl (by (try simp only [List.map_toArray, List.map_cons, List.map_nil]); first | done | rfl | (simp only [List.length_drop, List.length_take]; rfl)) ?_; (with_reducible refine (shapesearchlaw08_grid.calls 2 (wrap64 (a2)) t432 t433 t434 t435 t436 _ A42.out).mono ?_); rintro e w54 ⟨rfl, hb⟩; refine ⟨_, rfl, ?_⟩; have n0_ := Aside0.mk (Kd.R_below (by (with_reducible repeat (first | apply Kd.R_alloc | apply Kd.R_drewN | apply Kd.R_drew)); exact HO_7.out) hb); have n1_ := Aside0.mk (below_step (by repeat (first | (with_reducible first | exact HB.out | apply below_alloc | apply pw_below_drewN | apply below_drew1) | exact HB.out)) hb); clear HO_7; clear HB; have HO_7 := n0_; have HB := n1_; clear n0_ n1_; (try clear hb); (try clear hb2); (try clear hk); (try clear hi)) | ((with_reducible refine gate_callee (f := 23) rfl ?_); refine goesL_ (some 124) rfl rfl Try.func23 (by kernel_rfl) rfl #[.slice (some ad414) t402.length co20, .agg #[.int .i64 t432, .int .i64 t433, .int .i64 t434, .int .i64 t435, .int .i64 t436], .int .i64 (wrap64 (((rd_T29 t402 0).f0) + (wrap64 (a1))))] rfl (by (try simp only [List.map_toArray, List.map_cons, List.map_nil]); first | done | rfl | (simp only [List.length_drop, List.length_take]; rfl)) ?_; (with_reducible refine (resample_At.calls k1 _ _ t402 t432 t433 t434 t435 t436 (wrap64 (((rd_T29 t402 0).f0) + (wrap64 (a1)))) t437 true _ ?side1 ?side2 A43.out).mono ?_); (case side1 => repeat (first | exact (Kd.R_reads' HO_7.out).2.2 | (with_reducible refine Kd.C_alloc ?_ _) | (with_reducible refine Kd.C_drewN ?_ _) | (with_reducible refine Kd.C_drew ?_))); (case side2 => exact (Kd.R_reads' HO_7.out).2.1); rintro e w55 ⟨rfl, hb⟩; refine ⟨_, rfl, ?_⟩; have n0_ := Aside0.mk (Kd.R_below (by (with_reducible repeat (first | apply Kd.R_alloc | apply Kd.R_drewN | apply Kd.R_drew)); exact HO_7.out) hb); have n1_ := Aside0.mk (below_step (by repeat (first | (with_reducible first | exact HB.out | apply below_alloc | apply pw_below_drewN | apply below_drew1) | exact HB.out)) hb); clear HO_7; clear HB; have HO_7 := n0_; have HB := n1_; clear n0_ n1_; (try clear hb); (try clear hb2); (try clear hk); (try clear hi)) | ((with_reducible refine gate_callee (f := 25) rfl ?_); refine goesL_ (some 131) rfl rfl Try.func25 (by kernel_rfl) rfl #[.int .i64 3, .int .i64 (wrap64 (a2))] rfl (by (try simp only [List.map_toArray, List.map_cons, List.map_nil]); first | done | rfl | (simp only [List.length_drop, List.length_take]; rfl)) ?_; (with_reducible refine (shapesearchlaw08_grid.calls 3 (wrap64 (a2)) t439 t440 t441 t442 t443 _ A44.out).mono ?_); rintro e w56 ⟨rfl, hb⟩; refine ⟨_, rfl, ?_⟩; have n0_ := Aside0.mk (Kd.R_below (by (with_reducible repeat (first | apply Kd.R_alloc | apply Kd.R_drewN | apply Kd.R_drew)); exact HO_7.out) hb); have n1_ := Aside0.mk (below_step (by repeat (first | (with_reducible first | exact HB.out | apply below_alloc | apply pw_below_drewN | apply below_drew1) | exact HB.out)) hb); clear HO_7; clear HB; have HO_7 := n0_; have HB := n1_; clear n0_ n1_; (try clear hb); (try clear hb2); (try clear hk); (try clear hi)) | ((with_reducible refine gate_callee (f := 23) rfl ?_); refine goesL_ (some 133) rfl rfl Try.func23 (by kernel_rfl) rfl #[.slice (some ad414) t402.length co20, .agg #[.int .i64 t439, .int .i64 t440, .int .i64 t441, .int .i64 t442, .int .i64 t443], .int .i64 (wrap64 (((rd_T29 t402 0).f0) + (wrap64 (a1))))] rfl (by (try simp only [List.map_toArray, List.map_cons, List.map_nil]); first | done | rfl | (simp only [List.length_drop, List.length_take]; rfl)) ?_; (with_reducible refine (resample_At.calls k1 _ _ t402 t439 t440 t441 t442 t443 (wrap64 (((rd_T29 t402 0).f0) + (wrap64 (a1)))) t444 true _ ?side1 ?side2 A45.out).mono ?_); (case side1 => repeat (first | exact (Kd.R_reads' HO_7.out).2.2 | (with_reducible refine Kd.C_alloc ?_ _) | (with_reducible refine Kd.C_drewN ?_ _) | (with_reducible refine Kd.C_drew ?_))); (case side2 => exact (Kd.R_reads' HO_7.out).2.1); rintro e w57 ⟨rfl, hb⟩; refine ⟨_, rfl, ?_⟩; have n0_ := Aside0.mk (Kd.R_below (by (with_reducible repeat (first | apply Kd.R_alloc | apply Kd.R_drewN | apply Kd.R_drew)); exact HO_7.out) hb); have n1_ := Aside0.mk (below_step (by repeat (first | (with_reducible first | exact HB.out | apply below_alloc | apply pw_below_drewN | apply below_drew1) | exact HB.out)) hb); clear HO_7; clear HB; have HO_7 := n0_; have HB := n1_; clear n0_ n1_; (try clear hb); (try clear hb2); (try clear hk); (try clear hi)) | (go_at_call 11; (with_reducible refine (shapesearchlaw08_awake.calls k1  t446 _ A51.out).mono ?_); rintro e w58 ⟨rfl, hb⟩; have n0_ := Aside0.mk (Kd.R_below (by (with_reducible repeat (first | apply Kd.R_alloc | apply Kd.R_drewN | apply Kd.R_drew)); exact HO_7.out) hb); have n1_ := Aside0.mk (below_step (by repeat (first | (with_reducible first | exact HB.out | apply below_alloc | apply pw_below_drewN | apply below_drew1) | exact HB.out)) hb); clear HO_7; clear HB; have HO_7 := n0_; have HB := n1_; clear n0_ n1_; (try clear hb); (try clear hb2); (try clear hk); (try clear hi)))
                      go_ret
                      exact ⟨by first | rfl | (simp [errW_none, errW_some] <;> rfl) | (simp [*, errW_none, errW_some] <;> rfl), by repeat (first | (with_reducible first | exact HB.out | apply below_alloc | apply pw_below_drewN | apply below_drew1) | exact HB.out)⟩
                    · replace c50 := Bool.eq_false_iff.mpr c50
                      subst c50
                      have H1 : (none) = some r := by rw [if_neg (show ¬ (false = true) by decide)] at H; exact H
                      clear H
                      have H := H1
                      clear H1
                      exact absurd H (by simp)
                  · replace c49 := Bool.eq_false_iff.mpr c49
                    subst c49
                    have H1 : (none) = some r := by rw [if_neg (show ¬ (false = true) by decide)] at H; exact H
                    clear H
                    have H := H1
                    clear H1
                    exact absurd H (by simp)
                · replace c48 := Bool.eq_false_iff.mpr c48
                  subst c48
                  have H1 : ((shapesearchlaw08_awake.f k1).bind fun t447 => (some t447)) = some r := by rw [if_neg (show ¬ (false = true) by decide)] at H; exact H
                  clear H
                  have H := H1
                  clear H1
                  replace H := Option.bind_eq_some_iff.mp H
                  obtain ⟨t447, A590, H⟩ := H
                  replace H : (some t447) = some r := H
                  have A59 := Aside0.mk A590
                  clear A590
                  obtain rfl := Option.some.inj H
                  go_wp2_with (first | ((with_reducible refine gate_callee (f := 25) rfl ?_); refine goesL_ (some 113) rfl rfl Try.func25 (by kernel_rfl) rfl #[.int .i64 1, .int .i64 (wrap64 (a2))] rfl (by (try simp only [List.map_toArray, List.map_cons, List.map_nil]); first | done | rfl | (simp only [List.length_drop, List.length_take]; rfl)) ?_; (with_reducible refine (shapesearchlaw08_grid.calls 1 (wrap64 (a2)) t425 t426 t427 t428 t429 _ A40.out).mono ?_); rintro e w60 ⟨rfl, hb⟩; refine ⟨_, rfl, ?_⟩; have n0_ := Aside0.mk (Kd.R_below (by (with_reducible repeat (first | apply Kd.R_alloc | apply Kd.R_drewN | apply Kd.R_drew)); exact HO_7.out) hb); have n1_ := Aside0.mk (below_step (by repeat (first | (with_reducible first | exact HB.out | apply below_alloc | apply pw_below_drewN | apply below_drew1) | exact HB.out)) hb); clear HO_7; clear HB; have HO_7 := n0_; have HB := n1_; clear n0_ n1_; (try clear hb); (try clear hb2); (try clear hk); (try clear hi)) | ((with_reducible refine gate_callee (f := 23) rfl ?_); refine goesL_ (some 115) rfl rfl Try.func23 (by kernel_rfl) rfl #[.slice (some ad414) t402.length co20, .agg #[.int .i64 t425, .int .i64 t426, .int .i64 t427, .int .i64 t428, .int .i64 t429], .int .i64 (wrap64 (((rd_T29 t402 0).f0) + (wrap64 (a1))))] rfl (by (try simp only [List.map_toArray, List.map_cons, List.map_nil]); first | done | rfl | (simp only [List.length_drop, List.length_take]; rfl)) ?_; (with_reducible refine (resample_At.calls k1 _ _ t402 t425 t426 t427 t428 t429 (wrap64 (((rd_T29 t402 0).f0) + (wrap64 (a1)))) t430 t431 _ ?side1 ?side2 A41.out).mono ?_); (case side1 => repeat (first | exact (Kd.R_reads' HO_7.out).2.2 | (with_reducible refine Kd.C_alloc ?_ _) | (with_reducible refine Kd.C_drewN ?_ _) | (with_reducible refine Kd.C_drew ?_))); (case side2 => exact (Kd.R_reads' HO_7.out).2.1); rintro e w61 ⟨rfl, hb⟩; refine ⟨_, rfl, ?_⟩; have n0_ := Aside0.mk (Kd.R_below (by (with_reducible repeat (first | apply Kd.R_alloc | apply Kd.R_drewN | apply Kd.R_drew)); exact HO_7.out) hb); have n1_ := Aside0.mk (below_step (by repeat (first | (with_reducible first | exact HB.out | apply below_alloc | apply pw_below_drewN | apply below_drew1) | exact HB.out)) hb); clear HO_7; clear HB; have HO_7 := n0_; have HB := n1_; clear n0_ n1_; (try clear hb); (try clear hb2); (try clear hk); (try clear hi)) | ((with_reducible refine gate_callee (f := 25) rfl ?_); refine goesL_ (some 122) rfl rfl Try.func25 (by kernel_rfl) rfl #[.int .i64 2, .int .i64 (wrap64 (a2))] rfl (by (try simp only [List.map_toArray, List.map_cons, List.map_nil]); first | done | rfl | (simp only [List.length_drop, List.length_take]; rfl)) ?_; (with_reducible refine (shapesearchlaw08_grid.calls 2 (wrap64 (a2)) t432 t433 t434 t435 t436 _ A42.out).mono ?_); rintro e w62 ⟨rfl, hb⟩; refine ⟨_, rfl, ?_⟩; have n0_ := Aside0.mk (Kd.R_below (by (with_reducible repeat (first | apply Kd.R_alloc | apply Kd.R_drewN | apply Kd.R_drew)); exact HO_7.out) hb); have n1_ := Aside0.mk (below_step (by repeat (first | (with_reducible first | exact HB.out | apply below_alloc | apply pw_below_drewN | apply below_drew1) | exact HB.out)) hb); clear HO_7; clear HB; have HO_7 := n0_; have HB := n1_; clear n0_ n1_; (try clear hb); (try clear hb2); (try clear hk); (try clear hi)) | ((with_reducible refine gate_callee (f := 23) rfl ?_); refine goesL_ (some 124) rfl rfl Try.func23 (by kernel_rfl) rfl #[.slice (some ad414) t402.length co20, .agg #[.int .i64 t432, .int .i64 t433, .int .i64 t434, .int .i64 t435, .int .i64 t436], .int .i64 (wrap64 (((rd_T29 t402 0).f0) + (wrap64 (a1))))] rfl (by (try simp only [List.map_toArray, List.map_cons, List.map_nil]); first | done | rfl | (simp only [List.length_drop, List.length_take]; rfl)) ?_; (with_reducible refine (resample_At.calls k1 _ _ t402 t432 t433 t434 t435 t436 (wrap64 (((rd_T29 t402 0).f0) + (wrap64 (a1)))) t437 t438 _ ?side1 ?side2 A43.out).mono ?_); (case side1 => repeat (first | exact (Kd.R_reads' HO_7.out).2.2 | (with_reducible refine Kd.C_alloc ?_ _) | (with_reducible refine Kd.C_drewN ?_ _) | (with_reducible refine Kd.C_drew ?_))); (case side2 => exact (Kd.R_reads' HO_7.out).2.1); rintro e w63 ⟨rfl, hb⟩; refine ⟨_, rfl, ?_⟩; have n0_ := Aside0.mk (Kd.R_below (by (with_reducible repeat (first | apply Kd.R_alloc | apply Kd.R_drewN | apply Kd.R_drew)); exact HO_7.out) hb); have n1_ := Aside0.mk (below_step (by repeat (first | (with_reducible first | exact HB.out | apply below_alloc | apply pw_below_drewN | apply below_drew1) | exact HB.out)) hb); clear HO_7; clear HB; have HO_7 := n0_; have HB := n1_; clear n0_ n1_; (try clear hb); (try clear hb2); (try clear hk); (try clear hi)) | ((with_reducible refine gate_callee (f := 25) rfl ?_); refine goesL_ (some 131) rfl rfl Try.func25 (by kernel_rfl) rfl #[.int .i64 3, .int .i64 (wrap64 (a2))] rfl (by (try simp only [List.map_toArray, List.map_cons, List.map_nil]); first | done | rfl | (simp only [List.length_drop, List.length_take]; rfl)) ?_; (with_reducible refine (shapesearchlaw08_grid.calls 3 (wrap64 (a2)) t439 t440 t441 t442 t443 _ A44.out).mono ?_); rintro e w64 ⟨rfl, hb⟩; refine ⟨_, rfl, ?_⟩; have n0_ := Aside0.mk (Kd.R_below (by (with_reducible repeat (first | apply Kd.R_alloc | apply Kd.R_drewN | apply Kd.R_drew)); exact HO_7.out) hb); have n1_ := Aside0.mk (below_step (by repeat (first | (with_reducible first | exact HB.out | apply below_alloc | apply pw_below_drewN | apply below_drew1) | exact HB.out)) hb); clear HO_7; clear HB; have HO_7 := n0_; have HB := n1_; clear n0_ n1_; (try clear hb); (try clear hb2); (try clear hk); (try clear hi)) | ((with_reducible refine gate_callee (f := 23) rfl ?_); refine goesL_ (some 133) rfl rfl Try.func23 (by kernel_rfl) rfl #[.slice (some ad414) t402.length co20, .agg #[.int .i64 t439, .int .i64 t440, .int .i64 t441, .int .i64 t442, .int .i64 t443], .int .i64 (wrap64 (((rd_T29 t402 0).f0) + (wrap64 (a1))))] rfl (by (try simp only [List.map_toArray, List.map_cons, List.map_nil]); first | done | rfl | (simp only [List.length_drop, List.length_take]; rfl)) ?_; (with_reducible refine (resample_At.calls k1 _ _ t402 t439 t440 t441 t442 t443 (wrap64 (((rd_T29 t402 0).f0) + (wrap64 (a1)))) t444 false _ ?side1 ?side2 A45.out).mono ?_); (case side1 => repeat (first | exact (Kd.R_reads' HO_7.out).2.2 | (with_reducible refine Kd.C_alloc ?_ _) | (with_reducible refine Kd.C_drewN ?_ _) | (with_reducible refine Kd.C_drew ?_))); (case side2 => exact (Kd.R_reads' HO_7.out).2.1); rintro e w65 ⟨rfl, hb⟩; refine ⟨_, rfl, ?_⟩; have n0_ := Aside0.mk (Kd.R_below (by (with_reducible repeat (first | apply Kd.R_alloc | apply Kd.R_drewN | apply Kd.R_drew)); exact HO_7.out) hb); have n1_ := Aside0.mk (below_step (by repeat (first | (with_reducible first | exact HB.out | apply below_alloc | apply pw_below_drewN | apply below_drew1) | exact HB.out)) hb); clear HO_7; clear HB; have HO_7 := n0_; have HB := n1_; clear n0_ n1_; (try clear hb); (try clear hb2); (try clear hk); (try clear hi)) | (go_at_call 11; (with_reducible refine (shapesearchlaw08_awake.calls k1  t447 _ A59.out).mono ?_); rintro e w66 ⟨rfl, hb⟩; have n0_ := Aside0.mk (Kd.R_below (by (with_reducible repeat (first | apply Kd.R_alloc | apply Kd.R_drewN | apply Kd.R_drew)); exact HO_7.out) hb); have n1_ := Aside0.mk (below_step (by repeat (first | (with_reducible first | exact HB.out | apply below_alloc | apply pw_below_drewN | apply below_drew1) | exact HB.out)) hb); clear HO_7; clear HB; have HO_7 := n0_; have HB := n1_; clear n0_ n1_; (try clear hb); (try clear hb2); (try clear hk); (try clear hi)))
                  go_ret
                  exact ⟨by first | rfl | (simp [errW_none, errW_some] <;> rfl) | (simp [*, errW_none, errW_some] <;> rfl), by repeat (first | (with_reducible first | exact HB.out | apply below_alloc | apply pw_below_drewN | apply below_drew1) | exact HB.out)⟩
              · rw [if_neg c47] at H
                exact absurd H (by simp)
            · rw [if_neg c46] at H
              exact absurd H (by simp)
    · rw [if_neg c17] at H
      exact absurd H (by simp)

/-- THE ONE PURE STATEMENT of shapesearchlaw08_ResampleRules: yours. -/
def shapesearchlaw08_ResampleRules.Pure : Prop := ∀ (l0 : List Int) (a1 : Int) (a2 : Int), l0.length ≤ maxLen → l0.length * 8 ≤ 140737488351232 → (∀ x ∈ l0, (Lit.int .i64 x).wf = true) → (Lit.int .u8 a1).wf = true → (Lit.int .u8 a2).wf = true → ∃ k, shapesearchlaw08_ResampleRules.f k l0 a1 a2 = some true
theorem shapesearchlaw08_ResampleRules.walk (P : shapesearchlaw08_ResampleRules.Pure) (a0 : Option Addr) (len0 cap0 : Nat) (z0 : List Int) (a1 : Int) (a2 : Int) (w : World) (w0 : (a0 = none ∧ len0 = 0 ∧ cap0 = 0 ∧ z0 = []) ∨ ∃ x, a0 = some x ∧ len0 ≤ cap0 ∧ cap0 ≤ maxLen ∧ z0.length = cap0 ∧ (∀ i, i < z0.length → w.cell? (x.add i) = some (.int .i64 (z0.getD i 0))) ∧ ∀ n ∈ z0, (Lit.int .i64 n).wf = true) (y0 : len0 * 8 ≤ 140737488351232) (w1 : (Lit.int .u8 a1).wf = true) (w2 : (Lit.int .u8 a2).wf = true) :
    Calls Try.prog 5 #[.slice a0 len0 cap0, .int .u8 a1, .int .u8 a2] w fun e w' => e = .returned (.bool true) ∧ Below w.heap.size w w' := by
  obtain ⟨l0, rfl, hr0, hm0, hw0, hc0⟩ := ReadsInt.ofRowC w0
  obtain ⟨k, h⟩ := P l0 a1 a2 hm0 y0 hw0 w1 w2
  refine (shapesearchlaw08_ResampleRules.calls k _ _ l0 a1 a2 true w (Kd.C_of_reads (d := (0 : Int)) (h1 := fun _ => rfl) hr0) hc0 h).mono ?_
  rintro e w' ⟨rfl, hd⟩
  exact ⟨rfl, hd⟩

end Go.Proofs.Ytknkiogjibpooab.Hp
