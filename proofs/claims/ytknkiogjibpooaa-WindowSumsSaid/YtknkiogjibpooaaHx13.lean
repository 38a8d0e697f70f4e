-- Written by wip/tools/hprint.py of this session, over the kit's print with hand-made contracts; Lean checks it.
import Derived.Test.YtknkiogjibpooaaHx0
import Derived.Test.YtknkiogjibpooaaHx1
import Derived.Test.YtknkiogjibpooaaHx2
import Derived.Test.YtknkiogjibpooaaHx3
import Derived.Test.YtknkiogjibpooaaHx4
import Derived.Test.YtknkiogjibpooaaHx7
import Derived.Test.YtknkiogjibpooaaHx10
import Derived.Test.YtknkiogjibpooaaHx12
namespace Go.Proofs.Ytknkiogjibpooaa.Hp
open Go.RowKit Go.Proofs.YtknkiogjibpooaaW.PrintWords Go.Proofs.YtknkiogjibpooaaW.PrintLast Go.Proofs.YtknkiogjibpooaaW.PrintMore
attribute [local go_sem] max2_int min2_int max_two min_two max_three min_three max_four min_four   -- for this text's walks alone
attribute [local go_sem] i64_w
set_option linter.unusedVariables false
set_option linter.unusedSimpArgs false

attribute [local go_sem high] eqA33
/-! ### shapesearchlaw11_WindowSums: function 3 -/
def shapesearchlaw11_WindowSums.l0 : Nat → Int → Int → Int → Int → Int → List Int → Int → Int → Int → Int → Int → Option (Bool)
  | 0, _, _, _, _, _, _, _, _, _, _, _ => none
  | k + 1, x9, x12, x14, x15, x16, x56, x57, x58, x246000, x246001, x246002 => if x58 < x57 then (if 0 ≤ x58 then (if x58 < (x56.length : Int) then (shapesearchlaw11_WindowSums.l0 k x9 x12 x14 (wrap64 (x15 + (rd x56 x58))) (wrap64 (x16 + (wrap64 ((rd x56 x58) * (rd x56 x58))))) x56 x57 (wrap64 (x58 + 1)) x246000 x246001 x246002) else (none)) else (none)) else (if x12 = 0 then (if x14 = 0 then (if (x246000 == x9 && (x246001 == x15 && (x246002 == x16))) = true then ((shapesearchlaw11_awake.f k).bind fun t251 => (some t251)) else (some false)) else (some false)) else (some false))
def shapesearchlaw11_WindowSums.f (k : Nat) (l0 : List Int) (a1 : Int) (a2 : Int) : Option (Bool) := (shapesearchkeep_New.f l0).bind fun bt223 => ((shapesearchkeep_Src_Range.f bt223.1 bt223.2 1 60).bind fun bt226 => ((shapesearchkeep_Src_List.f k bt223.1 bt226.2 bt226.1).bind fun bt228 => (if (bt228.1.length : Int) = 0 then (none) else ((shapesearchkeep_Mod.f (wrap64 (a1)) (wrap64 ((wrap64 ((bt228.1.length : Int) - (wrap64 (1 + (Int.tmod (wrap64 (a2)) (bt228.1.length : Int)))))) + 1))).bind fun t232 => ((window_Of.f k bt228.1).bind fun bt233 => ((window_Stats.f k bt233.1 bt233.2.1 t232 (wrap64 (1 + (Int.tmod (wrap64 (a2)) (bt228.1.length : Int))))).bind fun bt241 => (if 0 ≤ t232 then (if t232 ≤ (wrap64 (t232 + (wrap64 (1 + (Int.tmod (wrap64 (a2)) (bt228.1.length : Int)))))) then (if (wrap64 (t232 + (wrap64 (1 + (Int.tmod (wrap64 (a2)) (bt228.1.length : Int)))))) ≤ (bt228.1.length : Int) then ((some ((bt228.1.take ((wrap64 (t232 + (wrap64 (1 + (Int.tmod (wrap64 (a2)) (bt228.1.length : Int)))))) : Int).toNat).drop (t232 : Int).toNat : List Int)).bind fun y246 => (shapesearchlaw11_WindowSums.l0 k (wrap64 (1 + (Int.tmod (wrap64 (a2)) (bt228.1.length : Int)))) bt233.2.2 bt241.2.2.2 0 0 y246 (y246.length : Int) 0 bt241.1 bt241.2.1 bt241.2.2.1)) else (none)) else (none)) else (none))))))))
theorem shapesearchlaw11_WindowSums.mono_l : ∀ k, (∀ y0 y1 y2 y3 y4 y5 y6 y7 y8 y9 y10, LeO (shapesearchlaw11_WindowSums.l0 k y0 y1 y2 y3 y4 y5 y6 y7 y8 y9 y10) (shapesearchlaw11_WindowSums.l0 (k + 1) y0 y1 y2 y3 y4 y5 y6 y7 y8 y9 y10))
  | 0 => fun _ _ _ _ _ _ _ _ _ _ _ r h => by simp [shapesearchlaw11_WindowSums.l0] at h
  | k + 1 => by
    have ih0 := shapesearchlaw11_WindowSums.mono_l k
    · intro y0 y1 y2 y3 y4 y5 y6 y7 y8 y9 y10
      unfold shapesearchlaw11_WindowSums.l0
      repeat' first
      | (with_reducible exact ih0 _ _ _ _ _ _ _ _ _ _ _)
      | (with_reducible exact shapesearchkeep_Src_List.mono _ _ _ _)
      | (with_reducible exact shapesearchlaw11_awake.mono _)
      | (with_reducible exact window_Of.mono _ _)
      | (with_reducible exact window_Stats.mono _ _ _ _ _)
      | (with_reducible exact LeO.refl _)
      | (with_reducible exact LeO.none _)
      | (with_reducible refine LeO.ite ?_ ?_)
      | (with_reducible refine LeO.bind ?_ (fun _ => ?_))
      | exact ih0 _ _ _ _ _ _ _ _ _ _ _
      | exact shapesearchkeep_Src_List.mono _ _ _ _
      | exact shapesearchlaw11_awake.mono _
      | exact window_Of.mono _ _
      | exact window_Stats.mono _ _ _ _ _
      | exact LeO.none _
      | refine LeO.ite ?_ ?_
      | refine LeO.bind ?_ (fun _ => ?_)
theorem shapesearchlaw11_WindowSums.mono : ∀ a0 a1 a2 k, LeO (shapesearchlaw11_WindowSums.f k a0 a1 a2) (shapesearchlaw11_WindowSums.f (k + 1) a0 a1 a2) := by
  intro a0 a1 a2 k
  have ih0 := shapesearchlaw11_WindowSums.mono_l k
  unfold shapesearchlaw11_WindowSums.f
  repeat' first
      | (with_reducible exact ih0 _ _ _ _ _ _ _ _ _ _ _)
      | (with_reducible exact shapesearchkeep_Src_List.mono _ _ _ _)
      | (with_reducible exact shapesearchlaw11_awake.mono _)
      | (with_reducible exact window_Of.mono _ _)
      | (with_reducible exact window_Stats.mono _ _ _ _ _)
      | (with_reducible exact LeO.refl _)
      | (with_reducible exact LeO.none _)
      | (with_reducible refine LeO.ite ?_ ?_)
      | (with_reducible refine LeO.bind ?_ (fun _ => ?_))
      | exact ih0 _ _ _ _ _ _ _ _ _ _ _
      | exact shapesearchkeep_Src_List.mono _ _ _ _
      | exact shapesearchlaw11_awake.mono _
      | exact window_Of.mono _ _
      | exact window_Stats.mono _ _ _ _ _
      | exact LeO.none _
      | refine LeO.ite ?_ ?_
      | refine LeO.bind ?_ (fun _ => ?_)
set_option maxHeartbeats 8000000 in
set_option maxRecDepth 100000 in
theorem shapesearchlaw11_WindowSums.calls (k : Nat) (A0 : Option Addr) (c0 : Nat) (l0 : List Int) (a1 : Int) (a2 : Int) (r : Bool) (w : World) (hr0 : Kd.C (Kd.int .i64) w A0 l0.length l0) (hc0 : l0.length ≤ c0) (h : shapesearchlaw11_WindowSums.f k l0 a1 a2 = some r) :
    Calls Try.prog 3 #[.slice A0 l0.length c0, .int .u8 a1, .int .u8 a2] w fun e w' => e = .returned (.bool r) ∧ Below w.heap.size w w' := by
  have hu28 := Try.underlying28
  have hu33 := Try.underlying33
  have HR0 := Aside0.mk hr0
  have HC0 := Aside0.mk hc0
  clear hr0 hc0
  have HB := Aside0.mk (Below.refl w.heap.size w)
  have H : ((shapesearchkeep_New.f l0).bind fun bt223 => ((shapesearchkeep_Src_Range.f bt223.1 bt223.2 1 60).bind fun bt226 => ((shapesearchkeep_Src_List.f k bt223.1 bt226.2 bt226.1).bind fun bt228 => (if (bt228.1.length : Int) = 0 then (none) else ((shapesearchkeep_Mod.f (wrap64 (a1)) (wrap64 ((wrap64 ((bt228.1.length : Int) - (wrap64 (1 + (Int.tmod (wrap64 (a2)) (bt228.1.length : Int)))))) + 1))).bind fun t232 => ((window_Of.f k bt228.1).bind fun bt233 => ((window_Stats.f k bt233.1 bt233.2.1 t232 (wrap64 (1 + (Int.tmod (wrap64 (a2)) (bt228.1.length : Int))))).bind fun bt241 => (if 0 ≤ t232 then (if t232 ≤ (wrap64 (t232 + (wrap64 (1 + (Int.tmod (wrap64 (a2)) (bt228.1.length : Int)))))) then (if (wrap64 (t232 + (wrap64 (1 + (Int.tmod (wrap64 (a2)) (bt228.1.length : Int)))))) ≤ (bt228.1.length : Int) then ((some ((bt228.1.take ((wrap64 (t232 + (wrap64 (1 + (Int.tmod (wrap64 (a2)) (bt228.1.length : Int)))))) : Int).toNat).drop (t232 : Int).toNat : List Int)).bind fun y246 => (shapesearchlaw11_WindowSums.l0 k (wrap64 (1 + (Int.tmod (wrap64 (a2)) (bt228.1.length : Int)))) bt233.2.2 bt241.2.2.2 0 0 y246 (y246.length : Int) 0 bt241.1 bt241.2.1 bt241.2.2.1)) else (none)) else (none)) else (none))))))))) = some r := h
  clear h
  replace H := Option.bind_eq_some_iff.mp H
  obtain ⟨⟨t223, t224⟩, A40, H⟩ := H
  replace H : ((shapesearchkeep_Src_Range.f t223 t224 1 60).bind fun bt226 => ((shapesearchkeep_Src_List.f k t223 bt226.2 bt226.1).bind fun bt228 => (if (bt228.1.length : Int) = 0 then (none) else ((shapesearchkeep_Mod.f (wrap64 (a1)) (wrap64 ((wrap64 ((bt228.1.length : Int) - (wrap64 (1 + (Int.tmod (wrap64 (a2)) (bt228.1.length : Int)))))) + 1))).bind fun t232 => ((window_Of.f k bt228.1).bind fun bt233 => ((window_Stats.f k bt233.1 bt233.2.1 t232 (wrap64 (1 + (Int.tmod (wrap64 (a2)) (bt228.1.length : Int))))).bind fun bt241 => (if 0 ≤ t232 then (if t232 ≤ (wrap64 (t232 + (wrap64 (1 + (Int.tmod (wrap64 (a2)) (bt228.1.length : Int)))))) then (if (wrap64 (t232 + (wrap64 (1 + (Int.tmod (wrap64 (a2)) (bt228.1.length : Int)))))) ≤ (bt228.1.length : Int) then ((some ((bt228.1.take ((wrap64 (t232 + (wrap64 (1 + (Int.tmod (wrap64 (a2)) (bt228.1.length : Int)))))) : Int).toNat).drop (t232 : Int).toNat : List Int)).bind fun y246 => (shapesearchlaw11_WindowSums.l0 k (wrap64 (1 + (Int.tmod (wrap64 (a2)) (bt228.1.length : Int)))) bt233.2.2 bt241.2.2.2 0 0 y246 (y246.length : Int) 0 bt241.1 bt241.2.1 bt241.2.2.1)) else (none)) else (none)) else (none)))))))) = some r := H
  have A4 := Aside0.mk A40
  clear A40
  replace H := Option.bind_eq_some_iff.mp H
  obtain ⟨⟨t226, t227⟩, A50, H⟩ := H
  replace H : ((shapesearchkeep_Src_List.f k t223 t227 t226).bind fun bt228 => (if (bt228.1.length : Int) = 0 then (none) else ((shapesearchkeep_Mod.f (wrap64 (a1)) (wrap64 ((wrap64 ((bt228.1.length : Int) - (wrap64 (1 + (Int.tmod (wrap64 (a2)) (bt228.1.length : Int)))))) + 1))).bind fun t232 => ((window_Of.f k bt228.1).bind fun bt233 => ((window_Stats.f k bt233.1 bt233.2.1 t232 (wrap64 (1 + (Int.tmod (wrap64 (a2)) (bt228.1.length : Int))))).bind fun bt241 => (if 0 ≤ t232 then (if t232 ≤ (wrap64 (t232 + (wrap64 (1 + (Int.tmod (wrap64 (a2)) (bt228.1.length : Int)))))) then (if (wrap64 (t232 + (wrap64 (1 + (Int.tmod (wrap64 (a2)) (bt228.1.length : Int)))))) ≤ (bt228.1.length : Int) then ((some ((bt228.1.take ((wrap64 (t232 + (wrap64 (1 + (Int.tmod (wrap64 (a2)) (bt228.1.length : Int)))))) : Int).toNat).drop (t232 : Int).toNat : List Int)).bind fun y246 => (shapesearchlaw11_WindowSums.l0 k (wrap64 (1 + (Int.tmod (wrap64 (a2)) (bt228.1.length : Int)))) bt233.2.2 bt241.2.2.2 0 0 y246 (y246.length : Int) 0 bt241.1 bt241.2.1 bt241.2.2.1)) else (none)) else (none)) else (none))))))) = some r := H
  have A5 := Aside0.mk A50
  clear A50
  replace H := Option.bind_eq_some_iff.mp H
  obtain ⟨⟨t228, t231⟩, A60, H⟩ := H
  replace H : (if (t228.length : Int) = 0 then (none) else ((shapesearchkeep_Mod.f (wrap64 (a1)) (wrap64 ((wrap64 ((t228.length : Int) - (wrap64 (1 + (Int.tmod (wrap64 (a2)) (t228.length : Int)))))) + 1))).bind fun t232 => ((window_Of.f k t228).bind fun bt233 => ((window_Stats.f k bt233.1 bt233.2.1 t232 (wrap64 (1 + (Int.tmod (wrap64 (a2)) (t228.length : Int))))).bind fun bt241 => (if 0 ≤ t232 then (if t232 ≤ (wrap64 (t232 + (wrap64 (1 + (Int.tmod (wrap64 (a2)) (t228.length : Int)))))) then (if (wrap64 (t232 + (wrap64 (1 + (Int.tmod (wrap64 (a2)) (t228.length : Int)))))) ≤ (t228.length : Int) then ((some ((t228.take ((wrap64 (t232 + (wrap64 (1 + (Int.tmod (wrap64 (a2)) (t228.length : Int)))))) : Int).toNat).drop (t232 : Int).toNat : List Int)).bind fun y246 => (shapesearchlaw11_WindowSums.l0 k (wrap64 (1 + (Int.tmod (wrap64 (a2)) (t228.length : Int)))) bt233.2.2 bt241.2.2.2 0 0 y246 (y246.length : Int) 0 bt241.1 bt241.2.1 bt241.2.2.1)) else (none)) else (none)) else (none)))))) = some r := H
  have A6 := Aside0.mk A60
  clear A60
  by_cases c7 : (t228.length : Int) = 0
  · rw [if_pos c7] at H
    exact absurd H (by simp)
  · rw [if_neg c7] at H
    have c7b0 : ((t228.length : Int) == 0) = false := beq_eq_false_iff_ne.mpr c7
    have c7b1 : ((t228.length : Int) != 0) = true := bne_iff_ne.mpr c7
    have c7b2 : ¬ (t228 = []) := fun h_ => c7 (by rw [h_]; rfl)
    replace H := Option.bind_eq_some_iff.mp H
    obtain ⟨t232, A80, H⟩ := H
    replace H : ((window_Of.f k t228).bind fun bt233 => ((window_Stats.f k bt233.1 bt233.2.1 t232 (wrap64 (1 + (Int.tmod (wrap64 (a2)) (t228.length : Int))))).bind fun bt241 => (if 0 ≤ t232 then (if t232 ≤ (wrap64 (t232 + (wrap64 (1 + (Int.tmod (wrap64 (a2)) (t228.length : Int)))))) then (if (wrap64 (t232 + (wrap64 (1 + (Int.tmod (wrap64 (a2)) (t228.length : Int)))))) ≤ (t228.length : Int) then ((some ((t228.take ((wrap64 (t232 + (wrap64 (1 + (Int.tmod (wrap64 (a2)) (t228.length : Int)))))) : Int).toNat).drop (t232 : Int).toNat : List Int)).bind fun y246 => (shapesearchlaw11_WindowSums.l0 k (wrap64 (1 + (Int.tmod (wrap64 (a2)) (t228.length : Int)))) bt233.2.2 bt241.2.2.2 0 0 y246 (y246.length : Int) 0 bt241.1 bt241.2.1 bt241.2.2.1)) else (none)) else (none)) else (none)))) = some r := H
    have A8 := Aside0.mk A80
    clear A80
    replace H := Option.bind_eq_some_iff.mp H
    obtain ⟨⟨t233, t236, t239⟩, A90, H⟩ := H
    replace H : ((window_Stats.f k t233 t236 t232 (wrap64 (1 + (Int.tmod (wrap64 (a2)) (t228.length : Int))))).bind fun bt241 => (if 0 ≤ t232 then (if t232 ≤ (wrap64 (t232 + (wrap64 (1 + (Int.tmod (wrap64 (a2)) (t228.length : Int)))))) then (if (wrap64 (t232 + (wrap64 (1 + (Int.tmod (wrap64 (a2)) (t228.length : Int)))))) ≤ (t228.length : Int) then ((some ((t228.take ((wrap64 (t232 + (wrap64 (1 + (Int.tmod (wrap64 (a2)) (t228.length : Int)))))) : Int).toNat).drop (t232 : Int).toNat : List Int)).bind fun y246 => (shapesearchlaw11_WindowSums.l0 k (wrap64 (1 + (Int.tmod (wrap64 (a2)) (t228.length : Int)))) t239 bt241.2.2.2 0 0 y246 (y246.length : Int) 0 bt241.1 bt241.2.1 bt241.2.2.1)) else (none)) else (none)) else (none))) = some r := H
    have A9 := Aside0.mk A90
    clear A90
    replace H := Option.bind_eq_some_iff.mp H
    obtain ⟨⟨t241, t242, t243, t244⟩, A100, H⟩ := H
    replace H : (if 0 ≤ t232 then (if t232 ≤ (wrap64 (t232 + (wrap64 (1 + (Int.tmod (wrap64 (a2)) (t228.length : Int)))))) then (if (wrap64 (t232 + (wrap64 (1 + (Int.tmod (wrap64 (a2)) (t228.length : Int)))))) ≤ (t228.length : Int) then ((some ((t228.take ((wrap64 (t232 + (wrap64 (1 + (Int.tmod (wrap64 (a2)) (t228.length : Int)))))) : Int).toNat).drop (t232 : Int).toNat : List Int)).bind fun y246 => (shapesearchlaw11_WindowSums.l0 k (wrap64 (1 + (Int.tmod (wrap64 (a2)) (t228.length : Int)))) t239 t244 0 0 y246 (y246.length : Int) 0 t241 t242 t243)) else (none)) else (none)) else (none)) = some r := H
    have A10 := Aside0.mk A100
    clear A100
    by_cases c11 : 0 ≤ t232
    · rw [if_pos c11] at H
      have c11b0 := eq_true c11
      have c11b1 : decide (0 ≤ t232) = true := decide_eq_true c11
      clear c11
      by_cases c12 : t232 ≤ (wrap64 (t232 + (wrap64 (1 + (Int.tmod (wrap64 (a2)) (t228.length : Int))))))
      · rw [if_pos c12] at H
        have c12b0 := eq_true c12
        have c12b1 : decide (t232 ≤ (wrap64 (t232 + (wrap64 (1 + (Int.tmod (wrap64 (a2)) (t228.length : Int))))))) = true := decide_eq_true c12
        by_cases c13 : (wrap64 (t232 + (wrap64 (1 + (Int.tmod (wrap64 (a2)) (t228.length : Int)))))) ≤ (t228.length : Int)
        · rw [if_pos c13] at H
          have c13b0 := eq_true c13
          have c13b1 : decide ((wrap64 (t232 + (wrap64 (1 + (Int.tmod (wrap64 (a2)) (t228.length : Int)))))) ≤ (t228.length : Int)) = true := decide_eq_true c13
          obtain ⟨y246, hy246⟩ : ∃ y_ : List Int, y_ = ((t228.take ((wrap64 (t232 + (wrap64 (1 + (Int.tmod (wrap64 (a2)) (t228.length : Int)))))) : Int).toNat).drop (t232 : Int).toNat) := ⟨_, rfl⟩
          replace H : (shapesearchlaw11_WindowSums.l0 k (wrap64 (1 + (Int.tmod (wrap64 (a2)) (t228.length : Int)))) t239 t244 0 0 y246 (y246.length : Int) 0 t241 t242 t243) = some r := by first | (rw [hy246]; with_reducible exact H) | (have H2_ := (Option.bind_some _ _).symm.trans H; rw [hy246]; with_reducible exact H2_) | (have H2_ := (Option.bind_some _ _).symm.trans H; with_reducible exact H2_) | with_reducible exact H | (rw [hy246]; exact H) | exact H
          have Ny246 := Aside0.mk hy246
          clear hy246
          have H' := Aside0.mk H
          clear H
          go_enter Try.func3, Try.ntmps3
          go_wp2_with (first | ((with_reducible refine gate_callee (f := 9) rfl ?_); refine goesL_ (some 20) rfl rfl Try.func9 (by kernel_rfl) rfl #[.slice A0 l0.length c0] rfl (by (try simp only [List.map_toArray, List.map_cons, List.map_nil]); first | done | rfl | (simp only [List.length_drop, List.length_take]; rfl)) ?_; (with_reducible refine (shapesearchkeep_New.calls _ _ l0 t223 t224 w _ ?side1 ?side2 ?side3 A4.out).mono ?_); (case side1 => repeat (first | (with_reducible first | exact HB.out | apply below_alloc | apply pw_below_drewN | apply below_drew1) | exact HB.out)); (case side2 => exact HR0.out); (case side3 => exact HC0.out); rintro e w14 ⟨g225, rfl, hi, hb, hb2⟩; refine ⟨_, rfl, ?_⟩; have n0_ := Aside0.mk (hb); have n1_ := Aside0.mk (hi); clear HB; have HB := n0_; have HI225 := n1_; clear n0_ n1_; (try clear hb); (try clear hb2); (try clear hk); (try clear hi)) | ((with_reducible refine gate_callee (f := 11) rfl ?_); refine goesL_ (some 23) rfl rfl Try.func11 (by kernel_rfl) rfl #[.pointer (some ⟨g225, 0, none⟩), .int .i64 1, .int .i64 60] rfl (by (try simp only [List.map_toArray, List.map_cons, List.map_nil]); first | done | rfl | (simp only [List.length_drop, List.length_take]; rfl)) ?_; (with_reducible refine (shapesearchkeep_Src_Range.calls g225 t223 t224 1 60 t226 t227 w _ ?side1 ?side2 A5.out).mono ?_); (case side1 => repeat (first | (with_reducible first | exact HI225.out | apply IsS58.alloc | apply IsS58.drewN | apply IsS58.drew | apply IsS58.set_1) | exact HI225.out)); (case side2 => repeat (first | (with_reducible first | exact HB.out | apply below_alloc | apply pw_below_drewN | apply below_drew1 | refine below_set ?_ (IsS58.ge HI225.out)) | exact HB.out)); rintro e w15 ⟨rfl, hi, hb, hk⟩; refine ⟨_, rfl, ?_⟩; have n0_ := Aside0.mk (hb); have n1_ := Aside0.mk (hi); clear HB; clear HI225; have HB := n0_; have HI225 := n1_; clear n0_ n1_; (try clear hb); (try clear hb2); (try clear hk); (try clear hi)) | ((with_reducible refine gate_callee (f := 10) rfl ?_); refine goesL_ (some 24) rfl rfl Try.func10 (by kernel_rfl) rfl #[.pointer (some ⟨g225, 0, none⟩), .int .i64 t226] rfl (by (try simp only [List.map_toArray, List.map_cons, List.map_nil]); first | done | rfl | (simp only [List.length_drop, List.length_take]; rfl)) ?_; (with_reducible refine (shapesearchkeep_Src_List.calls k g225 t223 t227 t226 t228 t231 w _ ?side1 ?side2 A6.out).mono ?_); (case side1 => repeat (first | (with_reducible first | exact HI225.out | apply IsS58.alloc | apply IsS58.drewN | apply IsS58.drew | apply IsS58.set_1) | exact HI225.out)); (case side2 => repeat (first | (with_reducible first | exact HB.out | apply below_alloc | apply pw_below_drewN | apply below_drew1 | refine below_set ?_ (IsS58.ge HI225.out)) | exact HB.out)); rintro e w16 ⟨v229, rfl, ho0, hi, hb, hk⟩; refine ⟨_, rfl, ?_⟩; have n0_ := Aside0.mk (Kd.R_lower ho0 (below_size (by repeat (first | (with_reducible first | exact HB.out | apply below_alloc | apply pw_below_drewN | apply below_drew1 | refine below_set ?_ (IsS58.ge HI225.out)) | exact HB.out)))); have n1_ := Aside0.mk (hb); have n2_ := Aside0.mk (hi); clear HB; clear HI225; have HO230 := n0_; have HB := n1_; have HI225 := n2_; clear n0_ n1_ n2_; (try clear hb); (try clear hb2); (try clear hk); (try clear hi); (try clear ho0); obtain ⟨Ao17, co17, eo17⟩ := Kd.R_slice HO230.out; subst eo17) | ((with_reducible refine gate_callee (f := 12) rfl ?_); refine goesL_ (some 38) rfl rfl Try.func12 (by kernel_rfl) rfl #[.int .i64 (wrap64 (a1)), .int .i64 (wrap64 ((wrap64 ((t228.length : Int) - (wrap64 (1 + (Int.tmod (wrap64 (a2)) (t228.length : Int)))))) + 1))] rfl (by (try simp only [List.map_toArray, List.map_cons, List.map_nil]); first | done | rfl | (simp only [List.length_drop, List.length_take]; rfl)) ?_; (with_reducible refine (shapesearchkeep_Mod.calls (wrap64 (a1)) (wrap64 ((wrap64 ((t228.length : Int) - (wrap64 (1 + (Int.tmod (wrap64 (a2)) (t228.length : Int)))))) + 1)) t232 _ A8.out).mono ?_); rintro e w' ⟨rfl, ⟨nd, rfl⟩⟩; refine ⟨_, rfl, ?_⟩; (try (rw [drewN_self w16]; generalize hq_ : World.drewN w16 _ = w16; have n0_ : Aside0 (Kd.R (Kd.int .i64) 3 w16 w.heap.size (fun _ => True) (.slice Ao17 t228.length co17) t228) := ⟨by rw [← hq_]; exact (by (with_reducible repeat (first | apply Kd.R_alloc | apply Kd.R_drewN | apply Kd.R_drew)); exact HO230.out)⟩; have n1_ : Aside0 (IsS58 w w16 g225 t223 t231) := ⟨by rw [← hq_]; exact (by repeat (first | (with_reducible first | exact HI225.out | apply IsS58.alloc | apply IsS58.drewN | apply IsS58.drew | apply IsS58.set_1) | exact HI225.out))⟩; have n2_ : Aside0 (Below w.heap.size w w16) := ⟨by rw [← hq_]; exact (by repeat (first | (with_reducible first | exact HB.out | apply below_alloc | apply pw_below_drewN | apply below_drew1 | refine below_set ?_ (IsS58.ge HI225.out)) | exact HB.out))⟩; clear HO230 HI225 HB hq_; have HO230 := n0_; have HI225 := n1_; have HB := n2_; clear n0_ n1_ n2_))) | ((with_reducible refine gate_callee (f := 13) rfl ?_); refine goesL_ (some 41) rfl rfl Try.func13 (by kernel_rfl) rfl #[.slice Ao17 t228.length co17] rfl (by (try simp only [List.map_toArray, List.map_cons, List.map_nil]); first | done | rfl | (simp only [List.length_drop, List.length_take]; rfl)) ?_; (with_reducible refine (window_Of.calls k _ _ t228 t233 t236 t239 _ ?side1 ?side2 A9.out).mono ?_); (case side1 => repeat (first | exact (Kd.R_reads' HO230.out).2.2 | (with_reducible refine Kd.C_alloc ?_ _) | (with_reducible refine Kd.C_drewN ?_ _) | (with_reducible refine Kd.C_drew ?_))); (case side2 => exact (Kd.R_reads' HO230.out).2.1); rintro e w18 ⟨v234, v237, rfl, ho0, ho1, hb⟩; refine ⟨_, rfl, ?_⟩; have n0_ := Aside0.mk (Kd.R_mono (Kd.R_told (Kd.R_told (Kd.R_old (by (with_reducible repeat (first | apply Kd.R_alloc | apply Kd.R_drewN | apply Kd.R_drew)); exact HO230.out) hb) (Kd.R_base ho0)) (Kd.R_base ho1)) (fun _ h_ => h_.1)); have n1_ := Aside0.mk (Kd.R_lower (Kd.R_new' ho0 (Kd.R_lt (by (with_reducible repeat (first | apply Kd.R_alloc | apply Kd.R_drewN | apply Kd.R_drew)); exact HO230.out))) (below_size (by repeat (first | (with_reducible first | exact HB.out | apply below_alloc | apply pw_below_drewN | apply below_drew1 | refine below_set ?_ (IsS58.ge HI225.out)) | exact HB.out)))); have n2_ := Aside0.mk (Kd.R_lower (Kd.R_new' ho1 (Kd.R_lt (by (with_reducible repeat (first | apply Kd.R_alloc | apply Kd.R_drewN | apply Kd.R_drew)); exact HO230.out))) (below_size (by repeat (first | (with_reducible first | exact HB.out | apply below_alloc | apply pw_below_drewN | apply below_drew1 | refine below_set ?_ (IsS58.ge HI225.out)) | exact HB.out)))); have n3_ := Aside0.mk (IsS58.below (by repeat (first | (with_reducible first | exact HI225.out | apply IsS58.alloc | apply IsS58.drewN | apply IsS58.drew | apply IsS58.set_1) | exact HI225.out)) hb); have n4_ := Aside0.mk (below_step (by repeat (first | (with_reducible first | exact HB.out | apply below_alloc | apply pw_below_drewN | apply below_drew1 | refine below_set ?_ (IsS58.ge HI225.out)) | exact HB.out)) hb); clear HO230; clear HI225; clear HB; have HO230 := n0_; have HO235 := n1_; have HO238 := n2_; have HI225 := n3_; have HB := n4_; clear n0_ n1_ n2_ n3_ n4_; (try clear hb); (try clear hb2); (try clear hk); (try clear hi); (try clear ho0); (try clear ho1)) | ((with_reducible refine gate_dst (N := 11) rfl ?_); refine box_event ?hg (N := 11) ?hd (cs := #[.slice none 0 0, .slice none 0 0]) (t := 28) ?hr ?_; (case hd => rfl); (case hg => rfl); (case hr => first | (go_simp; done) | (go_simp; rfl)); intro gb240 hg w19 hbox hb; have n0_ := Aside0.mk (Kd.R_below (by (with_reducible repeat (first | apply Kd.R_alloc | apply Kd.R_drewN | apply Kd.R_drew)); exact HO230.out) hb); have n1_ := Aside0.mk (Kd.R_below (by (with_reducible repeat (first | apply Kd.R_alloc | apply Kd.R_drewN | apply Kd.R_drew)); exact HO235.out) hb); have n2_ := Aside0.mk (Kd.R_below (by (with_reducible repeat (first | apply Kd.R_alloc | apply Kd.R_drewN | apply Kd.R_drew)); exact HO238.out) hb); have n3_ := Aside0.mk (IsS58.below (by repeat (first | (with_reducible first | exact HI225.out | apply IsS58.alloc | apply IsS58.drewN | apply IsS58.drew | apply IsS58.set_1) | exact HI225.out)) hb); have n4_ := Aside0.mk (below_step (by repeat (first | (with_reducible first | exact HB.out | apply below_alloc | apply pw_below_drewN | apply below_drew1 | refine below_set ?_ (IsS58.ge HI225.out)) | exact HB.out)) hb); have n5_ := Aside0.mk (hbox); have n6_ := Aside0.mk ((by rw [hg]; exact (below_size (by repeat (first | (with_reducible first | exact HB.out | apply below_alloc | apply pw_below_drewN | apply below_drew1 | refine below_set ?_ (IsS58.ge HI225.out)) | exact HB.out))) : w.heap.size ≤ gb240)); have n7_ := Aside0.mk ((by rw [hg]; exact (below_size (by repeat (first | (with_reducible first | exact HB.out | apply below_alloc | apply pw_below_drewN | apply below_drew1 | refine below_set ?_ (IsS58.ge HI225.out)) | exact HB.out))) : w.heap.size ≤ gb240)); have n8_ := Aside0.mk ((by rw [hg]; exact Nat.ne_of_lt (IsS58.lt (show IsS58 w _ g225 t223 t231 from by repeat (first | (with_reducible first | exact HI225.out | apply IsS58.alloc | apply IsS58.drewN | apply IsS58.drew | apply IsS58.set_1) | exact HI225.out))) : g225 ≠ gb240)); have n9_ := Aside0.mk ((by rw [hg]; exact Nat.ne_of_gt (IsS58.lt (show IsS58 w _ g225 t223 t231 from by repeat (first | (with_reducible first | exact HI225.out | apply IsS58.alloc | apply IsS58.drewN | apply IsS58.drew | apply IsS58.set_1) | exact HI225.out))) : gb240 ≠ g225)); clear HO230; clear HO235; clear HO238; clear HI225; clear HB; have HO230 := n0_; have HO235 := n1_; have HO238 := n2_; have HI225 := n3_; have HB := n4_; have BK240 := n5_; have GW240 := n6_; have GE240 := n7_; have NB225_240 := n8_; have NB240_225 := n9_; clear n0_ n1_ n2_ n3_ n4_ n5_ n6_ n7_ n8_ n9_; clear hb hbox hg; obtain ⟨Ao20, co20, eo20⟩ := Kd.R_slice HO235.out; subst eo20; have hnb21 := NB240_225.out; have hnc21 := NB225_240.out; have hcz22_0 : w19.cell? ⟨gb240, 0, none⟩ = some (.slice none 0 0) := (blk_cell BK240.out 0).trans rfl; have hcz22_1 : w19.cell? ⟨gb240, 1, none⟩ = some (.slice none 0 0) := (blk_cell BK240.out 1).trans rfl; have hfz22_0 := blk_frozen BK240.out 0; have hfz22_1 := blk_frozen BK240.out 1; obtain ⟨Ao23, co23, eo23⟩ := Kd.R_slice HO238.out; subst eo23) | ((with_reducible refine gate_callee (f := 14) rfl ?_); refine goesL_ (some 48) rfl rfl Try.func14 (by kernel_rfl) rfl #[.agg #[.slice Ao20 t233.length co20, .slice Ao23 t236.length co23], .int .i64 t232, .int .i64 (wrap64 (1 + (Int.tmod (wrap64 (a2)) (t228.length : Int))))] rfl (by (try simp only [List.map_toArray, List.map_cons, List.map_nil]); first | done | rfl | (simp only [List.length_drop, List.length_take]; rfl)) ?_; (with_reducible refine (window_Stats.calls k _ _ t233 _ _ t236 t232 (wrap64 (1 + (Int.tmod (wrap64 (a2)) (t228.length : Int)))) t241 t242 t243 t244 _ ?side1 ?side2 ?side3 ?side4 A10.out).mono ?_); (case side1 => refine (Kd.R_reads' (e := 3) (base := w.heap.size) (ok := fun k_ => (some k_ ≠ (.slice Ao23 t236.length co23 : Value).ownBlock ∧ some k_ ≠ (.slice Ao17 t228.length co17 : Value).ownBlock)) (n := t233.length) (c := co20) ?_).2.2; exact (by (with_reducible repeat (first | apply Kd.R_alloc | apply Kd.R_drewN | apply Kd.R_drew)); exact (Kd.R_mono (Kd.R_far (p := ⟨gb240, 1, none⟩) (Kd.R_far (p := ⟨gb240, 0, none⟩) (Kd.R_types HO235.out BK240.out (by decide)) (fun _ hk => hk.2) (.slice Ao20 t233.length co20)) (fun _ hk => hk.2) (.slice Ao23 t236.length co23)) (fun _ h_ => h_.1)))); (case side2 => exact (Kd.R_reads' HO235.out).2.1); (case side3 => refine (Kd.R_reads' (e := 3) (base := w.heap.size) (ok := fun k_ => (some k_ ≠ (.slice Ao20 t233.length co20 : Value).ownBlock ∧ some k_ ≠ (.slice Ao17 t228.length co17 : Value).ownBlock)) (n := t236.length) (c := co23) ?_).2.2; exact (by (with_reducible repeat (first | apply Kd.R_alloc | apply Kd.R_drewN | apply Kd.R_drew)); exact (Kd.R_mono (Kd.R_far (p := ⟨gb240, 1, none⟩) (Kd.R_far (p := ⟨gb240, 0, none⟩) (Kd.R_types HO238.out BK240.out (by decide)) (fun _ hk => hk.2) (.slice Ao20 t233.length co20)) (fun _ hk => hk.2) (.slice Ao23 t236.length co23)) (fun _ h_ => h_.1)))); (case side4 => exact (Kd.R_reads' HO238.out).2.1); rintro e w24 ⟨rfl, hb⟩; refine ⟨_, rfl, ?_⟩; have n0_ := Aside0.mk (Kd.R_below (by (with_reducible repeat (first | apply Kd.R_alloc | apply Kd.R_drewN | apply Kd.R_drew)); exact (Kd.R_mono (Kd.R_far (p := ⟨gb240, 1, none⟩) (Kd.R_far (p := ⟨gb240, 0, none⟩) (Kd.R_types HO230.out BK240.out (by decide)) (fun _ hk => hk.2) (.slice Ao20 t233.length co20)) (fun _ hk => hk.2) (.slice Ao23 t236.length co23)) (fun _ h_ => h_.1))) hb); have n1_ := Aside0.mk (Kd.R_below (by (with_reducible repeat (first | apply Kd.R_alloc | apply Kd.R_drewN | apply Kd.R_drew)); exact (Kd.R_mono (Kd.R_far (p := ⟨gb240, 1, none⟩) (Kd.R_far (p := ⟨gb240, 0, none⟩) (Kd.R_types HO235.out BK240.out (by decide)) (fun _ hk => hk.2) (.slice Ao20 t233.length co20)) (fun _ hk => hk.2) (.slice Ao23 t236.length co23)) (fun _ h_ => h_.1))) hb); have n2_ := Aside0.mk (Kd.R_below (by (with_reducible repeat (first | apply Kd.R_alloc | apply Kd.R_drewN | apply Kd.R_drew)); exact (Kd.R_mono (Kd.R_far (p := ⟨gb240, 1, none⟩) (Kd.R_far (p := ⟨gb240, 0, none⟩) (Kd.R_types HO238.out BK240.out (by decide)) (fun _ hk => hk.2) (.slice Ao20 t233.length co20)) (fun _ hk => hk.2) (.slice Ao23 t236.length co23)) (fun _ h_ => h_.1))) hb); have n3_ := Aside0.mk (IsS58.below (show IsS58 w ((w19.setCell ⟨gb240, 0, none⟩ (.slice Ao20 t233.length co20)).setCell ⟨gb240, 1, none⟩ (.slice Ao23 t236.length co23)) g225 t223 t231 from by repeat (first | (with_reducible first | exact HI225.out | apply IsS58.alloc | apply IsS58.drewN | apply IsS58.drew | apply IsS58.set_1 | refine IsS58.far ?_ NB225_240.out _) | exact HI225.out)) hb); have n4_ := Aside0.mk (blk_below (g := gb240) (o := .cells #[.slice Ao20 t233.length co20, .slice Ao23 t236.length co23] 28 (0, 0)) (by (with_reducible repeat (first | refine blk_drewN ?_ _ | refine blk_drew ?_ | refine blk_alloc ?_ _)); refine blk_put (cs := #[.slice Ao20 t233.length co20, .slice none 0 0]) ?_ 1 _ rfl; (with_reducible repeat (first | refine blk_drewN ?_ _ | refine blk_drew ?_ | refine blk_alloc ?_ _)); refine blk_put (cs := #[.slice none 0 0, .slice none 0 0]) ?_ 0 _ rfl; (with_reducible repeat (first | refine blk_drewN ?_ _ | refine blk_drew ?_ | refine blk_alloc ?_ _)); exact BK240.out) hb); have n5_ := Aside0.mk (below_step (by repeat (first | (with_reducible first | exact HB.out | apply below_alloc | apply pw_below_drewN | apply below_drew1 | refine below_set ?_ (IsS58.ge HI225.out) | refine below_set ?_ GE240.out) | exact HB.out)) hb); clear HO230; clear HO235; clear HO238; clear HI225; clear BK240; clear HB; have HO230 := n0_; have HO235 := n1_; have HO238 := n2_; have HI225 := n3_; have BK240 := n4_; have HB := n5_; clear n0_ n1_ n2_ n3_ n4_ n5_; (try clear hb); (try clear hb2); (try clear hk); (try clear hi)) | ((with_reducible refine gate_dst (N := 13) rfl ?_); refine box_event ?hg (N := 13) ?hd (cs := #[.int .i64 0, .int .i64 0, .int .i64 0]) (t := 33) ?hr ?_; (case hd => rfl); (case hg => rfl); (case hr => first | (go_simp; done) | (go_simp; rfl)); intro gb245 hg w25 hbox hb; have n0_ := Aside0.mk (Kd.R_below (by (with_reducible repeat (first | apply Kd.R_alloc | apply Kd.R_drewN | apply Kd.R_drew)); exact HO230.out) hb); have n1_ := Aside0.mk (Kd.R_below (by (with_reducible repeat (first | apply Kd.R_alloc | apply Kd.R_drewN | apply Kd.R_drew)); exact HO235.out) hb); have n2_ := Aside0.mk (Kd.R_below (by (with_reducible repeat (first | apply Kd.R_alloc | apply Kd.R_drewN | apply Kd.R_drew)); exact HO238.out) hb); have n3_ := Aside0.mk (IsS58.below (by repeat (first | (with_reducible first | exact HI225.out | apply IsS58.alloc | apply IsS58.drewN | apply IsS58.drew | apply IsS58.set_1 | refine IsS58.far ?_ NB225_240.out _) | exact HI225.out)) hb); have n4_ := Aside0.mk (blk_below (g := gb240) (o := .cells #[.slice Ao20 t233.length co20, .slice Ao23 t236.length co23] 28 (0, 0)) (by (with_reducible repeat (first | refine blk_drewN ?_ _ | refine blk_drew ?_ | refine blk_alloc ?_ _)); exact BK240.out) hb); have n5_ := Aside0.mk (below_step (by repeat (first | (with_reducible first | exact HB.out | apply below_alloc | apply pw_below_drewN | apply below_drew1 | refine below_set ?_ (IsS58.ge HI225.out) | refine below_set ?_ GE240.out) | exact HB.out)) hb); have n6_ := Aside0.mk (hbox); have n7_ := Aside0.mk ((by rw [hg]; exact (below_size (by repeat (first | (with_reducible first | exact HB.out | apply below_alloc | apply pw_below_drewN | apply below_drew1 | refine below_set ?_ (IsS58.ge HI225.out) | refine below_set ?_ GE240.out) | exact HB.out))) : w.heap.size ≤ gb245)); have n8_ := Aside0.mk ((by rw [hg]; exact (below_size (by repeat (first | (with_reducible first | exact HB.out | apply below_alloc | apply pw_below_drewN | apply below_drew1 | refine below_set ?_ (IsS58.ge HI225.out) | refine below_set ?_ GE240.out) | exact HB.out))) : w.heap.size ≤ gb245)); have n9_ := Aside0.mk ((by rw [hg]; exact Nat.ne_of_lt (blk_lt (g := gb240) (o := .cells #[.slice Ao20 t233.length co20, .slice Ao23 t236.length co23] 28 (0, 0)) (by (with_reducible repeat (first | refine blk_drewN ?_ _ | refine blk_drew ?_ | refine blk_alloc ?_ _)); exact BK240.out)) : gb240 ≠ gb245)); have n10_ := Aside0.mk ((by rw [hg]; exact Nat.ne_of_gt (blk_lt (g := gb240) (o := .cells #[.slice Ao20 t233.length co20, .slice Ao23 t236.length co23] 28 (0, 0)) (by (with_reducible repeat (first | refine blk_drewN ?_ _ | refine blk_drew ?_ | refine blk_alloc ?_ _)); exact BK240.out)) : gb245 ≠ gb240)); have n11_ := Aside0.mk ((by rw [hg]; exact Nat.ne_of_lt (IsS58.lt (show IsS58 w _ g225 t223 t231 from by repeat (first | (with_reducible first | exact HI225.out | apply IsS58.alloc | apply IsS58.drewN | apply IsS58.drew | apply IsS58.set_1 | refine IsS58.far ?_ NB225_240.out _) | exact HI225.out))) : g225 ≠ gb245)); have n12_ := Aside0.mk ((by rw [hg]; exact Nat.ne_of_gt (IsS58.lt (show IsS58 w _ g225 t223 t231 from by repeat (first | (with_reducible first | exact HI225.out | apply IsS58.alloc | apply IsS58.drewN | apply IsS58.drew | apply IsS58.set_1 | refine IsS58.far ?_ NB225_240.out _) | exact HI225.out))) : gb245 ≠ g225)); clear HO230; clear HO235; clear HO238; clear HI225; clear BK240; clear HB; have HO230 := n0_; have HO235 := n1_; have HO238 := n2_; have HI225 := n3_; have BK240 := n4_; have HB := n5_; have BK245 := n6_; have GW245 := n7_; have GE245 := n8_; have NB240_245 := n9_; have NB245_240 := n10_; have NB225_245 := n11_; have NB245_225 := n12_; clear n0_ n1_ n2_ n3_ n4_ n5_ n6_ n7_ n8_ n9_ n10_ n11_ n12_; clear hb hbox hg; have hnb26 := NB245_240.out; have hnc26 := NB240_245.out; have hnb27 := NB245_225.out; have hnc27 := NB225_245.out; have hcz28_0 : w25.cell? ⟨gb245, 0, none⟩ = some (.int .i64 0) := (blk_cell BK245.out 0).trans rfl; have hcz28_1 : w25.cell? ⟨gb245, 1, none⟩ = some (.int .i64 0) := (blk_cell BK245.out 1).trans rfl; have hcz28_2 : w25.cell? ⟨gb245, 2, none⟩ = some (.int .i64 0) := (blk_cell BK245.out 2).trans rfl; have hfz28_0 := blk_frozen BK245.out 0; have hfz28_1 := blk_frozen BK245.out 1; have hfz28_2 := blk_frozen BK245.out 2) | ((with_reducible refine gate_store (t := 33) (p := 13) rfl ?_); refine store_event (t := 33) (p := 13) (v := ?vo_w29) (w1 := (((w25.setCell ⟨gb245, 0, none⟩ (.int .i64 t241)).setCell ⟨gb245, 1, none⟩ (.int .i64 t242)).setCell ⟨gb245, 2, none⟩ (.int .i64 t243))) ?hg ?ho ?hn ?hr ?_; (case ho => rfl); (case hg => rfl); (case hn => rfl); (case hr => first | (go_simp; done) | (go_simp; rfl)); intro w29 hw; have n0_ : Aside0 (Kd.R (Kd.int .i64) 3 w29 w.heap.size (fun k_ => some k_ ≠ (.slice Ao20 t233.length co20 : Value).ownBlock ∧ some k_ ≠ (.slice Ao23 t236.length co23 : Value).ownBlock) (.slice Ao17 t228.length co17) t228) := ⟨(by rw [hw]; exact (by (with_reducible repeat (first | apply Kd.R_alloc | apply Kd.R_drewN | apply Kd.R_drew)); exact Kd.R_mono (Kd.R_far (p := ⟨gb245, 2, none⟩) (Kd.R_far (p := ⟨gb245, 1, none⟩) (Kd.R_far (p := ⟨gb245, 0, none⟩) (Kd.R_types HO230.out BK245.out (by decide)) (fun _ hk => hk.2) (.int .i64 t241)) (fun _ hk => hk.2) (.int .i64 t242)) (fun _ hk => hk.2) (.int .i64 t243)) (fun _ hk => ⟨hk.1.1.2, hk.1.2⟩)))⟩; have n1_ : Aside0 (Kd.R (Kd.int .i64) 3 w29 w.heap.size (fun k_ => some k_ ≠ (.slice Ao17 t228.length co17 : Value).ownBlock ∧ some k_ ≠ (.slice Ao23 t236.length co23 : Value).ownBlock) (.slice Ao20 t233.length co20) t233) := ⟨(by rw [hw]; exact (by (with_reducible repeat (first | apply Kd.R_alloc | apply Kd.R_drewN | apply Kd.R_drew)); exact Kd.R_mono (Kd.R_far (p := ⟨gb245, 2, none⟩) (Kd.R_far (p := ⟨gb245, 1, none⟩) (Kd.R_far (p := ⟨gb245, 0, none⟩) (Kd.R_types HO235.out BK245.out (by decide)) (fun _ hk => hk.2) (.int .i64 t241)) (fun _ hk => hk.2) (.int .i64 t242)) (fun _ hk => hk.2) (.int .i64 t243)) (fun _ hk => ⟨hk.1.2, hk.1.1⟩)))⟩; have n2_ : Aside0 (Kd.R (Kd.int .i64) 3 w29 w.heap.size (fun k_ => some k_ ≠ (.slice Ao17 t228.length co17 : Value).ownBlock ∧ some k_ ≠ (.slice Ao20 t233.length co20 : Value).ownBlock) (.slice Ao23 t236.length co23) t236) := ⟨(by rw [hw]; exact (by (with_reducible repeat (first | apply Kd.R_alloc | apply Kd.R_drewN | apply Kd.R_drew)); exact Kd.R_mono (Kd.R_far (p := ⟨gb245, 2, none⟩) (Kd.R_far (p := ⟨gb245, 1, none⟩) (Kd.R_far (p := ⟨gb245, 0, none⟩) (Kd.R_types HO238.out BK245.out (by decide)) (fun _ hk => hk.2) (.int .i64 t241)) (fun _ hk => hk.2) (.int .i64 t242)) (fun _ hk => hk.2) (.int .i64 t243)) (fun _ hk => ⟨hk.1.2, hk.1.1⟩)))⟩; have n3_ : Aside0 (w29.heap[gb240]? = some (.cells #[.slice Ao20 t233.length co20, .slice Ao23 t236.length co23] 28 (0, 0))) := ⟨(by rw [hw]; exact (by (with_reducible repeat (first | refine blk_drewN ?_ _ | refine blk_drew ?_ | refine blk_alloc ?_ _)); refine blk_far ?_ NB240_245.out _; (with_reducible repeat (first | refine blk_drewN ?_ _ | refine blk_drew ?_ | refine blk_alloc ?_ _)); refine blk_far ?_ NB240_245.out _; (with_reducible repeat (first | refine blk_drewN ?_ _ | refine blk_drew ?_ | refine blk_alloc ?_ _)); refine blk_far ?_ NB240_245.out _; (with_reducible repeat (first | refine blk_drewN ?_ _ | refine blk_drew ?_ | refine blk_alloc ?_ _)); exact BK240.out))⟩; have n4_ : Aside0 (w29.heap[gb245]? = some (.cells #[.int .i64 t241, .int .i64 t242, .int .i64 t243] 33 (0, 0))) := ⟨(by rw [hw]; exact (by (with_reducible repeat (first | refine blk_drewN ?_ _ | refine blk_drew ?_ | refine blk_alloc ?_ _)); refine blk_put (cs := #[.int .i64 t241, .int .i64 t242, .int .i64 0]) ?_ 2 _ rfl; (with_reducible repeat (first | refine blk_drewN ?_ _ | refine blk_drew ?_ | refine blk_alloc ?_ _)); refine blk_put (cs := #[.int .i64 t241, .int .i64 0, .int .i64 0]) ?_ 1 _ rfl; (with_reducible repeat (first | refine blk_drewN ?_ _ | refine blk_drew ?_ | refine blk_alloc ?_ _)); refine blk_put (cs := #[.int .i64 0, .int .i64 0, .int .i64 0]) ?_ 0 _ rfl; (with_reducible repeat (first | refine blk_drewN ?_ _ | refine blk_drew ?_ | refine blk_alloc ?_ _)); exact BK245.out))⟩; have n5_ : Aside0 (IsS58 w w29 g225 t223 t231) := ⟨(by rw [hw]; exact (by repeat (first | (with_reducible first | exact HI225.out | apply IsS58.alloc | apply IsS58.drewN | apply IsS58.drew | apply IsS58.set_1 | refine IsS58.far ?_ NB225_240.out _ | refine IsS58.far ?_ NB225_245.out _) | exact HI225.out)))⟩; have n6_ : Aside0 (Below w.heap.size w w29) := ⟨(by rw [hw]; exact (by repeat (first | (with_reducible first | exact HB.out | apply below_alloc | apply pw_below_drewN | apply below_drew1 | refine below_set ?_ (IsS58.ge HI225.out) | refine below_set ?_ GE240.out | refine below_set ?_ GE245.out) | exact HB.out)))⟩; clear hw; clear HO230; clear HO235; clear HO238; clear BK240; clear BK245; clear HI225; clear HB; have HO230 := n0_; have HO235 := n1_; have HO238 := n2_; have BK240 := n3_; have BK245 := n4_; have HI225 := n5_; have HB := n6_; clear n0_ n1_ n2_ n3_ n4_ n5_ n6_; have q30 : ((wrap64 (t232 + (wrap64 (1 + (Int.tmod (wrap64 (a2)) (t228.length : Int)))))) : Int) ≤ ((t228.length : Int) : Int) := of_decide_eq_true (by first | (with_reducible assumption) | assumption); obtain ⟨i030, hi030, _, hsz30, _⟩ := info_parts info3; have hroom30 : t228.length ≤ co17 := (Kd.R_reads' HO230.out).2.1; have hC30 : Kd.C (Kd.int .i64) _ Ao17 t228.length t228 := (Kd.R_reads' HO230.out).2.2; have ql30 : (t232 : Int) ≤ ((wrap64 (t232 + (wrap64 (1 + (Int.tmod (wrap64 (a2)) (t228.length : Int)))))) : Int) := of_decide_eq_true (by first | (with_reducible assumption) | assumption); have q030 : (0 : Int) ≤ (t232 : Int) := of_decide_eq_true (by first | (with_reducible assumption) | assumption); have hcut30 := cut_mid (P := Try.prog) 22 3 .i64 .i64 Try.underlying22 hi030 1 hsz30 Ao17 t228.length co17 t232 (wrap64 (t232 + (wrap64 (1 + (Int.tmod (wrap64 (a2)) (t228.length : Int)))))) q030 ql30 q30 hroom30; have hr30 := Kd.C_mid (lo := (t232 : Int).toNat) (hi := ((wrap64 (t232 + (wrap64 (1 + (Int.tmod (wrap64 (a2)) (t228.length : Int)))))) : Int).toNat) (c := co17) hC30 (by omega) (by omega) hroom30; obtain ⟨A30, hA30⟩ : ∃ A1, A1 = (if co17 = (t232 : Int).toNat then Ao17 else (Ao17 : Option Addr).map (·.add ((t232 : Int).toNat * 1))) := ⟨_, rfl⟩; obtain ⟨c30, hc30⟩ : ∃ c1, c1 = co17 - (t232 : Int).toNat := ⟨_, rfl⟩; have hy30 : y246.length = ((wrap64 (t232 + (wrap64 (1 + (Int.tmod (wrap64 (a2)) (t228.length : Int)))))) : Int).toNat - (t232 : Int).toNat := (by rw [Ny246.out, List.length_drop, List.length_take] <;> omega); rw [show ((t228).take ((wrap64 (t232 + (wrap64 (1 + (Int.tmod (wrap64 (a2)) (t228.length : Int)))))) : Int).toNat).drop (t232 : Int).toNat = y246 from Ny246.out.symm] at hr30; replace hr30 : Kd.C (Kd.int .i64) _ A30 y246.length y246 := (by rw [hA30]; exact hr30); rw [← hy30, ← hA30, ← hc30] at hcut30; have HR249 := Aside0.mk hr30; have HC249 := Aside0.mk (show y246.length ≤ c30 from by rw [hy30, hc30]; exact Nat.sub_le_sub_right (Nat.le_trans (by omega) hroom30) _); clear hr30 hC30 hroom30 hi030 hsz30 hc30; have KY30 := Aside0.mk hy30; have KA30 := Aside0.mk hA30; clear hy30 hA30; have KL30 := Aside0.mk (show ((wrap64 (t232 + (wrap64 (1 + (Int.tmod (wrap64 (a2)) (t228.length : Int)))))) : Int).toNat ≤ t228.length from by omega); have KM30 := Aside0.mk (show (t232 : Int).toNat ≤ ((wrap64 (t232 + (wrap64 (1 + (Int.tmod (wrap64 (a2)) (t228.length : Int)))))) : Int).toNat from by omega); replace q30 := eq_true q30))
          go_loopg [15, 16, 58] k (fun kq v15 v16 v58 w' => ∃ (x15_1 : Int) (x16_1 : Int) (x58_1 : Int), v15 = .int .i64 x15_1 ∧ v16 = .int .i64 x16_1 ∧ v58 = .int .i64 x58_1 ∧ Aside0 (shapesearchlaw11_WindowSums.l0 kq (wrap64 (1 + (Int.tmod (wrap64 (a2)) (t228.length : Int)))) t239 t244 x15_1 x16_1 y246 (y246.length : Int) x58_1 t241 t242 t243 = some r) ∧ Aside0 (kq ≤ k) ∧ Aside0 (Kd.R (Kd.int .i64) 3 w' w.heap.size (fun k_ => some k_ ≠ ((.slice Ao23 t236.length co23) : Value).ownBlock) (.slice Ao20 t233.length co20) t233) ∧ Aside0 (Kd.R (Kd.int .i64) 3 w' w.heap.size (fun k_ => some k_ ≠ ((.slice Ao20 t233.length co20) : Value).ownBlock) (.slice Ao23 t236.length co23) t236) ∧ Aside0 (w'.heap[gb240]? = some (.cells #[(.slice Ao20 t233.length co20), (.slice Ao23 t236.length co23)] 28 (0, 0))) ∧ Aside0 (w'.heap[gb245]? = some (.cells #[.int .i64 t241, .int .i64 t242, .int .i64 t243] 33 (0, 0))) ∧ Aside0 (Kd.C (Kd.int .i64) w' A30 y246.length y246) ∧ Aside0 (Below w.heap.size w w'))
          case atStart => exact ⟨(0), (0), (0), (by first | rfl | (simp; done) | (simp [*]; done)), (by first | rfl | (simp; done) | (simp [*]; done)), (by first | rfl | (simp; done) | (simp [*]; done)), H', ⟨Nat.le_refl _⟩, ⟨by (with_reducible repeat (first | apply Kd.R_alloc | apply Kd.R_drewN | apply Kd.R_drew)); exact Kd.R_mono HO235.out (fun _ hk => hk.2)⟩, ⟨by (with_reducible repeat (first | apply Kd.R_alloc | apply Kd.R_drewN | apply Kd.R_drew)); exact Kd.R_mono HO238.out (fun _ hk => hk.2)⟩, ⟨by (with_reducible repeat (first | refine blk_drewN ?_ _ | refine blk_drew ?_ | refine blk_alloc ?_ _)); exact BK240.out⟩, ⟨by (with_reducible repeat (first | refine blk_drewN ?_ _ | refine blk_drew ?_ | refine blk_alloc ?_ _)); exact BK245.out⟩, ⟨by repeat (first | (with_reducible exact HR249.out) | (with_reducible refine Kd.C_alloc ?_ _) | (with_reducible refine Kd.C_drewN ?_ _) | (with_reducible refine Kd.C_drew ?_) | exact HR249.out)⟩, ⟨by repeat (first | (with_reducible first | exact HB.out | apply below_alloc | apply pw_below_drewN | apply below_drew1 | refine below_set ?_ (IsS58.ge HI225.out) | refine below_set ?_ GE240.out | refine below_set ?_ GE245.out) | exact HB.out)⟩⟩
          case round =>
            clear H'
            try clear c1
            try clear c2
            try clear p2
            try clear c3
            try clear q3
            try clear p6
            try clear c7
            try clear c7b0
            try clear c7b1
            try clear c7b2
            try clear c9
            try clear c10
            try clear c11
            try clear c11b0
            try clear c11b1
            try clear c12
            try clear c12b0
            try clear c12b1
            try clear c13
            try clear c13b0
            try clear c13b1
            try clear c14
            try clear c21
            try clear c26
            try clear c27
            try clear c30
            try clear q30
            try clear hcz22_0
            try clear hcz22_1
            try clear hcz28_0
            try clear hcz28_1
            try clear hcz28_2
            try clear hfz22_0
            try clear hfz22_1
            try clear hfz28_0
            try clear hfz28_1
            try clear hfz28_2
            try clear q030
            try clear q30
            obtain ⟨x15_1, x16_1, x58_1, rfl, rfl, rfl, HA, HK1, HO_241000, HO_241001, BK240, BK245, HR249, HB⟩ := hrel
            cases gk with
            | zero => exact absurd HA.out (by simp [shapesearchlaw11_WindowSums.l0])
            | succ k1 =>
              have H := HA.out
              clear HA
              simp only [shapesearchlaw11_WindowSums.l0] at H
              by_cases c31 : x58_1 < (y246.length : Int)
              · rw [if_pos c31] at H
                have c31b0 : decide (x58_1 < (y246.length : Int)) = true := decide_eq_true c31
                clear c31
                by_cases c32 : 0 ≤ x58_1
                · rw [if_pos c32] at H
                  have c32b0 : decide (0 ≤ x58_1) = true := decide_eq_true c32
                  clear c32
                  by_cases c33 : x58_1 < (y246.length : Int)
                  · rw [if_pos c33] at H
                    have c33b0 : decide (x58_1 < (y246.length : Int)) = true := decide_eq_true c33
                    clear c33
                    have H' := Aside0.mk H
                    clear H
                    have p250 : 0 ≤ (x58_1 : Int) := of_decide_eq_true (by first | (with_reducible assumption) | assumption)
                    have q250 : x58_1 < (y246.length : Int) := of_decide_eq_true (by first | (with_reducible assumption) | assumption)
                    obtain ⟨ad250, e250, hx250_0⟩ := Kd.at_int (by repeat (first | (with_reducible exact HR249.out) | (with_reducible refine Kd.C_alloc ?_ _) | (with_reducible refine Kd.C_drewN ?_ _) | (with_reducible refine Kd.C_drew ?_) | exact HR249.out)) x58_1 p250 q250
                    cases e250
                    replace p250 := eq_true p250
                    replace q250 := eq_true q250
                    go_wp2
                    go_roundg k1
                    case measure => have := HK1.out; omega
                    case rel => exact ⟨(wrap64 (x15_1 + (rd y246 x58_1))), (wrap64 (x16_1 + (wrap64 ((rd y246 x58_1) * (rd y246 x58_1))))), (wrap64 (x58_1 + 1)), (by first | rfl | (simp; done) | (simp [*]; done)), (by first | rfl | (simp; done) | (simp [*]; done)), (by first | rfl | (simp; done) | (simp [*]; done)), H', ⟨by have := HK1.out; omega⟩, ⟨by (with_reducible repeat (first | apply Kd.R_alloc | apply Kd.R_drewN | apply Kd.R_drew)); exact HO_241000.out⟩, ⟨by (with_reducible repeat (first | apply Kd.R_alloc | apply Kd.R_drewN | apply Kd.R_drew)); exact HO_241001.out⟩, ⟨by (with_reducible repeat (first | refine blk_drewN ?_ _ | refine blk_drew ?_ | refine blk_alloc ?_ _)); exact BK240.out⟩, ⟨by (with_reducible repeat (first | refine blk_drewN ?_ _ | refine blk_drew ?_ | refine blk_alloc ?_ _)); exact BK245.out⟩, ⟨by repeat (first | (with_reducible exact HR249.out) | (with_reducible refine Kd.C_alloc ?_ _) | (with_reducible refine Kd.C_drewN ?_ _) | (with_reducible refine Kd.C_drew ?_) | exact HR249.out)⟩, ⟨by repeat (first | (with_reducible first | exact HB.out | apply below_alloc | apply pw_below_drewN | apply below_drew1 | refine below_set ?_ GE240.out | refine below_set ?_ GE245.out) | exact HB.out)⟩⟩
                  · rw [if_neg c33] at H
                    exact absurd H (by simp)
                · rw [if_neg c32] at H
                  exact absurd H (by simp)
              · rw [if_neg c31] at H
                have c31b0 : decide (x58_1 < (y246.length : Int)) = false := decide_eq_false c31
                clear c31
                by_cases c34 : t239 = 0
                · rw [if_pos c34] at H
                  have c34b0 : (t239 == 0) = true := beq_iff_eq.mpr c34
                  have c34b1 : (t239 != 0) = false := bne_eq_false_iff_eq.mpr c34
                  clear c34
                  by_cases c35 : t244 = 0
                  · rw [if_pos c35] at H
                    have c35b0 : (t244 == 0) = true := beq_iff_eq.mpr c35
                    have c35b1 : (t244 != 0) = false := bne_eq_false_iff_eq.mpr c35
                    clear c35
                    by_cases c36 : (t241 == (wrap64 (1 + (Int.tmod (wrap64 (a2)) (t228.length : Int)))) && (t242 == x15_1 && (t243 == x16_1))) = true
                    · rw [if_pos c36] at H
                      have c36b0 : (t241 == (wrap64 (1 + (Int.tmod (wrap64 (a2)) (t228.length : Int)))) && (t242 == x15_1 && (t243 == x16_1))) = true := c36
                      (try (have c36b1 : decide (t241 = (wrap64 (1 + (Int.tmod (wrap64 (a2)) (t228.length : Int)))) && (t242 == x15_1 && (t243 == x16_1))) = true := by simpa using c36))
                      (try (have c36b2 : (t241 == (wrap64 (1 + (Int.tmod (wrap64 (a2)) (t228.length : Int)))) && (t242 == x15_1 && (t243 == x16_1))) = true := by simpa using c36))
                      clear c36
                      replace H := Option.bind_eq_some_iff.mp H
                      obtain ⟨t251, A370, H⟩ := H
                      replace H : (some t251) = some r := H
                      have A37 := Aside0.mk A370
                      clear A370
                      obtain rfl := Option.some.inj H
                      have hnb38 := NB245_240.out
                      have hnc38 := NB240_245.out
                      have hcz39_0 : wr.cell? ⟨gb245, 0, none⟩ = some (.int .i64 t241) := (blk_cell BK245.out 0).trans rfl
                      have hcz39_1 : wr.cell? ⟨gb245, 1, none⟩ = some (.int .i64 t242) := (blk_cell BK245.out 1).trans rfl
                      have hcz39_2 : wr.cell? ⟨gb245, 2, none⟩ = some (.int .i64 t243) := (blk_cell BK245.out 2).trans rfl
                      have hfz39_0 := blk_frozen BK245.out 0
                      have hfz39_1 := blk_frozen BK245.out 1
                      have hfz39_2 := blk_frozen BK245.out 2
                      go_wp2_with (first | (go_at_call 15; (with_reducible refine (shapesearchlaw11_awake.calls k1  t251 _ A37.out).mono ?_); rintro e w40 ⟨rfl, hb⟩; have n0_ := Aside0.mk (Kd.R_below (by (with_reducible repeat (first | apply Kd.R_alloc | apply Kd.R_drewN | apply Kd.R_drew)); exact HO_241000.out) hb); have n1_ := Aside0.mk (Kd.R_below (by (with_reducible repeat (first | apply Kd.R_alloc | apply Kd.R_drewN | apply Kd.R_drew)); exact HO_241001.out) hb); have n2_ := Aside0.mk (blk_below (g := gb240) (o := .cells #[.slice Ao20 t233.length co20, .slice Ao23 t236.length co23] 28 (0, 0)) (by (with_reducible repeat (first | refine blk_drewN ?_ _ | refine blk_drew ?_ | refine blk_alloc ?_ _)); exact BK240.out) hb); have n3_ := Aside0.mk (blk_below (g := gb245) (o := .cells #[.int .i64 t241, .int .i64 t242, .int .i64 t243] 33 (0, 0)) (by (with_reducible repeat (first | refine blk_drewN ?_ _ | refine blk_drew ?_ | refine blk_alloc ?_ _)); exact BK245.out) hb); have n4_ := Aside0.mk (Kd.C_below (by repeat (first | (with_reducible exact HR249.out) | (with_reducible refine Kd.C_alloc ?_ _) | (with_reducible refine Kd.C_drewN ?_ _) | (with_reducible refine Kd.C_drew ?_) | exact HR249.out)) hb); have n5_ := Aside0.mk (below_step (by repeat (first | (with_reducible first | exact HB.out | apply below_alloc | apply pw_below_drewN | apply below_drew1 | refine below_set ?_ GE240.out | refine below_set ?_ GE245.out) | exact HB.out)) hb); clear HO_241000; clear HO_241001; clear BK240; clear BK245; clear HR249; clear HB; have HO_241000 := n0_; have HO_241001 := n1_; have BK240 := n2_; have BK245 := n3_; have HR249 := n4_; have HB := n5_; clear n0_ n1_ n2_ n3_ n4_ n5_; (try clear hb); (try clear hb2); (try clear hk); (try clear hi)))
                      go_ret
                      exact ⟨by first | rfl | (simp [errW_none, errW_some] <;> rfl) | (simp [*, errW_none, errW_some] <;> rfl), by repeat (first | (with_reducible first | exact HB.out | apply below_alloc | apply pw_below_drewN | apply below_drew1 | refine below_set ?_ GE240.out | refine below_set ?_ GE245.out) | exact HB.out)⟩
                    · rw [if_neg c36] at H
                      have c36b0 : (t241 == (wrap64 (1 + (Int.tmod (wrap64 (a2)) (t228.length : Int)))) && (t242 == x15_1 && (t243 == x16_1))) = false := by simpa using c36
                      (try (have c36b1 : decide (t241 = (wrap64 (1 + (Int.tmod (wrap64 (a2)) (t228.length : Int)))) && (t242 == x15_1 && (t243 == x16_1))) = false := by simpa using c36))
                      (try (have c36b2 : (t241 == (wrap64 (1 + (Int.tmod (wrap64 (a2)) (t228.length : Int)))) && (t242 == x15_1 && (t243 == x16_1))) = false := by simpa using c36))
                      (try (have c36b3 : ¬ (t241 = (wrap64 (1 + (Int.tmod (wrap64 (a2)) (t228.length : Int)))) && (t242 == x15_1 && (t243 == x16_1))) := by simpa using c36))
                      clear c36
                      obtain rfl := Option.some.inj H
                      have hnb41 := NB245_240.out
                      have hnc41 := NB240_245.out
                      have hcz42_0 : wr.cell? ⟨gb245, 0, none⟩ = some (.int .i64 t241) := (blk_cell BK245.out 0).trans rfl
                      have hcz42_1 : wr.cell? ⟨gb245, 1, none⟩ = some (.int .i64 t242) := (blk_cell BK245.out 1).trans rfl
                      have hcz42_2 : wr.cell? ⟨gb245, 2, none⟩ = some (.int .i64 t243) := (blk_cell BK245.out 2).trans rfl
                      have hfz42_0 := blk_frozen BK245.out 0
                      have hfz42_1 := blk_frozen BK245.out 1
                      have hfz42_2 := blk_frozen BK245.out 2
                      go_wp2
                      go_ret
                      exact ⟨by first | rfl | (simp [errW_none, errW_some] <;> rfl) | (simp [*, errW_none, errW_some] <;> rfl), by repeat (first | (with_reducible first | exact HB.out | apply below_alloc | apply pw_below_drewN | apply below_drew1 | refine below_set ?_ GE240.out | refine below_set ?_ GE245.out) | exact HB.out)⟩
                  · rw [if_neg c35] at H
                    have c35b0 : (t244 == 0) = false := beq_eq_false_iff_ne.mpr c35
                    have c35b1 : (t244 != 0) = true := bne_iff_ne.mpr c35
                    obtain rfl := Option.some.inj H
                    go_wp2
                    go_ret
                    exact ⟨by first | rfl | (simp [errW_none, errW_some] <;> rfl) | (simp [*, errW_none, errW_some] <;> rfl), by repeat (first | (with_reducible first | exact HB.out | apply below_alloc | apply pw_below_drewN | apply below_drew1 | refine below_set ?_ GE240.out | refine below_set ?_ GE245.out) | exact HB.out)⟩
                · rw [if_neg c34] at H
                  have c34b0 : (t239 == 0) = false := beq_eq_false_iff_ne.mpr c34
                  have c34b1 : (t239 != 0) = true := bne_iff_ne.mpr c34
                  obtain rfl := Option.some.inj H
                  go_wp2
                  go_ret
                  exact ⟨by first | rfl | (simp [errW_none, errW_some] <;> rfl) | (simp [*, errW_none, errW_some] <;> rfl), by repeat (first | (with_reducible first | exact HB.out | apply below_alloc | apply pw_below_drewN | apply below_drew1 | refine below_set ?_ GE240.out | refine below_set ?_ GE245.out) | exact HB.out)⟩
        · rw [if_neg c13] at H
          exact absurd H (by simp)
      · rw [if_neg c12] at H
        exact absurd H (by simp)
    · rw [if_neg c11] at H
      exact absurd H (by simp)

/-- THE ONE PURE STATEMENT of shapesearchlaw11_WindowSums: yours. -/
def shapesearchlaw11_WindowSums.Pure : Prop := ∀ (l0 : List Int) (a1 : Int) (a2 : Int), l0.length ≤ maxLen → l0.length * 8 ≤ 140737488351232 → (∀ x ∈ l0, (Lit.int .i64 x).wf = true) → (Lit.int .u8 a1).wf = true → (Lit.int .u8 a2).wf = true → ∃ k, shapesearchlaw11_WindowSums.f k l0 a1 a2 = some true
theorem shapesearchlaw11_WindowSums.walk (P : shapesearchlaw11_WindowSums.Pure) (a0 : Option Addr) (len0 cap0 : Nat) (z0 : List Int) (a1 : Int) (a2 : Int) (w : World) (w0 : (a0 = none ∧ len0 = 0 ∧ cap0 = 0 ∧ z0 = []) ∨ ∃ x, a0 = some x ∧ len0 ≤ cap0 ∧ cap0 ≤ maxLen ∧ z0.length = cap0 ∧ (∀ i, i < z0.length → w.cell? (x.add i) = some (.int .i64 (z0.getD i 0))) ∧ ∀ n ∈ z0, (Lit.int .i64 n).wf = true) (y0 : len0 * 8 ≤ 140737488351232) (w1 : (Lit.int .u8 a1).wf = true) (w2 : (Lit.int .u8 a2).wf = true) :
    Calls Try.prog 3 #[.slice a0 len0 cap0, .int .u8 a1, .int .u8 a2] w fun e w' => e = .returned (.bool true) ∧ Below w.heap.size w w' := by
  obtain ⟨l0, rfl, hr0, hm0, hw0, hc0⟩ := ReadsInt.ofRowC w0
  obtain ⟨k, h⟩ := P l0 a1 a2 hm0 y0 hw0 w1 w2
  refine (shapesearchlaw11_WindowSums.calls k _ _ l0 a1 a2 true w (Kd.C_of_reads (d := (0 : Int)) (h1 := fun _ => rfl) hr0) hc0 h).mono ?_
  rintro e w' ⟨rfl, hd⟩
  exact ⟨rfl, hd⟩

end Go.Proofs.Ytknkiogjibpooaa.Hp
