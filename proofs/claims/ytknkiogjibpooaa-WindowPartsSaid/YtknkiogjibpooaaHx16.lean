-- Written by wip/tools/hprint.py of this session, over the kit's print with hand-made contracts; Lean checks it.
import Derived.Test.YtknkiogjibpooaaHx0
import Derived.Test.YtknkiogjibpooaaHx1
import Derived.Test.YtknkiogjibpooaaHx2
import Derived.Test.YtknkiogjibpooaaHx3
import Derived.Test.YtknkiogjibpooaaHx4
import Derived.Test.YtknkiogjibpooaaHx7
import Derived.Test.YtknkiogjibpooaaHx10
import Derived.Test.YtknkiogjibpooaaHx12
namespace Go.Proofs.Ytknkiogjibpooaa.Hp
open Go.RowKit Go.Proofs.YtknkiogjibpooaaW.PrintWords Go.Proofs.YtknkiogjibpooaaW.PrintLast Go.Proofs.YtknkiogjibpooaaW.PrintMore
attribute [local go_sem] max2_int min2_int max_two min_two max_three min_three max_four min_four   -- for this text's walks alone
attribute [local go_sem] i64_w
set_option linter.unusedVariables false
set_option linter.unusedSimpArgs false

attribute [local go_sem high] eqA33
/-! ### shapesearchlaw11_WindowParts: function 5 -/
def shapesearchlaw11_WindowParts.f (k : Nat) (l0 : List Int) (a1 : Int) (a2 : Int) : Option (Bool) := (shapesearchkeep_New.f l0).bind fun bt286 => ((shapesearchkeep_Src_Range.f bt286.1 bt286.2 2 60).bind fun bt289 => ((shapesearchkeep_Src_List.f k bt286.1 bt289.2 bt289.1).bind fun bt291 => (if (wrap64 ((bt291.1.length : Int) - 1)) = 0 then (none) else (if (wrap64 ((bt291.1.length : Int) - (wrap64 (1 + (Int.tmod (wrap64 (a1)) (wrap64 ((bt291.1.length : Int) - 1))))))) = 0 then (none) else ((window_Of.f k bt291.1).bind fun bt295 => ((window_Stats.f k bt295.1 bt295.2.1 0 (wrap64 (1 + (Int.tmod (wrap64 (a1)) (wrap64 ((bt291.1.length : Int) - 1)))))).bind fun bt303 => ((window_Stats.f k bt295.1 bt295.2.1 (wrap64 (1 + (Int.tmod (wrap64 (a1)) (wrap64 ((bt291.1.length : Int) - 1))))) (wrap64 (1 + (Int.tmod (wrap64 (a2)) (wrap64 ((bt291.1.length : Int) - (wrap64 (1 + (Int.tmod (wrap64 (a1)) (wrap64 ((bt291.1.length : Int) - 1))))))))))).bind fun bt308 => ((window_Stats.f k bt295.1 bt295.2.1 0 (wrap64 ((wrap64 (1 + (Int.tmod (wrap64 (a1)) (wrap64 ((bt291.1.length : Int) - 1))))) + (wrap64 (1 + (Int.tmod (wrap64 (a2)) (wrap64 ((bt291.1.length : Int) - (wrap64 (1 + (Int.tmod (wrap64 (a1)) (wrap64 ((bt291.1.length : Int) - 1))))))))))))).bind fun bt313 => (if bt295.2.2 = 0 then (if bt303.2.2.2 = 0 then (if bt308.2.2.2 = 0 then (if bt313.2.2.2 = 0 then (if (bt313.1 == (wrap64 (bt303.1 + bt308.1)) && (bt313.2.1 == (wrap64 (bt303.2.1 + bt308.2.1)) && (bt313.2.2.1 == (wrap64 (bt303.2.2.1 + bt308.2.2.1))))) = true then ((window_Variance.f bt313.1 bt313.2.1 bt313.2.2.1).bind fun t318 => ((window_Variance.f bt303.1 bt303.2.1 bt303.2.2.1).bind fun t319 => ((window_Variance.f bt308.1 bt308.2.1 bt308.2.2.1).bind fun t320 => (if t318 ≥ (wrap64 (t319 + t320)) then ((shapesearchlaw11_awake.f k).bind fun t321 => (some t321)) else (none))))) else (none)) else (none)) else (none)) else (none)) else (none))))))))))
theorem shapesearchlaw11_WindowParts.mono : ∀ a0 a1 a2 k, LeO (shapesearchlaw11_WindowParts.f k a0 a1 a2) (shapesearchlaw11_WindowParts.f (k + 1) a0 a1 a2) := by
  intro a0 a1 a2 k
  unfold shapesearchlaw11_WindowParts.f
  repeat' first
      | (with_reducible exact shapesearchkeep_Src_List.mono _ _ _ _)
      | (with_reducible exact shapesearchlaw11_awake.mono _)
      | (with_reducible exact window_Of.mono _ _)
      | (with_reducible exact window_Stats.mono _ _ _ _ _)
      | (with_reducible exact LeO.refl _)
      | (with_reducible exact LeO.none _)
      | (with_reducible refine LeO.ite ?_ ?_)
      | (with_reducible refine LeO.bind ?_ (fun _ => ?_))
      | exact shapesearchkeep_Src_List.mono _ _ _ _
      | exact shapesearchlaw11_awake.mono _
      | exact window_Of.mono _ _
      | exact window_Stats.mono _ _ _ _ _
      | exact LeO.none _
      | refine LeO.ite ?_ ?_
      | refine LeO.bind ?_ (fun _ => ?_)
def shapesearchlaw11_WindowParts.T9 : Bool × List (List Nat × List Nat) := (true, [([], []), ([0], [0]), ([1], [1]), ([2], [2]), ([3, 2], [2, 3]), ([2, 4], [2, 4]), ([5, 2], [5]), ([6], [6]), ([7, 6], [6, 7]), ([6, 8], [6, 8]), ([9, 6], [9]), ([10], [10]), ([11, 10], [10, 11]), ([10, 12], [10, 12]), ([13, 10], [13]), ([14], [14]), ([14], [14]), ([16, 14], [14, 16]), ([14], [14]), ([18, 14], [14, 18]), ([17, 19, 14], [14, 17, 19]), ([14], [14]), ([21, 14], [14, 21]), ([14], [14]), ([23, 14], [14, 23]), ([22, 24, 14], [14, 22, 24]), ([14], [14]), ([26, 14], [14, 26]), ([14], [14]), ([28, 14], [14, 28]), ([27, 29, 14], [14, 27, 29]), ([20, 25, 30, 14], [14, 20, 25, 30]), ([15, 31, 14], [14, 15, 31]), ([14, 32], [14, 32]), ([33, 14], [33]), ([34], [34]), ([35, 34, 34], [34, 35]), ([34], [34]), ([37, 36, 34], [34, 37]), ([34], [34]), ([39, 38, 34], [34, 39]), ([38, 40, 34], [34, 38, 40]), ([36, 41, 34], [34, 36, 41]), ([34, 42], [34, 42]), ([43, 40], [43]), ([44, 44], [44]), ([44, 45], [44, 45]), ([46, 45, 0, 1, 2, 3, 4, 5, 6, 7, 8, 9, 10, 11, 12, 13, 14, 15, 16, 17, 18, 19, 20, 21, 22, 23, 24, 25, 26, 27, 28, 29, 30, 31, 32, 33, 34, 35, 36, 37, 38, 39, 40, 41, 42, 43, 44, 45, 46], [46])])
def shapesearchlaw11_WindowParts.B9 : List Nat := [0, 1, 3, 7, 15, 31, 63, 127, 255, 511, 1023, 2047, 4095, 8191, 16383, 32767, 32767, 98303, 32767, 294911, 1015807, 32767, 2129919, 32767, 8421375, 31490047, 32767, 67141631, 32767, 268468223, 1006665727, 2147450879, 4294967295, 8589934591, 17179869183, 34359738367, 68719476735, 34359738367, 274877906943, 34359738367, 1099511627775, 2199023255551, 4398046511103, 8796093022207, 17592186044415, 35184372088831, 70368744177663, 140737488355327]
theorem shapesearchlaw11_WindowParts.tab9 : rtab .any (opsOf Try.f5 9) = shapesearchlaw11_WindowParts.T9 := by kernel_rfl
theorem shapesearchlaw11_WindowParts.bits9 : waitsOk shapesearchlaw11_WindowParts.T9.2 shapesearchlaw11_WindowParts.B9 = true := by kernel_rfl
set_option maxHeartbeats 8000000 in
set_option maxRecDepth 100000 in
theorem shapesearchlaw11_WindowParts.calls (k : Nat) (A0 : Option Addr) (c0 : Nat) (l0 : List Int) (a1 : Int) (a2 : Int) (r : Bool) (w : World) (hr0 : Kd.C (Kd.int .i64) w A0 l0.length l0) (hc0 : l0.length ≤ c0) (h : shapesearchlaw11_WindowParts.f k l0 a1 a2 = some r) :
    Calls Try.prog 5 #[.slice A0 l0.length c0, .int .u8 a1, .int .u8 a2] w fun e w' => e = .returned (.bool r) ∧ Below w.heap.size w w' := by
  have hu28 := Try.underlying28
  have hu33 := Try.underlying33
  have HR0 := Aside0.mk hr0
  have HC0 := Aside0.mk hc0
  clear hr0 hc0
  have HB := Aside0.mk (Below.refl w.heap.size w)
  have H : ((shapesearchkeep_New.f l0).bind fun bt286 => ((shapesearchkeep_Src_Range.f bt286.1 bt286.2 2 60).bind fun bt289 => ((shapesearchkeep_Src_List.f k bt286.1 bt289.2 bt289.1).bind fun bt291 => (if (wrap64 ((bt291.1.length : Int) - 1)) = 0 then (none) else (if (wrap64 ((bt291.1.length : Int) - (wrap64 (1 + (Int.tmod (wrap64 (a1)) (wrap64 ((bt291.1.length : Int) - 1))))))) = 0 then (none) else ((window_Of.f k bt291.1).bind fun bt295 => ((window_Stats.f k bt295.1 bt295.2.1 0 (wrap64 (1 + (Int.tmod (wrap64 (a1)) (wrap64 ((bt291.1.length : Int) - 1)))))).bind fun bt303 => ((window_Stats.f k bt295.1 bt295.2.1 (wrap64 (1 + (Int.tmod (wrap64 (a1)) (wrap64 ((bt291.1.length : Int) - 1))))) (wrap64 (1 + (Int.tmod (wrap64 (a2)) (wrap64 ((bt291.1.length : Int) - (wrap64 (1 + (Int.tmod (wrap64 (a1)) (wrap64 ((bt291.1.length : Int) - 1))))))))))).bind fun bt308 => ((window_Stats.f k bt295.1 bt295.2.1 0 (wrap64 ((wrap64 (1 + (Int.tmod (wrap64 (a1)) (wrap64 ((bt291.1.length : Int) - 1))))) + (wrap64 (1 + (Int.tmod (wrap64 (a2)) (wrap64 ((bt291.1.length : Int) - (wrap64 (1 + (Int.tmod (wrap64 (a1)) (wrap64 ((bt291.1.length : Int) - 1))))))))))))).bind fun bt313 => (if bt295.2.2 = 0 then (if bt303.2.2.2 = 0 then (if bt308.2.2.2 = 0 then (if bt313.2.2.2 = 0 then (if (bt313.1 == (wrap64 (bt303.1 + bt308.1)) && (bt313.2.1 == (wrap64 (bt303.2.1 + bt308.2.1)) && (bt313.2.2.1 == (wrap64 (bt303.2.2.1 + bt308.2.2.1))))) = true then ((window_Variance.f bt313.1 bt313.2.1 bt313.2.2.1).bind fun t318 => ((window_Variance.f bt303.1 bt303.2.1 bt303.2.2.1).bind fun t319 => ((window_Variance.f bt308.1 bt308.2.1 bt308.2.2.1).bind fun t320 => (if t318 ≥ (wrap64 (t319 + t320)) then ((shapesearchlaw11_awake.f k).bind fun t321 => (some t321)) else (none))))) else (none)) else (none)) else (none)) else (none)) else (none))))))))))) = some r := h
  clear h
  replace H := Option.bind_eq_some_iff.mp H
  obtain ⟨⟨t286, t287⟩, A40, H⟩ := H
  replace H : ((shapesearchkeep_Src_Range.f t286 t287 2 60).bind fun bt289 => ((shapesearchkeep_Src_List.f k t286 bt289.2 bt289.1).bind fun bt291 => (if (wrap64 ((bt291.1.length : Int) - 1)) = 0 then (none) else (if (wrap64 ((bt291.1.length : Int) - (wrap64 (1 + (Int.tmod (wrap64 (a1)) (wrap64 ((bt291.1.length : Int) - 1))))))) = 0 then (none) else ((window_Of.f k bt291.1).bind fun bt295 => ((window_Stats.f k bt295.1 bt295.2.1 0 (wrap64 (1 + (Int.tmod (wrap64 (a1)) (wrap64 ((bt291.1.length : Int) - 1)))))).bind fun bt303 => ((window_Stats.f k bt295.1 bt295.2.1 (wrap64 (1 + (Int.tmod (wrap64 (a1)) (wrap64 ((bt291.1.length : Int) - 1))))) (wrap64 (1 + (Int.tmod (wrap64 (a2)) (wrap64 ((bt291.1.length : Int) - (wrap64 (1 + (Int.tmod (wrap64 (a1)) (wrap64 ((bt291.1.length : Int) - 1))))))))))).bind fun bt308 => ((window_Stats.f k bt295.1 bt295.2.1 0 (wrap64 ((wrap64 (1 + (Int.tmod (wrap64 (a1)) (wrap64 ((bt291.1.length : Int) - 1))))) + (wrap64 (1 + (Int.tmod (wrap64 (a2)) (wrap64 ((bt291.1.length : Int) - (wrap64 (1 + (Int.tmod (wrap64 (a1)) (wrap64 ((bt291.1.length : Int) - 1))))))))))))).bind fun bt313 => (if bt295.2.2 = 0 then (if bt303.2.2.2 = 0 then (if bt308.2.2.2 = 0 then (if bt313.2.2.2 = 0 then (if (bt313.1 == (wrap64 (bt303.1 + bt308.1)) && (bt313.2.1 == (wrap64 (bt303.2.1 + bt308.2.1)) && (bt313.2.2.1 == (wrap64 (bt303.2.2.1 + bt308.2.2.1))))) = true then ((window_Variance.f bt313.1 bt313.2.1 bt313.2.2.1).bind fun t318 => ((window_Variance.f bt303.1 bt303.2.1 bt303.2.2.1).bind fun t319 => ((window_Variance.f bt308.1 bt308.2.1 bt308.2.2.1).bind fun t320 => (if t318 ≥ (wrap64 (t319 + t320)) then ((shapesearchlaw11_awake.f k).bind fun t321 => (some t321)) else (none))))) else (none)) else (none)) else (none)) else (none)) else (none)))))))))) = some r := H
  have A4 := Aside0.mk A40
  clear A40
  replace H := Option.bind_eq_some_iff.mp H
  obtain ⟨⟨t289, t290⟩, A50, H⟩ := H
  replace H : ((shapesearchkeep_Src_List.f k t286 t290 t289).bind fun bt291 => (if (wrap64 ((bt291.1.length : Int) - 1)) = 0 then (none) else (if (wrap64 ((bt291.1.length : Int) - (wrap64 (1 + (Int.tmod (wrap64 (a1)) (wrap64 ((bt291.1.length : Int) - 1))))))) = 0 then (none) else ((window_Of.f k bt291.1).bind fun bt295 => ((window_Stats.f k bt295.1 bt295.2.1 0 (wrap64 (1 + (Int.tmod (wrap64 (a1)) (wrap64 ((bt291.1.length : Int) - 1)))))).bind fun bt303 => ((window_Stats.f k bt295.1 bt295.2.1 (wrap64 (1 + (Int.tmod (wrap64 (a1)) (wrap64 ((bt291.1.length : Int) - 1))))) (wrap64 (1 + (Int.tmod (wrap64 (a2)) (wrap64 ((bt291.1.length : Int) - (wrap64 (1 + (Int.tmod (wrap64 (a1)) (wrap64 ((bt291.1.length : Int) - 1))))))))))).bind fun bt308 => ((window_Stats.f k bt295.1 bt295.2.1 0 (wrap64 ((wrap64 (1 + (Int.tmod (wrap64 (a1)) (wrap64 ((bt291.1.length : Int) - 1))))) + (wrap64 (1 + (Int.tmod (wrap64 (a2)) (wrap64 ((bt291.1.length : Int) - (wrap64 (1 + (Int.tmod (wrap64 (a1)) (wrap64 ((bt291.1.length : Int) - 1))))))))))))).bind fun bt313 => (if bt295.2.2 = 0 then (if bt303.2.2.2 = 0 then (if bt308.2.2.2 = 0 then (if bt313.2.2.2 = 0 then (if (bt313.1 == (wrap64 (bt303.1 + bt308.1)) && (bt313.2.1 == (wrap64 (bt303.2.1 + bt308.2.1)) && (bt313.2.2.1 == (wrap64 (bt303.2.2.1 + bt308.2.2.1))))) = true then ((window_Variance.f bt313.1 bt313.2.1 bt313.2.2.1).bind fun t318 => ((window_Variance.f bt303.1 bt303.2.1 bt303.2.2.1).bind fun t319 => ((window_Variance.f bt308.1 bt308.2.1 bt308.2.2.1).bind fun t320 => (if t318 ≥ (wrap64 (t319 + t320)) then ((shapesearchlaw11_awake.f k).bind fun t321 => (some t321)) else (none))))) else (none)) else (none)) else (none)) else (none)) else (none))))))))) = some r := H
  have A5 := Aside0.mk A50
  clear A50
  replace H := Option.bind_eq_some_iff.mp H
  obtain ⟨⟨t291, t294⟩, A60, H⟩ := H
  replace H : (if (wrap64 ((t291.length : Int) - 1)) = 0 then (none) else (if (wrap64 ((t291.length : Int) - (wrap64 (1 + (Int.tmod (wrap64 (a1)) (wrap64 ((t291.length : Int) - 1))))))) = 0 then (none) else ((window_Of.f k t291).bind fun bt295 => ((window_Stats.f k bt295.1 bt295.2.1 0 (wrap64 (1 + (Int.tmod (wrap64 (a1)) (wrap64 ((t291.length : Int) - 1)))))).bind fun bt303 => ((window_Stats.f k bt295.1 bt295.2.1 (wrap64 (1 + (Int.tmod (wrap64 (a1)) (wrap64 ((t291.length : Int) - 1))))) (wrap64 (1 + (Int.tmod (wrap64 (a2)) (wrap64 ((t291.length : Int) - (wrap64 (1 + (Int.tmod (wrap64 (a1)) (wrap64 ((t291.length : Int) - 1))))))))))).bind fun bt308 => ((window_Stats.f k bt295.1 bt295.2.1 0 (wrap64 ((wrap64 (1 + (Int.tmod (wrap64 (a1)) (wrap64 ((t291.length : Int) - 1))))) + (wrap64 (1 + (Int.tmod (wrap64 (a2)) (wrap64 ((t291.length : Int) - (wrap64 (1 + (Int.tmod (wrap64 (a1)) (wrap64 ((t291.length : Int) - 1))))))))))))).bind fun bt313 => (if bt295.2.2 = 0 then (if bt303.2.2.2 = 0 then (if bt308.2.2.2 = 0 then (if bt313.2.2.2 = 0 then (if (bt313.1 == (wrap64 (bt303.1 + bt308.1)) && (bt313.2.1 == (wrap64 (bt303.2.1 + bt308.2.1)) && (bt313.2.2.1 == (wrap64 (bt303.2.2.1 + bt308.2.2.1))))) = true then ((window_Variance.f bt313.1 bt313.2.1 bt313.2.2.1).bind fun t318 => ((window_Variance.f bt303.1 bt303.2.1 bt303.2.2.1).bind fun t319 => ((window_Variance.f bt308.1 bt308.2.1 bt308.2.2.1).bind fun t320 => (if t318 ≥ (wrap64 (t319 + t320)) then ((shapesearchlaw11_awake.f k).bind fun t321 => (some t321)) else (none))))) else (none)) else (none)) else (none)) else (none)) else (none)))))))) = some r := H
  have A6 := Aside0.mk A60
  clear A60
  by_cases c7 : (wrap64 ((t291.length : Int) - 1)) = 0
  · rw [if_pos c7] at H
    exact absurd H (by simp)
  · rw [if_neg c7] at H
    have c7b0 : ((wrap64 ((t291.length : Int) - 1)) == 0) = false := beq_eq_false_iff_ne.mpr c7
    have c7b1 : ((wrap64 ((t291.length : Int) - 1)) != 0) = true := bne_iff_ne.mpr c7
    by_cases c8 : (wrap64 ((t291.length : Int) - (wrap64 (1 + (Int.tmod (wrap64 (a1)) (wrap64 ((t291.length : Int) - 1))))))) = 0
    · rw [if_pos c8] at H
      exact absurd H (by simp)
    · rw [if_neg c8] at H
      have c8b0 : ((wrap64 ((t291.length : Int) - (wrap64 (1 + (Int.tmod (wrap64 (a1)) (wrap64 ((t291.length : Int) - 1))))))) == 0) = false := beq_eq_false_iff_ne.mpr c8
      have c8b1 : ((wrap64 ((t291.length : Int) - (wrap64 (1 + (Int.tmod (wrap64 (a1)) (wrap64 ((t291.length : Int) - 1))))))) != 0) = true := bne_iff_ne.mpr c8
      replace H := Option.bind_eq_some_iff.mp H
      obtain ⟨⟨t295, t298, t301⟩, A90, H⟩ := H
      replace H : ((window_Stats.f k t295 t298 0 (wrap64 (1 + (Int.tmod (wrap64 (a1)) (wrap64 ((t291.length : Int) - 1)))))).bind fun bt303 => ((window_Stats.f k t295 t298 (wrap64 (1 + (Int.tmod (wrap64 (a1)) (wrap64 ((t291.length : Int) - 1))))) (wrap64 (1 + (Int.tmod (wrap64 (a2)) (wrap64 ((t291.length : Int) - (wrap64 (1 + (Int.tmod (wrap64 (a1)) (wrap64 ((t291.length : Int) - 1))))))))))).bind fun bt308 => ((window_Stats.f k t295 t298 0 (wrap64 ((wrap64 (1 + (Int.tmod (wrap64 (a1)) (wrap64 ((t291.length : Int) - 1))))) + (wrap64 (1 + (Int.tmod (wrap64 (a2)) (wrap64 ((t291.length : Int) - (wrap64 (1 + (Int.tmod (wrap64 (a1)) (wrap64 ((t291.length : Int) - 1))))))))))))).bind fun bt313 => (if t301 = 0 then (if bt303.2.2.2 = 0 then (if bt308.2.2.2 = 0 then (if bt313.2.2.2 = 0 then (if (bt313.1 == (wrap64 (bt303.1 + bt308.1)) && (bt313.2.1 == (wrap64 (bt303.2.1 + bt308.2.1)) && (bt313.2.2.1 == (wrap64 (bt303.2.2.1 + bt308.2.2.1))))) = true then ((window_Variance.f bt313.1 bt313.2.1 bt313.2.2.1).bind fun t318 => ((window_Variance.f bt303.1 bt303.2.1 bt303.2.2.1).bind fun t319 => ((window_Variance.f bt308.1 bt308.2.1 bt308.2.2.1).bind fun t320 => (if t318 ≥ (wrap64 (t319 + t320)) then ((shapesearchlaw11_awake.f k).bind fun t321 => (some t321)) else (none))))) else (none)) else (none)) else (none)) else (none)) else (none))))) = some r := H
      have A9 := Aside0.mk A90
      clear A90
      replace H := Option.bind_eq_some_iff.mp H
      obtain ⟨⟨t303, t304, t305, t306⟩, A100, H⟩ := H
      replace H : ((window_Stats.f k t295 t298 (wrap64 (1 + (Int.tmod (wrap64 (a1)) (wrap64 ((t291.length : Int) - 1))))) (wrap64 (1 + (Int.tmod (wrap64 (a2)) (wrap64 ((t291.length : Int) - (wrap64 (1 + (Int.tmod (wrap64 (a1)) (wrap64 ((t291.length : Int) - 1))))))))))).bind fun bt308 => ((window_Stats.f k t295 t298 0 (wrap64 ((wrap64 (1 + (Int.tmod (wrap64 (a1)) (wrap64 ((t291.length : Int) - 1))))) + (wrap64 (1 + (Int.tmod (wrap64 (a2)) (wrap64 ((t291.length : Int) - (wrap64 (1 + (Int.tmod (wrap64 (a1)) (wrap64 ((t291.length : Int) - 1))))))))))))).bind fun bt313 => (if t301 = 0 then (if t306 = 0 then (if bt308.2.2.2 = 0 then (if bt313.2.2.2 = 0 then (if (bt313.1 == (wrap64 (t303 + bt308.1)) && (bt313.2.1 == (wrap64 (t304 + bt308.2.1)) && (bt313.2.2.1 == (wrap64 (t305 + bt308.2.2.1))))) = true then ((window_Variance.f bt313.1 bt313.2.1 bt313.2.2.1).bind fun t318 => ((window_Variance.f t303 t304 t305).bind fun t319 => ((window_Variance.f bt308.1 bt308.2.1 bt308.2.2.1).bind fun t320 => (if t318 ≥ (wrap64 (t319 + t320)) then ((shapesearchlaw11_awake.f k).bind fun t321 => (some t321)) else (none))))) else (none)) else (none)) else (none)) else (none)) else (none)))) = some r := H
      have A10 := Aside0.mk A100
      clear A100
      replace H := Option.bind_eq_some_iff.mp H
      obtain ⟨⟨t308, t309, t310, t311⟩, A110, H⟩ := H
      replace H : ((window_Stats.f k t295 t298 0 (wrap64 ((wrap64 (1 + (Int.tmod (wrap64 (a1)) (wrap64 ((t291.length : Int) - 1))))) + (wrap64 (1 + (Int.tmod (wrap64 (a2)) (wrap64 ((t291.length : Int) - (wrap64 (1 + (Int.tmod (wrap64 (a1)) (wrap64 ((t291.length : Int) - 1))))))))))))).bind fun bt313 => (if t301 = 0 then (if t306 = 0 then (if t311 = 0 then (if bt313.2.2.2 = 0 then (if (bt313.1 == (wrap64 (t303 + t308)) && (bt313.2.1 == (wrap64 (t304 + t309)) && (bt313.2.2.1 == (wrap64 (t305 + t310))))) = true then ((window_Variance.f bt313.1 bt313.2.1 bt313.2.2.1).bind fun t318 => ((window_Variance.f t303 t304 t305).bind fun t319 => ((window_Variance.f t308 t309 t310).bind fun t320 => (if t318 ≥ (wrap64 (t319 + t320)) then ((shapesearchlaw11_awake.f k).bind fun t321 => (some t321)) else (none))))) else (none)) else (none)) else (none)) else (none)) else (none))) = some r := H
      have A11 := Aside0.mk A110
      clear A110
      replace H := Option.bind_eq_some_iff.mp H
      obtain ⟨⟨t313, t314, t315, t316⟩, A120, H⟩ := H
      replace H : (if t301 = 0 then (if t306 = 0 then (if t311 = 0 then (if t316 = 0 then (if (t313 == (wrap64 (t303 + t308)) && (t314 == (wrap64 (t304 + t309)) && (t315 == (wrap64 (t305 + t310))))) = true then ((window_Variance.f t313 t314 t315).bind fun t318 => ((window_Variance.f t303 t304 t305).bind fun t319 => ((window_Variance.f t308 t309 t310).bind fun t320 => (if t318 ≥ (wrap64 (t319 + t320)) then ((shapesearchlaw11_awake.f k).bind fun t321 => (some t321)) else (none))))) else (none)) else (none)) else (none)) else (none)) else (none)) = some r := H
      have A12 := Aside0.mk A120
      clear A120
      by_cases c13 : t301 = 0
      · rw [if_pos c13] at H
        have c13b0 : (t301 == 0) = true := beq_iff_eq.mpr c13
        have c13b1 : (t301 != 0) = false := bne_eq_false_iff_eq.mpr c13
        clear c13
        by_cases c14 : t306 = 0
        · rw [if_pos c14] at H
          have c14b0 : (t306 == 0) = true := beq_iff_eq.mpr c14
          have c14b1 : (t306 != 0) = false := bne_eq_false_iff_eq.mpr c14
          clear c14
          by_cases c15 : t311 = 0
          · rw [if_pos c15] at H
            have c15b0 : (t311 == 0) = true := beq_iff_eq.mpr c15
            have c15b1 : (t311 != 0) = false := bne_eq_false_iff_eq.mpr c15
            clear c15
            by_cases c16 : t316 = 0
            · rw [if_pos c16] at H
              have c16b0 : (t316 == 0) = true := beq_iff_eq.mpr c16
              have c16b1 : (t316 != 0) = false := bne_eq_false_iff_eq.mpr c16
              clear c16
              by_cases c17 : (t313 == (wrap64 (t303 + t308)) && (t314 == (wrap64 (t304 + t309)) && (t315 == (wrap64 (t305 + t310))))) = true
              · rw [if_pos c17] at H
                have c17b0 : (t313 == (wrap64 (t303 + t308)) && (t314 == (wrap64 (t304 + t309)) && (t315 == (wrap64 (t305 + t310))))) = true := c17
                (try (have c17b1 : decide (t313 = (wrap64 (t303 + t308)) && (t314 == (wrap64 (t304 + t309)) && (t315 == (wrap64 (t305 + t310))))) = true := by simpa using c17))
                (try (have c17b2 : (t313 == (wrap64 (t303 + t308)) && (t314 == (wrap64 (t304 + t309)) && (t315 == (wrap64 (t305 + t310))))) = true := by simpa using c17))
                clear c17
                replace H := Option.bind_eq_some_iff.mp H
                obtain ⟨t318, A180, H⟩ := H
                replace H : ((window_Variance.f t303 t304 t305).bind fun t319 => ((window_Variance.f t308 t309 t310).bind fun t320 => (if t318 ≥ (wrap64 (t319 + t320)) then ((shapesearchlaw11_awake.f k).bind fun t321 => (some t321)) else (none)))) = some r := H
                have A18 := Aside0.mk A180
                clear A180
                replace H := Option.bind_eq_some_iff.mp H
                obtain ⟨t319, A190, H⟩ := H
                replace H : ((window_Variance.f t308 t309 t310).bind fun t320 => (if t318 ≥ (wrap64 (t319 + t320)) then ((shapesearchlaw11_awake.f k).bind fun t321 => (some t321)) else (none))) = some r := H
                have A19 := Aside0.mk A190
                clear A190
                replace H := Option.bind_eq_some_iff.mp H
                obtain ⟨t320, A200, H⟩ := H
                replace H : (if t318 ≥ (wrap64 (t319 + t320)) then ((shapesearchlaw11_awake.f k).bind fun t321 => (some t321)) else (none)) = some r := H
                have A20 := Aside0.mk A200
                clear A200
                by_cases c21 : t318 ≥ (wrap64 (t319 + t320))
                · rw [if_pos c21] at H
                  have c21b0 : decide ((wrap64 (t319 + t320)) ≤ t318) = true := decide_eq_true c21
                  clear c21
                  replace H := Option.bind_eq_some_iff.mp H
                  obtain ⟨t321, A220, H⟩ := H
                  replace H : (some t321) = some r := H
                  have A22 := Aside0.mk A220
                  clear A220
                  obtain rfl := Option.some.inj H
                  go_enter Try.func5, Try.ntmps5
                  try go_wp2_with (first | ((with_reducible refine gate_callee (f := 9) rfl ?_); refine goesL_ (some 20) rfl rfl Try.func9 (by kernel_rfl) rfl #[.slice A0 l0.length c0] rfl (by (try simp only [List.map_toArray, List.map_cons, List.map_nil]); first | done | rfl | (simp only [List.length_drop, List.length_take]; rfl)) ?_; (with_reducible refine (shapesearchkeep_New.calls _ _ l0 t286 t287 w _ ?side1 ?side2 ?side3 A4.out).mono ?_); (case side1 => repeat (first | (with_reducible first | exact HB.out | apply below_alloc | apply pw_below_drewN | apply below_drew1) | exact HB.out)); (case side2 => exact HR0.out); (case side3 => exact HC0.out); rintro e w23 ⟨g288, rfl, hi, hb, hb2⟩; refine ⟨_, rfl, ?_⟩; have n0_ := Aside0.mk (hb); have n1_ := Aside0.mk (hi); clear HB; have HB := n0_; have HI288 := n1_; clear n0_ n1_; (try clear hb); (try clear hb2); (try clear hk); (try clear hi)) | ((with_reducible refine gate_callee (f := 11) rfl ?_); refine goesL_ (some 23) rfl rfl Try.func11 (by kernel_rfl) rfl #[.pointer (some ⟨g288, 0, none⟩), .int .i64 2, .int .i64 60] rfl (by (try simp only [List.map_toArray, List.map_cons, List.map_nil]); first | done | rfl | (simp only [List.length_drop, List.length_take]; rfl)) ?_; (with_reducible refine (shapesearchkeep_Src_Range.calls g288 t286 t287 2 60 t289 t290 w _ ?side1 ?side2 A5.out).mono ?_); (case side1 => repeat (first | (with_reducible first | exact HI288.out | apply IsS58.alloc | apply IsS58.drewN | apply IsS58.drew | apply IsS58.set_1) | exact HI288.out)); (case side2 => repeat (first | (with_reducible first | exact HB.out | apply below_alloc | apply pw_below_drewN | apply below_drew1 | refine below_set ?_ (IsS58.ge HI288.out)) | exact HB.out)); rintro e w24 ⟨rfl, hi, hb, hk⟩; refine ⟨_, rfl, ?_⟩; have n0_ := Aside0.mk (hb); have n1_ := Aside0.mk (hi); clear HB; clear HI288; have HB := n0_; have HI288 := n1_; clear n0_ n1_; (try clear hb); (try clear hb2); (try clear hk); (try clear hi)) | ((with_reducible refine gate_callee (f := 10) rfl ?_); refine goesL_ (some 24) rfl rfl Try.func10 (by kernel_rfl) rfl #[.pointer (some ⟨g288, 0, none⟩), .int .i64 t289] rfl (by (try simp only [List.map_toArray, List.map_cons, List.map_nil]); first | done | rfl | (simp only [List.length_drop, List.length_take]; rfl)) ?_; (with_reducible refine (shapesearchkeep_Src_List.calls k g288 t286 t290 t289 t291 t294 w _ ?side1 ?side2 A6.out).mono ?_); (case side1 => repeat (first | (with_reducible first | exact HI288.out | apply IsS58.alloc | apply IsS58.drewN | apply IsS58.drew | apply IsS58.set_1) | exact HI288.out)); (case side2 => repeat (first | (with_reducible first | exact HB.out | apply below_alloc | apply pw_below_drewN | apply below_drew1 | refine below_set ?_ (IsS58.ge HI288.out)) | exact HB.out)); rintro e w25 ⟨v292, rfl, ho0, hi, hb, hk⟩; refine ⟨_, rfl, ?_⟩; have n0_ := Aside0.mk (Kd.R_lower ho0 (below_size (by repeat (first | (with_reducible first | exact HB.out | apply below_alloc | apply pw_below_drewN | apply below_drew1 | refine below_set ?_ (IsS58.ge HI288.out)) | exact HB.out)))); have n1_ := Aside0.mk (hb); have n2_ := Aside0.mk (hi); clear HB; clear HI288; have HO293 := n0_; have HB := n1_; have HI288 := n2_; clear n0_ n1_ n2_; (try clear hb); (try clear hb2); (try clear hk); (try clear hi); (try clear ho0); obtain ⟨Ao26, co26, eo26⟩ := Kd.R_slice HO293.out; subst eo26) | ((with_reducible refine gate_callee (f := 13) rfl ?_); refine goesL_ (some 42) rfl rfl Try.func13 (by kernel_rfl) rfl #[.slice Ao26 t291.length co26] rfl (by (try simp only [List.map_toArray, List.map_cons, List.map_nil]); first | done | rfl | (simp only [List.length_drop, List.length_take]; rfl)) ?_; (with_reducible refine (window_Of.calls k _ _ t291 t295 t298 t301 _ ?side1 ?side2 A9.out).mono ?_); (case side1 => repeat (first | exact (Kd.R_reads' HO293.out).2.2 | (with_reducible refine Kd.C_alloc ?_ _) | (with_reducible refine Kd.C_drewN ?_ _) | (with_reducible refine Kd.C_drew ?_))); (case side2 => exact (Kd.R_reads' HO293.out).2.1); rintro e w27 ⟨v296, v299, rfl, ho0, ho1, hb⟩; refine ⟨_, rfl, ?_⟩; have n0_ := Aside0.mk (Kd.R_mono (Kd.R_told (Kd.R_told (Kd.R_old (by (with_reducible repeat (first | apply Kd.R_alloc | apply Kd.R_drewN | apply Kd.R_drew)); exact HO293.out) hb) (Kd.R_base ho0)) (Kd.R_base ho1)) (fun _ h_ => h_.1)); have n1_ := Aside0.mk (Kd.R_lower (Kd.R_new' ho0 (Kd.R_lt (by (with_reducible repeat (first | apply Kd.R_alloc | apply Kd.R_drewN | apply Kd.R_drew)); exact HO293.out))) (below_size (by repeat (first | (with_reducible first | exact HB.out | apply below_alloc | apply pw_below_drewN | apply below_drew1 | refine below_set ?_ (IsS58.ge HI288.out)) | exact HB.out)))); have n2_ := Aside0.mk (Kd.R_lower (Kd.R_new' ho1 (Kd.R_lt (by (with_reducible repeat (first | apply Kd.R_alloc | apply Kd.R_drewN | apply Kd.R_drew)); exact HO293.out))) (below_size (by repeat (first | (with_reducible first | exact HB.out | apply below_alloc | apply pw_below_drewN | apply below_drew1 | refine below_set ?_ (IsS58.ge HI288.out)) | exact HB.out)))); have n3_ := Aside0.mk (IsS58.below (by repeat (first | (with_reducible first | exact HI288.out | apply IsS58.alloc | apply IsS58.drewN | apply IsS58.drew | apply IsS58.set_1) | exact HI288.out)) hb); have n4_ := Aside0.mk (below_step (by repeat (first | (with_reducible first | exact HB.out | apply below_alloc | apply pw_below_drewN | apply below_drew1 | refine below_set ?_ (IsS58.ge HI288.out)) | exact HB.out)) hb); clear HO293; clear HI288; clear HB; have HO293 := n0_; have HO297 := n1_; have HO300 := n2_; have HI288 := n3_; have HB := n4_; clear n0_ n1_ n2_ n3_ n4_; (try clear hb); (try clear hb2); (try clear hk); (try clear hi); (try clear ho0); (try clear ho1)) | ((with_reducible refine gate_dst (N := 11) rfl ?_); refine box_event ?hg (N := 11) ?hd (cs := #[.slice none 0 0, .slice none 0 0]) (t := 28) ?hr ?_; (case hd => rfl); (case hg => rfl); (case hr => first | (go_simp; done) | (go_simp; rfl)); intro gb302 hg w28 hbox hb; have n0_ := Aside0.mk (Kd.R_below (by (with_reducible repeat (first | apply Kd.R_alloc | apply Kd.R_drewN | apply Kd.R_drew)); exact HO293.out) hb); have n1_ := Aside0.mk (Kd.R_below (by (with_reducible repeat (first | apply Kd.R_alloc | apply Kd.R_drewN | apply Kd.R_drew)); exact HO297.out) hb); have n2_ := Aside0.mk (Kd.R_below (by (with_reducible repeat (first | apply Kd.R_alloc | apply Kd.R_drewN | apply Kd.R_drew)); exact HO300.out) hb); have n3_ := Aside0.mk (IsS58.below (by repeat (first | (with_reducible first | exact HI288.out | apply IsS58.alloc | apply IsS58.drewN | apply IsS58.drew | apply IsS58.set_1) | exact HI288.out)) hb); have n4_ := Aside0.mk (below_step (by repeat (first | (with_reducible first | exact HB.out | apply below_alloc | apply pw_below_drewN | apply below_drew1 | refine below_set ?_ (IsS58.ge HI288.out)) | exact HB.out)) hb); have n5_ := Aside0.mk (hbox); have n6_ := Aside0.mk ((by rw [hg]; exact (below_size (by repeat (first | (with_reducible first | exact HB.out | apply below_alloc | apply pw_below_drewN | apply below_drew1 | refine below_set ?_ (IsS58.ge HI288.out)) | exact HB.out))) : w.heap.size ≤ gb302)); have n7_ := Aside0.mk ((by rw [hg]; exact (below_size (by repeat (first | (with_reducible first | exact HB.out | apply below_alloc | apply pw_below_drewN | apply below_drew1 | refine below_set ?_ (IsS58.ge HI288.out)) | exact HB.out))) : w.heap.size ≤ gb302)); have n8_ := Aside0.mk ((by rw [hg]; exact Nat.ne_of_lt (IsS58.lt (show IsS58 w _ g288 t286 t294 from by repeat (first | (with_reducible first | exact HI288.out | apply IsS58.alloc | apply IsS58.drewN | apply IsS58.drew | apply IsS58.set_1) | exact HI288.out))) : g288 ≠ gb302)); have n9_ := Aside0.mk ((by rw [hg]; exact Nat.ne_of_gt (IsS58.lt (show IsS58 w _ g288 t286 t294 from by repeat (first | (with_reducible first | exact HI288.out | apply IsS58.alloc | apply IsS58.drewN | apply IsS58.drew | apply IsS58.set_1) | exact HI288.out))) : gb302 ≠ g288)); clear HO293; clear HO297; clear HO300; clear HI288; clear HB; have HO293 := n0_; have HO297 := n1_; have HO300 := n2_; have HI288 := n3_; have HB := n4_; have BK302 := n5_; have GW302 := n6_; have GE302 := n7_; have NB288_302 := n8_; have NB302_288 := n9_; clear n0_ n1_ n2_ n3_ n4_ n5_ n6_ n7_ n8_ n9_; clear hb hbox hg; obtain ⟨Ao29, co29, eo29⟩ := Kd.R_slice HO297.out; subst eo29; have hnb30 := NB302_288.out; have hnc30 := NB288_302.out; have hcz31_0 : w28.cell? ⟨gb302, 0, none⟩ = some (.slice none 0 0) := (blk_cell BK302.out 0).trans rfl; have hcz31_1 : w28.cell? ⟨gb302, 1, none⟩ = some (.slice none 0 0) := (blk_cell BK302.out 1).trans rfl; have hfz31_0 := blk_frozen BK302.out 0; have hfz31_1 := blk_frozen BK302.out 1; obtain ⟨Ao32, co32, eo32⟩ := Kd.R_slice HO300.out; subst eo32) | ((with_reducible refine gate_callee (f := 14) rfl ?_); refine goesL_ (some 48) rfl rfl Try.func14 (by kernel_rfl) rfl #[.agg #[.slice Ao29 t295.length co29, .slice Ao32 t298.length co32], .int .i64 0, .int .i64 (wrap64 (1 + (Int.tmod (wrap64 (a1)) (wrap64 ((t291.length : Int) - 1)))))] rfl (by (try simp only [List.map_toArray, List.map_cons, List.map_nil]); first | done | rfl | (simp only [List.length_drop, List.length_take]; rfl)) ?_; (with_reducible refine (window_Stats.calls k _ _ t295 _ _ t298 0 (wrap64 (1 + (Int.tmod (wrap64 (a1)) (wrap64 ((t291.length : Int) - 1))))) t303 t304 t305 t306 _ ?side1 ?side2 ?side3 ?side4 A10.out).mono ?_); (case side1 => refine (Kd.R_reads' (e := 3) (base := w.heap.size) (ok := fun k_ => (some k_ ≠ (.slice Ao32 t298.length co32 : Value).ownBlock ∧ some k_ ≠ (.slice Ao26 t291.length co26 : Value).ownBlock)) (n := t295.length) (c := co29) ?_).2.2; exact (by (with_reducible repeat (first | apply Kd.R_alloc | apply Kd.R_drewN | apply Kd.R_drew)); exact (Kd.R_mono (Kd.R_far (p := ⟨gb302, 1, none⟩) (Kd.R_far (p := ⟨gb302, 0, none⟩) (Kd.R_types HO297.out BK302.out (by decide)) (fun _ hk => hk.2) (.slice Ao29 t295.length co29)) (fun _ hk => hk.2) (.slice Ao32 t298.length co32)) (fun _ h_ => h_.1)))); (case side2 => exact (Kd.R_reads' HO297.out).2.1); (case side3 => refine (Kd.R_reads' (e := 3) (base := w.heap.size) (ok := fun k_ => (some k_ ≠ (.slice Ao29 t295.length co29 : Value).ownBlock ∧ some k_ ≠ (.slice Ao26 t291.length co26 : Value).ownBlock)) (n := t298.length) (c := co32) ?_).2.2; exact (by (with_reducible repeat (first | apply Kd.R_alloc | apply Kd.R_drewN | apply Kd.R_drew)); exact (Kd.R_mono (Kd.R_far (p := ⟨gb302, 1, none⟩) (Kd.R_far (p := ⟨gb302, 0, none⟩) (Kd.R_types HO300.out BK302.out (by decide)) (fun _ hk => hk.2) (.slice Ao29 t295.length co29)) (fun _ hk => hk.2) (.slice Ao32 t298.length co32)) (fun _ h_ => h_.1)))); (case side4 => exact (Kd.R_reads' HO300.out).2.1); rintro e w33 ⟨rfl, hb⟩; refine ⟨_, rfl, ?_⟩; have n0_ := Aside0.mk (Kd.R_below (by (with_reducible repeat (first | apply Kd.R_alloc | apply Kd.R_drewN | apply Kd.R_drew)); exact (Kd.R_mono (Kd.R_far (p := ⟨gb302, 1, none⟩) (Kd.R_far (p := ⟨gb302, 0, none⟩) (Kd.R_types HO293.out BK302.out (by decide)) (fun _ hk => hk.2) (.slice Ao29 t295.length co29)) (fun _ hk => hk.2) (.slice Ao32 t298.length co32)) (fun _ h_ => h_.1))) hb); have n1_ := Aside0.mk (Kd.R_below (by (with_reducible repeat (first | apply Kd.R_alloc | apply Kd.R_drewN | apply Kd.R_drew)); exact (Kd.R_mono (Kd.R_far (p := ⟨gb302, 1, none⟩) (Kd.R_far (p := ⟨gb302, 0, none⟩) (Kd.R_types HO297.out BK302.out (by decide)) (fun _ hk => hk.2) (.slice Ao29 t295.length co29)) (fun _ hk => hk.2) (.slice Ao32 t298.length co32)) (fun _ h_ => h_.1))) hb); have n2_ := Aside0.mk (Kd.R_below (by (with_reducible repeat (first | apply Kd.R_alloc | apply Kd.R_drewN | apply Kd.R_drew)); exact (Kd.R_mono (Kd.R_far (p := ⟨gb302, 1, none⟩) (Kd.R_far (p := ⟨gb302, 0, none⟩) (Kd.R_types HO300.out BK302.out (by decide)) (fun _ hk => hk.2) (.slice Ao29 t295.length co29)) (fun _ hk => hk.2) (.slice Ao32 t298.length co32)) (fun _ h_ => h_.1))) hb); have n3_ := Aside0.mk (IsS58.below (show IsS58 w ((w28.setCell ⟨gb302, 0, none⟩ (.slice Ao29 t295.length co29)).setCell ⟨gb302, 1, none⟩ (.slice Ao32 t298.length co32)) g288 t286 t294 from by repeat (first | (with_reducible first | exact HI288.out | apply IsS58.alloc | apply IsS58.drewN | apply IsS58.drew | apply IsS58.set_1 | refine IsS58.far ?_ NB288_302.out _) | exact HI288.out)) hb); have n4_ := Aside0.mk (blk_below (g := gb302) (o := .cells #[.slice Ao29 t295.length co29, .slice Ao32 t298.length co32] 28 (0, 0)) (by (with_reducible repeat (first | refine blk_drewN ?_ _ | refine blk_drew ?_ | refine blk_alloc ?_ _)); refine blk_put (cs := #[.slice Ao29 t295.length co29, .slice none 0 0]) ?_ 1 _ rfl; (with_reducible repeat (first | refine blk_drewN ?_ _ | refine blk_drew ?_ | refine blk_alloc ?_ _)); refine blk_put (cs := #[.slice none 0 0, .slice none 0 0]) ?_ 0 _ rfl; (with_reducible repeat (first | refine blk_drewN ?_ _ | refine blk_drew ?_ | refine blk_alloc ?_ _)); exact BK302.out) hb); have n5_ := Aside0.mk (below_step (by repeat (first | (with_reducible first | exact HB.out | apply below_alloc | apply pw_below_drewN | apply below_drew1 | refine below_set ?_ (IsS58.ge HI288.out) | refine below_set ?_ GE302.out) | exact HB.out)) hb); clear HO293; clear HO297; clear HO300; clear HI288; clear BK302; clear HB; have HO293 := n0_; have HO297 := n1_; have HO300 := n2_; have HI288 := n3_; have BK302 := n4_; have HB := n5_; clear n0_ n1_ n2_ n3_ n4_ n5_; (try clear hb); (try clear hb2); (try clear hk); (try clear hi)) | ((with_reducible refine gate_dst (N := 13) rfl ?_); refine box_event ?hg (N := 13) ?hd (cs := #[.int .i64 0, .int .i64 0, .int .i64 0]) (t := 33) ?hr ?_; (case hd => rfl); (case hg => rfl); (case hr => first | (go_simp; done) | (go_simp; rfl)); intro gb307 hg w34 hbox hb; have n0_ := Aside0.mk (Kd.R_below (by (with_reducible repeat (first | apply Kd.R_alloc | apply Kd.R_drewN | apply Kd.R_drew)); exact HO293.out) hb); have n1_ := Aside0.mk (Kd.R_below (by (with_reducible repeat (first | apply Kd.R_alloc | apply Kd.R_drewN | apply Kd.R_drew)); exact HO297.out) hb); have n2_ := Aside0.mk (Kd.R_below (by (with_reducible repeat (first | apply Kd.R_alloc | apply Kd.R_drewN | apply Kd.R_drew)); exact HO300.out) hb); have n3_ := Aside0.mk (IsS58.below (by repeat (first | (with_reducible first | exact HI288.out | apply IsS58.alloc | apply IsS58.drewN | apply IsS58.drew | apply IsS58.set_1 | refine IsS58.far ?_ NB288_302.out _) | exact HI288.out)) hb); have n4_ := Aside0.mk (blk_below (g := gb302) (o := .cells #[.slice Ao29 t295.length co29, .slice Ao32 t298.length co32] 28 (0, 0)) (by (with_reducible repeat (first | refine blk_drewN ?_ _ | refine blk_drew ?_ | refine blk_alloc ?_ _)); exact BK302.out) hb); have n5_ := Aside0.mk (below_step (by repeat (first | (with_reducible first | exact HB.out | apply below_alloc | apply pw_below_drewN | apply below_drew1 | refine below_set ?_ (IsS58.ge HI288.out) | refine below_set ?_ GE302.out) | exact HB.out)) hb); have n6_ := Aside0.mk (hbox); have n7_ := Aside0.mk ((by rw [hg]; exact (below_size (by repeat (first | (with_reducible first | exact HB.out | apply below_alloc | apply pw_below_drewN | apply below_drew1 | refine below_set ?_ (IsS58.ge HI288.out) | refine below_set ?_ GE302.out) | exact HB.out))) : w.heap.size ≤ gb307)); have n8_ := Aside0.mk ((by rw [hg]; exact (below_size (by repeat (first | (with_reducible first | exact HB.out | apply below_alloc | apply pw_below_drewN | apply below_drew1 | refine below_set ?_ (IsS58.ge HI288.out) | refine below_set ?_ GE302.out) | exact HB.out))) : w.heap.size ≤ gb307)); have n9_ := Aside0.mk ((by rw [hg]; exact Nat.ne_of_lt (blk_lt (g := gb302) (o := .cells #[.slice Ao29 t295.length co29, .slice Ao32 t298.length co32] 28 (0, 0)) (by (with_reducible repeat (first | refine blk_drewN ?_ _ | refine blk_drew ?_ | refine blk_alloc ?_ _)); exact BK302.out)) : gb302 ≠ gb307)); have n10_ := Aside0.mk ((by rw [hg]; exact Nat.ne_of_gt (blk_lt (g := gb302) (o := .cells #[.slice Ao29 t295.length co29, .slice Ao32 t298.length co32] 28 (0, 0)) (by (with_reducible repeat (first | refine blk_drewN ?_ _ | refine blk_drew ?_ | refine blk_alloc ?_ _)); exact BK302.out)) : gb307 ≠ gb302)); have n11_ := Aside0.mk ((by rw [hg]; exact Nat.ne_of_lt (IsS58.lt (show IsS58 w _ g288 t286 t294 from by repeat (first | (with_reducible first | exact HI288.out | apply IsS58.alloc | apply IsS58.drewN | apply IsS58.drew | apply IsS58.set_1 | refine IsS58.far ?_ NB288_302.out _) | exact HI288.out))) : g288 ≠ gb307)); have n12_ := Aside0.mk ((by rw [hg]; exact Nat.ne_of_gt (IsS58.lt (show IsS58 w _ g288 t286 t294 from by repeat (first | (with_reducible first | exact HI288.out | apply IsS58.alloc | apply IsS58.drewN | apply IsS58.drew | apply IsS58.set_1 | refine IsS58.far ?_ NB288_302.out _) | exact HI288.out))) : gb307 ≠ g288)); clear HO293; clear HO297; clear HO300; clear HI288; clear BK302; clear HB; have HO293 := n0_; have HO297 := n1_; have HO300 := n2_; have HI288 := n3_; have BK302 := n4_; have HB := n5_; have BK307 := n6_; have GW307 := n7_; have GE307 := n8_; have NB302_307 := n9_; have NB307_302 := n10_; have NB288_307 := n11_; have NB307_288 := n12_; clear n0_ n1_ n2_ n3_ n4_ n5_ n6_ n7_ n8_ n9_ n10_ n11_ n12_; clear hb hbox hg; have hnb35 := NB307_302.out; have hnc35 := NB302_307.out; have hnb36 := NB307_288.out; have hnc36 := NB288_307.out; have hcz37_0 : w34.cell? ⟨gb307, 0, none⟩ = some (.int .i64 0) := (blk_cell BK307.out 0).trans rfl; have hcz37_1 : w34.cell? ⟨gb307, 1, none⟩ = some (.int .i64 0) := (blk_cell BK307.out 1).trans rfl; have hcz37_2 : w34.cell? ⟨gb307, 2, none⟩ = some (.int .i64 0) := (blk_cell BK307.out 2).trans rfl; have hfz37_0 := blk_frozen BK307.out 0; have hfz37_1 := blk_frozen BK307.out 1; have hfz37_2 := blk_frozen BK307.out 2; have hcz38_0 : w34.cell? ⟨gb302, 0, none⟩ = some (.slice Ao29 t295.length co29) := (blk_cell BK302.out 0).trans rfl; have hcz38_1 : w34.cell? ⟨gb302, 1, none⟩ = some (.slice Ao32 t298.length co32) := (blk_cell BK302.out 1).trans rfl; have hfz38_0 := blk_frozen BK302.out 0; have hfz38_1 := blk_frozen BK302.out 1) | ((with_reducible refine gate_callee (f := 14) rfl ?_); refine goesL_ (some 55) rfl rfl Try.func14 (by kernel_rfl) rfl #[.agg #[.slice Ao29 t295.length co29, .slice Ao32 t298.length co32], .int .i64 (wrap64 (1 + (Int.tmod (wrap64 (a1)) (wrap64 ((t291.length : Int) - 1))))), .int .i64 (wrap64 (1 + (Int.tmod (wrap64 (a2)) (wrap64 ((t291.length : Int) - (wrap64 (1 + (Int.tmod (wrap64 (a1)) (wrap64 ((t291.length : Int) - 1))))))))))] rfl (by (try simp only [List.map_toArray, List.map_cons, List.map_nil]); first | done | rfl | (simp only [List.length_drop, List.length_take]; rfl)) ?_; (with_reducible refine (window_Stats.calls k _ _ t295 _ _ t298 (wrap64 (1 + (Int.tmod (wrap64 (a1)) (wrap64 ((t291.length : Int) - 1))))) (wrap64 (1 + (Int.tmod (wrap64 (a2)) (wrap64 ((t291.length : Int) - (wrap64 (1 + (Int.tmod (wrap64 (a1)) (wrap64 ((t291.length : Int) - 1)))))))))) t308 t309 t310 t311 _ ?side1 ?side2 ?side3 ?side4 A11.out).mono ?_); (case side1 => refine (Kd.R_reads' (e := 3) (base := w.heap.size) (ok := fun k_ => (some k_ ≠ (.slice Ao32 t298.length co32 : Value).ownBlock ∧ some k_ ≠ (.slice Ao26 t291.length co26 : Value).ownBlock)) (n := t295.length) (c := co29) ?_).2.2; exact (by (with_reducible repeat (first | apply Kd.R_alloc | apply Kd.R_drewN | apply Kd.R_drew)); exact (Kd.R_mono (Kd.R_far (p := ⟨gb307, 2, none⟩) (Kd.R_far (p := ⟨gb307, 1, none⟩) (Kd.R_far (p := ⟨gb307, 0, none⟩) (Kd.R_types HO297.out BK307.out (by decide)) (fun _ hk => hk.2) (.int .i64 t303)) (fun _ hk => hk.2) (.int .i64 t304)) (fun _ hk => hk.2) (.int .i64 t305)) (fun _ h_ => h_.1)))); (case side2 => exact (Kd.R_reads' HO297.out).2.1); (case side3 => refine (Kd.R_reads' (e := 3) (base := w.heap.size) (ok := fun k_ => (some k_ ≠ (.slice Ao29 t295.length co29 : Value).ownBlock ∧ some k_ ≠ (.slice Ao26 t291.length co26 : Value).ownBlock)) (n := t298.length) (c := co32) ?_).2.2; exact (by (with_reducible repeat (first | apply Kd.R_alloc | apply Kd.R_drewN | apply Kd.R_drew)); exact (Kd.R_mono (Kd.R_far (p := ⟨gb307, 2, none⟩) (Kd.R_far (p := ⟨gb307, 1, none⟩) (Kd.R_far (p := ⟨gb307, 0, none⟩) (Kd.R_types HO300.out BK307.out (by decide)) (fun _ hk => hk.2) (.int .i64 t303)) (fun _ hk => hk.2) (.int .i64 t304)) (fun _ hk => hk.2) (.int .i64 t305)) (fun _ h_ => h_.1)))); (case side4 => exact (Kd.R_reads' HO300.out).2.1); rintro e w39 ⟨rfl, hb⟩; refine ⟨_, rfl, ?_⟩; have n0_ := Aside0.mk (Kd.R_below (by (with_reducible repeat (first | apply Kd.R_alloc | apply Kd.R_drewN | apply Kd.R_drew)); exact (Kd.R_mono (Kd.R_far (p := ⟨gb307, 2, none⟩) (Kd.R_far (p := ⟨gb307, 1, none⟩) (Kd.R_far (p := ⟨gb307, 0, none⟩) (Kd.R_types HO293.out BK307.out (by decide)) (fun _ hk => hk.2) (.int .i64 t303)) (fun _ hk => hk.2) (.int .i64 t304)) (fun _ hk => hk.2) (.int .i64 t305)) (fun _ h_ => h_.1))) hb); have n1_ := Aside0.mk (Kd.R_below (by (with_reducible repeat (first | apply Kd.R_alloc | apply Kd.R_drewN | apply Kd.R_drew)); exact (Kd.R_mono (Kd.R_far (p := ⟨gb307, 2, none⟩) (Kd.R_far (p := ⟨gb307, 1, none⟩) (Kd.R_far (p := ⟨gb307, 0, none⟩) (Kd.R_types HO297.out BK307.out (by decide)) (fun _ hk => hk.2) (.int .i64 t303)) (fun _ hk => hk.2) (.int .i64 t304)) (fun _ hk => hk.2) (.int .i64 t305)) (fun _ h_ => h_.1))) hb); have n2_ := Aside0.mk (Kd.R_below (by (with_reducible repeat (first | apply Kd.R_alloc | apply Kd.R_drewN | apply Kd.R_drew)); exact (Kd.R_mono (Kd.R_far (p := ⟨gb307, 2, none⟩) (Kd.R_far (p := ⟨gb307, 1, none⟩) (Kd.R_far (p := ⟨gb307, 0, none⟩) (Kd.R_types HO300.out BK307.out (by decide)) (fun _ hk => hk.2) (.int .i64 t303)) (fun _ hk => hk.2) (.int .i64 t304)) (fun _ hk => hk.2) (.int .i64 t305)) (fun _ h_ => h_.1))) hb); have n3_ := Aside0.mk (IsS58.below (show IsS58 w (((w34.setCell ⟨gb307, 0, none⟩ (.int .i64 t303)).setCell ⟨gb307, 1, none⟩ (.int .i64 t304)).setCell ⟨gb307, 2, none⟩ (.int .i64 t305)) g288 t286 t294 from by repeat (first | (with_reducible first | exact HI288.out | apply IsS58.alloc | apply IsS58.drewN | apply IsS58.drew | apply IsS58.set_1 | refine IsS58.far ?_ NB288_302.out _ | refine IsS58.far ?_ NB288_307.out _) | exact HI288.out)) hb); have n4_ := Aside0.mk (blk_below (g := gb302) (o := .cells #[.slice Ao29 t295.length co29, .slice Ao32 t298.length co32] 28 (0, 0)) (by (with_reducible repeat (first | refine blk_drewN ?_ _ | refine blk_drew ?_ | refine blk_alloc ?_ _)); refine blk_far ?_ NB302_307.out _; (with_reducible repeat (first | refine blk_drewN ?_ _ | refine blk_drew ?_ | refine blk_alloc ?_ _)); refine blk_far ?_ NB302_307.out _; (with_reducible repeat (first | refine blk_drewN ?_ _ | refine blk_drew ?_ | refine blk_alloc ?_ _)); refine blk_far ?_ NB302_307.out _; (with_reducible repeat (first | refine blk_drewN ?_ _ | refine blk_drew ?_ | refine blk_alloc ?_ _)); exact BK302.out) hb); have n5_ := Aside0.mk (blk_below (g := gb307) (o := .cells #[.int .i64 t303, .int .i64 t304, .int .i64 t305] 33 (0, 0)) (by (with_reducible repeat (first | refine blk_drewN ?_ _ | refine blk_drew ?_ | refine blk_alloc ?_ _)); refine blk_put (cs := #[.int .i64 t303, .int .i64 t304, .int .i64 0]) ?_ 2 _ rfl; (with_reducible repeat (first | refine blk_drewN ?_ _ | refine blk_drew ?_ | refine blk_alloc ?_ _)); refine blk_put (cs := #[.int .i64 t303, .int .i64 0, .int .i64 0]) ?_ 1 _ rfl; (with_reducible repeat (first | refine blk_drewN ?_ _ | refine blk_drew ?_ | refine blk_alloc ?_ _)); refine blk_put (cs := #[.int .i64 0, .int .i64 0, .int .i64 0]) ?_ 0 _ rfl; (with_reducible repeat (first | refine blk_drewN ?_ _ | refine blk_drew ?_ | refine blk_alloc ?_ _)); exact BK307.out) hb); have n6_ := Aside0.mk (below_step (by repeat (first | (with_reducible first | exact HB.out | apply below_alloc | apply pw_below_drewN | apply below_drew1 | refine below_set ?_ (IsS58.ge HI288.out) | refine below_set ?_ GE302.out | refine below_set ?_ GE307.out) | exact HB.out)) hb); clear HO293; clear HO297; clear HO300; clear HI288; clear BK302; clear BK307; clear HB; have HO293 := n0_; have HO297 := n1_; have HO300 := n2_; have HI288 := n3_; have BK302 := n4_; have BK307 := n5_; have HB := n6_; clear n0_ n1_ n2_ n3_ n4_ n5_ n6_; (try clear hb); (try clear hb2); (try clear hk); (try clear hi)) | ((with_reducible refine gate_dst (N := 15) rfl ?_); refine box_event ?hg (N := 15) ?hd (cs := #[.int .i64 0, .int .i64 0, .int .i64 0]) (t := 33) ?hr ?_; (case hd => rfl); (case hg => rfl); (case hr => first | (go_simp; done) | (go_simp; rfl)); intro gb312 hg w40 hbox hb; have n0_ := Aside0.mk (Kd.R_below (by (with_reducible repeat (first | apply Kd.R_alloc | apply Kd.R_drewN | apply Kd.R_drew)); exact HO293.out) hb); have n1_ := Aside0.mk (Kd.R_below (by (with_reducible repeat (first | apply Kd.R_alloc | apply Kd.R_drewN | apply Kd.R_drew)); exact HO297.out) hb); have n2_ := Aside0.mk (Kd.R_below (by (with_reducible repeat (first | apply Kd.R_alloc | apply Kd.R_drewN | apply Kd.R_drew)); exact HO300.out) hb); have n3_ := Aside0.mk (IsS58.below (by repeat (first | (with_reducible first | exact HI288.out | apply IsS58.alloc | apply IsS58.drewN | apply IsS58.drew | apply IsS58.set_1 | refine IsS58.far ?_ NB288_302.out _ | refine IsS58.far ?_ NB288_307.out _) | exact HI288.out)) hb); have n4_ := Aside0.mk (blk_below (g := gb302) (o := .cells #[.slice Ao29 t295.length co29, .slice Ao32 t298.length co32] 28 (0, 0)) (by (with_reducible repeat (first | refine blk_drewN ?_ _ | refine blk_drew ?_ | refine blk_alloc ?_ _)); exact BK302.out) hb); have n5_ := Aside0.mk (blk_below (g := gb307) (o := .cells #[.int .i64 t303, .int .i64 t304, .int .i64 t305] 33 (0, 0)) (by (with_reducible repeat (first | refine blk_drewN ?_ _ | refine blk_drew ?_ | refine blk_alloc ?_ _)); exact BK307.out) hb); have n6_ := Aside0.mk (below_step (by repeat (first | (with_reducible first | exact HB.out | apply below_alloc | apply pw_below_drewN | apply below_drew1 | refine below_set ?_ (IsS58.ge HI288.out) | refine below_set ?_ GE302.out | refine below_set ?_ GE307.out) | exact HB.out)) hb); have n7_ := Aside0.mk (hbox); have n8_ := Aside0.mk ((by rw [hg]; exact (below_size (by repeat (first | (with_reducible first | exact HB.out | apply below_alloc | apply pw_below_drewN | apply below_drew1 | refine below_set ?_ (IsS58.ge HI288.out) | refine below_set ?_ GE302.out | refine below_set ?_ GE307.out) | exact HB.out))) : w.heap.size ≤ gb312)); have n9_ := Aside0.mk ((by rw [hg]; exact (below_size (by repeat (first | (with_reducible first | exact HB.out | apply below_alloc | apply pw_below_drewN | apply below_drew1 | refine below_set ?_ (IsS58.ge HI288.out) | refine below_set ?_ GE302.out | refine below_set ?_ GE307.out) | exact HB.out))) : w.heap.size ≤ gb312)); have n10_ := Aside0.mk ((by rw [hg]; exact Nat.ne_of_lt (blk_lt (g := gb302) (o := .cells #[.slice Ao29 t295.length co29, .slice Ao32 t298.length co32] 28 (0, 0)) (by (with_reducible repeat (first | refine blk_drewN ?_ _ | refine blk_drew ?_ | refine blk_alloc ?_ _)); exact BK302.out)) : gb302 ≠ gb312)); have n11_ := Aside0.mk ((by rw [hg]; exact Nat.ne_of_gt (blk_lt (g := gb302) (o := .cells #[.slice Ao29 t295.length co29, .slice Ao32 t298.length co32] 28 (0, 0)) (by (with_reducible repeat (first | refine blk_drewN ?_ _ | refine blk_drew ?_ | refine blk_alloc ?_ _)); exact BK302.out)) : gb312 ≠ gb302)); have n12_ := Aside0.mk ((by rw [hg]; exact Nat.ne_of_lt (blk_lt (g := gb307) (o := .cells #[.int .i64 t303, .int .i64 t304, .int .i64 t305] 33 (0, 0)) (by (with_reducible repeat (first | refine blk_drewN ?_ _ | refine blk_drew ?_ | refine blk_alloc ?_ _)); exact BK307.out)) : gb307 ≠ gb312)); have n13_ := Aside0.mk ((by rw [hg]; exact Nat.ne_of_gt (blk_lt (g := gb307) (o := .cells #[.int .i64 t303, .int .i64 t304, .int .i64 t305] 33 (0, 0)) (by (with_reducible repeat (first | refine blk_drewN ?_ _ | refine blk_drew ?_ | refine blk_alloc ?_ _)); exact BK307.out)) : gb312 ≠ gb307)); have n14_ := Aside0.mk ((by rw [hg]; exact Nat.ne_of_lt (IsS58.lt (show IsS58 w _ g288 t286 t294 from by repeat (first | (with_reducible first | exact HI288.out | apply IsS58.alloc | apply IsS58.drewN | apply IsS58.drew | apply IsS58.set_1 | refine IsS58.far ?_ NB288_302.out _ | refine IsS58.far ?_ NB288_307.out _) | exact HI288.out))) : g288 ≠ gb312)); have n15_ := Aside0.mk ((by rw [hg]; exact Nat.ne_of_gt (IsS58.lt (show IsS58 w _ g288 t286 t294 from by repeat (first | (with_reducible first | exact HI288.out | apply IsS58.alloc | apply IsS58.drewN | apply IsS58.drew | apply IsS58.set_1 | refine IsS58.far ?_ NB288_302.out _ | refine IsS58.far ?_ NB288_307.out _) | exact HI288.out))) : gb312 ≠ g288)); clear HO293; clear HO297; clear HO300; clear HI288; clear BK302; clear BK307; clear HB; have HO293 := n0_; have HO297 := n1_; have HO300 := n2_; have HI288 := n3_; have BK302 := n4_; have BK307 := n5_; have HB := n6_; have BK312 := n7_; have GW312 := n8_; have GE312 := n9_; have NB302_312 := n10_; have NB312_302 := n11_; have NB307_312 := n12_; have NB312_307 := n13_; have NB288_312 := n14_; have NB312_288 := n15_; clear n0_ n1_ n2_ n3_ n4_ n5_ n6_ n7_ n8_ n9_ n10_ n11_ n12_ n13_ n14_ n15_; clear hb hbox hg; have hnb41 := NB312_302.out; have hnc41 := NB302_312.out; have hnb42 := NB312_307.out; have hnc42 := NB307_312.out; have hnb43 := NB312_288.out; have hnc43 := NB288_312.out; have hcz44_0 : w40.cell? ⟨gb312, 0, none⟩ = some (.int .i64 0) := (blk_cell BK312.out 0).trans rfl; have hcz44_1 : w40.cell? ⟨gb312, 1, none⟩ = some (.int .i64 0) := (blk_cell BK312.out 1).trans rfl; have hcz44_2 : w40.cell? ⟨gb312, 2, none⟩ = some (.int .i64 0) := (blk_cell BK312.out 2).trans rfl; have hfz44_0 := blk_frozen BK312.out 0; have hfz44_1 := blk_frozen BK312.out 1; have hfz44_2 := blk_frozen BK312.out 2; have hcz45_0 : w40.cell? ⟨gb302, 0, none⟩ = some (.slice Ao29 t295.length co29) := (blk_cell BK302.out 0).trans rfl; have hcz45_1 : w40.cell? ⟨gb302, 1, none⟩ = some (.slice Ao32 t298.length co32) := (blk_cell BK302.out 1).trans rfl; have hfz45_0 := blk_frozen BK302.out 0; have hfz45_1 := blk_frozen BK302.out 1) | ((with_reducible refine gate_callee (f := 14) rfl ?_); refine goesL_ (some 63) rfl rfl Try.func14 (by kernel_rfl) rfl #[.agg #[.slice Ao29 t295.length co29, .slice Ao32 t298.length co32], .int .i64 0, .int .i64 (wrap64 ((wrap64 (1 + (Int.tmod (wrap64 (a1)) (wrap64 ((t291.length : Int) - 1))))) + (wrap64 (1 + (Int.tmod (wrap64 (a2)) (wrap64 ((t291.length : Int) - (wrap64 (1 + (Int.tmod (wrap64 (a1)) (wrap64 ((t291.length : Int) - 1))))))))))))] rfl (by (try simp only [List.map_toArray, List.map_cons, List.map_nil]); first | done | rfl | (simp only [List.length_drop, List.length_take]; rfl)) ?_; (with_reducible refine (window_Stats.calls k _ _ t295 _ _ t298 0 (wrap64 ((wrap64 (1 + (Int.tmod (wrap64 (a1)) (wrap64 ((t291.length : Int) - 1))))) + (wrap64 (1 + (Int.tmod (wrap64 (a2)) (wrap64 ((t291.length : Int) - (wrap64 (1 + (Int.tmod (wrap64 (a1)) (wrap64 ((t291.length : Int) - 1)))))))))))) t313 t314 t315 t316 _ ?side1 ?side2 ?side3 ?side4 A12.out).mono ?_); (case side1 => refine (Kd.R_reads' (e := 3) (base := w.heap.size) (ok := fun k_ => (some k_ ≠ (.slice Ao32 t298.length co32 : Value).ownBlock ∧ some k_ ≠ (.slice Ao26 t291.length co26 : Value).ownBlock)) (n := t295.length) (c := co29) ?_).2.2; exact (by (with_reducible repeat (first | apply Kd.R_alloc | apply Kd.R_drewN | apply Kd.R_drew)); exact (Kd.R_mono (Kd.R_far (p := ⟨gb312, 2, none⟩) (Kd.R_far (p := ⟨gb312, 1, none⟩) (Kd.R_far (p := ⟨gb312, 0, none⟩) (Kd.R_types HO297.out BK312.out (by decide)) (fun _ hk => hk.2) (.int .i64 t308)) (fun _ hk => hk.2) (.int .i64 t309)) (fun _ hk => hk.2) (.int .i64 t310)) (fun _ h_ => h_.1)))); (case side2 => exact (Kd.R_reads' HO297.out).2.1); (case side3 => refine (Kd.R_reads' (e := 3) (base := w.heap.size) (ok := fun k_ => (some k_ ≠ (.slice Ao29 t295.length co29 : Value).ownBlock ∧ some k_ ≠ (.slice Ao26 t291.length co26 : Value).ownBlock)) (n := t298.length) (c := co32) ?_).2.2; exact (by (with_reducible repeat (first | apply Kd.R_alloc | apply Kd.R_drewN | apply Kd.R_drew)); exact (Kd.R_mono (Kd.R_far (p := ⟨gb312, 2, none⟩) (Kd.R_far (p := ⟨gb312, 1, none⟩) (Kd.R_far (p := ⟨gb312, 0, none⟩) (Kd.R_types HO300.out BK312.out (by decide)) (fun _ hk => hk.2) (.int .i64 t308)) (fun _ hk => hk.2) (.int .i64 t309)) (fun _ hk => hk.2) (.int .i64 t310)) (fun _ h_ => h_.1)))); (case side4 => exact (Kd.R_reads' HO300.out).2.1); rintro e w46 ⟨rfl, hb⟩; refine ⟨_, rfl, ?_⟩; have n0_ := Aside0.mk (Kd.R_below (by (with_reducible repeat (first | apply Kd.R_alloc | apply Kd.R_drewN | apply Kd.R_drew)); exact (Kd.R_mono (Kd.R_far (p := ⟨gb312, 2, none⟩) (Kd.R_far (p := ⟨gb312, 1, none⟩) (Kd.R_far (p := ⟨gb312, 0, none⟩) (Kd.R_types HO293.out BK312.out (by decide)) (fun _ hk => hk.2) (.int .i64 t308)) (fun _ hk => hk.2) (.int .i64 t309)) (fun _ hk => hk.2) (.int .i64 t310)) (fun _ h_ => h_.1))) hb); have n1_ := Aside0.mk (Kd.R_below (by (with_reducible repeat (first | apply Kd.R_alloc | apply Kd.R_drewN | apply Kd.R_drew)); exact (Kd.R_mono (Kd.R_far (p := ⟨gb312, 2, none⟩) (Kd.R_far (p := ⟨gb312, 1, none⟩) (Kd.R_far (p := ⟨gb312, 0, none⟩) (Kd.R_types HO297.out BK312.out (by decide)) (fun _ hk => hk.2) (.int .i64 t308)) (fun _ hk => hk.2) (.int .i64 t309)) (fun _ hk => hk.2) (.int .i64 t310)) (fun _ h_ => h_.1))) hb); have n2_ := Aside0.mk (Kd.R_below (by (with_reducible repeat (first | apply Kd.R_alloc | apply Kd.R_drewN | apply Kd.R_drew)); exact (Kd.R_mono (Kd.R_far (p := ⟨gb312, 2, none⟩) (Kd.R_far (p := ⟨gb312, 1, none⟩) (Kd.R_far (p := ⟨gb312, 0, none⟩) (Kd.R_types HO300.out BK312.out (by decide)) (fun _ hk => hk.2) (.int .i64 t308)) (fun _ hk => hk.2) (.int .i64 t309)) (fun _ hk => hk.2) (.int .i64 t310)) (fun _ h_ => h_.1))) hb); have n3_ := Aside0.mk (IsS58.below (show IsS58 w (((w40.setCell ⟨gb312, 0, none⟩ (.int .i64 t308)).setCell ⟨gb312, 1, none⟩ (.int .i64 t309)).setCell ⟨gb312, 2, none⟩ (.int .i64 t310)) g288 t286 t294 from by repeat (first | (with_reducible first | exact HI288.out | apply IsS58.alloc | apply IsS58.drewN | apply IsS58.drew | apply IsS58.set_1 | refine IsS58.far ?_ NB288_302.out _ | refine IsS58.far ?_ NB288_307.out _ | refine IsS58.far ?_ NB288_312.out _) | exact HI288.out)) hb); have n4_ := Aside0.mk (blk_below (g := gb302) (o := .cells #[.slice Ao29 t295.length co29, .slice Ao32 t298.length co32] 28 (0, 0)) (by (with_reducible repeat (first | refine blk_drewN ?_ _ | refine blk_drew ?_ | refine blk_alloc ?_ _)); refine blk_far ?_ NB302_312.out _; (with_reducible repeat (first | refine blk_drewN ?_ _ | refine blk_drew ?_ | refine blk_alloc ?_ _)); refine blk_far ?_ NB302_312.out _; (with_reducible repeat (first | refine blk_drewN ?_ _ | refine blk_drew ?_ | refine blk_alloc ?_ _)); refine blk_far ?_ NB302_312.out _; (with_reducible repeat (first | refine blk_drewN ?_ _ | refine blk_drew ?_ | refine blk_alloc ?_ _)); exact BK302.out) hb); have n5_ := Aside0.mk (blk_below (g := gb307) (o := .cells #[.int .i64 t303, .int .i64 t304, .int .i64 t305] 33 (0, 0)) (by (with_reducible repeat (first | refine blk_drewN ?_ _ | refine blk_drew ?_ | refine blk_alloc ?_ _)); refine blk_far ?_ NB307_312.out _; (with_reducible repeat (first | refine blk_drewN ?_ _ | refine blk_drew ?_ | refine blk_alloc ?_ _)); refine blk_far ?_ NB307_312.out _; (with_reducible repeat (first | refine blk_drewN ?_ _ | refine blk_drew ?_ | refine blk_alloc ?_ _)); refine blk_far ?_ NB307_312.out _; (with_reducible repeat (first | refine blk_drewN ?_ _ | refine blk_drew ?_ | refine blk_alloc ?_ _)); exact BK307.out) hb); have n6_ := Aside0.mk (blk_below (g := gb312) (o := .cells #[.int .i64 t308, .int .i64 t309, .int .i64 t310] 33 (0, 0)) (by (with_reducible repeat (first | refine blk_drewN ?_ _ | refine blk_drew ?_ | refine blk_alloc ?_ _)); refine blk_put (cs := #[.int .i64 t308, .int .i64 t309, .int .i64 0]) ?_ 2 _ rfl; (with_reducible repeat (first | refine blk_drewN ?_ _ | refine blk_drew ?_ | refine blk_alloc ?_ _)); refine blk_put (cs := #[.int .i64 t308, .int .i64 0, .int .i64 0]) ?_ 1 _ rfl; (with_reducible repeat (first | refine blk_drewN ?_ _ | refine blk_drew ?_ | refine blk_alloc ?_ _)); refine blk_put (cs := #[.int .i64 0, .int .i64 0, .int .i64 0]) ?_ 0 _ rfl; (with_reducible repeat (first | refine blk_drewN ?_ _ | refine blk_drew ?_ | refine blk_alloc ?_ _)); exact BK312.out) hb); have n7_ := Aside0.mk (below_step (by repeat (first | (with_reducible first | exact HB.out | apply below_alloc | apply pw_below_drewN | apply below_drew1 | refine below_set ?_ (IsS58.ge HI288.out) | refine below_set ?_ GE302.out | refine below_set ?_ GE307.out | refine below_set ?_ GE312.out) | exact HB.out)) hb); clear HO293; clear HO297; clear HO300; clear HI288; clear BK302; clear BK307; clear BK312; clear HB; have HO293 := n0_; have HO297 := n1_; have HO300 := n2_; have HI288 := n3_; have BK302 := n4_; have BK307 := n5_; have BK312 := n6_; have HB := n7_; clear n0_ n1_ n2_ n3_ n4_ n5_ n6_ n7_; (try clear hb); (try clear hb2); (try clear hk); (try clear hi)) | ((with_reducible refine gate_dst (N := 17) rfl ?_); refine box_event ?hg (N := 17) ?hd (cs := #[.int .i64 0, .int .i64 0, .int .i64 0]) (t := 33) ?hr ?_; (case hd => rfl); (case hg => rfl); (case hr => first | (go_simp; done) | (go_simp; rfl)); intro gb317 hg w47 hbox hb; have n0_ := Aside0.mk (Kd.R_below (by (with_reducible repeat (first | apply Kd.R_alloc | apply Kd.R_drewN | apply Kd.R_drew)); exact HO293.out) hb); have n1_ := Aside0.mk (Kd.R_below (by (with_reducible repeat (first | apply Kd.R_alloc | apply Kd.R_drewN | apply Kd.R_drew)); exact HO297.out) hb); have n2_ := Aside0.mk (Kd.R_below (by (with_reducible repeat (first | apply Kd.R_alloc | apply Kd.R_drewN | apply Kd.R_drew)); exact HO300.out) hb); have n3_ := Aside0.mk (IsS58.below (by repeat (first | (with_reducible first | exact HI288.out | apply IsS58.alloc | apply IsS58.drewN | apply IsS58.drew | apply IsS58.set_1 | refine IsS58.far ?_ NB288_302.out _ | refine IsS58.far ?_ NB288_307.out _ | refine IsS58.far ?_ NB288_312.out _) | exact HI288.out)) hb); have n4_ := Aside0.mk (blk_below (g := gb302) (o := .cells #[.slice Ao29 t295.length co29, .slice Ao32 t298.length co32] 28 (0, 0)) (by (with_reducible repeat (first | refine blk_drewN ?_ _ | refine blk_drew ?_ | refine blk_alloc ?_ _)); exact BK302.out) hb); have n5_ := Aside0.mk (blk_below (g := gb307) (o := .cells #[.int .i64 t303, .int .i64 t304, .int .i64 t305] 33 (0, 0)) (by (with_reducible repeat (first | refine blk_drewN ?_ _ | refine blk_drew ?_ | refine blk_alloc ?_ _)); exact BK307.out) hb); have n6_ := Aside0.mk (blk_below (g := gb312) (o := .cells #[.int .i64 t308, .int .i64 t309, .int .i64 t310] 33 (0, 0)) (by (with_reducible repeat (first | refine blk_drewN ?_ _ | refine blk_drew ?_ | refine blk_alloc ?_ _)); exact BK312.out) hb); have n7_ := Aside0.mk (below_step (by repeat (first | (with_reducible first | exact HB.out | apply below_alloc | apply pw_below_drewN | apply below_drew1 | refine below_set ?_ (IsS58.ge HI288.out) | refine below_set ?_ GE302.out | refine below_set ?_ GE307.out | refine below_set ?_ GE312.out) | exact HB.out)) hb); have n8_ := Aside0.mk (hbox); have n9_ := Aside0.mk ((by rw [hg]; exact (below_size (by repeat (first | (with_reducible first | exact HB.out | apply below_alloc | apply pw_below_drewN | apply below_drew1 | refine below_set ?_ (IsS58.ge HI288.out) | refine below_set ?_ GE302.out | refine below_set ?_ GE307.out | refine below_set ?_ GE312.out) | exact HB.out))) : w.heap.size ≤ gb317)); have n10_ := Aside0.mk ((by rw [hg]; exact (below_size (by repeat (first | (with_reducible first | exact HB.out | apply below_alloc | apply pw_below_drewN | apply below_drew1 | refine below_set ?_ (IsS58.ge HI288.out) | refine below_set ?_ GE302.out | refine below_set ?_ GE307.out | refine below_set ?_ GE312.out) | exact HB.out))) : w.heap.size ≤ gb317)); have n11_ := Aside0.mk ((by rw [hg]; exact Nat.ne_of_lt (blk_lt (g := gb302) (o := .cells #[.slice Ao29 t295.length co29, .slice Ao32 t298.length co32] 28 (0, 0)) (by (with_reducible repeat (first | refine blk_drewN ?_ _ | refine blk_drew ?_ | refine blk_alloc ?_ _)); exact BK302.out)) : gb302 ≠ gb317)); have n12_ := Aside0.mk ((by rw [hg]; exact Nat.ne_of_gt (blk_lt (g := gb302) (o := .cells #[.slice Ao29 t295.length co29, .slice Ao32 t298.length co32] 28 (0, 0)) (by (with_reducible repeat (first | refine blk_drewN ?_ _ | refine blk_drew ?_ | refine blk_alloc ?_ _)); exact BK302.out)) : gb317 ≠ gb302)); have n13_ := Aside0.mk ((by rw [hg]; exact Nat.ne_of_lt (blk_lt (g := gb307) (o := .cells #[.int .i64 t303, .int .i64 t304, .int .i64 t305] 33 (0, 0)) (by (with_reducible repeat (first | refine blk_drewN ?_ _ | refine blk_drew ?_ | refine blk_alloc ?_ _)); exact BK307.out)) : gb307 ≠ gb317)); have n14_ := Aside0.mk ((by rw [hg]; exact Nat.ne_of_gt (blk_lt (g := gb307) (o := .cells #[.int .i64 t303, .int .i64 t304, .int .i64 t305] 33 (0, 0)) (by (with_reducible repeat (first | refine blk_drewN ?_ _ | refine blk_drew ?_ | refine blk_alloc ?_ _)); exact BK307.out)) : gb317 ≠ gb307)); have n15_ := Aside0.mk ((by rw [hg]; exact Nat.ne_of_lt (blk_lt (g := gb312) (o := .cells #[.int .i64 t308, .int .i64 t309, .int .i64 t310] 33 (0, 0)) (by (with_reducible repeat (first | refine blk_drewN ?_ _ | refine blk_drew ?_ | refine blk_alloc ?_ _)); exact BK312.out)) : gb312 ≠ gb317)); have n16_ := Aside0.mk ((by rw [hg]; exact Nat.ne_of_gt (blk_lt (g := gb312) (o := .cells #[.int .i64 t308, .int .i64 t309, .int .i64 t310] 33 (0, 0)) (by (with_reducible repeat (first | refine blk_drewN ?_ _ | refine blk_drew ?_ | refine blk_alloc ?_ _)); exact BK312.out)) : gb317 ≠ gb312)); have n17_ := Aside0.mk ((by rw [hg]; exact Nat.ne_of_lt (IsS58.lt (show IsS58 w _ g288 t286 t294 from by repeat (first | (with_reducible first | exact HI288.out | apply IsS58.alloc | apply IsS58.drewN | apply IsS58.drew | apply IsS58.set_1 | refine IsS58.far ?_ NB288_302.out _ | refine IsS58.far ?_ NB288_307.out _ | refine IsS58.far ?_ NB288_312.out _) | exact HI288.out))) : g288 ≠ gb317)); have n18_ := Aside0.mk ((by rw [hg]; exact Nat.ne_of_gt (IsS58.lt (show IsS58 w _ g288 t286 t294 from by repeat (first | (with_reducible first | exact HI288.out | apply IsS58.alloc | apply IsS58.drewN | apply IsS58.drew | apply IsS58.set_1 | refine IsS58.far ?_ NB288_302.out _ | refine IsS58.far ?_ NB288_307.out _ | refine IsS58.far ?_ NB288_312.out _) | exact HI288.out))) : gb317 ≠ g288)); clear HO293; clear HO297; clear HO300; clear HI288; clear BK302; clear BK307; clear BK312; clear HB; have HO293 := n0_; have HO297 := n1_; have HO300 := n2_; have HI288 := n3_; have BK302 := n4_; have BK307 := n5_; have BK312 := n6_; have HB := n7_; have BK317 := n8_; have GW317 := n9_; have GE317 := n10_; have NB302_317 := n11_; have NB317_302 := n12_; have NB307_317 := n13_; have NB317_307 := n14_; have NB312_317 := n15_; have NB317_312 := n16_; have NB288_317 := n17_; have NB317_288 := n18_; clear n0_ n1_ n2_ n3_ n4_ n5_ n6_ n7_ n8_ n9_ n10_ n11_ n12_ n13_ n14_ n15_ n16_ n17_ n18_; clear hb hbox hg; have hnb48 := NB317_302.out; have hnc48 := NB302_317.out; have hnb49 := NB317_307.out; have hnc49 := NB307_317.out; have hnb50 := NB317_312.out; have hnc50 := NB312_317.out; have hnb51 := NB317_288.out; have hnc51 := NB288_317.out; have hcz52_0 : w47.cell? ⟨gb317, 0, none⟩ = some (.int .i64 0) := (blk_cell BK317.out 0).trans rfl; have hcz52_1 : w47.cell? ⟨gb317, 1, none⟩ = some (.int .i64 0) := (blk_cell BK317.out 1).trans rfl; have hcz52_2 : w47.cell? ⟨gb317, 2, none⟩ = some (.int .i64 0) := (blk_cell BK317.out 2).trans rfl; have hfz52_0 := blk_frozen BK317.out 0; have hfz52_1 := blk_frozen BK317.out 1; have hfz52_2 := blk_frozen BK317.out 2))
                  have n0_ : Aside0 (Kd.R (Kd.int .i64) 3 (((w47.setCell ⟨gb317, 0, none⟩ (.int .i64 t313)).setCell ⟨gb317, 1, none⟩ (.int .i64 t314)).setCell ⟨gb317, 2, none⟩ (.int .i64 t315)) w.heap.size (fun k_ => some k_ ≠ (.slice Ao29 t295.length co29 : Value).ownBlock ∧ some k_ ≠ (.slice Ao32 t298.length co32 : Value).ownBlock) (.slice Ao26 t291.length co26) t291) := ⟨by (with_reducible repeat (first | apply Kd.R_alloc | apply Kd.R_drewN | apply Kd.R_drew)); exact Kd.R_mono (Kd.R_far (p := ⟨gb317, 2, none⟩) (Kd.R_far (p := ⟨gb317, 1, none⟩) (Kd.R_far (p := ⟨gb317, 0, none⟩) (Kd.R_types HO293.out BK317.out (by decide)) (fun _ hk => hk.2) (.int .i64 t313)) (fun _ hk => hk.2) (.int .i64 t314)) (fun _ hk => hk.2) (.int .i64 t315)) (fun _ hk => ⟨hk.1.1.2, hk.1.2⟩)⟩
                  have n1_ : Aside0 (Kd.R (Kd.int .i64) 3 (((w47.setCell ⟨gb317, 0, none⟩ (.int .i64 t313)).setCell ⟨gb317, 1, none⟩ (.int .i64 t314)).setCell ⟨gb317, 2, none⟩ (.int .i64 t315)) w.heap.size (fun k_ => some k_ ≠ (.slice Ao26 t291.length co26 : Value).ownBlock ∧ some k_ ≠ (.slice Ao32 t298.length co32 : Value).ownBlock) (.slice Ao29 t295.length co29) t295) := ⟨by (with_reducible repeat (first | apply Kd.R_alloc | apply Kd.R_drewN | apply Kd.R_drew)); exact Kd.R_mono (Kd.R_far (p := ⟨gb317, 2, none⟩) (Kd.R_far (p := ⟨gb317, 1, none⟩) (Kd.R_far (p := ⟨gb317, 0, none⟩) (Kd.R_types HO297.out BK317.out (by decide)) (fun _ hk => hk.2) (.int .i64 t313)) (fun _ hk => hk.2) (.int .i64 t314)) (fun _ hk => hk.2) (.int .i64 t315)) (fun _ hk => ⟨hk.1.2, hk.1.1⟩)⟩
                  have n2_ : Aside0 (Kd.R (Kd.int .i64) 3 (((w47.setCell ⟨gb317, 0, none⟩ (.int .i64 t313)).setCell ⟨gb317, 1, none⟩ (.int .i64 t314)).setCell ⟨gb317, 2, none⟩ (.int .i64 t315)) w.heap.size (fun k_ => some k_ ≠ (.slice Ao26 t291.length co26 : Value).ownBlock ∧ some k_ ≠ (.slice Ao29 t295.length co29 : Value).ownBlock) (.slice Ao32 t298.length co32) t298) := ⟨by (with_reducible repeat (first | apply Kd.R_alloc | apply Kd.R_drewN | apply Kd.R_drew)); exact Kd.R_mono (Kd.R_far (p := ⟨gb317, 2, none⟩) (Kd.R_far (p := ⟨gb317, 1, none⟩) (Kd.R_far (p := ⟨gb317, 0, none⟩) (Kd.R_types HO300.out BK317.out (by decide)) (fun _ hk => hk.2) (.int .i64 t313)) (fun _ hk => hk.2) (.int .i64 t314)) (fun _ hk => hk.2) (.int .i64 t315)) (fun _ hk => ⟨hk.1.2, hk.1.1⟩)⟩
                  have n3_ : Aside0 ((((w47.setCell ⟨gb317, 0, none⟩ (.int .i64 t313)).setCell ⟨gb317, 1, none⟩ (.int .i64 t314)).setCell ⟨gb317, 2, none⟩ (.int .i64 t315)).heap[gb302]? = some (.cells #[.slice Ao29 t295.length co29, .slice Ao32 t298.length co32] 28 (0, 0))) := ⟨by (with_reducible repeat (first | refine blk_drewN ?_ _ | refine blk_drew ?_ | refine blk_alloc ?_ _)); refine blk_far ?_ NB302_317.out _; (with_reducible repeat (first | refine blk_drewN ?_ _ | refine blk_drew ?_ | refine blk_alloc ?_ _)); refine blk_far ?_ NB302_317.out _; (with_reducible repeat (first | refine blk_drewN ?_ _ | refine blk_drew ?_ | refine blk_alloc ?_ _)); refine blk_far ?_ NB302_317.out _; (with_reducible repeat (first | refine blk_drewN ?_ _ | refine blk_drew ?_ | refine blk_alloc ?_ _)); exact BK302.out⟩
                  have n4_ : Aside0 ((((w47.setCell ⟨gb317, 0, none⟩ (.int .i64 t313)).setCell ⟨gb317, 1, none⟩ (.int .i64 t314)).setCell ⟨gb317, 2, none⟩ (.int .i64 t315)).heap[gb307]? = some (.cells #[.int .i64 t303, .int .i64 t304, .int .i64 t305] 33 (0, 0))) := ⟨by (with_reducible repeat (first | refine blk_drewN ?_ _ | refine blk_drew ?_ | refine blk_alloc ?_ _)); refine blk_far ?_ NB307_317.out _; (with_reducible repeat (first | refine blk_drewN ?_ _ | refine blk_drew ?_ | refine blk_alloc ?_ _)); refine blk_far ?_ NB307_317.out _; (with_reducible repeat (first | refine blk_drewN ?_ _ | refine blk_drew ?_ | refine blk_alloc ?_ _)); refine blk_far ?_ NB307_317.out _; (with_reducible repeat (first | refine blk_drewN ?_ _ | refine blk_drew ?_ | refine blk_alloc ?_ _)); exact BK307.out⟩
                  have n5_ : Aside0 ((((w47.setCell ⟨gb317, 0, none⟩ (.int .i64 t313)).setCell ⟨gb317, 1, none⟩ (.int .i64 t314)).setCell ⟨gb317, 2, none⟩ (.int .i64 t315)).heap[gb312]? = some (.cells #[.int .i64 t308, .int .i64 t309, .int .i64 t310] 33 (0, 0))) := ⟨by (with_reducible repeat (first | refine blk_drewN ?_ _ | refine blk_drew ?_ | refine blk_alloc ?_ _)); refine blk_far ?_ NB312_317.out _; (with_reducible repeat (first | refine blk_drewN ?_ _ | refine blk_drew ?_ | refine blk_alloc ?_ _)); refine blk_far ?_ NB312_317.out _; (with_reducible repeat (first | refine blk_drewN ?_ _ | refine blk_drew ?_ | refine blk_alloc ?_ _)); refine blk_far ?_ NB312_317.out _; (with_reducible repeat (first | refine blk_drewN ?_ _ | refine blk_drew ?_ | refine blk_alloc ?_ _)); exact BK312.out⟩
                  have n6_ : Aside0 ((((w47.setCell ⟨gb317, 0, none⟩ (.int .i64 t313)).setCell ⟨gb317, 1, none⟩ (.int .i64 t314)).setCell ⟨gb317, 2, none⟩ (.int .i64 t315)).heap[gb317]? = some (.cells #[.int .i64 t313, .int .i64 t314, .int .i64 t315] 33 (0, 0))) := ⟨by (with_reducible repeat (first | refine blk_drewN ?_ _ | refine blk_drew ?_ | refine blk_alloc ?_ _)); refine blk_put (cs := #[.int .i64 t313, .int .i64 t314, .int .i64 0]) ?_ 2 _ rfl; (with_reducible repeat (first | refine blk_drewN ?_ _ | refine blk_drew ?_ | refine blk_alloc ?_ _)); refine blk_put (cs := #[.int .i64 t313, .int .i64 0, .int .i64 0]) ?_ 1 _ rfl; (with_reducible repeat (first | refine blk_drewN ?_ _ | refine blk_drew ?_ | refine blk_alloc ?_ _)); refine blk_put (cs := #[.int .i64 0, .int .i64 0, .int .i64 0]) ?_ 0 _ rfl; (with_reducible repeat (first | refine blk_drewN ?_ _ | refine blk_drew ?_ | refine blk_alloc ?_ _)); exact BK317.out⟩
                  have n7_ : Aside0 (IsS58 w (((w47.setCell ⟨gb317, 0, none⟩ (.int .i64 t313)).setCell ⟨gb317, 1, none⟩ (.int .i64 t314)).setCell ⟨gb317, 2, none⟩ (.int .i64 t315)) g288 t286 t294) := ⟨by repeat (first | (with_reducible first | exact HI288.out | apply IsS58.alloc | apply IsS58.drewN | apply IsS58.drew | apply IsS58.set_1 | refine IsS58.far ?_ NB288_302.out _ | refine IsS58.far ?_ NB288_307.out _ | refine IsS58.far ?_ NB288_312.out _ | refine IsS58.far ?_ NB288_317.out _) | exact HI288.out)⟩
                  have n8_ : Aside0 (Below w.heap.size w (((w47.setCell ⟨gb317, 0, none⟩ (.int .i64 t313)).setCell ⟨gb317, 1, none⟩ (.int .i64 t314)).setCell ⟨gb317, 2, none⟩ (.int .i64 t315))) := ⟨by repeat (first | (with_reducible first | exact HB.out | apply below_alloc | apply pw_below_drewN | apply below_drew1 | refine below_set ?_ (IsS58.ge HI288.out) | refine below_set ?_ GE302.out | refine below_set ?_ GE307.out | refine below_set ?_ GE312.out | refine below_set ?_ GE317.out) | exact HB.out)⟩
                  (try clear HO293)
                  (try clear HO297)
                  (try clear HO300)
                  (try clear BK302)
                  (try clear BK307)
                  (try clear BK312)
                  (try clear BK317)
                  (try clear HI288)
                  (try clear HB)
                  generalize (((w47.setCell ⟨gb317, 0, none⟩ (.int .i64 t313)).setCell ⟨gb317, 1, none⟩ (.int .i64 t314)).setCell ⟨gb317, 2, none⟩ (.int .i64 t315)) = w53 at n0_ n1_ n2_ n3_ n4_ n5_ n6_ n7_ n8_ ⊢
                  have HO293 := n0_
                  have HO297 := n1_
                  have HO300 := n2_
                  have BK302 := n3_
                  have BK307 := n4_
                  have BK312 := n5_
                  have BK317 := n6_
                  have HI288 := n7_
                  have HB := n8_
                  clear n0_ n1_ n2_ n3_ n4_ n5_ n6_ n7_ n8_
                  have n0_ := Aside0.mk (Kd.R_drew HO293.out)
                  have n1_ := Aside0.mk (Kd.R_drew HO297.out)
                  have n2_ := Aside0.mk (Kd.R_drew HO300.out)
                  have n3_ := Aside0.mk (blk_drew BK302.out)
                  have n4_ := Aside0.mk (blk_drew BK307.out)
                  have n5_ := Aside0.mk (blk_drew BK312.out)
                  have n6_ := Aside0.mk (blk_drew BK317.out)
                  have n7_ := Aside0.mk (IsS58.drew HI288.out)
                  have n8_ := Aside0.mk (below_drew1 HB.out)
                  clear HO293
                  clear HO297
                  clear HO300
                  clear BK302
                  clear BK307
                  clear BK312
                  clear BK317
                  clear HI288
                  clear HB
                  have HO293 := n0_
                  have HO297 := n1_
                  have HO300 := n2_
                  have BK302 := n3_
                  have BK307 := n4_
                  have BK312 := n5_
                  have BK317 := n6_
                  have HI288 := n7_
                  have HB := n8_
                  clear n0_ n1_ n2_ n3_ n4_ n5_ n6_ n7_ n8_
                  refine start_ (n := 48) (S := fun w' => w'.cell? ⟨gb317, 0, none⟩ = some (.int .i64 t313) ∧ w'.cell? ⟨gb317, 1, none⟩ = some (.int .i64 t314) ∧ w'.cell? ⟨gb317, 2, none⟩ = some (.int .i64 t315) ∧ w'.cell? ⟨gb307, 0, none⟩ = some (.int .i64 t303) ∧ w'.cell? ⟨gb307, 1, none⟩ = some (.int .i64 t304) ∧ w'.cell? ⟨gb307, 2, none⟩ = some (.int .i64 t305) ∧ w'.cell? ⟨gb312, 0, none⟩ = some (.int .i64 t308) ∧ w'.cell? ⟨gb312, 1, none⟩ = some (.int .i64 t309) ∧ w'.cell? ⟨gb312, 2, none⟩ = some (.int .i64 t310)) (ds := []) #[false, false, false, false, false, false, false, false, false, false, false, false, false, false, false, false, false, false, false, false, false, false, false, false, false, false, false, false, false, false, false, false, false, false, false, false, false, false, false, false, false, false, false, false, false, false, false, false] (by kernel_rfl) rfl rfl ⟨(blk_cell BK317.out 0).trans rfl, (blk_cell BK317.out 1).trans rfl, (blk_cell BK317.out 2).trans rfl, (blk_cell BK307.out 0).trans rfl, (blk_cell BK307.out 1).trans rfl, (blk_cell BK307.out 2).trans rfl, (blk_cell BK312.out 0).trans rfl, (blk_cell BK312.out 1).trans rfl, (blk_cell BK312.out 2).trans rfl⟩ (fun hHeld => ?_); refine with_tabW shapesearchlaw11_WindowParts.tab9 shapesearchlaw11_WindowParts.bits9 (fun HT_ HW_ => ?_)
                  generalize w53.drew = w54 at HO293 HO297 HO300 BK302 BK307 BK312 BK317 HI288 HB hHeld ⊢
                  refine pure_ (i := 0) (N := some 66) (v := ?_) (a' := ?_) #[true, false, false, false, false, false, false, false, false, false, false, false, false, false, false, false, false, false, false, false, false, false, false, false, false, false, false, false, false, false, false, false, false, false, false, false, false, false, false, false, false, false, false, false, false, false, false, false] rfl rfl (any_of HT_.out (by kernel_rfl)) (fun _ _ _ h => h) (Or.inl ⟨by rfl, ?_⟩) ?_ ?_
                  rotate_left
                  · intro w'
                    go_simp
                    with_reducible rfl
                  rotate_left
                  · simp only [Act.put, List.setIfInBounds_toArray, List.set_cons_zero, List.set_cons_succ, i64_w, i32_w]
                    rfl
                  refine pure_ (i := 1) (N := some 67) (v := ?_) (a' := ?_) #[true, true, false, false, false, false, false, false, false, false, false, false, false, false, false, false, false, false, false, false, false, false, false, false, false, false, false, false, false, false, false, false, false, false, false, false, false, false, false, false, false, false, false, false, false, false, false, false] rfl rfl (any_of HT_.out (by kernel_rfl)) (fun _ _ _ h => h) (Or.inl ⟨by rfl, ?_⟩) ?_ ?_
                  rotate_left
                  · intro w'
                    go_simp
                    with_reducible rfl
                  rotate_left
                  · simp only [Act.put, List.setIfInBounds_toArray, List.set_cons_zero, List.set_cons_succ, i64_w, i32_w]
                    rfl
                  refine pure_ (i := 2) (N := some 68) (v := ?_) (a' := ?_) #[true, true, true, false, false, false, false, false, false, false, false, false, false, false, false, false, false, false, false, false, false, false, false, false, false, false, false, false, false, false, false, false, false, false, false, false, false, false, false, false, false, false, false, false, false, false, false, false] rfl rfl (any_of HT_.out (by kernel_rfl)) (fun _ _ _ h => h) (Or.inl ⟨by rfl, ?_⟩) ?_ ?_
                  rotate_left
                  · intro w'
                    go_simp
                    with_reducible rfl
                  rotate_left
                  · simp only [Act.put, List.setIfInBounds_toArray, List.set_cons_zero, List.set_cons_succ, i64_w, i32_w]
                    rfl
                  refine pure_ (i := 3) (N := some 69) (v := ?_) (a' := ?_) #[true, true, true, true, false, false, false, false, false, false, false, false, false, false, false, false, false, false, false, false, false, false, false, false, false, false, false, false, false, false, false, false, false, false, false, false, false, false, false, false, false, false, false, false, false, false, false, false] rfl rfl (any_of HT_.out (by kernel_rfl)) (fun _ _ _ h => h) (Or.inl ⟨by rfl, ?_⟩) ?_ ?_
                  rotate_left
                  · intro w'
                    go_simp
                    with_reducible rfl
                  rotate_left
                  · simp only [Act.put, List.setIfInBounds_toArray, List.set_cons_zero, List.set_cons_succ, i64_w, i32_w]
                    rfl
                  refine pure_ (i := 4) (N := some 70) (v := ?_) (a' := ?_) #[true, true, true, true, true, false, false, false, false, false, false, false, false, false, false, false, false, false, false, false, false, false, false, false, false, false, false, false, false, false, false, false, false, false, false, false, false, false, false, false, false, false, false, false, false, false, false, false] rfl rfl (any_of HT_.out (by kernel_rfl)) (fun _ _ _ h => h) (Or.inl ⟨by rfl, ?_⟩) ?_ ?_
                  rotate_left
                  · intro w'
                    go_simp
                    with_reducible rfl
                  rotate_left
                  · simp only [Act.put, List.setIfInBounds_toArray, List.set_cons_zero, List.set_cons_succ, i64_w, i32_w]
                    rfl
                  refine pure_ (i := 5) (N := some 71) (v := ?_) (a' := ?_) #[true, true, true, true, true, true, false, false, false, false, false, false, false, false, false, false, false, false, false, false, false, false, false, false, false, false, false, false, false, false, false, false, false, false, false, false, false, false, false, false, false, false, false, false, false, false, false, false] rfl rfl (any_of HT_.out (by kernel_rfl)) (fun _ _ _ h => h) (Or.inl ⟨by rfl, ?_⟩) ?_ ?_
                  rotate_left
                  · intro w'
                    go_simp
                    with_reducible rfl
                  rotate_left
                  · simp only [Act.put, List.setIfInBounds_toArray, List.set_cons_zero, List.set_cons_succ, i64_w, i32_w]
                    rfl
                  refine pure_ (i := 6) (N := some 72) (v := ?_) (a' := ?_) #[true, true, true, true, true, true, true, false, false, false, false, false, false, false, false, false, false, false, false, false, false, false, false, false, false, false, false, false, false, false, false, false, false, false, false, false, false, false, false, false, false, false, false, false, false, false, false, false] rfl rfl (any_of HT_.out (by kernel_rfl)) (fun _ _ _ h => h) (Or.inl ⟨by rfl, ?_⟩) ?_ ?_
                  rotate_left
                  · intro w'
                    go_simp
                    with_reducible rfl
                  rotate_left
                  · simp only [Act.put, List.setIfInBounds_toArray, List.set_cons_zero, List.set_cons_succ, i64_w, i32_w]
                    rfl
                  refine pure_ (i := 7) (N := some 73) (v := ?_) (a' := ?_) #[true, true, true, true, true, true, true, true, false, false, false, false, false, false, false, false, false, false, false, false, false, false, false, false, false, false, false, false, false, false, false, false, false, false, false, false, false, false, false, false, false, false, false, false, false, false, false, false] rfl rfl (any_of HT_.out (by kernel_rfl)) (fun _ _ _ h => h) (Or.inl ⟨by rfl, ?_⟩) ?_ ?_
                  rotate_left
                  · intro w'
                    go_simp
                    with_reducible rfl
                  rotate_left
                  · simp only [Act.put, List.setIfInBounds_toArray, List.set_cons_zero, List.set_cons_succ, i64_w, i32_w]
                    rfl
                  refine pure_ (i := 8) (N := some 74) (v := ?_) (a' := ?_) #[true, true, true, true, true, true, true, true, true, false, false, false, false, false, false, false, false, false, false, false, false, false, false, false, false, false, false, false, false, false, false, false, false, false, false, false, false, false, false, false, false, false, false, false, false, false, false, false] rfl rfl (any_of HT_.out (by kernel_rfl)) (fun _ _ _ h => h) (Or.inl ⟨by rfl, ?_⟩) ?_ ?_
                  rotate_left
                  · intro w'
                    go_simp
                    with_reducible rfl
                  rotate_left
                  · simp only [Act.put, List.setIfInBounds_toArray, List.set_cons_zero, List.set_cons_succ, i64_w, i32_w]
                    rfl
                  refine pure_ (i := 9) (N := some 75) (v := ?_) (a' := ?_) #[true, true, true, true, true, true, true, true, true, true, false, false, false, false, false, false, false, false, false, false, false, false, false, false, false, false, false, false, false, false, false, false, false, false, false, false, false, false, false, false, false, false, false, false, false, false, false, false] rfl rfl (any_of HT_.out (by kernel_rfl)) (fun _ _ _ h => h) (Or.inl ⟨by rfl, ?_⟩) ?_ ?_
                  rotate_left
                  · intro w'
                    go_simp
                    with_reducible rfl
                  rotate_left
                  · simp only [Act.put, List.setIfInBounds_toArray, List.set_cons_zero, List.set_cons_succ, i64_w, i32_w]
                    rfl
                  refine pure_ (i := 10) (N := some 76) (v := ?_) (a' := ?_) #[true, true, true, true, true, true, true, true, true, true, true, false, false, false, false, false, false, false, false, false, false, false, false, false, false, false, false, false, false, false, false, false, false, false, false, false, false, false, false, false, false, false, false, false, false, false, false, false] rfl rfl (any_of HT_.out (by kernel_rfl)) (fun _ _ _ h => h) (Or.inl ⟨by rfl, ?_⟩) ?_ ?_
                  rotate_left
                  · intro w'
                    go_simp
                    with_reducible rfl
                  rotate_left
                  · simp only [Act.put, List.setIfInBounds_toArray, List.set_cons_zero, List.set_cons_succ, i64_w, i32_w]
                    rfl
                  refine pure_ (i := 11) (N := some 77) (v := ?_) (a' := ?_) #[true, true, true, true, true, true, true, true, true, true, true, true, false, false, false, false, false, false, false, false, false, false, false, false, false, false, false, false, false, false, false, false, false, false, false, false, false, false, false, false, false, false, false, false, false, false, false, false] rfl rfl (any_of HT_.out (by kernel_rfl)) (fun _ _ _ h => h) (Or.inl ⟨by rfl, ?_⟩) ?_ ?_
                  rotate_left
                  · intro w'
                    go_simp
                    with_reducible rfl
                  rotate_left
                  · simp only [Act.put, List.setIfInBounds_toArray, List.set_cons_zero, List.set_cons_succ, i64_w, i32_w]
                    rfl
                  refine pure_ (i := 12) (N := some 78) (v := ?_) (a' := ?_) #[true, true, true, true, true, true, true, true, true, true, true, true, true, false, false, false, false, false, false, false, false, false, false, false, false, false, false, false, false, false, false, false, false, false, false, false, false, false, false, false, false, false, false, false, false, false, false, false] rfl rfl (any_of HT_.out (by kernel_rfl)) (fun _ _ _ h => h) (Or.inl ⟨by rfl, ?_⟩) ?_ ?_
                  rotate_left
                  · intro w'
                    go_simp
                    with_reducible rfl
                  rotate_left
                  · simp only [Act.put, List.setIfInBounds_toArray, List.set_cons_zero, List.set_cons_succ, i64_w, i32_w]
                    rfl
                  refine pure_ (i := 13) (N := some 79) (v := ?_) (a' := ?_) #[true, true, true, true, true, true, true, true, true, true, true, true, true, true, false, false, false, false, false, false, false, false, false, false, false, false, false, false, false, false, false, false, false, false, false, false, false, false, false, false, false, false, false, false, false, false, false, false] rfl rfl (any_of HT_.out (by kernel_rfl)) (fun _ _ _ h => h) (Or.inl ⟨by rfl, ?_⟩) ?_ ?_
                  rotate_left
                  · intro w'
                    go_simp
                    with_reducible rfl
                  rotate_left
                  · simp only [Act.put, List.setIfInBounds_toArray, List.set_cons_zero, List.set_cons_succ, i64_w, i32_w]
                    rfl
                  refine pure_ (i := 14) (N := some 80) (v := ?_) (a' := ?_) #[true, true, true, true, true, true, true, true, true, true, true, true, true, true, true, false, false, false, false, false, false, false, false, false, false, false, false, false, false, false, false, false, false, false, false, false, false, false, false, false, false, false, false, false, false, false, false, false] rfl rfl (any_of HT_.out (by kernel_rfl)) (fun _ _ _ h => h) (Or.inl ⟨by rfl, ?_⟩) ?_ ?_
                  rotate_left
                  · intro w'
                    go_simp
                    with_reducible rfl
                  rotate_left
                  · simp only [Act.put, List.setIfInBounds_toArray, List.set_cons_zero, List.set_cons_succ, i64_w, i32_w]
                    rfl
                  refine pure_ (i := 16) (N := some 82) (v := ?_) (a' := ?_) #[true, true, true, true, true, true, true, true, true, true, true, true, true, true, true, false, true, false, false, false, false, false, false, false, false, false, false, false, false, false, false, false, false, false, false, false, false, false, false, false, false, false, false, false, false, false, false, false] rfl rfl (any_of HT_.out (by kernel_rfl)) (fun _ _ _ h => h) (Or.inl ⟨by rfl, ?_⟩) ?_ ?_
                  rotate_left
                  · intro w'
                    go_simp
                    with_reducible rfl
                  rotate_left
                  · simp only [Act.put, List.setIfInBounds_toArray, List.set_cons_zero, List.set_cons_succ, i64_w, i32_w]
                    rfl
                  refine pure_ (i := 18) (N := some 84) (v := ?_) (a' := ?_) #[true, true, true, true, true, true, true, true, true, true, true, true, true, true, true, false, true, false, true, false, false, false, false, false, false, false, false, false, false, false, false, false, false, false, false, false, false, false, false, false, false, false, false, false, false, false, false, false] rfl rfl (any_of HT_.out (by kernel_rfl)) (fun _ _ _ h => h) (Or.inl ⟨by rfl, ?_⟩) ?_ ?_
                  rotate_left
                  · intro w'
                    go_simp
                    with_reducible rfl
                  rotate_left
                  · simp only [Act.put, List.setIfInBounds_toArray, List.set_cons_zero, List.set_cons_succ, i64_w, i32_w]
                    rfl
                  refine pure_ (i := 21) (N := some 87) (v := ?_) (a' := ?_) #[true, true, true, true, true, true, true, true, true, true, true, true, true, true, true, false, true, false, true, false, false, true, false, false, false, false, false, false, false, false, false, false, false, false, false, false, false, false, false, false, false, false, false, false, false, false, false, false] rfl rfl (any_of HT_.out (by kernel_rfl)) (fun _ _ _ h => h) (Or.inl ⟨by rfl, ?_⟩) ?_ ?_
                  rotate_left
                  · intro w'
                    go_simp
                    with_reducible rfl
                  rotate_left
                  · simp only [Act.put, List.setIfInBounds_toArray, List.set_cons_zero, List.set_cons_succ, i64_w, i32_w]
                    rfl
                  refine pure_ (i := 23) (N := some 89) (v := ?_) (a' := ?_) #[true, true, true, true, true, true, true, true, true, true, true, true, true, true, true, false, true, false, true, false, false, true, false, true, false, false, false, false, false, false, false, false, false, false, false, false, false, false, false, false, false, false, false, false, false, false, false, false] rfl rfl (any_of HT_.out (by kernel_rfl)) (fun _ _ _ h => h) (Or.inl ⟨by rfl, ?_⟩) ?_ ?_
                  rotate_left
                  · intro w'
                    go_simp
                    with_reducible rfl
                  rotate_left
                  · simp only [Act.put, List.setIfInBounds_toArray, List.set_cons_zero, List.set_cons_succ, i64_w, i32_w]
                    rfl
                  refine pure_ (i := 26) (N := some 92) (v := ?_) (a' := ?_) #[true, true, true, true, true, true, true, true, true, true, true, true, true, true, true, false, true, false, true, false, false, true, false, true, false, false, true, false, false, false, false, false, false, false, false, false, false, false, false, false, false, false, false, false, false, false, false, false] rfl rfl (any_of HT_.out (by kernel_rfl)) (fun _ _ _ h => h) (Or.inl ⟨by rfl, ?_⟩) ?_ ?_
                  rotate_left
                  · intro w'
                    go_simp
                    with_reducible rfl
                  rotate_left
                  · simp only [Act.put, List.setIfInBounds_toArray, List.set_cons_zero, List.set_cons_succ, i64_w, i32_w]
                    rfl
                  refine pure_ (i := 28) (N := some 94) (v := ?_) (a' := ?_) #[true, true, true, true, true, true, true, true, true, true, true, true, true, true, true, false, true, false, true, false, false, true, false, true, false, false, true, false, true, false, false, false, false, false, false, false, false, false, false, false, false, false, false, false, false, false, false, false] rfl rfl (any_of HT_.out (by kernel_rfl)) (fun _ _ _ h => h) (Or.inl ⟨by rfl, ?_⟩) ?_ ?_
                  rotate_left
                  · intro w'
                    go_simp
                    with_reducible rfl
                  rotate_left
                  · simp only [Act.put, List.setIfInBounds_toArray, List.set_cons_zero, List.set_cons_succ, i64_w, i32_w]
                    rfl
                  refine take_ (i := 15) (N := some 81) (v := ?_) (a' := ?_) #[true, true, true, true, true, true, true, true, true, true, true, true, true, true, true, true, true, false, true, false, false, true, false, true, false, false, true, false, true, false, false, false, false, false, false, false, false, false, false, false, false, false, false, false, false, false, false, false] rfl rfl (take_ofW HT_.out HW_.out (by kernel_rfl)) (fun _ _ _ h => h) (Or.inl ⟨by rfl, ?_⟩) hHeld ?_ ?_
                  rotate_left
                  · rintro w' ⟨s0, s1, s2, s3, s4, s5, s6, s7, s8⟩
                    go_simp
                    with_reducible rfl
                  rotate_left
                  · simp only [Act.put, List.setIfInBounds_toArray, List.set_cons_zero, List.set_cons_succ, i64_w, i32_w]
                    rfl
                  refine take_ (i := 17) (N := some 83) (v := ?_) (a' := ?_) #[true, true, true, true, true, true, true, true, true, true, true, true, true, true, true, true, true, true, true, false, false, true, false, true, false, false, true, false, true, false, false, false, false, false, false, false, false, false, false, false, false, false, false, false, false, false, false, false] rfl rfl (take_ofW HT_.out HW_.out (by kernel_rfl)) (fun _ _ _ h => h) (Or.inl ⟨by rfl, ?_⟩) hHeld ?_ ?_
                  rotate_left
                  · rintro w' ⟨s0, s1, s2, s3, s4, s5, s6, s7, s8⟩
                    go_simp
                    with_reducible rfl
                  rotate_left
                  · simp only [Act.put, List.setIfInBounds_toArray, List.set_cons_zero, List.set_cons_succ, i64_w, i32_w]
                    rfl
                  refine take_ (i := 19) (N := some 85) (v := ?_) (a' := ?_) #[true, true, true, true, true, true, true, true, true, true, true, true, true, true, true, true, true, true, true, true, false, true, false, true, false, false, true, false, true, false, false, false, false, false, false, false, false, false, false, false, false, false, false, false, false, false, false, false] rfl rfl (take_ofW HT_.out HW_.out (by kernel_rfl)) (fun _ _ _ h => h) (Or.inl ⟨by rfl, ?_⟩) hHeld ?_ ?_
                  rotate_left
                  · rintro w' ⟨s0, s1, s2, s3, s4, s5, s6, s7, s8⟩
                    go_simp
                    with_reducible rfl
                  rotate_left
                  · simp only [Act.put, List.setIfInBounds_toArray, List.set_cons_zero, List.set_cons_succ, i64_w, i32_w]
                    rfl
                  refine pure_ (i := 20) (N := some 86) (v := ?_) (a' := ?_) #[true, true, true, true, true, true, true, true, true, true, true, true, true, true, true, true, true, true, true, true, true, true, false, true, false, false, true, false, true, false, false, false, false, false, false, false, false, false, false, false, false, false, false, false, false, false, false, false] rfl rfl (any_of HT_.out (by kernel_rfl)) (fun _ _ _ h => h) (Or.inl ⟨by rfl, ?_⟩) ?_ ?_
                  rotate_left
                  · intro w'
                    go_simp
                    with_reducible rfl
                  rotate_left
                  · simp only [Act.put, List.setIfInBounds_toArray, List.set_cons_zero, List.set_cons_succ, i64_w, i32_w]
                    rfl
                  refine take_ (i := 22) (N := some 88) (v := ?_) (a' := ?_) #[true, true, true, true, true, true, true, true, true, true, true, true, true, true, true, true, true, true, true, true, true, true, true, true, false, false, true, false, true, false, false, false, false, false, false, false, false, false, false, false, false, false, false, false, false, false, false, false] rfl rfl (take_ofW HT_.out HW_.out (by kernel_rfl)) (fun _ _ _ h => h) (Or.inl ⟨by rfl, ?_⟩) hHeld ?_ ?_
                  rotate_left
                  · rintro w' ⟨s0, s1, s2, s3, s4, s5, s6, s7, s8⟩
                    go_simp
                    with_reducible rfl
                  rotate_left
                  · simp only [Act.put, List.setIfInBounds_toArray, List.set_cons_zero, List.set_cons_succ, i64_w, i32_w]
                    rfl
                  refine take_ (i := 24) (N := some 90) (v := ?_) (a' := ?_) #[true, true, true, true, true, true, true, true, true, true, true, true, true, true, true, true, true, true, true, true, true, true, true, true, true, false, true, false, true, false, false, false, false, false, false, false, false, false, false, false, false, false, false, false, false, false, false, false] rfl rfl (take_ofW HT_.out HW_.out (by kernel_rfl)) (fun _ _ _ h => h) (Or.inl ⟨by rfl, ?_⟩) hHeld ?_ ?_
                  rotate_left
                  · rintro w' ⟨s0, s1, s2, s3, s4, s5, s6, s7, s8⟩
                    go_simp
                    with_reducible rfl
                  rotate_left
                  · simp only [Act.put, List.setIfInBounds_toArray, List.set_cons_zero, List.set_cons_succ, i64_w, i32_w]
                    rfl
                  refine pure_ (i := 25) (N := some 91) (v := ?_) (a' := ?_) #[true, true, true, true, true, true, true, true, true, true, true, true, true, true, true, true, true, true, true, true, true, true, true, true, true, true, true, false, true, false, false, false, false, false, false, false, false, false, false, false, false, false, false, false, false, false, false, false] rfl rfl (any_of HT_.out (by kernel_rfl)) (fun _ _ _ h => h) (Or.inl ⟨by rfl, ?_⟩) ?_ ?_
                  rotate_left
                  · intro w'
                    go_simp
                    with_reducible rfl
                  rotate_left
                  · simp only [Act.put, List.setIfInBounds_toArray, List.set_cons_zero, List.set_cons_succ, i64_w, i32_w]
                    rfl
                  refine take_ (i := 27) (N := some 93) (v := ?_) (a' := ?_) #[true, true, true, true, true, true, true, true, true, true, true, true, true, true, true, true, true, true, true, true, true, true, true, true, true, true, true, true, true, false, false, false, false, false, false, false, false, false, false, false, false, false, false, false, false, false, false, false] rfl rfl (take_ofW HT_.out HW_.out (by kernel_rfl)) (fun _ _ _ h => h) (Or.inl ⟨by rfl, ?_⟩) hHeld ?_ ?_
                  rotate_left
                  · rintro w' ⟨s0, s1, s2, s3, s4, s5, s6, s7, s8⟩
                    go_simp
                    with_reducible rfl
                  rotate_left
                  · simp only [Act.put, List.setIfInBounds_toArray, List.set_cons_zero, List.set_cons_succ, i64_w, i32_w]
                    rfl
                  refine take_ (i := 29) (N := some 95) (v := ?_) (a' := ?_) #[true, true, true, true, true, true, true, true, true, true, true, true, true, true, true, true, true, true, true, true, true, true, true, true, true, true, true, true, true, true, false, false, false, false, false, false, false, false, false, false, false, false, false, false, false, false, false, false] rfl rfl (take_ofW HT_.out HW_.out (by kernel_rfl)) (fun _ _ _ h => h) (Or.inl ⟨by rfl, ?_⟩) hHeld ?_ ?_
                  rotate_left
                  · rintro w' ⟨s0, s1, s2, s3, s4, s5, s6, s7, s8⟩
                    go_simp
                    with_reducible rfl
                  rotate_left
                  · simp only [Act.put, List.setIfInBounds_toArray, List.set_cons_zero, List.set_cons_succ, i64_w, i32_w]
                    rfl
                  refine pure_ (i := 30) (N := some 96) (v := ?_) (a' := ?_) #[true, true, true, true, true, true, true, true, true, true, true, true, true, true, true, true, true, true, true, true, true, true, true, true, true, true, true, true, true, true, true, false, false, false, false, false, false, false, false, false, false, false, false, false, false, false, false, false] rfl rfl (any_of HT_.out (by kernel_rfl)) (fun _ _ _ h => h) (Or.inl ⟨by rfl, ?_⟩) ?_ ?_
                  rotate_left
                  · intro w'
                    go_simp
                    with_reducible rfl
                  rotate_left
                  · simp only [Act.put, List.setIfInBounds_toArray, List.set_cons_zero, List.set_cons_succ, i64_w, i32_w]
                    rfl
                  refine pure_ (i := 31) (N := some 97) (v := ?_) (a' := ?_) #[true, true, true, true, true, true, true, true, true, true, true, true, true, true, true, true, true, true, true, true, true, true, true, true, true, true, true, true, true, true, true, true, false, false, false, false, false, false, false, false, false, false, false, false, false, false, false, false] rfl rfl (any_of HT_.out (by kernel_rfl)) (fun _ _ _ h => h) (Or.inl ⟨by rfl, ?_⟩) ?_ ?_
                  rotate_left
                  · intro w'
                    go_simp
                    with_reducible rfl
                  rotate_left
                  · simp only [Act.put, List.setIfInBounds_toArray, List.set_cons_zero, List.set_cons_succ, i64_w, i32_w]
                    rfl
                  refine pure_ (i := 32) (N := some 98) (v := ?_) (a' := ?_) #[true, true, true, true, true, true, true, true, true, true, true, true, true, true, true, true, true, true, true, true, true, true, true, true, true, true, true, true, true, true, true, true, true, false, false, false, false, false, false, false, false, false, false, false, false, false, false, false] rfl rfl (any_of HT_.out (by kernel_rfl)) (fun _ _ _ h => h) (Or.inl ⟨by rfl, ?_⟩) ?_ ?_
                  rotate_left
                  · intro w'
                    go_simp
                    with_reducible rfl
                  rotate_left
                  · simp only [Act.put, List.setIfInBounds_toArray, List.set_cons_zero, List.set_cons_succ, i64_w, i32_w]
                    rfl
                  refine pure_ (i := 33) (N := some 99) (v := ?_) (a' := ?_) #[true, true, true, true, true, true, true, true, true, true, true, true, true, true, true, true, true, true, true, true, true, true, true, true, true, true, true, true, true, true, true, true, true, true, false, false, false, false, false, false, false, false, false, false, false, false, false, false] rfl rfl (any_of HT_.out (by kernel_rfl)) (fun _ _ _ h => h) (Or.inl ⟨by rfl, ?_⟩) ?_ ?_
                  rotate_left
                  · intro w'
                    go_simp
                    with_reducible rfl
                  rotate_left
                  · simp only [Act.put, List.setIfInBounds_toArray, List.set_cons_zero, List.set_cons_succ, i64_w, i32_w]
                    rfl
                  refine pure_ (i := 34) (N := some 100) (v := ?_) (a' := ?_) #[true, true, true, true, true, true, true, true, true, true, true, true, true, true, true, true, true, true, true, true, true, true, true, true, true, true, true, true, true, true, true, true, true, true, true, false, false, false, false, false, false, false, false, false, false, false, false, false] rfl rfl (any_of HT_.out (by kernel_rfl)) (fun _ _ _ h => h) (Or.inl ⟨by rfl, ?_⟩) ?_ ?_
                  rotate_left
                  · intro w'
                    go_simp
                    with_reducible rfl
                  rotate_left
                  · simp only [Act.put, List.setIfInBounds_toArray, List.set_cons_zero, List.set_cons_succ, i64_w, i32_w]
                    rfl
                  refine take_ (i := 35) (N := some 101) (v := ?_) (a' := ?_) #[true, true, true, true, true, true, true, true, true, true, true, true, true, true, true, true, true, true, true, true, true, true, true, true, true, true, true, true, true, true, true, true, true, true, true, true, false, false, false, false, false, false, false, false, false, false, false, false] rfl rfl (take_ofW HT_.out HW_.out (by kernel_rfl)) (fun _ _ _ h => h) (Or.inl ⟨by rfl, ?_⟩) hHeld ?_ ?_
                  rotate_left
                  · rintro w' ⟨s0, s1, s2, s3, s4, s5, s6, s7, s8⟩
                    go_simp
                    with_reducible rfl
                  rotate_left
                  · simp only [Act.put, List.setIfInBounds_toArray, List.set_cons_zero, List.set_cons_succ, i64_w, i32_w]
                    rfl
                  refine take_ (i := 37) (N := some 103) (v := ?_) (a' := ?_) #[true, true, true, true, true, true, true, true, true, true, true, true, true, true, true, true, true, true, true, true, true, true, true, true, true, true, true, true, true, true, true, true, true, true, true, true, false, true, false, false, false, false, false, false, false, false, false, false] rfl rfl (take_ofW HT_.out HW_.out (by kernel_rfl)) (fun _ _ _ h => h) (Or.inl ⟨by rfl, ?_⟩) hHeld ?_ ?_
                  rotate_left
                  · rintro w' ⟨s0, s1, s2, s3, s4, s5, s6, s7, s8⟩
                    go_simp
                    with_reducible rfl
                  rotate_left
                  · simp only [Act.put, List.setIfInBounds_toArray, List.set_cons_zero, List.set_cons_succ, i64_w, i32_w]
                    rfl
                  refine take_ (i := 39) (N := some 105) (v := ?_) (a' := ?_) #[true, true, true, true, true, true, true, true, true, true, true, true, true, true, true, true, true, true, true, true, true, true, true, true, true, true, true, true, true, true, true, true, true, true, true, true, false, true, false, true, false, false, false, false, false, false, false, false] rfl rfl (take_ofW HT_.out HW_.out (by kernel_rfl)) (fun _ _ _ h => h) (Or.inl ⟨by rfl, ?_⟩) hHeld ?_ ?_
                  rotate_left
                  · rintro w' ⟨s0, s1, s2, s3, s4, s5, s6, s7, s8⟩
                    go_simp
                    with_reducible rfl
                  rotate_left
                  · simp only [Act.put, List.setIfInBounds_toArray, List.set_cons_zero, List.set_cons_succ, i64_w, i32_w]
                    rfl
                  refine one_ (i := 36) (N := some 102) #[true, true, true, true, true, true, true, true, true, true, true, true, true, true, true, true, true, true, true, true, true, true, true, true, true, true, true, true, true, true, true, true, true, true, true, true, true, true, false, true, false, false, false, false, false, false, false, false] rfl rfl (one_of HT_.out (by kernel_rfl)) (by decide) (fun K hK => ?_)
                  refine goes_ Try.func17 (by kernel_rfl) rfl #[.agg #[.int .i64 t313, .int .i64 t314, .int .i64 t315]] (by rfl) rfl rfl (by (try simp only [List.map_toArray, List.map_cons, List.map_nil]); first | done | rfl | (simp only [List.length_drop, List.length_take]; rfl)) ?_
                  with_reducible refine (window_Variance.calls t313 t314 t315 t318 _ A18.out).mono ?_
                  rintro e w55 ⟨rfl, hb⟩
                  refine ⟨_, rfl, ?_⟩
                  have n0_ := Aside0.mk (Kd.R_below (by (with_reducible repeat (first | apply Kd.R_alloc | apply Kd.R_drewN | apply Kd.R_drew)); exact HO293.out) hb)
                  have n1_ := Aside0.mk (Kd.R_below (by (with_reducible repeat (first | apply Kd.R_alloc | apply Kd.R_drewN | apply Kd.R_drew)); exact HO297.out) hb)
                  have n2_ := Aside0.mk (Kd.R_below (by (with_reducible repeat (first | apply Kd.R_alloc | apply Kd.R_drewN | apply Kd.R_drew)); exact HO300.out) hb)
                  have n3_ := Aside0.mk (IsS58.below (by repeat (first | (with_reducible first | exact HI288.out | apply IsS58.alloc | apply IsS58.drewN | apply IsS58.drew | apply IsS58.set_1 | refine IsS58.far ?_ NB288_302.out _ | refine IsS58.far ?_ NB288_307.out _ | refine IsS58.far ?_ NB288_312.out _ | refine IsS58.far ?_ NB288_317.out _) | exact HI288.out)) hb)
                  have n4_ := Aside0.mk (blk_below (g := gb302) (o := .cells #[.slice Ao29 t295.length co29, .slice Ao32 t298.length co32] 28 (0, 0)) (by (with_reducible repeat (first | refine blk_drewN ?_ _ | refine blk_drew ?_ | refine blk_alloc ?_ _)); exact BK302.out) hb)
                  have n5_ := Aside0.mk (blk_below (g := gb307) (o := .cells #[.int .i64 t303, .int .i64 t304, .int .i64 t305] 33 (0, 0)) (by (with_reducible repeat (first | refine blk_drewN ?_ _ | refine blk_drew ?_ | refine blk_alloc ?_ _)); exact BK307.out) hb)
                  have n6_ := Aside0.mk (blk_below (g := gb312) (o := .cells #[.int .i64 t308, .int .i64 t309, .int .i64 t310] 33 (0, 0)) (by (with_reducible repeat (first | refine blk_drewN ?_ _ | refine blk_drew ?_ | refine blk_alloc ?_ _)); exact BK312.out) hb)
                  have n7_ := Aside0.mk (blk_below (g := gb317) (o := .cells #[.int .i64 t313, .int .i64 t314, .int .i64 t315] 33 (0, 0)) (by (with_reducible repeat (first | refine blk_drewN ?_ _ | refine blk_drew ?_ | refine blk_alloc ?_ _)); exact BK317.out) hb)
                  have n8_ := Aside0.mk (below_step (by repeat (first | (with_reducible first | exact HB.out | apply below_alloc | apply pw_below_drewN | apply below_drew1 | refine below_set ?_ (IsS58.ge HI288.out) | refine below_set ?_ GE302.out | refine below_set ?_ GE307.out | refine below_set ?_ GE312.out | refine below_set ?_ GE317.out) | exact HB.out)) hb)
                  clear HO293
                  clear HO297
                  clear HO300
                  clear HI288
                  clear BK302
                  clear BK307
                  clear BK312
                  clear BK317
                  clear HB
                  have HO293 := n0_
                  have HO297 := n1_
                  have HO300 := n2_
                  have HI288 := n3_
                  have BK302 := n4_
                  have BK307 := n5_
                  have BK312 := n6_
                  have BK317 := n7_
                  have HB := n8_
                  clear n0_ n1_ n2_ n3_ n4_ n5_ n6_ n7_ n8_
                  (try clear hb)
                  (try clear hb2)
                  (try clear hk)
                  (try clear hi)
                  refine hK.out _ _ ⟨(blk_cell BK317.out 0).trans rfl, (blk_cell BK317.out 1).trans rfl, (blk_cell BK317.out 2).trans rfl, (blk_cell BK307.out 0).trans rfl, (blk_cell BK307.out 1).trans rfl, (blk_cell BK307.out 2).trans rfl, (blk_cell BK312.out 0).trans rfl, (blk_cell BK312.out 1).trans rfl, (blk_cell BK312.out 2).trans rfl⟩ (fun hHeld => ?_)
                  clear hK K
                  refine norm_ (a' := ?_) ?_ ?_
                  rotate_left
                  · show Act.put _ (some 102) _ = _
                    simp only [Act.put, List.setIfInBounds_toArray, List.set_cons_zero, List.set_cons_succ, i64_w, i32_w]
                    rfl
                  refine one_ (i := 38) (N := some 104) #[true, true, true, true, true, true, true, true, true, true, true, true, true, true, true, true, true, true, true, true, true, true, true, true, true, true, true, true, true, true, true, true, true, true, true, true, true, true, true, true, false, false, false, false, false, false, false, false] rfl rfl (one_of HT_.out (by kernel_rfl)) (by decide) (fun K hK => ?_)
                  refine goes_ Try.func17 (by kernel_rfl) rfl #[.agg #[.int .i64 t303, .int .i64 t304, .int .i64 t305]] (by rfl) rfl rfl (by (try simp only [List.map_toArray, List.map_cons, List.map_nil]); first | done | rfl | (simp only [List.length_drop, List.length_take]; rfl)) ?_
                  with_reducible refine (window_Variance.calls t303 t304 t305 t319 _ A19.out).mono ?_
                  rintro e w56 ⟨rfl, hb⟩
                  refine ⟨_, rfl, ?_⟩
                  have n0_ := Aside0.mk (Kd.R_below (by (with_reducible repeat (first | apply Kd.R_alloc | apply Kd.R_drewN | apply Kd.R_drew)); exact HO293.out) hb)
                  have n1_ := Aside0.mk (Kd.R_below (by (with_reducible repeat (first | apply Kd.R_alloc | apply Kd.R_drewN | apply Kd.R_drew)); exact HO297.out) hb)
                  have n2_ := Aside0.mk (Kd.R_below (by (with_reducible repeat (first | apply Kd.R_alloc | apply Kd.R_drewN | apply Kd.R_drew)); exact HO300.out) hb)
                  have n3_ := Aside0.mk (IsS58.below (by repeat (first | (with_reducible first | exact HI288.out | apply IsS58.alloc | apply IsS58.drewN | apply IsS58.drew | apply IsS58.set_1 | refine IsS58.far ?_ NB288_302.out _ | refine IsS58.far ?_ NB288_307.out _ | refine IsS58.far ?_ NB288_312.out _ | refine IsS58.far ?_ NB288_317.out _) | exact HI288.out)) hb)
                  have n4_ := Aside0.mk (blk_below (g := gb302) (o := .cells #[.slice Ao29 t295.length co29, .slice Ao32 t298.length co32] 28 (0, 0)) (by (with_reducible repeat (first | refine blk_drewN ?_ _ | refine blk_drew ?_ | refine blk_alloc ?_ _)); exact BK302.out) hb)
                  have n5_ := Aside0.mk (blk_below (g := gb307) (o := .cells #[.int .i64 t303, .int .i64 t304, .int .i64 t305] 33 (0, 0)) (by (with_reducible repeat (first | refine blk_drewN ?_ _ | refine blk_drew ?_ | refine blk_alloc ?_ _)); exact BK307.out) hb)
                  have n6_ := Aside0.mk (blk_below (g := gb312) (o := .cells #[.int .i64 t308, .int .i64 t309, .int .i64 t310] 33 (0, 0)) (by (with_reducible repeat (first | refine blk_drewN ?_ _ | refine blk_drew ?_ | refine blk_alloc ?_ _)); exact BK312.out) hb)
                  have n7_ := Aside0.mk (blk_below (g := gb317) (o := .cells #[.int .i64 t313, .int .i64 t314, .int .i64 t315] 33 (0, 0)) (by (with_reducible repeat (first | refine blk_drewN ?_ _ | refine blk_drew ?_ | refine blk_alloc ?_ _)); exact BK317.out) hb)
                  have n8_ := Aside0.mk (below_step (by repeat (first | (with_reducible first | exact HB.out | apply below_alloc | apply pw_below_drewN | apply below_drew1 | refine below_set ?_ (IsS58.ge HI288.out) | refine below_set ?_ GE302.out | refine below_set ?_ GE307.out | refine below_set ?_ GE312.out | refine below_set ?_ GE317.out) | exact HB.out)) hb)
                  clear HO293
                  clear HO297
                  clear HO300
                  clear HI288
                  clear BK302
                  clear BK307
                  clear BK312
                  clear BK317
                  clear HB
                  have HO293 := n0_
                  have HO297 := n1_
                  have HO300 := n2_
                  have HI288 := n3_
                  have BK302 := n4_
                  have BK307 := n5_
                  have BK312 := n6_
                  have BK317 := n7_
                  have HB := n8_
                  clear n0_ n1_ n2_ n3_ n4_ n5_ n6_ n7_ n8_
                  (try clear hb)
                  (try clear hb2)
                  (try clear hk)
                  (try clear hi)
                  refine hK.out _ _ ⟨(blk_cell BK317.out 0).trans rfl, (blk_cell BK317.out 1).trans rfl, (blk_cell BK317.out 2).trans rfl, (blk_cell BK307.out 0).trans rfl, (blk_cell BK307.out 1).trans rfl, (blk_cell BK307.out 2).trans rfl, (blk_cell BK312.out 0).trans rfl, (blk_cell BK312.out 1).trans rfl, (blk_cell BK312.out 2).trans rfl⟩ (fun hHeld => ?_)
                  clear hK K
                  refine norm_ (a' := ?_) ?_ ?_
                  rotate_left
                  · show Act.put _ (some 104) _ = _
                    simp only [Act.put, List.setIfInBounds_toArray, List.set_cons_zero, List.set_cons_succ, i64_w, i32_w]
                    rfl
                  refine one_ (i := 40) (N := some 106) #[true, true, true, true, true, true, true, true, true, true, true, true, true, true, true, true, true, true, true, true, true, true, true, true, true, true, true, true, true, true, true, true, true, true, true, true, true, true, true, true, true, false, false, false, false, false, false, false] rfl rfl (one_of HT_.out (by kernel_rfl)) (by decide) (fun K hK => ?_)
                  refine goes_ Try.func17 (by kernel_rfl) rfl #[.agg #[.int .i64 t308, .int .i64 t309, .int .i64 t310]] (by rfl) rfl rfl (by (try simp only [List.map_toArray, List.map_cons, List.map_nil]); first | done | rfl | (simp only [List.length_drop, List.length_take]; rfl)) ?_
                  with_reducible refine (window_Variance.calls t308 t309 t310 t320 _ A20.out).mono ?_
                  rintro e w57 ⟨rfl, hb⟩
                  refine ⟨_, rfl, ?_⟩
                  have n0_ := Aside0.mk (Kd.R_below (by (with_reducible repeat (first | apply Kd.R_alloc | apply Kd.R_drewN | apply Kd.R_drew)); exact HO293.out) hb)
                  have n1_ := Aside0.mk (Kd.R_below (by (with_reducible repeat (first | apply Kd.R_alloc | apply Kd.R_drewN | apply Kd.R_drew)); exact HO297.out) hb)
                  have n2_ := Aside0.mk (Kd.R_below (by (with_reducible repeat (first | apply Kd.R_alloc | apply Kd.R_drewN | apply Kd.R_drew)); exact HO300.out) hb)
                  have n3_ := Aside0.mk (IsS58.below (by repeat (first | (with_reducible first | exact HI288.out | apply IsS58.alloc | apply IsS58.drewN | apply IsS58.drew | apply IsS58.set_1 | refine IsS58.far ?_ NB288_302.out _ | refine IsS58.far ?_ NB288_307.out _ | refine IsS58.far ?_ NB288_312.out _ | refine IsS58.far ?_ NB288_317.out _) | exact HI288.out)) hb)
                  have n4_ := Aside0.mk (blk_below (g := gb302) (o := .cells #[.slice Ao29 t295.length co29, .slice Ao32 t298.length co32] 28 (0, 0)) (by (with_reducible repeat (first | refine blk_drewN ?_ _ | refine blk_drew ?_ | refine blk_alloc ?_ _)); exact BK302.out) hb)
                  have n5_ := Aside0.mk (blk_below (g := gb307) (o := .cells #[.int .i64 t303, .int .i64 t304, .int .i64 t305] 33 (0, 0)) (by (with_reducible repeat (first | refine blk_drewN ?_ _ | refine blk_drew ?_ | refine blk_alloc ?_ _)); exact BK307.out) hb)
                  have n6_ := Aside0.mk (blk_below (g := gb312) (o := .cells #[.int .i64 t308, .int .i64 t309, .int .i64 t310] 33 (0, 0)) (by (with_reducible repeat (first | refine blk_drewN ?_ _ | refine blk_drew ?_ | refine blk_alloc ?_ _)); exact BK312.out) hb)
                  have n7_ := Aside0.mk (blk_below (g := gb317) (o := .cells #[.int .i64 t313, .int .i64 t314, .int .i64 t315] 33 (0, 0)) (by (with_reducible repeat (first | refine blk_drewN ?_ _ | refine blk_drew ?_ | refine blk_alloc ?_ _)); exact BK317.out) hb)
                  have n8_ := Aside0.mk (below_step (by repeat (first | (with_reducible first | exact HB.out | apply below_alloc | apply pw_below_drewN | apply below_drew1 | refine below_set ?_ (IsS58.ge HI288.out) | refine below_set ?_ GE302.out | refine below_set ?_ GE307.out | refine below_set ?_ GE312.out | refine below_set ?_ GE317.out) | exact HB.out)) hb)
                  clear HO293
                  clear HO297
                  clear HO300
                  clear HI288
                  clear BK302
                  clear BK307
                  clear BK312
                  clear BK317
                  clear HB
                  have HO293 := n0_
                  have HO297 := n1_
                  have HO300 := n2_
                  have HI288 := n3_
                  have BK302 := n4_
                  have BK307 := n5_
                  have BK312 := n6_
                  have BK317 := n7_
                  have HB := n8_
                  clear n0_ n1_ n2_ n3_ n4_ n5_ n6_ n7_ n8_
                  (try clear hb)
                  (try clear hb2)
                  (try clear hk)
                  (try clear hi)
                  refine hK.out _ _ ⟨(blk_cell BK317.out 0).trans rfl, (blk_cell BK317.out 1).trans rfl, (blk_cell BK317.out 2).trans rfl, (blk_cell BK307.out 0).trans rfl, (blk_cell BK307.out 1).trans rfl, (blk_cell BK307.out 2).trans rfl, (blk_cell BK312.out 0).trans rfl, (blk_cell BK312.out 1).trans rfl, (blk_cell BK312.out 2).trans rfl⟩ (fun hHeld => ?_)
                  clear hK K
                  refine norm_ (a' := ?_) ?_ ?_
                  rotate_left
                  · show Act.put _ (some 106) _ = _
                    simp only [Act.put, List.setIfInBounds_toArray, List.set_cons_zero, List.set_cons_succ, i64_w, i32_w]
                    rfl
                  refine pure_ (i := 41) (N := some 107) (v := ?_) (a' := ?_) #[true, true, true, true, true, true, true, true, true, true, true, true, true, true, true, true, true, true, true, true, true, true, true, true, true, true, true, true, true, true, true, true, true, true, true, true, true, true, true, true, true, true, false, false, false, false, false, false] rfl rfl (any_of HT_.out (by kernel_rfl)) (fun _ _ _ h => h) (Or.inl ⟨by rfl, ?_⟩) ?_ ?_
                  rotate_left
                  · intro w'
                    go_simp
                    with_reducible rfl
                  rotate_left
                  · simp only [Act.put, List.setIfInBounds_toArray, List.set_cons_zero, List.set_cons_succ, i64_w, i32_w]
                    rfl
                  refine pure_ (i := 42) (N := some 108) (v := ?_) (a' := ?_) #[true, true, true, true, true, true, true, true, true, true, true, true, true, true, true, true, true, true, true, true, true, true, true, true, true, true, true, true, true, true, true, true, true, true, true, true, true, true, true, true, true, true, true, false, false, false, false, false] rfl rfl (any_of HT_.out (by kernel_rfl)) (fun _ _ _ h => h) (Or.inl ⟨by rfl, ?_⟩) ?_ ?_
                  rotate_left
                  · intro w'
                    go_simp
                    with_reducible rfl
                  rotate_left
                  · simp only [Act.put, List.setIfInBounds_toArray, List.set_cons_zero, List.set_cons_succ, i64_w, i32_w]
                    rfl
                  refine pure_ (i := 43) (N := some 109) (v := ?_) (a' := ?_) #[true, true, true, true, true, true, true, true, true, true, true, true, true, true, true, true, true, true, true, true, true, true, true, true, true, true, true, true, true, true, true, true, true, true, true, true, true, true, true, true, true, true, true, true, false, false, false, false] rfl rfl (any_of HT_.out (by kernel_rfl)) (fun _ _ _ h => h) (Or.inl ⟨by rfl, ?_⟩) ?_ ?_
                  rotate_left
                  · intro w'
                    go_simp
                    with_reducible rfl
                  rotate_left
                  · simp only [Act.put, List.setIfInBounds_toArray, List.set_cons_zero, List.set_cons_succ, i64_w, i32_w]
                    rfl
                  refine pure_ (i := 44) (N := some 110) (v := ?_) (a' := ?_) #[true, true, true, true, true, true, true, true, true, true, true, true, true, true, true, true, true, true, true, true, true, true, true, true, true, true, true, true, true, true, true, true, true, true, true, true, true, true, true, true, true, true, true, true, true, false, false, false] rfl rfl (any_of HT_.out (by kernel_rfl)) (fun _ _ _ h => h) (Or.inl ⟨by rfl, ?_⟩) ?_ ?_
                  rotate_left
                  · intro w'
                    go_simp
                    with_reducible rfl
                  rotate_left
                  · simp only [Act.put, List.setIfInBounds_toArray, List.set_cons_zero, List.set_cons_succ, i64_w, i32_w]
                    rfl
                  refine one_ (i := 45) (N := some 111) #[true, true, true, true, true, true, true, true, true, true, true, true, true, true, true, true, true, true, true, true, true, true, true, true, true, true, true, true, true, true, true, true, true, true, true, true, true, true, true, true, true, true, true, true, true, true, false, false] rfl rfl (one_of HT_.out (by kernel_rfl)) (by decide) (fun K hK => ?_)
                  refine goes_ Try.func15 (by kernel_rfl) rfl #[] (by rfl) rfl rfl (by (try simp only [List.map_toArray, List.map_cons, List.map_nil]); first | done | rfl | (simp only [List.length_drop, List.length_take]; rfl)) ?_
                  with_reducible refine (shapesearchlaw11_awake.calls k  t321 _ A22.out).mono ?_
                  rintro e w58 ⟨rfl, hb⟩
                  refine ⟨_, rfl, ?_⟩
                  have n0_ := Aside0.mk (Kd.R_below (by (with_reducible repeat (first | apply Kd.R_alloc | apply Kd.R_drewN | apply Kd.R_drew)); exact HO293.out) hb)
                  have n1_ := Aside0.mk (Kd.R_below (by (with_reducible repeat (first | apply Kd.R_alloc | apply Kd.R_drewN | apply Kd.R_drew)); exact HO297.out) hb)
                  have n2_ := Aside0.mk (Kd.R_below (by (with_reducible repeat (first | apply Kd.R_alloc | apply Kd.R_drewN | apply Kd.R_drew)); exact HO300.out) hb)
                  have n3_ := Aside0.mk (IsS58.below (by repeat (first | (with_reducible first | exact HI288.out | apply IsS58.alloc | apply IsS58.drewN | apply IsS58.drew | apply IsS58.set_1 | refine IsS58.far ?_ NB288_302.out _ | refine IsS58.far ?_ NB288_307.out _ | refine IsS58.far ?_ NB288_312.out _ | refine IsS58.far ?_ NB288_317.out _) | exact HI288.out)) hb)
                  have n4_ := Aside0.mk (blk_below (g := gb302) (o := .cells #[.slice Ao29 t295.length co29, .slice Ao32 t298.length co32] 28 (0, 0)) (by (with_reducible repeat (first | refine blk_drewN ?_ _ | refine blk_drew ?_ | refine blk_alloc ?_ _)); exact BK302.out) hb)
                  have n5_ := Aside0.mk (blk_below (g := gb307) (o := .cells #[.int .i64 t303, .int .i64 t304, .int .i64 t305] 33 (0, 0)) (by (with_reducible repeat (first | refine blk_drewN ?_ _ | refine blk_drew ?_ | refine blk_alloc ?_ _)); exact BK307.out) hb)
                  have n6_ := Aside0.mk (blk_below (g := gb312) (o := .cells #[.int .i64 t308, .int .i64 t309, .int .i64 t310] 33 (0, 0)) (by (with_reducible repeat (first | refine blk_drewN ?_ _ | refine blk_drew ?_ | refine blk_alloc ?_ _)); exact BK312.out) hb)
                  have n7_ := Aside0.mk (blk_below (g := gb317) (o := .cells #[.int .i64 t313, .int .i64 t314, .int .i64 t315] 33 (0, 0)) (by (with_reducible repeat (first | refine blk_drewN ?_ _ | refine blk_drew ?_ | refine blk_alloc ?_ _)); exact BK317.out) hb)
                  have n8_ := Aside0.mk (below_step (by repeat (first | (with_reducible first | exact HB.out | apply below_alloc | apply pw_below_drewN | apply below_drew1 | refine below_set ?_ (IsS58.ge HI288.out) | refine below_set ?_ GE302.out | refine below_set ?_ GE307.out | refine below_set ?_ GE312.out | refine below_set ?_ GE317.out) | exact HB.out)) hb)
                  clear HO293
                  clear HO297
                  clear HO300
                  clear HI288
                  clear BK302
                  clear BK307
                  clear BK312
                  clear BK317
                  clear HB
                  have HO293 := n0_
                  have HO297 := n1_
                  have HO300 := n2_
                  have HI288 := n3_
                  have BK302 := n4_
                  have BK307 := n5_
                  have BK312 := n6_
                  have BK317 := n7_
                  have HB := n8_
                  clear n0_ n1_ n2_ n3_ n4_ n5_ n6_ n7_ n8_
                  (try clear hb)
                  (try clear hb2)
                  (try clear hk)
                  (try clear hi)
                  refine hK.out _ _ ⟨(blk_cell BK317.out 0).trans rfl, (blk_cell BK317.out 1).trans rfl, (blk_cell BK317.out 2).trans rfl, (blk_cell BK307.out 0).trans rfl, (blk_cell BK307.out 1).trans rfl, (blk_cell BK307.out 2).trans rfl, (blk_cell BK312.out 0).trans rfl, (blk_cell BK312.out 1).trans rfl, (blk_cell BK312.out 2).trans rfl⟩ (fun hHeld => ?_)
                  clear hK K
                  refine norm_ (a' := ?_) ?_ ?_
                  rotate_left
                  · show Act.put _ (some 111) _ = _
                    simp only [Act.put, List.setIfInBounds_toArray, List.set_cons_zero, List.set_cons_succ, i64_w, i32_w]
                    rfl
                  refine pure_ (i := 46) (N := some 112) (v := ?_) (a' := ?_) #[true, true, true, true, true, true, true, true, true, true, true, true, true, true, true, true, true, true, true, true, true, true, true, true, true, true, true, true, true, true, true, true, true, true, true, true, true, true, true, true, true, true, true, true, true, true, true, false] rfl rfl (any_of HT_.out (by kernel_rfl)) (fun _ _ _ h => h) (Or.inl ⟨by rfl, ?_⟩) ?_ ?_
                  rotate_left
                  · intro w'
                    go_simp
                    with_reducible rfl
                  rotate_left
                  · simp only [Act.put, List.setIfInBounds_toArray, List.set_cons_zero, List.set_cons_succ, i64_w, i32_w]
                    rfl
                  refine pure_ (i := 47) (N := some 6) (v := ?_) (a' := ?_) #[true, true, true, true, true, true, true, true, true, true, true, true, true, true, true, true, true, true, true, true, true, true, true, true, true, true, true, true, true, true, true, true, true, true, true, true, true, true, true, true, true, true, true, true, true, true, true, true] rfl rfl (any_of HT_.out (by kernel_rfl)) (fun _ _ _ h => h) (Or.inl ⟨by rfl, ?_⟩) ?_ ?_
                  rotate_left
                  · intro w'
                    go_simp
                    with_reducible rfl
                  rotate_left
                  · simp only [Act.put, List.setIfInBounds_toArray, List.set_cons_zero, List.set_cons_succ, i64_w, i32_w]
                    rfl
                  refine done_ (done_of HT_.out (by kernel_rfl)) ?_
                  try go_wp2
                  go_ret
                  exact ⟨by first | rfl | (simp [errW_none, errW_some] <;> rfl) | (simp [*, errW_none, errW_some] <;> rfl), by repeat (first | (with_reducible first | exact HB.out | apply below_alloc | apply pw_below_drewN | apply below_drew1 | refine below_set ?_ (IsS58.ge HI288.out) | refine below_set ?_ GE302.out | refine below_set ?_ GE307.out | refine below_set ?_ GE312.out | refine below_set ?_ GE317.out) | exact HB.out)⟩
                · rw [if_neg c21] at H
                  exact absurd H (by simp)
              · rw [if_neg c17] at H
                exact absurd H (by simp)
            · rw [if_neg c16] at H
              exact absurd H (by simp)
          · rw [if_neg c15] at H
            exact absurd H (by simp)
        · rw [if_neg c14] at H
          exact absurd H (by simp)
      · rw [if_neg c13] at H
        exact absurd H (by simp)

/-- THE ONE PURE STATEMENT of shapesearchlaw11_WindowParts: yours. -/
def shapesearchlaw11_WindowParts.Pure : Prop := ∀ (l0 : List Int) (a1 : Int) (a2 : Int), l0.length ≤ maxLen → l0.length * 8 ≤ 140737488351232 → (∀ x ∈ l0, (Lit.int .i64 x).wf = true) → (Lit.int .u8 a1).wf = true → (Lit.int .u8 a2).wf = true → ∃ k, shapesearchlaw11_WindowParts.f k l0 a1 a2 = some true
theorem shapesearchlaw11_WindowParts.walk (P : shapesearchlaw11_WindowParts.Pure) (a0 : Option Addr) (len0 cap0 : Nat) (z0 : List Int) (a1 : Int) (a2 : Int) (w : World) (w0 : (a0 = none ∧ len0 = 0 ∧ cap0 = 0 ∧ z0 = []) ∨ ∃ x, a0 = some x ∧ len0 ≤ cap0 ∧ cap0 ≤ maxLen ∧ z0.length = cap0 ∧ (∀ i, i < z0.length → w.cell? (x.add i) = some (.int .i64 (z0.getD i 0))) ∧ ∀ n ∈ z0, (Lit.int .i64 n).wf = true) (y0 : len0 * 8 ≤ 140737488351232) (w1 : (Lit.int .u8 a1).wf = true) (w2 : (Lit.int .u8 a2).wf = true) :
    Calls Try.prog 5 #[.slice a0 len0 cap0, .int .u8 a1, .int .u8 a2] w fun e w' => e = .returned (.bool true) ∧ Below w.heap.size w w' := by
  obtain ⟨l0, rfl, hr0, hm0, hw0, hc0⟩ := ReadsInt.ofRowC w0
  obtain ⟨k, h⟩ := P l0 a1 a2 hm0 y0 hw0 w1 w2
  refine (shapesearchlaw11_WindowParts.calls k _ _ l0 a1 a2 true w (Kd.C_of_reads (d := (0 : Int)) (h1 := fun _ => rfl) hr0) hc0 h).mono ?_
  rintro e w' ⟨rfl, hd⟩
  exact ⟨rfl, hd⟩

end Go.Proofs.Ytknkiogjibpooaa.Hp
