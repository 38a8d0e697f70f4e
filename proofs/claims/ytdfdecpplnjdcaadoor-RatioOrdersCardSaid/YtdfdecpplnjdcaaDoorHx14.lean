-- Written by wip/tools/hprint.py of this session, over the kit's print with hand-made contracts; Lean checks it.
import Derived.Test.YtdfdecpplnjdcaaDoorHx0
import Derived.Test.YtdfdecpplnjdcaaDoorHx1
import Derived.Test.YtdfdecpplnjdcaaDoorHx8
import Derived.Test.YtdfdecpplnjdcaaDoorHx9
import Derived.Test.YtdfdecpplnjdcaaDoorHx11
import Derived.Test.YtdfdecpplnjdcaaDoorHx12
import Derived.Test.YtdfdecpplnjdcaaDoorHx13
namespace Go.Proofs.YtdfdecpplnjdcaaDoor.Hp
open Go.RowKit Go.Proofs.YtdfdecpplnjdcaaDoorW.PrintWords Go.Proofs.YtdfdecpplnjdcaaDoorW.PrintLast Go.Proofs.YtdfdecpplnjdcaaDoorW.PrintMore
attribute [local go_sem] max2_int min2_int max_two min_two max_three min_three max_four min_four   -- for this text's walks alone
attribute [local go_sem] i64_w
set_option linter.unusedVariables false
set_option linter.unusedSimpArgs false

attribute [local go_sem high] eqA24
/-! ### shapesearchlaw01_RatioOrders: function 4 -/
def shapesearchlaw01_RatioOrders.j0 : Nat → Bool → Int → Int → Option (Bool)
  | 0, _, _, _ => none
  | k + 1, x72, x200000, x200001 => if x72 = true then (none) else ((ratio_Cmp.f k x200000 x200001 x200000 x200001).bind fun t207 => (if t207 = 0 then ((shapesearchlaw01_awake.f k).bind fun t208 => (some t208)) else (none)))
def shapesearchlaw01_RatioOrders.f (k : Nat) (l0 : List Int) : Option (Bool) := (shapesearchkeep_New.f l0).bind fun bt187 => ((shapesearchkeep_Src_Ratio.f k bt187.1 bt187.2).bind fun bt190 => ((shapesearchkeep_Src_Ratio.f k bt187.1 bt190.2.2).bind fun bt193 => ((shapesearchkeep_Src_Ratio.f k bt187.1 bt193.2.2).bind fun bt196 => ((ratio_Cmp.f k bt190.1 bt190.2.1 bt193.1 bt193.2.1).bind fun t202 => ((ratio_Cmp.f k bt193.1 bt193.2.1 bt196.1 bt196.2.1).bind fun t203 => ((ratio_Cmp.f k bt190.1 bt190.2.1 bt196.1 bt196.2.1).bind fun t204 => ((ratio_Cmp.f k bt193.1 bt193.2.1 bt190.1 bt190.2.1).bind fun t205 => (if t202 = (wrap64 (-t205)) then (if ((t202 == 0) != (bt190.1 == bt193.1 && (bt190.2.1 == bt193.2.1))) = true then (shapesearchlaw01_RatioOrders.j0 k true bt190.1 bt190.2.1) else ((ratio_Less.f k bt190.1 bt190.2.1 bt193.1 bt193.2.1).bind fun t206 => (if (t206 != (decide (t202 < 0))) = true then (shapesearchlaw01_RatioOrders.j0 k true bt190.1 bt190.2.1) else (if t202 ≤ 0 then (if t203 ≤ 0 then (if t204 > 0 then (shapesearchlaw01_RatioOrders.j0 k true bt190.1 bt190.2.1) else (if t202 ≥ 0 then (if t203 ≥ 0 then (shapesearchlaw01_RatioOrders.j0 k (decide (t204 < 0)) bt190.1 bt190.2.1) else (shapesearchlaw01_RatioOrders.j0 k false bt190.1 bt190.2.1)) else (shapesearchlaw01_RatioOrders.j0 k false bt190.1 bt190.2.1))) else (if t202 ≥ 0 then (if t203 ≥ 0 then (shapesearchlaw01_RatioOrders.j0 k (decide (t204 < 0)) bt190.1 bt190.2.1) else (shapesearchlaw01_RatioOrders.j0 k false bt190.1 bt190.2.1)) else (shapesearchlaw01_RatioOrders.j0 k false bt190.1 bt190.2.1))) else (if t202 ≥ 0 then (if t203 ≥ 0 then (shapesearchlaw01_RatioOrders.j0 k (decide (t204 < 0)) bt190.1 bt190.2.1) else (shapesearchlaw01_RatioOrders.j0 k false bt190.1 bt190.2.1)) else (shapesearchlaw01_RatioOrders.j0 k false bt190.1 bt190.2.1)))))) else (shapesearchlaw01_RatioOrders.j0 k true bt190.1 bt190.2.1)))))))))
theorem shapesearchlaw01_RatioOrders.mono_l : ∀ k, (∀ y0 y1 y2, LeO (shapesearchlaw01_RatioOrders.j0 k y0 y1 y2) (shapesearchlaw01_RatioOrders.j0 (k + 1) y0 y1 y2))
  | 0 => fun _ _ _ r h => by simp [shapesearchlaw01_RatioOrders.j0] at h
  | k + 1 => by
    have ih0 := shapesearchlaw01_RatioOrders.mono_l k
    · intro y0 y1 y2
      unfold shapesearchlaw01_RatioOrders.j0
      repeat' first
      | (with_reducible exact ih0 _ _ _)
      | (with_reducible exact ratio_Cmp.mono _ _ _ _ _)
      | (with_reducible exact ratio_Less.mono _ _ _ _ _)
      | (with_reducible exact shapesearchkeep_Src_Ratio.mono _ _ _)
      | (with_reducible exact shapesearchlaw01_awake.mono _)
      | (with_reducible exact LeO.refl _)
      | (with_reducible exact LeO.none _)
      | (with_reducible refine LeO.ite ?_ ?_)
      | (with_reducible refine LeO.bind ?_ (fun _ => ?_))
      | exact ih0 _ _ _
      | exact ratio_Cmp.mono _ _ _ _ _
      | exact ratio_Less.mono _ _ _ _ _
      | exact shapesearchkeep_Src_Ratio.mono _ _ _
      | exact shapesearchlaw01_awake.mono _
      | exact LeO.none _
      | refine LeO.ite ?_ ?_
      | refine LeO.bind ?_ (fun _ => ?_)
theorem shapesearchlaw01_RatioOrders.mono : ∀ a0 k, LeO (shapesearchlaw01_RatioOrders.f k a0) (shapesearchlaw01_RatioOrders.f (k + 1) a0) := by
  intro a0 k
  have ih0 := shapesearchlaw01_RatioOrders.mono_l k
  unfold shapesearchlaw01_RatioOrders.f
  repeat' first
      | (with_reducible exact ih0 _ _ _)
      | (with_reducible exact ratio_Cmp.mono _ _ _ _ _)
      | (with_reducible exact ratio_Less.mono _ _ _ _ _)
      | (with_reducible exact shapesearchkeep_Src_Ratio.mono _ _ _)
      | (with_reducible exact shapesearchlaw01_awake.mono _)
      | (with_reducible exact LeO.refl _)
      | (with_reducible exact LeO.none _)
      | (with_reducible refine LeO.ite ?_ ?_)
      | (with_reducible refine LeO.bind ?_ (fun _ => ?_))
      | exact ih0 _ _ _
      | exact ratio_Cmp.mono _ _ _ _ _
      | exact ratio_Less.mono _ _ _ _ _
      | exact shapesearchkeep_Src_Ratio.mono _ _ _
      | exact shapesearchlaw01_awake.mono _
      | exact LeO.none _
      | refine LeO.ite ?_ ?_
      | refine LeO.bind ?_ (fun _ => ?_)
def shapesearchlaw01_RatioOrders.T3 : Bool × List (List Nat × List Nat) := (true, [([], []), ([], []), ([0, 1], [0, 1]), ([], []), ([], []), ([3, 4, 2], [3, 4]), ([], []), ([], []), ([6, 7, 5], [6, 7]), ([2, 8, 0, 1, 2], [2]), ([5, 9, 0, 1, 2, 3, 4, 5, 9], [5]), ([8, 10, 0, 1, 2, 3, 4, 5, 6, 7, 8, 9, 10], [8])])
def shapesearchlaw01_RatioOrders.B3 : List Nat := [0, 0, 3, 0, 0, 31, 0, 0, 255, 511, 1023, 2047]
theorem shapesearchlaw01_RatioOrders.tab3 : rtab .any (opsOf Tryd.f4 3) = shapesearchlaw01_RatioOrders.T3 := by kernel_rfl
theorem shapesearchlaw01_RatioOrders.bits3 : waitsOk shapesearchlaw01_RatioOrders.T3.2 shapesearchlaw01_RatioOrders.B3 = true := by kernel_rfl
set_option maxHeartbeats 8000000 in
set_option maxRecDepth 100000 in
theorem shapesearchlaw01_RatioOrders.calls (k : Nat) (A0 : Option Addr) (c0 : Nat) (l0 : List Int) (r : Bool) (w : World) (hr0 : Kd.C (Kd.int .i64) w A0 l0.length l0) (hc0 : l0.length ≤ c0) (h : shapesearchlaw01_RatioOrders.f k l0 = some r) :
    Calls Tryd.prog 4 #[.slice A0 l0.length c0] w fun e w' => e = .returned (.bool r) ∧ Below w.heap.size w w' := by
  have hu24 := Tryd.underlying24
  have HR0 := Aside0.mk hr0
  have HC0 := Aside0.mk hc0
  clear hr0 hc0
  have HB := Aside0.mk (Below.refl w.heap.size w)
  have H : ((shapesearchkeep_New.f l0).bind fun bt187 => ((shapesearchkeep_Src_Ratio.f k bt187.1 bt187.2).bind fun bt190 => ((shapesearchkeep_Src_Ratio.f k bt187.1 bt190.2.2).bind fun bt193 => ((shapesearchkeep_Src_Ratio.f k bt187.1 bt193.2.2).bind fun bt196 => ((ratio_Cmp.f k bt190.1 bt190.2.1 bt193.1 bt193.2.1).bind fun t202 => ((ratio_Cmp.f k bt193.1 bt193.2.1 bt196.1 bt196.2.1).bind fun t203 => ((ratio_Cmp.f k bt190.1 bt190.2.1 bt196.1 bt196.2.1).bind fun t204 => ((ratio_Cmp.f k bt193.1 bt193.2.1 bt190.1 bt190.2.1).bind fun t205 => (if t202 = (wrap64 (-t205)) then (if ((t202 == 0) != (bt190.1 == bt193.1 && (bt190.2.1 == bt193.2.1))) = true then (shapesearchlaw01_RatioOrders.j0 k true bt190.1 bt190.2.1) else ((ratio_Less.f k bt190.1 bt190.2.1 bt193.1 bt193.2.1).bind fun t206 => (if (t206 != (decide (t202 < 0))) = true then (shapesearchlaw01_RatioOrders.j0 k true bt190.1 bt190.2.1) else (if t202 ≤ 0 then (if t203 ≤ 0 then (if t204 > 0 then (shapesearchlaw01_RatioOrders.j0 k true bt190.1 bt190.2.1) else (if t202 ≥ 0 then (if t203 ≥ 0 then (shapesearchlaw01_RatioOrders.j0 k (decide (t204 < 0)) bt190.1 bt190.2.1) else (shapesearchlaw01_RatioOrders.j0 k false bt190.1 bt190.2.1)) else (shapesearchlaw01_RatioOrders.j0 k false bt190.1 bt190.2.1))) else (if t202 ≥ 0 then (if t203 ≥ 0 then (shapesearchlaw01_RatioOrders.j0 k (decide (t204 < 0)) bt190.1 bt190.2.1) else (shapesearchlaw01_RatioOrders.j0 k false bt190.1 bt190.2.1)) else (shapesearchlaw01_RatioOrders.j0 k false bt190.1 bt190.2.1))) else (if t202 ≥ 0 then (if t203 ≥ 0 then (shapesearchlaw01_RatioOrders.j0 k (decide (t204 < 0)) bt190.1 bt190.2.1) else (shapesearchlaw01_RatioOrders.j0 k false bt190.1 bt190.2.1)) else (shapesearchlaw01_RatioOrders.j0 k false bt190.1 bt190.2.1)))))) else (shapesearchlaw01_RatioOrders.j0 k true bt190.1 bt190.2.1)))))))))) = some r := h
  clear h
  replace H := Option.bind_eq_some_iff.mp H
  obtain ⟨⟨t187, t188⟩, A20, H⟩ := H
  replace H : ((shapesearchkeep_Src_Ratio.f k t187 t188).bind fun bt190 => ((shapesearchkeep_Src_Ratio.f k t187 bt190.2.2).bind fun bt193 => ((shapesearchkeep_Src_Ratio.f k t187 bt193.2.2).bind fun bt196 => ((ratio_Cmp.f k bt190.1 bt190.2.1 bt193.1 bt193.2.1).bind fun t202 => ((ratio_Cmp.f k bt193.1 bt193.2.1 bt196.1 bt196.2.1).bind fun t203 => ((ratio_Cmp.f k bt190.1 bt190.2.1 bt196.1 bt196.2.1).bind fun t204 => ((ratio_Cmp.f k bt193.1 bt193.2.1 bt190.1 bt190.2.1).bind fun t205 => (if t202 = (wrap64 (-t205)) then (if ((t202 == 0) != (bt190.1 == bt193.1 && (bt190.2.1 == bt193.2.1))) = true then (shapesearchlaw01_RatioOrders.j0 k true bt190.1 bt190.2.1) else ((ratio_Less.f k bt190.1 bt190.2.1 bt193.1 bt193.2.1).bind fun t206 => (if (t206 != (decide (t202 < 0))) = true then (shapesearchlaw01_RatioOrders.j0 k true bt190.1 bt190.2.1) else (if t202 ≤ 0 then (if t203 ≤ 0 then (if t204 > 0 then (shapesearchlaw01_RatioOrders.j0 k true bt190.1 bt190.2.1) else (if t202 ≥ 0 then (if t203 ≥ 0 then (shapesearchlaw01_RatioOrders.j0 k (decide (t204 < 0)) bt190.1 bt190.2.1) else (shapesearchlaw01_RatioOrders.j0 k false bt190.1 bt190.2.1)) else (shapesearchlaw01_RatioOrders.j0 k false bt190.1 bt190.2.1))) else (if t202 ≥ 0 then (if t203 ≥ 0 then (shapesearchlaw01_RatioOrders.j0 k (decide (t204 < 0)) bt190.1 bt190.2.1) else (shapesearchlaw01_RatioOrders.j0 k false bt190.1 bt190.2.1)) else (shapesearchlaw01_RatioOrders.j0 k false bt190.1 bt190.2.1))) else (if t202 ≥ 0 then (if t203 ≥ 0 then (shapesearchlaw01_RatioOrders.j0 k (decide (t204 < 0)) bt190.1 bt190.2.1) else (shapesearchlaw01_RatioOrders.j0 k false bt190.1 bt190.2.1)) else (shapesearchlaw01_RatioOrders.j0 k false bt190.1 bt190.2.1)))))) else (shapesearchlaw01_RatioOrders.j0 k true bt190.1 bt190.2.1))))))))) = some r := H
  have A2 := Aside0.mk A20
  clear A20
  replace H := Option.bind_eq_some_iff.mp H
  obtain ⟨⟨t190, t191, t192⟩, A30, H⟩ := H
  replace H : ((shapesearchkeep_Src_Ratio.f k t187 t192).bind fun bt193 => ((shapesearchkeep_Src_Ratio.f k t187 bt193.2.2).bind fun bt196 => ((ratio_Cmp.f k t190 t191 bt193.1 bt193.2.1).bind fun t202 => ((ratio_Cmp.f k bt193.1 bt193.2.1 bt196.1 bt196.2.1).bind fun t203 => ((ratio_Cmp.f k t190 t191 bt196.1 bt196.2.1).bind fun t204 => ((ratio_Cmp.f k bt193.1 bt193.2.1 t190 t191).bind fun t205 => (if t202 = (wrap64 (-t205)) then (if ((t202 == 0) != (t190 == bt193.1 && (t191 == bt193.2.1))) = true then (shapesearchlaw01_RatioOrders.j0 k true t190 t191) else ((ratio_Less.f k t190 t191 bt193.1 bt193.2.1).bind fun t206 => (if (t206 != (decide (t202 < 0))) = true then (shapesearchlaw01_RatioOrders.j0 k true t190 t191) else (if t202 ≤ 0 then (if t203 ≤ 0 then (if t204 > 0 then (shapesearchlaw01_RatioOrders.j0 k true t190 t191) else (if t202 ≥ 0 then (if t203 ≥ 0 then (shapesearchlaw01_RatioOrders.j0 k (decide (t204 < 0)) t190 t191) else (shapesearchlaw01_RatioOrders.j0 k false t190 t191)) else (shapesearchlaw01_RatioOrders.j0 k false t190 t191))) else (if t202 ≥ 0 then (if t203 ≥ 0 then (shapesearchlaw01_RatioOrders.j0 k (decide (t204 < 0)) t190 t191) else (shapesearchlaw01_RatioOrders.j0 k false t190 t191)) else (shapesearchlaw01_RatioOrders.j0 k false t190 t191))) else (if t202 ≥ 0 then (if t203 ≥ 0 then (shapesearchlaw01_RatioOrders.j0 k (decide (t204 < 0)) t190 t191) else (shapesearchlaw01_RatioOrders.j0 k false t190 t191)) else (shapesearchlaw01_RatioOrders.j0 k false t190 t191)))))) else (shapesearchlaw01_RatioOrders.j0 k true t190 t191)))))))) = some r := H
  have A3 := Aside0.mk A30
  clear A30
  replace H := Option.bind_eq_some_iff.mp H
  obtain ⟨⟨t193, t194, t195⟩, A40, H⟩ := H
  replace H : ((shapesearchkeep_Src_Ratio.f k t187 t195).bind fun bt196 => ((ratio_Cmp.f k t190 t191 t193 t194).bind fun t202 => ((ratio_Cmp.f k t193 t194 bt196.1 bt196.2.1).bind fun t203 => ((ratio_Cmp.f k t190 t191 bt196.1 bt196.2.1).bind fun t204 => ((ratio_Cmp.f k t193 t194 t190 t191).bind fun t205 => (if t202 = (wrap64 (-t205)) then (if ((t202 == 0) != (t190 == t193 && (t191 == t194))) = true then (shapesearchlaw01_RatioOrders.j0 k true t190 t191) else ((ratio_Less.f k t190 t191 t193 t194).bind fun t206 => (if (t206 != (decide (t202 < 0))) = true then (shapesearchlaw01_RatioOrders.j0 k true t190 t191) else (if t202 ≤ 0 then (if t203 ≤ 0 then (if t204 > 0 then (shapesearchlaw01_RatioOrders.j0 k true t190 t191) else (if t202 ≥ 0 then (if t203 ≥ 0 then (shapesearchlaw01_RatioOrders.j0 k (decide (t204 < 0)) t190 t191) else (shapesearchlaw01_RatioOrders.j0 k false t190 t191)) else (shapesearchlaw01_RatioOrders.j0 k false t190 t191))) else (if t202 ≥ 0 then (if t203 ≥ 0 then (shapesearchlaw01_RatioOrders.j0 k (decide (t204 < 0)) t190 t191) else (shapesearchlaw01_RatioOrders.j0 k false t190 t191)) else (shapesearchlaw01_RatioOrders.j0 k false t190 t191))) else (if t202 ≥ 0 then (if t203 ≥ 0 then (shapesearchlaw01_RatioOrders.j0 k (decide (t204 < 0)) t190 t191) else (shapesearchlaw01_RatioOrders.j0 k false t190 t191)) else (shapesearchlaw01_RatioOrders.j0 k false t190 t191)))))) else (shapesearchlaw01_RatioOrders.j0 k true t190 t191))))))) = some r := H
  have A4 := Aside0.mk A40
  clear A40
  replace H := Option.bind_eq_some_iff.mp H
  obtain ⟨⟨t196, t197, t198⟩, A50, H⟩ := H
  replace H : ((ratio_Cmp.f k t190 t191 t193 t194).bind fun t202 => ((ratio_Cmp.f k t193 t194 t196 t197).bind fun t203 => ((ratio_Cmp.f k t190 t191 t196 t197).bind fun t204 => ((ratio_Cmp.f k t193 t194 t190 t191).bind fun t205 => (if t202 = (wrap64 (-t205)) then (if ((t202 == 0) != (t190 == t193 && (t191 == t194))) = true then (shapesearchlaw01_RatioOrders.j0 k true t190 t191) else ((ratio_Less.f k t190 t191 t193 t194).bind fun t206 => (if (t206 != (decide (t202 < 0))) = true then (shapesearchlaw01_RatioOrders.j0 k true t190 t191) else (if t202 ≤ 0 then (if t203 ≤ 0 then (if t204 > 0 then (shapesearchlaw01_RatioOrders.j0 k true t190 t191) else (if t202 ≥ 0 then (if t203 ≥ 0 then (shapesearchlaw01_RatioOrders.j0 k (decide (t204 < 0)) t190 t191) else (shapesearchlaw01_RatioOrders.j0 k false t190 t191)) else (shapesearchlaw01_RatioOrders.j0 k false t190 t191))) else (if t202 ≥ 0 then (if t203 ≥ 0 then (shapesearchlaw01_RatioOrders.j0 k (decide (t204 < 0)) t190 t191) else (shapesearchlaw01_RatioOrders.j0 k false t190 t191)) else (shapesearchlaw01_RatioOrders.j0 k false t190 t191))) else (if t202 ≥ 0 then (if t203 ≥ 0 then (shapesearchlaw01_RatioOrders.j0 k (decide (t204 < 0)) t190 t191) else (shapesearchlaw01_RatioOrders.j0 k false t190 t191)) else (shapesearchlaw01_RatioOrders.j0 k false t190 t191)))))) else (shapesearchlaw01_RatioOrders.j0 k true t190 t191)))))) = some r := H
  have A5 := Aside0.mk A50
  clear A50
  replace H := Option.bind_eq_some_iff.mp H
  obtain ⟨t202, A60, H⟩ := H
  replace H : ((ratio_Cmp.f k t193 t194 t196 t197).bind fun t203 => ((ratio_Cmp.f k t190 t191 t196 t197).bind fun t204 => ((ratio_Cmp.f k t193 t194 t190 t191).bind fun t205 => (if t202 = (wrap64 (-t205)) then (if ((t202 == 0) != (t190 == t193 && (t191 == t194))) = true then (shapesearchlaw01_RatioOrders.j0 k true t190 t191) else ((ratio_Less.f k t190 t191 t193 t194).bind fun t206 => (if (t206 != (decide (t202 < 0))) = true then (shapesearchlaw01_RatioOrders.j0 k true t190 t191) else (if t202 ≤ 0 then (if t203 ≤ 0 then (if t204 > 0 then (shapesearchlaw01_RatioOrders.j0 k true t190 t191) else (if t202 ≥ 0 then (if t203 ≥ 0 then (shapesearchlaw01_RatioOrders.j0 k (decide (t204 < 0)) t190 t191) else (shapesearchlaw01_RatioOrders.j0 k false t190 t191)) else (shapesearchlaw01_RatioOrders.j0 k false t190 t191))) else (if t202 ≥ 0 then (if t203 ≥ 0 then (shapesearchlaw01_RatioOrders.j0 k (decide (t204 < 0)) t190 t191) else (shapesearchlaw01_RatioOrders.j0 k false t190 t191)) else (shapesearchlaw01_RatioOrders.j0 k false t190 t191))) else (if t202 ≥ 0 then (if t203 ≥ 0 then (shapesearchlaw01_RatioOrders.j0 k (decide (t204 < 0)) t190 t191) else (shapesearchlaw01_RatioOrders.j0 k false t190 t191)) else (shapesearchlaw01_RatioOrders.j0 k false t190 t191)))))) else (shapesearchlaw01_RatioOrders.j0 k true t190 t191))))) = some r := H
  have A6 := Aside0.mk A60
  clear A60
  replace H := Option.bind_eq_some_iff.mp H
  obtain ⟨t203, A70, H⟩ := H
  replace H : ((ratio_Cmp.f k t190 t191 t196 t197).bind fun t204 => ((ratio_Cmp.f k t193 t194 t190 t191).bind fun t205 => (if t202 = (wrap64 (-t205)) then (if ((t202 == 0) != (t190 == t193 && (t191 == t194))) = true then (shapesearchlaw01_RatioOrders.j0 k true t190 t191) else ((ratio_Less.f k t190 t191 t193 t194).bind fun t206 => (if (t206 != (decide (t202 < 0))) = true then (shapesearchlaw01_RatioOrders.j0 k true t190 t191) else (if t202 ≤ 0 then (if t203 ≤ 0 then (if t204 > 0 then (shapesearchlaw01_RatioOrders.j0 k true t190 t191) else (if t202 ≥ 0 then (if t203 ≥ 0 then (shapesearchlaw01_RatioOrders.j0 k (decide (t204 < 0)) t190 t191) else (shapesearchlaw01_RatioOrders.j0 k false t190 t191)) else (shapesearchlaw01_RatioOrders.j0 k false t190 t191))) else (if t202 ≥ 0 then (if t203 ≥ 0 then (shapesearchlaw01_RatioOrders.j0 k (decide (t204 < 0)) t190 t191) else (shapesearchlaw01_RatioOrders.j0 k false t190 t191)) else (shapesearchlaw01_RatioOrders.j0 k false t190 t191))) else (if t202 ≥ 0 then (if t203 ≥ 0 then (shapesearchlaw01_RatioOrders.j0 k (decide (t204 < 0)) t190 t191) else (shapesearchlaw01_RatioOrders.j0 k false t190 t191)) else (shapesearchlaw01_RatioOrders.j0 k false t190 t191)))))) else (shapesearchlaw01_RatioOrders.j0 k true t190 t191)))) = some r := H
  have A7 := Aside0.mk A70
  clear A70
  replace H := Option.bind_eq_some_iff.mp H
  obtain ⟨t204, A80, H⟩ := H
  replace H : ((ratio_Cmp.f k t193 t194 t190 t191).bind fun t205 => (if t202 = (wrap64 (-t205)) then (if ((t202 == 0) != (t190 == t193 && (t191 == t194))) = true then (shapesearchlaw01_RatioOrders.j0 k true t190 t191) else ((ratio_Less.f k t190 t191 t193 t194).bind fun t206 => (if (t206 != (decide (t202 < 0))) = true then (shapesearchlaw01_RatioOrders.j0 k true t190 t191) else (if t202 ≤ 0 then (if t203 ≤ 0 then (if t204 > 0 then (shapesearchlaw01_RatioOrders.j0 k true t190 t191) else (if t202 ≥ 0 then (if t203 ≥ 0 then (shapesearchlaw01_RatioOrders.j0 k (decide (t204 < 0)) t190 t191) else (shapesearchlaw01_RatioOrders.j0 k false t190 t191)) else (shapesearchlaw01_RatioOrders.j0 k false t190 t191))) else (if t202 ≥ 0 then (if t203 ≥ 0 then (shapesearchlaw01_RatioOrders.j0 k (decide (t204 < 0)) t190 t191) else (shapesearchlaw01_RatioOrders.j0 k false t190 t191)) else (shapesearchlaw01_RatioOrders.j0 k false t190 t191))) else (if t202 ≥ 0 then (if t203 ≥ 0 then (shapesearchlaw01_RatioOrders.j0 k (decide (t204 < 0)) t190 t191) else (shapesearchlaw01_RatioOrders.j0 k false t190 t191)) else (shapesearchlaw01_RatioOrders.j0 k false t190 t191)))))) else (shapesearchlaw01_RatioOrders.j0 k true t190 t191))) = some r := H
  have A8 := Aside0.mk A80
  clear A80
  have HC9 := Aside0.mk H
  clear H
  go_enter Tryd.func4, Tryd.ntmps4
  try go_wp2_with (first | ((with_reducible refine gate_callee (f := 14) rfl ?_); refine goesL_ (some 11) rfl rfl Tryd.func14 (by kernel_rfl) rfl #[.slice A0 l0.length c0] rfl (by (try simp only [List.map_toArray, List.map_cons, List.map_nil]); first | done | rfl | (simp only [List.length_drop, List.length_take]; rfl)) ?_; (with_reducible refine (shapesearchkeep_New.calls _ _ l0 t187 t188 w _ ?side1 ?side2 ?side3 A2.out).mono ?_); (case side1 => repeat (first | (with_reducible first | exact HB.out | apply below_alloc | apply pw_below_drewN | apply below_drew1) | exact HB.out)); (case side2 => exact HR0.out); (case side3 => exact HC0.out); rintro e w10 ⟨g189, rfl, hi, hb, hb2⟩; refine ⟨_, rfl, ?_⟩; have n0_ := Aside0.mk (hb); have n1_ := Aside0.mk (hi); clear HB; have HB := n0_; have HI189 := n1_; clear n0_ n1_; (try clear hb); (try clear hb2); (try clear hk); (try clear hi)) | ((with_reducible refine gate_callee (f := 15) rfl ?_); refine goesL_ (some 13) rfl rfl Tryd.func15 (by kernel_rfl) rfl #[.pointer (some ⟨g189, 0, none⟩)] rfl (by (try simp only [List.map_toArray, List.map_cons, List.map_nil]); first | done | rfl | (simp only [List.length_drop, List.length_take]; rfl)) ?_; (with_reducible refine (shapesearchkeep_Src_Ratio.calls k g189 t187 t188 t190 t191 t192 w _ ?side1 ?side2 A3.out).mono ?_); (case side1 => repeat (first | (with_reducible first | exact HI189.out | apply IsS54.alloc | apply IsS54.drewN | apply IsS54.drew | apply IsS54.set_1) | exact HI189.out)); (case side2 => repeat (first | (with_reducible first | exact HB.out | apply below_alloc | apply pw_below_drewN | apply below_drew1 | refine below_set ?_ (IsS54.ge HI189.out)) | exact HB.out)); rintro e w11 ⟨rfl, hi, hb, hk⟩; refine ⟨_, rfl, ?_⟩; have n0_ := Aside0.mk (hb); have n1_ := Aside0.mk (hi); clear HB; clear HI189; have HB := n0_; have HI189 := n1_; clear n0_ n1_; (try clear hb); (try clear hb2); (try clear hk); (try clear hi)) | ((with_reducible refine gate_callee (f := 15) rfl ?_); refine goesL_ (some 15) rfl rfl Tryd.func15 (by kernel_rfl) rfl #[.pointer (some ⟨g189, 0, none⟩)] rfl (by (try simp only [List.map_toArray, List.map_cons, List.map_nil]); first | done | rfl | (simp only [List.length_drop, List.length_take]; rfl)) ?_; (with_reducible refine (shapesearchkeep_Src_Ratio.calls k g189 t187 t192 t193 t194 t195 w _ ?side1 ?side2 A4.out).mono ?_); (case side1 => repeat (first | (with_reducible first | exact HI189.out | apply IsS54.alloc | apply IsS54.drewN | apply IsS54.drew | apply IsS54.set_1) | exact HI189.out)); (case side2 => repeat (first | (with_reducible first | exact HB.out | apply below_alloc | apply pw_below_drewN | apply below_drew1 | refine below_set ?_ (IsS54.ge HI189.out)) | exact HB.out)); rintro e w12 ⟨rfl, hi, hb, hk⟩; refine ⟨_, rfl, ?_⟩; have n0_ := Aside0.mk (hb); have n1_ := Aside0.mk (hi); clear HB; clear HI189; have HB := n0_; have HI189 := n1_; clear n0_ n1_; (try clear hb); (try clear hb2); (try clear hk); (try clear hi)) | ((with_reducible refine gate_callee (f := 15) rfl ?_); refine goesL_ (some 17) rfl rfl Tryd.func15 (by kernel_rfl) rfl #[.pointer (some ⟨g189, 0, none⟩)] rfl (by (try simp only [List.map_toArray, List.map_cons, List.map_nil]); first | done | rfl | (simp only [List.length_drop, List.length_take]; rfl)) ?_; (with_reducible refine (shapesearchkeep_Src_Ratio.calls k g189 t187 t195 t196 t197 t198 w _ ?side1 ?side2 A5.out).mono ?_); (case side1 => repeat (first | (with_reducible first | exact HI189.out | apply IsS54.alloc | apply IsS54.drewN | apply IsS54.drew | apply IsS54.set_1) | exact HI189.out)); (case side2 => repeat (first | (with_reducible first | exact HB.out | apply below_alloc | apply pw_below_drewN | apply below_drew1 | refine below_set ?_ (IsS54.ge HI189.out)) | exact HB.out)); rintro e w13 ⟨rfl, hi, hb, hk⟩; refine ⟨_, rfl, ?_⟩; have n0_ := Aside0.mk (hb); have n1_ := Aside0.mk (hi); clear HB; clear HI189; have HB := n0_; have HI189 := n1_; clear n0_ n1_; (try clear hb); (try clear hb2); (try clear hk); (try clear hi)) | ((with_reducible refine gate_dst (N := 4) rfl ?_); refine box_event ?hg (N := 4) ?hd (cs := #[.int .i64 0, .int .i64 0]) (t := 24) ?hr ?_; (case hd => rfl); (case hg => rfl); (case hr => first | (go_simp; done) | (go_simp; rfl)); intro gb199 hg w14 hbox hb; have n0_ := Aside0.mk (IsS54.below (by repeat (first | (with_reducible first | exact HI189.out | apply IsS54.alloc | apply IsS54.drewN | apply IsS54.drew | apply IsS54.set_1) | exact HI189.out)) hb); have n1_ := Aside0.mk (below_step (by repeat (first | (with_reducible first | exact HB.out | apply below_alloc | apply pw_below_drewN | apply below_drew1 | refine below_set ?_ (IsS54.ge HI189.out)) | exact HB.out)) hb); have n2_ := Aside0.mk (hbox); have n3_ := Aside0.mk ((by rw [hg]; exact (below_size (by repeat (first | (with_reducible first | exact HB.out | apply below_alloc | apply pw_below_drewN | apply below_drew1 | refine below_set ?_ (IsS54.ge HI189.out)) | exact HB.out))) : w.heap.size ≤ gb199)); have n4_ := Aside0.mk ((by rw [hg]; exact (below_size (by repeat (first | (with_reducible first | exact HB.out | apply below_alloc | apply pw_below_drewN | apply below_drew1 | refine below_set ?_ (IsS54.ge HI189.out)) | exact HB.out))) : w.heap.size ≤ gb199)); have n5_ := Aside0.mk ((by rw [hg]; exact Nat.ne_of_lt (IsS54.lt (show IsS54 w _ g189 t187 t198 from by repeat (first | (with_reducible first | exact HI189.out | apply IsS54.alloc | apply IsS54.drewN | apply IsS54.drew | apply IsS54.set_1) | exact HI189.out))) : g189 ≠ gb199)); have n6_ := Aside0.mk ((by rw [hg]; exact Nat.ne_of_gt (IsS54.lt (show IsS54 w _ g189 t187 t198 from by repeat (first | (with_reducible first | exact HI189.out | apply IsS54.alloc | apply IsS54.drewN | apply IsS54.drew | apply IsS54.set_1) | exact HI189.out))) : gb199 ≠ g189)); clear HI189; clear HB; have HI189 := n0_; have HB := n1_; have BK199 := n2_; have GW199 := n3_; have GE199 := n4_; have NB189_199 := n5_; have NB199_189 := n6_; clear n0_ n1_ n2_ n3_ n4_ n5_ n6_; clear hb hbox hg) | ((with_reducible refine gate_dst (N := 5) rfl ?_); refine box_event ?hg (N := 5) ?hd (cs := #[.int .i64 0, .int .i64 0]) (t := 24) ?hr ?_; (case hd => rfl); (case hg => rfl); (case hr => first | (go_simp; done) | (go_simp; rfl)); intro gb200 hg w15 hbox hb; have n0_ := Aside0.mk (IsS54.below (by repeat (first | (with_reducible first | exact HI189.out | apply IsS54.alloc | apply IsS54.drewN | apply IsS54.drew | apply IsS54.set_1 | refine IsS54.far ?_ NB189_199.out _) | exact HI189.out)) hb); have n1_ := Aside0.mk (blk_below (g := gb199) (o := .cells #[.int .i64 0, .int .i64 0] 24 (0, 0)) (by (with_reducible repeat (first | refine blk_drewN ?_ _ | refine blk_drew ?_ | refine blk_alloc ?_ _)); exact BK199.out) hb); have n2_ := Aside0.mk (below_step (by repeat (first | (with_reducible first | exact HB.out | apply below_alloc | apply pw_below_drewN | apply below_drew1 | refine below_set ?_ (IsS54.ge HI189.out) | refine below_set ?_ GE199.out) | exact HB.out)) hb); have n3_ := Aside0.mk (hbox); have n4_ := Aside0.mk ((by rw [hg]; exact (below_size (by repeat (first | (with_reducible first | exact HB.out | apply below_alloc | apply pw_below_drewN | apply below_drew1 | refine below_set ?_ (IsS54.ge HI189.out) | refine below_set ?_ GE199.out) | exact HB.out))) : w.heap.size ≤ gb200)); have n5_ := Aside0.mk ((by rw [hg]; exact (below_size (by repeat (first | (with_reducible first | exact HB.out | apply below_alloc | apply pw_below_drewN | apply below_drew1 | refine below_set ?_ (IsS54.ge HI189.out) | refine below_set ?_ GE199.out) | exact HB.out))) : w.heap.size ≤ gb200)); have n6_ := Aside0.mk ((by rw [hg]; exact Nat.ne_of_lt (blk_lt (g := gb199) (o := .cells #[.int .i64 0, .int .i64 0] 24 (0, 0)) (by (with_reducible repeat (first | refine blk_drewN ?_ _ | refine blk_drew ?_ | refine blk_alloc ?_ _)); exact BK199.out)) : gb199 ≠ gb200)); have n7_ := Aside0.mk ((by rw [hg]; exact Nat.ne_of_gt (blk_lt (g := gb199) (o := .cells #[.int .i64 0, .int .i64 0] 24 (0, 0)) (by (with_reducible repeat (first | refine blk_drewN ?_ _ | refine blk_drew ?_ | refine blk_alloc ?_ _)); exact BK199.out)) : gb200 ≠ gb199)); have n8_ := Aside0.mk ((by rw [hg]; exact Nat.ne_of_lt (IsS54.lt (show IsS54 w _ g189 t187 t198 from by repeat (first | (with_reducible first | exact HI189.out | apply IsS54.alloc | apply IsS54.drewN | apply IsS54.drew | apply IsS54.set_1 | refine IsS54.far ?_ NB189_199.out _) | exact HI189.out))) : g189 ≠ gb200)); have n9_ := Aside0.mk ((by rw [hg]; exact Nat.ne_of_gt (IsS54.lt (show IsS54 w _ g189 t187 t198 from by repeat (first | (with_reducible first | exact HI189.out | apply IsS54.alloc | apply IsS54.drewN | apply IsS54.drew | apply IsS54.set_1 | refine IsS54.far ?_ NB189_199.out _) | exact HI189.out))) : gb200 ≠ g189)); clear HI189; clear BK199; clear HB; have HI189 := n0_; have BK199 := n1_; have HB := n2_; have BK200 := n3_; have GW200 := n4_; have GE200 := n5_; have NB199_200 := n6_; have NB200_199 := n7_; have NB189_200 := n8_; have NB200_189 := n9_; clear n0_ n1_ n2_ n3_ n4_ n5_ n6_ n7_ n8_ n9_; clear hb hbox hg) | ((with_reducible refine gate_dst (N := 6) rfl ?_); refine box_event ?hg (N := 6) ?hd (cs := #[.int .i64 0, .int .i64 0]) (t := 24) ?hr ?_; (case hd => rfl); (case hg => rfl); (case hr => first | (go_simp; done) | (go_simp; rfl)); intro gb201 hg w16 hbox hb; have n0_ := Aside0.mk (IsS54.below (by repeat (first | (with_reducible first | exact HI189.out | apply IsS54.alloc | apply IsS54.drewN | apply IsS54.drew | apply IsS54.set_1 | refine IsS54.far ?_ NB189_199.out _ | refine IsS54.far ?_ NB189_200.out _) | exact HI189.out)) hb); have n1_ := Aside0.mk (blk_below (g := gb199) (o := .cells #[.int .i64 0, .int .i64 0] 24 (0, 0)) (by (with_reducible repeat (first | refine blk_drewN ?_ _ | refine blk_drew ?_ | refine blk_alloc ?_ _)); exact BK199.out) hb); have n2_ := Aside0.mk (blk_below (g := gb200) (o := .cells #[.int .i64 0, .int .i64 0] 24 (0, 0)) (by (with_reducible repeat (first | refine blk_drewN ?_ _ | refine blk_drew ?_ | refine blk_alloc ?_ _)); exact BK200.out) hb); have n3_ := Aside0.mk (below_step (by repeat (first | (with_reducible first | exact HB.out | apply below_alloc | apply pw_below_drewN | apply below_drew1 | refine below_set ?_ (IsS54.ge HI189.out) | refine below_set ?_ GE199.out | refine below_set ?_ GE200.out) | exact HB.out)) hb); have n4_ := Aside0.mk (hbox); have n5_ := Aside0.mk ((by rw [hg]; exact (below_size (by repeat (first | (with_reducible first | exact HB.out | apply below_alloc | apply pw_below_drewN | apply below_drew1 | refine below_set ?_ (IsS54.ge HI189.out) | refine below_set ?_ GE199.out | refine below_set ?_ GE200.out) | exact HB.out))) : w.heap.size ≤ gb201)); have n6_ := Aside0.mk ((by rw [hg]; exact (below_size (by repeat (first | (with_reducible first | exact HB.out | apply below_alloc | apply pw_below_drewN | apply below_drew1 | refine below_set ?_ (IsS54.ge HI189.out) | refine below_set ?_ GE199.out | refine below_set ?_ GE200.out) | exact HB.out))) : w.heap.size ≤ gb201)); have n7_ := Aside0.mk ((by rw [hg]; exact Nat.ne_of_lt (blk_lt (g := gb199) (o := .cells #[.int .i64 0, .int .i64 0] 24 (0, 0)) (by (with_reducible repeat (first | refine blk_drewN ?_ _ | refine blk_drew ?_ | refine blk_alloc ?_ _)); exact BK199.out)) : gb199 ≠ gb201)); have n8_ := Aside0.mk ((by rw [hg]; exact Nat.ne_of_gt (blk_lt (g := gb199) (o := .cells #[.int .i64 0, .int .i64 0] 24 (0, 0)) (by (with_reducible repeat (first | refine blk_drewN ?_ _ | refine blk_drew ?_ | refine blk_alloc ?_ _)); exact BK199.out)) : gb201 ≠ gb199)); have n9_ := Aside0.mk ((by rw [hg]; exact Nat.ne_of_lt (blk_lt (g := gb200) (o := .cells #[.int .i64 0, .int .i64 0] 24 (0, 0)) (by (with_reducible repeat (first | refine blk_drewN ?_ _ | refine blk_drew ?_ | refine blk_alloc ?_ _)); exact BK200.out)) : gb200 ≠ gb201)); have n10_ := Aside0.mk ((by rw [hg]; exact Nat.ne_of_gt (blk_lt (g := gb200) (o := .cells #[.int .i64 0, .int .i64 0] 24 (0, 0)) (by (with_reducible repeat (first | refine blk_drewN ?_ _ | refine blk_drew ?_ | refine blk_alloc ?_ _)); exact BK200.out)) : gb201 ≠ gb200)); have n11_ := Aside0.mk ((by rw [hg]; exact Nat.ne_of_lt (IsS54.lt (show IsS54 w _ g189 t187 t198 from by repeat (first | (with_reducible first | exact HI189.out | apply IsS54.alloc | apply IsS54.drewN | apply IsS54.drew | apply IsS54.set_1 | refine IsS54.far ?_ NB189_199.out _ | refine IsS54.far ?_ NB189_200.out _) | exact HI189.out))) : g189 ≠ gb201)); have n12_ := Aside0.mk ((by rw [hg]; exact Nat.ne_of_gt (IsS54.lt (show IsS54 w _ g189 t187 t198 from by repeat (first | (with_reducible first | exact HI189.out | apply IsS54.alloc | apply IsS54.drewN | apply IsS54.drew | apply IsS54.set_1 | refine IsS54.far ?_ NB189_199.out _ | refine IsS54.far ?_ NB189_200.out _) | exact HI189.out))) : gb201 ≠ g189)); clear HI189; clear BK199; clear BK200; clear HB; have HI189 := n0_; have BK199 := n1_; have BK200 := n2_; have HB := n3_; have BK201 := n4_; have GW201 := n5_; have GE201 := n6_; have NB199_201 := n7_; have NB201_199 := n8_; have NB200_201 := n9_; have NB201_200 := n10_; have NB189_201 := n11_; have NB201_189 := n12_; clear n0_ n1_ n2_ n3_ n4_ n5_ n6_ n7_ n8_ n9_ n10_ n11_ n12_; clear hb hbox hg; have hnb17 := NB199_200.out; have hnc17 := NB200_199.out; have hnb18 := NB199_201.out; have hnc18 := NB201_199.out; have hnb19 := NB199_189.out; have hnc19 := NB189_199.out; have hcz20_0 : w16.cell? ⟨gb199, 0, none⟩ = some (.int .i64 0) := (blk_cell BK199.out 0).trans rfl; have hcz20_1 : w16.cell? ⟨gb199, 1, none⟩ = some (.int .i64 0) := (blk_cell BK199.out 1).trans rfl; have hfz20_0 := blk_frozen BK199.out 0; have hfz20_1 := blk_frozen BK199.out 1; have hnb21 := NB200_201.out; have hnc21 := NB201_200.out; have hnb22 := NB200_189.out; have hnc22 := NB189_200.out; have hcz23_0 : w16.cell? ⟨gb200, 0, none⟩ = some (.int .i64 0) := (blk_cell BK200.out 0).trans rfl; have hcz23_1 : w16.cell? ⟨gb200, 1, none⟩ = some (.int .i64 0) := (blk_cell BK200.out 1).trans rfl; have hfz23_0 := blk_frozen BK200.out 0; have hfz23_1 := blk_frozen BK200.out 1; have hnb24 := NB201_189.out; have hnc24 := NB189_201.out; have hcz25_0 : w16.cell? ⟨gb201, 0, none⟩ = some (.int .i64 0) := (blk_cell BK201.out 0).trans rfl; have hcz25_1 : w16.cell? ⟨gb201, 1, none⟩ = some (.int .i64 0) := (blk_cell BK201.out 1).trans rfl; have hfz25_0 := blk_frozen BK201.out 0; have hfz25_1 := blk_frozen BK201.out 1))
  have n0_ : Aside0 (((((((w16.setCell ⟨gb199, 0, none⟩ (.int .i64 t190)).setCell ⟨gb199, 1, none⟩ (.int .i64 t191)).setCell ⟨gb200, 0, none⟩ (.int .i64 t193)).setCell ⟨gb200, 1, none⟩ (.int .i64 t194)).setCell ⟨gb201, 0, none⟩ (.int .i64 t196)).setCell ⟨gb201, 1, none⟩ (.int .i64 t197)).heap[gb199]? = some (.cells #[.int .i64 t190, .int .i64 t191] 24 (0, 0))) := ⟨by (with_reducible repeat (first | refine blk_drewN ?_ _ | refine blk_drew ?_ | refine blk_alloc ?_ _)); refine blk_far ?_ NB199_201.out _; (with_reducible repeat (first | refine blk_drewN ?_ _ | refine blk_drew ?_ | refine blk_alloc ?_ _)); refine blk_far ?_ NB199_201.out _; (with_reducible repeat (first | refine blk_drewN ?_ _ | refine blk_drew ?_ | refine blk_alloc ?_ _)); refine blk_far ?_ NB199_200.out _; (with_reducible repeat (first | refine blk_drewN ?_ _ | refine blk_drew ?_ | refine blk_alloc ?_ _)); refine blk_far ?_ NB199_200.out _; (with_reducible repeat (first | refine blk_drewN ?_ _ | refine blk_drew ?_ | refine blk_alloc ?_ _)); refine blk_put (cs := #[.int .i64 t190, .int .i64 0]) ?_ 1 _ rfl; (with_reducible repeat (first | refine blk_drewN ?_ _ | refine blk_drew ?_ | refine blk_alloc ?_ _)); refine blk_put (cs := #[.int .i64 0, .int .i64 0]) ?_ 0 _ rfl; (with_reducible repeat (first | refine blk_drewN ?_ _ | refine blk_drew ?_ | refine blk_alloc ?_ _)); exact BK199.out⟩
  have n1_ : Aside0 (((((((w16.setCell ⟨gb199, 0, none⟩ (.int .i64 t190)).setCell ⟨gb199, 1, none⟩ (.int .i64 t191)).setCell ⟨gb200, 0, none⟩ (.int .i64 t193)).setCell ⟨gb200, 1, none⟩ (.int .i64 t194)).setCell ⟨gb201, 0, none⟩ (.int .i64 t196)).setCell ⟨gb201, 1, none⟩ (.int .i64 t197)).heap[gb200]? = some (.cells #[.int .i64 t193, .int .i64 t194] 24 (0, 0))) := ⟨by (with_reducible repeat (first | refine blk_drewN ?_ _ | refine blk_drew ?_ | refine blk_alloc ?_ _)); refine blk_far ?_ NB200_201.out _; (with_reducible repeat (first | refine blk_drewN ?_ _ | refine blk_drew ?_ | refine blk_alloc ?_ _)); refine blk_far ?_ NB200_201.out _; (with_reducible repeat (first | refine blk_drewN ?_ _ | refine blk_drew ?_ | refine blk_alloc ?_ _)); refine blk_put (cs := #[.int .i64 t193, .int .i64 0]) ?_ 1 _ rfl; (with_reducible repeat (first | refine blk_drewN ?_ _ | refine blk_drew ?_ | refine blk_alloc ?_ _)); refine blk_put (cs := #[.int .i64 0, .int .i64 0]) ?_ 0 _ rfl; (with_reducible repeat (first | refine blk_drewN ?_ _ | refine blk_drew ?_ | refine blk_alloc ?_ _)); refine blk_far ?_ NB200_199.out _; (with_reducible repeat (first | refine blk_drewN ?_ _ | refine blk_drew ?_ | refine blk_alloc ?_ _)); refine blk_far ?_ NB200_199.out _; (with_reducible repeat (first | refine blk_drewN ?_ _ | refine blk_drew ?_ | refine blk_alloc ?_ _)); exact BK200.out⟩
  have n2_ : Aside0 (((((((w16.setCell ⟨gb199, 0, none⟩ (.int .i64 t190)).setCell ⟨gb199, 1, none⟩ (.int .i64 t191)).setCell ⟨gb200, 0, none⟩ (.int .i64 t193)).setCell ⟨gb200, 1, none⟩ (.int .i64 t194)).setCell ⟨gb201, 0, none⟩ (.int .i64 t196)).setCell ⟨gb201, 1, none⟩ (.int .i64 t197)).heap[gb201]? = some (.cells #[.int .i64 t196, .int .i64 t197] 24 (0, 0))) := ⟨by (with_reducible repeat (first | refine blk_drewN ?_ _ | refine blk_drew ?_ | refine blk_alloc ?_ _)); refine blk_put (cs := #[.int .i64 t196, .int .i64 0]) ?_ 1 _ rfl; (with_reducible repeat (first | refine blk_drewN ?_ _ | refine blk_drew ?_ | refine blk_alloc ?_ _)); refine blk_put (cs := #[.int .i64 0, .int .i64 0]) ?_ 0 _ rfl; (with_reducible repeat (first | refine blk_drewN ?_ _ | refine blk_drew ?_ | refine blk_alloc ?_ _)); refine blk_far ?_ NB201_200.out _; (with_reducible repeat (first | refine blk_drewN ?_ _ | refine blk_drew ?_ | refine blk_alloc ?_ _)); refine blk_far ?_ NB201_200.out _; (with_reducible repeat (first | refine blk_drewN ?_ _ | refine blk_drew ?_ | refine blk_alloc ?_ _)); refine blk_far ?_ NB201_199.out _; (with_reducible repeat (first | refine blk_drewN ?_ _ | refine blk_drew ?_ | refine blk_alloc ?_ _)); refine blk_far ?_ NB201_199.out _; (with_reducible repeat (first | refine blk_drewN ?_ _ | refine blk_drew ?_ | refine blk_alloc ?_ _)); exact BK201.out⟩
  have n3_ : Aside0 (IsS54 w ((((((w16.setCell ⟨gb199, 0, none⟩ (.int .i64 t190)).setCell ⟨gb199, 1, none⟩ (.int .i64 t191)).setCell ⟨gb200, 0, none⟩ (.int .i64 t193)).setCell ⟨gb200, 1, none⟩ (.int .i64 t194)).setCell ⟨gb201, 0, none⟩ (.int .i64 t196)).setCell ⟨gb201, 1, none⟩ (.int .i64 t197)) g189 t187 t198) := ⟨by repeat (first | (with_reducible first | exact HI189.out | apply IsS54.alloc | apply IsS54.drewN | apply IsS54.drew | apply IsS54.set_1 | refine IsS54.far ?_ NB189_199.out _ | refine IsS54.far ?_ NB189_200.out _ | refine IsS54.far ?_ NB189_201.out _) | exact HI189.out)⟩
  have n4_ : Aside0 (Below w.heap.size w ((((((w16.setCell ⟨gb199, 0, none⟩ (.int .i64 t190)).setCell ⟨gb199, 1, none⟩ (.int .i64 t191)).setCell ⟨gb200, 0, none⟩ (.int .i64 t193)).setCell ⟨gb200, 1, none⟩ (.int .i64 t194)).setCell ⟨gb201, 0, none⟩ (.int .i64 t196)).setCell ⟨gb201, 1, none⟩ (.int .i64 t197))) := ⟨by repeat (first | (with_reducible first | exact HB.out | apply below_alloc | apply pw_below_drewN | apply below_drew1 | refine below_set ?_ (IsS54.ge HI189.out) | refine below_set ?_ GE199.out | refine below_set ?_ GE200.out | refine below_set ?_ GE201.out) | exact HB.out)⟩
  (try clear BK199)
  (try clear BK200)
  (try clear BK201)
  (try clear HI189)
  (try clear HB)
  generalize ((((((w16.setCell ⟨gb199, 0, none⟩ (.int .i64 t190)).setCell ⟨gb199, 1, none⟩ (.int .i64 t191)).setCell ⟨gb200, 0, none⟩ (.int .i64 t193)).setCell ⟨gb200, 1, none⟩ (.int .i64 t194)).setCell ⟨gb201, 0, none⟩ (.int .i64 t196)).setCell ⟨gb201, 1, none⟩ (.int .i64 t197)) = w26 at n0_ n1_ n2_ n3_ n4_ ⊢
  have BK199 := n0_
  have BK200 := n1_
  have BK201 := n2_
  have HI189 := n3_
  have HB := n4_
  clear n0_ n1_ n2_ n3_ n4_
  have n0_ := Aside0.mk (blk_drew BK199.out)
  have n1_ := Aside0.mk (blk_drew BK200.out)
  have n2_ := Aside0.mk (blk_drew BK201.out)
  have n3_ := Aside0.mk (IsS54.drew HI189.out)
  have n4_ := Aside0.mk (below_drew1 HB.out)
  clear BK199
  clear BK200
  clear BK201
  clear HI189
  clear HB
  have BK199 := n0_
  have BK200 := n1_
  have BK201 := n2_
  have HI189 := n3_
  have HB := n4_
  clear n0_ n1_ n2_ n3_ n4_
  refine start_ (n := 12) (S := fun w' => w'.cell? ⟨gb199, 0, none⟩ = some (.int .i64 t190) ∧ w'.cell? ⟨gb199, 1, none⟩ = some (.int .i64 t191) ∧ w'.cell? ⟨gb200, 0, none⟩ = some (.int .i64 t193) ∧ w'.cell? ⟨gb200, 1, none⟩ = some (.int .i64 t194) ∧ w'.cell? ⟨gb201, 0, none⟩ = some (.int .i64 t196) ∧ w'.cell? ⟨gb201, 1, none⟩ = some (.int .i64 t197)) (ds := []) #[false, false, false, false, false, false, false, false, false, false, false, false] (by kernel_rfl) rfl rfl ⟨(blk_cell BK199.out 0).trans rfl, (blk_cell BK199.out 1).trans rfl, (blk_cell BK200.out 0).trans rfl, (blk_cell BK200.out 1).trans rfl, (blk_cell BK201.out 0).trans rfl, (blk_cell BK201.out 1).trans rfl⟩ (fun hHeld => ?_); refine with_tabW shapesearchlaw01_RatioOrders.tab3 shapesearchlaw01_RatioOrders.bits3 (fun HT_ HW_ => ?_)
  generalize w26.drew = w27 at BK199 BK200 BK201 HI189 HB hHeld ⊢
  refine take_ (i := 0) (N := some 18) (v := ?_) (a' := ?_) #[true, false, false, false, false, false, false, false, false, false, false, false] rfl rfl (take_ofW HT_.out HW_.out (by kernel_rfl)) (fun _ _ _ h => h) (Or.inl ⟨by rfl, ?_⟩) hHeld ?_ ?_
  rotate_left
  · rintro w' ⟨s0, s1, s2, s3, s4, s5⟩
    go_simp
    with_reducible rfl
  rotate_left
  · simp only [Act.put, List.setIfInBounds_toArray, List.set_cons_zero, List.set_cons_succ, i64_w, i32_w]
    rfl
  refine take_ (i := 1) (N := some 19) (v := ?_) (a' := ?_) #[true, true, false, false, false, false, false, false, false, false, false, false] rfl rfl (take_ofW HT_.out HW_.out (by kernel_rfl)) (fun _ _ _ h => h) (Or.inl ⟨by rfl, ?_⟩) hHeld ?_ ?_
  rotate_left
  · rintro w' ⟨s0, s1, s2, s3, s4, s5⟩
    go_simp
    with_reducible rfl
  rotate_left
  · simp only [Act.put, List.setIfInBounds_toArray, List.set_cons_zero, List.set_cons_succ, i64_w, i32_w]
    rfl
  refine take_ (i := 3) (N := some 21) (v := ?_) (a' := ?_) #[true, true, false, true, false, false, false, false, false, false, false, false] rfl rfl (take_ofW HT_.out HW_.out (by kernel_rfl)) (fun _ _ _ h => h) (Or.inl ⟨by rfl, ?_⟩) hHeld ?_ ?_
  rotate_left
  · rintro w' ⟨s0, s1, s2, s3, s4, s5⟩
    go_simp
    with_reducible rfl
  rotate_left
  · simp only [Act.put, List.setIfInBounds_toArray, List.set_cons_zero, List.set_cons_succ, i64_w, i32_w]
    rfl
  refine take_ (i := 4) (N := some 22) (v := ?_) (a' := ?_) #[true, true, false, true, true, false, false, false, false, false, false, false] rfl rfl (take_ofW HT_.out HW_.out (by kernel_rfl)) (fun _ _ _ h => h) (Or.inl ⟨by rfl, ?_⟩) hHeld ?_ ?_
  rotate_left
  · rintro w' ⟨s0, s1, s2, s3, s4, s5⟩
    go_simp
    with_reducible rfl
  rotate_left
  · simp only [Act.put, List.setIfInBounds_toArray, List.set_cons_zero, List.set_cons_succ, i64_w, i32_w]
    rfl
  refine take_ (i := 6) (N := some 24) (v := ?_) (a' := ?_) #[true, true, false, true, true, false, true, false, false, false, false, false] rfl rfl (take_ofW HT_.out HW_.out (by kernel_rfl)) (fun _ _ _ h => h) (Or.inl ⟨by rfl, ?_⟩) hHeld ?_ ?_
  rotate_left
  · rintro w' ⟨s0, s1, s2, s3, s4, s5⟩
    go_simp
    with_reducible rfl
  rotate_left
  · simp only [Act.put, List.setIfInBounds_toArray, List.set_cons_zero, List.set_cons_succ, i64_w, i32_w]
    rfl
  refine take_ (i := 7) (N := some 25) (v := ?_) (a' := ?_) #[true, true, false, true, true, false, true, true, false, false, false, false] rfl rfl (take_ofW HT_.out HW_.out (by kernel_rfl)) (fun _ _ _ h => h) (Or.inl ⟨by rfl, ?_⟩) hHeld ?_ ?_
  rotate_left
  · rintro w' ⟨s0, s1, s2, s3, s4, s5⟩
    go_simp
    with_reducible rfl
  rotate_left
  · simp only [Act.put, List.setIfInBounds_toArray, List.set_cons_zero, List.set_cons_succ, i64_w, i32_w]
    rfl
  refine one_ (i := 2) (N := some 20) #[true, true, true, true, true, false, true, true, false, false, false, false] rfl rfl (one_of HT_.out (by kernel_rfl)) (by decide) (fun K hK => ?_)
  refine goes_ Tryd.func16 (by kernel_rfl) rfl #[.agg #[.int .i64 t190, .int .i64 t191], .agg #[.int .i64 t193, .int .i64 t194]] (by rfl) rfl rfl (by (try simp only [List.map_toArray, List.map_cons, List.map_nil]); first | done | rfl | (simp only [List.length_drop, List.length_take]; rfl)) ?_
  with_reducible refine (ratio_Cmp.calls k t190 t191 t193 t194 t202 _ A6.out).mono ?_
  rintro e w28 ⟨rfl, hb⟩
  refine ⟨_, rfl, ?_⟩
  have n0_ := Aside0.mk (IsS54.below (by repeat (first | (with_reducible first | exact HI189.out | apply IsS54.alloc | apply IsS54.drewN | apply IsS54.drew | apply IsS54.set_1 | refine IsS54.far ?_ NB189_199.out _ | refine IsS54.far ?_ NB189_200.out _ | refine IsS54.far ?_ NB189_201.out _) | exact HI189.out)) hb)
  have n1_ := Aside0.mk (blk_below (g := gb199) (o := .cells #[.int .i64 t190, .int .i64 t191] 24 (0, 0)) (by (with_reducible repeat (first | refine blk_drewN ?_ _ | refine blk_drew ?_ | refine blk_alloc ?_ _)); exact BK199.out) hb)
  have n2_ := Aside0.mk (blk_below (g := gb200) (o := .cells #[.int .i64 t193, .int .i64 t194] 24 (0, 0)) (by (with_reducible repeat (first | refine blk_drewN ?_ _ | refine blk_drew ?_ | refine blk_alloc ?_ _)); exact BK200.out) hb)
  have n3_ := Aside0.mk (blk_below (g := gb201) (o := .cells #[.int .i64 t196, .int .i64 t197] 24 (0, 0)) (by (with_reducible repeat (first | refine blk_drewN ?_ _ | refine blk_drew ?_ | refine blk_alloc ?_ _)); exact BK201.out) hb)
  have n4_ := Aside0.mk (below_step (by repeat (first | (with_reducible first | exact HB.out | apply below_alloc | apply pw_below_drewN | apply below_drew1 | refine below_set ?_ (IsS54.ge HI189.out) | refine below_set ?_ GE199.out | refine below_set ?_ GE200.out | refine below_set ?_ GE201.out) | exact HB.out)) hb)
  clear HI189
  clear BK199
  clear BK200
  clear BK201
  clear HB
  have HI189 := n0_
  have BK199 := n1_
  have BK200 := n2_
  have BK201 := n3_
  have HB := n4_
  clear n0_ n1_ n2_ n3_ n4_
  (try clear hb)
  (try clear hb2)
  (try clear hk)
  (try clear hi)
  refine hK.out _ _ ⟨(blk_cell BK199.out 0).trans rfl, (blk_cell BK199.out 1).trans rfl, (blk_cell BK200.out 0).trans rfl, (blk_cell BK200.out 1).trans rfl, (blk_cell BK201.out 0).trans rfl, (blk_cell BK201.out 1).trans rfl⟩ (fun hHeld => ?_)
  clear hK K
  refine norm_ (a' := ?_) ?_ ?_
  rotate_left
  · show Act.put _ (some 20) _ = _
    simp only [Act.put, List.setIfInBounds_toArray, List.set_cons_zero, List.set_cons_succ, i64_w, i32_w]
    rfl
  refine one_ (i := 5) (N := some 23) #[true, true, true, true, true, true, true, true, false, false, false, false] rfl rfl (one_of HT_.out (by kernel_rfl)) (by decide) (fun K hK => ?_)
  refine goes_ Tryd.func16 (by kernel_rfl) rfl #[.agg #[.int .i64 t193, .int .i64 t194], .agg #[.int .i64 t196, .int .i64 t197]] (by rfl) rfl rfl (by (try simp only [List.map_toArray, List.map_cons, List.map_nil]); first | done | rfl | (simp only [List.length_drop, List.length_take]; rfl)) ?_
  with_reducible refine (ratio_Cmp.calls k t193 t194 t196 t197 t203 _ A7.out).mono ?_
  rintro e w29 ⟨rfl, hb⟩
  refine ⟨_, rfl, ?_⟩
  have n0_ := Aside0.mk (IsS54.below (by repeat (first | (with_reducible first | exact HI189.out | apply IsS54.alloc | apply IsS54.drewN | apply IsS54.drew | apply IsS54.set_1 | refine IsS54.far ?_ NB189_199.out _ | refine IsS54.far ?_ NB189_200.out _ | refine IsS54.far ?_ NB189_201.out _) | exact HI189.out)) hb)
  have n1_ := Aside0.mk (blk_below (g := gb199) (o := .cells #[.int .i64 t190, .int .i64 t191] 24 (0, 0)) (by (with_reducible repeat (first | refine blk_drewN ?_ _ | refine blk_drew ?_ | refine blk_alloc ?_ _)); exact BK199.out) hb)
  have n2_ := Aside0.mk (blk_below (g := gb200) (o := .cells #[.int .i64 t193, .int .i64 t194] 24 (0, 0)) (by (with_reducible repeat (first | refine blk_drewN ?_ _ | refine blk_drew ?_ | refine blk_alloc ?_ _)); exact BK200.out) hb)
  have n3_ := Aside0.mk (blk_below (g := gb201) (o := .cells #[.int .i64 t196, .int .i64 t197] 24 (0, 0)) (by (with_reducible repeat (first | refine blk_drewN ?_ _ | refine blk_drew ?_ | refine blk_alloc ?_ _)); exact BK201.out) hb)
  have n4_ := Aside0.mk (below_step (by repeat (first | (with_reducible first | exact HB.out | apply below_alloc | apply pw_below_drewN | apply below_drew1 | refine below_set ?_ (IsS54.ge HI189.out) | refine below_set ?_ GE199.out | refine below_set ?_ GE200.out | refine below_set ?_ GE201.out) | exact HB.out)) hb)
  clear HI189
  clear BK199
  clear BK200
  clear BK201
  clear HB
  have HI189 := n0_
  have BK199 := n1_
  have BK200 := n2_
  have BK201 := n3_
  have HB := n4_
  clear n0_ n1_ n2_ n3_ n4_
  (try clear hb)
  (try clear hb2)
  (try clear hk)
  (try clear hi)
  refine hK.out _ _ ⟨(blk_cell BK199.out 0).trans rfl, (blk_cell BK199.out 1).trans rfl, (blk_cell BK200.out 0).trans rfl, (blk_cell BK200.out 1).trans rfl, (blk_cell BK201.out 0).trans rfl, (blk_cell BK201.out 1).trans rfl⟩ (fun hHeld => ?_)
  clear hK K
  refine norm_ (a' := ?_) ?_ ?_
  rotate_left
  · show Act.put _ (some 23) _ = _
    simp only [Act.put, List.setIfInBounds_toArray, List.set_cons_zero, List.set_cons_succ, i64_w, i32_w]
    rfl
  refine one_ (i := 8) (N := some 26) #[true, true, true, true, true, true, true, true, true, false, false, false] rfl rfl (one_of HT_.out (by kernel_rfl)) (by decide) (fun K hK => ?_)
  refine goes_ Tryd.func16 (by kernel_rfl) rfl #[.agg #[.int .i64 t190, .int .i64 t191], .agg #[.int .i64 t196, .int .i64 t197]] (by rfl) rfl rfl (by (try simp only [List.map_toArray, List.map_cons, List.map_nil]); first | done | rfl | (simp only [List.length_drop, List.length_take]; rfl)) ?_
  with_reducible refine (ratio_Cmp.calls k t190 t191 t196 t197 t204 _ A8.out).mono ?_
  rintro e w30 ⟨rfl, hb⟩
  refine ⟨_, rfl, ?_⟩
  have n0_ := Aside0.mk (IsS54.below (by repeat (first | (with_reducible first | exact HI189.out | apply IsS54.alloc | apply IsS54.drewN | apply IsS54.drew | apply IsS54.set_1 | refine IsS54.far ?_ NB189_199.out _ | refine IsS54.far ?_ NB189_200.out _ | refine IsS54.far ?_ NB189_201.out _) | exact HI189.out)) hb)
  have n1_ := Aside0.mk (blk_below (g := gb199) (o := .cells #[.int .i64 t190, .int .i64 t191] 24 (0, 0)) (by (with_reducible repeat (first | refine blk_drewN ?_ _ | refine blk_drew ?_ | refine blk_alloc ?_ _)); exact BK199.out) hb)
  have n2_ := Aside0.mk (blk_below (g := gb200) (o := .cells #[.int .i64 t193, .int .i64 t194] 24 (0, 0)) (by (with_reducible repeat (first | refine blk_drewN ?_ _ | refine blk_drew ?_ | refine blk_alloc ?_ _)); exact BK200.out) hb)
  have n3_ := Aside0.mk (blk_below (g := gb201) (o := .cells #[.int .i64 t196, .int .i64 t197] 24 (0, 0)) (by (with_reducible repeat (first | refine blk_drewN ?_ _ | refine blk_drew ?_ | refine blk_alloc ?_ _)); exact BK201.out) hb)
  have n4_ := Aside0.mk (below_step (by repeat (first | (with_reducible first | exact HB.out | apply below_alloc | apply pw_below_drewN | apply below_drew1 | refine below_set ?_ (IsS54.ge HI189.out) | refine below_set ?_ GE199.out | refine below_set ?_ GE200.out | refine below_set ?_ GE201.out) | exact HB.out)) hb)
  clear HI189
  clear BK199
  clear BK200
  clear BK201
  clear HB
  have HI189 := n0_
  have BK199 := n1_
  have BK200 := n2_
  have BK201 := n3_
  have HB := n4_
  clear n0_ n1_ n2_ n3_ n4_
  (try clear hb)
  (try clear hb2)
  (try clear hk)
  (try clear hi)
  refine hK.out _ _ ⟨(blk_cell BK199.out 0).trans rfl, (blk_cell BK199.out 1).trans rfl, (blk_cell BK200.out 0).trans rfl, (blk_cell BK200.out 1).trans rfl, (blk_cell BK201.out 0).trans rfl, (blk_cell BK201.out 1).trans rfl⟩ (fun hHeld => ?_)
  clear hK K
  refine norm_ (a' := ?_) ?_ ?_
  rotate_left
  · show Act.put _ (some 26) _ = _
    simp only [Act.put, List.setIfInBounds_toArray, List.set_cons_zero, List.set_cons_succ, i64_w, i32_w]
    rfl
  refine pure_ (i := 9) (N := some 7) (v := ?_) (a' := ?_) #[true, true, true, true, true, true, true, true, true, true, false, false] rfl rfl (any_of HT_.out (by kernel_rfl)) (fun _ _ _ h => h) (Or.inl ⟨by rfl, ?_⟩) ?_ ?_
  rotate_left
  · intro w'
    go_simp
    with_reducible rfl
  rotate_left
  · simp only [Act.put, List.setIfInBounds_toArray, List.set_cons_zero, List.set_cons_succ, i64_w, i32_w]
    rfl
  refine pure_ (i := 10) (N := some 8) (v := ?_) (a' := ?_) #[true, true, true, true, true, true, true, true, true, true, true, false] rfl rfl (any_of HT_.out (by kernel_rfl)) (fun _ _ _ h => h) (Or.inl ⟨by rfl, ?_⟩) ?_ ?_
  rotate_left
  · intro w'
    go_simp
    with_reducible rfl
  rotate_left
  · simp only [Act.put, List.setIfInBounds_toArray, List.set_cons_zero, List.set_cons_succ, i64_w, i32_w]
    rfl
  refine pure_ (i := 11) (N := some 9) (v := ?_) (a' := ?_) #[true, true, true, true, true, true, true, true, true, true, true, true] rfl rfl (any_of HT_.out (by kernel_rfl)) (fun _ _ _ h => h) (Or.inl ⟨by rfl, ?_⟩) ?_ ?_
  rotate_left
  · intro w'
    go_simp
    with_reducible rfl
  rotate_left
  · simp only [Act.put, List.setIfInBounds_toArray, List.set_cons_zero, List.set_cons_succ, i64_w, i32_w]
    rfl
  refine done_ (done_of HT_.out (by kernel_rfl)) ?_
  go_upto_region 4 with (fail)
  go_cut [72] (fun v72 wc => ∃ (kq : Nat) (x72_8 : Bool), v72 = .bool x72_8 ∧ Aside0 (shapesearchlaw01_RatioOrders.j0 kq x72_8 t190 t191 = some r) ∧ Aside0 (kq ≤ k) ∧ Aside0 (wc.heap[gb199]? = some (.cells #[.int .i64 t190, .int .i64 t191] 24 (0, 0))) ∧ Aside0 (wc.heap[gb200]? = some (.cells #[.int .i64 t193, .int .i64 t194] 24 (0, 0))) ∧ Aside0 (wc.heap[gb201]? = some (.cells #[.int .i64 t196, .int .i64 t197] 24 (0, 0))) ∧ Aside0 (Below w.heap.size w wc))
  case first =>
    have H := HC9.out
    clear HC9
    replace H := Option.bind_eq_some_iff.mp H
    obtain ⟨t205, A310, H⟩ := H
    replace H : (if t202 = (wrap64 (-t205)) then (if ((t202 == 0) != (t190 == t193 && (t191 == t194))) = true then (shapesearchlaw01_RatioOrders.j0 k true t190 t191) else ((ratio_Less.f k t190 t191 t193 t194).bind fun t206 => (if (t206 != (decide (t202 < 0))) = true then (shapesearchlaw01_RatioOrders.j0 k true t190 t191) else (if t202 ≤ 0 then (if t203 ≤ 0 then (if t204 > 0 then (shapesearchlaw01_RatioOrders.j0 k true t190 t191) else (if t202 ≥ 0 then (if t203 ≥ 0 then (shapesearchlaw01_RatioOrders.j0 k (decide (t204 < 0)) t190 t191) else (shapesearchlaw01_RatioOrders.j0 k false t190 t191)) else (shapesearchlaw01_RatioOrders.j0 k false t190 t191))) else (if t202 ≥ 0 then (if t203 ≥ 0 then (shapesearchlaw01_RatioOrders.j0 k (decide (t204 < 0)) t190 t191) else (shapesearchlaw01_RatioOrders.j0 k false t190 t191)) else (shapesearchlaw01_RatioOrders.j0 k false t190 t191))) else (if t202 ≥ 0 then (if t203 ≥ 0 then (shapesearchlaw01_RatioOrders.j0 k (decide (t204 < 0)) t190 t191) else (shapesearchlaw01_RatioOrders.j0 k false t190 t191)) else (shapesearchlaw01_RatioOrders.j0 k false t190 t191)))))) else (shapesearchlaw01_RatioOrders.j0 k true t190 t191)) = some r := H
    have A31 := Aside0.mk A310
    clear A310
    by_cases c32 : t202 = (wrap64 (-t205))
    · rw [if_pos c32] at H
      have c32b0 : (t202 == (wrap64 (-t205))) = true := beq_iff_eq.mpr c32
      have c32b1 : (t202 != (wrap64 (-t205))) = false := bne_eq_false_iff_eq.mpr c32
      clear c32
      (first | rw [c32b0] | (simp only [i64_w, i32_w]; rw [c32b0]) | rw [c32b1] | skip)
      by_cases c33 : ((t202 == 0) != (t190 == t193 && (t191 == t194))) = true
      · rw [if_pos c33] at H
        have c33b0 : ((t202 == 0) != (t190 == t193 && (t191 == t194))) = true := c33
        (try (have c33b1 : decide ((t202 == 0) = (t190 == t193 && (t191 == t194))) = false := by simpa using c33))
        (try (have c33b2 : ((t202 == 0) == (t190 == t193 && (t191 == t194))) = false := by simpa using c33))
        (try (have c33b3 : ¬ ((t202 == 0) = (t190 == t193 && (t191 == t194))) := by simpa using c33))
        clear c33
        have H' := Aside0.mk H
        clear H
        have hnb34 := NB200_199.out
        have hnc34 := NB199_200.out
        have hnb35 := NB200_201.out
        have hnc35 := NB201_200.out
        have hnb36 := NB200_189.out
        have hnc36 := NB189_200.out
        have hcz37_0 : w30.cell? ⟨gb200, 0, none⟩ = some (.int .i64 t193) := (blk_cell BK200.out 0).trans rfl
        have hcz37_1 : w30.cell? ⟨gb200, 1, none⟩ = some (.int .i64 t194) := (blk_cell BK200.out 1).trans rfl
        have hfz37_0 := blk_frozen BK200.out 0
        have hfz37_1 := blk_frozen BK200.out 1
        have hnb38 := NB199_201.out
        have hnc38 := NB201_199.out
        have hnb39 := NB199_189.out
        have hnc39 := NB189_199.out
        have hcz40_0 : w30.cell? ⟨gb199, 0, none⟩ = some (.int .i64 t190) := (blk_cell BK199.out 0).trans rfl
        have hcz40_1 : w30.cell? ⟨gb199, 1, none⟩ = some (.int .i64 t191) := (blk_cell BK199.out 1).trans rfl
        have hfz40_0 := blk_frozen BK199.out 0
        have hfz40_1 := blk_frozen BK199.out 1
        go_wp2_with (first | ((with_reducible refine gate_callee (f := 16) rfl ?_); refine goesL_ (some 30) rfl rfl Tryd.func16 (by kernel_rfl) rfl #[.agg #[.int .i64 t193, .int .i64 t194], .agg #[.int .i64 t190, .int .i64 t191]] rfl (by (try simp only [List.map_toArray, List.map_cons, List.map_nil]); first | done | rfl | (simp only [List.length_drop, List.length_take]; rfl)) ?_; (with_reducible refine (ratio_Cmp.calls k t193 t194 t190 t191 t205 _ A31.out).mono ?_); rintro e w41 ⟨rfl, hb⟩; refine ⟨_, rfl, ?_⟩; have n0_ := Aside0.mk (IsS54.below (by repeat (first | (with_reducible first | exact HI189.out | apply IsS54.alloc | apply IsS54.drewN | apply IsS54.drew | apply IsS54.set_1 | refine IsS54.far ?_ NB189_199.out _ | refine IsS54.far ?_ NB189_200.out _ | refine IsS54.far ?_ NB189_201.out _) | exact HI189.out)) hb); have n1_ := Aside0.mk (blk_below (g := gb199) (o := .cells #[.int .i64 t190, .int .i64 t191] 24 (0, 0)) (by (with_reducible repeat (first | refine blk_drewN ?_ _ | refine blk_drew ?_ | refine blk_alloc ?_ _)); exact BK199.out) hb); have n2_ := Aside0.mk (blk_below (g := gb200) (o := .cells #[.int .i64 t193, .int .i64 t194] 24 (0, 0)) (by (with_reducible repeat (first | refine blk_drewN ?_ _ | refine blk_drew ?_ | refine blk_alloc ?_ _)); exact BK200.out) hb); have n3_ := Aside0.mk (blk_below (g := gb201) (o := .cells #[.int .i64 t196, .int .i64 t197] 24 (0, 0)) (by (with_reducible repeat (first | refine blk_drewN ?_ _ | refine blk_drew ?_ | refine blk_alloc ?_ _)); exact BK201.out) hb); have n4_ := Aside0.mk (below_step (by repeat (first | (with_reducible first | exact HB.out | apply below_alloc | apply pw_below_drewN | apply below_drew1 | refine below_set ?_ (IsS54.ge HI189.out) | refine below_set ?_ GE199.out | refine below_set ?_ GE200.out | refine below_set ?_ GE201.out) | exact HB.out)) hb); clear HI189; clear BK199; clear BK200; clear BK201; clear HB; have HI189 := n0_; have BK199 := n1_; have BK200 := n2_; have BK201 := n3_; have HB := n4_; clear n0_ n1_ n2_ n3_ n4_; (try clear hb); (try clear hb2); (try clear hk); (try clear hi); have hcz42_0 : w41.cell? ⟨gb199, 0, none⟩ = some (.int .i64 t190) := (blk_cell BK199.out 0).trans rfl; have hcz42_1 : w41.cell? ⟨gb199, 1, none⟩ = some (.int .i64 t191) := (blk_cell BK199.out 1).trans rfl; have hfz42_0 := blk_frozen BK199.out 0; have hfz42_1 := blk_frozen BK199.out 1; have hcz43_0 : w41.cell? ⟨gb200, 0, none⟩ = some (.int .i64 t193) := (blk_cell BK200.out 0).trans rfl; have hcz43_1 : w41.cell? ⟨gb200, 1, none⟩ = some (.int .i64 t194) := (blk_cell BK200.out 1).trans rfl; have hfz43_0 := blk_frozen BK200.out 0; have hfz43_1 := blk_frozen BK200.out 1))
        go_meet
        case rel => exact ⟨_, (true), (by first | rfl | (simp; done) | (simp [*]; done)), H', ⟨by first | omega | exact Nat.le_refl _⟩, ⟨by (with_reducible repeat (first | refine blk_drewN ?_ _ | refine blk_drew ?_ | refine blk_alloc ?_ _)); exact BK199.out⟩, ⟨by (with_reducible repeat (first | refine blk_drewN ?_ _ | refine blk_drew ?_ | refine blk_alloc ?_ _)); exact BK200.out⟩, ⟨by (with_reducible repeat (first | refine blk_drewN ?_ _ | refine blk_drew ?_ | refine blk_alloc ?_ _)); exact BK201.out⟩, ⟨by repeat (first | (with_reducible first | exact HB.out | apply below_alloc | apply pw_below_drewN | apply below_drew1 | refine below_set ?_ (IsS54.ge HI189.out) | refine below_set ?_ GE199.out | refine below_set ?_ GE200.out | refine below_set ?_ GE201.out) | exact HB.out)⟩⟩
      · rw [if_neg c33] at H
        have c33b0 : ((t202 == 0) != (t190 == t193 && (t191 == t194))) = false := by simpa using c33
        (try (have c33b1 : decide ((t202 == 0) = (t190 == t193 && (t191 == t194))) = true := by simpa using c33))
        (try (have c33b2 : ((t202 == 0) == (t190 == t193 && (t191 == t194))) = true := by simpa using c33))
        clear c33
        replace H := Option.bind_eq_some_iff.mp H
        obtain ⟨t206, A440, H⟩ := H
        replace H : (if (t206 != (decide (t202 < 0))) = true then (shapesearchlaw01_RatioOrders.j0 k true t190 t191) else (if t202 ≤ 0 then (if t203 ≤ 0 then (if t204 > 0 then (shapesearchlaw01_RatioOrders.j0 k true t190 t191) else (if t202 ≥ 0 then (if t203 ≥ 0 then (shapesearchlaw01_RatioOrders.j0 k (decide (t204 < 0)) t190 t191) else (shapesearchlaw01_RatioOrders.j0 k false t190 t191)) else (shapesearchlaw01_RatioOrders.j0 k false t190 t191))) else (if t202 ≥ 0 then (if t203 ≥ 0 then (shapesearchlaw01_RatioOrders.j0 k (decide (t204 < 0)) t190 t191) else (shapesearchlaw01_RatioOrders.j0 k false t190 t191)) else (shapesearchlaw01_RatioOrders.j0 k false t190 t191))) else (if t202 ≥ 0 then (if t203 ≥ 0 then (shapesearchlaw01_RatioOrders.j0 k (decide (t204 < 0)) t190 t191) else (shapesearchlaw01_RatioOrders.j0 k false t190 t191)) else (shapesearchlaw01_RatioOrders.j0 k false t190 t191)))) = some r := H
        have A44 := Aside0.mk A440
        clear A440
        by_cases c45 : (t206 != (decide (t202 < 0))) = true
        · rw [if_pos c45] at H
          have c45b0 : (t206 != (decide (t202 < 0))) = true := c45
          (try (have c45b1 : decide (t206 = (decide (t202 < 0))) = false := by simpa using c45))
          (try (have c45b2 : (t206 == (decide (t202 < 0))) = false := by simpa using c45))
          (try (have c45b3 : ¬ (t206 = (decide (t202 < 0))) := by simpa using c45))
          clear c45
          have H' := Aside0.mk H
          clear H
          have hnb46 := NB200_199.out
          have hnc46 := NB199_200.out
          have hnb47 := NB200_201.out
          have hnc47 := NB201_200.out
          have hnb48 := NB200_189.out
          have hnc48 := NB189_200.out
          have hcz49_0 : w30.cell? ⟨gb200, 0, none⟩ = some (.int .i64 t193) := (blk_cell BK200.out 0).trans rfl
          have hcz49_1 : w30.cell? ⟨gb200, 1, none⟩ = some (.int .i64 t194) := (blk_cell BK200.out 1).trans rfl
          have hfz49_0 := blk_frozen BK200.out 0
          have hfz49_1 := blk_frozen BK200.out 1
          have hnb50 := NB199_201.out
          have hnc50 := NB201_199.out
          have hnb51 := NB199_189.out
          have hnc51 := NB189_199.out
          have hcz52_0 : w30.cell? ⟨gb199, 0, none⟩ = some (.int .i64 t190) := (blk_cell BK199.out 0).trans rfl
          have hcz52_1 : w30.cell? ⟨gb199, 1, none⟩ = some (.int .i64 t191) := (blk_cell BK199.out 1).trans rfl
          have hfz52_0 := blk_frozen BK199.out 0
          have hfz52_1 := blk_frozen BK199.out 1
          go_wp2_with (first | ((with_reducible refine gate_callee (f := 16) rfl ?_); refine goesL_ (some 30) rfl rfl Tryd.func16 (by kernel_rfl) rfl #[.agg #[.int .i64 t193, .int .i64 t194], .agg #[.int .i64 t190, .int .i64 t191]] rfl (by (try simp only [List.map_toArray, List.map_cons, List.map_nil]); first | done | rfl | (simp only [List.length_drop, List.length_take]; rfl)) ?_; (with_reducible refine (ratio_Cmp.calls k t193 t194 t190 t191 t205 _ A31.out).mono ?_); rintro e w53 ⟨rfl, hb⟩; refine ⟨_, rfl, ?_⟩; have n0_ := Aside0.mk (IsS54.below (by repeat (first | (with_reducible first | exact HI189.out | apply IsS54.alloc | apply IsS54.drewN | apply IsS54.drew | apply IsS54.set_1 | refine IsS54.far ?_ NB189_199.out _ | refine IsS54.far ?_ NB189_200.out _ | refine IsS54.far ?_ NB189_201.out _) | exact HI189.out)) hb); have n1_ := Aside0.mk (blk_below (g := gb199) (o := .cells #[.int .i64 t190, .int .i64 t191] 24 (0, 0)) (by (with_reducible repeat (first | refine blk_drewN ?_ _ | refine blk_drew ?_ | refine blk_alloc ?_ _)); exact BK199.out) hb); have n2_ := Aside0.mk (blk_below (g := gb200) (o := .cells #[.int .i64 t193, .int .i64 t194] 24 (0, 0)) (by (with_reducible repeat (first | refine blk_drewN ?_ _ | refine blk_drew ?_ | refine blk_alloc ?_ _)); exact BK200.out) hb); have n3_ := Aside0.mk (blk_below (g := gb201) (o := .cells #[.int .i64 t196, .int .i64 t197] 24 (0, 0)) (by (with_reducible repeat (first | refine blk_drewN ?_ _ | refine blk_drew ?_ | refine blk_alloc ?_ _)); exact BK201.out) hb); have n4_ := Aside0.mk (below_step (by repeat (first | (with_reducible first | exact HB.out | apply below_alloc | apply pw_below_drewN | apply below_drew1 | refine below_set ?_ (IsS54.ge HI189.out) | refine below_set ?_ GE199.out | refine below_set ?_ GE200.out | refine below_set ?_ GE201.out) | exact HB.out)) hb); clear HI189; clear BK199; clear BK200; clear BK201; clear HB; have HI189 := n0_; have BK199 := n1_; have BK200 := n2_; have BK201 := n3_; have HB := n4_; clear n0_ n1_ n2_ n3_ n4_; (try clear hb); (try clear hb2); (try clear hk); (try clear hi); have hcz54_0 : w53.cell? ⟨gb199, 0, none⟩ = some (.int .i64 t190) := (blk_cell BK199.out 0).trans rfl; have hcz54_1 : w53.cell? ⟨gb199, 1, none⟩ = some (.int .i64 t191) := (blk_cell BK199.out 1).trans rfl; have hfz54_0 := blk_frozen BK199.out 0; have hfz54_1 := blk_frozen BK199.out 1; have hcz55_0 : w53.cell? ⟨gb200, 0, none⟩ = some (.int .i64 t193) := (blk_cell BK200.out 0).trans rfl; have hcz55_1 : w53.cell? ⟨gb200, 1, none⟩ = some (.int .i64 t194) := (blk_cell BK200.out 1).trans rfl; have hfz55_0 := blk_frozen BK200.out 0; have hfz55_1 := blk_frozen BK200.out 1) | (go_at_call 17; (with_reducible refine (ratio_Less.calls k t190 t191 t193 t194 t206 _ A44.out).mono ?_); rintro e w56 ⟨rfl, hb⟩; have n0_ := Aside0.mk (IsS54.below (by repeat (first | (with_reducible first | exact HI189.out | apply IsS54.alloc | apply IsS54.drewN | apply IsS54.drew | apply IsS54.set_1 | refine IsS54.far ?_ NB189_199.out _ | refine IsS54.far ?_ NB189_200.out _ | refine IsS54.far ?_ NB189_201.out _) | exact HI189.out)) hb); have n1_ := Aside0.mk (blk_below (g := gb199) (o := .cells #[.int .i64 t190, .int .i64 t191] 24 (0, 0)) (by (with_reducible repeat (first | refine blk_drewN ?_ _ | refine blk_drew ?_ | refine blk_alloc ?_ _)); exact BK199.out) hb); have n2_ := Aside0.mk (blk_below (g := gb200) (o := .cells #[.int .i64 t193, .int .i64 t194] 24 (0, 0)) (by (with_reducible repeat (first | refine blk_drewN ?_ _ | refine blk_drew ?_ | refine blk_alloc ?_ _)); exact BK200.out) hb); have n3_ := Aside0.mk (blk_below (g := gb201) (o := .cells #[.int .i64 t196, .int .i64 t197] 24 (0, 0)) (by (with_reducible repeat (first | refine blk_drewN ?_ _ | refine blk_drew ?_ | refine blk_alloc ?_ _)); exact BK201.out) hb); have n4_ := Aside0.mk (below_step (by repeat (first | (with_reducible first | exact HB.out | apply below_alloc | apply pw_below_drewN | apply below_drew1 | refine below_set ?_ (IsS54.ge HI189.out) | refine below_set ?_ GE199.out | refine below_set ?_ GE200.out | refine below_set ?_ GE201.out) | exact HB.out)) hb); clear HI189; clear BK199; clear BK200; clear BK201; clear HB; have HI189 := n0_; have BK199 := n1_; have BK200 := n2_; have BK201 := n3_; have HB := n4_; clear n0_ n1_ n2_ n3_ n4_; (try clear hb); (try clear hb2); (try clear hk); (try clear hi)))
          go_meet
          case rel => exact ⟨_, (true), (by first | rfl | (simp; done) | (simp [*]; done)), H', ⟨by first | omega | exact Nat.le_refl _⟩, ⟨by (with_reducible repeat (first | refine blk_drewN ?_ _ | refine blk_drew ?_ | refine blk_alloc ?_ _)); exact BK199.out⟩, ⟨by (with_reducible repeat (first | refine blk_drewN ?_ _ | refine blk_drew ?_ | refine blk_alloc ?_ _)); exact BK200.out⟩, ⟨by (with_reducible repeat (first | refine blk_drewN ?_ _ | refine blk_drew ?_ | refine blk_alloc ?_ _)); exact BK201.out⟩, ⟨by repeat (first | (with_reducible first | exact HB.out | apply below_alloc | apply pw_below_drewN | apply below_drew1 | refine below_set ?_ (IsS54.ge HI189.out) | refine below_set ?_ GE199.out | refine below_set ?_ GE200.out | refine below_set ?_ GE201.out) | exact HB.out)⟩⟩
        · rw [if_neg c45] at H
          have c45b0 : (t206 != (decide (t202 < 0))) = false := by simpa using c45
          (try (have c45b1 : decide (t206 = (decide (t202 < 0))) = true := by simpa using c45))
          (try (have c45b2 : (t206 == (decide (t202 < 0))) = true := by simpa using c45))
          clear c45
          by_cases c57 : t202 ≤ 0
          · rw [if_pos c57] at H
            have c57b0 : decide (t202 ≤ 0) = true := decide_eq_true c57
            clear c57
            by_cases c58 : t203 ≤ 0
            · rw [if_pos c58] at H
              have c58b0 : decide (t203 ≤ 0) = true := decide_eq_true c58
              clear c58
              by_cases c59 : t204 > 0
              · rw [if_pos c59] at H
                have c59b0 : decide (0 < t204) = true := decide_eq_true c59
                clear c59
                have H' := Aside0.mk H
                clear H
                have hnb60 := NB200_199.out
                have hnc60 := NB199_200.out
                have hnb61 := NB200_201.out
                have hnc61 := NB201_200.out
                have hnb62 := NB200_189.out
                have hnc62 := NB189_200.out
                have hcz63_0 : w30.cell? ⟨gb200, 0, none⟩ = some (.int .i64 t193) := (blk_cell BK200.out 0).trans rfl
                have hcz63_1 : w30.cell? ⟨gb200, 1, none⟩ = some (.int .i64 t194) := (blk_cell BK200.out 1).trans rfl
                have hfz63_0 := blk_frozen BK200.out 0
                have hfz63_1 := blk_frozen BK200.out 1
                have hnb64 := NB199_201.out
                have hnc64 := NB201_199.out
                have hnb65 := NB199_189.out
                have hnc65 := NB189_199.out
                have hcz66_0 : w30.cell? ⟨gb199, 0, none⟩ = some (.int .i64 t190) := (blk_cell BK199.out 0).trans rfl
                have hcz66_1 : w30.cell? ⟨gb199, 1, none⟩ = some (.int .i64 t191) := (blk_cell BK199.out 1).trans rfl
                have hfz66_0 := blk_frozen BK199.out 0
                have hfz66_1 := blk_frozen BK199.out 1
                go_wp2_with (first | ((with_reducible refine gate_callee (f := 16) rfl ?_); refine goesL_ (some 30) rfl rfl Tryd.func16 (by kernel_rfl) rfl #[.agg #[.int .i64 t193, .int .i64 t194], .agg #[.int .i64 t190, .int .i64 t191]] rfl (by (try simp only [List.map_toArray, List.map_cons, List.map_nil]); first | done | rfl | (simp only [List.length_drop, List.length_take]; rfl)) ?_; (with_reducible refine (ratio_Cmp.calls k t193 t194 t190 t191 t205 _ A31.out).mono ?_); rintro e w67 ⟨rfl, hb⟩; refine ⟨_, rfl, ?_⟩; have n0_ := Aside0.mk (IsS54.below (by repeat (first | (with_reducible first | exact HI189.out | apply IsS54.alloc | apply IsS54.drewN | apply IsS54.drew | apply IsS54.set_1 | refine IsS54.far ?_ NB189_199.out _ | refine IsS54.far ?_ NB189_200.out _ | refine IsS54.far ?_ NB189_201.out _) | exact HI189.out)) hb); have n1_ := Aside0.mk (blk_below (g := gb199) (o := .cells #[.int .i64 t190, .int .i64 t191] 24 (0, 0)) (by (with_reducible repeat (first | refine blk_drewN ?_ _ | refine blk_drew ?_ | refine blk_alloc ?_ _)); exact BK199.out) hb); have n2_ := Aside0.mk (blk_below (g := gb200) (o := .cells #[.int .i64 t193, .int .i64 t194] 24 (0, 0)) (by (with_reducible repeat (first | refine blk_drewN ?_ _ | refine blk_drew ?_ | refine blk_alloc ?_ _)); exact BK200.out) hb); have n3_ := Aside0.mk (blk_below (g := gb201) (o := .cells #[.int .i64 t196, .int .i64 t197] 24 (0, 0)) (by (with_reducible repeat (first | refine blk_drewN ?_ _ | refine blk_drew ?_ | refine blk_alloc ?_ _)); exact BK201.out) hb); have n4_ := Aside0.mk (below_step (by repeat (first | (with_reducible first | exact HB.out | apply below_alloc | apply pw_below_drewN | apply below_drew1 | refine below_set ?_ (IsS54.ge HI189.out) | refine below_set ?_ GE199.out | refine below_set ?_ GE200.out | refine below_set ?_ GE201.out) | exact HB.out)) hb); clear HI189; clear BK199; clear BK200; clear BK201; clear HB; have HI189 := n0_; have BK199 := n1_; have BK200 := n2_; have BK201 := n3_; have HB := n4_; clear n0_ n1_ n2_ n3_ n4_; (try clear hb); (try clear hb2); (try clear hk); (try clear hi); have hcz68_0 : w67.cell? ⟨gb199, 0, none⟩ = some (.int .i64 t190) := (blk_cell BK199.out 0).trans rfl; have hcz68_1 : w67.cell? ⟨gb199, 1, none⟩ = some (.int .i64 t191) := (blk_cell BK199.out 1).trans rfl; have hfz68_0 := blk_frozen BK199.out 0; have hfz68_1 := blk_frozen BK199.out 1; have hcz69_0 : w67.cell? ⟨gb200, 0, none⟩ = some (.int .i64 t193) := (blk_cell BK200.out 0).trans rfl; have hcz69_1 : w67.cell? ⟨gb200, 1, none⟩ = some (.int .i64 t194) := (blk_cell BK200.out 1).trans rfl; have hfz69_0 := blk_frozen BK200.out 0; have hfz69_1 := blk_frozen BK200.out 1) | (go_at_call 17; (with_reducible refine (ratio_Less.calls k t190 t191 t193 t194 t206 _ A44.out).mono ?_); rintro e w70 ⟨rfl, hb⟩; have n0_ := Aside0.mk (IsS54.below (by repeat (first | (with_reducible first | exact HI189.out | apply IsS54.alloc | apply IsS54.drewN | apply IsS54.drew | apply IsS54.set_1 | refine IsS54.far ?_ NB189_199.out _ | refine IsS54.far ?_ NB189_200.out _ | refine IsS54.far ?_ NB189_201.out _) | exact HI189.out)) hb); have n1_ := Aside0.mk (blk_below (g := gb199) (o := .cells #[.int .i64 t190, .int .i64 t191] 24 (0, 0)) (by (with_reducible repeat (first | refine blk_drewN ?_ _ | refine blk_drew ?_ | refine blk_alloc ?_ _)); exact BK199.out) hb); have n2_ := Aside0.mk (blk_below (g := gb200) (o := .cells #[.int .i64 t193, .int .i64 t194] 24 (0, 0)) (by (with_reducible repeat (first | refine blk_drewN ?_ _ | refine blk_drew ?_ | refine blk_alloc ?_ _)); exact BK200.out) hb); have n3_ := Aside0.mk (blk_below (g := gb201) (o := .cells #[.int .i64 t196, .int .i64 t197] 24 (0, 0)) (by (with_reducible repeat (first | refine blk_drewN ?_ _ | refine blk_drew ?_ | refine blk_alloc ?_ _)); exact BK201.out) hb); have n4_ := Aside0.mk (below_step (by repeat (first | (with_reducible first | exact HB.out | apply below_alloc | apply pw_below_drewN | apply below_drew1 | refine below_set ?_ (IsS54.ge HI189.out) | refine below_set ?_ GE199.out | refine below_set ?_ GE200.out | refine below_set ?_ GE201.out) | exact HB.out)) hb); clear HI189; clear BK199; clear BK200; clear BK201; clear HB; have HI189 := n0_; have BK199 := n1_; have BK200 := n2_; have BK201 := n3_; have HB := n4_; clear n0_ n1_ n2_ n3_ n4_; (try clear hb); (try clear hb2); (try clear hk); (try clear hi)))
                go_meet
                case rel => exact ⟨_, (true), (by first | rfl | (simp; done) | (simp [*]; done)), H', ⟨by first | omega | exact Nat.le_refl _⟩, ⟨by (with_reducible repeat (first | refine blk_drewN ?_ _ | refine blk_drew ?_ | refine blk_alloc ?_ _)); exact BK199.out⟩, ⟨by (with_reducible repeat (first | refine blk_drewN ?_ _ | refine blk_drew ?_ | refine blk_alloc ?_ _)); exact BK200.out⟩, ⟨by (with_reducible repeat (first | refine blk_drewN ?_ _ | refine blk_drew ?_ | refine blk_alloc ?_ _)); exact BK201.out⟩, ⟨by repeat (first | (with_reducible first | exact HB.out | apply below_alloc | apply pw_below_drewN | apply below_drew1 | refine below_set ?_ (IsS54.ge HI189.out) | refine below_set ?_ GE199.out | refine below_set ?_ GE200.out | refine below_set ?_ GE201.out) | exact HB.out)⟩⟩
              · rw [if_neg c59] at H
                have c59b0 : decide (0 < t204) = false := decide_eq_false c59
                clear c59
                by_cases c71 : t202 ≥ 0
                · rw [if_pos c71] at H
                  have c71b0 : decide (0 ≤ t202) = true := decide_eq_true c71
                  clear c71
                  by_cases c72 : t203 ≥ 0
                  · rw [if_pos c72] at H
                    have c72b0 : decide (0 ≤ t203) = true := decide_eq_true c72
                    clear c72
                    have H' := Aside0.mk H
                    clear H
                    have hnb73 := NB200_199.out
                    have hnc73 := NB199_200.out
                    have hnb74 := NB200_201.out
                    have hnc74 := NB201_200.out
                    have hnb75 := NB200_189.out
                    have hnc75 := NB189_200.out
                    have hcz76_0 : w30.cell? ⟨gb200, 0, none⟩ = some (.int .i64 t193) := (blk_cell BK200.out 0).trans rfl
                    have hcz76_1 : w30.cell? ⟨gb200, 1, none⟩ = some (.int .i64 t194) := (blk_cell BK200.out 1).trans rfl
                    have hfz76_0 := blk_frozen BK200.out 0
                    have hfz76_1 := blk_frozen BK200.out 1
                    have hnb77 := NB199_201.out
                    have hnc77 := NB201_199.out
                    have hnb78 := NB199_189.out
                    have hnc78 := NB189_199.out
                    have hcz79_0 : w30.cell? ⟨gb199, 0, none⟩ = some (.int .i64 t190) := (blk_cell BK199.out 0).trans rfl
                    have hcz79_1 : w30.cell? ⟨gb199, 1, none⟩ = some (.int .i64 t191) := (blk_cell BK199.out 1).trans rfl
                    have hfz79_0 := blk_frozen BK199.out 0
                    have hfz79_1 := blk_frozen BK199.out 1
                    go_wp2_with (first | ((with_reducible refine gate_callee (f := 16) rfl ?_); refine goesL_ (some 30) rfl rfl Tryd.func16 (by kernel_rfl) rfl #[.agg #[.int .i64 t193, .int .i64 t194], .agg #[.int .i64 t190, .int .i64 t191]] rfl (by (try simp only [List.map_toArray, List.map_cons, List.map_nil]); first | done | rfl | (simp only [List.length_drop, List.length_take]; rfl)) ?_; (with_reducible refine (ratio_Cmp.calls k t193 t194 t190 t191 t205 _ A31.out).mono ?_); rintro e w80 ⟨rfl, hb⟩; refine ⟨_, rfl, ?_⟩; have n0_ := Aside0.mk (IsS54.below (by repeat (first | (with_reducible first | exact HI189.out | apply IsS54.alloc | apply IsS54.drewN | apply IsS54.drew | apply IsS54.set_1 | refine IsS54.far ?_ NB189_199.out _ | refine IsS54.far ?_ NB189_200.out _ | refine IsS54.far ?_ NB189_201.out _) | exact HI189.out)) hb); have n1_ := Aside0.mk (blk_below (g := gb199) (o := .cells #[.int .i64 t190, .int .i64 t191] 24 (0, 0)) (by (with_reducible repeat (first | refine blk_drewN ?_ _ | refine blk_drew ?_ | refine blk_alloc ?_ _)); exact BK199.out) hb); have n2_ := Aside0.mk (blk_below (g := gb200) (o := .cells #[.int .i64 t193, .int .i64 t194] 24 (0, 0)) (by (with_reducible repeat (first | refine blk_drewN ?_ _ | refine blk_drew ?_ | refine blk_alloc ?_ _)); exact BK200.out) hb); have n3_ := Aside0.mk (blk_below (g := gb201) (o := .cells #[.int .i64 t196, .int .i64 t197] 24 (0, 0)) (by (with_reducible repeat (first | refine blk_drewN ?_ _ | refine blk_drew ?_ | refine blk_alloc ?_ _)); exact BK201.out) hb); have n4_ := Aside0.mk (below_step (by repeat (first | (with_reducible first | exact HB.out | apply below_alloc | apply pw_below_drewN | apply below_drew1 | refine below_set ?_ (IsS54.ge HI189.out) | refine below_set ?_ GE199.out | refine below_set ?_ GE200.out | refine below_set ?_ GE201.out) | exact HB.out)) hb); clear HI189; clear BK199; clear BK200; clear BK201; clear HB; have HI189 := n0_; have BK199 := n1_; have BK200 := n2_; have BK201 := n3_; have HB := n4_; clear n0_ n1_ n2_ n3_ n4_; (try clear hb); (try clear hb2); (try clear hk); (try clear hi); have hcz81_0 : w80.cell? ⟨gb199, 0, none⟩ = some (.int .i64 t190) := (blk_cell BK199.out 0).trans rfl; have hcz81_1 : w80.cell? ⟨gb199, 1, none⟩ = some (.int .i64 t191) := (blk_cell BK199.out 1).trans rfl; have hfz81_0 := blk_frozen BK199.out 0; have hfz81_1 := blk_frozen BK199.out 1; have hcz82_0 : w80.cell? ⟨gb200, 0, none⟩ = some (.int .i64 t193) := (blk_cell BK200.out 0).trans rfl; have hcz82_1 : w80.cell? ⟨gb200, 1, none⟩ = some (.int .i64 t194) := (blk_cell BK200.out 1).trans rfl; have hfz82_0 := blk_frozen BK200.out 0; have hfz82_1 := blk_frozen BK200.out 1) | (go_at_call 17; (with_reducible refine (ratio_Less.calls k t190 t191 t193 t194 t206 _ A44.out).mono ?_); rintro e w83 ⟨rfl, hb⟩; have n0_ := Aside0.mk (IsS54.below (by repeat (first | (with_reducible first | exact HI189.out | apply IsS54.alloc | apply IsS54.drewN | apply IsS54.drew | apply IsS54.set_1 | refine IsS54.far ?_ NB189_199.out _ | refine IsS54.far ?_ NB189_200.out _ | refine IsS54.far ?_ NB189_201.out _) | exact HI189.out)) hb); have n1_ := Aside0.mk (blk_below (g := gb199) (o := .cells #[.int .i64 t190, .int .i64 t191] 24 (0, 0)) (by (with_reducible repeat (first | refine blk_drewN ?_ _ | refine blk_drew ?_ | refine blk_alloc ?_ _)); exact BK199.out) hb); have n2_ := Aside0.mk (blk_below (g := gb200) (o := .cells #[.int .i64 t193, .int .i64 t194] 24 (0, 0)) (by (with_reducible repeat (first | refine blk_drewN ?_ _ | refine blk_drew ?_ | refine blk_alloc ?_ _)); exact BK200.out) hb); have n3_ := Aside0.mk (blk_below (g := gb201) (o := .cells #[.int .i64 t196, .int .i64 t197] 24 (0, 0)) (by (with_reducible repeat (first | refine blk_drewN ?_ _ | refine blk_drew ?_ | refine blk_alloc ?_ _)); exact BK201.out) hb); have n4_ := Aside0.mk (below_step (by repeat (first | (with_reducible first | exact HB.out | apply below_alloc | apply pw_below_drewN | apply below_drew1 | refine below_set ?_ (IsS54.ge HI189.out) | refine below_set ?_ GE199.out | refine below_set ?_ GE200.out | refine below_set ?_ GE201.out) | exact HB.out)) hb); clear HI189; clear BK199; clear BK200; clear BK201; clear HB; have HI189 := n0_; have BK199 := n1_; have BK200 := n2_; have BK201 := n3_; have HB := n4_; clear n0_ n1_ n2_ n3_ n4_; (try clear hb); (try clear hb2); (try clear hk); (try clear hi)))
                    go_meet
                    case rel => exact ⟨_, (decide (t204 < 0)), (by first | rfl | (simp; done) | (simp [*]; done)), H', ⟨by first | omega | exact Nat.le_refl _⟩, ⟨by (with_reducible repeat (first | refine blk_drewN ?_ _ | refine blk_drew ?_ | refine blk_alloc ?_ _)); exact BK199.out⟩, ⟨by (with_reducible repeat (first | refine blk_drewN ?_ _ | refine blk_drew ?_ | refine blk_alloc ?_ _)); exact BK200.out⟩, ⟨by (with_reducible repeat (first | refine blk_drewN ?_ _ | refine blk_drew ?_ | refine blk_alloc ?_ _)); exact BK201.out⟩, ⟨by repeat (first | (with_reducible first | exact HB.out | apply below_alloc | apply pw_below_drewN | apply below_drew1 | refine below_set ?_ (IsS54.ge HI189.out) | refine below_set ?_ GE199.out | refine below_set ?_ GE200.out | refine below_set ?_ GE201.out) | exact HB.out)⟩⟩
                  · rw [if_neg c72] at H
                    have c72b0 : decide (0 ≤ t203) = false := decide_eq_false c72
                    clear c72
                    have H' := Aside0.mk H
                    clear H
                    have hnb84 := NB200_199.out
                    have hnc84 := NB199_200.out
                    have hnb85 := NB200_201.out
                    have hnc85 := NB201_200.out
                    have hnb86 := NB200_189.out
                    have hnc86 := NB189_200.out
                    have hcz87_0 : w30.cell? ⟨gb200, 0, none⟩ = some (.int .i64 t193) := (blk_cell BK200.out 0).trans rfl
                    have hcz87_1 : w30.cell? ⟨gb200, 1, none⟩ = some (.int .i64 t194) := (blk_cell BK200.out 1).trans rfl
                    have hfz87_0 := blk_frozen BK200.out 0
                    have hfz87_1 := blk_frozen BK200.out 1
                    have hnb88 := NB199_201.out
                    have hnc88 := NB201_199.out
                    have hnb89 := NB199_189.out
                    have hnc89 := NB189_199.out
                    have hcz90_0 : w30.cell? ⟨gb199, 0, none⟩ = some (.int .i64 t190) := (blk_cell BK199.out 0).trans rfl
                    have hcz90_1 : w30.cell? ⟨gb199, 1, none⟩ = some (.int .i64 t191) := (blk_cell BK199.out 1).trans rfl
                    have hfz90_0 := blk_frozen BK199.out 0
                    have hfz90_1 := blk_frozen BK199.out 1
                    go_wp2_with (first | ((with_reducible refine gate_callee (f := 16) rfl ?_); refine goesL_ (some 30) rfl rfl Tryd.func16 (by kernel_rfl) rfl #[.agg #[.int .i64 t193, .int .i64 t194], .agg #[.int .i64 t190, .int .i64 t191]] rfl (by (try simp only [List.map_toArray, List.map_cons, List.map_nil]); first | done | rfl | (simp only [List.length_drop, List.length_take]; rfl)) ?_; (with_reducible refine (ratio_Cmp.calls k t193 t194 t190 t191 t205 _ A31.out).mono ?_); rintro e w91 ⟨rfl, hb⟩; refine ⟨_, rfl, ?_⟩; have n0_ := Aside0.mk (IsS54.below (by repeat (first | (with_reducible first | exact HI189.out | apply IsS54.alloc | apply IsS54.drewN | apply IsS54.drew | apply IsS54.set_1 | refine IsS54.far ?_ NB189_199.out _ | refine IsS54.far ?_ NB189_200.out _ | refine IsS54.far ?_ NB189_201.out _) | exact HI189.out)) hb); have n1_ := Aside0.mk (blk_below (g := gb199) (o := .cells #[.int .i64 t190, .int .i64 t191] 24 (0, 0)) (by (with_reducible repeat (first | refine blk_drewN ?_ _ | refine blk_drew ?_ | refine blk_alloc ?_ _)); exact BK199.out) hb); have n2_ := Aside0.mk (blk_below (g := gb200) (o := .cells #[.int .i64 t193, .int .i64 t194] 24 (0, 0)) (by (with_reducible repeat (first | refine blk_drewN ?_ _ | refine blk_drew ?_ | refine blk_alloc ?_ _)); exact BK200.out) hb); have n3_ := Aside0.mk (blk_below (g := gb201) (o := .cells #[.int .i64 t196, .int .i64 t197] 24 (0, 0)) (by (with_reducible repeat (first | refine blk_drewN ?_ _ | refine blk_drew ?_ | refine blk_alloc ?_ _)); exact BK201.out) hb); have n4_ := Aside0.mk (below_step (by repeat (first | (with_reducible first | exact HB.out | apply below_alloc | apply pw_below_drewN | apply below_drew1 | refine below_set ?_ (IsS54.ge HI189.out) | refine below_set ?_ GE199.out | refine below_set ?_ GE200.out | refine below_set ?_ GE201.out) | exact HB.out)) hb); clear HI189; clear BK199; clear BK200; clear BK201; clear HB; have HI189 := n0_; have BK199 := n1_; have BK200 := n2_; have BK201 := n3_; have HB := n4_; clear n0_ n1_ n2_ n3_ n4_; (try clear hb); (try clear hb2); (try clear hk); (try clear hi); have hcz92_0 : w91.cell? ⟨gb199, 0, none⟩ = some (.int .i64 t190) := (blk_cell BK199.out 0).trans rfl; have hcz92_1 : w91.cell? ⟨gb199, 1, none⟩ = some (.int .i64 t191) := (blk_cell BK199.out 1).trans rfl; have hfz92_0 := blk_frozen BK199.out 0; have hfz92_1 := blk_frozen BK199.out 1; have hcz93_0 : w91.cell? ⟨gb200, 0, none⟩ = some (.int .i64 t193) := (blk_cell BK200.out 0).trans rfl; have hcz93_1 : w91.cell? ⟨gb200, 1, none⟩ = some (.int .i64 t194) := (blk_cell BK200.out 1).trans rfl; have hfz93_0 := blk_frozen BK200.out 0; have hfz93_1 := blk_frozen BK200.out 1) | (go_at_call 17; (with_reducible refine (ratio_Less.calls k t190 t191 t193 t194 t206 _ A44.out).mono ?_); rintro e w94 ⟨rfl, hb⟩; have n0_ := Aside0.mk (IsS54.below (by repeat (first | (with_reducible first | exact HI189.out | apply IsS54.alloc | apply IsS54.drewN | apply IsS54.drew | apply IsS54.set_1 | refine IsS54.far ?_ NB189_199.out _ | refine IsS54.far ?_ NB189_200.out _ | refine IsS54.far ?_ NB189_201.out _) | exact HI189.out)) hb); have n1_ := Aside0.mk (blk_below (g := gb199) (o := .cells #[.int .i64 t190, .int .i64 t191] 24 (0, 0)) (by (with_reducible repeat (first | refine blk_drewN ?_ _ | refine blk_drew ?_ | refine blk_alloc ?_ _)); exact BK199.out) hb); have n2_ := Aside0.mk (blk_below (g := gb200) (o := .cells #[.int .i64 t193, .int .i64 t194] 24 (0, 0)) (by (with_reducible repeat (first | refine blk_drewN ?_ _ | refine blk_drew ?_ | refine blk_alloc ?_ _)); exact BK200.out) hb); have n3_ := Aside0.mk (blk_below (g := gb201) (o := .cells #[.int .i64 t196, .int .i64 t197] 24 (0, 0)) (by (with_reducible repeat (first | refine blk_drewN ?_ _ | refine blk_drew ?_ | refine blk_alloc ?_ _)); exact BK201.out) hb); have n4_ := Aside0.mk (below_step (by repeat (first | (with_reducible first | exact HB.out | apply below_alloc | apply pw_below_drewN | apply below_drew1 | refine below_set ?_ (IsS54.ge HI189.out) | refine below_set ?_ GE199.out | refine below_set ?_ GE200.out | refine below_set ?_ GE201.out) | exact HB.out)) hb); clear HI189; clear BK199; clear BK200; clear BK201; clear HB; have HI189 := n0_; have BK199 := n1_; have BK200 := n2_; have BK201 := n3_; have HB := n4_; clear n0_ n1_ n2_ n3_ n4_; (try clear hb); (try clear hb2); (try clear hk); (try clear hi)))
                    go_meet
                    case rel => exact ⟨_, (false), (by first | rfl | (simp; done) | (simp [*]; done)), H', ⟨by first | omega | exact Nat.le_refl _⟩, ⟨by (with_reducible repeat (first | refine blk_drewN ?_ _ | refine blk_drew ?_ | refine blk_alloc ?_ _)); exact BK199.out⟩, ⟨by (with_reducible repeat (first | refine blk_drewN ?_ _ | refine blk_drew ?_ | refine blk_alloc ?_ _)); exact BK200.out⟩, ⟨by (with_reducible repeat (first | refine blk_drewN ?_ _ | refine blk_drew ?_ | refine blk_alloc ?_ _)); exact BK201.out⟩, ⟨by repeat (first | (with_reducible first | exact HB.out | apply below_alloc | apply pw_below_drewN | apply below_drew1 | refine below_set ?_ (IsS54.ge HI189.out) | refine below_set ?_ GE199.out | refine below_set ?_ GE200.out | refine below_set ?_ GE201.out) | exact HB.out)⟩⟩
                · rw [if_neg c71] at H
                  have c71b0 : decide (0 ≤ t202) = false := decide_eq_false c71
                  clear c71
                  have H' := Aside0.mk H
                  clear H
                  have hnb95 := NB200_199.out
                  have hnc95 := NB199_200.out
                  have hnb96 := NB200_201.out
                  have hnc96 := NB201_200.out
                  have hnb97 := NB200_189.out
                  have hnc97 := NB189_200.out
                  have hcz98_0 : w30.cell? ⟨gb200, 0, none⟩ = some (.int .i64 t193) := (blk_cell BK200.out 0).trans rfl
                  have hcz98_1 : w30.cell? ⟨gb200, 1, none⟩ = some (.int .i64 t194) := (blk_cell BK200.out 1).trans rfl
                  have hfz98_0 := blk_frozen BK200.out 0
                  have hfz98_1 := blk_frozen BK200.out 1
                  have hnb99 := NB199_201.out
                  have hnc99 := NB201_199.out
                  have hnb100 := NB199_189.out
                  have hnc100 := NB189_199.out
                  have hcz101_0 : w30.cell? ⟨gb199, 0, none⟩ = some (.int .i64 t190) := (blk_cell BK199.out 0).trans rfl
                  have hcz101_1 : w30.cell? ⟨gb199, 1, none⟩ = some (.int .i64 t191) := (blk_cell BK199.out 1).trans rfl
                  have hfz101_0 := blk_frozen BK199.out 0
                  have hfz101_1 := blk_frozen BK199.out 1
                  go_wp2_with (first | ((with_reducible refine gate_callee (f := 16) rfl ?_); refine goesL_ (some 30) rfl rfl Tryd.func16 (by kernel_rfl) rfl #[.agg #[.int .i64 t193, .int .i64 t194], .agg #[.int .i64 t190, .int .i64 t191]] rfl (by (try simp only [List.map_toArray, List.map_cons, List.map_nil]); first | done | rfl | (simp only [List.length_drop, List.length_take]; rfl)) ?_; (with_reducible refine (ratio_Cmp.calls k t193 t194 t190 t191 t205 _ A31.out).mono ?_); rintro e w102 ⟨rfl, hb⟩; refine ⟨_, rfl, ?_⟩; have n0_ := Aside0.mk (IsS54.below (by repeat (first | (with_reducible first | exact HI189.out | apply IsS54.alloc | apply IsS54.drewN | apply IsS54.drew | apply IsS54.set_1 | refine IsS54.far ?_ NB189_199.out _ | refine IsS54.far ?_ NB189_200.out _ | refine IsS54.far ?_ NB189_201.out _) | exact HI189.out)) hb); have n1_ := Aside0.mk (blk_below (g := gb199) (o := .cells #[.int .i64 t190, .int .i64 t191] 24 (0, 0)) (by (with_reducible repeat (first | refine blk_drewN ?_ _ | refine blk_drew ?_ | refine blk_alloc ?_ _)); exact BK199.out) hb); have n2_ := Aside0.mk (blk_below (g := gb200) (o := .cells #[.int .i64 t193, .int .i64 t194] 24 (0, 0)) (by (with_reducible repeat (first | refine blk_drewN ?_ _ | refine blk_drew ?_ | refine blk_alloc ?_ _)); exact BK200.out) hb); have n3_ := Aside0.mk (blk_below (g := gb201) (o := .cells #[.int .i64 t196, .int .i64 t197] 24 (0, 0)) (by (with_reducible repeat (first | refine blk_drewN ?_ _ | refine blk_drew ?_ | refine blk_alloc ?_ _)); exact BK201.out) hb); have n4_ := Aside0.mk (below_step (by repeat (first | (with_reducible first | exact HB.out | apply below_alloc | apply pw_below_drewN | apply below_drew1 | refine below_set ?_ (IsS54.ge HI189.out) | refine below_set ?_ GE199.out | refine below_set ?_ GE200.out | refine below_set ?_ GE201.out) | exact HB.out)) hb); clear HI189; clear BK199; clear BK200; clear BK201; clear HB; have HI189 := n0_; have BK199 := n1_; have BK200 := n2_; have BK201 := n3_; have HB := n4_; clear n0_ n1_ n2_ n3_ n4_; (try clear hb); (try clear hb2); (try clear hk); (try clear hi); have hcz103_0 : w102.cell? ⟨gb199, 0, none⟩ = some (.int .i64 t190) := (blk_cell BK199.out 0).trans rfl; have hcz103_1 : w102.cell? ⟨gb199, 1, none⟩ = some (.int .i64 t191) := (blk_cell BK199.out 1).trans rfl; have hfz103_0 := blk_frozen BK199.out 0; have hfz103_1 := blk_frozen BK199.out 1; have hcz104_0 : w102.cell? ⟨gb200, 0, none⟩ = some (.int .i64 t193) := (blk_cell BK200.out 0).trans rfl; have hcz104_1 : w102.cell? ⟨gb200, 1, none⟩ = some (.int .i64 t194) := (blk_cell BK200.out 1).trans rfl; have hfz104_0 := blk_frozen BK200.out 0; have hfz104_1 := blk_frozen BK200.out 1) | (go_at_call 17; (with_reducible refine (ratio_Less.calls k t190 t191 t193 t194 t206 _ A44.out).mono ?_); rintro e w105 ⟨rfl, hb⟩; have n0_ := Aside0.mk (IsS54.below (by repeat (first | (with_reducible first | exact HI189.out | apply IsS54.alloc | apply IsS54.drewN | apply IsS54.drew | apply IsS54.set_1 | refine IsS54.far ?_ NB189_199.out _ | refine IsS54.far ?_ NB189_200.out _ | refine IsS54.far ?_ NB189_201.out _) | exact HI189.out)) hb); have n1_ := Aside0.mk (blk_below (g := gb199) (o := .cells #[.int .i64 t190, .int .i64 t191] 24 (0, 0)) (by (with_reducible repeat (first | refine blk_drewN ?_ _ | refine blk_drew ?_ | refine blk_alloc ?_ _)); exact BK199.out) hb); have n2_ := Aside0.mk (blk_below (g := gb200) (o := .cells #[.int .i64 t193, .int .i64 t194] 24 (0, 0)) (by (with_reducible repeat (first | refine blk_drewN ?_ _ | refine blk_drew ?_ | refine blk_alloc ?_ _)); exact BK200.out) hb); have n3_ := Aside0.mk (blk_below (g := gb201) (o := .cells #[.int .i64 t196, .int .i64 t197] 24 (0, 0)) (by (with_reducible repeat (first | refine blk_drewN ?_ _ | refine blk_drew ?_ | refine blk_alloc ?_ _)); exact BK201.out) hb); have n4_ := Aside0.mk (below_step (by repeat (first | (with_reducible first | exact HB.out | apply below_alloc | apply pw_below_drewN | apply below_drew1 | refine below_set ?_ (IsS54.ge HI189.out) | refine below_set ?_ GE199.out | refine below_set ?_ GE200.out | refine below_set ?_ GE201.out) | exact HB.out)) hb); clear HI189; clear BK199; clear BK200; clear BK201; clear HB; have HI189 := n0_; have BK199 := n1_; have BK200 := n2_; have BK201 := n3_; have HB := n4_; clear n0_ n1_ n2_ n3_ n4_; (try clear hb); (try clear hb2); (try clear hk); (try clear hi)))
                  go_meet
                  case rel => exact ⟨_, (false), (by first | rfl | (simp; done) | (simp [*]; done)), H', ⟨by first | omega | exact Nat.le_refl _⟩, ⟨by (with_reducible repeat (first | refine blk_drewN ?_ _ | refine blk_drew ?_ | refine blk_alloc ?_ _)); exact BK199.out⟩, ⟨by (with_reducible repeat (first | refine blk_drewN ?_ _ | refine blk_drew ?_ | refine blk_alloc ?_ _)); exact BK200.out⟩, ⟨by (with_reducible repeat (first | refine blk_drewN ?_ _ | refine blk_drew ?_ | refine blk_alloc ?_ _)); exact BK201.out⟩, ⟨by repeat (first | (with_reducible first | exact HB.out | apply below_alloc | apply pw_below_drewN | apply below_drew1 | refine below_set ?_ (IsS54.ge HI189.out) | refine below_set ?_ GE199.out | refine below_set ?_ GE200.out | refine below_set ?_ GE201.out) | exact HB.out)⟩⟩
            · rw [if_neg c58] at H
              have c58b0 : decide (t203 ≤ 0) = false := decide_eq_false c58
              clear c58
              by_cases c106 : t202 ≥ 0
              · rw [if_pos c106] at H
                have c106b0 : decide (0 ≤ t202) = true := decide_eq_true c106
                clear c106
                by_cases c107 : t203 ≥ 0
                · rw [if_pos c107] at H
                  have c107b0 : decide (0 ≤ t203) = true := decide_eq_true c107
                  clear c107
                  have H' := Aside0.mk H
                  clear H
                  have hnb108 := NB200_199.out
                  have hnc108 := NB199_200.out
                  have hnb109 := NB200_201.out
                  have hnc109 := NB201_200.out
                  have hnb110 := NB200_189.out
                  have hnc110 := NB189_200.out
                  have hcz111_0 : w30.cell? ⟨gb200, 0, none⟩ = some (.int .i64 t193) := (blk_cell BK200.out 0).trans rfl
                  have hcz111_1 : w30.cell? ⟨gb200, 1, none⟩ = some (.int .i64 t194) := (blk_cell BK200.out 1).trans rfl
                  have hfz111_0 := blk_frozen BK200.out 0
                  have hfz111_1 := blk_frozen BK200.out 1
                  have hnb112 := NB199_201.out
                  have hnc112 := NB201_199.out
                  have hnb113 := NB199_189.out
                  have hnc113 := NB189_199.out
                  have hcz114_0 : w30.cell? ⟨gb199, 0, none⟩ = some (.int .i64 t190) := (blk_cell BK199.out 0).trans rfl
                  have hcz114_1 : w30.cell? ⟨gb199, 1, none⟩ = some (.int .i64 t191) := (blk_cell BK199.out 1).trans rfl
                  have hfz114_0 := blk_frozen BK199.out 0
                  have hfz114_1 := blk_frozen BK199.out 1
                  go_wp2_with (first | ((with_reducible refine gate_callee (f := 16) rfl ?_); refine goesL_ (some 30) rfl rfl Tryd.func16 (by kernel_rfl) rfl #[.agg #[.int .i64 t193, .int .i64 t194], .agg #[.int .i64 t190, .int .i64 t191]] rfl (by (try simp only [List.map_toArray, List.map_cons, List.map_nil]); first | done | rfl | (simp only [List.length_drop, List.length_take]; rfl)) ?_; (with_reducible refine (ratio_Cmp.calls k t193 t194 t190 t191 t205 _ A31.out).mono ?_); rintro e w115 ⟨rfl, hb⟩; refine ⟨_, rfl, ?_⟩; have n0_ := Aside0.mk (IsS54.below (by repeat (first | (with_reducible first | exact HI189.out | apply IsS54.alloc | apply IsS54.drewN | apply IsS54.drew | apply IsS54.set_1 | refine IsS54.far ?_ NB189_199.out _ | refine IsS54.far ?_ NB189_200.out _ | refine IsS54.far ?_ NB189_201.out _) | exact HI189.out)) hb); have n1_ := Aside0.mk (blk_below (g := gb199) (o := .cells #[.int .i64 t190, .int .i64 t191] 24 (0, 0)) (by (with_reducible repeat (first | refine blk_drewN ?_ _ | refine blk_drew ?_ | refine blk_alloc ?_ _)); exact BK199.out) hb); have n2_ := Aside0.mk (blk_below (g := gb200) (o := .cells #[.int .i64 t193, .int .i64 t194] 24 (0, 0)) (by (with_reducible repeat (first | refine blk_drewN ?_ _ | refine blk_drew ?_ | refine blk_alloc ?_ _)); exact BK200.out) hb); have n3_ := Aside0.mk (blk_below (g := gb201) (o := .cells #[.int .i64 t196, .int .i64 t197] 24 (0, 0)) (by (with_reducible repeat (first | refine blk_drewN ?_ _ | refine blk_drew ?_ | refine blk_alloc ?_ _)); exact BK201.out) hb); have n4_ := Aside0.mk (below_step (by repeat (first | (with_reducible first | exact HB.out | apply below_alloc | apply pw_below_drewN | apply below_drew1 | refine below_set ?_ (IsS54.ge HI189.out) | refine below_set ?_ GE199.out | refine below_set ?_ GE200.out | refine below_set ?_ GE201.out) | exact HB.out)) hb); clear HI189; clear BK199; clear BK200; clear BK201; clear HB; have HI189 := n0_; have BK199 := n1_; have BK200 := n2_; have BK201 := n3_; have HB := n4_; clear n0_ n1_ n2_ n3_ n4_; (try clear hb); (try clear hb2); (try clear hk); (try clear hi); have hcz116_0 : w115.cell? ⟨gb199, 0, none⟩ = some (.int .i64 t190) := (blk_cell BK199.out 0).trans rfl; have hcz116_1 : w115.cell? ⟨gb199, 1, none⟩ = some (.int .i64 t191) := (blk_cell BK199.out 1).trans rfl; have hfz116_0 := blk_frozen BK199.out 0; have hfz116_1 := blk_frozen BK199.out 1; have hcz117_0 : w115.cell? ⟨gb200, 0, none⟩ = some (.int .i64 t193) := (blk_cell BK200.out 0).trans rfl; have hcz117_1 : w115.cell? ⟨gb200, 1, none⟩ = some (.int .i64 t194) := (blk_cell BK200.out 1).trans rfl; have hfz117_0 := blk_frozen BK200.out 0; have hfz117_1 := blk_frozen BK200.out 1) | (go_at_call 17; (with_reducible refine (ratio_Less.calls k t190 t191 t193 t194 t206 _ A44.out).mono ?_); rintro e w118 ⟨rfl, hb⟩; have n0_ := Aside0.mk (IsS54.below (by repeat (first | (with_reducible first | exact HI189.out | apply IsS54.alloc | apply IsS54.drewN | apply IsS54.drew | apply IsS54.set_1 | refine IsS54.far ?_ NB189_199.out _ | refine IsS54.far ?_ NB189_200.out _ | refine IsS54.far ?_ NB189_201.out _) | exact HI189.out)) hb); have n1_ := Aside0.mk (blk_below (g := gb199) (o := .cells #[.int .i64 t190, .int .i64 t191] 24 (0, 0)) (by (with_reducible repeat (first | refine blk_drewN ?_ _ | refine blk_drew ?_ | refine blk_alloc ?_ _)); exact BK199.out) hb); have n2_ := Aside0.mk (blk_below (g := gb200) (o := .cells #[.int .i64 t193, .int .i64 t194] 24 (0, 0)) (by (with_reducible repeat (first | refine blk_drewN ?_ _ | refine blk_drew ?_ | refine blk_alloc ?_ _)); exact BK200.out) hb); have n3_ := Aside0.mk (blk_below (g := gb201) (o := .cells #[.int .i64 t196, .int .i64 t197] 24 (0, 0)) (by (with_reducible repeat (first | refine blk_drewN ?_ _ | refine blk_drew ?_ | refine blk_alloc ?_ _)); exact BK201.out) hb); have n4_ := Aside0.mk (below_step (by repeat (first | (with_reducible first | exact HB.out | apply below_alloc | apply pw_below_drewN | apply below_drew1 | refine below_set ?_ (IsS54.ge HI189.out) | refine below_set ?_ GE199.out | refine below_set ?_ GE200.out | refine below_set ?_ GE201.out) | exact HB.out)) hb); clear HI189; clear BK199; clear BK200; clear BK201; clear HB; have HI189 := n0_; have BK199 := n1_; have BK200 := n2_; have BK201 := n3_; have HB := n4_; clear n0_ n1_ n2_ n3_ n4_; (try clear hb); (try clear hb2); (try clear hk); (try clear hi)))
                  go_meet
                  case rel => exact ⟨_, (decide (t204 < 0)), (by first | rfl | (simp; done) | (simp [*]; done)), H', ⟨by first | omega | exact Nat.le_refl _⟩, ⟨by (with_reducible repeat (first | refine blk_drewN ?_ _ | refine blk_drew ?_ | refine blk_alloc ?_ _)); exact BK199.out⟩, ⟨by (with_reducible repeat (first | refine blk_drewN ?_ _ | refine blk_drew ?_ | refine blk_alloc ?_ _)); exact BK200.out⟩, ⟨by (with_reducible repeat (first | refine blk_drewN ?_ _ | refine blk_drew ?_ | refine blk_alloc ?_ _)); exact BK201.out⟩, ⟨by repeat (first | (with_reducible first | exact HB.out | apply below_alloc | apply pw_below_drewN | apply below_drew1 | refine below_set ?_ (IsS54.ge HI189.out) | refine below_set ?_ GE199.out | refine below_set ?_ GE200.out | refine below_set ?_ GE201.out) | exact HB.out)⟩⟩
                · rw [if_neg c107] at H
                  have c107b0 : decide (0 ≤ t203) = false := decide_eq_false c107
                  clear c107
                  have H' := Aside0.mk H
                  clear H
                  have hnb119 := NB200_199.out
                  have hnc119 := NB199_200.out
                  have hnb120 := NB200_201.out
                  have hnc120 := NB201_200.out
                  have hnb121 := NB200_189.out
                  have hnc121 := NB189_200.out
                  have hcz122_0 : w30.cell? ⟨gb200, 0, none⟩ = some (.int .i64 t193) := (blk_cell BK200.out 0).trans rfl
                  have hcz122_1 : w30.cell? ⟨gb200, 1, none⟩ = some (.int .i64 t194) := (blk_cell BK200.out 1).trans rfl
                  have hfz122_0 := blk_frozen BK200.out 0
                  have hfz122_1 := blk_frozen BK200.out 1
                  have hnb123 := NB199_201.out
                  have hnc123 := NB201_199.out
                  have hnb124 := NB199_189.out
                  have hnc124 := NB189_199.out
                  have hcz125_0 : w30.cell? ⟨gb199, 0, none⟩ = some (.int .i64 t190) := (blk_cell BK199.out 0).trans rfl
                  have hcz125_1 : w30.cell? ⟨gb199, 1, none⟩ = some (.int .i64 t191) := (blk_cell BK199.out 1).trans rfl
                  have hfz125_0 := blk_frozen BK199.out 0
                  have hfz125_1 := blk_frozen BK199.out 1
                  go_wp2_with (first | ((with_reducible refine gate_callee (f := 16) rfl ?_); refine goesL_ (some 30) rfl rfl Tryd.func16 (by kernel_rfl) rfl #[.agg #[.int .i64 t193, .int .i64 t194], .agg #[.int .i64 t190, .int .i64 t191]] rfl (by (try simp only [List.map_toArray, List.map_cons, List.map_nil]); first | done | rfl | (simp only [List.length_drop, List.length_take]; rfl)) ?_; (with_reducible refine (ratio_Cmp.calls k t193 t194 t190 t191 t205 _ A31.out).mono ?_); rintro e w126 ⟨rfl, hb⟩; refine ⟨_, rfl, ?_⟩; have n0_ := Aside0.mk (IsS54.below (by repeat (first | (with_reducible first | exact HI189.out | apply IsS54.alloc | apply IsS54.drewN | apply IsS54.drew | apply IsS54.set_1 | refine IsS54.far ?_ NB189_199.out _ | refine IsS54.far ?_ NB189_200.out _ | refine IsS54.far ?_ NB189_201.out _) | exact HI189.out)) hb); have n1_ := Aside0.mk (blk_below (g := gb199) (o := .cells #[.int .i64 t190, .int .i64 t191] 24 (0, 0)) (by (with_reducible repeat (first | refine blk_drewN ?_ _ | refine blk_drew ?_ | refine blk_alloc ?_ _)); exact BK199.out) hb); have n2_ := Aside0.mk (blk_below (g := gb200) (o := .cells #[.int .i64 t193, .int .i64 t194] 24 (0, 0)) (by (with_reducible repeat (first | refine blk_drewN ?_ _ | refine blk_drew ?_ | refine blk_alloc ?_ _)); exact BK200.out) hb); have n3_ := Aside0.mk (blk_below (g := gb201) (o := .cells #[.int .i64 t196, .int .i64 t197] 24 (0, 0)) (by (with_reducible repeat (first | refine blk_drewN ?_ _ | refine blk_drew ?_ | refine blk_alloc ?_ _)); exact BK201.out) hb); have n4_ := Aside0.mk (below_step (by repeat (first | (with_reducible first | exact HB.out | apply below_alloc | apply pw_below_drewN | apply below_drew1 | refine below_set ?_ (IsS54.ge HI189.out) | refine below_set ?_ GE199.out | refine below_set ?_ GE200.out | refine below_set ?_ GE201.out) | exact HB.out)) hb); clear HI189; clear BK199; clear BK200; clear BK201; clear HB; have HI189 := n0_; have BK199 := n1_; have BK200 := n2_; have BK201 := n3_; have HB := n4_; clear n0_ n1_ n2_ n3_ n4_; (try clear hb); (try clear hb2); (try clear hk); (try clear hi); have hcz127_0 : w126.cell? ⟨gb199, 0, none⟩ = some (.int .i64 t190) := (blk_cell BK199.out 0).trans rfl; have hcz127_1 : w126.cell? ⟨gb199, 1, none⟩ = some (.int .i64 t191) := (blk_cell BK199.out 1).trans rfl; have hfz127_0 := blk_frozen BK199.out 0; have hfz127_1 := blk_frozen BK199.out 1; have hcz128_0 : w126.cell? ⟨gb200, 0, none⟩ = some (.int .i64 t193) := (blk_cell BK200.out 0).trans rfl; have hcz128_1 : w126.cell? ⟨gb200, 1, none⟩ = some (.int .i64 t194) := (blk_cell BK200.out 1).trans rfl; have hfz128_0 := blk_frozen BK200.out 0; have hfz128_1 := blk_frozen BK200.out 1) | (go_at_call 17; (with_reducible refine (ratio_Less.calls k t190 t191 t193 t194 t206 _ A44.out).mono ?_); rintro e w129 ⟨rfl, hb⟩; have n0_ := Aside0.mk (IsS54.below (by repeat (first | (with_reducible first | exact HI189.out | apply IsS54.alloc | apply IsS54.drewN | apply IsS54.drew | apply IsS54.set_1 | refine IsS54.far ?_ NB189_199.out _ | refine IsS54.far ?_ NB189_200.out _ | refine IsS54.far ?_ NB189_201.out _) | exact HI189.out)) hb); have n1_ := Aside0.mk (blk_below (g := gb199) (o := .cells #[.int .i64 t190, .int .i64 t191] 24 (0, 0)) (by (with_reducible repeat (first | refine blk_drewN ?_ _ | refine blk_drew ?_ | refine blk_alloc ?_ _)); exact BK199.out) hb); have n2_ := Aside0.mk (blk_below (g := gb200) (o := .cells #[.int .i64 t193, .int .i64 t194] 24 (0, 0)) (by (with_reducible repeat (first | refine blk_drewN ?_ _ | refine blk_drew ?_ | refine blk_alloc ?_ _)); exact BK200.out) hb); have n3_ := Aside0.mk (blk_below (g := gb201) (o := .cells #[.int .i64 t196, .int .i64 t197] 24 (0, 0)) (by (with_reducible repeat (first | refine blk_drewN ?_ _ | refine blk_drew ?_ | refine blk_alloc ?_ _)); exact BK201.out) hb); have n4_ := Aside0.mk (below_step (by repeat (first | (with_reducible first | exact HB.out | apply below_alloc | apply pw_below_drewN | apply below_drew1 | refine below_set ?_ (IsS54.ge HI189.out) | refine below_set ?_ GE199.out | refine below_set ?_ GE200.out | refine below_set ?_ GE201.out) | exact HB.out)) hb); clear HI189; clear BK199; clear BK200; clear BK201; clear HB; have HI189 := n0_; have BK199 := n1_; have BK200 := n2_; have BK201 := n3_; have HB := n4_; clear n0_ n1_ n2_ n3_ n4_; (try clear hb); (try clear hb2); (try clear hk); (try clear hi)))
                  go_meet
                  case rel => exact ⟨_, (false), (by first | rfl | (simp; done) | (simp [*]; done)), H', ⟨by first | omega | exact Nat.le_refl _⟩, ⟨by (with_reducible repeat (first | refine blk_drewN ?_ _ | refine blk_drew ?_ | refine blk_alloc ?_ _)); exact BK199.out⟩, ⟨by (with_reducible repeat (first | refine blk_drewN ?_ _ | refine blk_drew ?_ | refine blk_alloc ?_ _)); exact BK200.out⟩, ⟨by (with_reducible repeat (first | refine blk_drewN ?_ _ | refine blk_drew ?_ | refine blk_alloc ?_ _)); exact BK201.out⟩, ⟨by repeat (first | (with_reducible first | exact HB.out | apply below_alloc | apply pw_below_drewN | apply below_drew1 | refine below_set ?_ (IsS54.ge HI189.out) | refine below_set ?_ GE199.out | refine below_set ?_ GE200.out | refine below_set ?_ GE201.out) | exact HB.out)⟩⟩
              · rw [if_neg c106] at H
                have c106b0 : decide (0 ≤ t202) = false := decide_eq_false c106
                clear c106
                have H' := Aside0.mk H
                clear H
                have hnb130 := NB200_199.out
                have hnc130 := NB199_200.out
                have hnb131 := NB200_201.out
                have hnc131 := NB201_200.out
                have hnb132 := NB200_189.out
                have hnc132 := NB189_200.out
                have hcz133_0 : w30.cell? ⟨gb200, 0, none⟩ = some (.int .i64 t193) := (blk_cell BK200.out 0).trans rfl
                have hcz133_1 : w30.cell? ⟨gb200, 1, none⟩ = some (.int .i64 t194) := (blk_cell BK200.out 1).trans rfl
                have hfz133_0 := blk_frozen BK200.out 0
                have hfz133_1 := blk_frozen BK200.out 1
                have hnb134 := NB199_201.out
                have hnc134 := NB201_199.out
                have hnb135 := NB199_189.out
                have hnc135 := NB189_199.out
                have hcz136_0 : w30.cell? ⟨gb199, 0, none⟩ = some (.int .i64 t190) := (blk_cell BK199.out 0).trans rfl
                have hcz136_1 : w30.cell? ⟨gb199, 1, none⟩ = some (.int .i64 t191) := (blk_cell BK199.out 1).trans rfl
                have hfz136_0 := blk_frozen BK199.out 0
                have hfz136_1 := blk_frozen BK199.out 1
                go_wp2_with (first | ((with_reducible refine gate_callee (f := 16) rfl ?_); refine goesL_ (some 30) rfl rfl Tryd.func16 (by kernel_rfl) rfl #[.agg #[.int .i64 t193, .int .i64 t194], .agg #[.int .i64 t190, .int .i64 t191]] rfl (by (try simp only [List.map_toArray, List.map_cons, List.map_nil]); first | done | rfl | (simp only [List.length_drop, List.length_take]; rfl)) ?_; (with_reducible refine (ratio_Cmp.calls k t193 t194 t190 t191 t205 _ A31.out).mono ?_); rintro e w137 ⟨rfl, hb⟩; refine ⟨_, rfl, ?_⟩; have n0_ := Aside0.mk (IsS54.below (by repeat (first | (with_reducible first | exact HI189.out | apply IsS54.alloc | apply IsS54.drewN | apply IsS54.drew | apply IsS54.set_1 | refine IsS54.far ?_ NB189_199.out _ | refine IsS54.far ?_ NB189_200.out _ | refine IsS54.far ?_ NB189_201.out _) | exact HI189.out)) hb); have n1_ := Aside0.mk (blk_below (g := gb199) (o := .cells #[.int .i64 t190, .int .i64 t191] 24 (0, 0)) (by (with_reducible repeat (first | refine blk_drewN ?_ _ | refine blk_drew ?_ | refine blk_alloc ?_ _)); exact BK199.out) hb); have n2_ := Aside0.mk (blk_below (g := gb200) (o := .cells #[.int .i64 t193, .int .i64 t194] 24 (0, 0)) (by (with_reducible repeat (first | refine blk_drewN ?_ _ | refine blk_drew ?_ | refine blk_alloc ?_ _)); exact BK200.out) hb); have n3_ := Aside0.mk (blk_below (g := gb201) (o := .cells #[.int .i64 t196, .int .i64 t197] 24 (0, 0)) (by (with_reducible repeat (first | refine blk_drewN ?_ _ | refine blk_drew ?_ | refine blk_alloc ?_ _)); exact BK201.out) hb); have n4_ := Aside0.mk (below_step (by repeat (first | (with_reducible first | exact HB.out | apply below_alloc | apply pw_below_drewN | apply below_drew1 | refine below_set ?_ (IsS54.ge HI189.out) | refine below_set ?_ GE199.out | refine below_set ?_ GE200.out | refine below_set ?_ GE201.out) | exact HB.out)) hb); clear HI189; clear BK199; clear BK200; clear BK201; clear HB; have HI189 := n0_; have BK199 := n1_; have BK200 := n2_; have BK201 := n3_; have HB := n4_; clear n0_ n1_ n2_ n3_ n4_; (try clear hb); (try clear hb2); (try clear hk); (try clear hi); have hcz138_0 : w137.cell? ⟨gb199, 0, none⟩ = some (.int .i64 t190) := (blk_cell BK199.out 0).trans rfl; have hcz138_1 : w137.cell? ⟨gb199, 1, none⟩ = some (.int .i64 t191) := (blk_cell BK199.out 1).trans rfl; have hfz138_0 := blk_frozen BK199.out 0; have hfz138_1 := blk_frozen BK199.out 1; have hcz139_0 : w137.cell? ⟨gb200, 0, none⟩ = some (.int .i64 t193) := (blk_cell BK200.out 0).trans rfl; have hcz139_1 : w137.cell? ⟨gb200, 1, none⟩ = some (.int .i64 t194) := (blk_cell BK200.out 1).trans rfl; have hfz139_0 := blk_frozen BK200.out 0; have hfz139_1 := blk_frozen BK200.out 1) | (go_at_call 17; (with_reducible refine (ratio_Less.calls k t190 t191 t193 t194 t206 _ A44.out).mono ?_); rintro e w140 ⟨rfl, hb⟩; have n0_ := Aside0.mk (IsS54.below (by repeat (first | (with_reducible first | exact HI189.out | apply IsS54.alloc | apply IsS54.drewN | apply IsS54.drew | apply IsS54.set_1 | refine IsS54.far ?_ NB189_199.out _ | refine IsS54.far ?_ NB189_200.out _ | refine IsS54.far ?_ NB189_201.out _) | exact HI189.out)) hb); have n1_ := Aside0.mk (blk_below (g := gb199) (o := .cells #[.int .i64 t190, .int .i64 t191] 24 (0, 0)) (by (with_reducible repeat (first | refine blk_drewN ?_ _ | refine blk_drew ?_ | refine blk_alloc ?_ _)); exact BK199.out) hb); have n2_ := Aside0.mk (blk_below (g := gb200) (o := .cells #[.int .i64 t193, .int .i64 t194] 24 (0, 0)) (by (with_reducible repeat (first | refine blk_drewN ?_ _ | refine blk_drew ?_ | refine blk_alloc ?_ _)); exact BK200.out) hb); have n3_ := Aside0.mk (blk_below (g := gb201) (o := .cells #[.int .i64 t196, .int .i64 t197] 24 (0, 0)) (by (with_reducible repeat (first | refine blk_drewN ?_ _ | refine blk_drew ?_ | refine blk_alloc ?_ _)); exact BK201.out) hb); have n4_ := Aside0.mk (below_step (by repeat (first | (with_reducible first | exact HB.out | apply below_alloc | apply pw_below_drewN | apply below_drew1 | refine below_set ?_ (IsS54.ge HI189.out) | refine below_set ?_ GE199.out | refine below_set ?_ GE200.out | refine below_set ?_ GE201.out) | exact HB.out)) hb); clear HI189; clear BK199; clear BK200; clear BK201; clear HB; have HI189 := n0_; have BK199 := n1_; have BK200 := n2_; have BK201 := n3_; have HB := n4_; clear n0_ n1_ n2_ n3_ n4_; (try clear hb); (try clear hb2); (try clear hk); (try clear hi)))
                go_meet
                case rel => exact ⟨_, (false), (by first | rfl | (simp; done) | (simp [*]; done)), H', ⟨by first | omega | exact Nat.le_refl _⟩, ⟨by (with_reducible repeat (first | refine blk_drewN ?_ _ | refine blk_drew ?_ | refine blk_alloc ?_ _)); exact BK199.out⟩, ⟨by (with_reducible repeat (first | refine blk_drewN ?_ _ | refine blk_drew ?_ | refine blk_alloc ?_ _)); exact BK200.out⟩, ⟨by (with_reducible repeat (first | refine blk_drewN ?_ _ | refine blk_drew ?_ | refine blk_alloc ?_ _)); exact BK201.out⟩, ⟨by repeat (first | (with_reducible first | exact HB.out | apply below_alloc | apply pw_below_drewN | apply below_drew1 | refine below_set ?_ (IsS54.ge HI189.out) | refine below_set ?_ GE199.out | refine below_set ?_ GE200.out | refine below_set ?_ GE201.out) | exact HB.out)⟩⟩
          · rw [if_neg c57] at H
            have c57b0 : decide (t202 ≤ 0) = false := decide_eq_false c57
            clear c57
            by_cases c141 : t202 ≥ 0
            · rw [if_pos c141] at H
              have c141b0 : decide (0 ≤ t202) = true := decide_eq_true c141
              clear c141
              by_cases c142 : t203 ≥ 0
              · rw [if_pos c142] at H
                have c142b0 : decide (0 ≤ t203) = true := decide_eq_true c142
                clear c142
                have H' := Aside0.mk H
                clear H
                have hnb143 := NB200_199.out
                have hnc143 := NB199_200.out
                have hnb144 := NB200_201.out
                have hnc144 := NB201_200.out
                have hnb145 := NB200_189.out
                have hnc145 := NB189_200.out
                have hcz146_0 : w30.cell? ⟨gb200, 0, none⟩ = some (.int .i64 t193) := (blk_cell BK200.out 0).trans rfl
                have hcz146_1 : w30.cell? ⟨gb200, 1, none⟩ = some (.int .i64 t194) := (blk_cell BK200.out 1).trans rfl
                have hfz146_0 := blk_frozen BK200.out 0
                have hfz146_1 := blk_frozen BK200.out 1
                have hnb147 := NB199_201.out
                have hnc147 := NB201_199.out
                have hnb148 := NB199_189.out
                have hnc148 := NB189_199.out
                have hcz149_0 : w30.cell? ⟨gb199, 0, none⟩ = some (.int .i64 t190) := (blk_cell BK199.out 0).trans rfl
                have hcz149_1 : w30.cell? ⟨gb199, 1, none⟩ = some (.int .i64 t191) := (blk_cell BK199.out 1).trans rfl
                have hfz149_0 := blk_frozen BK199.out 0
                have hfz149_1 := blk_frozen BK199.out 1
                go_wp2_with (first | ((with_reducible refine gate_callee (f := 16) rfl ?_); refine goesL_ (some 30) rfl rfl Tryd.func16 (by kernel_rfl) rfl #[.agg #[.int .i64 t193, .int .i64 t194], .agg #[.int .i64 t190, .int .i64 t191]] rfl (by (try simp only [List.map_toArray, List.map_cons, List.map_nil]); first | done | rfl | (simp only [List.length_drop, List.length_take]; rfl)) ?_; (with_reducible refine (ratio_Cmp.calls k t193 t194 t190 t191 t205 _ A31.out).mono ?_); rintro e w150 ⟨rfl, hb⟩; refine ⟨_, rfl, ?_⟩; have n0_ := Aside0.mk (IsS54.below (by repeat (first | (with_reducible first | exact HI189.out | apply IsS54.alloc | apply IsS54.drewN | apply IsS54.drew | apply IsS54.set_1 | refine IsS54.far ?_ NB189_199.out _ | refine IsS54.far ?_ NB189_200.out _ | refine IsS54.far ?_ NB189_201.out _) | exact HI189.out)) hb); have n1_ := Aside0.mk (blk_below (g := gb199) (o := .cells #[.int .i64 t190, .int .i64 t191] 24 (0, 0)) (by (with_reducible repeat (first | refine blk_drewN ?_ _ | refine blk_drew ?_ | refine blk_alloc ?_ _)); exact BK199.out) hb); have n2_ := Aside0.mk (blk_below (g := gb200) (o := .cells #[.int .i64 t193, .int .i64 t194] 24 (0, 0)) (by (with_reducible repeat (first | refine blk_drewN ?_ _ | refine blk_drew ?_ | refine blk_alloc ?_ _)); exact BK200.out) hb); have n3_ := Aside0.mk (blk_below (g := gb201) (o := .cells #[.int .i64 t196, .int .i64 t197] 24 (0, 0)) (by (with_reducible repeat (first | refine blk_drewN ?_ _ | refine blk_drew ?_ | refine blk_alloc ?_ _)); exact BK201.out) hb); have n4_ := Aside0.mk (below_step (by repeat (first | (with_reducible first | exact HB.out | apply below_alloc | apply pw_below_drewN | apply below_drew1 | refine below_set ?_ (IsS54.ge HI189.out) | refine below_set ?_ GE199.out | refine below_set ?_ GE200.out | refine below_set ?_ GE201.out) | exact HB.out)) hb); clear HI189; clear BK199; clear BK200; clear BK201; clear HB; have HI189 := n0_; have BK199 := n1_; have BK200 := n2_; have BK201 := n3_; have HB := n4_; clear n0_ n1_ n2_ n3_ n4_; (try clear hb); (try clear hb2); (try clear hk); (try clear hi); have hcz151_0 : w150.cell? ⟨gb199, 0, none⟩ = some (.int .i64 t190) := (blk_cell BK199.out 0).trans rfl; have hcz151_1 : w150.cell? ⟨gb199, 1, none⟩ = some (.int .i64 t191) := (blk_cell BK199.out 1).trans rfl; have hfz151_0 := blk_frozen BK199.out 0; have hfz151_1 := blk_frozen BK199.out 1; have hcz152_0 : w150.cell? ⟨gb200, 0, none⟩ = some (.int .i64 t193) := (blk_cell BK200.out 0).trans rfl; have hcz152_1 : w150.cell? ⟨gb200, 1, none⟩ = some (.int .i64 t194) := (blk_cell BK200.out 1).trans rfl; have hfz152_0 := blk_frozen BK200.out 0; have hfz152_1 := blk_frozen BK200.out 1) | (go_at_call 17; (with_reducible refine (ratio_Less.calls k t190 t191 t193 t194 t206 _ A44.out).mono ?_); rintro e w153 ⟨rfl, hb⟩; have n0_ := Aside0.mk (IsS54.below (by repeat (first | (with_reducible first | exact HI189.out | apply IsS54.alloc | apply IsS54.drewN | apply IsS54.drew | apply IsS54.set_1 | refine IsS54.far ?_ NB189_199.out _ | refine IsS54.far ?_ NB189_200.out _ | refine IsS54.far ?_ NB189_201.out _) | exact HI189.out)) hb); have n1_ := Aside0.mk (blk_below (g := gb199) (o := .cells #[.int .i64 t190, .int .i64 t191] 24 (0, 0)) (by (with_reducible repeat (first | refine blk_drewN ?_ _ | refine blk_drew ?_ | refine blk_alloc ?_ _)); exact BK199.out) hb); have n2_ := Aside0.mk (blk_below (g := gb200) (o := .cells #[.int .i64 t193, .int .i64 t194] 24 (0, 0)) (by (with_reducible repeat (first | refine blk_drewN ?_ _ | refine blk_drew ?_ | refine blk_alloc ?_ _)); exact BK200.out) hb); have n3_ := Aside0.mk (blk_below (g := gb201) (o := .cells #[.int .i64 t196, .int .i64 t197] 24 (0, 0)) (by (with_reducible repeat (first | refine blk_drewN ?_ _ | refine blk_drew ?_ | refine blk_alloc ?_ _)); exact BK201.out) hb); have n4_ := Aside0.mk (below_step (by repeat (first | (with_reducible first | exact HB.out | apply below_alloc | apply pw_below_drewN | apply below_drew1 | refine below_set ?_ (IsS54.ge HI189.out) | refine below_set ?_ GE199.out | refine below_set ?_ GE200.out | refine below_set ?_ GE201.out) | exact HB.out)) hb); clear HI189; clear BK199; clear BK200; clear BK201; clear HB; have HI189 := n0_; have BK199 := n1_; have BK200 := n2_; have BK201 := n3_; have HB := n4_; clear n0_ n1_ n2_ n3_ n4_; (try clear hb); (try clear hb2); (try clear hk); (try clear hi)))
                go_meet
                case rel => exact ⟨_, (decide (t204 < 0)), (by first | rfl | (simp; done) | (simp [*]; done)), H', ⟨by first | omega | exact Nat.le_refl _⟩, ⟨by (with_reducible repeat (first | refine blk_drewN ?_ _ | refine blk_drew ?_ | refine blk_alloc ?_ _)); exact BK199.out⟩, ⟨by (with_reducible repeat (first | refine blk_drewN ?_ _ | refine blk_drew ?_ | refine blk_alloc ?_ _)); exact BK200.out⟩, ⟨by (with_reducible repeat (first | refine blk_drewN ?_ _ | refine blk_drew ?_ | refine blk_alloc ?_ _)); exact BK201.out⟩, ⟨by repeat (first | (with_reducible first | exact HB.out | apply below_alloc | apply pw_below_drewN | apply below_drew1 | refine below_set ?_ (IsS54.ge HI189.out) | refine below_set ?_ GE199.out | refine below_set ?_ GE200.out | refine below_set ?_ GE201.out) | exact HB.out)⟩⟩
              · rw [if_neg c142] at H
                have c142b0 : decide (0 ≤ t203) = false := decide_eq_false c142
                clear c142
                have H' := Aside0.mk H
                clear H
                have hnb154 := NB200_199.out
                have hnc154 := NB199_200.out
                have hnb155 := NB200_201.out
                have hnc155 := NB201_200.out
                have hnb156 := NB200_189.out
                have hnc156 := NB189_200.out
                have hcz157_0 : w30.cell? ⟨gb200, 0, none⟩ = some (.int .i64 t193) := (blk_cell BK200.out 0).trans rfl
                have hcz157_1 : w30.cell? ⟨gb200, 1, none⟩ = some (.int .i64 t194) := (blk_cell BK200.out 1).trans rfl
                have hfz157_0 := blk_frozen BK200.out 0
                have hfz157_1 := blk_frozen BK200.out 1
                have hnb158 := NB199_201.out
                have hnc158 := NB201_199.out
                have hnb159 := NB199_189.out
                have hnc159 := NB189_199.out
                have hcz160_0 : w30.cell? ⟨gb199, 0, none⟩ = some (.int .i64 t190) := (blk_cell BK199.out 0).trans rfl
                have hcz160_1 : w30.cell? ⟨gb199, 1, none⟩ = some (.int .i64 t191) := (blk_cell BK199.out 1).trans rfl
                have hfz160_0 := blk_frozen BK199.out 0
                have hfz160_1 := blk_frozen BK199.out 1
                go_wp2_with (first | ((with_reducible refine gate_callee (f := 16) rfl ?_); refine goesL_ (some 30) rfl rfl Tryd.func16 (by kernel_rfl) rfl #[.agg #[.int .i64 t193, .int .i64 t194], .agg #[.int .i64 t190, .int .i64 t191]] rfl (by (try simp only [List.map_toArray, List.map_cons, List.map_nil]); first | done | rfl | (simp only [List.length_drop, List.length_take]; rfl)) ?_; (with_reducible refine (ratio_Cmp.calls k t193 t194 t190 t191 t205 _ A31.out).mono ?_); rintro e w161 ⟨rfl, hb⟩; refine ⟨_, rfl, ?_⟩; have n0_ := Aside0.mk (IsS54.below (by repeat (first | (with_reducible first | exact HI189.out | apply IsS54.alloc | apply IsS54.drewN | apply IsS54.drew | apply IsS54.set_1 | refine IsS54.far ?_ NB189_199.out _ | refine IsS54.far ?_ NB189_200.out _ | refine IsS54.far ?_ NB189_201.out _) | exact HI189.out)) hb); have n1_ := Aside0.mk (blk_below (g := gb199) (o := .cells #[.int .i64 t190, .int .i64 t191] 24 (0, 0)) (by (with_reducible repeat (first | refine blk_drewN ?_ _ | refine blk_drew ?_ | refine blk_alloc ?_ _)); exact BK199.out) hb); have n2_ := Aside0.mk (blk_below (g := gb200) (o := .cells #[.int .i64 t193, .int .i64 t194] 24 (0, 0)) (by (with_reducible repeat (first | refine blk_drewN ?_ _ | refine blk_drew ?_ | refine blk_alloc ?_ _)); exact BK200.out) hb); have n3_ := Aside0.mk (blk_below (g := gb201) (o := .cells #[.int .i64 t196, .int .i64 t197] 24 (0, 0)) (by (with_reducible repeat (first | refine blk_drewN ?_ _ | refine blk_drew ?_ | refine blk_alloc ?_ _)); exact BK201.out) hb); have n4_ := Aside0.mk (below_step (by repeat (first | (with_reducible first | exact HB.out | apply below_alloc | apply pw_below_drewN | apply below_drew1 | refine below_set ?_ (IsS54.ge HI189.out) | refine below_set ?_ GE199.out | refine below_set ?_ GE200.out | refine below_set ?_ GE201.out) | exact HB.out)) hb); clear HI189; clear BK199; clear BK200; clear BK201; clear HB; have HI189 := n0_; have BK199 := n1_; have BK200 := n2_; have BK201 := n3_; have HB := n4_; clear n0_ n1_ n2_ n3_ n4_; (try clear hb); (try clear hb2); (try clear hk); (try clear hi); have hcz162_0 : w161.cell? ⟨gb199, 0, none⟩ = some (.int .i64 t190) := (blk_cell BK199.out 0).trans rfl; have hcz162_1 : w161.cell? ⟨gb199, 1, none⟩ = some (.int .i64 t191) := (blk_cell BK199.out 1).trans rfl; have hfz162_0 := blk_frozen BK199.out 0; have hfz162_1 := blk_frozen BK199.out 1; have hcz163_0 : w161.cell? ⟨gb200, 0, none⟩ = some (.int .i64 t193) := (blk_cell BK200.out 0).trans rfl; have hcz163_1 : w161.cell? ⟨gb200, 1, none⟩ = some (.int .i64 t194) := (blk_cell BK200.out 1).trans rfl; have hfz163_0 := blk_frozen BK200.out 0; have hfz163_1 := blk_frozen BK200.out 1) | (go_at_call 17; (with_reducible refine (ratio_Less.calls k t190 t191 t193 t194 t206 _ A44.out).mono ?_); rintro e w164 ⟨rfl, hb⟩; have n0_ := Aside0.mk (IsS54.below (by repeat (first | (with_reducible first | exact HI189.out | apply IsS54.alloc | apply IsS54.drewN | apply IsS54.drew | apply IsS54.set_1 | refine IsS54.far ?_ NB189_199.out _ | refine IsS54.far ?_ NB189_200.out _ | refine IsS54.far ?_ NB189_201.out _) | exact HI189.out)) hb); have n1_ := Aside0.mk (blk_below (g := gb199) (o := .cells #[.int .i64 t190, .int .i64 t191] 24 (0, 0)) (by (with_reducible repeat (first | refine blk_drewN ?_ _ | refine blk_drew ?_ | refine blk_alloc ?_ _)); exact BK199.out) hb); have n2_ := Aside0.mk (blk_below (g := gb200) (o := .cells #[.int .i64 t193, .int .i64 t194] 24 (0, 0)) (by (with_reducible repeat (first | refine blk_drewN ?_ _ | refine blk_drew ?_ | refine blk_alloc ?_ _)); exact BK200.out) hb); have n3_ := Aside0.mk (blk_below (g := gb201) (o := .cells #[.int .i64 t196, .int .i64 t197] 24 (0, 0)) (by (with_reducible repeat (first | refine blk_drewN ?_ _ | refine blk_drew ?_ | refine blk_alloc ?_ _)); exact BK201.out) hb); have n4_ := Aside0.mk (below_step (by repeat (first | (with_reducible first | exact HB.out | apply below_alloc | apply pw_below_drewN | apply below_drew1 | refine below_set ?_ (IsS54.ge HI189.out) | refine below_set ?_ GE199.out | refine below_set ?_ GE200.out | refine below_set ?_ GE201.out) | exact HB.out)) hb); clear HI189; clear BK199; clear BK200; clear BK201; clear HB; have HI189 := n0_; have BK199 := n1_; have BK200 := n2_; have BK201 := n3_; have HB := n4_; clear n0_ n1_ n2_ n3_ n4_; (try clear hb); (try clear hb2); (try clear hk); (try clear hi)))
                go_meet
                case rel => exact ⟨_, (false), (by first | rfl | (simp; done) | (simp [*]; done)), H', ⟨by first | omega | exact Nat.le_refl _⟩, ⟨by (with_reducible repeat (first | refine blk_drewN ?_ _ | refine blk_drew ?_ | refine blk_alloc ?_ _)); exact BK199.out⟩, ⟨by (with_reducible repeat (first | refine blk_drewN ?_ _ | refine blk_drew ?_ | refine blk_alloc ?_ _)); exact BK200.out⟩, ⟨by (with_reducible repeat (first | refine blk_drewN ?_ _ | refine blk_drew ?_ | refine blk_alloc ?_ _)); exact BK201.out⟩, ⟨by repeat (first | (with_reducible first | exact HB.out | apply below_alloc | apply pw_below_drewN | apply below_drew1 | refine below_set ?_ (IsS54.ge HI189.out) | refine below_set ?_ GE199.out | refine below_set ?_ GE200.out | refine below_set ?_ GE201.out) | exact HB.out)⟩⟩
            · rw [if_neg c141] at H
              have c141b0 : decide (0 ≤ t202) = false := decide_eq_false c141
              clear c141
              have H' := Aside0.mk H
              clear H
              have hnb165 := NB200_199.out
              have hnc165 := NB199_200.out
              have hnb166 := NB200_201.out
              have hnc166 := NB201_200.out
              have hnb167 := NB200_189.out
              have hnc167 := NB189_200.out
              have hcz168_0 : w30.cell? ⟨gb200, 0, none⟩ = some (.int .i64 t193) := (blk_cell BK200.out 0).trans rfl
              have hcz168_1 : w30.cell? ⟨gb200, 1, none⟩ = some (.int .i64 t194) := (blk_cell BK200.out 1).trans rfl
              have hfz168_0 := blk_frozen BK200.out 0
              have hfz168_1 := blk_frozen BK200.out 1
              have hnb169 := NB199_201.out
              have hnc169 := NB201_199.out
              have hnb170 := NB199_189.out
              have hnc170 := NB189_199.out
              have hcz171_0 : w30.cell? ⟨gb199, 0, none⟩ = some (.int .i64 t190) := (blk_cell BK199.out 0).trans rfl
              have hcz171_1 : w30.cell? ⟨gb199, 1, none⟩ = some (.int .i64 t191) := (blk_cell BK199.out 1).trans rfl
              have hfz171_0 := blk_frozen BK199.out 0
              have hfz171_1 := blk_frozen BK199.out 1
              go_wp2_with (first | ((with_reducible refine gate_callee (f := 16) rfl ?_); refine goesL_ (some 30) rfl rfl Tryd.func16 (by kernel_rfl) rfl #[.agg #[.int .i64 t193, .int .i64 t194], .agg #[.int .i64 t190, .int .i64 t191]] rfl (by (try simp only [List.map_toArray, List.map_cons, List.map_nil]); first | done | rfl | (simp only [List.length_drop, List.length_take]; rfl)) ?_; (with_reducible refine (ratio_Cmp.calls k t193 t194 t190 t191 t205 _ A31.out).mono ?_); rintro e w172 ⟨rfl, hb⟩; refine ⟨_, rfl, ?_⟩; have n0_ := Aside0.mk (IsS54.below (by repeat (first | (with_reducible first | exact HI189.out | apply IsS54.alloc | apply IsS54.drewN | apply IsS54.drew | apply IsS54.set_1 | refine IsS54.far ?_ NB189_199.out _ | refine IsS54.far ?_ NB189_200.out _ | refine IsS54.far ?_ NB189_201.out _) | exact HI189.out)) hb); have n1_ := Aside0.mk (blk_below (g := gb199) (o := .cells #[.int .i64 t190, .int .i64 t191] 24 (0, 0)) (by (with_reducible repeat (first | refine blk_drewN ?_ _ | refine blk_drew ?_ | refine blk_alloc ?_ _)); exact BK199.out) hb); have n2_ := Aside0.mk (blk_below (g := gb200) (o := .cells #[.int .i64 t193, .int .i64 t194] 24 (0, 0)) (by (with_reducible repeat (first | refine blk_drewN ?_ _ | refine blk_drew ?_ | refine blk_alloc ?_ _)); exact BK200.out) hb); have n3_ := Aside0.mk (blk_below (g := gb201) (o := .cells #[.int .i64 t196, .int .i64 t197] 24 (0, 0)) (by (with_reducible repeat (first | refine blk_drewN ?_ _ | refine blk_drew ?_ | refine blk_alloc ?_ _)); exact BK201.out) hb); have n4_ := Aside0.mk (below_step (by repeat (first | (with_reducible first | exact HB.out | apply below_alloc | apply pw_below_drewN | apply below_drew1 | refine below_set ?_ (IsS54.ge HI189.out) | refine below_set ?_ GE199.out | refine below_set ?_ GE200.out | refine below_set ?_ GE201.out) | exact HB.out)) hb); clear HI189; clear BK199; clear BK200; clear BK201; clear HB; have HI189 := n0_; have BK199 := n1_; have BK200 := n2_; have BK201 := n3_; have HB := n4_; clear n0_ n1_ n2_ n3_ n4_; (try clear hb); (try clear hb2); (try clear hk); (try clear hi); have hcz173_0 : w172.cell? ⟨gb199, 0, none⟩ = some (.int .i64 t190) := (blk_cell BK199.out 0).trans rfl; have hcz173_1 : w172.cell? ⟨gb199, 1, none⟩ = some (.int .i64 t191) := (blk_cell BK199.out 1).trans rfl; have hfz173_0 := blk_frozen BK199.out 0; have hfz173_1 := blk_frozen BK199.out 1; have hcz174_0 : w172.cell? ⟨gb200, 0, none⟩ = some (.int .i64 t193) := (blk_cell BK200.out 0).trans rfl; have hcz174_1 : w172.cell? ⟨gb200, 1, none⟩ = some (.int .i64 t194) := (blk_cell BK200.out 1).trans rfl; have hfz174_0 := blk_frozen BK200.out 0; have hfz174_1 := blk_frozen BK200.out 1) | (go_at_call 17; (with_reducible refine (ratio_Less.calls k t190 t191 t193 t194 t206 _ A44.out).mono ?_); rintro e w175 ⟨rfl, hb⟩; have n0_ := Aside0.mk (IsS54.below (by repeat (first | (with_reducible first | exact HI189.out | apply IsS54.alloc | apply IsS54.drewN | apply IsS54.drew | apply IsS54.set_1 | refine IsS54.far ?_ NB189_199.out _ | refine IsS54.far ?_ NB189_200.out _ | refine IsS54.far ?_ NB189_201.out _) | exact HI189.out)) hb); have n1_ := Aside0.mk (blk_below (g := gb199) (o := .cells #[.int .i64 t190, .int .i64 t191] 24 (0, 0)) (by (with_reducible repeat (first | refine blk_drewN ?_ _ | refine blk_drew ?_ | refine blk_alloc ?_ _)); exact BK199.out) hb); have n2_ := Aside0.mk (blk_below (g := gb200) (o := .cells #[.int .i64 t193, .int .i64 t194] 24 (0, 0)) (by (with_reducible repeat (first | refine blk_drewN ?_ _ | refine blk_drew ?_ | refine blk_alloc ?_ _)); exact BK200.out) hb); have n3_ := Aside0.mk (blk_below (g := gb201) (o := .cells #[.int .i64 t196, .int .i64 t197] 24 (0, 0)) (by (with_reducible repeat (first | refine blk_drewN ?_ _ | refine blk_drew ?_ | refine blk_alloc ?_ _)); exact BK201.out) hb); have n4_ := Aside0.mk (below_step (by repeat (first | (with_reducible first | exact HB.out | apply below_alloc | apply pw_below_drewN | apply below_drew1 | refine below_set ?_ (IsS54.ge HI189.out) | refine below_set ?_ GE199.out | refine below_set ?_ GE200.out | refine below_set ?_ GE201.out) | exact HB.out)) hb); clear HI189; clear BK199; clear BK200; clear BK201; clear HB; have HI189 := n0_; have BK199 := n1_; have BK200 := n2_; have BK201 := n3_; have HB := n4_; clear n0_ n1_ n2_ n3_ n4_; (try clear hb); (try clear hb2); (try clear hk); (try clear hi)))
              go_meet
              case rel => exact ⟨_, (false), (by first | rfl | (simp; done) | (simp [*]; done)), H', ⟨by first | omega | exact Nat.le_refl _⟩, ⟨by (with_reducible repeat (first | refine blk_drewN ?_ _ | refine blk_drew ?_ | refine blk_alloc ?_ _)); exact BK199.out⟩, ⟨by (with_reducible repeat (first | refine blk_drewN ?_ _ | refine blk_drew ?_ | refine blk_alloc ?_ _)); exact BK200.out⟩, ⟨by (with_reducible repeat (first | refine blk_drewN ?_ _ | refine blk_drew ?_ | refine blk_alloc ?_ _)); exact BK201.out⟩, ⟨by repeat (first | (with_reducible first | exact HB.out | apply below_alloc | apply pw_below_drewN | apply below_drew1 | refine below_set ?_ (IsS54.ge HI189.out) | refine below_set ?_ GE199.out | refine below_set ?_ GE200.out | refine below_set ?_ GE201.out) | exact HB.out)⟩⟩
    · rw [if_neg c32] at H
      have c32b0 : (t202 == (wrap64 (-t205))) = false := beq_eq_false_iff_ne.mpr c32
      have c32b1 : (t202 != (wrap64 (-t205))) = true := bne_iff_ne.mpr c32
      (first | rw [c32b0] | (simp only [i64_w, i32_w]; rw [c32b0]) | rw [c32b1] | skip)
      have H' := Aside0.mk H
      clear H
      have hnb176 := NB200_199.out
      have hnc176 := NB199_200.out
      have hnb177 := NB200_201.out
      have hnc177 := NB201_200.out
      have hnb178 := NB200_189.out
      have hnc178 := NB189_200.out
      have hcz179_0 : w30.cell? ⟨gb200, 0, none⟩ = some (.int .i64 t193) := (blk_cell BK200.out 0).trans rfl
      have hcz179_1 : w30.cell? ⟨gb200, 1, none⟩ = some (.int .i64 t194) := (blk_cell BK200.out 1).trans rfl
      have hfz179_0 := blk_frozen BK200.out 0
      have hfz179_1 := blk_frozen BK200.out 1
      have hnb180 := NB199_201.out
      have hnc180 := NB201_199.out
      have hnb181 := NB199_189.out
      have hnc181 := NB189_199.out
      have hcz182_0 : w30.cell? ⟨gb199, 0, none⟩ = some (.int .i64 t190) := (blk_cell BK199.out 0).trans rfl
      have hcz182_1 : w30.cell? ⟨gb199, 1, none⟩ = some (.int .i64 t191) := (blk_cell BK199.out 1).trans rfl
      have hfz182_0 := blk_frozen BK199.out 0
      have hfz182_1 := blk_frozen BK199.out 1
      go_wp2_with (first | ((with_reducible refine gate_callee (f := 16) rfl ?_); refine goesL_ (some 30) rfl rfl Tryd.func16 (by kernel_rfl) rfl #[.agg #[.int .i64 t193, .int .i64 t194], .agg #[.int .i64 t190, .int .i64 t191]] rfl (by (try simp only [List.map_toArray, List.map_cons, List.map_nil]); first | done | rfl | (simp only [List.length_drop, List.length_take]; rfl)) ?_; (with_reducible refine (ratio_Cmp.calls k t193 t194 t190 t191 t205 _ A31.out).mono ?_); rintro e w183 ⟨rfl, hb⟩; refine ⟨_, rfl, ?_⟩; have n0_ := Aside0.mk (IsS54.below (by repeat (first | (with_reducible first | exact HI189.out | apply IsS54.alloc | apply IsS54.drewN | apply IsS54.drew | apply IsS54.set_1 | refine IsS54.far ?_ NB189_199.out _ | refine IsS54.far ?_ NB189_200.out _ | refine IsS54.far ?_ NB189_201.out _) | exact HI189.out)) hb); have n1_ := Aside0.mk (blk_below (g := gb199) (o := .cells #[.int .i64 t190, .int .i64 t191] 24 (0, 0)) (by (with_reducible repeat (first | refine blk_drewN ?_ _ | refine blk_drew ?_ | refine blk_alloc ?_ _)); exact BK199.out) hb); have n2_ := Aside0.mk (blk_below (g := gb200) (o := .cells #[.int .i64 t193, .int .i64 t194] 24 (0, 0)) (by (with_reducible repeat (first | refine blk_drewN ?_ _ | refine blk_drew ?_ | refine blk_alloc ?_ _)); exact BK200.out) hb); have n3_ := Aside0.mk (blk_below (g := gb201) (o := .cells #[.int .i64 t196, .int .i64 t197] 24 (0, 0)) (by (with_reducible repeat (first | refine blk_drewN ?_ _ | refine blk_drew ?_ | refine blk_alloc ?_ _)); exact BK201.out) hb); have n4_ := Aside0.mk (below_step (by repeat (first | (with_reducible first | exact HB.out | apply below_alloc | apply pw_below_drewN | apply below_drew1 | refine below_set ?_ (IsS54.ge HI189.out) | refine below_set ?_ GE199.out | refine below_set ?_ GE200.out | refine below_set ?_ GE201.out) | exact HB.out)) hb); clear HI189; clear BK199; clear BK200; clear BK201; clear HB; have HI189 := n0_; have BK199 := n1_; have BK200 := n2_; have BK201 := n3_; have HB := n4_; clear n0_ n1_ n2_ n3_ n4_; (try clear hb); (try clear hb2); (try clear hk); (try clear hi)))
      go_meet
      case rel => exact ⟨_, (true), (by first | rfl | (simp; done) | (simp [*]; done)), H', ⟨by first | omega | exact Nat.le_refl _⟩, ⟨by (with_reducible repeat (first | refine blk_drewN ?_ _ | refine blk_drew ?_ | refine blk_alloc ?_ _)); exact BK199.out⟩, ⟨by (with_reducible repeat (first | refine blk_drewN ?_ _ | refine blk_drew ?_ | refine blk_alloc ?_ _)); exact BK200.out⟩, ⟨by (with_reducible repeat (first | refine blk_drewN ?_ _ | refine blk_drew ?_ | refine blk_alloc ?_ _)); exact BK201.out⟩, ⟨by repeat (first | (with_reducible first | exact HB.out | apply below_alloc | apply pw_below_drewN | apply below_drew1 | refine below_set ?_ (IsS54.ge HI189.out) | refine below_set ?_ GE199.out | refine below_set ?_ GE200.out | refine below_set ?_ GE201.out) | exact HB.out)⟩⟩
  case rest =>
    clear HC9
    try clear c1
    try clear p2
    try clear c3
    try clear c4
    try clear c5
    try clear c6
    try clear p6
    try clear c7
    try clear c8
    try clear c9
    try clear c10
    try clear c11
    try clear c12
    try clear c13
    try clear c14
    try clear c15
    try clear c16
    try clear c17
    try clear c18
    try clear c32
    try clear c32b0
    try clear c32b1
    try clear c33
    try clear c33b0
    try clear c33b1
    try clear c33b2
    try clear c34
    try clear c35
    try clear c36
    try clear c38
    try clear c39
    try clear c45
    try clear c45b0
    try clear c45b1
    try clear c45b2
    try clear c46
    try clear c47
    try clear c48
    try clear c50
    try clear c51
    try clear c57
    try clear c57b0
    try clear c58
    try clear c58b0
    try clear c59
    try clear c59b0
    try clear c60
    try clear c61
    try clear c62
    try clear c64
    try clear p64
    try clear c65
    try clear c71
    try clear c71b0
    try clear c72
    try clear c72b0
    try clear c73
    try clear c74
    try clear c75
    try clear c77
    try clear c78
    try clear c84
    try clear c85
    try clear c86
    try clear c88
    try clear c89
    try clear c95
    try clear c96
    try clear c97
    try clear c99
    try clear c100
    try clear c106
    try clear c106b0
    try clear c107
    try clear c107b0
    try clear c108
    try clear c109
    try clear c110
    try clear c112
    try clear c113
    try clear c119
    try clear c120
    try clear c121
    try clear c123
    try clear c124
    try clear c130
    try clear c131
    try clear c132
    try clear c134
    try clear c135
    try clear c141
    try clear c141b0
    try clear c142
    try clear c142b0
    try clear c143
    try clear c144
    try clear c145
    try clear c147
    try clear c148
    try clear c154
    try clear c155
    try clear c156
    try clear c158
    try clear c159
    try clear c165
    try clear c166
    try clear c167
    try clear c169
    try clear c170
    try clear c176
    try clear c177
    try clear c178
    try clear c180
    try clear c181
    try clear hcz101_0
    try clear hcz101_1
    try clear hcz103_0
    try clear hcz103_1
    try clear hcz104_0
    try clear hcz104_1
    try clear hcz111_0
    try clear hcz111_1
    try clear hcz114_0
    try clear hcz114_1
    try clear hcz116_0
    try clear hcz116_1
    try clear hcz117_0
    try clear hcz117_1
    try clear hcz122_0
    try clear hcz122_1
    try clear hcz125_0
    try clear hcz125_1
    try clear hcz127_0
    try clear hcz127_1
    try clear hcz128_0
    try clear hcz128_1
    try clear hcz133_0
    try clear hcz133_1
    try clear hcz136_0
    try clear hcz136_1
    try clear hcz138_0
    try clear hcz138_1
    try clear hcz139_0
    try clear hcz139_1
    try clear hcz146_0
    try clear hcz146_1
    try clear hcz149_0
    try clear hcz149_1
    try clear hcz151_0
    try clear hcz151_1
    try clear hcz152_0
    try clear hcz152_1
    try clear hcz157_0
    try clear hcz157_1
    try clear hcz160_0
    try clear hcz160_1
    try clear hcz162_0
    try clear hcz162_1
    try clear hcz163_0
    try clear hcz163_1
    try clear hcz168_0
    try clear hcz168_1
    try clear hcz171_0
    try clear hcz171_1
    try clear hcz173_0
    try clear hcz173_1
    try clear hcz174_0
    try clear hcz174_1
    try clear hcz179_0
    try clear hcz179_1
    try clear hcz182_0
    try clear hcz182_1
    try clear hcz37_0
    try clear hcz37_1
    try clear hcz40_0
    try clear hcz40_1
    try clear hcz42_0
    try clear hcz42_1
    try clear hcz43_0
    try clear hcz43_1
    try clear hcz49_0
    try clear hcz49_1
    try clear hcz52_0
    try clear hcz52_1
    try clear hcz54_0
    try clear hcz54_1
    try clear hcz55_0
    try clear hcz55_1
    try clear hcz63_0
    try clear hcz63_1
    try clear hcz66_0
    try clear hcz66_1
    try clear hcz68_0
    try clear hcz68_1
    try clear hcz69_0
    try clear hcz69_1
    try clear hcz76_0
    try clear hcz76_1
    try clear hcz79_0
    try clear hcz79_1
    try clear hcz81_0
    try clear hcz81_1
    try clear hcz82_0
    try clear hcz82_1
    try clear hcz87_0
    try clear hcz87_1
    try clear hcz90_0
    try clear hcz90_1
    try clear hcz92_0
    try clear hcz92_1
    try clear hcz93_0
    try clear hcz93_1
    try clear hcz98_0
    try clear hcz98_1
    try clear hfz101_0
    try clear hfz101_1
    try clear hfz103_0
    try clear hfz103_1
    try clear hfz104_0
    try clear hfz104_1
    try clear hfz111_0
    try clear hfz111_1
    try clear hfz114_0
    try clear hfz114_1
    try clear hfz116_0
    try clear hfz116_1
    try clear hfz117_0
    try clear hfz117_1
    try clear hfz122_0
    try clear hfz122_1
    try clear hfz125_0
    try clear hfz125_1
    try clear hfz127_0
    try clear hfz127_1
    try clear hfz128_0
    try clear hfz128_1
    try clear hfz133_0
    try clear hfz133_1
    try clear hfz136_0
    try clear hfz136_1
    try clear hfz138_0
    try clear hfz138_1
    try clear hfz139_0
    try clear hfz139_1
    try clear hfz146_0
    try clear hfz146_1
    try clear hfz149_0
    try clear hfz149_1
    try clear hfz151_0
    try clear hfz151_1
    try clear hfz152_0
    try clear hfz152_1
    try clear hfz157_0
    try clear hfz157_1
    try clear hfz160_0
    try clear hfz160_1
    try clear hfz162_0
    try clear hfz162_1
    try clear hfz163_0
    try clear hfz163_1
    try clear hfz168_0
    try clear hfz168_1
    try clear hfz171_0
    try clear hfz171_1
    try clear hfz173_0
    try clear hfz173_1
    try clear hfz174_0
    try clear hfz174_1
    try clear hfz179_0
    try clear hfz179_1
    try clear hfz182_0
    try clear hfz182_1
    try clear hfz37_0
    try clear hfz37_1
    try clear hfz40_0
    try clear hfz40_1
    try clear hfz42_0
    try clear hfz42_1
    try clear hfz43_0
    try clear hfz43_1
    try clear hfz49_0
    try clear hfz49_1
    try clear hfz52_0
    try clear hfz52_1
    try clear hfz54_0
    try clear hfz54_1
    try clear hfz55_0
    try clear hfz55_1
    try clear hfz63_0
    try clear hfz63_1
    try clear hfz66_0
    try clear hfz66_1
    try clear hfz68_0
    try clear hfz68_1
    try clear hfz69_0
    try clear hfz69_1
    try clear hfz76_0
    try clear hfz76_1
    try clear hfz79_0
    try clear hfz79_1
    try clear hfz81_0
    try clear hfz81_1
    try clear hfz82_0
    try clear hfz82_1
    try clear hfz87_0
    try clear hfz87_1
    try clear hfz90_0
    try clear hfz90_1
    try clear hfz92_0
    try clear hfz92_1
    try clear hfz93_0
    try clear hfz93_1
    try clear hfz98_0
    try clear hfz98_1
    obtain ⟨kq, x72_8, rfl, HA, HJ8, BK199, BK200, BK201, HB⟩ := hcut
    cases kq with
    | zero => exact absurd HA.out (by simp [shapesearchlaw01_RatioOrders.j0])
    | succ kj8 =>
      have H := HA.out
      clear HA
      simp only [shapesearchlaw01_RatioOrders.j0] at H
      by_cases c184 : x72_8 = true
      · subst c184
        have H1 : (none) = some r := by rw [if_pos rfl] at H; exact H
        clear H
        have H := H1
        clear H1
        exact absurd H (by simp)
      · replace c184 := Bool.eq_false_iff.mpr c184
        subst c184
        have H1 : ((ratio_Cmp.f kj8 t190 t191 t190 t191).bind fun t207 => (if t207 = 0 then ((shapesearchlaw01_awake.f kj8).bind fun t208 => (some t208)) else (none))) = some r := by rw [if_neg (show ¬ (false = true) by decide)] at H; exact H
        clear H
        have H := H1
        clear H1
        replace H := Option.bind_eq_some_iff.mp H
        obtain ⟨t207, A1850, H⟩ := H
        replace H : (if t207 = 0 then ((shapesearchlaw01_awake.f kj8).bind fun t208 => (some t208)) else (none)) = some r := H
        have A185 := Aside0.mk A1850
        clear A1850
        by_cases c186 : t207 = 0
        · rw [if_pos c186] at H
          have c186b0 : (t207 == 0) = true := beq_iff_eq.mpr c186
          have c186b1 : (t207 != 0) = false := bne_eq_false_iff_eq.mpr c186
          clear c186
          replace H := Option.bind_eq_some_iff.mp H
          obtain ⟨t208, A1870, H⟩ := H
          replace H : (some t208) = some r := H
          have A187 := Aside0.mk A1870
          clear A1870
          obtain rfl := Option.some.inj H
          have hnb188 := NB199_200.out
          have hnc188 := NB200_199.out
          have hnb189 := NB199_201.out
          have hnc189 := NB201_199.out
          have hcz190_0 : wc.cell? ⟨gb199, 0, none⟩ = some (.int .i64 t190) := (blk_cell BK199.out 0).trans rfl
          have hcz190_1 : wc.cell? ⟨gb199, 1, none⟩ = some (.int .i64 t191) := (blk_cell BK199.out 1).trans rfl
          have hfz190_0 := blk_frozen BK199.out 0
          have hfz190_1 := blk_frozen BK199.out 1
          go_wp2_with (first | ((with_reducible refine gate_callee (f := 16) rfl ?_); refine goesL_ (some 75) rfl rfl Tryd.func16 (by kernel_rfl) rfl #[.agg #[.int .i64 t190, .int .i64 t191], .agg #[.int .i64 t190, .int .i64 t191]] rfl (by (try simp only [List.map_toArray, List.map_cons, List.map_nil]); first | done | rfl | (simp only [List.length_drop, List.length_take]; rfl)) ?_; (with_reducible refine (ratio_Cmp.calls kj8 t190 t191 t190 t191 t207 _ A185.out).mono ?_); rintro e w191 ⟨rfl, hb⟩; refine ⟨_, rfl, ?_⟩; have n0_ := Aside0.mk (blk_below (g := gb199) (o := .cells #[.int .i64 t190, .int .i64 t191] 24 (0, 0)) (by (with_reducible repeat (first | refine blk_drewN ?_ _ | refine blk_drew ?_ | refine blk_alloc ?_ _)); exact BK199.out) hb); have n1_ := Aside0.mk (blk_below (g := gb200) (o := .cells #[.int .i64 t193, .int .i64 t194] 24 (0, 0)) (by (with_reducible repeat (first | refine blk_drewN ?_ _ | refine blk_drew ?_ | refine blk_alloc ?_ _)); exact BK200.out) hb); have n2_ := Aside0.mk (blk_below (g := gb201) (o := .cells #[.int .i64 t196, .int .i64 t197] 24 (0, 0)) (by (with_reducible repeat (first | refine blk_drewN ?_ _ | refine blk_drew ?_ | refine blk_alloc ?_ _)); exact BK201.out) hb); have n3_ := Aside0.mk (below_step (by repeat (first | (with_reducible first | exact HB.out | apply below_alloc | apply pw_below_drewN | apply below_drew1 | refine below_set ?_ GE199.out | refine below_set ?_ GE200.out | refine below_set ?_ GE201.out) | exact HB.out)) hb); clear BK199; clear BK200; clear BK201; clear HB; have BK199 := n0_; have BK200 := n1_; have BK201 := n2_; have HB := n3_; clear n0_ n1_ n2_ n3_; (try clear hb); (try clear hb2); (try clear hk); (try clear hi)) | (go_at_call 13; (with_reducible refine (shapesearchlaw01_awake.calls kj8  t208 _ A187.out).mono ?_); rintro e w192 ⟨rfl, hb⟩; have n0_ := Aside0.mk (blk_below (g := gb199) (o := .cells #[.int .i64 t190, .int .i64 t191] 24 (0, 0)) (by (with_reducible repeat (first | refine blk_drewN ?_ _ | refine blk_drew ?_ | refine blk_alloc ?_ _)); exact BK199.out) hb); have n1_ := Aside0.mk (blk_below (g := gb200) (o := .cells #[.int .i64 t193, .int .i64 t194] 24 (0, 0)) (by (with_reducible repeat (first | refine blk_drewN ?_ _ | refine blk_drew ?_ | refine blk_alloc ?_ _)); exact BK200.out) hb); have n2_ := Aside0.mk (blk_below (g := gb201) (o := .cells #[.int .i64 t196, .int .i64 t197] 24 (0, 0)) (by (with_reducible repeat (first | refine blk_drewN ?_ _ | refine blk_drew ?_ | refine blk_alloc ?_ _)); exact BK201.out) hb); have n3_ := Aside0.mk (below_step (by repeat (first | (with_reducible first | exact HB.out | apply below_alloc | apply pw_below_drewN | apply below_drew1 | refine below_set ?_ GE199.out | refine below_set ?_ GE200.out | refine below_set ?_ GE201.out) | exact HB.out)) hb); clear BK199; clear BK200; clear BK201; clear HB; have BK199 := n0_; have BK200 := n1_; have BK201 := n2_; have HB := n3_; clear n0_ n1_ n2_ n3_; (try clear hb); (try clear hb2); (try clear hk); (try clear hi)))
          go_ret
          exact ⟨by first | rfl | (simp [errW_none, errW_some] <;> rfl) | (simp [*, errW_none, errW_some] <;> rfl), by repeat (first | (with_reducible first | exact HB.out | apply below_alloc | apply pw_below_drewN | apply below_drew1 | refine below_set ?_ GE199.out | refine below_set ?_ GE200.out | refine below_set ?_ GE201.out) | exact HB.out)⟩
        · rw [if_neg c186] at H
          exact absurd H (by simp)

/-- THE ONE PURE STATEMENT of shapesearchlaw01_RatioOrders: yours. -/
def shapesearchlaw01_RatioOrders.Pure : Prop := ∀ (l0 : List Int), l0.length ≤ maxLen → l0.length * 8 ≤ 140737488351232 → (∀ x ∈ l0, (Lit.int .i64 x).wf = true) → ∃ k, shapesearchlaw01_RatioOrders.f k l0 = some true
theorem shapesearchlaw01_RatioOrders.walk (P : shapesearchlaw01_RatioOrders.Pure) (a0 : Option Addr) (len0 cap0 : Nat) (z0 : List Int) (w : World) (w0 : (a0 = none ∧ len0 = 0 ∧ cap0 = 0 ∧ z0 = []) ∨ ∃ x, a0 = some x ∧ len0 ≤ cap0 ∧ cap0 ≤ maxLen ∧ z0.length = cap0 ∧ (∀ i, i < z0.length → w.cell? (x.add i) = some (.int .i64 (z0.getD i 0))) ∧ ∀ n ∈ z0, (Lit.int .i64 n).wf = true) (y0 : len0 * 8 ≤ 140737488351232) :
    Calls Tryd.prog 4 #[.slice a0 len0 cap0] w fun e w' => e = .returned (.bool true) ∧ Below w.heap.size w w' := by
  obtain ⟨l0, rfl, hr0, hm0, hw0, hc0⟩ := ReadsInt.ofRowC w0
  obtain ⟨k, h⟩ := P l0 hm0 y0 hw0
  refine (shapesearchlaw01_RatioOrders.calls k _ _ l0 true w (Kd.C_of_reads (d := (0 : Int)) (h1 := fun _ => rfl) hr0) hc0 h).mono ?_
  rintro e w' ⟨rfl, hd⟩
  exact ⟨rfl, hd⟩

end Go.Proofs.YtdfdecpplnjdcaaDoor.Hp
