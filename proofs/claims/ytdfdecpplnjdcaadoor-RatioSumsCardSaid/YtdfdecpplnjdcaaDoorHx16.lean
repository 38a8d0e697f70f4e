-- Written by wip/tools/hprint.py of this session, over the kit's print with hand-made contracts; Lean checks it.
import Derived.Test.YtdfdecpplnjdcaaDoorHx0
import Derived.Test.YtdfdecpplnjdcaaDoorHx1
import Derived.Test.YtdfdecpplnjdcaaDoorHx4
import Derived.Test.YtdfdecpplnjdcaaDoorHx6
import Derived.Test.YtdfdecpplnjdcaaDoorHx8
import Derived.Test.YtdfdecpplnjdcaaDoorHx9
import Derived.Test.YtdfdecpplnjdcaaDoorHx11
import Derived.Test.YtdfdecpplnjdcaaDoorHx12
import Derived.Test.YtdfdecpplnjdcaaDoorHx13
namespace Go.Proofs.YtdfdecpplnjdcaaDoor.Hp
open Go.RowKit Go.Proofs.YtdfdecpplnjdcaaDoorW.PrintWords Go.Proofs.YtdfdecpplnjdcaaDoorW.PrintLast Go.Proofs.YtdfdecpplnjdcaaDoorW.PrintMore
attribute [local go_sem] max2_int min2_int max_two min_two max_three min_three max_four min_four   -- for this text's walks alone
attribute [local go_sem] i64_w
set_option linter.unusedVariables false
set_option linter.unusedSimpArgs false

attribute [local go_sem high] eqA24
/-! ### shapesearchlaw01_RatioSums: function 6 -/
mutual
def shapesearchlaw01_RatioSums.j0 : Nat → Int → Bool → Int → Int → Int → Int → Int → Int → Int → Int → Option (Bool)
  | 0, _, _, _, _, _, _, _, _, _, _ => none
  | k + 1, x8, x63, x234000, x234001, x235000, x235001, x236000, x236001, x240000, x240001 => if x63 = true then (none) else ((ratio_Add.f k x240000 x240001 x236000 x236001).bind fun bt248 => ((ratio_Add.f k x235000 x235001 x236000 x236001).bind fun bt252 => ((ratio_Add.f k x234000 x234001 bt252.1 bt252.2.1).bind fun bt256 => (if x8 = 0 then (if bt248.2.2 = 0 then (if bt252.2.2 = 0 then (if bt256.2.2 = 0 then (shapesearchlaw01_RatioSums.j1 k x8 bt252.2.2 (!(bt248.1 == bt256.1) || (!(bt248.2.1 == bt256.2.1))) x234000 x234001 x235000 x235001 x236000 x236001 x240000 x240001 bt252.1 bt252.2.1) else (shapesearchlaw01_RatioSums.j1 k x8 bt252.2.2 false x234000 x234001 x235000 x235001 x236000 x236001 x240000 x240001 bt252.1 bt252.2.1)) else (shapesearchlaw01_RatioSums.j1 k x8 bt252.2.2 false x234000 x234001 x235000 x235001 x236000 x236001 x240000 x240001 bt252.1 bt252.2.1)) else (shapesearchlaw01_RatioSums.j1 k x8 bt252.2.2 false x234000 x234001 x235000 x235001 x236000 x236001 x240000 x240001 bt252.1 bt252.2.1)) else (shapesearchlaw01_RatioSums.j1 k x8 bt252.2.2 false x234000 x234001 x235000 x235001 x236000 x236001 x240000 x240001 bt252.1 bt252.2.1)))))
def shapesearchlaw01_RatioSums.j1 : Nat → Int → Int → Bool → Int → Int → Int → Int → Int → Int → Int → Int → Int → Int → Option (Bool)
  | 0, _, _, _, _, _, _, _, _, _, _, _, _, _ => none
  | k + 1, x8, x16, x100, x234000, x234001, x235000, x235001, x236000, x236001, x240000, x240001, x256000, x256001 => if x100 = true then (none) else ((ratio_Add.f k x234000 x234001 x236000 x236001).bind fun bt260 => (if bt260.2.2 = 0 then (if x16 = 0 then ((ratio_Cmp.f k bt260.1 bt260.2.1 x256000 x256001).bind fun t264 => ((ratio_Cmp.f k x234000 x234001 x235000 x235001).bind fun t265 => (shapesearchlaw01_RatioSums.j2 k x8 (t264 != t265) x234000 x234001 x240000 x240001))) else (shapesearchlaw01_RatioSums.j2 k x8 false x234000 x234001 x240000 x240001)) else (shapesearchlaw01_RatioSums.j2 k x8 false x234000 x234001 x240000 x240001)))
def shapesearchlaw01_RatioSums.j2 : Nat → Int → Bool → Int → Int → Int → Int → Option (Bool)
  | 0, _, _, _, _, _, _ => none
  | k + 1, x8, x121, x234000, x234001, x240000, x240001 => if x121 = true then (none) else (if x8 = 0 then ((ratio_Valid.f k x240000 x240001).bind fun t266 => (if t266 = true then ((ratio_Less.f k x240000 x240001 x234000 x234001).bind fun t267 => (if t267 = true then (none) else ((shapesearchlaw01_awake.f k).bind fun t268 => (some t268)))) else (none))) else ((shapesearchlaw01_awake.f k).bind fun t269 => (some t269)))
end
def shapesearchlaw01_RatioSums.f (k : Nat) (l0 : List Int) : Option (Bool) := (shapesearchkeep_New.f l0).bind fun bt221 => ((shapesearchkeep_Src_Ratio.f k bt221.1 bt221.2).bind fun bt224 => ((shapesearchkeep_Src_Ratio.f k bt221.1 bt224.2.2).bind fun bt227 => ((shapesearchkeep_Src_Ratio.f k bt221.1 bt227.2.2).bind fun bt230 => ((ratio_Add.f k bt224.1 bt224.2.1 bt227.1 bt227.2.1).bind fun bt236 => ((ratio_Add.f k bt227.1 bt227.2.1 bt224.1 bt224.2.1).bind fun bt240 => ((ratio_Add.f k bt224.1 bt224.2.1 0 1).bind fun bt244 => (if (!(bt236.1 == bt240.1) || (!(bt236.2.1 == bt240.2.1))) = true then (shapesearchlaw01_RatioSums.j0 k bt236.2.2 true bt224.1 bt224.2.1 bt227.1 bt227.2.1 bt230.1 bt230.2.1 bt236.1 bt236.2.1) else (if bt236.2.2 = bt240.2.2 then (if (!(bt244.1 == bt224.1) || (!(bt244.2.1 == bt224.2.1))) = true then (shapesearchlaw01_RatioSums.j0 k bt236.2.2 true bt224.1 bt224.2.1 bt227.1 bt227.2.1 bt230.1 bt230.2.1 bt236.1 bt236.2.1) else (shapesearchlaw01_RatioSums.j0 k bt236.2.2 (bt244.2.2 != 0) bt224.1 bt224.2.1 bt227.1 bt227.2.1 bt230.1 bt230.2.1 bt236.1 bt236.2.1)) else (shapesearchlaw01_RatioSums.j0 k bt236.2.2 true bt224.1 bt224.2.1 bt227.1 bt227.2.1 bt230.1 bt230.2.1 bt236.1 bt236.2.1)))))))))
theorem shapesearchlaw01_RatioSums.mono_l : ∀ k, (∀ y0 y1 y2 y3 y4 y5 y6 y7 y8 y9, LeO (shapesearchlaw01_RatioSums.j0 k y0 y1 y2 y3 y4 y5 y6 y7 y8 y9) (shapesearchlaw01_RatioSums.j0 (k + 1) y0 y1 y2 y3 y4 y5 y6 y7 y8 y9)) ∧ (∀ y0 y1 y2 y3 y4 y5 y6 y7 y8 y9 y10 y11 y12, LeO (shapesearchlaw01_RatioSums.j1 k y0 y1 y2 y3 y4 y5 y6 y7 y8 y9 y10 y11 y12) (shapesearchlaw01_RatioSums.j1 (k + 1) y0 y1 y2 y3 y4 y5 y6 y7 y8 y9 y10 y11 y12)) ∧ (∀ y0 y1 y2 y3 y4 y5, LeO (shapesearchlaw01_RatioSums.j2 k y0 y1 y2 y3 y4 y5) (shapesearchlaw01_RatioSums.j2 (k + 1) y0 y1 y2 y3 y4 y5))
  | 0 => ⟨fun _ _ _ _ _ _ _ _ _ _ r h => by simp [shapesearchlaw01_RatioSums.j0] at h, fun _ _ _ _ _ _ _ _ _ _ _ _ _ r h => by simp [shapesearchlaw01_RatioSums.j1] at h, fun _ _ _ _ _ _ r h => by simp [shapesearchlaw01_RatioSums.j2] at h⟩
  | k + 1 => by
    obtain ⟨ih0, ih1, ih2⟩ := shapesearchlaw01_RatioSums.mono_l k
    refine ⟨?_, ?_, ?_⟩
    · intro y0 y1 y2 y3 y4 y5 y6 y7 y8 y9
      unfold shapesearchlaw01_RatioSums.j0
      repeat' first
      | (with_reducible exact ih0 _ _ _ _ _ _ _ _ _ _)
      | (with_reducible exact ih1 _ _ _ _ _ _ _ _ _ _ _ _ _)
      | (with_reducible exact ih2 _ _ _ _ _ _)
      | (with_reducible exact ratio_Add.mono _ _ _ _ _)
      | (with_reducible exact ratio_Cmp.mono _ _ _ _ _)
      | (with_reducible exact ratio_Less.mono _ _ _ _ _)
      | (with_reducible exact ratio_Valid.mono _ _ _)
      | (with_reducible exact shapesearchkeep_Src_Ratio.mono _ _ _)
      | (with_reducible exact shapesearchlaw01_awake.mono _)
      | (with_reducible exact LeO.refl _)
      | (with_reducible exact LeO.none _)
      | (with_reducible refine LeO.ite ?_ ?_)
      | (with_reducible refine LeO.bind ?_ (fun _ => ?_))
      | exact ih0 _ _ _ _ _ _ _ _ _ _
      | exact ih1 _ _ _ _ _ _ _ _ _ _ _ _ _
      | exact ih2 _ _ _ _ _ _
      | exact ratio_Add.mono _ _ _ _ _
      | exact ratio_Cmp.mono _ _ _ _ _
      | exact ratio_Less.mono _ _ _ _ _
      | exact ratio_Valid.mono _ _ _
      | exact shapesearchkeep_Src_Ratio.mono _ _ _
      | exact shapesearchlaw01_awake.mono _
      | exact LeO.none _
      | refine LeO.ite ?_ ?_
      | refine LeO.bind ?_ (fun _ => ?_)
    · intro y0 y1 y2 y3 y4 y5 y6 y7 y8 y9 y10 y11 y12
      unfold shapesearchlaw01_RatioSums.j1
      repeat' first
      | (with_reducible exact ih0 _ _ _ _ _ _ _ _ _ _)
      | (with_reducible exact ih1 _ _ _ _ _ _ _ _ _ _ _ _ _)
      | (with_reducible exact ih2 _ _ _ _ _ _)
      | (with_reducible exact ratio_Add.mono _ _ _ _ _)
      | (with_reducible exact ratio_Cmp.mono _ _ _ _ _)
      | (with_reducible exact ratio_Less.mono _ _ _ _ _)
      | (with_reducible exact ratio_Valid.mono _ _ _)
      | (with_reducible exact shapesearchkeep_Src_Ratio.mono _ _ _)
      | (with_reducible exact shapesearchlaw01_awake.mono _)
      | (with_reducible exact LeO.refl _)
      | (with_reducible exact LeO.none _)
      | (with_reducible refine LeO.ite ?_ ?_)
      | (with_reducible refine LeO.bind ?_ (fun _ => ?_))
      | exact ih0 _ _ _ _ _ _ _ _ _ _
      | exact ih1 _ _ _ _ _ _ _ _ _ _ _ _ _
      | exact ih2 _ _ _ _ _ _
      | exact ratio_Add.mono _ _ _ _ _
      | exact ratio_Cmp.mono _ _ _ _ _
      | exact ratio_Less.mono _ _ _ _ _
      | exact ratio_Valid.mono _ _ _
      | exact shapesearchkeep_Src_Ratio.mono _ _ _
      | exact shapesearchlaw01_awake.mono _
      | exact LeO.none _
      | refine LeO.ite ?_ ?_
      | refine LeO.bind ?_ (fun _ => ?_)
    · intro y0 y1 y2 y3 y4 y5
      unfold shapesearchlaw01_RatioSums.j2
      repeat' first
      | (with_reducible exact ih0 _ _ _ _ _ _ _ _ _ _)
      | (with_reducible exact ih1 _ _ _ _ _ _ _ _ _ _ _ _ _)
      | (with_reducible exact ih2 _ _ _ _ _ _)
      | (with_reducible exact ratio_Add.mono _ _ _ _ _)
      | (with_reducible exact ratio_Cmp.mono _ _ _ _ _)
      | (with_reducible exact ratio_Less.mono _ _ _ _ _)
      | (with_reducible exact ratio_Valid.mono _ _ _)
      | (with_reducible exact shapesearchkeep_Src_Ratio.mono _ _ _)
      | (with_reducible exact shapesearchlaw01_awake.mono _)
      | (with_reducible exact LeO.refl _)
      | (with_reducible exact LeO.none _)
      | (with_reducible refine LeO.ite ?_ ?_)
      | (with_reducible refine LeO.bind ?_ (fun _ => ?_))
      | exact ih0 _ _ _ _ _ _ _ _ _ _
      | exact ih1 _ _ _ _ _ _ _ _ _ _ _ _ _
      | exact ih2 _ _ _ _ _ _
      | exact ratio_Add.mono _ _ _ _ _
      | exact ratio_Cmp.mono _ _ _ _ _
      | exact ratio_Less.mono _ _ _ _ _
      | exact ratio_Valid.mono _ _ _
      | exact shapesearchkeep_Src_Ratio.mono _ _ _
      | exact shapesearchlaw01_awake.mono _
      | exact LeO.none _
      | refine LeO.ite ?_ ?_
      | refine LeO.bind ?_ (fun _ => ?_)
theorem shapesearchlaw01_RatioSums.mono : ∀ a0 k, LeO (shapesearchlaw01_RatioSums.f k a0) (shapesearchlaw01_RatioSums.f (k + 1) a0) := by
  intro a0 k
  obtain ⟨ih0, ih1, ih2⟩ := shapesearchlaw01_RatioSums.mono_l k
  unfold shapesearchlaw01_RatioSums.f
  repeat' first
      | (with_reducible exact ih0 _ _ _ _ _ _ _ _ _ _)
      | (with_reducible exact ih1 _ _ _ _ _ _ _ _ _ _ _ _ _)
      | (with_reducible exact ih2 _ _ _ _ _ _)
      | (with_reducible exact ratio_Add.mono _ _ _ _ _)
      | (with_reducible exact ratio_Cmp.mono _ _ _ _ _)
      | (with_reducible exact ratio_Less.mono _ _ _ _ _)
      | (with_reducible exact ratio_Valid.mono _ _ _)
      | (with_reducible exact shapesearchkeep_Src_Ratio.mono _ _ _)
      | (with_reducible exact shapesearchlaw01_awake.mono _)
      | (with_reducible exact LeO.refl _)
      | (with_reducible exact LeO.none _)
      | (with_reducible refine LeO.ite ?_ ?_)
      | (with_reducible refine LeO.bind ?_ (fun _ => ?_))
      | exact ih0 _ _ _ _ _ _ _ _ _ _
      | exact ih1 _ _ _ _ _ _ _ _ _ _ _ _ _
      | exact ih2 _ _ _ _ _ _
      | exact ratio_Add.mono _ _ _ _ _
      | exact ratio_Cmp.mono _ _ _ _ _
      | exact ratio_Less.mono _ _ _ _ _
      | exact ratio_Valid.mono _ _ _
      | exact shapesearchkeep_Src_Ratio.mono _ _ _
      | exact shapesearchlaw01_awake.mono _
      | exact LeO.none _
      | refine LeO.ite ?_ ?_
      | refine LeO.bind ?_ (fun _ => ?_)
def shapesearchlaw01_RatioSums.T14 : Bool × List (List Nat × List Nat) := (true, [([], []), ([0], [0]), ([1], [1]), ([2], [2]), ([3, 2], [2, 3]), ([2, 4], [2, 4]), ([5, 2], [5]), ([6], [6]), ([6], [6]), ([7, 8, 6, 6], [6, 7, 8]), ([6], [6]), ([6], [6]), ([10, 11, 9, 6], [6, 10, 11]), ([9, 12, 6], [6, 9, 12]), ([6, 13], [6, 13])])
def shapesearchlaw01_RatioSums.B14 : List Nat := [0, 1, 3, 7, 15, 31, 63, 127, 127, 511, 127, 127, 4095, 8191, 16383]
theorem shapesearchlaw01_RatioSums.tab14 : rtab .any (opsOf Tryd.f6 14) = shapesearchlaw01_RatioSums.T14 := by kernel_rfl
theorem shapesearchlaw01_RatioSums.bits14 : waitsOk shapesearchlaw01_RatioSums.T14.2 shapesearchlaw01_RatioSums.B14 = true := by kernel_rfl
set_option maxHeartbeats 8000000 in
set_option maxRecDepth 100000 in
theorem shapesearchlaw01_RatioSums.calls (k : Nat) (A0 : Option Addr) (c0 : Nat) (l0 : List Int) (r : Bool) (w : World) (hr0 : Kd.C (Kd.int .i64) w A0 l0.length l0) (hc0 : l0.length ≤ c0) (h : shapesearchlaw01_RatioSums.f k l0 = some r) :
    Calls Tryd.prog 6 #[.slice A0 l0.length c0] w fun e w' => e = .returned (.bool r) ∧ Below w.heap.size w w' := by
  have hu24 := Tryd.underlying24
  have HR0 := Aside0.mk hr0
  have HC0 := Aside0.mk hc0
  clear hr0 hc0
  have HB := Aside0.mk (Below.refl w.heap.size w)
  have H : ((shapesearchkeep_New.f l0).bind fun bt221 => ((shapesearchkeep_Src_Ratio.f k bt221.1 bt221.2).bind fun bt224 => ((shapesearchkeep_Src_Ratio.f k bt221.1 bt224.2.2).bind fun bt227 => ((shapesearchkeep_Src_Ratio.f k bt221.1 bt227.2.2).bind fun bt230 => ((ratio_Add.f k bt224.1 bt224.2.1 bt227.1 bt227.2.1).bind fun bt236 => ((ratio_Add.f k bt227.1 bt227.2.1 bt224.1 bt224.2.1).bind fun bt240 => ((ratio_Add.f k bt224.1 bt224.2.1 0 1).bind fun bt244 => (if (!(bt236.1 == bt240.1) || (!(bt236.2.1 == bt240.2.1))) = true then (shapesearchlaw01_RatioSums.j0 k bt236.2.2 true bt224.1 bt224.2.1 bt227.1 bt227.2.1 bt230.1 bt230.2.1 bt236.1 bt236.2.1) else (if bt236.2.2 = bt240.2.2 then (if (!(bt244.1 == bt224.1) || (!(bt244.2.1 == bt224.2.1))) = true then (shapesearchlaw01_RatioSums.j0 k bt236.2.2 true bt224.1 bt224.2.1 bt227.1 bt227.2.1 bt230.1 bt230.2.1 bt236.1 bt236.2.1) else (shapesearchlaw01_RatioSums.j0 k bt236.2.2 (bt244.2.2 != 0) bt224.1 bt224.2.1 bt227.1 bt227.2.1 bt230.1 bt230.2.1 bt236.1 bt236.2.1)) else (shapesearchlaw01_RatioSums.j0 k bt236.2.2 true bt224.1 bt224.2.1 bt227.1 bt227.2.1 bt230.1 bt230.2.1 bt236.1 bt236.2.1)))))))))) = some r := h
  clear h
  replace H := Option.bind_eq_some_iff.mp H
  obtain ⟨⟨t221, t222⟩, A20, H⟩ := H
  replace H : ((shapesearchkeep_Src_Ratio.f k t221 t222).bind fun bt224 => ((shapesearchkeep_Src_Ratio.f k t221 bt224.2.2).bind fun bt227 => ((shapesearchkeep_Src_Ratio.f k t221 bt227.2.2).bind fun bt230 => ((ratio_Add.f k bt224.1 bt224.2.1 bt227.1 bt227.2.1).bind fun bt236 => ((ratio_Add.f k bt227.1 bt227.2.1 bt224.1 bt224.2.1).bind fun bt240 => ((ratio_Add.f k bt224.1 bt224.2.1 0 1).bind fun bt244 => (if (!(bt236.1 == bt240.1) || (!(bt236.2.1 == bt240.2.1))) = true then (shapesearchlaw01_RatioSums.j0 k bt236.2.2 true bt224.1 bt224.2.1 bt227.1 bt227.2.1 bt230.1 bt230.2.1 bt236.1 bt236.2.1) else (if bt236.2.2 = bt240.2.2 then (if (!(bt244.1 == bt224.1) || (!(bt244.2.1 == bt224.2.1))) = true then (shapesearchlaw01_RatioSums.j0 k bt236.2.2 true bt224.1 bt224.2.1 bt227.1 bt227.2.1 bt230.1 bt230.2.1 bt236.1 bt236.2.1) else (shapesearchlaw01_RatioSums.j0 k bt236.2.2 (bt244.2.2 != 0) bt224.1 bt224.2.1 bt227.1 bt227.2.1 bt230.1 bt230.2.1 bt236.1 bt236.2.1)) else (shapesearchlaw01_RatioSums.j0 k bt236.2.2 true bt224.1 bt224.2.1 bt227.1 bt227.2.1 bt230.1 bt230.2.1 bt236.1 bt236.2.1))))))))) = some r := H
  have A2 := Aside0.mk A20
  clear A20
  replace H := Option.bind_eq_some_iff.mp H
  obtain ⟨⟨t224, t225, t226⟩, A30, H⟩ := H
  replace H : ((shapesearchkeep_Src_Ratio.f k t221 t226).bind fun bt227 => ((shapesearchkeep_Src_Ratio.f k t221 bt227.2.2).bind fun bt230 => ((ratio_Add.f k t224 t225 bt227.1 bt227.2.1).bind fun bt236 => ((ratio_Add.f k bt227.1 bt227.2.1 t224 t225).bind fun bt240 => ((ratio_Add.f k t224 t225 0 1).bind fun bt244 => (if (!(bt236.1 == bt240.1) || (!(bt236.2.1 == bt240.2.1))) = true then (shapesearchlaw01_RatioSums.j0 k bt236.2.2 true t224 t225 bt227.1 bt227.2.1 bt230.1 bt230.2.1 bt236.1 bt236.2.1) else (if bt236.2.2 = bt240.2.2 then (if (!(bt244.1 == t224) || (!(bt244.2.1 == t225))) = true then (shapesearchlaw01_RatioSums.j0 k bt236.2.2 true t224 t225 bt227.1 bt227.2.1 bt230.1 bt230.2.1 bt236.1 bt236.2.1) else (shapesearchlaw01_RatioSums.j0 k bt236.2.2 (bt244.2.2 != 0) t224 t225 bt227.1 bt227.2.1 bt230.1 bt230.2.1 bt236.1 bt236.2.1)) else (shapesearchlaw01_RatioSums.j0 k bt236.2.2 true t224 t225 bt227.1 bt227.2.1 bt230.1 bt230.2.1 bt236.1 bt236.2.1)))))))) = some r := H
  have A3 := Aside0.mk A30
  clear A30
  replace H := Option.bind_eq_some_iff.mp H
  obtain ⟨⟨t227, t228, t229⟩, A40, H⟩ := H
  replace H : ((shapesearchkeep_Src_Ratio.f k t221 t229).bind fun bt230 => ((ratio_Add.f k t224 t225 t227 t228).bind fun bt236 => ((ratio_Add.f k t227 t228 t224 t225).bind fun bt240 => ((ratio_Add.f k t224 t225 0 1).bind fun bt244 => (if (!(bt236.1 == bt240.1) || (!(bt236.2.1 == bt240.2.1))) = true then (shapesearchlaw01_RatioSums.j0 k bt236.2.2 true t224 t225 t227 t228 bt230.1 bt230.2.1 bt236.1 bt236.2.1) else (if bt236.2.2 = bt240.2.2 then (if (!(bt244.1 == t224) || (!(bt244.2.1 == t225))) = true then (shapesearchlaw01_RatioSums.j0 k bt236.2.2 true t224 t225 t227 t228 bt230.1 bt230.2.1 bt236.1 bt236.2.1) else (shapesearchlaw01_RatioSums.j0 k bt236.2.2 (bt244.2.2 != 0) t224 t225 t227 t228 bt230.1 bt230.2.1 bt236.1 bt236.2.1)) else (shapesearchlaw01_RatioSums.j0 k bt236.2.2 true t224 t225 t227 t228 bt230.1 bt230.2.1 bt236.1 bt236.2.1))))))) = some r := H
  have A4 := Aside0.mk A40
  clear A40
  replace H := Option.bind_eq_some_iff.mp H
  obtain ⟨⟨t230, t231, t232⟩, A50, H⟩ := H
  replace H : ((ratio_Add.f k t224 t225 t227 t228).bind fun bt236 => ((ratio_Add.f k t227 t228 t224 t225).bind fun bt240 => ((ratio_Add.f k t224 t225 0 1).bind fun bt244 => (if (!(bt236.1 == bt240.1) || (!(bt236.2.1 == bt240.2.1))) = true then (shapesearchlaw01_RatioSums.j0 k bt236.2.2 true t224 t225 t227 t228 t230 t231 bt236.1 bt236.2.1) else (if bt236.2.2 = bt240.2.2 then (if (!(bt244.1 == t224) || (!(bt244.2.1 == t225))) = true then (shapesearchlaw01_RatioSums.j0 k bt236.2.2 true t224 t225 t227 t228 t230 t231 bt236.1 bt236.2.1) else (shapesearchlaw01_RatioSums.j0 k bt236.2.2 (bt244.2.2 != 0) t224 t225 t227 t228 t230 t231 bt236.1 bt236.2.1)) else (shapesearchlaw01_RatioSums.j0 k bt236.2.2 true t224 t225 t227 t228 t230 t231 bt236.1 bt236.2.1)))))) = some r := H
  have A5 := Aside0.mk A50
  clear A50
  replace H := Option.bind_eq_some_iff.mp H
  obtain ⟨⟨t236, t237, t238⟩, A60, H⟩ := H
  replace H : ((ratio_Add.f k t227 t228 t224 t225).bind fun bt240 => ((ratio_Add.f k t224 t225 0 1).bind fun bt244 => (if (!(t236 == bt240.1) || (!(t237 == bt240.2.1))) = true then (shapesearchlaw01_RatioSums.j0 k t238 true t224 t225 t227 t228 t230 t231 t236 t237) else (if t238 = bt240.2.2 then (if (!(bt244.1 == t224) || (!(bt244.2.1 == t225))) = true then (shapesearchlaw01_RatioSums.j0 k t238 true t224 t225 t227 t228 t230 t231 t236 t237) else (shapesearchlaw01_RatioSums.j0 k t238 (bt244.2.2 != 0) t224 t225 t227 t228 t230 t231 t236 t237)) else (shapesearchlaw01_RatioSums.j0 k t238 true t224 t225 t227 t228 t230 t231 t236 t237))))) = some r := H
  have A6 := Aside0.mk A60
  clear A60
  replace H := Option.bind_eq_some_iff.mp H
  obtain ⟨⟨t240, t241, t242⟩, A70, H⟩ := H
  replace H : ((ratio_Add.f k t224 t225 0 1).bind fun bt244 => (if (!(t236 == t240) || (!(t237 == t241))) = true then (shapesearchlaw01_RatioSums.j0 k t238 true t224 t225 t227 t228 t230 t231 t236 t237) else (if t238 = t242 then (if (!(bt244.1 == t224) || (!(bt244.2.1 == t225))) = true then (shapesearchlaw01_RatioSums.j0 k t238 true t224 t225 t227 t228 t230 t231 t236 t237) else (shapesearchlaw01_RatioSums.j0 k t238 (bt244.2.2 != 0) t224 t225 t227 t228 t230 t231 t236 t237)) else (shapesearchlaw01_RatioSums.j0 k t238 true t224 t225 t227 t228 t230 t231 t236 t237)))) = some r := H
  have A7 := Aside0.mk A70
  clear A70
  replace H := Option.bind_eq_some_iff.mp H
  obtain ⟨⟨t244, t245, t246⟩, A80, H⟩ := H
  replace H : (if (!(t236 == t240) || (!(t237 == t241))) = true then (shapesearchlaw01_RatioSums.j0 k t238 true t224 t225 t227 t228 t230 t231 t236 t237) else (if t238 = t242 then (if (!(t244 == t224) || (!(t245 == t225))) = true then (shapesearchlaw01_RatioSums.j0 k t238 true t224 t225 t227 t228 t230 t231 t236 t237) else (shapesearchlaw01_RatioSums.j0 k t238 (t246 != 0) t224 t225 t227 t228 t230 t231 t236 t237)) else (shapesearchlaw01_RatioSums.j0 k t238 true t224 t225 t227 t228 t230 t231 t236 t237))) = some r := H
  have A8 := Aside0.mk A80
  clear A80
  have HC9 := Aside0.mk H
  clear H
  go_enter Tryd.func6, Tryd.ntmps6
  go_upto_region 6 with (first | ((with_reducible refine gate_callee (f := 14) rfl ?_); refine goesL_ (some 22) rfl rfl Tryd.func14 (by kernel_rfl) rfl #[.slice A0 l0.length c0] rfl (by (try simp only [List.map_toArray, List.map_cons, List.map_nil]); first | done | rfl | (simp only [List.length_drop, List.length_take]; rfl)) ?_; (with_reducible refine (shapesearchkeep_New.calls _ _ l0 t221 t222 w _ ?side1 ?side2 ?side3 A2.out).mono ?_); (case side1 => repeat (first | (with_reducible first | exact HB.out | apply below_alloc | apply pw_below_drewN | apply below_drew1) | exact HB.out)); (case side2 => exact HR0.out); (case side3 => exact HC0.out); rintro e w10 ⟨g223, rfl, hi, hb, hb2⟩; refine ⟨_, rfl, ?_⟩; have n0_ := Aside0.mk (hb); have n1_ := Aside0.mk (hi); clear HB; have HB := n0_; have HI223 := n1_; clear n0_ n1_; (try clear hb); (try clear hb2); (try clear hk); (try clear hi)) | ((with_reducible refine gate_callee (f := 15) rfl ?_); refine goesL_ (some 24) rfl rfl Tryd.func15 (by kernel_rfl) rfl #[.pointer (some ⟨g223, 0, none⟩)] rfl (by (try simp only [List.map_toArray, List.map_cons, List.map_nil]); first | done | rfl | (simp only [List.length_drop, List.length_take]; rfl)) ?_; (with_reducible refine (shapesearchkeep_Src_Ratio.calls k g223 t221 t222 t224 t225 t226 w _ ?side1 ?side2 A3.out).mono ?_); (case side1 => repeat (first | (with_reducible first | exact HI223.out | apply IsS54.alloc | apply IsS54.drewN | apply IsS54.drew | apply IsS54.set_1) | exact HI223.out)); (case side2 => repeat (first | (with_reducible first | exact HB.out | apply below_alloc | apply pw_below_drewN | apply below_drew1 | refine below_set ?_ (IsS54.ge HI223.out)) | exact HB.out)); rintro e w11 ⟨rfl, hi, hb, hk⟩; refine ⟨_, rfl, ?_⟩; have n0_ := Aside0.mk (hb); have n1_ := Aside0.mk (hi); clear HB; clear HI223; have HB := n0_; have HI223 := n1_; clear n0_ n1_; (try clear hb); (try clear hb2); (try clear hk); (try clear hi)) | ((with_reducible refine gate_callee (f := 15) rfl ?_); refine goesL_ (some 26) rfl rfl Tryd.func15 (by kernel_rfl) rfl #[.pointer (some ⟨g223, 0, none⟩)] rfl (by (try simp only [List.map_toArray, List.map_cons, List.map_nil]); first | done | rfl | (simp only [List.length_drop, List.length_take]; rfl)) ?_; (with_reducible refine (shapesearchkeep_Src_Ratio.calls k g223 t221 t226 t227 t228 t229 w _ ?side1 ?side2 A4.out).mono ?_); (case side1 => repeat (first | (with_reducible first | exact HI223.out | apply IsS54.alloc | apply IsS54.drewN | apply IsS54.drew | apply IsS54.set_1) | exact HI223.out)); (case side2 => repeat (first | (with_reducible first | exact HB.out | apply below_alloc | apply pw_below_drewN | apply below_drew1 | refine below_set ?_ (IsS54.ge HI223.out)) | exact HB.out)); rintro e w12 ⟨rfl, hi, hb, hk⟩; refine ⟨_, rfl, ?_⟩; have n0_ := Aside0.mk (hb); have n1_ := Aside0.mk (hi); clear HB; clear HI223; have HB := n0_; have HI223 := n1_; clear n0_ n1_; (try clear hb); (try clear hb2); (try clear hk); (try clear hi)) | ((with_reducible refine gate_callee (f := 15) rfl ?_); refine goesL_ (some 28) rfl rfl Tryd.func15 (by kernel_rfl) rfl #[.pointer (some ⟨g223, 0, none⟩)] rfl (by (try simp only [List.map_toArray, List.map_cons, List.map_nil]); first | done | rfl | (simp only [List.length_drop, List.length_take]; rfl)) ?_; (with_reducible refine (shapesearchkeep_Src_Ratio.calls k g223 t221 t229 t230 t231 t232 w _ ?side1 ?side2 A5.out).mono ?_); (case side1 => repeat (first | (with_reducible first | exact HI223.out | apply IsS54.alloc | apply IsS54.drewN | apply IsS54.drew | apply IsS54.set_1) | exact HI223.out)); (case side2 => repeat (first | (with_reducible first | exact HB.out | apply below_alloc | apply pw_below_drewN | apply below_drew1 | refine below_set ?_ (IsS54.ge HI223.out)) | exact HB.out)); rintro e w13 ⟨rfl, hi, hb, hk⟩; refine ⟨_, rfl, ?_⟩; have n0_ := Aside0.mk (hb); have n1_ := Aside0.mk (hi); clear HB; clear HI223; have HB := n0_; have HI223 := n1_; clear n0_ n1_; (try clear hb); (try clear hb2); (try clear hk); (try clear hi)) | ((with_reducible refine gate_dst (N := 4) rfl ?_); refine box_event ?hg (N := 4) ?hd (cs := #[.int .i64 0, .int .i64 0]) (t := 24) ?hr ?_; (case hd => rfl); (case hg => rfl); (case hr => first | (go_simp; done) | (go_simp; rfl)); intro gb233 hg w14 hbox hb; have n0_ := Aside0.mk (IsS54.below (by repeat (first | (with_reducible first | exact HI223.out | apply IsS54.alloc | apply IsS54.drewN | apply IsS54.drew | apply IsS54.set_1) | exact HI223.out)) hb); have n1_ := Aside0.mk (below_step (by repeat (first | (with_reducible first | exact HB.out | apply below_alloc | apply pw_below_drewN | apply below_drew1 | refine below_set ?_ (IsS54.ge HI223.out)) | exact HB.out)) hb); have n2_ := Aside0.mk (hbox); have n3_ := Aside0.mk ((by rw [hg]; exact (below_size (by repeat (first | (with_reducible first | exact HB.out | apply below_alloc | apply pw_below_drewN | apply below_drew1 | refine below_set ?_ (IsS54.ge HI223.out)) | exact HB.out))) : w.heap.size ≤ gb233)); have n4_ := Aside0.mk ((by rw [hg]; exact (below_size (by repeat (first | (with_reducible first | exact HB.out | apply below_alloc | apply pw_below_drewN | apply below_drew1 | refine below_set ?_ (IsS54.ge HI223.out)) | exact HB.out))) : w.heap.size ≤ gb233)); have n5_ := Aside0.mk ((by rw [hg]; exact Nat.ne_of_lt (IsS54.lt (show IsS54 w _ g223 t221 t232 from by repeat (first | (with_reducible first | exact HI223.out | apply IsS54.alloc | apply IsS54.drewN | apply IsS54.drew | apply IsS54.set_1) | exact HI223.out))) : g223 ≠ gb233)); have n6_ := Aside0.mk ((by rw [hg]; exact Nat.ne_of_gt (IsS54.lt (show IsS54 w _ g223 t221 t232 from by repeat (first | (with_reducible first | exact HI223.out | apply IsS54.alloc | apply IsS54.drewN | apply IsS54.drew | apply IsS54.set_1) | exact HI223.out))) : gb233 ≠ g223)); clear HI223; clear HB; have HI223 := n0_; have HB := n1_; have BK233 := n2_; have GW233 := n3_; have GE233 := n4_; have NB223_233 := n5_; have NB233_223 := n6_; clear n0_ n1_ n2_ n3_ n4_ n5_ n6_; clear hb hbox hg) | ((with_reducible refine gate_dst (N := 5) rfl ?_); refine box_event ?hg (N := 5) ?hd (cs := #[.int .i64 0, .int .i64 0]) (t := 24) ?hr ?_; (case hd => rfl); (case hg => rfl); (case hr => first | (go_simp; done) | (go_simp; rfl)); intro gb234 hg w15 hbox hb; have n0_ := Aside0.mk (IsS54.below (by repeat (first | (with_reducible first | exact HI223.out | apply IsS54.alloc | apply IsS54.drewN | apply IsS54.drew | apply IsS54.set_1 | refine IsS54.far ?_ NB223_233.out _) | exact HI223.out)) hb); have n1_ := Aside0.mk (blk_below (g := gb233) (o := .cells #[.int .i64 0, .int .i64 0] 24 (0, 0)) (by (with_reducible repeat (first | refine blk_drewN ?_ _ | refine blk_drew ?_ | refine blk_alloc ?_ _)); exact BK233.out) hb); have n2_ := Aside0.mk (below_step (by repeat (first | (with_reducible first | exact HB.out | apply below_alloc | apply pw_below_drewN | apply below_drew1 | refine below_set ?_ (IsS54.ge HI223.out) | refine below_set ?_ GE233.out) | exact HB.out)) hb); have n3_ := Aside0.mk (hbox); have n4_ := Aside0.mk ((by rw [hg]; exact (below_size (by repeat (first | (with_reducible first | exact HB.out | apply below_alloc | apply pw_below_drewN | apply below_drew1 | refine below_set ?_ (IsS54.ge HI223.out) | refine below_set ?_ GE233.out) | exact HB.out))) : w.heap.size ≤ gb234)); have n5_ := Aside0.mk ((by rw [hg]; exact (below_size (by repeat (first | (with_reducible first | exact HB.out | apply below_alloc | apply pw_below_drewN | apply below_drew1 | refine below_set ?_ (IsS54.ge HI223.out) | refine below_set ?_ GE233.out) | exact HB.out))) : w.heap.size ≤ gb234)); have n6_ := Aside0.mk ((by rw [hg]; exact Nat.ne_of_lt (blk_lt (g := gb233) (o := .cells #[.int .i64 0, .int .i64 0] 24 (0, 0)) (by (with_reducible repeat (first | refine blk_drewN ?_ _ | refine blk_drew ?_ | refine blk_alloc ?_ _)); exact BK233.out)) : gb233 ≠ gb234)); have n7_ := Aside0.mk ((by rw [hg]; exact Nat.ne_of_gt (blk_lt (g := gb233) (o := .cells #[.int .i64 0, .int .i64 0] 24 (0, 0)) (by (with_reducible repeat (first | refine blk_drewN ?_ _ | refine blk_drew ?_ | refine blk_alloc ?_ _)); exact BK233.out)) : gb234 ≠ gb233)); have n8_ := Aside0.mk ((by rw [hg]; exact Nat.ne_of_lt (IsS54.lt (show IsS54 w _ g223 t221 t232 from by repeat (first | (with_reducible first | exact HI223.out | apply IsS54.alloc | apply IsS54.drewN | apply IsS54.drew | apply IsS54.set_1 | refine IsS54.far ?_ NB223_233.out _) | exact HI223.out))) : g223 ≠ gb234)); have n9_ := Aside0.mk ((by rw [hg]; exact Nat.ne_of_gt (IsS54.lt (show IsS54 w _ g223 t221 t232 from by repeat (first | (with_reducible first | exact HI223.out | apply IsS54.alloc | apply IsS54.drewN | apply IsS54.drew | apply IsS54.set_1 | refine IsS54.far ?_ NB223_233.out _) | exact HI223.out))) : gb234 ≠ g223)); clear HI223; clear BK233; clear HB; have HI223 := n0_; have BK233 := n1_; have HB := n2_; have BK234 := n3_; have GW234 := n4_; have GE234 := n5_; have NB233_234 := n6_; have NB234_233 := n7_; have NB223_234 := n8_; have NB234_223 := n9_; clear n0_ n1_ n2_ n3_ n4_ n5_ n6_ n7_ n8_ n9_; clear hb hbox hg) | ((with_reducible refine gate_dst (N := 6) rfl ?_); refine box_event ?hg (N := 6) ?hd (cs := #[.int .i64 0, .int .i64 0]) (t := 24) ?hr ?_; (case hd => rfl); (case hg => rfl); (case hr => first | (go_simp; done) | (go_simp; rfl)); intro gb235 hg w16 hbox hb; have n0_ := Aside0.mk (IsS54.below (by repeat (first | (with_reducible first | exact HI223.out | apply IsS54.alloc | apply IsS54.drewN | apply IsS54.drew | apply IsS54.set_1 | refine IsS54.far ?_ NB223_233.out _ | refine IsS54.far ?_ NB223_234.out _) | exact HI223.out)) hb); have n1_ := Aside0.mk (blk_below (g := gb233) (o := .cells #[.int .i64 0, .int .i64 0] 24 (0, 0)) (by (with_reducible repeat (first | refine blk_drewN ?_ _ | refine blk_drew ?_ | refine blk_alloc ?_ _)); exact BK233.out) hb); have n2_ := Aside0.mk (blk_below (g := gb234) (o := .cells #[.int .i64 0, .int .i64 0] 24 (0, 0)) (by (with_reducible repeat (first | refine blk_drewN ?_ _ | refine blk_drew ?_ | refine blk_alloc ?_ _)); exact BK234.out) hb); have n3_ := Aside0.mk (below_step (by repeat (first | (with_reducible first | exact HB.out | apply below_alloc | apply pw_below_drewN | apply below_drew1 | refine below_set ?_ (IsS54.ge HI223.out) | refine below_set ?_ GE233.out | refine below_set ?_ GE234.out) | exact HB.out)) hb); have n4_ := Aside0.mk (hbox); have n5_ := Aside0.mk ((by rw [hg]; exact (below_size (by repeat (first | (with_reducible first | exact HB.out | apply below_alloc | apply pw_below_drewN | apply below_drew1 | refine below_set ?_ (IsS54.ge HI223.out) | refine below_set ?_ GE233.out | refine below_set ?_ GE234.out) | exact HB.out))) : w.heap.size ≤ gb235)); have n6_ := Aside0.mk ((by rw [hg]; exact (below_size (by repeat (first | (with_reducible first | exact HB.out | apply below_alloc | apply pw_below_drewN | apply below_drew1 | refine below_set ?_ (IsS54.ge HI223.out) | refine below_set ?_ GE233.out | refine below_set ?_ GE234.out) | exact HB.out))) : w.heap.size ≤ gb235)); have n7_ := Aside0.mk ((by rw [hg]; exact Nat.ne_of_lt (blk_lt (g := gb233) (o := .cells #[.int .i64 0, .int .i64 0] 24 (0, 0)) (by (with_reducible repeat (first | refine blk_drewN ?_ _ | refine blk_drew ?_ | refine blk_alloc ?_ _)); exact BK233.out)) : gb233 ≠ gb235)); have n8_ := Aside0.mk ((by rw [hg]; exact Nat.ne_of_gt (blk_lt (g := gb233) (o := .cells #[.int .i64 0, .int .i64 0] 24 (0, 0)) (by (with_reducible repeat (first | refine blk_drewN ?_ _ | refine blk_drew ?_ | refine blk_alloc ?_ _)); exact BK233.out)) : gb235 ≠ gb233)); have n9_ := Aside0.mk ((by rw [hg]; exact Nat.ne_of_lt (blk_lt (g := gb234) (o := .cells #[.int .i64 0, .int .i64 0] 24 (0, 0)) (by (with_reducible repeat (first | refine blk_drewN ?_ _ | refine blk_drew ?_ | refine blk_alloc ?_ _)); exact BK234.out)) : gb234 ≠ gb235)); have n10_ := Aside0.mk ((by rw [hg]; exact Nat.ne_of_gt (blk_lt (g := gb234) (o := .cells #[.int .i64 0, .int .i64 0] 24 (0, 0)) (by (with_reducible repeat (first | refine blk_drewN ?_ _ | refine blk_drew ?_ | refine blk_alloc ?_ _)); exact BK234.out)) : gb235 ≠ gb234)); have n11_ := Aside0.mk ((by rw [hg]; exact Nat.ne_of_lt (IsS54.lt (show IsS54 w _ g223 t221 t232 from by repeat (first | (with_reducible first | exact HI223.out | apply IsS54.alloc | apply IsS54.drewN | apply IsS54.drew | apply IsS54.set_1 | refine IsS54.far ?_ NB223_233.out _ | refine IsS54.far ?_ NB223_234.out _) | exact HI223.out))) : g223 ≠ gb235)); have n12_ := Aside0.mk ((by rw [hg]; exact Nat.ne_of_gt (IsS54.lt (show IsS54 w _ g223 t221 t232 from by repeat (first | (with_reducible first | exact HI223.out | apply IsS54.alloc | apply IsS54.drewN | apply IsS54.drew | apply IsS54.set_1 | refine IsS54.far ?_ NB223_233.out _ | refine IsS54.far ?_ NB223_234.out _) | exact HI223.out))) : gb235 ≠ g223)); clear HI223; clear BK233; clear BK234; clear HB; have HI223 := n0_; have BK233 := n1_; have BK234 := n2_; have HB := n3_; have BK235 := n4_; have GW235 := n5_; have GE235 := n6_; have NB233_235 := n7_; have NB235_233 := n8_; have NB234_235 := n9_; have NB235_234 := n10_; have NB223_235 := n11_; have NB235_223 := n12_; clear n0_ n1_ n2_ n3_ n4_ n5_ n6_ n7_ n8_ n9_ n10_ n11_ n12_; clear hb hbox hg; have hnb17 := NB233_234.out; have hnc17 := NB234_233.out; have hnb18 := NB233_235.out; have hnc18 := NB235_233.out; have hnb19 := NB233_223.out; have hnc19 := NB223_233.out; have hcz20_0 : w16.cell? ⟨gb233, 0, none⟩ = some (.int .i64 0) := (blk_cell BK233.out 0).trans rfl; have hcz20_1 : w16.cell? ⟨gb233, 1, none⟩ = some (.int .i64 0) := (blk_cell BK233.out 1).trans rfl; have hfz20_0 := blk_frozen BK233.out 0; have hfz20_1 := blk_frozen BK233.out 1; have hnb21 := NB234_235.out; have hnc21 := NB235_234.out; have hnb22 := NB234_223.out; have hnc22 := NB223_234.out; have hcz23_0 : w16.cell? ⟨gb234, 0, none⟩ = some (.int .i64 0) := (blk_cell BK234.out 0).trans rfl; have hcz23_1 : w16.cell? ⟨gb234, 1, none⟩ = some (.int .i64 0) := (blk_cell BK234.out 1).trans rfl; have hfz23_0 := blk_frozen BK234.out 0; have hfz23_1 := blk_frozen BK234.out 1; have hnb24 := NB235_223.out; have hnc24 := NB223_235.out; have hcz25_0 : w16.cell? ⟨gb235, 0, none⟩ = some (.int .i64 0) := (blk_cell BK235.out 0).trans rfl; have hcz25_1 : w16.cell? ⟨gb235, 1, none⟩ = some (.int .i64 0) := (blk_cell BK235.out 1).trans rfl; have hfz25_0 := blk_frozen BK235.out 0; have hfz25_1 := blk_frozen BK235.out 1) | ((with_reducible refine gate_callee (f := 18) rfl ?_); refine goesL_ (some 32) rfl rfl Tryd.func18 (by kernel_rfl) rfl #[.agg #[.int .i64 t224, .int .i64 t225], .agg #[.int .i64 t227, .int .i64 t228]] rfl (by (try simp only [List.map_toArray, List.map_cons, List.map_nil]); first | done | rfl | (simp only [List.length_drop, List.length_take]; rfl)) ?_; (with_reducible refine (ratio_Add.calls k t224 t225 t227 t228 t236 t237 t238 _ A6.out).mono ?_); rintro e w26 ⟨rfl, hb⟩; refine ⟨_, rfl, ?_⟩; have n0_ := Aside0.mk (IsS54.below (show IsS54 w ((((((w16.setCell ⟨gb233, 0, none⟩ (.int .i64 t224)).setCell ⟨gb233, 1, none⟩ (.int .i64 t225)).setCell ⟨gb234, 0, none⟩ (.int .i64 t227)).setCell ⟨gb234, 1, none⟩ (.int .i64 t228)).setCell ⟨gb235, 0, none⟩ (.int .i64 t230)).setCell ⟨gb235, 1, none⟩ (.int .i64 t231)) g223 t221 t232 from by repeat (first | (with_reducible first | exact HI223.out | apply IsS54.alloc | apply IsS54.drewN | apply IsS54.drew | apply IsS54.set_1 | refine IsS54.far ?_ NB223_233.out _ | refine IsS54.far ?_ NB223_234.out _ | refine IsS54.far ?_ NB223_235.out _) | exact HI223.out)) hb); have n1_ := Aside0.mk (blk_below (g := gb233) (o := .cells #[.int .i64 t224, .int .i64 t225] 24 (0, 0)) (by (with_reducible repeat (first | refine blk_drewN ?_ _ | refine blk_drew ?_ | refine blk_alloc ?_ _)); refine blk_far ?_ NB233_235.out _; (with_reducible repeat (first | refine blk_drewN ?_ _ | refine blk_drew ?_ | refine blk_alloc ?_ _)); refine blk_far ?_ NB233_235.out _; (with_reducible repeat (first | refine blk_drewN ?_ _ | refine blk_drew ?_ | refine blk_alloc ?_ _)); refine blk_far ?_ NB233_234.out _; (with_reducible repeat (first | refine blk_drewN ?_ _ | refine blk_drew ?_ | refine blk_alloc ?_ _)); refine blk_far ?_ NB233_234.out _; (with_reducible repeat (first | refine blk_drewN ?_ _ | refine blk_drew ?_ | refine blk_alloc ?_ _)); refine blk_put (cs := #[.int .i64 t224, .int .i64 0]) ?_ 1 _ rfl; (with_reducible repeat (first | refine blk_drewN ?_ _ | refine blk_drew ?_ | refine blk_alloc ?_ _)); refine blk_put (cs := #[.int .i64 0, .int .i64 0]) ?_ 0 _ rfl; (with_reducible repeat (first | refine blk_drewN ?_ _ | refine blk_drew ?_ | refine blk_alloc ?_ _)); exact BK233.out) hb); have n2_ := Aside0.mk (blk_below (g := gb234) (o := .cells #[.int .i64 t227, .int .i64 t228] 24 (0, 0)) (by (with_reducible repeat (first | refine blk_drewN ?_ _ | refine blk_drew ?_ | refine blk_alloc ?_ _)); refine blk_far ?_ NB234_235.out _; (with_reducible repeat (first | refine blk_drewN ?_ _ | refine blk_drew ?_ | refine blk_alloc ?_ _)); refine blk_far ?_ NB234_235.out _; (with_reducible repeat (first | refine blk_drewN ?_ _ | refine blk_drew ?_ | refine blk_alloc ?_ _)); refine blk_put (cs := #[.int .i64 t227, .int .i64 0]) ?_ 1 _ rfl; (with_reducible repeat (first | refine blk_drewN ?_ _ | refine blk_drew ?_ | refine blk_alloc ?_ _)); refine blk_put (cs := #[.int .i64 0, .int .i64 0]) ?_ 0 _ rfl; (with_reducible repeat (first | refine blk_drewN ?_ _ | refine blk_drew ?_ | refine blk_alloc ?_ _)); refine blk_far ?_ NB234_233.out _; (with_reducible repeat (first | refine blk_drewN ?_ _ | refine blk_drew ?_ | refine blk_alloc ?_ _)); refine blk_far ?_ NB234_233.out _; (with_reducible repeat (first | refine blk_drewN ?_ _ | refine blk_drew ?_ | refine blk_alloc ?_ _)); exact BK234.out) hb); have n3_ := Aside0.mk (blk_below (g := gb235) (o := .cells #[.int .i64 t230, .int .i64 t231] 24 (0, 0)) (by (with_reducible repeat (first | refine blk_drewN ?_ _ | refine blk_drew ?_ | refine blk_alloc ?_ _)); refine blk_put (cs := #[.int .i64 t230, .int .i64 0]) ?_ 1 _ rfl; (with_reducible repeat (first | refine blk_drewN ?_ _ | refine blk_drew ?_ | refine blk_alloc ?_ _)); refine blk_put (cs := #[.int .i64 0, .int .i64 0]) ?_ 0 _ rfl; (with_reducible repeat (first | refine blk_drewN ?_ _ | refine blk_drew ?_ | refine blk_alloc ?_ _)); refine blk_far ?_ NB235_234.out _; (with_reducible repeat (first | refine blk_drewN ?_ _ | refine blk_drew ?_ | refine blk_alloc ?_ _)); refine blk_far ?_ NB235_234.out _; (with_reducible repeat (first | refine blk_drewN ?_ _ | refine blk_drew ?_ | refine blk_alloc ?_ _)); refine blk_far ?_ NB235_233.out _; (with_reducible repeat (first | refine blk_drewN ?_ _ | refine blk_drew ?_ | refine blk_alloc ?_ _)); refine blk_far ?_ NB235_233.out _; (with_reducible repeat (first | refine blk_drewN ?_ _ | refine blk_drew ?_ | refine blk_alloc ?_ _)); exact BK235.out) hb); have n4_ := Aside0.mk (below_step (by repeat (first | (with_reducible first | exact HB.out | apply below_alloc | apply pw_below_drewN | apply below_drew1 | refine below_set ?_ (IsS54.ge HI223.out) | refine below_set ?_ GE233.out | refine below_set ?_ GE234.out | refine below_set ?_ GE235.out) | exact HB.out)) hb); clear HI223; clear BK233; clear BK234; clear BK235; clear HB; have HI223 := n0_; have BK233 := n1_; have BK234 := n2_; have BK235 := n3_; have HB := n4_; clear n0_ n1_ n2_ n3_ n4_; (try clear hb); (try clear hb2); (try clear hk); (try clear hi)) | ((with_reducible refine gate_dst (N := 7) rfl ?_); refine box_event ?hg (N := 7) ?hd (cs := #[.int .i64 0, .int .i64 0]) (t := 24) ?hr ?_; (case hd => rfl); (case hg => rfl); (case hr => first | (go_simp; done) | (go_simp; rfl)); intro gb239 hg w27 hbox hb; have n0_ := Aside0.mk (IsS54.below (by repeat (first | (with_reducible first | exact HI223.out | apply IsS54.alloc | apply IsS54.drewN | apply IsS54.drew | apply IsS54.set_1 | refine IsS54.far ?_ NB223_233.out _ | refine IsS54.far ?_ NB223_234.out _ | refine IsS54.far ?_ NB223_235.out _) | exact HI223.out)) hb); have n1_ := Aside0.mk (blk_below (g := gb233) (o := .cells #[.int .i64 t224, .int .i64 t225] 24 (0, 0)) (by (with_reducible repeat (first | refine blk_drewN ?_ _ | refine blk_drew ?_ | refine blk_alloc ?_ _)); exact BK233.out) hb); have n2_ := Aside0.mk (blk_below (g := gb234) (o := .cells #[.int .i64 t227, .int .i64 t228] 24 (0, 0)) (by (with_reducible repeat (first | refine blk_drewN ?_ _ | refine blk_drew ?_ | refine blk_alloc ?_ _)); exact BK234.out) hb); have n3_ := Aside0.mk (blk_below (g := gb235) (o := .cells #[.int .i64 t230, .int .i64 t231] 24 (0, 0)) (by (with_reducible repeat (first | refine blk_drewN ?_ _ | refine blk_drew ?_ | refine blk_alloc ?_ _)); exact BK235.out) hb); have n4_ := Aside0.mk (below_step (by repeat (first | (with_reducible first | exact HB.out | apply below_alloc | apply pw_below_drewN | apply below_drew1 | refine below_set ?_ (IsS54.ge HI223.out) | refine below_set ?_ GE233.out | refine below_set ?_ GE234.out | refine below_set ?_ GE235.out) | exact HB.out)) hb); have n5_ := Aside0.mk (hbox); have n6_ := Aside0.mk ((by rw [hg]; exact (below_size (by repeat (first | (with_reducible first | exact HB.out | apply below_alloc | apply pw_below_drewN | apply below_drew1 | refine below_set ?_ (IsS54.ge HI223.out) | refine below_set ?_ GE233.out | refine below_set ?_ GE234.out | refine below_set ?_ GE235.out) | exact HB.out))) : w.heap.size ≤ gb239)); have n7_ := Aside0.mk ((by rw [hg]; exact (below_size (by repeat (first | (with_reducible first | exact HB.out | apply below_alloc | apply pw_below_drewN | apply below_drew1 | refine below_set ?_ (IsS54.ge HI223.out) | refine below_set ?_ GE233.out | refine below_set ?_ GE234.out | refine below_set ?_ GE235.out) | exact HB.out))) : w.heap.size ≤ gb239)); have n8_ := Aside0.mk ((by rw [hg]; exact Nat.ne_of_lt (blk_lt (g := gb233) (o := .cells #[.int .i64 t224, .int .i64 t225] 24 (0, 0)) (by (with_reducible repeat (first | refine blk_drewN ?_ _ | refine blk_drew ?_ | refine blk_alloc ?_ _)); exact BK233.out)) : gb233 ≠ gb239)); have n9_ := Aside0.mk ((by rw [hg]; exact Nat.ne_of_gt (blk_lt (g := gb233) (o := .cells #[.int .i64 t224, .int .i64 t225] 24 (0, 0)) (by (with_reducible repeat (first | refine blk_drewN ?_ _ | refine blk_drew ?_ | refine blk_alloc ?_ _)); exact BK233.out)) : gb239 ≠ gb233)); have n10_ := Aside0.mk ((by rw [hg]; exact Nat.ne_of_lt (blk_lt (g := gb234) (o := .cells #[.int .i64 t227, .int .i64 t228] 24 (0, 0)) (by (with_reducible repeat (first | refine blk_drewN ?_ _ | refine blk_drew ?_ | refine blk_alloc ?_ _)); exact BK234.out)) : gb234 ≠ gb239)); have n11_ := Aside0.mk ((by rw [hg]; exact Nat.ne_of_gt (blk_lt (g := gb234) (o := .cells #[.int .i64 t227, .int .i64 t228] 24 (0, 0)) (by (with_reducible repeat (first | refine blk_drewN ?_ _ | refine blk_drew ?_ | refine blk_alloc ?_ _)); exact BK234.out)) : gb239 ≠ gb234)); have n12_ := Aside0.mk ((by rw [hg]; exact Nat.ne_of_lt (blk_lt (g := gb235) (o := .cells #[.int .i64 t230, .int .i64 t231] 24 (0, 0)) (by (with_reducible repeat (first | refine blk_drewN ?_ _ | refine blk_drew ?_ | refine blk_alloc ?_ _)); exact BK235.out)) : gb235 ≠ gb239)); have n13_ := Aside0.mk ((by rw [hg]; exact Nat.ne_of_gt (blk_lt (g := gb235) (o := .cells #[.int .i64 t230, .int .i64 t231] 24 (0, 0)) (by (with_reducible repeat (first | refine blk_drewN ?_ _ | refine blk_drew ?_ | refine blk_alloc ?_ _)); exact BK235.out)) : gb239 ≠ gb235)); have n14_ := Aside0.mk ((by rw [hg]; exact Nat.ne_of_lt (IsS54.lt (show IsS54 w _ g223 t221 t232 from by repeat (first | (with_reducible first | exact HI223.out | apply IsS54.alloc | apply IsS54.drewN | apply IsS54.drew | apply IsS54.set_1 | refine IsS54.far ?_ NB223_233.out _ | refine IsS54.far ?_ NB223_234.out _ | refine IsS54.far ?_ NB223_235.out _) | exact HI223.out))) : g223 ≠ gb239)); have n15_ := Aside0.mk ((by rw [hg]; exact Nat.ne_of_gt (IsS54.lt (show IsS54 w _ g223 t221 t232 from by repeat (first | (with_reducible first | exact HI223.out | apply IsS54.alloc | apply IsS54.drewN | apply IsS54.drew | apply IsS54.set_1 | refine IsS54.far ?_ NB223_233.out _ | refine IsS54.far ?_ NB223_234.out _ | refine IsS54.far ?_ NB223_235.out _) | exact HI223.out))) : gb239 ≠ g223)); clear HI223; clear BK233; clear BK234; clear BK235; clear HB; have HI223 := n0_; have BK233 := n1_; have BK234 := n2_; have BK235 := n3_; have HB := n4_; have BK239 := n5_; have GW239 := n6_; have GE239 := n7_; have NB233_239 := n8_; have NB239_233 := n9_; have NB234_239 := n10_; have NB239_234 := n11_; have NB235_239 := n12_; have NB239_235 := n13_; have NB223_239 := n14_; have NB239_223 := n15_; clear n0_ n1_ n2_ n3_ n4_ n5_ n6_ n7_ n8_ n9_ n10_ n11_ n12_ n13_ n14_ n15_; clear hb hbox hg; have hnb28 := NB239_233.out; have hnc28 := NB233_239.out; have hnb29 := NB239_234.out; have hnc29 := NB234_239.out; have hnb30 := NB239_235.out; have hnc30 := NB235_239.out; have hnb31 := NB239_223.out; have hnc31 := NB223_239.out; have hcz32_0 : w27.cell? ⟨gb239, 0, none⟩ = some (.int .i64 0) := (blk_cell BK239.out 0).trans rfl; have hcz32_1 : w27.cell? ⟨gb239, 1, none⟩ = some (.int .i64 0) := (blk_cell BK239.out 1).trans rfl; have hfz32_0 := blk_frozen BK239.out 0; have hfz32_1 := blk_frozen BK239.out 1; have hcz33_0 : w27.cell? ⟨gb234, 0, none⟩ = some (.int .i64 t227) := (blk_cell BK234.out 0).trans rfl; have hcz33_1 : w27.cell? ⟨gb234, 1, none⟩ = some (.int .i64 t228) := (blk_cell BK234.out 1).trans rfl; have hfz33_0 := blk_frozen BK234.out 0; have hfz33_1 := blk_frozen BK234.out 1; have hcz34_0 : w27.cell? ⟨gb233, 0, none⟩ = some (.int .i64 t224) := (blk_cell BK233.out 0).trans rfl; have hcz34_1 : w27.cell? ⟨gb233, 1, none⟩ = some (.int .i64 t225) := (blk_cell BK233.out 1).trans rfl; have hfz34_0 := blk_frozen BK233.out 0; have hfz34_1 := blk_frozen BK233.out 1) | ((with_reducible refine gate_callee (f := 18) rfl ?_); refine goesL_ (some 38) rfl rfl Tryd.func18 (by kernel_rfl) rfl #[.agg #[.int .i64 t227, .int .i64 t228], .agg #[.int .i64 t224, .int .i64 t225]] rfl (by (try simp only [List.map_toArray, List.map_cons, List.map_nil]); first | done | rfl | (simp only [List.length_drop, List.length_take]; rfl)) ?_; (with_reducible refine (ratio_Add.calls k t227 t228 t224 t225 t240 t241 t242 _ A7.out).mono ?_); rintro e w35 ⟨rfl, hb⟩; refine ⟨_, rfl, ?_⟩; have n0_ := Aside0.mk (IsS54.below (show IsS54 w ((w27.setCell ⟨gb239, 0, none⟩ (.int .i64 t236)).setCell ⟨gb239, 1, none⟩ (.int .i64 t237)) g223 t221 t232 from by repeat (first | (with_reducible first | exact HI223.out | apply IsS54.alloc | apply IsS54.drewN | apply IsS54.drew | apply IsS54.set_1 | refine IsS54.far ?_ NB223_233.out _ | refine IsS54.far ?_ NB223_234.out _ | refine IsS54.far ?_ NB223_235.out _ | refine IsS54.far ?_ NB223_239.out _) | exact HI223.out)) hb); have n1_ := Aside0.mk (blk_below (g := gb233) (o := .cells #[.int .i64 t224, .int .i64 t225] 24 (0, 0)) (by (with_reducible repeat (first | refine blk_drewN ?_ _ | refine blk_drew ?_ | refine blk_alloc ?_ _)); refine blk_far ?_ NB233_239.out _; (with_reducible repeat (first | refine blk_drewN ?_ _ | refine blk_drew ?_ | refine blk_alloc ?_ _)); refine blk_far ?_ NB233_239.out _; (with_reducible repeat (first | refine blk_drewN ?_ _ | refine blk_drew ?_ | refine blk_alloc ?_ _)); exact BK233.out) hb); have n2_ := Aside0.mk (blk_below (g := gb234) (o := .cells #[.int .i64 t227, .int .i64 t228] 24 (0, 0)) (by (with_reducible repeat (first | refine blk_drewN ?_ _ | refine blk_drew ?_ | refine blk_alloc ?_ _)); refine blk_far ?_ NB234_239.out _; (with_reducible repeat (first | refine blk_drewN ?_ _ | refine blk_drew ?_ | refine blk_alloc ?_ _)); refine blk_far ?_ NB234_239.out _; (with_reducible repeat (first | refine blk_drewN ?_ _ | refine blk_drew ?_ | refine blk_alloc ?_ _)); exact BK234.out) hb); have n3_ := Aside0.mk (blk_below (g := gb235) (o := .cells #[.int .i64 t230, .int .i64 t231] 24 (0, 0)) (by (with_reducible repeat (first | refine blk_drewN ?_ _ | refine blk_drew ?_ | refine blk_alloc ?_ _)); refine blk_far ?_ NB235_239.out _; (with_reducible repeat (first | refine blk_drewN ?_ _ | refine blk_drew ?_ | refine blk_alloc ?_ _)); refine blk_far ?_ NB235_239.out _; (with_reducible repeat (first | refine blk_drewN ?_ _ | refine blk_drew ?_ | refine blk_alloc ?_ _)); exact BK235.out) hb); have n4_ := Aside0.mk (blk_below (g := gb239) (o := .cells #[.int .i64 t236, .int .i64 t237] 24 (0, 0)) (by (with_reducible repeat (first | refine blk_drewN ?_ _ | refine blk_drew ?_ | refine blk_alloc ?_ _)); refine blk_put (cs := #[.int .i64 t236, .int .i64 0]) ?_ 1 _ rfl; (with_reducible repeat (first | refine blk_drewN ?_ _ | refine blk_drew ?_ | refine blk_alloc ?_ _)); refine blk_put (cs := #[.int .i64 0, .int .i64 0]) ?_ 0 _ rfl; (with_reducible repeat (first | refine blk_drewN ?_ _ | refine blk_drew ?_ | refine blk_alloc ?_ _)); exact BK239.out) hb); have n5_ := Aside0.mk (below_step (by repeat (first | (with_reducible first | exact HB.out | apply below_alloc | apply pw_below_drewN | apply below_drew1 | refine below_set ?_ (IsS54.ge HI223.out) | refine below_set ?_ GE233.out | refine below_set ?_ GE234.out | refine below_set ?_ GE235.out | refine below_set ?_ GE239.out) | exact HB.out)) hb); clear HI223; clear BK233; clear BK234; clear BK235; clear BK239; clear HB; have HI223 := n0_; have BK233 := n1_; have BK234 := n2_; have BK235 := n3_; have BK239 := n4_; have HB := n5_; clear n0_ n1_ n2_ n3_ n4_ n5_; (try clear hb); (try clear hb2); (try clear hk); (try clear hi)) | ((with_reducible refine gate_dst (N := 9) rfl ?_); refine box_event ?hg (N := 9) ?hd (cs := #[.int .i64 0, .int .i64 0]) (t := 24) ?hr ?_; (case hd => rfl); (case hg => rfl); (case hr => first | (go_simp; done) | (go_simp; rfl)); intro gb243 hg w36 hbox hb; have n0_ := Aside0.mk (IsS54.below (by repeat (first | (with_reducible first | exact HI223.out | apply IsS54.alloc | apply IsS54.drewN | apply IsS54.drew | apply IsS54.set_1 | refine IsS54.far ?_ NB223_233.out _ | refine IsS54.far ?_ NB223_234.out _ | refine IsS54.far ?_ NB223_235.out _ | refine IsS54.far ?_ NB223_239.out _) | exact HI223.out)) hb); have n1_ := Aside0.mk (blk_below (g := gb233) (o := .cells #[.int .i64 t224, .int .i64 t225] 24 (0, 0)) (by (with_reducible repeat (first | refine blk_drewN ?_ _ | refine blk_drew ?_ | refine blk_alloc ?_ _)); exact BK233.out) hb); have n2_ := Aside0.mk (blk_below (g := gb234) (o := .cells #[.int .i64 t227, .int .i64 t228] 24 (0, 0)) (by (with_reducible repeat (first | refine blk_drewN ?_ _ | refine blk_drew ?_ | refine blk_alloc ?_ _)); exact BK234.out) hb); have n3_ := Aside0.mk (blk_below (g := gb235) (o := .cells #[.int .i64 t230, .int .i64 t231] 24 (0, 0)) (by (with_reducible repeat (first | refine blk_drewN ?_ _ | refine blk_drew ?_ | refine blk_alloc ?_ _)); exact BK235.out) hb); have n4_ := Aside0.mk (blk_below (g := gb239) (o := .cells #[.int .i64 t236, .int .i64 t237] 24 (0, 0)) (by (with_reducible repeat (first | refine blk_drewN ?_ _ | refine blk_drew ?_ | refine blk_alloc ?_ _)); exact BK239.out) hb); have n5_ := Aside0.mk (below_step (by repeat (first | (with_reducible first | exact HB.out | apply below_alloc | apply pw_below_drewN | apply below_drew1 | refine below_set ?_ (IsS54.ge HI223.out) | refine below_set ?_ GE233.out | refine below_set ?_ GE234.out | refine below_set ?_ GE235.out | refine below_set ?_ GE239.out) | exact HB.out)) hb); have n6_ := Aside0.mk (hbox); have n7_ := Aside0.mk ((by rw [hg]; exact (below_size (by repeat (first | (with_reducible first | exact HB.out | apply below_alloc | apply pw_below_drewN | apply below_drew1 | refine below_set ?_ (IsS54.ge HI223.out) | refine below_set ?_ GE233.out | refine below_set ?_ GE234.out | refine below_set ?_ GE235.out | refine below_set ?_ GE239.out) | exact HB.out))) : w.heap.size ≤ gb243)); have n8_ := Aside0.mk ((by rw [hg]; exact (below_size (by repeat (first | (with_reducible first | exact HB.out | apply below_alloc | apply pw_below_drewN | apply below_drew1 | refine below_set ?_ (IsS54.ge HI223.out) | refine below_set ?_ GE233.out | refine below_set ?_ GE234.out | refine below_set ?_ GE235.out | refine below_set ?_ GE239.out) | exact HB.out))) : w.heap.size ≤ gb243)); have n9_ := Aside0.mk ((by rw [hg]; exact Nat.ne_of_lt (blk_lt (g := gb233) (o := .cells #[.int .i64 t224, .int .i64 t225] 24 (0, 0)) (by (with_reducible repeat (first | refine blk_drewN ?_ _ | refine blk_drew ?_ | refine blk_alloc ?_ _)); exact BK233.out)) : gb233 ≠ gb243)); have n10_ := Aside0.mk ((by rw [hg]; exact Nat.ne_of_gt (blk_lt (g := gb233) (o := .cells #[.int .i64 t224, .int .i64 t225] 24 (0, 0)) (by (with_reducible repeat (first | refine blk_drewN ?_ _ | refine blk_drew ?_ | refine blk_alloc ?_ _)); exact BK233.out)) : gb243 ≠ gb233)); have n11_ := Aside0.mk ((by rw [hg]; exact Nat.ne_of_lt (blk_lt (g := gb234) (o := .cells #[.int .i64 t227, .int .i64 t228] 24 (0, 0)) (by (with_reducible repeat (first | refine blk_drewN ?_ _ | refine blk_drew ?_ | refine blk_alloc ?_ _)); exact BK234.out)) : gb234 ≠ gb243)); have n12_ := Aside0.mk ((by rw [hg]; exact Nat.ne_of_gt (blk_lt (g := gb234) (o := .cells #[.int .i64 t227, .int .i64 t228] 24 (0, 0)) (by (with_reducible repeat (first | refine blk_drewN ?_ _ | refine blk_drew ?_ | refine blk_alloc ?_ _)); exact BK234.out)) : gb243 ≠ gb234)); have n13_ := Aside0.mk ((by rw [hg]; exact Nat.ne_of_lt (blk_lt (g := gb235) (o := .cells #[.int .i64 t230, .int .i64 t231] 24 (0, 0)) (by (with_reducible repeat (first | refine blk_drewN ?_ _ | refine blk_drew ?_ | refine blk_alloc ?_ _)); exact BK235.out)) : gb235 ≠ gb243)); have n14_ := Aside0.mk ((by rw [hg]; exact Nat.ne_of_gt (blk_lt (g := gb235) (o := .cells #[.int .i64 t230, .int .i64 t231] 24 (0, 0)) (by (with_reducible repeat (first | refine blk_drewN ?_ _ | refine blk_drew ?_ | refine blk_alloc ?_ _)); exact BK235.out)) : gb243 ≠ gb235)); have n15_ := Aside0.mk ((by rw [hg]; exact Nat.ne_of_lt (blk_lt (g := gb239) (o := .cells #[.int .i64 t236, .int .i64 t237] 24 (0, 0)) (by (with_reducible repeat (first | refine blk_drewN ?_ _ | refine blk_drew ?_ | refine blk_alloc ?_ _)); exact BK239.out)) : gb239 ≠ gb243)); have n16_ := Aside0.mk ((by rw [hg]; exact Nat.ne_of_gt (blk_lt (g := gb239) (o := .cells #[.int .i64 t236, .int .i64 t237] 24 (0, 0)) (by (with_reducible repeat (first | refine blk_drewN ?_ _ | refine blk_drew ?_ | refine blk_alloc ?_ _)); exact BK239.out)) : gb243 ≠ gb239)); have n17_ := Aside0.mk ((by rw [hg]; exact Nat.ne_of_lt (IsS54.lt (show IsS54 w _ g223 t221 t232 from by repeat (first | (with_reducible first | exact HI223.out | apply IsS54.alloc | apply IsS54.drewN | apply IsS54.drew | apply IsS54.set_1 | refine IsS54.far ?_ NB223_233.out _ | refine IsS54.far ?_ NB223_234.out _ | refine IsS54.far ?_ NB223_235.out _ | refine IsS54.far ?_ NB223_239.out _) | exact HI223.out))) : g223 ≠ gb243)); have n18_ := Aside0.mk ((by rw [hg]; exact Nat.ne_of_gt (IsS54.lt (show IsS54 w _ g223 t221 t232 from by repeat (first | (with_reducible first | exact HI223.out | apply IsS54.alloc | apply IsS54.drewN | apply IsS54.drew | apply IsS54.set_1 | refine IsS54.far ?_ NB223_233.out _ | refine IsS54.far ?_ NB223_234.out _ | refine IsS54.far ?_ NB223_235.out _ | refine IsS54.far ?_ NB223_239.out _) | exact HI223.out))) : gb243 ≠ g223)); clear HI223; clear BK233; clear BK234; clear BK235; clear BK239; clear HB; have HI223 := n0_; have BK233 := n1_; have BK234 := n2_; have BK235 := n3_; have BK239 := n4_; have HB := n5_; have BK243 := n6_; have GW243 := n7_; have GE243 := n8_; have NB233_243 := n9_; have NB243_233 := n10_; have NB234_243 := n11_; have NB243_234 := n12_; have NB235_243 := n13_; have NB243_235 := n14_; have NB239_243 := n15_; have NB243_239 := n16_; have NB223_243 := n17_; have NB243_223 := n18_; clear n0_ n1_ n2_ n3_ n4_ n5_ n6_ n7_ n8_ n9_ n10_ n11_ n12_ n13_ n14_ n15_ n16_ n17_ n18_; clear hb hbox hg; have hnb37 := NB243_233.out; have hnc37 := NB233_243.out; have hnb38 := NB243_234.out; have hnc38 := NB234_243.out; have hnb39 := NB243_235.out; have hnc39 := NB235_243.out; have hnb40 := NB243_239.out; have hnc40 := NB239_243.out; have hnb41 := NB243_223.out; have hnc41 := NB223_243.out; have hcz42_0 : w36.cell? ⟨gb243, 0, none⟩ = some (.int .i64 0) := (blk_cell BK243.out 0).trans rfl; have hcz42_1 : w36.cell? ⟨gb243, 1, none⟩ = some (.int .i64 0) := (blk_cell BK243.out 1).trans rfl; have hfz42_0 := blk_frozen BK243.out 0; have hfz42_1 := blk_frozen BK243.out 1; have hcz43_0 : w36.cell? ⟨gb233, 0, none⟩ = some (.int .i64 t224) := (blk_cell BK233.out 0).trans rfl; have hcz43_1 : w36.cell? ⟨gb233, 1, none⟩ = some (.int .i64 t225) := (blk_cell BK233.out 1).trans rfl; have hfz43_0 := blk_frozen BK233.out 0; have hfz43_1 := blk_frozen BK233.out 1) | ((with_reducible refine gate_callee (f := 18) rfl ?_); refine goesL_ (some 44) rfl rfl Tryd.func18 (by kernel_rfl) rfl #[.agg #[.int .i64 t224, .int .i64 t225], .agg #[.int .i64 0, .int .i64 1]] rfl (by (try simp only [List.map_toArray, List.map_cons, List.map_nil]); first | done | rfl | (simp only [List.length_drop, List.length_take]; rfl)) ?_; (with_reducible refine (ratio_Add.calls k t224 t225 0 1 t244 t245 t246 _ A8.out).mono ?_); rintro e w44 ⟨rfl, hb⟩; refine ⟨_, rfl, ?_⟩; have n0_ := Aside0.mk (IsS54.below (show IsS54 w ((w36.setCell ⟨gb243, 0, none⟩ (.int .i64 t240)).setCell ⟨gb243, 1, none⟩ (.int .i64 t241)) g223 t221 t232 from by repeat (first | (with_reducible first | exact HI223.out | apply IsS54.alloc | apply IsS54.drewN | apply IsS54.drew | apply IsS54.set_1 | refine IsS54.far ?_ NB223_233.out _ | refine IsS54.far ?_ NB223_234.out _ | refine IsS54.far ?_ NB223_235.out _ | refine IsS54.far ?_ NB223_239.out _ | refine IsS54.far ?_ NB223_243.out _) | exact HI223.out)) hb); have n1_ := Aside0.mk (blk_below (g := gb233) (o := .cells #[.int .i64 t224, .int .i64 t225] 24 (0, 0)) (by (with_reducible repeat (first | refine blk_drewN ?_ _ | refine blk_drew ?_ | refine blk_alloc ?_ _)); refine blk_far ?_ NB233_243.out _; (with_reducible repeat (first | refine blk_drewN ?_ _ | refine blk_drew ?_ | refine blk_alloc ?_ _)); refine blk_far ?_ NB233_243.out _; (with_reducible repeat (first | refine blk_drewN ?_ _ | refine blk_drew ?_ | refine blk_alloc ?_ _)); exact BK233.out) hb); have n2_ := Aside0.mk (blk_below (g := gb234) (o := .cells #[.int .i64 t227, .int .i64 t228] 24 (0, 0)) (by (with_reducible repeat (first | refine blk_drewN ?_ _ | refine blk_drew ?_ | refine blk_alloc ?_ _)); refine blk_far ?_ NB234_243.out _; (with_reducible repeat (first | refine blk_drewN ?_ _ | refine blk_drew ?_ | refine blk_alloc ?_ _)); refine blk_far ?_ NB234_243.out _; (with_reducible repeat (first | refine blk_drewN ?_ _ | refine blk_drew ?_ | refine blk_alloc ?_ _)); exact BK234.out) hb); have n3_ := Aside0.mk (blk_below (g := gb235) (o := .cells #[.int .i64 t230, .int .i64 t231] 24 (0, 0)) (by (with_reducible repeat (first | refine blk_drewN ?_ _ | refine blk_drew ?_ | refine blk_alloc ?_ _)); refine blk_far ?_ NB235_243.out _; (with_reducible repeat (first | refine blk_drewN ?_ _ | refine blk_drew ?_ | refine blk_alloc ?_ _)); refine blk_far ?_ NB235_243.out _; (with_reducible repeat (first | refine blk_drewN ?_ _ | refine blk_drew ?_ | refine blk_alloc ?_ _)); exact BK235.out) hb); have n4_ := Aside0.mk (blk_below (g := gb239) (o := .cells #[.int .i64 t236, .int .i64 t237] 24 (0, 0)) (by (with_reducible repeat (first | refine blk_drewN ?_ _ | refine blk_drew ?_ | refine blk_alloc ?_ _)); refine blk_far ?_ NB239_243.out _; (with_reducible repeat (first | refine blk_drewN ?_ _ | refine blk_drew ?_ | refine blk_alloc ?_ _)); refine blk_far ?_ NB239_243.out _; (with_reducible repeat (first | refine blk_drewN ?_ _ | refine blk_drew ?_ | refine blk_alloc ?_ _)); exact BK239.out) hb); have n5_ := Aside0.mk (blk_below (g := gb243) (o := .cells #[.int .i64 t240, .int .i64 t241] 24 (0, 0)) (by (with_reducible repeat (first | refine blk_drewN ?_ _ | refine blk_drew ?_ | refine blk_alloc ?_ _)); refine blk_put (cs := #[.int .i64 t240, .int .i64 0]) ?_ 1 _ rfl; (with_reducible repeat (first | refine blk_drewN ?_ _ | refine blk_drew ?_ | refine blk_alloc ?_ _)); refine blk_put (cs := #[.int .i64 0, .int .i64 0]) ?_ 0 _ rfl; (with_reducible repeat (first | refine blk_drewN ?_ _ | refine blk_drew ?_ | refine blk_alloc ?_ _)); exact BK243.out) hb); have n6_ := Aside0.mk (below_step (by repeat (first | (with_reducible first | exact HB.out | apply below_alloc | apply pw_below_drewN | apply below_drew1 | refine below_set ?_ (IsS54.ge HI223.out) | refine below_set ?_ GE233.out | refine below_set ?_ GE234.out | refine below_set ?_ GE235.out | refine below_set ?_ GE239.out | refine below_set ?_ GE243.out) | exact HB.out)) hb); clear HI223; clear BK233; clear BK234; clear BK235; clear BK239; clear BK243; clear HB; have HI223 := n0_; have BK233 := n1_; have BK234 := n2_; have BK235 := n3_; have BK239 := n4_; have BK243 := n5_; have HB := n6_; clear n0_ n1_ n2_ n3_ n4_ n5_ n6_; (try clear hb); (try clear hb2); (try clear hk); (try clear hi)) | ((with_reducible refine gate_dst (N := 11) rfl ?_); refine box_event ?hg (N := 11) ?hd (cs := #[.int .i64 0, .int .i64 0]) (t := 24) ?hr ?_; (case hd => rfl); (case hg => rfl); (case hr => first | (go_simp; done) | (go_simp; rfl)); intro gb247 hg w45 hbox hb; have n0_ := Aside0.mk (IsS54.below (by repeat (first | (with_reducible first | exact HI223.out | apply IsS54.alloc | apply IsS54.drewN | apply IsS54.drew | apply IsS54.set_1 | refine IsS54.far ?_ NB223_233.out _ | refine IsS54.far ?_ NB223_234.out _ | refine IsS54.far ?_ NB223_235.out _ | refine IsS54.far ?_ NB223_239.out _ | refine IsS54.far ?_ NB223_243.out _) | exact HI223.out)) hb); have n1_ := Aside0.mk (blk_below (g := gb233) (o := .cells #[.int .i64 t224, .int .i64 t225] 24 (0, 0)) (by (with_reducible repeat (first | refine blk_drewN ?_ _ | refine blk_drew ?_ | refine blk_alloc ?_ _)); exact BK233.out) hb); have n2_ := Aside0.mk (blk_below (g := gb234) (o := .cells #[.int .i64 t227, .int .i64 t228] 24 (0, 0)) (by (with_reducible repeat (first | refine blk_drewN ?_ _ | refine blk_drew ?_ | refine blk_alloc ?_ _)); exact BK234.out) hb); have n3_ := Aside0.mk (blk_below (g := gb235) (o := .cells #[.int .i64 t230, .int .i64 t231] 24 (0, 0)) (by (with_reducible repeat (first | refine blk_drewN ?_ _ | refine blk_drew ?_ | refine blk_alloc ?_ _)); exact BK235.out) hb); have n4_ := Aside0.mk (blk_below (g := gb239) (o := .cells #[.int .i64 t236, .int .i64 t237] 24 (0, 0)) (by (with_reducible repeat (first | refine blk_drewN ?_ _ | refine blk_drew ?_ | refine blk_alloc ?_ _)); exact BK239.out) hb); have n5_ := Aside0.mk (blk_below (g := gb243) (o := .cells #[.int .i64 t240, .int .i64 t241] 24 (0, 0)) (by (with_reducible repeat (first | refine blk_drewN ?_ _ | refine blk_drew ?_ | refine blk_alloc ?_ _)); exact BK243.out) hb); have n6_ := Aside0.mk (below_step (by repeat (first | (with_reducible first | exact HB.out | apply below_alloc | apply pw_below_drewN | apply below_drew1 | refine below_set ?_ (IsS54.ge HI223.out) | refine below_set ?_ GE233.out | refine below_set ?_ GE234.out | refine below_set ?_ GE235.out | refine below_set ?_ GE239.out | refine below_set ?_ GE243.out) | exact HB.out)) hb); have n7_ := Aside0.mk (hbox); have n8_ := Aside0.mk ((by rw [hg]; exact (below_size (by repeat (first | (with_reducible first | exact HB.out | apply below_alloc | apply pw_below_drewN | apply below_drew1 | refine below_set ?_ (IsS54.ge HI223.out) | refine below_set ?_ GE233.out | refine below_set ?_ GE234.out | refine below_set ?_ GE235.out | refine below_set ?_ GE239.out | refine below_set ?_ GE243.out) | exact HB.out))) : w.heap.size ≤ gb247)); have n9_ := Aside0.mk ((by rw [hg]; exact (below_size (by repeat (first | (with_reducible first | exact HB.out | apply below_alloc | apply pw_below_drewN | apply below_drew1 | refine below_set ?_ (IsS54.ge HI223.out) | refine below_set ?_ GE233.out | refine below_set ?_ GE234.out | refine below_set ?_ GE235.out | refine below_set ?_ GE239.out | refine below_set ?_ GE243.out) | exact HB.out))) : w.heap.size ≤ gb247)); have n10_ := Aside0.mk ((by rw [hg]; exact Nat.ne_of_lt (blk_lt (g := gb233) (o := .cells #[.int .i64 t224, .int .i64 t225] 24 (0, 0)) (by (with_reducible repeat (first | refine blk_drewN ?_ _ | refine blk_drew ?_ | refine blk_alloc ?_ _)); exact BK233.out)) : gb233 ≠ gb247)); have n11_ := Aside0.mk ((by rw [hg]; exact Nat.ne_of_gt (blk_lt (g := gb233) (o := .cells #[.int .i64 t224, .int .i64 t225] 24 (0, 0)) (by (with_reducible repeat (first | refine blk_drewN ?_ _ | refine blk_drew ?_ | refine blk_alloc ?_ _)); exact BK233.out)) : gb247 ≠ gb233)); have n12_ := Aside0.mk ((by rw [hg]; exact Nat.ne_of_lt (blk_lt (g := gb234) (o := .cells #[.int .i64 t227, .int .i64 t228] 24 (0, 0)) (by (with_reducible repeat (first | refine blk_drewN ?_ _ | refine blk_drew ?_ | refine blk_alloc ?_ _)); exact BK234.out)) : gb234 ≠ gb247)); have n13_ := Aside0.mk ((by rw [hg]; exact Nat.ne_of_gt (blk_lt (g := gb234) (o := .cells #[.int .i64 t227, .int .i64 t228] 24 (0, 0)) (by (with_reducible repeat (first | refine blk_drewN ?_ _ | refine blk_drew ?_ | refine blk_alloc ?_ _)); exact BK234.out)) : gb247 ≠ gb234)); have n14_ := Aside0.mk ((by rw [hg]; exact Nat.ne_of_lt (blk_lt (g := gb235) (o := .cells #[.int .i64 t230, .int .i64 t231] 24 (0, 0)) (by (with_reducible repeat (first | refine blk_drewN ?_ _ | refine blk_drew ?_ | refine blk_alloc ?_ _)); exact BK235.out)) : gb235 ≠ gb247)); have n15_ := Aside0.mk ((by rw [hg]; exact Nat.ne_of_gt (blk_lt (g := gb235) (o := .cells #[.int .i64 t230, .int .i64 t231] 24 (0, 0)) (by (with_reducible repeat (first | refine blk_drewN ?_ _ | refine blk_drew ?_ | refine blk_alloc ?_ _)); exact BK235.out)) : gb247 ≠ gb235)); have n16_ := Aside0.mk ((by rw [hg]; exact Nat.ne_of_lt (blk_lt (g := gb239) (o := .cells #[.int .i64 t236, .int .i64 t237] 24 (0, 0)) (by (with_reducible repeat (first | refine blk_drewN ?_ _ | refine blk_drew ?_ | refine blk_alloc ?_ _)); exact BK239.out)) : gb239 ≠ gb247)); have n17_ := Aside0.mk ((by rw [hg]; exact Nat.ne_of_gt (blk_lt (g := gb239) (o := .cells #[.int .i64 t236, .int .i64 t237] 24 (0, 0)) (by (with_reducible repeat (first | refine blk_drewN ?_ _ | refine blk_drew ?_ | refine blk_alloc ?_ _)); exact BK239.out)) : gb247 ≠ gb239)); have n18_ := Aside0.mk ((by rw [hg]; exact Nat.ne_of_lt (blk_lt (g := gb243) (o := .cells #[.int .i64 t240, .int .i64 t241] 24 (0, 0)) (by (with_reducible repeat (first | refine blk_drewN ?_ _ | refine blk_drew ?_ | refine blk_alloc ?_ _)); exact BK243.out)) : gb243 ≠ gb247)); have n19_ := Aside0.mk ((by rw [hg]; exact Nat.ne_of_gt (blk_lt (g := gb243) (o := .cells #[.int .i64 t240, .int .i64 t241] 24 (0, 0)) (by (with_reducible repeat (first | refine blk_drewN ?_ _ | refine blk_drew ?_ | refine blk_alloc ?_ _)); exact BK243.out)) : gb247 ≠ gb243)); have n20_ := Aside0.mk ((by rw [hg]; exact Nat.ne_of_lt (IsS54.lt (show IsS54 w _ g223 t221 t232 from by repeat (first | (with_reducible first | exact HI223.out | apply IsS54.alloc | apply IsS54.drewN | apply IsS54.drew | apply IsS54.set_1 | refine IsS54.far ?_ NB223_233.out _ | refine IsS54.far ?_ NB223_234.out _ | refine IsS54.far ?_ NB223_235.out _ | refine IsS54.far ?_ NB223_239.out _ | refine IsS54.far ?_ NB223_243.out _) | exact HI223.out))) : g223 ≠ gb247)); have n21_ := Aside0.mk ((by rw [hg]; exact Nat.ne_of_gt (IsS54.lt (show IsS54 w _ g223 t221 t232 from by repeat (first | (with_reducible first | exact HI223.out | apply IsS54.alloc | apply IsS54.drewN | apply IsS54.drew | apply IsS54.set_1 | refine IsS54.far ?_ NB223_233.out _ | refine IsS54.far ?_ NB223_234.out _ | refine IsS54.far ?_ NB223_235.out _ | refine IsS54.far ?_ NB223_239.out _ | refine IsS54.far ?_ NB223_243.out _) | exact HI223.out))) : gb247 ≠ g223)); clear HI223; clear BK233; clear BK234; clear BK235; clear BK239; clear BK243; clear HB; have HI223 := n0_; have BK233 := n1_; have BK234 := n2_; have BK235 := n3_; have BK239 := n4_; have BK243 := n5_; have HB := n6_; have BK247 := n7_; have GW247 := n8_; have GE247 := n9_; have NB233_247 := n10_; have NB247_233 := n11_; have NB234_247 := n12_; have NB247_234 := n13_; have NB235_247 := n14_; have NB247_235 := n15_; have NB239_247 := n16_; have NB247_239 := n17_; have NB243_247 := n18_; have NB247_243 := n19_; have NB223_247 := n20_; have NB247_223 := n21_; clear n0_ n1_ n2_ n3_ n4_ n5_ n6_ n7_ n8_ n9_ n10_ n11_ n12_ n13_ n14_ n15_ n16_ n17_ n18_ n19_ n20_ n21_; clear hb hbox hg; have hnb46 := NB247_233.out; have hnc46 := NB233_247.out; have hnb47 := NB247_234.out; have hnc47 := NB234_247.out; have hnb48 := NB247_235.out; have hnc48 := NB235_247.out; have hnb49 := NB247_239.out; have hnc49 := NB239_247.out; have hnb50 := NB247_243.out; have hnc50 := NB243_247.out; have hnb51 := NB247_223.out; have hnc51 := NB223_247.out; have hcz52_0 : w45.cell? ⟨gb247, 0, none⟩ = some (.int .i64 0) := (blk_cell BK247.out 0).trans rfl; have hcz52_1 : w45.cell? ⟨gb247, 1, none⟩ = some (.int .i64 0) := (blk_cell BK247.out 1).trans rfl; have hfz52_0 := blk_frozen BK247.out 0; have hfz52_1 := blk_frozen BK247.out 1))
  (try simp only [Act.put, List.setIfInBounds_toArray, List.set_cons_zero, List.set_cons_succ])
  go_cut [63] (fun v63 wc => ∃ (kq : Nat) (x63_8 : Bool), v63 = .bool x63_8 ∧ Aside0 (shapesearchlaw01_RatioSums.j0 kq t238 x63_8 t224 t225 t227 t228 t230 t231 t236 t237 = some r) ∧ Aside0 (kq ≤ k) ∧ Aside0 (wc.heap[gb233]? = some (.cells #[.int .i64 t224, .int .i64 t225] 24 (0, 0))) ∧ Aside0 (wc.heap[gb234]? = some (.cells #[.int .i64 t227, .int .i64 t228] 24 (0, 0))) ∧ Aside0 (wc.heap[gb235]? = some (.cells #[.int .i64 t230, .int .i64 t231] 24 (0, 0))) ∧ Aside0 (wc.heap[gb239]? = some (.cells #[.int .i64 t236, .int .i64 t237] 24 (0, 0))) ∧ Aside0 (wc.heap[gb243]? = some (.cells #[.int .i64 t240, .int .i64 t241] 24 (0, 0))) ∧ Aside0 (wc.heap[gb247]? = some (.cells #[.int .i64 t244, .int .i64 t245] 24 (0, 0))) ∧ Aside0 (Below w.heap.size w wc))
  case first =>
    have H := HC9.out
    clear HC9
    by_cases c53 : (!(t236 == t240) || (!(t237 == t241))) = true
    · rw [if_pos c53] at H
      have c53b0 : (!(t236 == t240) || (!(t237 == t241))) = true := c53
      clear c53
      (first | rw [c53b0] | (simp only [i64_w, i32_w]; rw [c53b0]) | skip)
      have H' := Aside0.mk H
      clear H
      have hnb54 := NB239_233.out
      have hnc54 := NB233_239.out
      have hnb55 := NB239_234.out
      have hnc55 := NB234_239.out
      have hnb56 := NB239_235.out
      have hnc56 := NB235_239.out
      have hnb57 := NB239_243.out
      have hnc57 := NB243_239.out
      have hnb58 := NB239_247.out
      have hnc58 := NB247_239.out
      have hnb59 := NB239_223.out
      have hnc59 := NB223_239.out
      have hcz60_0 : w45.cell? ⟨gb239, 0, none⟩ = some (.int .i64 t236) := (blk_cell BK239.out 0).trans rfl
      have hcz60_1 : w45.cell? ⟨gb239, 1, none⟩ = some (.int .i64 t237) := (blk_cell BK239.out 1).trans rfl
      have hfz60_0 := blk_frozen BK239.out 0
      have hfz60_1 := blk_frozen BK239.out 1
      have hnb61 := NB243_233.out
      have hnc61 := NB233_243.out
      have hnb62 := NB243_234.out
      have hnc62 := NB234_243.out
      have hnb63 := NB243_235.out
      have hnc63 := NB235_243.out
      have hnb64 := NB243_247.out
      have hnc64 := NB247_243.out
      have hnb65 := NB243_223.out
      have hnc65 := NB223_243.out
      have hcz66_0 : w45.cell? ⟨gb243, 0, none⟩ = some (.int .i64 t240) := (blk_cell BK243.out 0).trans rfl
      have hcz66_1 : w45.cell? ⟨gb243, 1, none⟩ = some (.int .i64 t241) := (blk_cell BK243.out 1).trans rfl
      have hfz66_0 := blk_frozen BK243.out 0
      have hfz66_1 := blk_frozen BK243.out 1
      go_wp2
      go_meet
      case rel => exact ⟨_, (true), (by first | rfl | (simp; done) | (simp [*]; done)), H', ⟨by first | omega | exact Nat.le_refl _⟩, ⟨by (with_reducible repeat (first | refine blk_drewN ?_ _ | refine blk_drew ?_ | refine blk_alloc ?_ _)); refine blk_far ?_ NB233_247.out _; (with_reducible repeat (first | refine blk_drewN ?_ _ | refine blk_drew ?_ | refine blk_alloc ?_ _)); refine blk_far ?_ NB233_247.out _; (with_reducible repeat (first | refine blk_drewN ?_ _ | refine blk_drew ?_ | refine blk_alloc ?_ _)); exact BK233.out⟩, ⟨by (with_reducible repeat (first | refine blk_drewN ?_ _ | refine blk_drew ?_ | refine blk_alloc ?_ _)); refine blk_far ?_ NB234_247.out _; (with_reducible repeat (first | refine blk_drewN ?_ _ | refine blk_drew ?_ | refine blk_alloc ?_ _)); refine blk_far ?_ NB234_247.out _; (with_reducible repeat (first | refine blk_drewN ?_ _ | refine blk_drew ?_ | refine blk_alloc ?_ _)); exact BK234.out⟩, ⟨by (with_reducible repeat (first | refine blk_drewN ?_ _ | refine blk_drew ?_ | refine blk_alloc ?_ _)); refine blk_far ?_ NB235_247.out _; (with_reducible repeat (first | refine blk_drewN ?_ _ | refine blk_drew ?_ | refine blk_alloc ?_ _)); refine blk_far ?_ NB235_247.out _; (with_reducible repeat (first | refine blk_drewN ?_ _ | refine blk_drew ?_ | refine blk_alloc ?_ _)); exact BK235.out⟩, ⟨by (with_reducible repeat (first | refine blk_drewN ?_ _ | refine blk_drew ?_ | refine blk_alloc ?_ _)); refine blk_far ?_ NB239_247.out _; (with_reducible repeat (first | refine blk_drewN ?_ _ | refine blk_drew ?_ | refine blk_alloc ?_ _)); refine blk_far ?_ NB239_247.out _; (with_reducible repeat (first | refine blk_drewN ?_ _ | refine blk_drew ?_ | refine blk_alloc ?_ _)); exact BK239.out⟩, ⟨by (with_reducible repeat (first | refine blk_drewN ?_ _ | refine blk_drew ?_ | refine blk_alloc ?_ _)); refine blk_far ?_ NB243_247.out _; (with_reducible repeat (first | refine blk_drewN ?_ _ | refine blk_drew ?_ | refine blk_alloc ?_ _)); refine blk_far ?_ NB243_247.out _; (with_reducible repeat (first | refine blk_drewN ?_ _ | refine blk_drew ?_ | refine blk_alloc ?_ _)); exact BK243.out⟩, ⟨by (with_reducible repeat (first | refine blk_drewN ?_ _ | refine blk_drew ?_ | refine blk_alloc ?_ _)); refine blk_put (cs := #[.int .i64 t244, .int .i64 0]) ?_ 1 _ rfl; (with_reducible repeat (first | refine blk_drewN ?_ _ | refine blk_drew ?_ | refine blk_alloc ?_ _)); refine blk_put (cs := #[.int .i64 0, .int .i64 0]) ?_ 0 _ rfl; (with_reducible repeat (first | refine blk_drewN ?_ _ | refine blk_drew ?_ | refine blk_alloc ?_ _)); exact BK247.out⟩, ⟨by repeat (first | (with_reducible first | exact HB.out | apply below_alloc | apply pw_below_drewN | apply below_drew1 | refine below_set ?_ (IsS54.ge HI223.out) | refine below_set ?_ GE233.out | refine below_set ?_ GE234.out | refine below_set ?_ GE235.out | refine below_set ?_ GE239.out | refine below_set ?_ GE243.out | refine below_set ?_ GE247.out) | exact HB.out)⟩⟩
    · rw [if_neg c53] at H
      have c53b0 : (!(t236 == t240) || (!(t237 == t241))) = false := by simpa using c53
      clear c53
      (first | rw [c53b0] | (simp only [i64_w, i32_w]; rw [c53b0]) | skip)
      by_cases c67 : t238 = t242
      · rw [if_pos c67] at H
        have c67b0 : (t238 == t242) = true := beq_iff_eq.mpr c67
        have c67b1 : (t238 != t242) = false := bne_eq_false_iff_eq.mpr c67
        clear c67
        by_cases c68 : (!(t244 == t224) || (!(t245 == t225))) = true
        · rw [if_pos c68] at H
          have c68b0 : (!(t244 == t224) || (!(t245 == t225))) = true := c68
          clear c68
          have H' := Aside0.mk H
          clear H
          have hnb69 := NB239_233.out
          have hnc69 := NB233_239.out
          have hnb70 := NB239_234.out
          have hnc70 := NB234_239.out
          have hnb71 := NB239_235.out
          have hnc71 := NB235_239.out
          have hnb72 := NB239_243.out
          have hnc72 := NB243_239.out
          have hnb73 := NB239_247.out
          have hnc73 := NB247_239.out
          have hnb74 := NB239_223.out
          have hnc74 := NB223_239.out
          have hcz75_0 : w45.cell? ⟨gb239, 0, none⟩ = some (.int .i64 t236) := (blk_cell BK239.out 0).trans rfl
          have hcz75_1 : w45.cell? ⟨gb239, 1, none⟩ = some (.int .i64 t237) := (blk_cell BK239.out 1).trans rfl
          have hfz75_0 := blk_frozen BK239.out 0
          have hfz75_1 := blk_frozen BK239.out 1
          have hnb76 := NB243_233.out
          have hnc76 := NB233_243.out
          have hnb77 := NB243_234.out
          have hnc77 := NB234_243.out
          have hnb78 := NB243_235.out
          have hnc78 := NB235_243.out
          have hnb79 := NB243_247.out
          have hnc79 := NB247_243.out
          have hnb80 := NB243_223.out
          have hnc80 := NB223_243.out
          have hcz81_0 : w45.cell? ⟨gb243, 0, none⟩ = some (.int .i64 t240) := (blk_cell BK243.out 0).trans rfl
          have hcz81_1 : w45.cell? ⟨gb243, 1, none⟩ = some (.int .i64 t241) := (blk_cell BK243.out 1).trans rfl
          have hfz81_0 := blk_frozen BK243.out 0
          have hfz81_1 := blk_frozen BK243.out 1
          have hnb82 := NB247_233.out
          have hnc82 := NB233_247.out
          have hnb83 := NB247_234.out
          have hnc83 := NB234_247.out
          have hnb84 := NB247_235.out
          have hnc84 := NB235_247.out
          have hnb85 := NB247_223.out
          have hnc85 := NB223_247.out
          have hcz86_0 : w45.cell? ⟨gb247, 0, none⟩ = some (.int .i64 0) := (blk_cell BK247.out 0).trans rfl
          have hcz86_1 : w45.cell? ⟨gb247, 1, none⟩ = some (.int .i64 0) := (blk_cell BK247.out 1).trans rfl
          have hfz86_0 := blk_frozen BK247.out 0
          have hfz86_1 := blk_frozen BK247.out 1
          have hnb87 := NB233_234.out
          have hnc87 := NB234_233.out
          have hnb88 := NB233_235.out
          have hnc88 := NB235_233.out
          have hnb89 := NB233_223.out
          have hnc89 := NB223_233.out
          have hcz90_0 : w45.cell? ⟨gb233, 0, none⟩ = some (.int .i64 t224) := (blk_cell BK233.out 0).trans rfl
          have hcz90_1 : w45.cell? ⟨gb233, 1, none⟩ = some (.int .i64 t225) := (blk_cell BK233.out 1).trans rfl
          have hfz90_0 := blk_frozen BK233.out 0
          have hfz90_1 := blk_frozen BK233.out 1
          go_wp2
          go_meet
          case rel => exact ⟨_, (true), (by first | rfl | (simp; done) | (simp [*]; done)), H', ⟨by first | omega | exact Nat.le_refl _⟩, ⟨by (with_reducible repeat (first | refine blk_drewN ?_ _ | refine blk_drew ?_ | refine blk_alloc ?_ _)); refine blk_far ?_ NB233_247.out _; (with_reducible repeat (first | refine blk_drewN ?_ _ | refine blk_drew ?_ | refine blk_alloc ?_ _)); refine blk_far ?_ NB233_247.out _; (with_reducible repeat (first | refine blk_drewN ?_ _ | refine blk_drew ?_ | refine blk_alloc ?_ _)); exact BK233.out⟩, ⟨by (with_reducible repeat (first | refine blk_drewN ?_ _ | refine blk_drew ?_ | refine blk_alloc ?_ _)); refine blk_far ?_ NB234_247.out _; (with_reducible repeat (first | refine blk_drewN ?_ _ | refine blk_drew ?_ | refine blk_alloc ?_ _)); refine blk_far ?_ NB234_247.out _; (with_reducible repeat (first | refine blk_drewN ?_ _ | refine blk_drew ?_ | refine blk_alloc ?_ _)); exact BK234.out⟩, ⟨by (with_reducible repeat (first | refine blk_drewN ?_ _ | refine blk_drew ?_ | refine blk_alloc ?_ _)); refine blk_far ?_ NB235_247.out _; (with_reducible repeat (first | refine blk_drewN ?_ _ | refine blk_drew ?_ | refine blk_alloc ?_ _)); refine blk_far ?_ NB235_247.out _; (with_reducible repeat (first | refine blk_drewN ?_ _ | refine blk_drew ?_ | refine blk_alloc ?_ _)); exact BK235.out⟩, ⟨by (with_reducible repeat (first | refine blk_drewN ?_ _ | refine blk_drew ?_ | refine blk_alloc ?_ _)); refine blk_far ?_ NB239_247.out _; (with_reducible repeat (first | refine blk_drewN ?_ _ | refine blk_drew ?_ | refine blk_alloc ?_ _)); refine blk_far ?_ NB239_247.out _; (with_reducible repeat (first | refine blk_drewN ?_ _ | refine blk_drew ?_ | refine blk_alloc ?_ _)); exact BK239.out⟩, ⟨by (with_reducible repeat (first | refine blk_drewN ?_ _ | refine blk_drew ?_ | refine blk_alloc ?_ _)); refine blk_far ?_ NB243_247.out _; (with_reducible repeat (first | refine blk_drewN ?_ _ | refine blk_drew ?_ | refine blk_alloc ?_ _)); refine blk_far ?_ NB243_247.out _; (with_reducible repeat (first | refine blk_drewN ?_ _ | refine blk_drew ?_ | refine blk_alloc ?_ _)); exact BK243.out⟩, ⟨by (with_reducible repeat (first | refine blk_drewN ?_ _ | refine blk_drew ?_ | refine blk_alloc ?_ _)); refine blk_put (cs := #[.int .i64 t244, .int .i64 0]) ?_ 1 _ rfl; (with_reducible repeat (first | refine blk_drewN ?_ _ | refine blk_drew ?_ | refine blk_alloc ?_ _)); refine blk_put (cs := #[.int .i64 0, .int .i64 0]) ?_ 0 _ rfl; (with_reducible repeat (first | refine blk_drewN ?_ _ | refine blk_drew ?_ | refine blk_alloc ?_ _)); exact BK247.out⟩, ⟨by repeat (first | (with_reducible first | exact HB.out | apply below_alloc | apply pw_below_drewN | apply below_drew1 | refine below_set ?_ (IsS54.ge HI223.out) | refine below_set ?_ GE233.out | refine below_set ?_ GE234.out | refine below_set ?_ GE235.out | refine below_set ?_ GE239.out | refine below_set ?_ GE243.out | refine below_set ?_ GE247.out) | exact HB.out)⟩⟩
        · rw [if_neg c68] at H
          have c68b0 : (!(t244 == t224) || (!(t245 == t225))) = false := by simpa using c68
          clear c68
          have H' := Aside0.mk H
          clear H
          have hnb91 := NB239_233.out
          have hnc91 := NB233_239.out
          have hnb92 := NB239_234.out
          have hnc92 := NB234_239.out
          have hnb93 := NB239_235.out
          have hnc93 := NB235_239.out
          have hnb94 := NB239_243.out
          have hnc94 := NB243_239.out
          have hnb95 := NB239_247.out
          have hnc95 := NB247_239.out
          have hnb96 := NB239_223.out
          have hnc96 := NB223_239.out
          have hcz97_0 : w45.cell? ⟨gb239, 0, none⟩ = some (.int .i64 t236) := (blk_cell BK239.out 0).trans rfl
          have hcz97_1 : w45.cell? ⟨gb239, 1, none⟩ = some (.int .i64 t237) := (blk_cell BK239.out 1).trans rfl
          have hfz97_0 := blk_frozen BK239.out 0
          have hfz97_1 := blk_frozen BK239.out 1
          have hnb98 := NB243_233.out
          have hnc98 := NB233_243.out
          have hnb99 := NB243_234.out
          have hnc99 := NB234_243.out
          have hnb100 := NB243_235.out
          have hnc100 := NB235_243.out
          have hnb101 := NB243_247.out
          have hnc101 := NB247_243.out
          have hnb102 := NB243_223.out
          have hnc102 := NB223_243.out
          have hcz103_0 : w45.cell? ⟨gb243, 0, none⟩ = some (.int .i64 t240) := (blk_cell BK243.out 0).trans rfl
          have hcz103_1 : w45.cell? ⟨gb243, 1, none⟩ = some (.int .i64 t241) := (blk_cell BK243.out 1).trans rfl
          have hfz103_0 := blk_frozen BK243.out 0
          have hfz103_1 := blk_frozen BK243.out 1
          have hnb104 := NB247_233.out
          have hnc104 := NB233_247.out
          have hnb105 := NB247_234.out
          have hnc105 := NB234_247.out
          have hnb106 := NB247_235.out
          have hnc106 := NB235_247.out
          have hnb107 := NB247_223.out
          have hnc107 := NB223_247.out
          have hcz108_0 : w45.cell? ⟨gb247, 0, none⟩ = some (.int .i64 0) := (blk_cell BK247.out 0).trans rfl
          have hcz108_1 : w45.cell? ⟨gb247, 1, none⟩ = some (.int .i64 0) := (blk_cell BK247.out 1).trans rfl
          have hfz108_0 := blk_frozen BK247.out 0
          have hfz108_1 := blk_frozen BK247.out 1
          have hnb109 := NB233_234.out
          have hnc109 := NB234_233.out
          have hnb110 := NB233_235.out
          have hnc110 := NB235_233.out
          have hnb111 := NB233_223.out
          have hnc111 := NB223_233.out
          have hcz112_0 : w45.cell? ⟨gb233, 0, none⟩ = some (.int .i64 t224) := (blk_cell BK233.out 0).trans rfl
          have hcz112_1 : w45.cell? ⟨gb233, 1, none⟩ = some (.int .i64 t225) := (blk_cell BK233.out 1).trans rfl
          have hfz112_0 := blk_frozen BK233.out 0
          have hfz112_1 := blk_frozen BK233.out 1
          go_wp2
          go_meet
          case rel => exact ⟨_, ((t246 != 0)), (by first | rfl | (simp; done) | (simp [*]; done)), H', ⟨by first | omega | exact Nat.le_refl _⟩, ⟨by (with_reducible repeat (first | refine blk_drewN ?_ _ | refine blk_drew ?_ | refine blk_alloc ?_ _)); refine blk_far ?_ NB233_247.out _; (with_reducible repeat (first | refine blk_drewN ?_ _ | refine blk_drew ?_ | refine blk_alloc ?_ _)); refine blk_far ?_ NB233_247.out _; (with_reducible repeat (first | refine blk_drewN ?_ _ | refine blk_drew ?_ | refine blk_alloc ?_ _)); exact BK233.out⟩, ⟨by (with_reducible repeat (first | refine blk_drewN ?_ _ | refine blk_drew ?_ | refine blk_alloc ?_ _)); refine blk_far ?_ NB234_247.out _; (with_reducible repeat (first | refine blk_drewN ?_ _ | refine blk_drew ?_ | refine blk_alloc ?_ _)); refine blk_far ?_ NB234_247.out _; (with_reducible repeat (first | refine blk_drewN ?_ _ | refine blk_drew ?_ | refine blk_alloc ?_ _)); exact BK234.out⟩, ⟨by (with_reducible repeat (first | refine blk_drewN ?_ _ | refine blk_drew ?_ | refine blk_alloc ?_ _)); refine blk_far ?_ NB235_247.out _; (with_reducible repeat (first | refine blk_drewN ?_ _ | refine blk_drew ?_ | refine blk_alloc ?_ _)); refine blk_far ?_ NB235_247.out _; (with_reducible repeat (first | refine blk_drewN ?_ _ | refine blk_drew ?_ | refine blk_alloc ?_ _)); exact BK235.out⟩, ⟨by (with_reducible repeat (first | refine blk_drewN ?_ _ | refine blk_drew ?_ | refine blk_alloc ?_ _)); refine blk_far ?_ NB239_247.out _; (with_reducible repeat (first | refine blk_drewN ?_ _ | refine blk_drew ?_ | refine blk_alloc ?_ _)); refine blk_far ?_ NB239_247.out _; (with_reducible repeat (first | refine blk_drewN ?_ _ | refine blk_drew ?_ | refine blk_alloc ?_ _)); exact BK239.out⟩, ⟨by (with_reducible repeat (first | refine blk_drewN ?_ _ | refine blk_drew ?_ | refine blk_alloc ?_ _)); refine blk_far ?_ NB243_247.out _; (with_reducible repeat (first | refine blk_drewN ?_ _ | refine blk_drew ?_ | refine blk_alloc ?_ _)); refine blk_far ?_ NB243_247.out _; (with_reducible repeat (first | refine blk_drewN ?_ _ | refine blk_drew ?_ | refine blk_alloc ?_ _)); exact BK243.out⟩, ⟨by (with_reducible repeat (first | refine blk_drewN ?_ _ | refine blk_drew ?_ | refine blk_alloc ?_ _)); refine blk_put (cs := #[.int .i64 t244, .int .i64 0]) ?_ 1 _ rfl; (with_reducible repeat (first | refine blk_drewN ?_ _ | refine blk_drew ?_ | refine blk_alloc ?_ _)); refine blk_put (cs := #[.int .i64 0, .int .i64 0]) ?_ 0 _ rfl; (with_reducible repeat (first | refine blk_drewN ?_ _ | refine blk_drew ?_ | refine blk_alloc ?_ _)); exact BK247.out⟩, ⟨by repeat (first | (with_reducible first | exact HB.out | apply below_alloc | apply pw_below_drewN | apply below_drew1 | refine below_set ?_ (IsS54.ge HI223.out) | refine below_set ?_ GE233.out | refine below_set ?_ GE234.out | refine below_set ?_ GE235.out | refine below_set ?_ GE239.out | refine below_set ?_ GE243.out | refine below_set ?_ GE247.out) | exact HB.out)⟩⟩
      · rw [if_neg c67] at H
        have c67b0 : (t238 == t242) = false := beq_eq_false_iff_ne.mpr c67
        have c67b1 : (t238 != t242) = true := bne_iff_ne.mpr c67
        have H' := Aside0.mk H
        clear H
        have hnb113 := NB239_233.out
        have hnc113 := NB233_239.out
        have hnb114 := NB239_234.out
        have hnc114 := NB234_239.out
        have hnb115 := NB239_235.out
        have hnc115 := NB235_239.out
        have hnb116 := NB239_243.out
        have hnc116 := NB243_239.out
        have hnb117 := NB239_247.out
        have hnc117 := NB247_239.out
        have hnb118 := NB239_223.out
        have hnc118 := NB223_239.out
        have hcz119_0 : w45.cell? ⟨gb239, 0, none⟩ = some (.int .i64 t236) := (blk_cell BK239.out 0).trans rfl
        have hcz119_1 : w45.cell? ⟨gb239, 1, none⟩ = some (.int .i64 t237) := (blk_cell BK239.out 1).trans rfl
        have hfz119_0 := blk_frozen BK239.out 0
        have hfz119_1 := blk_frozen BK239.out 1
        have hnb120 := NB243_233.out
        have hnc120 := NB233_243.out
        have hnb121 := NB243_234.out
        have hnc121 := NB234_243.out
        have hnb122 := NB243_235.out
        have hnc122 := NB235_243.out
        have hnb123 := NB243_247.out
        have hnc123 := NB247_243.out
        have hnb124 := NB243_223.out
        have hnc124 := NB223_243.out
        have hcz125_0 : w45.cell? ⟨gb243, 0, none⟩ = some (.int .i64 t240) := (blk_cell BK243.out 0).trans rfl
        have hcz125_1 : w45.cell? ⟨gb243, 1, none⟩ = some (.int .i64 t241) := (blk_cell BK243.out 1).trans rfl
        have hfz125_0 := blk_frozen BK243.out 0
        have hfz125_1 := blk_frozen BK243.out 1
        go_wp2
        go_meet
        case rel => exact ⟨_, (true), (by first | rfl | (simp; done) | (simp [*]; done)), H', ⟨by first | omega | exact Nat.le_refl _⟩, ⟨by (with_reducible repeat (first | refine blk_drewN ?_ _ | refine blk_drew ?_ | refine blk_alloc ?_ _)); refine blk_far ?_ NB233_247.out _; (with_reducible repeat (first | refine blk_drewN ?_ _ | refine blk_drew ?_ | refine blk_alloc ?_ _)); refine blk_far ?_ NB233_247.out _; (with_reducible repeat (first | refine blk_drewN ?_ _ | refine blk_drew ?_ | refine blk_alloc ?_ _)); exact BK233.out⟩, ⟨by (with_reducible repeat (first | refine blk_drewN ?_ _ | refine blk_drew ?_ | refine blk_alloc ?_ _)); refine blk_far ?_ NB234_247.out _; (with_reducible repeat (first | refine blk_drewN ?_ _ | refine blk_drew ?_ | refine blk_alloc ?_ _)); refine blk_far ?_ NB234_247.out _; (with_reducible repeat (first | refine blk_drewN ?_ _ | refine blk_drew ?_ | refine blk_alloc ?_ _)); exact BK234.out⟩, ⟨by (with_reducible repeat (first | refine blk_drewN ?_ _ | refine blk_drew ?_ | refine blk_alloc ?_ _)); refine blk_far ?_ NB235_247.out _; (with_reducible repeat (first | refine blk_drewN ?_ _ | refine blk_drew ?_ | refine blk_alloc ?_ _)); refine blk_far ?_ NB235_247.out _; (with_reducible repeat (first | refine blk_drewN ?_ _ | refine blk_drew ?_ | refine blk_alloc ?_ _)); exact BK235.out⟩, ⟨by (with_reducible repeat (first | refine blk_drewN ?_ _ | refine blk_drew ?_ | refine blk_alloc ?_ _)); refine blk_far ?_ NB239_247.out _; (with_reducible repeat (first | refine blk_drewN ?_ _ | refine blk_drew ?_ | refine blk_alloc ?_ _)); refine blk_far ?_ NB239_247.out _; (with_reducible repeat (first | refine blk_drewN ?_ _ | refine blk_drew ?_ | refine blk_alloc ?_ _)); exact BK239.out⟩, ⟨by (with_reducible repeat (first | refine blk_drewN ?_ _ | refine blk_drew ?_ | refine blk_alloc ?_ _)); refine blk_far ?_ NB243_247.out _; (with_reducible repeat (first | refine blk_drewN ?_ _ | refine blk_drew ?_ | refine blk_alloc ?_ _)); refine blk_far ?_ NB243_247.out _; (with_reducible repeat (first | refine blk_drewN ?_ _ | refine blk_drew ?_ | refine blk_alloc ?_ _)); exact BK243.out⟩, ⟨by (with_reducible repeat (first | refine blk_drewN ?_ _ | refine blk_drew ?_ | refine blk_alloc ?_ _)); refine blk_put (cs := #[.int .i64 t244, .int .i64 0]) ?_ 1 _ rfl; (with_reducible repeat (first | refine blk_drewN ?_ _ | refine blk_drew ?_ | refine blk_alloc ?_ _)); refine blk_put (cs := #[.int .i64 0, .int .i64 0]) ?_ 0 _ rfl; (with_reducible repeat (first | refine blk_drewN ?_ _ | refine blk_drew ?_ | refine blk_alloc ?_ _)); exact BK247.out⟩, ⟨by repeat (first | (with_reducible first | exact HB.out | apply below_alloc | apply pw_below_drewN | apply below_drew1 | refine below_set ?_ (IsS54.ge HI223.out) | refine below_set ?_ GE233.out | refine below_set ?_ GE234.out | refine below_set ?_ GE235.out | refine below_set ?_ GE239.out | refine below_set ?_ GE243.out | refine below_set ?_ GE247.out) | exact HB.out)⟩⟩
  case rest =>
    clear HC9
    try clear c1
    try clear c2
    try clear p2
    try clear c3
    try clear c4
    try clear c5
    try clear c6
    try clear c7
    try clear c8
    try clear c9
    try clear c10
    try clear c11
    try clear c12
    try clear c14
    try clear c15
    try clear c17
    try clear c18
    try clear c19
    try clear c21
    try clear c22
    try clear c24
    try clear c28
    try clear c29
    try clear c30
    try clear c31
    try clear c37
    try clear c38
    try clear c39
    try clear c40
    try clear c41
    try clear c46
    try clear c47
    try clear c48
    try clear c49
    try clear c50
    try clear c51
    try clear c53
    try clear c53b0
    try clear c54
    try clear c55
    try clear c56
    try clear c57
    try clear c58
    try clear c59
    try clear c61
    try clear c62
    try clear c63
    try clear c64
    try clear c65
    try clear c67
    try clear c67b0
    try clear c67b1
    try clear c68
    try clear c68b0
    try clear c69
    try clear c70
    try clear c71
    try clear c72
    try clear c73
    try clear c74
    try clear c76
    try clear c77
    try clear c78
    try clear c79
    try clear c80
    try clear c82
    try clear c83
    try clear c84
    try clear c85
    try clear c87
    try clear c88
    try clear c89
    try clear c91
    try clear c92
    try clear c93
    try clear c94
    try clear c95
    try clear c96
    try clear c98
    try clear c99
    try clear c100
    try clear c101
    try clear c102
    try clear c104
    try clear c105
    try clear c106
    try clear c107
    try clear c109
    try clear c110
    try clear c111
    try clear c113
    try clear c114
    try clear c115
    try clear c116
    try clear c117
    try clear c118
    try clear c120
    try clear c121
    try clear c122
    try clear c123
    try clear c124
    try clear hcz103_0
    try clear hcz103_1
    try clear hcz108_0
    try clear hcz108_1
    try clear hcz112_0
    try clear hcz112_1
    try clear hcz119_0
    try clear hcz119_1
    try clear hcz125_0
    try clear hcz125_1
    try clear hcz20_0
    try clear hcz20_1
    try clear hcz23_0
    try clear hcz23_1
    try clear hcz25_0
    try clear hcz25_1
    try clear hcz32_0
    try clear hcz32_1
    try clear hcz33_0
    try clear hcz33_1
    try clear hcz34_0
    try clear hcz34_1
    try clear hcz42_0
    try clear hcz42_1
    try clear hcz43_0
    try clear hcz43_1
    try clear hcz52_0
    try clear hcz52_1
    try clear hcz60_0
    try clear hcz60_1
    try clear hcz66_0
    try clear hcz66_1
    try clear hcz75_0
    try clear hcz75_1
    try clear hcz81_0
    try clear hcz81_1
    try clear hcz86_0
    try clear hcz86_1
    try clear hcz90_0
    try clear hcz90_1
    try clear hcz97_0
    try clear hcz97_1
    try clear hfz103_0
    try clear hfz103_1
    try clear hfz108_0
    try clear hfz108_1
    try clear hfz112_0
    try clear hfz112_1
    try clear hfz119_0
    try clear hfz119_1
    try clear hfz125_0
    try clear hfz125_1
    try clear hfz20_0
    try clear hfz20_1
    try clear hfz23_0
    try clear hfz23_1
    try clear hfz25_0
    try clear hfz25_1
    try clear hfz32_0
    try clear hfz32_1
    try clear hfz33_0
    try clear hfz33_1
    try clear hfz34_0
    try clear hfz34_1
    try clear hfz42_0
    try clear hfz42_1
    try clear hfz43_0
    try clear hfz43_1
    try clear hfz52_0
    try clear hfz52_1
    try clear hfz60_0
    try clear hfz60_1
    try clear hfz66_0
    try clear hfz66_1
    try clear hfz75_0
    try clear hfz75_1
    try clear hfz81_0
    try clear hfz81_1
    try clear hfz86_0
    try clear hfz86_1
    try clear hfz90_0
    try clear hfz90_1
    try clear hfz97_0
    try clear hfz97_1
    obtain ⟨kq, x63_8, rfl, HA, HJ8, BK233, BK234, BK235, BK239, BK243, BK247, HB⟩ := hcut
    cases kq with
    | zero => exact absurd HA.out (by simp [shapesearchlaw01_RatioSums.j0])
    | succ kj8 =>
      have H := HA.out
      clear HA
      simp only [shapesearchlaw01_RatioSums.j0] at H
      by_cases c126 : x63_8 = true
      · subst c126
        have H1 : (none) = some r := by rw [if_pos rfl] at H; exact H
        clear H
        have H := H1
        clear H1
        exact absurd H (by simp)
      · replace c126 := Bool.eq_false_iff.mpr c126
        subst c126
        have H1 : ((ratio_Add.f kj8 t236 t237 t230 t231).bind fun bt248 => ((ratio_Add.f kj8 t227 t228 t230 t231).bind fun bt252 => ((ratio_Add.f kj8 t224 t225 bt252.1 bt252.2.1).bind fun bt256 => (if t238 = 0 then (if bt248.2.2 = 0 then (if bt252.2.2 = 0 then (if bt256.2.2 = 0 then (shapesearchlaw01_RatioSums.j1 kj8 t238 bt252.2.2 (!(bt248.1 == bt256.1) || (!(bt248.2.1 == bt256.2.1))) t224 t225 t227 t228 t230 t231 t236 t237 bt252.1 bt252.2.1) else (shapesearchlaw01_RatioSums.j1 kj8 t238 bt252.2.2 false t224 t225 t227 t228 t230 t231 t236 t237 bt252.1 bt252.2.1)) else (shapesearchlaw01_RatioSums.j1 kj8 t238 bt252.2.2 false t224 t225 t227 t228 t230 t231 t236 t237 bt252.1 bt252.2.1)) else (shapesearchlaw01_RatioSums.j1 kj8 t238 bt252.2.2 false t224 t225 t227 t228 t230 t231 t236 t237 bt252.1 bt252.2.1)) else (shapesearchlaw01_RatioSums.j1 kj8 t238 bt252.2.2 false t224 t225 t227 t228 t230 t231 t236 t237 bt252.1 bt252.2.1))))) = some r := by rw [if_neg (show ¬ (false = true) by decide)] at H; exact H
        clear H
        have H := H1
        clear H1
        replace H := Option.bind_eq_some_iff.mp H
        obtain ⟨⟨t248, t249, t250⟩, A1270, H⟩ := H
        replace H : ((ratio_Add.f kj8 t227 t228 t230 t231).bind fun bt252 => ((ratio_Add.f kj8 t224 t225 bt252.1 bt252.2.1).bind fun bt256 => (if t238 = 0 then (if t250 = 0 then (if bt252.2.2 = 0 then (if bt256.2.2 = 0 then (shapesearchlaw01_RatioSums.j1 kj8 t238 bt252.2.2 (!(t248 == bt256.1) || (!(t249 == bt256.2.1))) t224 t225 t227 t228 t230 t231 t236 t237 bt252.1 bt252.2.1) else (shapesearchlaw01_RatioSums.j1 kj8 t238 bt252.2.2 false t224 t225 t227 t228 t230 t231 t236 t237 bt252.1 bt252.2.1)) else (shapesearchlaw01_RatioSums.j1 kj8 t238 bt252.2.2 false t224 t225 t227 t228 t230 t231 t236 t237 bt252.1 bt252.2.1)) else (shapesearchlaw01_RatioSums.j1 kj8 t238 bt252.2.2 false t224 t225 t227 t228 t230 t231 t236 t237 bt252.1 bt252.2.1)) else (shapesearchlaw01_RatioSums.j1 kj8 t238 bt252.2.2 false t224 t225 t227 t228 t230 t231 t236 t237 bt252.1 bt252.2.1)))) = some r := H
        have A127 := Aside0.mk A1270
        clear A1270
        replace H := Option.bind_eq_some_iff.mp H
        obtain ⟨⟨t252, t253, t254⟩, A1280, H⟩ := H
        replace H : ((ratio_Add.f kj8 t224 t225 t252 t253).bind fun bt256 => (if t238 = 0 then (if t250 = 0 then (if t254 = 0 then (if bt256.2.2 = 0 then (shapesearchlaw01_RatioSums.j1 kj8 t238 t254 (!(t248 == bt256.1) || (!(t249 == bt256.2.1))) t224 t225 t227 t228 t230 t231 t236 t237 t252 t253) else (shapesearchlaw01_RatioSums.j1 kj8 t238 t254 false t224 t225 t227 t228 t230 t231 t236 t237 t252 t253)) else (shapesearchlaw01_RatioSums.j1 kj8 t238 t254 false t224 t225 t227 t228 t230 t231 t236 t237 t252 t253)) else (shapesearchlaw01_RatioSums.j1 kj8 t238 t254 false t224 t225 t227 t228 t230 t231 t236 t237 t252 t253)) else (shapesearchlaw01_RatioSums.j1 kj8 t238 t254 false t224 t225 t227 t228 t230 t231 t236 t237 t252 t253))) = some r := H
        have A128 := Aside0.mk A1280
        clear A1280
        replace H := Option.bind_eq_some_iff.mp H
        obtain ⟨⟨t256, t257, t258⟩, A1290, H⟩ := H
        replace H : (if t238 = 0 then (if t250 = 0 then (if t254 = 0 then (if t258 = 0 then (shapesearchlaw01_RatioSums.j1 kj8 t238 t254 (!(t248 == t256) || (!(t249 == t257))) t224 t225 t227 t228 t230 t231 t236 t237 t252 t253) else (shapesearchlaw01_RatioSums.j1 kj8 t238 t254 false t224 t225 t227 t228 t230 t231 t236 t237 t252 t253)) else (shapesearchlaw01_RatioSums.j1 kj8 t238 t254 false t224 t225 t227 t228 t230 t231 t236 t237 t252 t253)) else (shapesearchlaw01_RatioSums.j1 kj8 t238 t254 false t224 t225 t227 t228 t230 t231 t236 t237 t252 t253)) else (shapesearchlaw01_RatioSums.j1 kj8 t238 t254 false t224 t225 t227 t228 t230 t231 t236 t237 t252 t253)) = some r := H
        have A129 := Aside0.mk A1290
        clear A1290
        have HC130 := Aside0.mk H
        clear H
        have hnb131 := NB239_233.out
        have hnc131 := NB233_239.out
        have hnb132 := NB239_234.out
        have hnc132 := NB234_239.out
        have hnb133 := NB239_235.out
        have hnc133 := NB235_239.out
        have hnb134 := NB239_243.out
        have hnc134 := NB243_239.out
        have hnb135 := NB239_247.out
        have hnc135 := NB247_239.out
        have hcz136_0 : wc.cell? ⟨gb239, 0, none⟩ = some (.int .i64 t236) := (blk_cell BK239.out 0).trans rfl
        have hcz136_1 : wc.cell? ⟨gb239, 1, none⟩ = some (.int .i64 t237) := (blk_cell BK239.out 1).trans rfl
        have hfz136_0 := blk_frozen BK239.out 0
        have hfz136_1 := blk_frozen BK239.out 1
        have hnb137 := NB235_233.out
        have hnc137 := NB233_235.out
        have hnb138 := NB235_234.out
        have hnc138 := NB234_235.out
        have hnb139 := NB235_243.out
        have hnc139 := NB243_235.out
        have hnb140 := NB235_247.out
        have hnc140 := NB247_235.out
        have hcz141_0 : wc.cell? ⟨gb235, 0, none⟩ = some (.int .i64 t230) := (blk_cell BK235.out 0).trans rfl
        have hcz141_1 : wc.cell? ⟨gb235, 1, none⟩ = some (.int .i64 t231) := (blk_cell BK235.out 1).trans rfl
        have hfz141_0 := blk_frozen BK235.out 0
        have hfz141_1 := blk_frozen BK235.out 1
        go_upto_region 11 with (first | ((with_reducible refine gate_callee (f := 18) rfl ?_); refine goesL_ (some 67) rfl rfl Tryd.func18 (by kernel_rfl) rfl #[.agg #[.int .i64 t236, .int .i64 t237], .agg #[.int .i64 t230, .int .i64 t231]] rfl (by (try simp only [List.map_toArray, List.map_cons, List.map_nil]); first | done | rfl | (simp only [List.length_drop, List.length_take]; rfl)) ?_; (with_reducible refine (ratio_Add.calls kj8 t236 t237 t230 t231 t248 t249 t250 _ A127.out).mono ?_); rintro e w142 ⟨rfl, hb⟩; refine ⟨_, rfl, ?_⟩; have n0_ := Aside0.mk (blk_below (g := gb233) (o := .cells #[.int .i64 t224, .int .i64 t225] 24 (0, 0)) (by (with_reducible repeat (first | refine blk_drewN ?_ _ | refine blk_drew ?_ | refine blk_alloc ?_ _)); exact BK233.out) hb); have n1_ := Aside0.mk (blk_below (g := gb234) (o := .cells #[.int .i64 t227, .int .i64 t228] 24 (0, 0)) (by (with_reducible repeat (first | refine blk_drewN ?_ _ | refine blk_drew ?_ | refine blk_alloc ?_ _)); exact BK234.out) hb); have n2_ := Aside0.mk (blk_below (g := gb235) (o := .cells #[.int .i64 t230, .int .i64 t231] 24 (0, 0)) (by (with_reducible repeat (first | refine blk_drewN ?_ _ | refine blk_drew ?_ | refine blk_alloc ?_ _)); exact BK235.out) hb); have n3_ := Aside0.mk (blk_below (g := gb239) (o := .cells #[.int .i64 t236, .int .i64 t237] 24 (0, 0)) (by (with_reducible repeat (first | refine blk_drewN ?_ _ | refine blk_drew ?_ | refine blk_alloc ?_ _)); exact BK239.out) hb); have n4_ := Aside0.mk (blk_below (g := gb243) (o := .cells #[.int .i64 t240, .int .i64 t241] 24 (0, 0)) (by (with_reducible repeat (first | refine blk_drewN ?_ _ | refine blk_drew ?_ | refine blk_alloc ?_ _)); exact BK243.out) hb); have n5_ := Aside0.mk (blk_below (g := gb247) (o := .cells #[.int .i64 t244, .int .i64 t245] 24 (0, 0)) (by (with_reducible repeat (first | refine blk_drewN ?_ _ | refine blk_drew ?_ | refine blk_alloc ?_ _)); exact BK247.out) hb); have n6_ := Aside0.mk (below_step (by repeat (first | (with_reducible first | exact HB.out | apply below_alloc | apply pw_below_drewN | apply below_drew1 | refine below_set ?_ GE233.out | refine below_set ?_ GE234.out | refine below_set ?_ GE235.out | refine below_set ?_ GE239.out | refine below_set ?_ GE243.out | refine below_set ?_ GE247.out) | exact HB.out)) hb); clear BK233; clear BK234; clear BK235; clear BK239; clear BK243; clear BK247; clear HB; have BK233 := n0_; have BK234 := n1_; have BK235 := n2_; have BK239 := n3_; have BK243 := n4_; have BK247 := n5_; have HB := n6_; clear n0_ n1_ n2_ n3_ n4_ n5_ n6_; (try clear hb); (try clear hb2); (try clear hk); (try clear hi)) | ((with_reducible refine gate_dst (N := 13) rfl ?_); refine box_event ?hg (N := 13) ?hd (cs := #[.int .i64 0, .int .i64 0]) (t := 24) ?hr ?_; (case hd => rfl); (case hg => rfl); (case hr => first | (go_simp; done) | (go_simp; rfl)); intro gb251 hg w143 hbox hb; have n0_ := Aside0.mk (blk_below (g := gb233) (o := .cells #[.int .i64 t224, .int .i64 t225] 24 (0, 0)) (by (with_reducible repeat (first | refine blk_drewN ?_ _ | refine blk_drew ?_ | refine blk_alloc ?_ _)); exact BK233.out) hb); have n1_ := Aside0.mk (blk_below (g := gb234) (o := .cells #[.int .i64 t227, .int .i64 t228] 24 (0, 0)) (by (with_reducible repeat (first | refine blk_drewN ?_ _ | refine blk_drew ?_ | refine blk_alloc ?_ _)); exact BK234.out) hb); have n2_ := Aside0.mk (blk_below (g := gb235) (o := .cells #[.int .i64 t230, .int .i64 t231] 24 (0, 0)) (by (with_reducible repeat (first | refine blk_drewN ?_ _ | refine blk_drew ?_ | refine blk_alloc ?_ _)); exact BK235.out) hb); have n3_ := Aside0.mk (blk_below (g := gb239) (o := .cells #[.int .i64 t236, .int .i64 t237] 24 (0, 0)) (by (with_reducible repeat (first | refine blk_drewN ?_ _ | refine blk_drew ?_ | refine blk_alloc ?_ _)); exact BK239.out) hb); have n4_ := Aside0.mk (blk_below (g := gb243) (o := .cells #[.int .i64 t240, .int .i64 t241] 24 (0, 0)) (by (with_reducible repeat (first | refine blk_drewN ?_ _ | refine blk_drew ?_ | refine blk_alloc ?_ _)); exact BK243.out) hb); have n5_ := Aside0.mk (blk_below (g := gb247) (o := .cells #[.int .i64 t244, .int .i64 t245] 24 (0, 0)) (by (with_reducible repeat (first | refine blk_drewN ?_ _ | refine blk_drew ?_ | refine blk_alloc ?_ _)); exact BK247.out) hb); have n6_ := Aside0.mk (below_step (by repeat (first | (with_reducible first | exact HB.out | apply below_alloc | apply pw_below_drewN | apply below_drew1 | refine below_set ?_ GE233.out | refine below_set ?_ GE234.out | refine below_set ?_ GE235.out | refine below_set ?_ GE239.out | refine below_set ?_ GE243.out | refine below_set ?_ GE247.out) | exact HB.out)) hb); have n7_ := Aside0.mk (hbox); have n8_ := Aside0.mk ((by rw [hg]; exact (below_size (by repeat (first | (with_reducible first | exact HB.out | apply below_alloc | apply pw_below_drewN | apply below_drew1 | refine below_set ?_ GE233.out | refine below_set ?_ GE234.out | refine below_set ?_ GE235.out | refine below_set ?_ GE239.out | refine below_set ?_ GE243.out | refine below_set ?_ GE247.out) | exact HB.out))) : w.heap.size ≤ gb251)); have n9_ := Aside0.mk ((by rw [hg]; exact (below_size (by repeat (first | (with_reducible first | exact HB.out | apply below_alloc | apply pw_below_drewN | apply below_drew1 | refine below_set ?_ GE233.out | refine below_set ?_ GE234.out | refine below_set ?_ GE235.out | refine below_set ?_ GE239.out | refine below_set ?_ GE243.out | refine below_set ?_ GE247.out) | exact HB.out))) : w.heap.size ≤ gb251)); have n10_ := Aside0.mk ((by rw [hg]; exact Nat.ne_of_lt (blk_lt (g := gb233) (o := .cells #[.int .i64 t224, .int .i64 t225] 24 (0, 0)) (by (with_reducible repeat (first | refine blk_drewN ?_ _ | refine blk_drew ?_ | refine blk_alloc ?_ _)); exact BK233.out)) : gb233 ≠ gb251)); have n11_ := Aside0.mk ((by rw [hg]; exact Nat.ne_of_gt (blk_lt (g := gb233) (o := .cells #[.int .i64 t224, .int .i64 t225] 24 (0, 0)) (by (with_reducible repeat (first | refine blk_drewN ?_ _ | refine blk_drew ?_ | refine blk_alloc ?_ _)); exact BK233.out)) : gb251 ≠ gb233)); have n12_ := Aside0.mk ((by rw [hg]; exact Nat.ne_of_lt (blk_lt (g := gb234) (o := .cells #[.int .i64 t227, .int .i64 t228] 24 (0, 0)) (by (with_reducible repeat (first | refine blk_drewN ?_ _ | refine blk_drew ?_ | refine blk_alloc ?_ _)); exact BK234.out)) : gb234 ≠ gb251)); have n13_ := Aside0.mk ((by rw [hg]; exact Nat.ne_of_gt (blk_lt (g := gb234) (o := .cells #[.int .i64 t227, .int .i64 t228] 24 (0, 0)) (by (with_reducible repeat (first | refine blk_drewN ?_ _ | refine blk_drew ?_ | refine blk_alloc ?_ _)); exact BK234.out)) : gb251 ≠ gb234)); have n14_ := Aside0.mk ((by rw [hg]; exact Nat.ne_of_lt (blk_lt (g := gb235) (o := .cells #[.int .i64 t230, .int .i64 t231] 24 (0, 0)) (by (with_reducible repeat (first | refine blk_drewN ?_ _ | refine blk_drew ?_ | refine blk_alloc ?_ _)); exact BK235.out)) : gb235 ≠ gb251)); have n15_ := Aside0.mk ((by rw [hg]; exact Nat.ne_of_gt (blk_lt (g := gb235) (o := .cells #[.int .i64 t230, .int .i64 t231] 24 (0, 0)) (by (with_reducible repeat (first | refine blk_drewN ?_ _ | refine blk_drew ?_ | refine blk_alloc ?_ _)); exact BK235.out)) : gb251 ≠ gb235)); have n16_ := Aside0.mk ((by rw [hg]; exact Nat.ne_of_lt (blk_lt (g := gb239) (o := .cells #[.int .i64 t236, .int .i64 t237] 24 (0, 0)) (by (with_reducible repeat (first | refine blk_drewN ?_ _ | refine blk_drew ?_ | refine blk_alloc ?_ _)); exact BK239.out)) : gb239 ≠ gb251)); have n17_ := Aside0.mk ((by rw [hg]; exact Nat.ne_of_gt (blk_lt (g := gb239) (o := .cells #[.int .i64 t236, .int .i64 t237] 24 (0, 0)) (by (with_reducible repeat (first | refine blk_drewN ?_ _ | refine blk_drew ?_ | refine blk_alloc ?_ _)); exact BK239.out)) : gb251 ≠ gb239)); have n18_ := Aside0.mk ((by rw [hg]; exact Nat.ne_of_lt (blk_lt (g := gb243) (o := .cells #[.int .i64 t240, .int .i64 t241] 24 (0, 0)) (by (with_reducible repeat (first | refine blk_drewN ?_ _ | refine blk_drew ?_ | refine blk_alloc ?_ _)); exact BK243.out)) : gb243 ≠ gb251)); have n19_ := Aside0.mk ((by rw [hg]; exact Nat.ne_of_gt (blk_lt (g := gb243) (o := .cells #[.int .i64 t240, .int .i64 t241] 24 (0, 0)) (by (with_reducible repeat (first | refine blk_drewN ?_ _ | refine blk_drew ?_ | refine blk_alloc ?_ _)); exact BK243.out)) : gb251 ≠ gb243)); have n20_ := Aside0.mk ((by rw [hg]; exact Nat.ne_of_lt (blk_lt (g := gb247) (o := .cells #[.int .i64 t244, .int .i64 t245] 24 (0, 0)) (by (with_reducible repeat (first | refine blk_drewN ?_ _ | refine blk_drew ?_ | refine blk_alloc ?_ _)); exact BK247.out)) : gb247 ≠ gb251)); have n21_ := Aside0.mk ((by rw [hg]; exact Nat.ne_of_gt (blk_lt (g := gb247) (o := .cells #[.int .i64 t244, .int .i64 t245] 24 (0, 0)) (by (with_reducible repeat (first | refine blk_drewN ?_ _ | refine blk_drew ?_ | refine blk_alloc ?_ _)); exact BK247.out)) : gb251 ≠ gb247)); clear BK233; clear BK234; clear BK235; clear BK239; clear BK243; clear BK247; clear HB; have BK233 := n0_; have BK234 := n1_; have BK235 := n2_; have BK239 := n3_; have BK243 := n4_; have BK247 := n5_; have HB := n6_; have BK251 := n7_; have GW251 := n8_; have GE251 := n9_; have NB233_251 := n10_; have NB251_233 := n11_; have NB234_251 := n12_; have NB251_234 := n13_; have NB235_251 := n14_; have NB251_235 := n15_; have NB239_251 := n16_; have NB251_239 := n17_; have NB243_251 := n18_; have NB251_243 := n19_; have NB247_251 := n20_; have NB251_247 := n21_; clear n0_ n1_ n2_ n3_ n4_ n5_ n6_ n7_ n8_ n9_ n10_ n11_ n12_ n13_ n14_ n15_ n16_ n17_ n18_ n19_ n20_ n21_; clear hb hbox hg; have hnb144 := NB251_233.out; have hnc144 := NB233_251.out; have hnb145 := NB251_234.out; have hnc145 := NB234_251.out; have hnb146 := NB251_235.out; have hnc146 := NB235_251.out; have hnb147 := NB251_239.out; have hnc147 := NB239_251.out; have hnb148 := NB251_243.out; have hnc148 := NB243_251.out; have hnb149 := NB251_247.out; have hnc149 := NB247_251.out; have hcz150_0 : w143.cell? ⟨gb251, 0, none⟩ = some (.int .i64 0) := (blk_cell BK251.out 0).trans rfl; have hcz150_1 : w143.cell? ⟨gb251, 1, none⟩ = some (.int .i64 0) := (blk_cell BK251.out 1).trans rfl; have hfz150_0 := blk_frozen BK251.out 0; have hfz150_1 := blk_frozen BK251.out 1; have hnb151 := NB234_233.out; have hnc151 := NB233_234.out; have hnb152 := NB234_243.out; have hnc152 := NB243_234.out; have hnb153 := NB234_247.out; have hnc153 := NB247_234.out; have hcz154_0 : w143.cell? ⟨gb234, 0, none⟩ = some (.int .i64 t227) := (blk_cell BK234.out 0).trans rfl; have hcz154_1 : w143.cell? ⟨gb234, 1, none⟩ = some (.int .i64 t228) := (blk_cell BK234.out 1).trans rfl; have hfz154_0 := blk_frozen BK234.out 0; have hfz154_1 := blk_frozen BK234.out 1; have hcz155_0 : w143.cell? ⟨gb235, 0, none⟩ = some (.int .i64 t230) := (blk_cell BK235.out 0).trans rfl; have hcz155_1 : w143.cell? ⟨gb235, 1, none⟩ = some (.int .i64 t231) := (blk_cell BK235.out 1).trans rfl; have hfz155_0 := blk_frozen BK235.out 0; have hfz155_1 := blk_frozen BK235.out 1) | ((with_reducible refine gate_callee (f := 18) rfl ?_); refine goesL_ (some 73) rfl rfl Tryd.func18 (by kernel_rfl) rfl #[.agg #[.int .i64 t227, .int .i64 t228], .agg #[.int .i64 t230, .int .i64 t231]] rfl (by (try simp only [List.map_toArray, List.map_cons, List.map_nil]); first | done | rfl | (simp only [List.length_drop, List.length_take]; rfl)) ?_; (with_reducible refine (ratio_Add.calls kj8 t227 t228 t230 t231 t252 t253 t254 _ A128.out).mono ?_); rintro e w156 ⟨rfl, hb⟩; refine ⟨_, rfl, ?_⟩; have n0_ := Aside0.mk (blk_below (g := gb233) (o := .cells #[.int .i64 t224, .int .i64 t225] 24 (0, 0)) (by (with_reducible repeat (first | refine blk_drewN ?_ _ | refine blk_drew ?_ | refine blk_alloc ?_ _)); refine blk_far ?_ NB233_251.out _; (with_reducible repeat (first | refine blk_drewN ?_ _ | refine blk_drew ?_ | refine blk_alloc ?_ _)); refine blk_far ?_ NB233_251.out _; (with_reducible repeat (first | refine blk_drewN ?_ _ | refine blk_drew ?_ | refine blk_alloc ?_ _)); exact BK233.out) hb); have n1_ := Aside0.mk (blk_below (g := gb234) (o := .cells #[.int .i64 t227, .int .i64 t228] 24 (0, 0)) (by (with_reducible repeat (first | refine blk_drewN ?_ _ | refine blk_drew ?_ | refine blk_alloc ?_ _)); refine blk_far ?_ NB234_251.out _; (with_reducible repeat (first | refine blk_drewN ?_ _ | refine blk_drew ?_ | refine blk_alloc ?_ _)); refine blk_far ?_ NB234_251.out _; (with_reducible repeat (first | refine blk_drewN ?_ _ | refine blk_drew ?_ | refine blk_alloc ?_ _)); exact BK234.out) hb); have n2_ := Aside0.mk (blk_below (g := gb235) (o := .cells #[.int .i64 t230, .int .i64 t231] 24 (0, 0)) (by (with_reducible repeat (first | refine blk_drewN ?_ _ | refine blk_drew ?_ | refine blk_alloc ?_ _)); refine blk_far ?_ NB235_251.out _; (with_reducible repeat (first | refine blk_drewN ?_ _ | refine blk_drew ?_ | refine blk_alloc ?_ _)); refine blk_far ?_ NB235_251.out _; (with_reducible repeat (first | refine blk_drewN ?_ _ | refine blk_drew ?_ | refine blk_alloc ?_ _)); exact BK235.out) hb); have n3_ := Aside0.mk (blk_below (g := gb239) (o := .cells #[.int .i64 t236, .int .i64 t237] 24 (0, 0)) (by (with_reducible repeat (first | refine blk_drewN ?_ _ | refine blk_drew ?_ | refine blk_alloc ?_ _)); refine blk_far ?_ NB239_251.out _; (with_reducible repeat (first | refine blk_drewN ?_ _ | refine blk_drew ?_ | refine blk_alloc ?_ _)); refine blk_far ?_ NB239_251.out _; (with_reducible repeat (first | refine blk_drewN ?_ _ | refine blk_drew ?_ | refine blk_alloc ?_ _)); exact BK239.out) hb); have n4_ := Aside0.mk (blk_below (g := gb243) (o := .cells #[.int .i64 t240, .int .i64 t241] 24 (0, 0)) (by (with_reducible repeat (first | refine blk_drewN ?_ _ | refine blk_drew ?_ | refine blk_alloc ?_ _)); refine blk_far ?_ NB243_251.out _; (with_reducible repeat (first | refine blk_drewN ?_ _ | refine blk_drew ?_ | refine blk_alloc ?_ _)); refine blk_far ?_ NB243_251.out _; (with_reducible repeat (first | refine blk_drewN ?_ _ | refine blk_drew ?_ | refine blk_alloc ?_ _)); exact BK243.out) hb); have n5_ := Aside0.mk (blk_below (g := gb247) (o := .cells #[.int .i64 t244, .int .i64 t245] 24 (0, 0)) (by (with_reducible repeat (first | refine blk_drewN ?_ _ | refine blk_drew ?_ | refine blk_alloc ?_ _)); refine blk_far ?_ NB247_251.out _; (with_reducible repeat (first | refine blk_drewN ?_ _ | refine blk_drew ?_ | refine blk_alloc ?_ _)); refine blk_far ?_ NB247_251.out _; (with_reducible repeat (first | refine blk_drewN ?_ _ | refine blk_drew ?_ | refine blk_alloc ?_ _)); exact BK247.out) hb); have n6_ := Aside0.mk (blk_below (g := gb251) (o := .cells #[.int .i64 t248, .int .i64 t249] 24 (0, 0)) (by (with_reducible repeat (first | refine blk_drewN ?_ _ | refine blk_drew ?_ | refine blk_alloc ?_ _)); refine blk_put (cs := #[.int .i64 t248, .int .i64 0]) ?_ 1 _ rfl; (with_reducible repeat (first | refine blk_drewN ?_ _ | refine blk_drew ?_ | refine blk_alloc ?_ _)); refine blk_put (cs := #[.int .i64 0, .int .i64 0]) ?_ 0 _ rfl; (with_reducible repeat (first | refine blk_drewN ?_ _ | refine blk_drew ?_ | refine blk_alloc ?_ _)); exact BK251.out) hb); have n7_ := Aside0.mk (below_step (by repeat (first | (with_reducible first | exact HB.out | apply below_alloc | apply pw_below_drewN | apply below_drew1 | refine below_set ?_ GE233.out | refine below_set ?_ GE234.out | refine below_set ?_ GE235.out | refine below_set ?_ GE239.out | refine below_set ?_ GE243.out | refine below_set ?_ GE247.out | refine below_set ?_ GE251.out) | exact HB.out)) hb); clear BK233; clear BK234; clear BK235; clear BK239; clear BK243; clear BK247; clear BK251; clear HB; have BK233 := n0_; have BK234 := n1_; have BK235 := n2_; have BK239 := n3_; have BK243 := n4_; have BK247 := n5_; have BK251 := n6_; have HB := n7_; clear n0_ n1_ n2_ n3_ n4_ n5_ n6_ n7_; (try clear hb); (try clear hb2); (try clear hk); (try clear hi)) | ((with_reducible refine gate_dst (N := 15) rfl ?_); refine box_event ?hg (N := 15) ?hd (cs := #[.int .i64 0, .int .i64 0]) (t := 24) ?hr ?_; (case hd => rfl); (case hg => rfl); (case hr => first | (go_simp; done) | (go_simp; rfl)); intro gb255 hg w157 hbox hb; have n0_ := Aside0.mk (blk_below (g := gb233) (o := .cells #[.int .i64 t224, .int .i64 t225] 24 (0, 0)) (by (with_reducible repeat (first | refine blk_drewN ?_ _ | refine blk_drew ?_ | refine blk_alloc ?_ _)); exact BK233.out) hb); have n1_ := Aside0.mk (blk_below (g := gb234) (o := .cells #[.int .i64 t227, .int .i64 t228] 24 (0, 0)) (by (with_reducible repeat (first | refine blk_drewN ?_ _ | refine blk_drew ?_ | refine blk_alloc ?_ _)); exact BK234.out) hb); have n2_ := Aside0.mk (blk_below (g := gb235) (o := .cells #[.int .i64 t230, .int .i64 t231] 24 (0, 0)) (by (with_reducible repeat (first | refine blk_drewN ?_ _ | refine blk_drew ?_ | refine blk_alloc ?_ _)); exact BK235.out) hb); have n3_ := Aside0.mk (blk_below (g := gb239) (o := .cells #[.int .i64 t236, .int .i64 t237] 24 (0, 0)) (by (with_reducible repeat (first | refine blk_drewN ?_ _ | refine blk_drew ?_ | refine blk_alloc ?_ _)); exact BK239.out) hb); have n4_ := Aside0.mk (blk_below (g := gb243) (o := .cells #[.int .i64 t240, .int .i64 t241] 24 (0, 0)) (by (with_reducible repeat (first | refine blk_drewN ?_ _ | refine blk_drew ?_ | refine blk_alloc ?_ _)); exact BK243.out) hb); have n5_ := Aside0.mk (blk_below (g := gb247) (o := .cells #[.int .i64 t244, .int .i64 t245] 24 (0, 0)) (by (with_reducible repeat (first | refine blk_drewN ?_ _ | refine blk_drew ?_ | refine blk_alloc ?_ _)); exact BK247.out) hb); have n6_ := Aside0.mk (blk_below (g := gb251) (o := .cells #[.int .i64 t248, .int .i64 t249] 24 (0, 0)) (by (with_reducible repeat (first | refine blk_drewN ?_ _ | refine blk_drew ?_ | refine blk_alloc ?_ _)); exact BK251.out) hb); have n7_ := Aside0.mk (below_step (by repeat (first | (with_reducible first | exact HB.out | apply below_alloc | apply pw_below_drewN | apply below_drew1 | refine below_set ?_ GE233.out | refine below_set ?_ GE234.out | refine below_set ?_ GE235.out | refine below_set ?_ GE239.out | refine below_set ?_ GE243.out | refine below_set ?_ GE247.out | refine below_set ?_ GE251.out) | exact HB.out)) hb); have n8_ := Aside0.mk (hbox); have n9_ := Aside0.mk ((by rw [hg]; exact (below_size (by repeat (first | (with_reducible first | exact HB.out | apply below_alloc | apply pw_below_drewN | apply below_drew1 | refine below_set ?_ GE233.out | refine below_set ?_ GE234.out | refine below_set ?_ GE235.out | refine below_set ?_ GE239.out | refine below_set ?_ GE243.out | refine below_set ?_ GE247.out | refine below_set ?_ GE251.out) | exact HB.out))) : w.heap.size ≤ gb255)); have n10_ := Aside0.mk ((by rw [hg]; exact (below_size (by repeat (first | (with_reducible first | exact HB.out | apply below_alloc | apply pw_below_drewN | apply below_drew1 | refine below_set ?_ GE233.out | refine below_set ?_ GE234.out | refine below_set ?_ GE235.out | refine below_set ?_ GE239.out | refine below_set ?_ GE243.out | refine below_set ?_ GE247.out | refine below_set ?_ GE251.out) | exact HB.out))) : w.heap.size ≤ gb255)); have n11_ := Aside0.mk ((by rw [hg]; exact Nat.ne_of_lt (blk_lt (g := gb233) (o := .cells #[.int .i64 t224, .int .i64 t225] 24 (0, 0)) (by (with_reducible repeat (first | refine blk_drewN ?_ _ | refine blk_drew ?_ | refine blk_alloc ?_ _)); exact BK233.out)) : gb233 ≠ gb255)); have n12_ := Aside0.mk ((by rw [hg]; exact Nat.ne_of_gt (blk_lt (g := gb233) (o := .cells #[.int .i64 t224, .int .i64 t225] 24 (0, 0)) (by (with_reducible repeat (first | refine blk_drewN ?_ _ | refine blk_drew ?_ | refine blk_alloc ?_ _)); exact BK233.out)) : gb255 ≠ gb233)); have n13_ := Aside0.mk ((by rw [hg]; exact Nat.ne_of_lt (blk_lt (g := gb234) (o := .cells #[.int .i64 t227, .int .i64 t228] 24 (0, 0)) (by (with_reducible repeat (first | refine blk_drewN ?_ _ | refine blk_drew ?_ | refine blk_alloc ?_ _)); exact BK234.out)) : gb234 ≠ gb255)); have n14_ := Aside0.mk ((by rw [hg]; exact Nat.ne_of_gt (blk_lt (g := gb234) (o := .cells #[.int .i64 t227, .int .i64 t228] 24 (0, 0)) (by (with_reducible repeat (first | refine blk_drewN ?_ _ | refine blk_drew ?_ | refine blk_alloc ?_ _)); exact BK234.out)) : gb255 ≠ gb234)); have n15_ := Aside0.mk ((by rw [hg]; exact Nat.ne_of_lt (blk_lt (g := gb235) (o := .cells #[.int .i64 t230, .int .i64 t231] 24 (0, 0)) (by (with_reducible repeat (first | refine blk_drewN ?_ _ | refine blk_drew ?_ | refine blk_alloc ?_ _)); exact BK235.out)) : gb235 ≠ gb255)); have n16_ := Aside0.mk ((by rw [hg]; exact Nat.ne_of_gt (blk_lt (g := gb235) (o := .cells #[.int .i64 t230, .int .i64 t231] 24 (0, 0)) (by (with_reducible repeat (first | refine blk_drewN ?_ _ | refine blk_drew ?_ | refine blk_alloc ?_ _)); exact BK235.out)) : gb255 ≠ gb235)); have n17_ := Aside0.mk ((by rw [hg]; exact Nat.ne_of_lt (blk_lt (g := gb239) (o := .cells #[.int .i64 t236, .int .i64 t237] 24 (0, 0)) (by (with_reducible repeat (first | refine blk_drewN ?_ _ | refine blk_drew ?_ | refine blk_alloc ?_ _)); exact BK239.out)) : gb239 ≠ gb255)); have n18_ := Aside0.mk ((by rw [hg]; exact Nat.ne_of_gt (blk_lt (g := gb239) (o := .cells #[.int .i64 t236, .int .i64 t237] 24 (0, 0)) (by (with_reducible repeat (first | refine blk_drewN ?_ _ | refine blk_drew ?_ | refine blk_alloc ?_ _)); exact BK239.out)) : gb255 ≠ gb239)); have n19_ := Aside0.mk ((by rw [hg]; exact Nat.ne_of_lt (blk_lt (g := gb243) (o := .cells #[.int .i64 t240, .int .i64 t241] 24 (0, 0)) (by (with_reducible repeat (first | refine blk_drewN ?_ _ | refine blk_drew ?_ | refine blk_alloc ?_ _)); exact BK243.out)) : gb243 ≠ gb255)); have n20_ := Aside0.mk ((by rw [hg]; exact Nat.ne_of_gt (blk_lt (g := gb243) (o := .cells #[.int .i64 t240, .int .i64 t241] 24 (0, 0)) (by (with_reducible repeat (first | refine blk_drewN ?_ _ | refine blk_drew ?_ | refine blk_alloc ?_ _)); exact BK243.out)) : gb255 ≠ gb243)); have n21_ := Aside0.mk ((by rw [hg]; exact Nat.ne_of_lt (blk_lt (g := gb247) (o := .cells #[.int .i64 t244, .int .i64 t245] 24 (0, 0)) (by (with_reducible repeat (first | refine blk_drewN ?_ _ | refine blk_drew ?_ | refine blk_alloc ?_ _)); exact BK247.out)) : gb247 ≠ gb255)); have n22_ := Aside0.mk ((by rw [hg]; exact Nat.ne_of_gt (blk_lt (g := gb247) (o := .cells #[.int .i64 t244, .int .i64 t245] 24 (0, 0)) (by (with_reducible repeat (first | refine blk_drewN ?_ _ | refine blk_drew ?_ | refine blk_alloc ?_ _)); exact BK247.out)) : gb255 ≠ gb247)); have n23_ := Aside0.mk ((by rw [hg]; exact Nat.ne_of_lt (blk_lt (g := gb251) (o := .cells #[.int .i64 t248, .int .i64 t249] 24 (0, 0)) (by (with_reducible repeat (first | refine blk_drewN ?_ _ | refine blk_drew ?_ | refine blk_alloc ?_ _)); exact BK251.out)) : gb251 ≠ gb255)); have n24_ := Aside0.mk ((by rw [hg]; exact Nat.ne_of_gt (blk_lt (g := gb251) (o := .cells #[.int .i64 t248, .int .i64 t249] 24 (0, 0)) (by (with_reducible repeat (first | refine blk_drewN ?_ _ | refine blk_drew ?_ | refine blk_alloc ?_ _)); exact BK251.out)) : gb255 ≠ gb251)); clear BK233; clear BK234; clear BK235; clear BK239; clear BK243; clear BK247; clear BK251; clear HB; have BK233 := n0_; have BK234 := n1_; have BK235 := n2_; have BK239 := n3_; have BK243 := n4_; have BK247 := n5_; have BK251 := n6_; have HB := n7_; have BK255 := n8_; have GW255 := n9_; have GE255 := n10_; have NB233_255 := n11_; have NB255_233 := n12_; have NB234_255 := n13_; have NB255_234 := n14_; have NB235_255 := n15_; have NB255_235 := n16_; have NB239_255 := n17_; have NB255_239 := n18_; have NB243_255 := n19_; have NB255_243 := n20_; have NB247_255 := n21_; have NB255_247 := n22_; have NB251_255 := n23_; have NB255_251 := n24_; clear n0_ n1_ n2_ n3_ n4_ n5_ n6_ n7_ n8_ n9_ n10_ n11_ n12_ n13_ n14_ n15_ n16_ n17_ n18_ n19_ n20_ n21_ n22_ n23_ n24_; clear hb hbox hg; have hnb158 := NB255_233.out; have hnc158 := NB233_255.out; have hnb159 := NB255_234.out; have hnc159 := NB234_255.out; have hnb160 := NB255_235.out; have hnc160 := NB235_255.out; have hnb161 := NB255_239.out; have hnc161 := NB239_255.out; have hnb162 := NB255_243.out; have hnc162 := NB243_255.out; have hnb163 := NB255_247.out; have hnc163 := NB247_255.out; have hnb164 := NB255_251.out; have hnc164 := NB251_255.out; have hcz165_0 : w157.cell? ⟨gb255, 0, none⟩ = some (.int .i64 0) := (blk_cell BK255.out 0).trans rfl; have hcz165_1 : w157.cell? ⟨gb255, 1, none⟩ = some (.int .i64 0) := (blk_cell BK255.out 1).trans rfl; have hfz165_0 := blk_frozen BK255.out 0; have hfz165_1 := blk_frozen BK255.out 1; have hnb166 := NB233_243.out; have hnc166 := NB243_233.out; have hnb167 := NB233_247.out; have hnc167 := NB247_233.out; have hcz168_0 : w157.cell? ⟨gb233, 0, none⟩ = some (.int .i64 t224) := (blk_cell BK233.out 0).trans rfl; have hcz168_1 : w157.cell? ⟨gb233, 1, none⟩ = some (.int .i64 t225) := (blk_cell BK233.out 1).trans rfl; have hfz168_0 := blk_frozen BK233.out 0; have hfz168_1 := blk_frozen BK233.out 1) | ((with_reducible refine gate_callee (f := 18) rfl ?_); refine goesL_ (some 79) rfl rfl Tryd.func18 (by kernel_rfl) rfl #[.agg #[.int .i64 t224, .int .i64 t225], .agg #[.int .i64 t252, .int .i64 t253]] rfl (by (try simp only [List.map_toArray, List.map_cons, List.map_nil]); first | done | rfl | (simp only [List.length_drop, List.length_take]; rfl)) ?_; (with_reducible refine (ratio_Add.calls kj8 t224 t225 t252 t253 t256 t257 t258 _ A129.out).mono ?_); rintro e w169 ⟨rfl, hb⟩; refine ⟨_, rfl, ?_⟩; have n0_ := Aside0.mk (blk_below (g := gb233) (o := .cells #[.int .i64 t224, .int .i64 t225] 24 (0, 0)) (by (with_reducible repeat (first | refine blk_drewN ?_ _ | refine blk_drew ?_ | refine blk_alloc ?_ _)); refine blk_far ?_ NB233_255.out _; (with_reducible repeat (first | refine blk_drewN ?_ _ | refine blk_drew ?_ | refine blk_alloc ?_ _)); refine blk_far ?_ NB233_255.out _; (with_reducible repeat (first | refine blk_drewN ?_ _ | refine blk_drew ?_ | refine blk_alloc ?_ _)); exact BK233.out) hb); have n1_ := Aside0.mk (blk_below (g := gb234) (o := .cells #[.int .i64 t227, .int .i64 t228] 24 (0, 0)) (by (with_reducible repeat (first | refine blk_drewN ?_ _ | refine blk_drew ?_ | refine blk_alloc ?_ _)); refine blk_far ?_ NB234_255.out _; (with_reducible repeat (first | refine blk_drewN ?_ _ | refine blk_drew ?_ | refine blk_alloc ?_ _)); refine blk_far ?_ NB234_255.out _; (with_reducible repeat (first | refine blk_drewN ?_ _ | refine blk_drew ?_ | refine blk_alloc ?_ _)); exact BK234.out) hb); have n2_ := Aside0.mk (blk_below (g := gb235) (o := .cells #[.int .i64 t230, .int .i64 t231] 24 (0, 0)) (by (with_reducible repeat (first | refine blk_drewN ?_ _ | refine blk_drew ?_ | refine blk_alloc ?_ _)); refine blk_far ?_ NB235_255.out _; (with_reducible repeat (first | refine blk_drewN ?_ _ | refine blk_drew ?_ | refine blk_alloc ?_ _)); refine blk_far ?_ NB235_255.out _; (with_reducible repeat (first | refine blk_drewN ?_ _ | refine blk_drew ?_ | refine blk_alloc ?_ _)); exact BK235.out) hb); have n3_ := Aside0.mk (blk_below (g := gb239) (o := .cells #[.int .i64 t236, .int .i64 t237] 24 (0, 0)) (by (with_reducible repeat (first | refine blk_drewN ?_ _ | refine blk_drew ?_ | refine blk_alloc ?_ _)); refine blk_far ?_ NB239_255.out _; (with_reducible repeat (first | refine blk_drewN ?_ _ | refine blk_drew ?_ | refine blk_alloc ?_ _)); refine blk_far ?_ NB239_255.out _; (with_reducible repeat (first | refine blk_drewN ?_ _ | refine blk_drew ?_ | refine blk_alloc ?_ _)); exact BK239.out) hb); have n4_ := Aside0.mk (blk_below (g := gb243) (o := .cells #[.int .i64 t240, .int .i64 t241] 24 (0, 0)) (by (with_reducible repeat (first | refine blk_drewN ?_ _ | refine blk_drew ?_ | refine blk_alloc ?_ _)); refine blk_far ?_ NB243_255.out _; (with_reducible repeat (first | refine blk_drewN ?_ _ | refine blk_drew ?_ | refine blk_alloc ?_ _)); refine blk_far ?_ NB243_255.out _; (with_reducible repeat (first | refine blk_drewN ?_ _ | refine blk_drew ?_ | refine blk_alloc ?_ _)); exact BK243.out) hb); have n5_ := Aside0.mk (blk_below (g := gb247) (o := .cells #[.int .i64 t244, .int .i64 t245] 24 (0, 0)) (by (with_reducible repeat (first | refine blk_drewN ?_ _ | refine blk_drew ?_ | refine blk_alloc ?_ _)); refine blk_far ?_ NB247_255.out _; (with_reducible repeat (first | refine blk_drewN ?_ _ | refine blk_drew ?_ | refine blk_alloc ?_ _)); refine blk_far ?_ NB247_255.out _; (with_reducible repeat (first | refine blk_drewN ?_ _ | refine blk_drew ?_ | refine blk_alloc ?_ _)); exact BK247.out) hb); have n6_ := Aside0.mk (blk_below (g := gb251) (o := .cells #[.int .i64 t248, .int .i64 t249] 24 (0, 0)) (by (with_reducible repeat (first | refine blk_drewN ?_ _ | refine blk_drew ?_ | refine blk_alloc ?_ _)); refine blk_far ?_ NB251_255.out _; (with_reducible repeat (first | refine blk_drewN ?_ _ | refine blk_drew ?_ | refine blk_alloc ?_ _)); refine blk_far ?_ NB251_255.out _; (with_reducible repeat (first | refine blk_drewN ?_ _ | refine blk_drew ?_ | refine blk_alloc ?_ _)); exact BK251.out) hb); have n7_ := Aside0.mk (blk_below (g := gb255) (o := .cells #[.int .i64 t252, .int .i64 t253] 24 (0, 0)) (by (with_reducible repeat (first | refine blk_drewN ?_ _ | refine blk_drew ?_ | refine blk_alloc ?_ _)); refine blk_put (cs := #[.int .i64 t252, .int .i64 0]) ?_ 1 _ rfl; (with_reducible repeat (first | refine blk_drewN ?_ _ | refine blk_drew ?_ | refine blk_alloc ?_ _)); refine blk_put (cs := #[.int .i64 0, .int .i64 0]) ?_ 0 _ rfl; (with_reducible repeat (first | refine blk_drewN ?_ _ | refine blk_drew ?_ | refine blk_alloc ?_ _)); exact BK255.out) hb); have n8_ := Aside0.mk (below_step (by repeat (first | (with_reducible first | exact HB.out | apply below_alloc | apply pw_below_drewN | apply below_drew1 | refine below_set ?_ GE233.out | refine below_set ?_ GE234.out | refine below_set ?_ GE235.out | refine below_set ?_ GE239.out | refine below_set ?_ GE243.out | refine below_set ?_ GE247.out | refine below_set ?_ GE251.out | refine below_set ?_ GE255.out) | exact HB.out)) hb); clear BK233; clear BK234; clear BK235; clear BK239; clear BK243; clear BK247; clear BK251; clear BK255; clear HB; have BK233 := n0_; have BK234 := n1_; have BK235 := n2_; have BK239 := n3_; have BK243 := n4_; have BK247 := n5_; have BK251 := n6_; have BK255 := n7_; have HB := n8_; clear n0_ n1_ n2_ n3_ n4_ n5_ n6_ n7_ n8_; (try clear hb); (try clear hb2); (try clear hk); (try clear hi)) | ((with_reducible refine gate_dst (N := 17) rfl ?_); refine box_event ?hg (N := 17) ?hd (cs := #[.int .i64 0, .int .i64 0]) (t := 24) ?hr ?_; (case hd => rfl); (case hg => rfl); (case hr => first | (go_simp; done) | (go_simp; rfl)); intro gb259 hg w170 hbox hb; have n0_ := Aside0.mk (blk_below (g := gb233) (o := .cells #[.int .i64 t224, .int .i64 t225] 24 (0, 0)) (by (with_reducible repeat (first | refine blk_drewN ?_ _ | refine blk_drew ?_ | refine blk_alloc ?_ _)); exact BK233.out) hb); have n1_ := Aside0.mk (blk_below (g := gb234) (o := .cells #[.int .i64 t227, .int .i64 t228] 24 (0, 0)) (by (with_reducible repeat (first | refine blk_drewN ?_ _ | refine blk_drew ?_ | refine blk_alloc ?_ _)); exact BK234.out) hb); have n2_ := Aside0.mk (blk_below (g := gb235) (o := .cells #[.int .i64 t230, .int .i64 t231] 24 (0, 0)) (by (with_reducible repeat (first | refine blk_drewN ?_ _ | refine blk_drew ?_ | refine blk_alloc ?_ _)); exact BK235.out) hb); have n3_ := Aside0.mk (blk_below (g := gb239) (o := .cells #[.int .i64 t236, .int .i64 t237] 24 (0, 0)) (by (with_reducible repeat (first | refine blk_drewN ?_ _ | refine blk_drew ?_ | refine blk_alloc ?_ _)); exact BK239.out) hb); have n4_ := Aside0.mk (blk_below (g := gb243) (o := .cells #[.int .i64 t240, .int .i64 t241] 24 (0, 0)) (by (with_reducible repeat (first | refine blk_drewN ?_ _ | refine blk_drew ?_ | refine blk_alloc ?_ _)); exact BK243.out) hb); have n5_ := Aside0.mk (blk_below (g := gb247) (o := .cells #[.int .i64 t244, .int .i64 t245] 24 (0, 0)) (by (with_reducible repeat (first | refine blk_drewN ?_ _ | refine blk_drew ?_ | refine blk_alloc ?_ _)); exact BK247.out) hb); have n6_ := Aside0.mk (blk_below (g := gb251) (o := .cells #[.int .i64 t248, .int .i64 t249] 24 (0, 0)) (by (with_reducible repeat (first | refine blk_drewN ?_ _ | refine blk_drew ?_ | refine blk_alloc ?_ _)); exact BK251.out) hb); have n7_ := Aside0.mk (blk_below (g := gb255) (o := .cells #[.int .i64 t252, .int .i64 t253] 24 (0, 0)) (by (with_reducible repeat (first | refine blk_drewN ?_ _ | refine blk_drew ?_ | refine blk_alloc ?_ _)); exact BK255.out) hb); have n8_ := Aside0.mk (below_step (by repeat (first | (with_reducible first | exact HB.out | apply below_alloc | apply pw_below_drewN | apply below_drew1 | refine below_set ?_ GE233.out | refine below_set ?_ GE234.out | refine below_set ?_ GE235.out | refine below_set ?_ GE239.out | refine below_set ?_ GE243.out | refine below_set ?_ GE247.out | refine below_set ?_ GE251.out | refine below_set ?_ GE255.out) | exact HB.out)) hb); have n9_ := Aside0.mk (hbox); have n10_ := Aside0.mk ((by rw [hg]; exact (below_size (by repeat (first | (with_reducible first | exact HB.out | apply below_alloc | apply pw_below_drewN | apply below_drew1 | refine below_set ?_ GE233.out | refine below_set ?_ GE234.out | refine below_set ?_ GE235.out | refine below_set ?_ GE239.out | refine below_set ?_ GE243.out | refine below_set ?_ GE247.out | refine below_set ?_ GE251.out | refine below_set ?_ GE255.out) | exact HB.out))) : w.heap.size ≤ gb259)); have n11_ := Aside0.mk ((by rw [hg]; exact (below_size (by repeat (first | (with_reducible first | exact HB.out | apply below_alloc | apply pw_below_drewN | apply below_drew1 | refine below_set ?_ GE233.out | refine below_set ?_ GE234.out | refine below_set ?_ GE235.out | refine below_set ?_ GE239.out | refine below_set ?_ GE243.out | refine below_set ?_ GE247.out | refine below_set ?_ GE251.out | refine below_set ?_ GE255.out) | exact HB.out))) : w.heap.size ≤ gb259)); have n12_ := Aside0.mk ((by rw [hg]; exact Nat.ne_of_lt (blk_lt (g := gb233) (o := .cells #[.int .i64 t224, .int .i64 t225] 24 (0, 0)) (by (with_reducible repeat (first | refine blk_drewN ?_ _ | refine blk_drew ?_ | refine blk_alloc ?_ _)); exact BK233.out)) : gb233 ≠ gb259)); have n13_ := Aside0.mk ((by rw [hg]; exact Nat.ne_of_gt (blk_lt (g := gb233) (o := .cells #[.int .i64 t224, .int .i64 t225] 24 (0, 0)) (by (with_reducible repeat (first | refine blk_drewN ?_ _ | refine blk_drew ?_ | refine blk_alloc ?_ _)); exact BK233.out)) : gb259 ≠ gb233)); have n14_ := Aside0.mk ((by rw [hg]; exact Nat.ne_of_lt (blk_lt (g := gb234) (o := .cells #[.int .i64 t227, .int .i64 t228] 24 (0, 0)) (by (with_reducible repeat (first | refine blk_drewN ?_ _ | refine blk_drew ?_ | refine blk_alloc ?_ _)); exact BK234.out)) : gb234 ≠ gb259)); have n15_ := Aside0.mk ((by rw [hg]; exact Nat.ne_of_gt (blk_lt (g := gb234) (o := .cells #[.int .i64 t227, .int .i64 t228] 24 (0, 0)) (by (with_reducible repeat (first | refine blk_drewN ?_ _ | refine blk_drew ?_ | refine blk_alloc ?_ _)); exact BK234.out)) : gb259 ≠ gb234)); have n16_ := Aside0.mk ((by rw [hg]; exact Nat.ne_of_lt (blk_lt (g := gb235) (o := .cells #[.int .i64 t230, .int .i64 t231] 24 (0, 0)) (by (with_reducible repeat (first | refine blk_drewN ?_ _ | refine blk_drew ?_ | refine blk_alloc ?_ _)); exact BK235.out)) : gb235 ≠ gb259)); have n17_ := Aside0.mk ((by rw [hg]; exact Nat.ne_of_gt (blk_lt (g := gb235) (o := .cells #[.int .i64 t230, .int .i64 t231] 24 (0, 0)) (by (with_reducible repeat (first | refine blk_drewN ?_ _ | refine blk_drew ?_ | refine blk_alloc ?_ _)); exact BK235.out)) : gb259 ≠ gb235)); have n18_ := Aside0.mk ((by rw [hg]; exact Nat.ne_of_lt (blk_lt (g := gb239) (o := .cells #[.int .i64 t236, .int .i64 t237] 24 (0, 0)) (by (with_reducible repeat (first | refine blk_drewN ?_ _ | refine blk_drew ?_ | refine blk_alloc ?_ _)); exact BK239.out)) : gb239 ≠ gb259)); have n19_ := Aside0.mk ((by rw [hg]; exact Nat.ne_of_gt (blk_lt (g := gb239) (o := .cells #[.int .i64 t236, .int .i64 t237] 24 (0, 0)) (by (with_reducible repeat (first | refine blk_drewN ?_ _ | refine blk_drew ?_ | refine blk_alloc ?_ _)); exact BK239.out)) : gb259 ≠ gb239)); have n20_ := Aside0.mk ((by rw [hg]; exact Nat.ne_of_lt (blk_lt (g := gb243) (o := .cells #[.int .i64 t240, .int .i64 t241] 24 (0, 0)) (by (with_reducible repeat (first | refine blk_drewN ?_ _ | refine blk_drew ?_ | refine blk_alloc ?_ _)); exact BK243.out)) : gb243 ≠ gb259)); have n21_ := Aside0.mk ((by rw [hg]; exact Nat.ne_of_gt (blk_lt (g := gb243) (o := .cells #[.int .i64 t240, .int .i64 t241] 24 (0, 0)) (by (with_reducible repeat (first | refine blk_drewN ?_ _ | refine blk_drew ?_ | refine blk_alloc ?_ _)); exact BK243.out)) : gb259 ≠ gb243)); have n22_ := Aside0.mk ((by rw [hg]; exact Nat.ne_of_lt (blk_lt (g := gb247) (o := .cells #[.int .i64 t244, .int .i64 t245] 24 (0, 0)) (by (with_reducible repeat (first | refine blk_drewN ?_ _ | refine blk_drew ?_ | refine blk_alloc ?_ _)); exact BK247.out)) : gb247 ≠ gb259)); have n23_ := Aside0.mk ((by rw [hg]; exact Nat.ne_of_gt (blk_lt (g := gb247) (o := .cells #[.int .i64 t244, .int .i64 t245] 24 (0, 0)) (by (with_reducible repeat (first | refine blk_drewN ?_ _ | refine blk_drew ?_ | refine blk_alloc ?_ _)); exact BK247.out)) : gb259 ≠ gb247)); have n24_ := Aside0.mk ((by rw [hg]; exact Nat.ne_of_lt (blk_lt (g := gb251) (o := .cells #[.int .i64 t248, .int .i64 t249] 24 (0, 0)) (by (with_reducible repeat (first | refine blk_drewN ?_ _ | refine blk_drew ?_ | refine blk_alloc ?_ _)); exact BK251.out)) : gb251 ≠ gb259)); have n25_ := Aside0.mk ((by rw [hg]; exact Nat.ne_of_gt (blk_lt (g := gb251) (o := .cells #[.int .i64 t248, .int .i64 t249] 24 (0, 0)) (by (with_reducible repeat (first | refine blk_drewN ?_ _ | refine blk_drew ?_ | refine blk_alloc ?_ _)); exact BK251.out)) : gb259 ≠ gb251)); have n26_ := Aside0.mk ((by rw [hg]; exact Nat.ne_of_lt (blk_lt (g := gb255) (o := .cells #[.int .i64 t252, .int .i64 t253] 24 (0, 0)) (by (with_reducible repeat (first | refine blk_drewN ?_ _ | refine blk_drew ?_ | refine blk_alloc ?_ _)); exact BK255.out)) : gb255 ≠ gb259)); have n27_ := Aside0.mk ((by rw [hg]; exact Nat.ne_of_gt (blk_lt (g := gb255) (o := .cells #[.int .i64 t252, .int .i64 t253] 24 (0, 0)) (by (with_reducible repeat (first | refine blk_drewN ?_ _ | refine blk_drew ?_ | refine blk_alloc ?_ _)); exact BK255.out)) : gb259 ≠ gb255)); clear BK233; clear BK234; clear BK235; clear BK239; clear BK243; clear BK247; clear BK251; clear BK255; clear HB; have BK233 := n0_; have BK234 := n1_; have BK235 := n2_; have BK239 := n3_; have BK243 := n4_; have BK247 := n5_; have BK251 := n6_; have BK255 := n7_; have HB := n8_; have BK259 := n9_; have GW259 := n10_; have GE259 := n11_; have NB233_259 := n12_; have NB259_233 := n13_; have NB234_259 := n14_; have NB259_234 := n15_; have NB235_259 := n16_; have NB259_235 := n17_; have NB239_259 := n18_; have NB259_239 := n19_; have NB243_259 := n20_; have NB259_243 := n21_; have NB247_259 := n22_; have NB259_247 := n23_; have NB251_259 := n24_; have NB259_251 := n25_; have NB255_259 := n26_; have NB259_255 := n27_; clear n0_ n1_ n2_ n3_ n4_ n5_ n6_ n7_ n8_ n9_ n10_ n11_ n12_ n13_ n14_ n15_ n16_ n17_ n18_ n19_ n20_ n21_ n22_ n23_ n24_ n25_ n26_ n27_; clear hb hbox hg; have hnb171 := NB259_233.out; have hnc171 := NB233_259.out; have hnb172 := NB259_234.out; have hnc172 := NB234_259.out; have hnb173 := NB259_235.out; have hnc173 := NB235_259.out; have hnb174 := NB259_239.out; have hnc174 := NB239_259.out; have hnb175 := NB259_243.out; have hnc175 := NB243_259.out; have hnb176 := NB259_247.out; have hnc176 := NB247_259.out; have hnb177 := NB259_251.out; have hnc177 := NB251_259.out; have hnb178 := NB259_255.out; have hnc178 := NB255_259.out; have hcz179_0 : w170.cell? ⟨gb259, 0, none⟩ = some (.int .i64 0) := (blk_cell BK259.out 0).trans rfl; have hcz179_1 : w170.cell? ⟨gb259, 1, none⟩ = some (.int .i64 0) := (blk_cell BK259.out 1).trans rfl; have hfz179_0 := blk_frozen BK259.out 0; have hfz179_1 := blk_frozen BK259.out 1))
        (try simp only [Act.put, List.setIfInBounds_toArray, List.set_cons_zero, List.set_cons_succ])
        go_cut [100] (fun v100 wc => ∃ (kq : Nat) (x100_129 : Bool), v100 = .bool x100_129 ∧ Aside0 (shapesearchlaw01_RatioSums.j1 kq t238 t254 x100_129 t224 t225 t227 t228 t230 t231 t236 t237 t252 t253 = some r) ∧ Aside0 (kq ≤ kj8) ∧ Aside0 (wc.heap[gb233]? = some (.cells #[.int .i64 t224, .int .i64 t225] 24 (0, 0))) ∧ Aside0 (wc.heap[gb234]? = some (.cells #[.int .i64 t227, .int .i64 t228] 24 (0, 0))) ∧ Aside0 (wc.heap[gb235]? = some (.cells #[.int .i64 t230, .int .i64 t231] 24 (0, 0))) ∧ Aside0 (wc.heap[gb239]? = some (.cells #[.int .i64 t236, .int .i64 t237] 24 (0, 0))) ∧ Aside0 (wc.heap[gb243]? = some (.cells #[.int .i64 t240, .int .i64 t241] 24 (0, 0))) ∧ Aside0 (wc.heap[gb247]? = some (.cells #[.int .i64 t244, .int .i64 t245] 24 (0, 0))) ∧ Aside0 (wc.heap[gb251]? = some (.cells #[.int .i64 t248, .int .i64 t249] 24 (0, 0))) ∧ Aside0 (wc.heap[gb255]? = some (.cells #[.int .i64 t252, .int .i64 t253] 24 (0, 0))) ∧ Aside0 (wc.heap[gb259]? = some (.cells #[.int .i64 t256, .int .i64 t257] 24 (0, 0))) ∧ Aside0 (Below w.heap.size w wc))
        case first =>
          have H := HC130.out
          clear HC130
          by_cases c180 : t238 = 0
          · rw [if_pos c180] at H
            have c180b0 : (t238 == 0) = true := beq_iff_eq.mpr c180
            have c180b1 : (t238 != 0) = false := bne_eq_false_iff_eq.mpr c180
            clear c180
            (first | rw [c180b0] | (simp only [i64_w, i32_w]; rw [c180b0]) | rw [c180b1] | skip)
            by_cases c181 : t250 = 0
            · rw [if_pos c181] at H
              have c181b0 : (t250 == 0) = true := beq_iff_eq.mpr c181
              have c181b1 : (t250 != 0) = false := bne_eq_false_iff_eq.mpr c181
              clear c181
              by_cases c182 : t254 = 0
              · rw [if_pos c182] at H
                have c182b0 : (t254 == 0) = true := beq_iff_eq.mpr c182
                have c182b1 : (t254 != 0) = false := bne_eq_false_iff_eq.mpr c182
                clear c182
                by_cases c183 : t258 = 0
                · rw [if_pos c183] at H
                  have c183b0 : (t258 == 0) = true := beq_iff_eq.mpr c183
                  have c183b1 : (t258 != 0) = false := bne_eq_false_iff_eq.mpr c183
                  clear c183
                  have H' := Aside0.mk H
                  clear H
                  have hnb184 := NB251_233.out
                  have hnc184 := NB233_251.out
                  have hnb185 := NB251_234.out
                  have hnc185 := NB234_251.out
                  have hnb186 := NB251_235.out
                  have hnc186 := NB235_251.out
                  have hnb187 := NB251_239.out
                  have hnc187 := NB239_251.out
                  have hnb188 := NB251_243.out
                  have hnc188 := NB243_251.out
                  have hnb189 := NB251_247.out
                  have hnc189 := NB247_251.out
                  have hnb190 := NB251_255.out
                  have hnc190 := NB255_251.out
                  have hnb191 := NB251_259.out
                  have hnc191 := NB259_251.out
                  have hcz192_0 : w170.cell? ⟨gb251, 0, none⟩ = some (.int .i64 t248) := (blk_cell BK251.out 0).trans rfl
                  have hcz192_1 : w170.cell? ⟨gb251, 1, none⟩ = some (.int .i64 t249) := (blk_cell BK251.out 1).trans rfl
                  have hfz192_0 := blk_frozen BK251.out 0
                  have hfz192_1 := blk_frozen BK251.out 1
                  have hnb193 := NB259_233.out
                  have hnc193 := NB233_259.out
                  have hnb194 := NB259_234.out
                  have hnc194 := NB234_259.out
                  have hnb195 := NB259_235.out
                  have hnc195 := NB235_259.out
                  have hnb196 := NB259_239.out
                  have hnc196 := NB239_259.out
                  have hnb197 := NB259_243.out
                  have hnc197 := NB243_259.out
                  have hnb198 := NB259_247.out
                  have hnc198 := NB247_259.out
                  have hnb199 := NB259_255.out
                  have hnc199 := NB255_259.out
                  have hcz200_0 : w170.cell? ⟨gb259, 0, none⟩ = some (.int .i64 0) := (blk_cell BK259.out 0).trans rfl
                  have hcz200_1 : w170.cell? ⟨gb259, 1, none⟩ = some (.int .i64 0) := (blk_cell BK259.out 1).trans rfl
                  have hfz200_0 := blk_frozen BK259.out 0
                  have hfz200_1 := blk_frozen BK259.out 1
                  go_wp2
                  go_meet
                  case rel => exact ⟨_, ((!(t248 == t256) || (!(t249 == t257)))), (by first | rfl | (simp; done) | (simp [*]; done)), H', ⟨by have := HJ8.out; first | omega | exact Nat.le_refl _⟩, ⟨by (with_reducible repeat (first | refine blk_drewN ?_ _ | refine blk_drew ?_ | refine blk_alloc ?_ _)); refine blk_far ?_ NB233_259.out _; (with_reducible repeat (first | refine blk_drewN ?_ _ | refine blk_drew ?_ | refine blk_alloc ?_ _)); refine blk_far ?_ NB233_259.out _; (with_reducible repeat (first | refine blk_drewN ?_ _ | refine blk_drew ?_ | refine blk_alloc ?_ _)); exact BK233.out⟩, ⟨by (with_reducible repeat (first | refine blk_drewN ?_ _ | refine blk_drew ?_ | refine blk_alloc ?_ _)); refine blk_far ?_ NB234_259.out _; (with_reducible repeat (first | refine blk_drewN ?_ _ | refine blk_drew ?_ | refine blk_alloc ?_ _)); refine blk_far ?_ NB234_259.out _; (with_reducible repeat (first | refine blk_drewN ?_ _ | refine blk_drew ?_ | refine blk_alloc ?_ _)); exact BK234.out⟩, ⟨by (with_reducible repeat (first | refine blk_drewN ?_ _ | refine blk_drew ?_ | refine blk_alloc ?_ _)); refine blk_far ?_ NB235_259.out _; (with_reducible repeat (first | refine blk_drewN ?_ _ | refine blk_drew ?_ | refine blk_alloc ?_ _)); refine blk_far ?_ NB235_259.out _; (with_reducible repeat (first | refine blk_drewN ?_ _ | refine blk_drew ?_ | refine blk_alloc ?_ _)); exact BK235.out⟩, ⟨by (with_reducible repeat (first | refine blk_drewN ?_ _ | refine blk_drew ?_ | refine blk_alloc ?_ _)); refine blk_far ?_ NB239_259.out _; (with_reducible repeat (first | refine blk_drewN ?_ _ | refine blk_drew ?_ | refine blk_alloc ?_ _)); refine blk_far ?_ NB239_259.out _; (with_reducible repeat (first | refine blk_drewN ?_ _ | refine blk_drew ?_ | refine blk_alloc ?_ _)); exact BK239.out⟩, ⟨by (with_reducible repeat (first | refine blk_drewN ?_ _ | refine blk_drew ?_ | refine blk_alloc ?_ _)); refine blk_far ?_ NB243_259.out _; (with_reducible repeat (first | refine blk_drewN ?_ _ | refine blk_drew ?_ | refine blk_alloc ?_ _)); refine blk_far ?_ NB243_259.out _; (with_reducible repeat (first | refine blk_drewN ?_ _ | refine blk_drew ?_ | refine blk_alloc ?_ _)); exact BK243.out⟩, ⟨by (with_reducible repeat (first | refine blk_drewN ?_ _ | refine blk_drew ?_ | refine blk_alloc ?_ _)); refine blk_far ?_ NB247_259.out _; (with_reducible repeat (first | refine blk_drewN ?_ _ | refine blk_drew ?_ | refine blk_alloc ?_ _)); refine blk_far ?_ NB247_259.out _; (with_reducible repeat (first | refine blk_drewN ?_ _ | refine blk_drew ?_ | refine blk_alloc ?_ _)); exact BK247.out⟩, ⟨by (with_reducible repeat (first | refine blk_drewN ?_ _ | refine blk_drew ?_ | refine blk_alloc ?_ _)); refine blk_far ?_ NB251_259.out _; (with_reducible repeat (first | refine blk_drewN ?_ _ | refine blk_drew ?_ | refine blk_alloc ?_ _)); refine blk_far ?_ NB251_259.out _; (with_reducible repeat (first | refine blk_drewN ?_ _ | refine blk_drew ?_ | refine blk_alloc ?_ _)); exact BK251.out⟩, ⟨by (with_reducible repeat (first | refine blk_drewN ?_ _ | refine blk_drew ?_ | refine blk_alloc ?_ _)); refine blk_far ?_ NB255_259.out _; (with_reducible repeat (first | refine blk_drewN ?_ _ | refine blk_drew ?_ | refine blk_alloc ?_ _)); refine blk_far ?_ NB255_259.out _; (with_reducible repeat (first | refine blk_drewN ?_ _ | refine blk_drew ?_ | refine blk_alloc ?_ _)); exact BK255.out⟩, ⟨by (with_reducible repeat (first | refine blk_drewN ?_ _ | refine blk_drew ?_ | refine blk_alloc ?_ _)); refine blk_put (cs := #[.int .i64 t256, .int .i64 0]) ?_ 1 _ rfl; (with_reducible repeat (first | refine blk_drewN ?_ _ | refine blk_drew ?_ | refine blk_alloc ?_ _)); refine blk_put (cs := #[.int .i64 0, .int .i64 0]) ?_ 0 _ rfl; (with_reducible repeat (first | refine blk_drewN ?_ _ | refine blk_drew ?_ | refine blk_alloc ?_ _)); exact BK259.out⟩, ⟨by repeat (first | (with_reducible first | exact HB.out | apply below_alloc | apply pw_below_drewN | apply below_drew1 | refine below_set ?_ GE233.out | refine below_set ?_ GE234.out | refine below_set ?_ GE235.out | refine below_set ?_ GE239.out | refine below_set ?_ GE243.out | refine below_set ?_ GE247.out | refine below_set ?_ GE251.out | refine below_set ?_ GE255.out | refine below_set ?_ GE259.out) | exact HB.out)⟩⟩
                · rw [if_neg c183] at H
                  have c183b0 : (t258 == 0) = false := beq_eq_false_iff_ne.mpr c183
                  have c183b1 : (t258 != 0) = true := bne_iff_ne.mpr c183
                  have H' := Aside0.mk H
                  clear H
                  go_wp2
                  go_meet
                  case rel => exact ⟨_, (false), (by first | rfl | (simp; done) | (simp [*]; done)), H', ⟨by have := HJ8.out; first | omega | exact Nat.le_refl _⟩, ⟨by (with_reducible repeat (first | refine blk_drewN ?_ _ | refine blk_drew ?_ | refine blk_alloc ?_ _)); refine blk_far ?_ NB233_259.out _; (with_reducible repeat (first | refine blk_drewN ?_ _ | refine blk_drew ?_ | refine blk_alloc ?_ _)); refine blk_far ?_ NB233_259.out _; (with_reducible repeat (first | refine blk_drewN ?_ _ | refine blk_drew ?_ | refine blk_alloc ?_ _)); exact BK233.out⟩, ⟨by (with_reducible repeat (first | refine blk_drewN ?_ _ | refine blk_drew ?_ | refine blk_alloc ?_ _)); refine blk_far ?_ NB234_259.out _; (with_reducible repeat (first | refine blk_drewN ?_ _ | refine blk_drew ?_ | refine blk_alloc ?_ _)); refine blk_far ?_ NB234_259.out _; (with_reducible repeat (first | refine blk_drewN ?_ _ | refine blk_drew ?_ | refine blk_alloc ?_ _)); exact BK234.out⟩, ⟨by (with_reducible repeat (first | refine blk_drewN ?_ _ | refine blk_drew ?_ | refine blk_alloc ?_ _)); refine blk_far ?_ NB235_259.out _; (with_reducible repeat (first | refine blk_drewN ?_ _ | refine blk_drew ?_ | refine blk_alloc ?_ _)); refine blk_far ?_ NB235_259.out _; (with_reducible repeat (first | refine blk_drewN ?_ _ | refine blk_drew ?_ | refine blk_alloc ?_ _)); exact BK235.out⟩, ⟨by (with_reducible repeat (first | refine blk_drewN ?_ _ | refine blk_drew ?_ | refine blk_alloc ?_ _)); refine blk_far ?_ NB239_259.out _; (with_reducible repeat (first | refine blk_drewN ?_ _ | refine blk_drew ?_ | refine blk_alloc ?_ _)); refine blk_far ?_ NB239_259.out _; (with_reducible repeat (first | refine blk_drewN ?_ _ | refine blk_drew ?_ | refine blk_alloc ?_ _)); exact BK239.out⟩, ⟨by (with_reducible repeat (first | refine blk_drewN ?_ _ | refine blk_drew ?_ | refine blk_alloc ?_ _)); refine blk_far ?_ NB243_259.out _; (with_reducible repeat (first | refine blk_drewN ?_ _ | refine blk_drew ?_ | refine blk_alloc ?_ _)); refine blk_far ?_ NB243_259.out _; (with_reducible repeat (first | refine blk_drewN ?_ _ | refine blk_drew ?_ | refine blk_alloc ?_ _)); exact BK243.out⟩, ⟨by (with_reducible repeat (first | refine blk_drewN ?_ _ | refine blk_drew ?_ | refine blk_alloc ?_ _)); refine blk_far ?_ NB247_259.out _; (with_reducible repeat (first | refine blk_drewN ?_ _ | refine blk_drew ?_ | refine blk_alloc ?_ _)); refine blk_far ?_ NB247_259.out _; (with_reducible repeat (first | refine blk_drewN ?_ _ | refine blk_drew ?_ | refine blk_alloc ?_ _)); exact BK247.out⟩, ⟨by (with_reducible repeat (first | refine blk_drewN ?_ _ | refine blk_drew ?_ | refine blk_alloc ?_ _)); refine blk_far ?_ NB251_259.out _; (with_reducible repeat (first | refine blk_drewN ?_ _ | refine blk_drew ?_ | refine blk_alloc ?_ _)); refine blk_far ?_ NB251_259.out _; (with_reducible repeat (first | refine blk_drewN ?_ _ | refine blk_drew ?_ | refine blk_alloc ?_ _)); exact BK251.out⟩, ⟨by (with_reducible repeat (first | refine blk_drewN ?_ _ | refine blk_drew ?_ | refine blk_alloc ?_ _)); refine blk_far ?_ NB255_259.out _; (with_reducible repeat (first | refine blk_drewN ?_ _ | refine blk_drew ?_ | refine blk_alloc ?_ _)); refine blk_far ?_ NB255_259.out _; (with_reducible repeat (first | refine blk_drewN ?_ _ | refine blk_drew ?_ | refine blk_alloc ?_ _)); exact BK255.out⟩, ⟨by (with_reducible repeat (first | refine blk_drewN ?_ _ | refine blk_drew ?_ | refine blk_alloc ?_ _)); refine blk_put (cs := #[.int .i64 t256, .int .i64 0]) ?_ 1 _ rfl; (with_reducible repeat (first | refine blk_drewN ?_ _ | refine blk_drew ?_ | refine blk_alloc ?_ _)); refine blk_put (cs := #[.int .i64 0, .int .i64 0]) ?_ 0 _ rfl; (with_reducible repeat (first | refine blk_drewN ?_ _ | refine blk_drew ?_ | refine blk_alloc ?_ _)); exact BK259.out⟩, ⟨by repeat (first | (with_reducible first | exact HB.out | apply below_alloc | apply pw_below_drewN | apply below_drew1 | refine below_set ?_ GE233.out | refine below_set ?_ GE234.out | refine below_set ?_ GE235.out | refine below_set ?_ GE239.out | refine below_set ?_ GE243.out | refine below_set ?_ GE247.out | refine below_set ?_ GE251.out | refine below_set ?_ GE255.out | refine below_set ?_ GE259.out) | exact HB.out)⟩⟩
              · rw [if_neg c182] at H
                have c182b0 : (t254 == 0) = false := beq_eq_false_iff_ne.mpr c182
                have c182b1 : (t254 != 0) = true := bne_iff_ne.mpr c182
                have H' := Aside0.mk H
                clear H
                go_wp2
                go_meet
                case rel => exact ⟨_, (false), (by first | rfl | (simp; done) | (simp [*]; done)), H', ⟨by have := HJ8.out; first | omega | exact Nat.le_refl _⟩, ⟨by (with_reducible repeat (first | refine blk_drewN ?_ _ | refine blk_drew ?_ | refine blk_alloc ?_ _)); refine blk_far ?_ NB233_259.out _; (with_reducible repeat (first | refine blk_drewN ?_ _ | refine blk_drew ?_ | refine blk_alloc ?_ _)); refine blk_far ?_ NB233_259.out _; (with_reducible repeat (first | refine blk_drewN ?_ _ | refine blk_drew ?_ | refine blk_alloc ?_ _)); exact BK233.out⟩, ⟨by (with_reducible repeat (first | refine blk_drewN ?_ _ | refine blk_drew ?_ | refine blk_alloc ?_ _)); refine blk_far ?_ NB234_259.out _; (with_reducible repeat (first | refine blk_drewN ?_ _ | refine blk_drew ?_ | refine blk_alloc ?_ _)); refine blk_far ?_ NB234_259.out _; (with_reducible repeat (first | refine blk_drewN ?_ _ | refine blk_drew ?_ | refine blk_alloc ?_ _)); exact BK234.out⟩, ⟨by (with_reducible repeat (first | refine blk_drewN ?_ _ | refine blk_drew ?_ | refine blk_alloc ?_ _)); refine blk_far ?_ NB235_259.out _; (with_reducible repeat (first | refine blk_drewN ?_ _ | refine blk_drew ?_ | refine blk_alloc ?_ _)); refine blk_far ?_ NB235_259.out _; (with_reducible repeat (first | refine blk_drewN ?_ _ | refine blk_drew ?_ | refine blk_alloc ?_ _)); exact BK235.out⟩, ⟨by (with_reducible repeat (first | refine blk_drewN ?_ _ | refine blk_drew ?_ | refine blk_alloc ?_ _)); refine blk_far ?_ NB239_259.out _; (with_reducible repeat (first | refine blk_drewN ?_ _ | refine blk_drew ?_ | refine blk_alloc ?_ _)); refine blk_far ?_ NB239_259.out _; (with_reducible repeat (first | refine blk_drewN ?_ _ | refine blk_drew ?_ | refine blk_alloc ?_ _)); exact BK239.out⟩, ⟨by (with_reducible repeat (first | refine blk_drewN ?_ _ | refine blk_drew ?_ | refine blk_alloc ?_ _)); refine blk_far ?_ NB243_259.out _; (with_reducible repeat (first | refine blk_drewN ?_ _ | refine blk_drew ?_ | refine blk_alloc ?_ _)); refine blk_far ?_ NB243_259.out _; (with_reducible repeat (first | refine blk_drewN ?_ _ | refine blk_drew ?_ | refine blk_alloc ?_ _)); exact BK243.out⟩, ⟨by (with_reducible repeat (first | refine blk_drewN ?_ _ | refine blk_drew ?_ | refine blk_alloc ?_ _)); refine blk_far ?_ NB247_259.out _; (with_reducible repeat (first | refine blk_drewN ?_ _ | refine blk_drew ?_ | refine blk_alloc ?_ _)); refine blk_far ?_ NB247_259.out _; (with_reducible repeat (first | refine blk_drewN ?_ _ | refine blk_drew ?_ | refine blk_alloc ?_ _)); exact BK247.out⟩, ⟨by (with_reducible repeat (first | refine blk_drewN ?_ _ | refine blk_drew ?_ | refine blk_alloc ?_ _)); refine blk_far ?_ NB251_259.out _; (with_reducible repeat (first | refine blk_drewN ?_ _ | refine blk_drew ?_ | refine blk_alloc ?_ _)); refine blk_far ?_ NB251_259.out _; (with_reducible repeat (first | refine blk_drewN ?_ _ | refine blk_drew ?_ | refine blk_alloc ?_ _)); exact BK251.out⟩, ⟨by (with_reducible repeat (first | refine blk_drewN ?_ _ | refine blk_drew ?_ | refine blk_alloc ?_ _)); refine blk_far ?_ NB255_259.out _; (with_reducible repeat (first | refine blk_drewN ?_ _ | refine blk_drew ?_ | refine blk_alloc ?_ _)); refine blk_far ?_ NB255_259.out _; (with_reducible repeat (first | refine blk_drewN ?_ _ | refine blk_drew ?_ | refine blk_alloc ?_ _)); exact BK255.out⟩, ⟨by (with_reducible repeat (first | refine blk_drewN ?_ _ | refine blk_drew ?_ | refine blk_alloc ?_ _)); refine blk_put (cs := #[.int .i64 t256, .int .i64 0]) ?_ 1 _ rfl; (with_reducible repeat (first | refine blk_drewN ?_ _ | refine blk_drew ?_ | refine blk_alloc ?_ _)); refine blk_put (cs := #[.int .i64 0, .int .i64 0]) ?_ 0 _ rfl; (with_reducible repeat (first | refine blk_drewN ?_ _ | refine blk_drew ?_ | refine blk_alloc ?_ _)); exact BK259.out⟩, ⟨by repeat (first | (with_reducible first | exact HB.out | apply below_alloc | apply pw_below_drewN | apply below_drew1 | refine below_set ?_ GE233.out | refine below_set ?_ GE234.out | refine below_set ?_ GE235.out | refine below_set ?_ GE239.out | refine below_set ?_ GE243.out | refine below_set ?_ GE247.out | refine below_set ?_ GE251.out | refine below_set ?_ GE255.out | refine below_set ?_ GE259.out) | exact HB.out)⟩⟩
            · rw [if_neg c181] at H
              have c181b0 : (t250 == 0) = false := beq_eq_false_iff_ne.mpr c181
              have c181b1 : (t250 != 0) = true := bne_iff_ne.mpr c181
              have H' := Aside0.mk H
              clear H
              go_wp2
              go_meet
              case rel => exact ⟨_, (false), (by first | rfl | (simp; done) | (simp [*]; done)), H', ⟨by have := HJ8.out; first | omega | exact Nat.le_refl _⟩, ⟨by (with_reducible repeat (first | refine blk_drewN ?_ _ | refine blk_drew ?_ | refine blk_alloc ?_ _)); refine blk_far ?_ NB233_259.out _; (with_reducible repeat (first | refine blk_drewN ?_ _ | refine blk_drew ?_ | refine blk_alloc ?_ _)); refine blk_far ?_ NB233_259.out _; (with_reducible repeat (first | refine blk_drewN ?_ _ | refine blk_drew ?_ | refine blk_alloc ?_ _)); exact BK233.out⟩, ⟨by (with_reducible repeat (first | refine blk_drewN ?_ _ | refine blk_drew ?_ | refine blk_alloc ?_ _)); refine blk_far ?_ NB234_259.out _; (with_reducible repeat (first | refine blk_drewN ?_ _ | refine blk_drew ?_ | refine blk_alloc ?_ _)); refine blk_far ?_ NB234_259.out _; (with_reducible repeat (first | refine blk_drewN ?_ _ | refine blk_drew ?_ | refine blk_alloc ?_ _)); exact BK234.out⟩, ⟨by (with_reducible repeat (first | refine blk_drewN ?_ _ | refine blk_drew ?_ | refine blk_alloc ?_ _)); refine blk_far ?_ NB235_259.out _; (with_reducible repeat (first | refine blk_drewN ?_ _ | refine blk_drew ?_ | refine blk_alloc ?_ _)); refine blk_far ?_ NB235_259.out _; (with_reducible repeat (first | refine blk_drewN ?_ _ | refine blk_drew ?_ | refine blk_alloc ?_ _)); exact BK235.out⟩, ⟨by (with_reducible repeat (first | refine blk_drewN ?_ _ | refine blk_drew ?_ | refine blk_alloc ?_ _)); refine blk_far ?_ NB239_259.out _; (with_reducible repeat (first | refine blk_drewN ?_ _ | refine blk_drew ?_ | refine blk_alloc ?_ _)); refine blk_far ?_ NB239_259.out _; (with_reducible repeat (first | refine blk_drewN ?_ _ | refine blk_drew ?_ | refine blk_alloc ?_ _)); exact BK239.out⟩, ⟨by (with_reducible repeat (first | refine blk_drewN ?_ _ | refine blk_drew ?_ | refine blk_alloc ?_ _)); refine blk_far ?_ NB243_259.out _; (with_reducible repeat (first | refine blk_drewN ?_ _ | refine blk_drew ?_ | refine blk_alloc ?_ _)); refine blk_far ?_ NB243_259.out _; (with_reducible repeat (first | refine blk_drewN ?_ _ | refine blk_drew ?_ | refine blk_alloc ?_ _)); exact BK243.out⟩, ⟨by (with_reducible repeat (first | refine blk_drewN ?_ _ | refine blk_drew ?_ | refine blk_alloc ?_ _)); refine blk_far ?_ NB247_259.out _; (with_reducible repeat (first | refine blk_drewN ?_ _ | refine blk_drew ?_ | refine blk_alloc ?_ _)); refine blk_far ?_ NB247_259.out _; (with_reducible repeat (first | refine blk_drewN ?_ _ | refine blk_drew ?_ | refine blk_alloc ?_ _)); exact BK247.out⟩, ⟨by (with_reducible repeat (first | refine blk_drewN ?_ _ | refine blk_drew ?_ | refine blk_alloc ?_ _)); refine blk_far ?_ NB251_259.out _; (with_reducible repeat (first | refine blk_drewN ?_ _ | refine blk_drew ?_ | refine blk_alloc ?_ _)); refine blk_far ?_ NB251_259.out _; (with_reducible repeat (first | refine blk_drewN ?_ _ | refine blk_drew ?_ | refine blk_alloc ?_ _)); exact BK251.out⟩, ⟨by (with_reducible repeat (first | refine blk_drewN ?_ _ | refine blk_drew ?_ | refine blk_alloc ?_ _)); refine blk_far ?_ NB255_259.out _; (with_reducible repeat (first | refine blk_drewN ?_ _ | refine blk_drew ?_ | refine blk_alloc ?_ _)); refine blk_far ?_ NB255_259.out _; (with_reducible repeat (first | refine blk_drewN ?_ _ | refine blk_drew ?_ | refine blk_alloc ?_ _)); exact BK255.out⟩, ⟨by (with_reducible repeat (first | refine blk_drewN ?_ _ | refine blk_drew ?_ | refine blk_alloc ?_ _)); refine blk_put (cs := #[.int .i64 t256, .int .i64 0]) ?_ 1 _ rfl; (with_reducible repeat (first | refine blk_drewN ?_ _ | refine blk_drew ?_ | refine blk_alloc ?_ _)); refine blk_put (cs := #[.int .i64 0, .int .i64 0]) ?_ 0 _ rfl; (with_reducible repeat (first | refine blk_drewN ?_ _ | refine blk_drew ?_ | refine blk_alloc ?_ _)); exact BK259.out⟩, ⟨by repeat (first | (with_reducible first | exact HB.out | apply below_alloc | apply pw_below_drewN | apply below_drew1 | refine below_set ?_ GE233.out | refine below_set ?_ GE234.out | refine below_set ?_ GE235.out | refine below_set ?_ GE239.out | refine below_set ?_ GE243.out | refine below_set ?_ GE247.out | refine below_set ?_ GE251.out | refine below_set ?_ GE255.out | refine below_set ?_ GE259.out) | exact HB.out)⟩⟩
          · rw [if_neg c180] at H
            have c180b0 : (t238 == 0) = false := beq_eq_false_iff_ne.mpr c180
            have c180b1 : (t238 != 0) = true := bne_iff_ne.mpr c180
            (first | rw [c180b0] | (simp only [i64_w, i32_w]; rw [c180b0]) | rw [c180b1] | skip)
            have H' := Aside0.mk H
            clear H
            go_wp2
            go_meet
            case rel => exact ⟨_, (false), (by first | rfl | (simp; done) | (simp [*]; done)), H', ⟨by have := HJ8.out; first | omega | exact Nat.le_refl _⟩, ⟨by (with_reducible repeat (first | refine blk_drewN ?_ _ | refine blk_drew ?_ | refine blk_alloc ?_ _)); refine blk_far ?_ NB233_259.out _; (with_reducible repeat (first | refine blk_drewN ?_ _ | refine blk_drew ?_ | refine blk_alloc ?_ _)); refine blk_far ?_ NB233_259.out _; (with_reducible repeat (first | refine blk_drewN ?_ _ | refine blk_drew ?_ | refine blk_alloc ?_ _)); exact BK233.out⟩, ⟨by (with_reducible repeat (first | refine blk_drewN ?_ _ | refine blk_drew ?_ | refine blk_alloc ?_ _)); refine blk_far ?_ NB234_259.out _; (with_reducible repeat (first | refine blk_drewN ?_ _ | refine blk_drew ?_ | refine blk_alloc ?_ _)); refine blk_far ?_ NB234_259.out _; (with_reducible repeat (first | refine blk_drewN ?_ _ | refine blk_drew ?_ | refine blk_alloc ?_ _)); exact BK234.out⟩, ⟨by (with_reducible repeat (first | refine blk_drewN ?_ _ | refine blk_drew ?_ | refine blk_alloc ?_ _)); refine blk_far ?_ NB235_259.out _; (with_reducible repeat (first | refine blk_drewN ?_ _ | refine blk_drew ?_ | refine blk_alloc ?_ _)); refine blk_far ?_ NB235_259.out _; (with_reducible repeat (first | refine blk_drewN ?_ _ | refine blk_drew ?_ | refine blk_alloc ?_ _)); exact BK235.out⟩, ⟨by (with_reducible repeat (first | refine blk_drewN ?_ _ | refine blk_drew ?_ | refine blk_alloc ?_ _)); refine blk_far ?_ NB239_259.out _; (with_reducible repeat (first | refine blk_drewN ?_ _ | refine blk_drew ?_ | refine blk_alloc ?_ _)); refine blk_far ?_ NB239_259.out _; (with_reducible repeat (first | refine blk_drewN ?_ _ | refine blk_drew ?_ | refine blk_alloc ?_ _)); exact BK239.out⟩, ⟨by (with_reducible repeat (first | refine blk_drewN ?_ _ | refine blk_drew ?_ | refine blk_alloc ?_ _)); refine blk_far ?_ NB243_259.out _; (with_reducible repeat (first | refine blk_drewN ?_ _ | refine blk_drew ?_ | refine blk_alloc ?_ _)); refine blk_far ?_ NB243_259.out _; (with_reducible repeat (first | refine blk_drewN ?_ _ | refine blk_drew ?_ | refine blk_alloc ?_ _)); exact BK243.out⟩, ⟨by (with_reducible repeat (first | refine blk_drewN ?_ _ | refine blk_drew ?_ | refine blk_alloc ?_ _)); refine blk_far ?_ NB247_259.out _; (with_reducible repeat (first | refine blk_drewN ?_ _ | refine blk_drew ?_ | refine blk_alloc ?_ _)); refine blk_far ?_ NB247_259.out _; (with_reducible repeat (first | refine blk_drewN ?_ _ | refine blk_drew ?_ | refine blk_alloc ?_ _)); exact BK247.out⟩, ⟨by (with_reducible repeat (first | refine blk_drewN ?_ _ | refine blk_drew ?_ | refine blk_alloc ?_ _)); refine blk_far ?_ NB251_259.out _; (with_reducible repeat (first | refine blk_drewN ?_ _ | refine blk_drew ?_ | refine blk_alloc ?_ _)); refine blk_far ?_ NB251_259.out _; (with_reducible repeat (first | refine blk_drewN ?_ _ | refine blk_drew ?_ | refine blk_alloc ?_ _)); exact BK251.out⟩, ⟨by (with_reducible repeat (first | refine blk_drewN ?_ _ | refine blk_drew ?_ | refine blk_alloc ?_ _)); refine blk_far ?_ NB255_259.out _; (with_reducible repeat (first | refine blk_drewN ?_ _ | refine blk_drew ?_ | refine blk_alloc ?_ _)); refine blk_far ?_ NB255_259.out _; (with_reducible repeat (first | refine blk_drewN ?_ _ | refine blk_drew ?_ | refine blk_alloc ?_ _)); exact BK255.out⟩, ⟨by (with_reducible repeat (first | refine blk_drewN ?_ _ | refine blk_drew ?_ | refine blk_alloc ?_ _)); refine blk_put (cs := #[.int .i64 t256, .int .i64 0]) ?_ 1 _ rfl; (with_reducible repeat (first | refine blk_drewN ?_ _ | refine blk_drew ?_ | refine blk_alloc ?_ _)); refine blk_put (cs := #[.int .i64 0, .int .i64 0]) ?_ 0 _ rfl; (with_reducible repeat (first | refine blk_drewN ?_ _ | refine blk_drew ?_ | refine blk_alloc ?_ _)); exact BK259.out⟩, ⟨by repeat (first | (with_reducible first | exact HB.out | apply below_alloc | apply pw_below_drewN | apply below_drew1 | refine below_set ?_ GE233.out | refine below_set ?_ GE234.out | refine below_set ?_ GE235.out | refine below_set ?_ GE239.out | refine below_set ?_ GE243.out | refine below_set ?_ GE247.out | refine below_set ?_ GE251.out | refine below_set ?_ GE255.out | refine below_set ?_ GE259.out) | exact HB.out)⟩⟩
        case rest =>
          clear HC130
          try clear c1
          try clear c2
          try clear p2
          try clear c3
          try clear c4
          try clear c5
          try clear c6
          try clear c7
          try clear c8
          try clear c9
          try clear c10
          try clear c11
          try clear c12
          try clear c13
          try clear c14
          try clear c15
          try clear c16
          try clear c17
          try clear c18
          try clear c19
          try clear c21
          try clear c22
          try clear c24
          try clear c28
          try clear c29
          try clear c30
          try clear c31
          try clear c37
          try clear c38
          try clear c39
          try clear c40
          try clear c41
          try clear c46
          try clear c47
          try clear c48
          try clear c49
          try clear c50
          try clear c51
          try clear c53
          try clear c53b0
          try clear c54
          try clear c55
          try clear c56
          try clear c57
          try clear c58
          try clear c59
          try clear c61
          try clear c62
          try clear c63
          try clear c64
          try clear c65
          try clear c67
          try clear c67b0
          try clear c67b1
          try clear c68
          try clear c68b0
          try clear c69
          try clear c70
          try clear c71
          try clear c72
          try clear c73
          try clear c74
          try clear c76
          try clear c77
          try clear c78
          try clear c79
          try clear c80
          try clear c82
          try clear c83
          try clear c84
          try clear c85
          try clear c87
          try clear c88
          try clear c89
          try clear c91
          try clear c92
          try clear c93
          try clear c94
          try clear c95
          try clear c96
          try clear c98
          try clear c99
          try clear c100
          try clear c101
          try clear c102
          try clear c104
          try clear c105
          try clear c106
          try clear c107
          try clear c109
          try clear c110
          try clear c111
          try clear c113
          try clear c114
          try clear c115
          try clear c116
          try clear c117
          try clear c118
          try clear c120
          try clear c121
          try clear c122
          try clear c123
          try clear c124
          try clear c126
          try clear c131
          try clear c132
          try clear c133
          try clear c134
          try clear c135
          try clear c137
          try clear c138
          try clear c139
          try clear c140
          try clear c144
          try clear c145
          try clear c146
          try clear c147
          try clear c148
          try clear c149
          try clear c151
          try clear c152
          try clear c153
          try clear c158
          try clear c159
          try clear c160
          try clear c161
          try clear c162
          try clear c163
          try clear c164
          try clear c166
          try clear c167
          try clear c171
          try clear c172
          try clear c173
          try clear c174
          try clear c175
          try clear c176
          try clear c177
          try clear c178
          try clear c180
          try clear c180b0
          try clear c180b1
          try clear c181
          try clear c181b0
          try clear c181b1
          try clear c182
          try clear c182b0
          try clear c182b1
          try clear c183
          try clear c183b0
          try clear c183b1
          try clear c184
          try clear c185
          try clear c186
          try clear c187
          try clear c188
          try clear c189
          try clear c190
          try clear c191
          try clear c193
          try clear c194
          try clear c195
          try clear c196
          try clear c197
          try clear c198
          try clear c199
          try clear hcz103_0
          try clear hcz103_1
          try clear hcz108_0
          try clear hcz108_1
          try clear hcz112_0
          try clear hcz112_1
          try clear hcz119_0
          try clear hcz119_1
          try clear hcz125_0
          try clear hcz125_1
          try clear hcz136_0
          try clear hcz136_1
          try clear hcz141_0
          try clear hcz141_1
          try clear hcz150_0
          try clear hcz150_1
          try clear hcz154_0
          try clear hcz154_1
          try clear hcz155_0
          try clear hcz155_1
          try clear hcz165_0
          try clear hcz165_1
          try clear hcz168_0
          try clear hcz168_1
          try clear hcz179_0
          try clear hcz179_1
          try clear hcz192_0
          try clear hcz192_1
          try clear hcz200_0
          try clear hcz200_1
          try clear hcz20_0
          try clear hcz20_1
          try clear hcz23_0
          try clear hcz23_1
          try clear hcz25_0
          try clear hcz25_1
          try clear hcz32_0
          try clear hcz32_1
          try clear hcz33_0
          try clear hcz33_1
          try clear hcz34_0
          try clear hcz34_1
          try clear hcz42_0
          try clear hcz42_1
          try clear hcz43_0
          try clear hcz43_1
          try clear hcz52_0
          try clear hcz52_1
          try clear hcz60_0
          try clear hcz60_1
          try clear hcz66_0
          try clear hcz66_1
          try clear hcz75_0
          try clear hcz75_1
          try clear hcz81_0
          try clear hcz81_1
          try clear hcz86_0
          try clear hcz86_1
          try clear hcz90_0
          try clear hcz90_1
          try clear hcz97_0
          try clear hcz97_1
          try clear hfz103_0
          try clear hfz103_1
          try clear hfz108_0
          try clear hfz108_1
          try clear hfz112_0
          try clear hfz112_1
          try clear hfz119_0
          try clear hfz119_1
          try clear hfz125_0
          try clear hfz125_1
          try clear hfz136_0
          try clear hfz136_1
          try clear hfz141_0
          try clear hfz141_1
          try clear hfz150_0
          try clear hfz150_1
          try clear hfz154_0
          try clear hfz154_1
          try clear hfz155_0
          try clear hfz155_1
          try clear hfz165_0
          try clear hfz165_1
          try clear hfz168_0
          try clear hfz168_1
          try clear hfz179_0
          try clear hfz179_1
          try clear hfz192_0
          try clear hfz192_1
          try clear hfz200_0
          try clear hfz200_1
          try clear hfz20_0
          try clear hfz20_1
          try clear hfz23_0
          try clear hfz23_1
          try clear hfz25_0
          try clear hfz25_1
          try clear hfz32_0
          try clear hfz32_1
          try clear hfz33_0
          try clear hfz33_1
          try clear hfz34_0
          try clear hfz34_1
          try clear hfz42_0
          try clear hfz42_1
          try clear hfz43_0
          try clear hfz43_1
          try clear hfz52_0
          try clear hfz52_1
          try clear hfz60_0
          try clear hfz60_1
          try clear hfz66_0
          try clear hfz66_1
          try clear hfz75_0
          try clear hfz75_1
          try clear hfz81_0
          try clear hfz81_1
          try clear hfz86_0
          try clear hfz86_1
          try clear hfz90_0
          try clear hfz90_1
          try clear hfz97_0
          try clear hfz97_1
          try clear p2
          obtain ⟨kq, x100_129, rfl, HA, HJ129, BK233, BK234, BK235, BK239, BK243, BK247, BK251, BK255, BK259, HB⟩ := hcut
          cases kq with
          | zero => exact absurd HA.out (by simp [shapesearchlaw01_RatioSums.j1])
          | succ kj129 =>
            have H := HA.out
            clear HA
            simp only [shapesearchlaw01_RatioSums.j1] at H
            by_cases c201 : x100_129 = true
            · subst c201
              have H1 : (none) = some r := by rw [if_pos rfl] at H; exact H
              clear H
              have H := H1
              clear H1
              exact absurd H (by simp)
            · replace c201 := Bool.eq_false_iff.mpr c201
              subst c201
              have H1 : ((ratio_Add.f kj129 t224 t225 t230 t231).bind fun bt260 => (if bt260.2.2 = 0 then (if t254 = 0 then ((ratio_Cmp.f kj129 bt260.1 bt260.2.1 t252 t253).bind fun t264 => ((ratio_Cmp.f kj129 t224 t225 t227 t228).bind fun t265 => (shapesearchlaw01_RatioSums.j2 kj129 t238 (t264 != t265) t224 t225 t236 t237))) else (shapesearchlaw01_RatioSums.j2 kj129 t238 false t224 t225 t236 t237)) else (shapesearchlaw01_RatioSums.j2 kj129 t238 false t224 t225 t236 t237))) = some r := by rw [if_neg (show ¬ (false = true) by decide)] at H; exact H
              clear H
              have H := H1
              clear H1
              replace H := Option.bind_eq_some_iff.mp H
              obtain ⟨⟨t260, t261, t262⟩, A2020, H⟩ := H
              replace H : (if t262 = 0 then (if t254 = 0 then ((ratio_Cmp.f kj129 t260 t261 t252 t253).bind fun t264 => ((ratio_Cmp.f kj129 t224 t225 t227 t228).bind fun t265 => (shapesearchlaw01_RatioSums.j2 kj129 t238 (t264 != t265) t224 t225 t236 t237))) else (shapesearchlaw01_RatioSums.j2 kj129 t238 false t224 t225 t236 t237)) else (shapesearchlaw01_RatioSums.j2 kj129 t238 false t224 t225 t236 t237)) = some r := H
              have A202 := Aside0.mk A2020
              clear A2020
              have HC203 := Aside0.mk H
              clear H
              have hnb204 := NB233_234.out
              have hnc204 := NB234_233.out
              have hnb205 := NB233_235.out
              have hnc205 := NB235_233.out
              have hnb206 := NB233_239.out
              have hnc206 := NB239_233.out
              have hnb207 := NB233_243.out
              have hnc207 := NB243_233.out
              have hnb208 := NB233_247.out
              have hnc208 := NB247_233.out
              have hnb209 := NB233_251.out
              have hnc209 := NB251_233.out
              have hnb210 := NB233_255.out
              have hnc210 := NB255_233.out
              have hnb211 := NB233_259.out
              have hnc211 := NB259_233.out
              have hcz212_0 : wc.cell? ⟨gb233, 0, none⟩ = some (.int .i64 t224) := (blk_cell BK233.out 0).trans rfl
              have hcz212_1 : wc.cell? ⟨gb233, 1, none⟩ = some (.int .i64 t225) := (blk_cell BK233.out 1).trans rfl
              have hfz212_0 := blk_frozen BK233.out 0
              have hfz212_1 := blk_frozen BK233.out 1
              have hnb213 := NB235_234.out
              have hnc213 := NB234_235.out
              have hnb214 := NB235_239.out
              have hnc214 := NB239_235.out
              have hnb215 := NB235_243.out
              have hnc215 := NB243_235.out
              have hnb216 := NB235_247.out
              have hnc216 := NB247_235.out
              have hnb217 := NB235_251.out
              have hnc217 := NB251_235.out
              have hnb218 := NB235_255.out
              have hnc218 := NB255_235.out
              have hnb219 := NB235_259.out
              have hnc219 := NB259_235.out
              have hcz220_0 : wc.cell? ⟨gb235, 0, none⟩ = some (.int .i64 t230) := (blk_cell BK235.out 0).trans rfl
              have hcz220_1 : wc.cell? ⟨gb235, 1, none⟩ = some (.int .i64 t231) := (blk_cell BK235.out 1).trans rfl
              have hfz220_0 := blk_frozen BK235.out 0
              have hfz220_1 := blk_frozen BK235.out 1
              go_upto_region 14 with (first | ((with_reducible refine gate_callee (f := 18) rfl ?_); refine goesL_ (some 104) rfl rfl Tryd.func18 (by kernel_rfl) rfl #[.agg #[.int .i64 t224, .int .i64 t225], .agg #[.int .i64 t230, .int .i64 t231]] rfl (by (try simp only [List.map_toArray, List.map_cons, List.map_nil]); first | done | rfl | (simp only [List.length_drop, List.length_take]; rfl)) ?_; (with_reducible refine (ratio_Add.calls kj129 t224 t225 t230 t231 t260 t261 t262 _ A202.out).mono ?_); rintro e w221 ⟨rfl, hb⟩; refine ⟨_, rfl, ?_⟩; have n0_ := Aside0.mk (blk_below (g := gb233) (o := .cells #[.int .i64 t224, .int .i64 t225] 24 (0, 0)) (by (with_reducible repeat (first | refine blk_drewN ?_ _ | refine blk_drew ?_ | refine blk_alloc ?_ _)); exact BK233.out) hb); have n1_ := Aside0.mk (blk_below (g := gb234) (o := .cells #[.int .i64 t227, .int .i64 t228] 24 (0, 0)) (by (with_reducible repeat (first | refine blk_drewN ?_ _ | refine blk_drew ?_ | refine blk_alloc ?_ _)); exact BK234.out) hb); have n2_ := Aside0.mk (blk_below (g := gb235) (o := .cells #[.int .i64 t230, .int .i64 t231] 24 (0, 0)) (by (with_reducible repeat (first | refine blk_drewN ?_ _ | refine blk_drew ?_ | refine blk_alloc ?_ _)); exact BK235.out) hb); have n3_ := Aside0.mk (blk_below (g := gb239) (o := .cells #[.int .i64 t236, .int .i64 t237] 24 (0, 0)) (by (with_reducible repeat (first | refine blk_drewN ?_ _ | refine blk_drew ?_ | refine blk_alloc ?_ _)); exact BK239.out) hb); have n4_ := Aside0.mk (blk_below (g := gb243) (o := .cells #[.int .i64 t240, .int .i64 t241] 24 (0, 0)) (by (with_reducible repeat (first | refine blk_drewN ?_ _ | refine blk_drew ?_ | refine blk_alloc ?_ _)); exact BK243.out) hb); have n5_ := Aside0.mk (blk_below (g := gb247) (o := .cells #[.int .i64 t244, .int .i64 t245] 24 (0, 0)) (by (with_reducible repeat (first | refine blk_drewN ?_ _ | refine blk_drew ?_ | refine blk_alloc ?_ _)); exact BK247.out) hb); have n6_ := Aside0.mk (blk_below (g := gb251) (o := .cells #[.int .i64 t248, .int .i64 t249] 24 (0, 0)) (by (with_reducible repeat (first | refine blk_drewN ?_ _ | refine blk_drew ?_ | refine blk_alloc ?_ _)); exact BK251.out) hb); have n7_ := Aside0.mk (blk_below (g := gb255) (o := .cells #[.int .i64 t252, .int .i64 t253] 24 (0, 0)) (by (with_reducible repeat (first | refine blk_drewN ?_ _ | refine blk_drew ?_ | refine blk_alloc ?_ _)); exact BK255.out) hb); have n8_ := Aside0.mk (blk_below (g := gb259) (o := .cells #[.int .i64 t256, .int .i64 t257] 24 (0, 0)) (by (with_reducible repeat (first | refine blk_drewN ?_ _ | refine blk_drew ?_ | refine blk_alloc ?_ _)); exact BK259.out) hb); have n9_ := Aside0.mk (below_step (by repeat (first | (with_reducible first | exact HB.out | apply below_alloc | apply pw_below_drewN | apply below_drew1 | refine below_set ?_ GE233.out | refine below_set ?_ GE234.out | refine below_set ?_ GE235.out | refine below_set ?_ GE239.out | refine below_set ?_ GE243.out | refine below_set ?_ GE247.out | refine below_set ?_ GE251.out | refine below_set ?_ GE255.out | refine below_set ?_ GE259.out) | exact HB.out)) hb); clear BK233; clear BK234; clear BK235; clear BK239; clear BK243; clear BK247; clear BK251; clear BK255; clear BK259; clear HB; have BK233 := n0_; have BK234 := n1_; have BK235 := n2_; have BK239 := n3_; have BK243 := n4_; have BK247 := n5_; have BK251 := n6_; have BK255 := n7_; have BK259 := n8_; have HB := n9_; clear n0_ n1_ n2_ n3_ n4_ n5_ n6_ n7_ n8_ n9_; (try clear hb); (try clear hb2); (try clear hk); (try clear hi)) | ((with_reducible refine gate_dst (N := 19) rfl ?_); refine box_event ?hg (N := 19) ?hd (cs := #[.int .i64 0, .int .i64 0]) (t := 24) ?hr ?_; (case hd => rfl); (case hg => rfl); (case hr => first | (go_simp; done) | (go_simp; rfl)); intro gb263 hg w222 hbox hb; have n0_ := Aside0.mk (blk_below (g := gb233) (o := .cells #[.int .i64 t224, .int .i64 t225] 24 (0, 0)) (by (with_reducible repeat (first | refine blk_drewN ?_ _ | refine blk_drew ?_ | refine blk_alloc ?_ _)); exact BK233.out) hb); have n1_ := Aside0.mk (blk_below (g := gb234) (o := .cells #[.int .i64 t227, .int .i64 t228] 24 (0, 0)) (by (with_reducible repeat (first | refine blk_drewN ?_ _ | refine blk_drew ?_ | refine blk_alloc ?_ _)); exact BK234.out) hb); have n2_ := Aside0.mk (blk_below (g := gb235) (o := .cells #[.int .i64 t230, .int .i64 t231] 24 (0, 0)) (by (with_reducible repeat (first | refine blk_drewN ?_ _ | refine blk_drew ?_ | refine blk_alloc ?_ _)); exact BK235.out) hb); have n3_ := Aside0.mk (blk_below (g := gb239) (o := .cells #[.int .i64 t236, .int .i64 t237] 24 (0, 0)) (by (with_reducible repeat (first | refine blk_drewN ?_ _ | refine blk_drew ?_ | refine blk_alloc ?_ _)); exact BK239.out) hb); have n4_ := Aside0.mk (blk_below (g := gb243) (o := .cells #[.int .i64 t240, .int .i64 t241] 24 (0, 0)) (by (with_reducible repeat (first | refine blk_drewN ?_ _ | refine blk_drew ?_ | refine blk_alloc ?_ _)); exact BK243.out) hb); have n5_ := Aside0.mk (blk_below (g := gb247) (o := .cells #[.int .i64 t244, .int .i64 t245] 24 (0, 0)) (by (with_reducible repeat (first | refine blk_drewN ?_ _ | refine blk_drew ?_ | refine blk_alloc ?_ _)); exact BK247.out) hb); have n6_ := Aside0.mk (blk_below (g := gb251) (o := .cells #[.int .i64 t248, .int .i64 t249] 24 (0, 0)) (by (with_reducible repeat (first | refine blk_drewN ?_ _ | refine blk_drew ?_ | refine blk_alloc ?_ _)); exact BK251.out) hb); have n7_ := Aside0.mk (blk_below (g := gb255) (o := .cells #[.int .i64 t252, .int .i64 t253] 24 (0, 0)) (by (with_reducible repeat (first | refine blk_drewN ?_ _ | refine blk_drew ?_ | refine blk_alloc ?_ _)); exact BK255.out) hb); have n8_ := Aside0.mk (blk_below (g := gb259) (o := .cells #[.int .i64 t256, .int .i64 t257] 24 (0, 0)) (by (with_reducible repeat (first | refine blk_drewN ?_ _ | refine blk_drew ?_ | refine blk_alloc ?_ _)); exact BK259.out) hb); have n9_ := Aside0.mk (below_step (by repeat (first | (with_reducible first | exact HB.out | apply below_alloc | apply pw_below_drewN | apply below_drew1 | refine below_set ?_ GE233.out | refine below_set ?_ GE234.out | refine below_set ?_ GE235.out | refine below_set ?_ GE239.out | refine below_set ?_ GE243.out | refine below_set ?_ GE247.out | refine below_set ?_ GE251.out | refine below_set ?_ GE255.out | refine below_set ?_ GE259.out) | exact HB.out)) hb); have n10_ := Aside0.mk (hbox); have n11_ := Aside0.mk ((by rw [hg]; exact (below_size (by repeat (first | (with_reducible first | exact HB.out | apply below_alloc | apply pw_below_drewN | apply below_drew1 | refine below_set ?_ GE233.out | refine below_set ?_ GE234.out | refine below_set ?_ GE235.out | refine below_set ?_ GE239.out | refine below_set ?_ GE243.out | refine below_set ?_ GE247.out | refine below_set ?_ GE251.out | refine below_set ?_ GE255.out | refine below_set ?_ GE259.out) | exact HB.out))) : w.heap.size ≤ gb263)); have n12_ := Aside0.mk ((by rw [hg]; exact (below_size (by repeat (first | (with_reducible first | exact HB.out | apply below_alloc | apply pw_below_drewN | apply below_drew1 | refine below_set ?_ GE233.out | refine below_set ?_ GE234.out | refine below_set ?_ GE235.out | refine below_set ?_ GE239.out | refine below_set ?_ GE243.out | refine below_set ?_ GE247.out | refine below_set ?_ GE251.out | refine below_set ?_ GE255.out | refine below_set ?_ GE259.out) | exact HB.out))) : w.heap.size ≤ gb263)); have n13_ := Aside0.mk ((by rw [hg]; exact Nat.ne_of_lt (blk_lt (g := gb233) (o := .cells #[.int .i64 t224, .int .i64 t225] 24 (0, 0)) (by (with_reducible repeat (first | refine blk_drewN ?_ _ | refine blk_drew ?_ | refine blk_alloc ?_ _)); exact BK233.out)) : gb233 ≠ gb263)); have n14_ := Aside0.mk ((by rw [hg]; exact Nat.ne_of_gt (blk_lt (g := gb233) (o := .cells #[.int .i64 t224, .int .i64 t225] 24 (0, 0)) (by (with_reducible repeat (first | refine blk_drewN ?_ _ | refine blk_drew ?_ | refine blk_alloc ?_ _)); exact BK233.out)) : gb263 ≠ gb233)); have n15_ := Aside0.mk ((by rw [hg]; exact Nat.ne_of_lt (blk_lt (g := gb234) (o := .cells #[.int .i64 t227, .int .i64 t228] 24 (0, 0)) (by (with_reducible repeat (first | refine blk_drewN ?_ _ | refine blk_drew ?_ | refine blk_alloc ?_ _)); exact BK234.out)) : gb234 ≠ gb263)); have n16_ := Aside0.mk ((by rw [hg]; exact Nat.ne_of_gt (blk_lt (g := gb234) (o := .cells #[.int .i64 t227, .int .i64 t228] 24 (0, 0)) (by (with_reducible repeat (first | refine blk_drewN ?_ _ | refine blk_drew ?_ | refine blk_alloc ?_ _)); exact BK234.out)) : gb263 ≠ gb234)); have n17_ := Aside0.mk ((by rw [hg]; exact Nat.ne_of_lt (blk_lt (g := gb235) (o := .cells #[.int .i64 t230, .int .i64 t231] 24 (0, 0)) (by (with_reducible repeat (first | refine blk_drewN ?_ _ | refine blk_drew ?_ | refine blk_alloc ?_ _)); exact BK235.out)) : gb235 ≠ gb263)); have n18_ := Aside0.mk ((by rw [hg]; exact Nat.ne_of_gt (blk_lt (g := gb235) (o := .cells #[.int .i64 t230, .int .i64 t231] 24 (0, 0)) (by (with_reducible repeat (first | refine blk_drewN ?_ _ | refine blk_drew ?_ | refine blk_alloc ?_ _)); exact BK235.out)) : gb263 ≠ gb235)); have n19_ := Aside0.mk ((by rw [hg]; exact Nat.ne_of_lt (blk_lt (g := gb239) (o := .cells #[.int .i64 t236, .int .i64 t237] 24 (0, 0)) (by (with_reducible repeat (first | refine blk_drewN ?_ _ | refine blk_drew ?_ | refine blk_alloc ?_ _)); exact BK239.out)) : gb239 ≠ gb263)); have n20_ := Aside0.mk ((by rw [hg]; exact Nat.ne_of_gt (blk_lt (g := gb239) (o := .cells #[.int .i64 t236, .int .i64 t237] 24 (0, 0)) (by (with_reducible repeat (first | refine blk_drewN ?_ _ | refine blk_drew ?_ | refine blk_alloc ?_ _)); exact BK239.out)) : gb263 ≠ gb239)); have n21_ := Aside0.mk ((by rw [hg]; exact Nat.ne_of_lt (blk_lt (g := gb243) (o := .cells #[.int .i64 t240, .int .i64 t241] 24 (0, 0)) (by (with_reducible repeat (first | refine blk_drewN ?_ _ | refine blk_drew ?_ | refine blk_alloc ?_ _)); exact BK243.out)) : gb243 ≠ gb263)); have n22_ := Aside0.mk ((by rw [hg]; exact Nat.ne_of_gt (blk_lt (g := gb243) (o := .cells #[.int .i64 t240, .int .i64 t241] 24 (0, 0)) (by (with_reducible repeat (first | refine blk_drewN ?_ _ | refine blk_drew ?_ | refine blk_alloc ?_ _)); exact BK243.out)) : gb263 ≠ gb243)); have n23_ := Aside0.mk ((by rw [hg]; exact Nat.ne_of_lt (blk_lt (g := gb247) (o := .cells #[.int .i64 t244, .int .i64 t245] 24 (0, 0)) (by (with_reducible repeat (first | refine blk_drewN ?_ _ | refine blk_drew ?_ | refine blk_alloc ?_ _)); exact BK247.out)) : gb247 ≠ gb263)); have n24_ := Aside0.mk ((by rw [hg]; exact Nat.ne_of_gt (blk_lt (g := gb247) (o := .cells #[.int .i64 t244, .int .i64 t245] 24 (0, 0)) (by (with_reducible repeat (first | refine blk_drewN ?_ _ | refine blk_drew ?_ | refine blk_alloc ?_ _)); exact BK247.out)) : gb263 ≠ gb247)); have n25_ := Aside0.mk ((by rw [hg]; exact Nat.ne_of_lt (blk_lt (g := gb251) (o := .cells #[.int .i64 t248, .int .i64 t249] 24 (0, 0)) (by (with_reducible repeat (first | refine blk_drewN ?_ _ | refine blk_drew ?_ | refine blk_alloc ?_ _)); exact BK251.out)) : gb251 ≠ gb263)); have n26_ := Aside0.mk ((by rw [hg]; exact Nat.ne_of_gt (blk_lt (g := gb251) (o := .cells #[.int .i64 t248, .int .i64 t249] 24 (0, 0)) (by (with_reducible repeat (first | refine blk_drewN ?_ _ | refine blk_drew ?_ | refine blk_alloc ?_ _)); exact BK251.out)) : gb263 ≠ gb251)); have n27_ := Aside0.mk ((by rw [hg]; exact Nat.ne_of_lt (blk_lt (g := gb255) (o := .cells #[.int .i64 t252, .int .i64 t253] 24 (0, 0)) (by (with_reducible repeat (first | refine blk_drewN ?_ _ | refine blk_drew ?_ | refine blk_alloc ?_ _)); exact BK255.out)) : gb255 ≠ gb263)); have n28_ := Aside0.mk ((by rw [hg]; exact Nat.ne_of_gt (blk_lt (g := gb255) (o := .cells #[.int .i64 t252, .int .i64 t253] 24 (0, 0)) (by (with_reducible repeat (first | refine blk_drewN ?_ _ | refine blk_drew ?_ | refine blk_alloc ?_ _)); exact BK255.out)) : gb263 ≠ gb255)); have n29_ := Aside0.mk ((by rw [hg]; exact Nat.ne_of_lt (blk_lt (g := gb259) (o := .cells #[.int .i64 t256, .int .i64 t257] 24 (0, 0)) (by (with_reducible repeat (first | refine blk_drewN ?_ _ | refine blk_drew ?_ | refine blk_alloc ?_ _)); exact BK259.out)) : gb259 ≠ gb263)); have n30_ := Aside0.mk ((by rw [hg]; exact Nat.ne_of_gt (blk_lt (g := gb259) (o := .cells #[.int .i64 t256, .int .i64 t257] 24 (0, 0)) (by (with_reducible repeat (first | refine blk_drewN ?_ _ | refine blk_drew ?_ | refine blk_alloc ?_ _)); exact BK259.out)) : gb263 ≠ gb259)); clear BK233; clear BK234; clear BK235; clear BK239; clear BK243; clear BK247; clear BK251; clear BK255; clear BK259; clear HB; have BK233 := n0_; have BK234 := n1_; have BK235 := n2_; have BK239 := n3_; have BK243 := n4_; have BK247 := n5_; have BK251 := n6_; have BK255 := n7_; have BK259 := n8_; have HB := n9_; have BK263 := n10_; have GW263 := n11_; have GE263 := n12_; have NB233_263 := n13_; have NB263_233 := n14_; have NB234_263 := n15_; have NB263_234 := n16_; have NB235_263 := n17_; have NB263_235 := n18_; have NB239_263 := n19_; have NB263_239 := n20_; have NB243_263 := n21_; have NB263_243 := n22_; have NB247_263 := n23_; have NB263_247 := n24_; have NB251_263 := n25_; have NB263_251 := n26_; have NB255_263 := n27_; have NB263_255 := n28_; have NB259_263 := n29_; have NB263_259 := n30_; clear n0_ n1_ n2_ n3_ n4_ n5_ n6_ n7_ n8_ n9_ n10_ n11_ n12_ n13_ n14_ n15_ n16_ n17_ n18_ n19_ n20_ n21_ n22_ n23_ n24_ n25_ n26_ n27_ n28_ n29_ n30_; clear hb hbox hg; have hnb223 := NB263_233.out; have hnc223 := NB233_263.out; have hnb224 := NB263_234.out; have hnc224 := NB234_263.out; have hnb225 := NB263_235.out; have hnc225 := NB235_263.out; have hnb226 := NB263_239.out; have hnc226 := NB239_263.out; have hnb227 := NB263_243.out; have hnc227 := NB243_263.out; have hnb228 := NB263_247.out; have hnc228 := NB247_263.out; have hnb229 := NB263_251.out; have hnc229 := NB251_263.out; have hnb230 := NB263_255.out; have hnc230 := NB255_263.out; have hnb231 := NB263_259.out; have hnc231 := NB259_263.out; have hcz232_0 : w222.cell? ⟨gb263, 0, none⟩ = some (.int .i64 0) := (blk_cell BK263.out 0).trans rfl; have hcz232_1 : w222.cell? ⟨gb263, 1, none⟩ = some (.int .i64 0) := (blk_cell BK263.out 1).trans rfl; have hfz232_0 := blk_frozen BK263.out 0; have hfz232_1 := blk_frozen BK263.out 1))
              (try simp only [Act.put, List.setIfInBounds_toArray, List.set_cons_zero, List.set_cons_succ])
              go_cut [121] (fun v121 wc => ∃ (kq : Nat) (x121_202 : Bool), v121 = .bool x121_202 ∧ Aside0 (shapesearchlaw01_RatioSums.j2 kq t238 x121_202 t224 t225 t236 t237 = some r) ∧ Aside0 (kq ≤ kj129) ∧ Aside0 (wc.heap[gb233]? = some (.cells #[.int .i64 t224, .int .i64 t225] 24 (0, 0))) ∧ Aside0 (wc.heap[gb234]? = some (.cells #[.int .i64 t227, .int .i64 t228] 24 (0, 0))) ∧ Aside0 (wc.heap[gb235]? = some (.cells #[.int .i64 t230, .int .i64 t231] 24 (0, 0))) ∧ Aside0 (wc.heap[gb239]? = some (.cells #[.int .i64 t236, .int .i64 t237] 24 (0, 0))) ∧ Aside0 (wc.heap[gb243]? = some (.cells #[.int .i64 t240, .int .i64 t241] 24 (0, 0))) ∧ Aside0 (wc.heap[gb247]? = some (.cells #[.int .i64 t244, .int .i64 t245] 24 (0, 0))) ∧ Aside0 (wc.heap[gb251]? = some (.cells #[.int .i64 t248, .int .i64 t249] 24 (0, 0))) ∧ Aside0 (wc.heap[gb255]? = some (.cells #[.int .i64 t252, .int .i64 t253] 24 (0, 0))) ∧ Aside0 (wc.heap[gb259]? = some (.cells #[.int .i64 t256, .int .i64 t257] 24 (0, 0))) ∧ Aside0 (wc.heap[gb263]? = some (.cells #[.int .i64 t260, .int .i64 t261] 24 (0, 0))) ∧ Aside0 (Below w.heap.size w wc))
              case first =>
                have H := HC203.out
                clear HC203
                by_cases c233 : t262 = 0
                · rw [if_pos c233] at H
                  have c233b0 : (t262 == 0) = true := beq_iff_eq.mpr c233
                  have c233b1 : (t262 != 0) = false := bne_eq_false_iff_eq.mpr c233
                  clear c233
                  (first | rw [c233b0] | (simp only [i64_w, i32_w]; rw [c233b0]) | rw [c233b1] | skip)
                  by_cases c234 : t254 = 0
                  · rw [if_pos c234] at H
                    have c234b0 : (t254 == 0) = true := beq_iff_eq.mpr c234
                    have c234b1 : (t254 != 0) = false := bne_eq_false_iff_eq.mpr c234
                    clear c234
                    replace H := Option.bind_eq_some_iff.mp H
                    obtain ⟨t264, A2350, H⟩ := H
                    replace H : ((ratio_Cmp.f kj129 t224 t225 t227 t228).bind fun t265 => (shapesearchlaw01_RatioSums.j2 kj129 t238 (t264 != t265) t224 t225 t236 t237)) = some r := H
                    have A235 := Aside0.mk A2350
                    clear A2350
                    replace H := Option.bind_eq_some_iff.mp H
                    obtain ⟨t265, A2360, H⟩ := H
                    replace H : (shapesearchlaw01_RatioSums.j2 kj129 t238 (t264 != t265) t224 t225 t236 t237) = some r := H
                    have A236 := Aside0.mk A2360
                    clear A2360
                    have H' := Aside0.mk H
                    clear H
                    try go_wp2
                    have n0_ : Aside0 (((w222.setCell ⟨gb263, 0, none⟩ (.int .i64 t260)).setCell ⟨gb263, 1, none⟩ (.int .i64 t261)).heap[gb233]? = some (.cells #[.int .i64 t224, .int .i64 t225] 24 (0, 0))) := ⟨by (with_reducible repeat (first | refine blk_drewN ?_ _ | refine blk_drew ?_ | refine blk_alloc ?_ _)); refine blk_far ?_ NB233_263.out _; (with_reducible repeat (first | refine blk_drewN ?_ _ | refine blk_drew ?_ | refine blk_alloc ?_ _)); refine blk_far ?_ NB233_263.out _; (with_reducible repeat (first | refine blk_drewN ?_ _ | refine blk_drew ?_ | refine blk_alloc ?_ _)); exact BK233.out⟩
                    have n1_ : Aside0 (((w222.setCell ⟨gb263, 0, none⟩ (.int .i64 t260)).setCell ⟨gb263, 1, none⟩ (.int .i64 t261)).heap[gb234]? = some (.cells #[.int .i64 t227, .int .i64 t228] 24 (0, 0))) := ⟨by (with_reducible repeat (first | refine blk_drewN ?_ _ | refine blk_drew ?_ | refine blk_alloc ?_ _)); refine blk_far ?_ NB234_263.out _; (with_reducible repeat (first | refine blk_drewN ?_ _ | refine blk_drew ?_ | refine blk_alloc ?_ _)); refine blk_far ?_ NB234_263.out _; (with_reducible repeat (first | refine blk_drewN ?_ _ | refine blk_drew ?_ | refine blk_alloc ?_ _)); exact BK234.out⟩
                    have n2_ : Aside0 (((w222.setCell ⟨gb263, 0, none⟩ (.int .i64 t260)).setCell ⟨gb263, 1, none⟩ (.int .i64 t261)).heap[gb235]? = some (.cells #[.int .i64 t230, .int .i64 t231] 24 (0, 0))) := ⟨by (with_reducible repeat (first | refine blk_drewN ?_ _ | refine blk_drew ?_ | refine blk_alloc ?_ _)); refine blk_far ?_ NB235_263.out _; (with_reducible repeat (first | refine blk_drewN ?_ _ | refine blk_drew ?_ | refine blk_alloc ?_ _)); refine blk_far ?_ NB235_263.out _; (with_reducible repeat (first | refine blk_drewN ?_ _ | refine blk_drew ?_ | refine blk_alloc ?_ _)); exact BK235.out⟩
                    have n3_ : Aside0 (((w222.setCell ⟨gb263, 0, none⟩ (.int .i64 t260)).setCell ⟨gb263, 1, none⟩ (.int .i64 t261)).heap[gb239]? = some (.cells #[.int .i64 t236, .int .i64 t237] 24 (0, 0))) := ⟨by (with_reducible repeat (first | refine blk_drewN ?_ _ | refine blk_drew ?_ | refine blk_alloc ?_ _)); refine blk_far ?_ NB239_263.out _; (with_reducible repeat (first | refine blk_drewN ?_ _ | refine blk_drew ?_ | refine blk_alloc ?_ _)); refine blk_far ?_ NB239_263.out _; (with_reducible repeat (first | refine blk_drewN ?_ _ | refine blk_drew ?_ | refine blk_alloc ?_ _)); exact BK239.out⟩
                    have n4_ : Aside0 (((w222.setCell ⟨gb263, 0, none⟩ (.int .i64 t260)).setCell ⟨gb263, 1, none⟩ (.int .i64 t261)).heap[gb243]? = some (.cells #[.int .i64 t240, .int .i64 t241] 24 (0, 0))) := ⟨by (with_reducible repeat (first | refine blk_drewN ?_ _ | refine blk_drew ?_ | refine blk_alloc ?_ _)); refine blk_far ?_ NB243_263.out _; (with_reducible repeat (first | refine blk_drewN ?_ _ | refine blk_drew ?_ | refine blk_alloc ?_ _)); refine blk_far ?_ NB243_263.out _; (with_reducible repeat (first | refine blk_drewN ?_ _ | refine blk_drew ?_ | refine blk_alloc ?_ _)); exact BK243.out⟩
                    have n5_ : Aside0 (((w222.setCell ⟨gb263, 0, none⟩ (.int .i64 t260)).setCell ⟨gb263, 1, none⟩ (.int .i64 t261)).heap[gb247]? = some (.cells #[.int .i64 t244, .int .i64 t245] 24 (0, 0))) := ⟨by (with_reducible repeat (first | refine blk_drewN ?_ _ | refine blk_drew ?_ | refine blk_alloc ?_ _)); refine blk_far ?_ NB247_263.out _; (with_reducible repeat (first | refine blk_drewN ?_ _ | refine blk_drew ?_ | refine blk_alloc ?_ _)); refine blk_far ?_ NB247_263.out _; (with_reducible repeat (first | refine blk_drewN ?_ _ | refine blk_drew ?_ | refine blk_alloc ?_ _)); exact BK247.out⟩
                    have n6_ : Aside0 (((w222.setCell ⟨gb263, 0, none⟩ (.int .i64 t260)).setCell ⟨gb263, 1, none⟩ (.int .i64 t261)).heap[gb251]? = some (.cells #[.int .i64 t248, .int .i64 t249] 24 (0, 0))) := ⟨by (with_reducible repeat (first | refine blk_drewN ?_ _ | refine blk_drew ?_ | refine blk_alloc ?_ _)); refine blk_far ?_ NB251_263.out _; (with_reducible repeat (first | refine blk_drewN ?_ _ | refine blk_drew ?_ | refine blk_alloc ?_ _)); refine blk_far ?_ NB251_263.out _; (with_reducible repeat (first | refine blk_drewN ?_ _ | refine blk_drew ?_ | refine blk_alloc ?_ _)); exact BK251.out⟩
                    have n7_ : Aside0 (((w222.setCell ⟨gb263, 0, none⟩ (.int .i64 t260)).setCell ⟨gb263, 1, none⟩ (.int .i64 t261)).heap[gb255]? = some (.cells #[.int .i64 t252, .int .i64 t253] 24 (0, 0))) := ⟨by (with_reducible repeat (first | refine blk_drewN ?_ _ | refine blk_drew ?_ | refine blk_alloc ?_ _)); refine blk_far ?_ NB255_263.out _; (with_reducible repeat (first | refine blk_drewN ?_ _ | refine blk_drew ?_ | refine blk_alloc ?_ _)); refine blk_far ?_ NB255_263.out _; (with_reducible repeat (first | refine blk_drewN ?_ _ | refine blk_drew ?_ | refine blk_alloc ?_ _)); exact BK255.out⟩
                    have n8_ : Aside0 (((w222.setCell ⟨gb263, 0, none⟩ (.int .i64 t260)).setCell ⟨gb263, 1, none⟩ (.int .i64 t261)).heap[gb259]? = some (.cells #[.int .i64 t256, .int .i64 t257] 24 (0, 0))) := ⟨by (with_reducible repeat (first | refine blk_drewN ?_ _ | refine blk_drew ?_ | refine blk_alloc ?_ _)); refine blk_far ?_ NB259_263.out _; (with_reducible repeat (first | refine blk_drewN ?_ _ | refine blk_drew ?_ | refine blk_alloc ?_ _)); refine blk_far ?_ NB259_263.out _; (with_reducible repeat (first | refine blk_drewN ?_ _ | refine blk_drew ?_ | refine blk_alloc ?_ _)); exact BK259.out⟩
                    have n9_ : Aside0 (((w222.setCell ⟨gb263, 0, none⟩ (.int .i64 t260)).setCell ⟨gb263, 1, none⟩ (.int .i64 t261)).heap[gb263]? = some (.cells #[.int .i64 t260, .int .i64 t261] 24 (0, 0))) := ⟨by (with_reducible repeat (first | refine blk_drewN ?_ _ | refine blk_drew ?_ | refine blk_alloc ?_ _)); refine blk_put (cs := #[.int .i64 t260, .int .i64 0]) ?_ 1 _ rfl; (with_reducible repeat (first | refine blk_drewN ?_ _ | refine blk_drew ?_ | refine blk_alloc ?_ _)); refine blk_put (cs := #[.int .i64 0, .int .i64 0]) ?_ 0 _ rfl; (with_reducible repeat (first | refine blk_drewN ?_ _ | refine blk_drew ?_ | refine blk_alloc ?_ _)); exact BK263.out⟩
                    have n10_ : Aside0 (Below w.heap.size w ((w222.setCell ⟨gb263, 0, none⟩ (.int .i64 t260)).setCell ⟨gb263, 1, none⟩ (.int .i64 t261))) := ⟨by repeat (first | (with_reducible first | exact HB.out | apply below_alloc | apply pw_below_drewN | apply below_drew1 | refine below_set ?_ GE233.out | refine below_set ?_ GE234.out | refine below_set ?_ GE235.out | refine below_set ?_ GE239.out | refine below_set ?_ GE243.out | refine below_set ?_ GE247.out | refine below_set ?_ GE251.out | refine below_set ?_ GE255.out | refine below_set ?_ GE259.out | refine below_set ?_ GE263.out) | exact HB.out)⟩
                    (try clear BK233)
                    (try clear BK234)
                    (try clear BK235)
                    (try clear BK239)
                    (try clear BK243)
                    (try clear BK247)
                    (try clear BK251)
                    (try clear BK255)
                    (try clear BK259)
                    (try clear BK263)
                    (try clear HB)
                    generalize ((w222.setCell ⟨gb263, 0, none⟩ (.int .i64 t260)).setCell ⟨gb263, 1, none⟩ (.int .i64 t261)) = w237 at n0_ n1_ n2_ n3_ n4_ n5_ n6_ n7_ n8_ n9_ n10_ ⊢
                    have BK233 := n0_
                    have BK234 := n1_
                    have BK235 := n2_
                    have BK239 := n3_
                    have BK243 := n4_
                    have BK247 := n5_
                    have BK251 := n6_
                    have BK255 := n7_
                    have BK259 := n8_
                    have BK263 := n9_
                    have HB := n10_
                    clear n0_ n1_ n2_ n3_ n4_ n5_ n6_ n7_ n8_ n9_ n10_
                    have n0_ := Aside0.mk (blk_drew BK233.out)
                    have n1_ := Aside0.mk (blk_drew BK234.out)
                    have n2_ := Aside0.mk (blk_drew BK235.out)
                    have n3_ := Aside0.mk (blk_drew BK239.out)
                    have n4_ := Aside0.mk (blk_drew BK243.out)
                    have n5_ := Aside0.mk (blk_drew BK247.out)
                    have n6_ := Aside0.mk (blk_drew BK251.out)
                    have n7_ := Aside0.mk (blk_drew BK255.out)
                    have n8_ := Aside0.mk (blk_drew BK259.out)
                    have n9_ := Aside0.mk (blk_drew BK263.out)
                    have n10_ := Aside0.mk (below_drew1 HB.out)
                    clear BK233
                    clear BK234
                    clear BK235
                    clear BK239
                    clear BK243
                    clear BK247
                    clear BK251
                    clear BK255
                    clear BK259
                    clear BK263
                    clear HB
                    have BK233 := n0_
                    have BK234 := n1_
                    have BK235 := n2_
                    have BK239 := n3_
                    have BK243 := n4_
                    have BK247 := n5_
                    have BK251 := n6_
                    have BK255 := n7_
                    have BK259 := n8_
                    have BK263 := n9_
                    have HB := n10_
                    clear n0_ n1_ n2_ n3_ n4_ n5_ n6_ n7_ n8_ n9_ n10_
                    refine start_ (n := 15) (S := fun w' => w'.cell? ⟨gb263, 0, none⟩ = some (.int .i64 t260) ∧ w'.cell? ⟨gb263, 1, none⟩ = some (.int .i64 t261) ∧ w'.cell? ⟨gb255, 0, none⟩ = some (.int .i64 t252) ∧ w'.cell? ⟨gb255, 1, none⟩ = some (.int .i64 t253) ∧ w'.cell? ⟨gb233, 0, none⟩ = some (.int .i64 t224) ∧ w'.cell? ⟨gb233, 1, none⟩ = some (.int .i64 t225) ∧ w'.cell? ⟨gb234, 0, none⟩ = some (.int .i64 t227) ∧ w'.cell? ⟨gb234, 1, none⟩ = some (.int .i64 t228)) (ds := []) #[false, false, false, false, false, false, false, false, false, false, false, false, false, false, false] (by kernel_rfl) rfl rfl ⟨(blk_cell BK263.out 0).trans rfl, (blk_cell BK263.out 1).trans rfl, (blk_cell BK255.out 0).trans rfl, (blk_cell BK255.out 1).trans rfl, (blk_cell BK233.out 0).trans rfl, (blk_cell BK233.out 1).trans rfl, (blk_cell BK234.out 0).trans rfl, (blk_cell BK234.out 1).trans rfl⟩ (fun hHeld => ?_); refine with_tabW shapesearchlaw01_RatioSums.tab14 shapesearchlaw01_RatioSums.bits14 (fun HT_ HW_ => ?_)
                    generalize w237.drew = w238 at BK233 BK234 BK235 BK239 BK243 BK247 BK251 BK255 BK259 BK263 HB hHeld ⊢
                    refine pure_ (i := 0) (N := some 107) (v := ?_) (a' := ?_) #[true, false, false, false, false, false, false, false, false, false, false, false, false, false, false] rfl rfl (any_of HT_.out (by kernel_rfl)) (fun _ _ _ h => h) (Or.inl ⟨by rfl, ?_⟩) ?_ ?_
                    rotate_left
                    · intro w'
                      go_simp
                      with_reducible rfl
                    rotate_left
                    · simp only [Act.put, List.setIfInBounds_toArray, List.set_cons_zero, List.set_cons_succ, i64_w, i32_w]
                      rfl
                    refine pure_ (i := 1) (N := some 108) (v := ?_) (a' := ?_) #[true, true, false, false, false, false, false, false, false, false, false, false, false, false, false] rfl rfl (any_of HT_.out (by kernel_rfl)) (fun _ _ _ h => h) (Or.inl ⟨by rfl, ?_⟩) ?_ ?_
                    rotate_left
                    · intro w'
                      go_simp
                      with_reducible rfl
                    rotate_left
                    · simp only [Act.put, List.setIfInBounds_toArray, List.set_cons_zero, List.set_cons_succ, i64_w, i32_w]
                      rfl
                    refine pure_ (i := 2) (N := some 109) (v := ?_) (a' := ?_) #[true, true, true, false, false, false, false, false, false, false, false, false, false, false, false] rfl rfl (any_of HT_.out (by kernel_rfl)) (fun _ _ _ h => h) (Or.inl ⟨by rfl, ?_⟩) ?_ ?_
                    rotate_left
                    · intro w'
                      go_simp
                      with_reducible rfl
                    rotate_left
                    · simp only [Act.put, List.setIfInBounds_toArray, List.set_cons_zero, List.set_cons_succ, i64_w, i32_w]
                      rfl
                    refine pure_ (i := 3) (N := some 110) (v := ?_) (a' := ?_) #[true, true, true, true, false, false, false, false, false, false, false, false, false, false, false] rfl rfl (any_of HT_.out (by kernel_rfl)) (fun _ _ _ h => h) (Or.inl ⟨by rfl, ?_⟩) ?_ ?_
                    rotate_left
                    · intro w'
                      go_simp
                      with_reducible rfl
                    rotate_left
                    · simp only [Act.put, List.setIfInBounds_toArray, List.set_cons_zero, List.set_cons_succ, i64_w, i32_w]
                      rfl
                    refine pure_ (i := 4) (N := some 111) (v := ?_) (a' := ?_) #[true, true, true, true, true, false, false, false, false, false, false, false, false, false, false] rfl rfl (any_of HT_.out (by kernel_rfl)) (fun _ _ _ h => h) (Or.inl ⟨by rfl, ?_⟩) ?_ ?_
                    rotate_left
                    · intro w'
                      go_simp
                      with_reducible rfl
                    rotate_left
                    · simp only [Act.put, List.setIfInBounds_toArray, List.set_cons_zero, List.set_cons_succ, i64_w, i32_w]
                      rfl
                    refine pure_ (i := 5) (N := some 112) (v := ?_) (a' := ?_) #[true, true, true, true, true, true, false, false, false, false, false, false, false, false, false] rfl rfl (any_of HT_.out (by kernel_rfl)) (fun _ _ _ h => h) (Or.inl ⟨by rfl, ?_⟩) ?_ ?_
                    rotate_left
                    · intro w'
                      go_simp
                      with_reducible rfl
                    rotate_left
                    · simp only [Act.put, List.setIfInBounds_toArray, List.set_cons_zero, List.set_cons_succ, i64_w, i32_w]
                      rfl
                    refine pure_ (i := 6) (N := some 113) (v := ?_) (a' := ?_) #[true, true, true, true, true, true, true, false, false, false, false, false, false, false, false] rfl rfl (any_of HT_.out (by kernel_rfl)) (fun _ _ _ h => h) (Or.inl ⟨by rfl, ?_⟩) ?_ ?_
                    rotate_left
                    · intro w'
                      go_simp
                      with_reducible rfl
                    rotate_left
                    · simp only [Act.put, List.setIfInBounds_toArray, List.set_cons_zero, List.set_cons_succ, i64_w, i32_w]
                      rfl
                    refine take_ (i := 7) (N := some 114) (v := ?_) (a' := ?_) #[true, true, true, true, true, true, true, true, false, false, false, false, false, false, false] rfl rfl (take_ofW HT_.out HW_.out (by kernel_rfl)) (fun _ _ _ h => h) (Or.inl ⟨by rfl, ?_⟩) hHeld ?_ ?_
                    rotate_left
                    · rintro w' ⟨s0, s1, s2, s3, s4, s5, s6, s7⟩
                      go_simp
                      with_reducible rfl
                    rotate_left
                    · simp only [Act.put, List.setIfInBounds_toArray, List.set_cons_zero, List.set_cons_succ, i64_w, i32_w]
                      rfl
                    refine take_ (i := 8) (N := some 115) (v := ?_) (a' := ?_) #[true, true, true, true, true, true, true, true, true, false, false, false, false, false, false] rfl rfl (take_ofW HT_.out HW_.out (by kernel_rfl)) (fun _ _ _ h => h) (Or.inl ⟨by rfl, ?_⟩) hHeld ?_ ?_
                    rotate_left
                    · rintro w' ⟨s0, s1, s2, s3, s4, s5, s6, s7⟩
                      go_simp
                      with_reducible rfl
                    rotate_left
                    · simp only [Act.put, List.setIfInBounds_toArray, List.set_cons_zero, List.set_cons_succ, i64_w, i32_w]
                      rfl
                    refine take_ (i := 10) (N := some 117) (v := ?_) (a' := ?_) #[true, true, true, true, true, true, true, true, true, false, true, false, false, false, false] rfl rfl (take_ofW HT_.out HW_.out (by kernel_rfl)) (fun _ _ _ h => h) (Or.inl ⟨by rfl, ?_⟩) hHeld ?_ ?_
                    rotate_left
                    · rintro w' ⟨s0, s1, s2, s3, s4, s5, s6, s7⟩
                      go_simp
                      with_reducible rfl
                    rotate_left
                    · simp only [Act.put, List.setIfInBounds_toArray, List.set_cons_zero, List.set_cons_succ, i64_w, i32_w]
                      rfl
                    refine take_ (i := 11) (N := some 118) (v := ?_) (a' := ?_) #[true, true, true, true, true, true, true, true, true, false, true, true, false, false, false] rfl rfl (take_ofW HT_.out HW_.out (by kernel_rfl)) (fun _ _ _ h => h) (Or.inl ⟨by rfl, ?_⟩) hHeld ?_ ?_
                    rotate_left
                    · rintro w' ⟨s0, s1, s2, s3, s4, s5, s6, s7⟩
                      go_simp
                      with_reducible rfl
                    rotate_left
                    · simp only [Act.put, List.setIfInBounds_toArray, List.set_cons_zero, List.set_cons_succ, i64_w, i32_w]
                      rfl
                    refine one_ (i := 9) (N := some 116) #[true, true, true, true, true, true, true, true, true, true, true, true, false, false, false] rfl rfl (one_of HT_.out (by kernel_rfl)) (by decide) (fun K hK => ?_)
                    refine goes_ Tryd.func16 (by kernel_rfl) rfl #[.agg #[.int .i64 t260, .int .i64 t261], .agg #[.int .i64 t252, .int .i64 t253]] (by rfl) rfl rfl (by (try simp only [List.map_toArray, List.map_cons, List.map_nil]); first | done | rfl | (simp only [List.length_drop, List.length_take]; rfl)) ?_
                    with_reducible refine (ratio_Cmp.calls kj129 t260 t261 t252 t253 t264 _ A235.out).mono ?_
                    rintro e w239 ⟨rfl, hb⟩
                    refine ⟨_, rfl, ?_⟩
                    have n0_ := Aside0.mk (blk_below (g := gb233) (o := .cells #[.int .i64 t224, .int .i64 t225] 24 (0, 0)) (by (with_reducible repeat (first | refine blk_drewN ?_ _ | refine blk_drew ?_ | refine blk_alloc ?_ _)); exact BK233.out) hb)
                    have n1_ := Aside0.mk (blk_below (g := gb234) (o := .cells #[.int .i64 t227, .int .i64 t228] 24 (0, 0)) (by (with_reducible repeat (first | refine blk_drewN ?_ _ | refine blk_drew ?_ | refine blk_alloc ?_ _)); exact BK234.out) hb)
                    have n2_ := Aside0.mk (blk_below (g := gb235) (o := .cells #[.int .i64 t230, .int .i64 t231] 24 (0, 0)) (by (with_reducible repeat (first | refine blk_drewN ?_ _ | refine blk_drew ?_ | refine blk_alloc ?_ _)); exact BK235.out) hb)
                    have n3_ := Aside0.mk (blk_below (g := gb239) (o := .cells #[.int .i64 t236, .int .i64 t237] 24 (0, 0)) (by (with_reducible repeat (first | refine blk_drewN ?_ _ | refine blk_drew ?_ | refine blk_alloc ?_ _)); exact BK239.out) hb)
                    have n4_ := Aside0.mk (blk_below (g := gb243) (o := .cells #[.int .i64 t240, .int .i64 t241] 24 (0, 0)) (by (with_reducible repeat (first | refine blk_drewN ?_ _ | refine blk_drew ?_ | refine blk_alloc ?_ _)); exact BK243.out) hb)
                    have n5_ := Aside0.mk (blk_below (g := gb247) (o := .cells #[.int .i64 t244, .int .i64 t245] 24 (0, 0)) (by (with_reducible repeat (first | refine blk_drewN ?_ _ | refine blk_drew ?_ | refine blk_alloc ?_ _)); exact BK247.out) hb)
                    have n6_ := Aside0.mk (blk_below (g := gb251) (o := .cells #[.int .i64 t248, .int .i64 t249] 24 (0, 0)) (by (with_reducible repeat (first | refine blk_drewN ?_ _ | refine blk_drew ?_ | refine blk_alloc ?_ _)); exact BK251.out) hb)
                    have n7_ := Aside0.mk (blk_below (g := gb255) (o := .cells #[.int .i64 t252, .int .i64 t253] 24 (0, 0)) (by (with_reducible repeat (first | refine blk_drewN ?_ _ | refine blk_drew ?_ | refine blk_alloc ?_ _)); exact BK255.out) hb)
                    have n8_ := Aside0.mk (blk_below (g := gb259) (o := .cells #[.int .i64 t256, .int .i64 t257] 24 (0, 0)) (by (with_reducible repeat (first | refine blk_drewN ?_ _ | refine blk_drew ?_ | refine blk_alloc ?_ _)); exact BK259.out) hb)
                    have n9_ := Aside0.mk (blk_below (g := gb263) (o := .cells #[.int .i64 t260, .int .i64 t261] 24 (0, 0)) (by (with_reducible repeat (first | refine blk_drewN ?_ _ | refine blk_drew ?_ | refine blk_alloc ?_ _)); exact BK263.out) hb)
                    have n10_ := Aside0.mk (below_step (by repeat (first | (with_reducible first | exact HB.out | apply below_alloc | apply pw_below_drewN | apply below_drew1 | refine below_set ?_ GE233.out | refine below_set ?_ GE234.out | refine below_set ?_ GE235.out | refine below_set ?_ GE239.out | refine below_set ?_ GE243.out | refine below_set ?_ GE247.out | refine below_set ?_ GE251.out | refine below_set ?_ GE255.out | refine below_set ?_ GE259.out | refine below_set ?_ GE263.out) | exact HB.out)) hb)
                    clear BK233
                    clear BK234
                    clear BK235
                    clear BK239
                    clear BK243
                    clear BK247
                    clear BK251
                    clear BK255
                    clear BK259
                    clear BK263
                    clear HB
                    have BK233 := n0_
                    have BK234 := n1_
                    have BK235 := n2_
                    have BK239 := n3_
                    have BK243 := n4_
                    have BK247 := n5_
                    have BK251 := n6_
                    have BK255 := n7_
                    have BK259 := n8_
                    have BK263 := n9_
                    have HB := n10_
                    clear n0_ n1_ n2_ n3_ n4_ n5_ n6_ n7_ n8_ n9_ n10_
                    (try clear hb)
                    (try clear hb2)
                    (try clear hk)
                    (try clear hi)
                    refine hK.out _ _ ⟨(blk_cell BK263.out 0).trans rfl, (blk_cell BK263.out 1).trans rfl, (blk_cell BK255.out 0).trans rfl, (blk_cell BK255.out 1).trans rfl, (blk_cell BK233.out 0).trans rfl, (blk_cell BK233.out 1).trans rfl, (blk_cell BK234.out 0).trans rfl, (blk_cell BK234.out 1).trans rfl⟩ (fun hHeld => ?_)
                    clear hK K
                    refine norm_ (a' := ?_) ?_ ?_
                    rotate_left
                    · show Act.put _ (some 116) _ = _
                      simp only [Act.put, List.setIfInBounds_toArray, List.set_cons_zero, List.set_cons_succ, i64_w, i32_w]
                      rfl
                    refine one_ (i := 12) (N := some 119) #[true, true, true, true, true, true, true, true, true, true, true, true, true, false, false] rfl rfl (one_of HT_.out (by kernel_rfl)) (by decide) (fun K hK => ?_)
                    refine goes_ Tryd.func16 (by kernel_rfl) rfl #[.agg #[.int .i64 t224, .int .i64 t225], .agg #[.int .i64 t227, .int .i64 t228]] (by rfl) rfl rfl (by (try simp only [List.map_toArray, List.map_cons, List.map_nil]); first | done | rfl | (simp only [List.length_drop, List.length_take]; rfl)) ?_
                    with_reducible refine (ratio_Cmp.calls kj129 t224 t225 t227 t228 t265 _ A236.out).mono ?_
                    rintro e w240 ⟨rfl, hb⟩
                    refine ⟨_, rfl, ?_⟩
                    have n0_ := Aside0.mk (blk_below (g := gb233) (o := .cells #[.int .i64 t224, .int .i64 t225] 24 (0, 0)) (by (with_reducible repeat (first | refine blk_drewN ?_ _ | refine blk_drew ?_ | refine blk_alloc ?_ _)); exact BK233.out) hb)
                    have n1_ := Aside0.mk (blk_below (g := gb234) (o := .cells #[.int .i64 t227, .int .i64 t228] 24 (0, 0)) (by (with_reducible repeat (first | refine blk_drewN ?_ _ | refine blk_drew ?_ | refine blk_alloc ?_ _)); exact BK234.out) hb)
                    have n2_ := Aside0.mk (blk_below (g := gb235) (o := .cells #[.int .i64 t230, .int .i64 t231] 24 (0, 0)) (by (with_reducible repeat (first | refine blk_drewN ?_ _ | refine blk_drew ?_ | refine blk_alloc ?_ _)); exact BK235.out) hb)
                    have n3_ := Aside0.mk (blk_below (g := gb239) (o := .cells #[.int .i64 t236, .int .i64 t237] 24 (0, 0)) (by (with_reducible repeat (first | refine blk_drewN ?_ _ | refine blk_drew ?_ | refine blk_alloc ?_ _)); exact BK239.out) hb)
                    have n4_ := Aside0.mk (blk_below (g := gb243) (o := .cells #[.int .i64 t240, .int .i64 t241] 24 (0, 0)) (by (with_reducible repeat (first | refine blk_drewN ?_ _ | refine blk_drew ?_ | refine blk_alloc ?_ _)); exact BK243.out) hb)
                    have n5_ := Aside0.mk (blk_below (g := gb247) (o := .cells #[.int .i64 t244, .int .i64 t245] 24 (0, 0)) (by (with_reducible repeat (first | refine blk_drewN ?_ _ | refine blk_drew ?_ | refine blk_alloc ?_ _)); exact BK247.out) hb)
                    have n6_ := Aside0.mk (blk_below (g := gb251) (o := .cells #[.int .i64 t248, .int .i64 t249] 24 (0, 0)) (by (with_reducible repeat (first | refine blk_drewN ?_ _ | refine blk_drew ?_ | refine blk_alloc ?_ _)); exact BK251.out) hb)
                    have n7_ := Aside0.mk (blk_below (g := gb255) (o := .cells #[.int .i64 t252, .int .i64 t253] 24 (0, 0)) (by (with_reducible repeat (first | refine blk_drewN ?_ _ | refine blk_drew ?_ | refine blk_alloc ?_ _)); exact BK255.out) hb)
                    have n8_ := Aside0.mk (blk_below (g := gb259) (o := .cells #[.int .i64 t256, .int .i64 t257] 24 (0, 0)) (by (with_reducible repeat (first | refine blk_drewN ?_ _ | refine blk_drew ?_ | refine blk_alloc ?_ _)); exact BK259.out) hb)
                    have n9_ := Aside0.mk (blk_below (g := gb263) (o := .cells #[.int .i64 t260, .int .i64 t261] 24 (0, 0)) (by (with_reducible repeat (first | refine blk_drewN ?_ _ | refine blk_drew ?_ | refine blk_alloc ?_ _)); exact BK263.out) hb)
                    have n10_ := Aside0.mk (below_step (by repeat (first | (with_reducible first | exact HB.out | apply below_alloc | apply pw_below_drewN | apply below_drew1 | refine below_set ?_ GE233.out | refine below_set ?_ GE234.out | refine below_set ?_ GE235.out | refine below_set ?_ GE239.out | refine below_set ?_ GE243.out | refine below_set ?_ GE247.out | refine below_set ?_ GE251.out | refine below_set ?_ GE255.out | refine below_set ?_ GE259.out | refine below_set ?_ GE263.out) | exact HB.out)) hb)
                    clear BK233
                    clear BK234
                    clear BK235
                    clear BK239
                    clear BK243
                    clear BK247
                    clear BK251
                    clear BK255
                    clear BK259
                    clear BK263
                    clear HB
                    have BK233 := n0_
                    have BK234 := n1_
                    have BK235 := n2_
                    have BK239 := n3_
                    have BK243 := n4_
                    have BK247 := n5_
                    have BK251 := n6_
                    have BK255 := n7_
                    have BK259 := n8_
                    have BK263 := n9_
                    have HB := n10_
                    clear n0_ n1_ n2_ n3_ n4_ n5_ n6_ n7_ n8_ n9_ n10_
                    (try clear hb)
                    (try clear hb2)
                    (try clear hk)
                    (try clear hi)
                    refine hK.out _ _ ⟨(blk_cell BK263.out 0).trans rfl, (blk_cell BK263.out 1).trans rfl, (blk_cell BK255.out 0).trans rfl, (blk_cell BK255.out 1).trans rfl, (blk_cell BK233.out 0).trans rfl, (blk_cell BK233.out 1).trans rfl, (blk_cell BK234.out 0).trans rfl, (blk_cell BK234.out 1).trans rfl⟩ (fun hHeld => ?_)
                    clear hK K
                    refine norm_ (a' := ?_) ?_ ?_
                    rotate_left
                    · show Act.put _ (some 119) _ = _
                      simp only [Act.put, List.setIfInBounds_toArray, List.set_cons_zero, List.set_cons_succ, i64_w, i32_w]
                      rfl
                    refine pure_ (i := 13) (N := some 120) (v := ?_) (a' := ?_) #[true, true, true, true, true, true, true, true, true, true, true, true, true, true, false] rfl rfl (any_of HT_.out (by kernel_rfl)) (fun _ _ _ h => h) (Or.inl ⟨by rfl, ?_⟩) ?_ ?_
                    rotate_left
                    · intro w'
                      go_simp
                      with_reducible rfl
                    rotate_left
                    · simp only [Act.put, List.setIfInBounds_toArray, List.set_cons_zero, List.set_cons_succ, i64_w, i32_w]
                      rfl
                    refine pure_ (i := 14) (N := some 121) (v := ?_) (a' := ?_) #[true, true, true, true, true, true, true, true, true, true, true, true, true, true, true] rfl rfl (any_of HT_.out (by kernel_rfl)) (fun _ _ _ h => h) (Or.inl ⟨by rfl, ?_⟩) ?_ ?_
                    rotate_left
                    · intro w'
                      go_simp
                      with_reducible rfl
                    rotate_left
                    · simp only [Act.put, List.setIfInBounds_toArray, List.set_cons_zero, List.set_cons_succ, i64_w, i32_w]
                      rfl
                    refine done_ (done_of HT_.out (by kernel_rfl)) ?_
                    try go_wp2
                    go_meet
                    case rel => exact ⟨_, ((t264 != t265)), (by first | rfl | (simp; done) | (simp [*]; done)), H', ⟨by have := HJ8.out; have := HJ129.out; first | omega | exact Nat.le_refl _⟩, ⟨by (with_reducible repeat (first | refine blk_drewN ?_ _ | refine blk_drew ?_ | refine blk_alloc ?_ _)); exact BK233.out⟩, ⟨by (with_reducible repeat (first | refine blk_drewN ?_ _ | refine blk_drew ?_ | refine blk_alloc ?_ _)); exact BK234.out⟩, ⟨by (with_reducible repeat (first | refine blk_drewN ?_ _ | refine blk_drew ?_ | refine blk_alloc ?_ _)); exact BK235.out⟩, ⟨by (with_reducible repeat (first | refine blk_drewN ?_ _ | refine blk_drew ?_ | refine blk_alloc ?_ _)); exact BK239.out⟩, ⟨by (with_reducible repeat (first | refine blk_drewN ?_ _ | refine blk_drew ?_ | refine blk_alloc ?_ _)); exact BK243.out⟩, ⟨by (with_reducible repeat (first | refine blk_drewN ?_ _ | refine blk_drew ?_ | refine blk_alloc ?_ _)); exact BK247.out⟩, ⟨by (with_reducible repeat (first | refine blk_drewN ?_ _ | refine blk_drew ?_ | refine blk_alloc ?_ _)); exact BK251.out⟩, ⟨by (with_reducible repeat (first | refine blk_drewN ?_ _ | refine blk_drew ?_ | refine blk_alloc ?_ _)); exact BK255.out⟩, ⟨by (with_reducible repeat (first | refine blk_drewN ?_ _ | refine blk_drew ?_ | refine blk_alloc ?_ _)); exact BK259.out⟩, ⟨by (with_reducible repeat (first | refine blk_drewN ?_ _ | refine blk_drew ?_ | refine blk_alloc ?_ _)); exact BK263.out⟩, ⟨by repeat (first | (with_reducible first | exact HB.out | apply below_alloc | apply pw_below_drewN | apply below_drew1 | refine below_set ?_ GE233.out | refine below_set ?_ GE234.out | refine below_set ?_ GE235.out | refine below_set ?_ GE239.out | refine below_set ?_ GE243.out | refine below_set ?_ GE247.out | refine below_set ?_ GE251.out | refine below_set ?_ GE255.out | refine below_set ?_ GE259.out | refine below_set ?_ GE263.out) | exact HB.out)⟩⟩
                  · rw [if_neg c234] at H
                    have c234b0 : (t254 == 0) = false := beq_eq_false_iff_ne.mpr c234
                    have c234b1 : (t254 != 0) = true := bne_iff_ne.mpr c234
                    have H' := Aside0.mk H
                    clear H
                    try go_wp2
                    have n0_ : Aside0 (((w222.setCell ⟨gb263, 0, none⟩ (.int .i64 t260)).setCell ⟨gb263, 1, none⟩ (.int .i64 t261)).heap[gb233]? = some (.cells #[.int .i64 t224, .int .i64 t225] 24 (0, 0))) := ⟨by (with_reducible repeat (first | refine blk_drewN ?_ _ | refine blk_drew ?_ | refine blk_alloc ?_ _)); refine blk_far ?_ NB233_263.out _; (with_reducible repeat (first | refine blk_drewN ?_ _ | refine blk_drew ?_ | refine blk_alloc ?_ _)); refine blk_far ?_ NB233_263.out _; (with_reducible repeat (first | refine blk_drewN ?_ _ | refine blk_drew ?_ | refine blk_alloc ?_ _)); exact BK233.out⟩
                    have n1_ : Aside0 (((w222.setCell ⟨gb263, 0, none⟩ (.int .i64 t260)).setCell ⟨gb263, 1, none⟩ (.int .i64 t261)).heap[gb234]? = some (.cells #[.int .i64 t227, .int .i64 t228] 24 (0, 0))) := ⟨by (with_reducible repeat (first | refine blk_drewN ?_ _ | refine blk_drew ?_ | refine blk_alloc ?_ _)); refine blk_far ?_ NB234_263.out _; (with_reducible repeat (first | refine blk_drewN ?_ _ | refine blk_drew ?_ | refine blk_alloc ?_ _)); refine blk_far ?_ NB234_263.out _; (with_reducible repeat (first | refine blk_drewN ?_ _ | refine blk_drew ?_ | refine blk_alloc ?_ _)); exact BK234.out⟩
                    have n2_ : Aside0 (((w222.setCell ⟨gb263, 0, none⟩ (.int .i64 t260)).setCell ⟨gb263, 1, none⟩ (.int .i64 t261)).heap[gb235]? = some (.cells #[.int .i64 t230, .int .i64 t231] 24 (0, 0))) := ⟨by (with_reducible repeat (first | refine blk_drewN ?_ _ | refine blk_drew ?_ | refine blk_alloc ?_ _)); refine blk_far ?_ NB235_263.out _; (with_reducible repeat (first | refine blk_drewN ?_ _ | refine blk_drew ?_ | refine blk_alloc ?_ _)); refine blk_far ?_ NB235_263.out _; (with_reducible repeat (first | refine blk_drewN ?_ _ | refine blk_drew ?_ | refine blk_alloc ?_ _)); exact BK235.out⟩
                    have n3_ : Aside0 (((w222.setCell ⟨gb263, 0, none⟩ (.int .i64 t260)).setCell ⟨gb263, 1, none⟩ (.int .i64 t261)).heap[gb239]? = some (.cells #[.int .i64 t236, .int .i64 t237] 24 (0, 0))) := ⟨by (with_reducible repeat (first | refine blk_drewN ?_ _ | refine blk_drew ?_ | refine blk_alloc ?_ _)); refine blk_far ?_ NB239_263.out _; (with_reducible repeat (first | refine blk_drewN ?_ _ | refine blk_drew ?_ | refine blk_alloc ?_ _)); refine blk_far ?_ NB239_263.out _; (with_reducible repeat (first | refine blk_drewN ?_ _ | refine blk_drew ?_ | refine blk_alloc ?_ _)); exact BK239.out⟩
                    have n4_ : Aside0 (((w222.setCell ⟨gb263, 0, none⟩ (.int .i64 t260)).setCell ⟨gb263, 1, none⟩ (.int .i64 t261)).heap[gb243]? = some (.cells #[.int .i64 t240, .int .i64 t241] 24 (0, 0))) := ⟨by (with_reducible repeat (first | refine blk_drewN ?_ _ | refine blk_drew ?_ | refine blk_alloc ?_ _)); refine blk_far ?_ NB243_263.out _; (with_reducible repeat (first | refine blk_drewN ?_ _ | refine blk_drew ?_ | refine blk_alloc ?_ _)); refine blk_far ?_ NB243_263.out _; (with_reducible repeat (first | refine blk_drewN ?_ _ | refine blk_drew ?_ | refine blk_alloc ?_ _)); exact BK243.out⟩
                    have n5_ : Aside0 (((w222.setCell ⟨gb263, 0, none⟩ (.int .i64 t260)).setCell ⟨gb263, 1, none⟩ (.int .i64 t261)).heap[gb247]? = some (.cells #[.int .i64 t244, .int .i64 t245] 24 (0, 0))) := ⟨by (with_reducible repeat (first | refine blk_drewN ?_ _ | refine blk_drew ?_ | refine blk_alloc ?_ _)); refine blk_far ?_ NB247_263.out _; (with_reducible repeat (first | refine blk_drewN ?_ _ | refine blk_drew ?_ | refine blk_alloc ?_ _)); refine blk_far ?_ NB247_263.out _; (with_reducible repeat (first | refine blk_drewN ?_ _ | refine blk_drew ?_ | refine blk_alloc ?_ _)); exact BK247.out⟩
                    have n6_ : Aside0 (((w222.setCell ⟨gb263, 0, none⟩ (.int .i64 t260)).setCell ⟨gb263, 1, none⟩ (.int .i64 t261)).heap[gb251]? = some (.cells #[.int .i64 t248, .int .i64 t249] 24 (0, 0))) := ⟨by (with_reducible repeat (first | refine blk_drewN ?_ _ | refine blk_drew ?_ | refine blk_alloc ?_ _)); refine blk_far ?_ NB251_263.out _; (with_reducible repeat (first | refine blk_drewN ?_ _ | refine blk_drew ?_ | refine blk_alloc ?_ _)); refine blk_far ?_ NB251_263.out _; (with_reducible repeat (first | refine blk_drewN ?_ _ | refine blk_drew ?_ | refine blk_alloc ?_ _)); exact BK251.out⟩
                    have n7_ : Aside0 (((w222.setCell ⟨gb263, 0, none⟩ (.int .i64 t260)).setCell ⟨gb263, 1, none⟩ (.int .i64 t261)).heap[gb255]? = some (.cells #[.int .i64 t252, .int .i64 t253] 24 (0, 0))) := ⟨by (with_reducible repeat (first | refine blk_drewN ?_ _ | refine blk_drew ?_ | refine blk_alloc ?_ _)); refine blk_far ?_ NB255_263.out _; (with_reducible repeat (first | refine blk_drewN ?_ _ | refine blk_drew ?_ | refine blk_alloc ?_ _)); refine blk_far ?_ NB255_263.out _; (with_reducible repeat (first | refine blk_drewN ?_ _ | refine blk_drew ?_ | refine blk_alloc ?_ _)); exact BK255.out⟩
                    have n8_ : Aside0 (((w222.setCell ⟨gb263, 0, none⟩ (.int .i64 t260)).setCell ⟨gb263, 1, none⟩ (.int .i64 t261)).heap[gb259]? = some (.cells #[.int .i64 t256, .int .i64 t257] 24 (0, 0))) := ⟨by (with_reducible repeat (first | refine blk_drewN ?_ _ | refine blk_drew ?_ | refine blk_alloc ?_ _)); refine blk_far ?_ NB259_263.out _; (with_reducible repeat (first | refine blk_drewN ?_ _ | refine blk_drew ?_ | refine blk_alloc ?_ _)); refine blk_far ?_ NB259_263.out _; (with_reducible repeat (first | refine blk_drewN ?_ _ | refine blk_drew ?_ | refine blk_alloc ?_ _)); exact BK259.out⟩
                    have n9_ : Aside0 (((w222.setCell ⟨gb263, 0, none⟩ (.int .i64 t260)).setCell ⟨gb263, 1, none⟩ (.int .i64 t261)).heap[gb263]? = some (.cells #[.int .i64 t260, .int .i64 t261] 24 (0, 0))) := ⟨by (with_reducible repeat (first | refine blk_drewN ?_ _ | refine blk_drew ?_ | refine blk_alloc ?_ _)); refine blk_put (cs := #[.int .i64 t260, .int .i64 0]) ?_ 1 _ rfl; (with_reducible repeat (first | refine blk_drewN ?_ _ | refine blk_drew ?_ | refine blk_alloc ?_ _)); refine blk_put (cs := #[.int .i64 0, .int .i64 0]) ?_ 0 _ rfl; (with_reducible repeat (first | refine blk_drewN ?_ _ | refine blk_drew ?_ | refine blk_alloc ?_ _)); exact BK263.out⟩
                    have n10_ : Aside0 (Below w.heap.size w ((w222.setCell ⟨gb263, 0, none⟩ (.int .i64 t260)).setCell ⟨gb263, 1, none⟩ (.int .i64 t261))) := ⟨by repeat (first | (with_reducible first | exact HB.out | apply below_alloc | apply pw_below_drewN | apply below_drew1 | refine below_set ?_ GE233.out | refine below_set ?_ GE234.out | refine below_set ?_ GE235.out | refine below_set ?_ GE239.out | refine below_set ?_ GE243.out | refine below_set ?_ GE247.out | refine below_set ?_ GE251.out | refine below_set ?_ GE255.out | refine below_set ?_ GE259.out | refine below_set ?_ GE263.out) | exact HB.out)⟩
                    (try clear BK233)
                    (try clear BK234)
                    (try clear BK235)
                    (try clear BK239)
                    (try clear BK243)
                    (try clear BK247)
                    (try clear BK251)
                    (try clear BK255)
                    (try clear BK259)
                    (try clear BK263)
                    (try clear HB)
                    generalize ((w222.setCell ⟨gb263, 0, none⟩ (.int .i64 t260)).setCell ⟨gb263, 1, none⟩ (.int .i64 t261)) = w241 at n0_ n1_ n2_ n3_ n4_ n5_ n6_ n7_ n8_ n9_ n10_ ⊢
                    have BK233 := n0_
                    have BK234 := n1_
                    have BK235 := n2_
                    have BK239 := n3_
                    have BK243 := n4_
                    have BK247 := n5_
                    have BK251 := n6_
                    have BK255 := n7_
                    have BK259 := n8_
                    have BK263 := n9_
                    have HB := n10_
                    clear n0_ n1_ n2_ n3_ n4_ n5_ n6_ n7_ n8_ n9_ n10_
                    have n0_ := Aside0.mk (blk_drew BK233.out)
                    have n1_ := Aside0.mk (blk_drew BK234.out)
                    have n2_ := Aside0.mk (blk_drew BK235.out)
                    have n3_ := Aside0.mk (blk_drew BK239.out)
                    have n4_ := Aside0.mk (blk_drew BK243.out)
                    have n5_ := Aside0.mk (blk_drew BK247.out)
                    have n6_ := Aside0.mk (blk_drew BK251.out)
                    have n7_ := Aside0.mk (blk_drew BK255.out)
                    have n8_ := Aside0.mk (blk_drew BK259.out)
                    have n9_ := Aside0.mk (blk_drew BK263.out)
                    have n10_ := Aside0.mk (below_drew1 HB.out)
                    clear BK233
                    clear BK234
                    clear BK235
                    clear BK239
                    clear BK243
                    clear BK247
                    clear BK251
                    clear BK255
                    clear BK259
                    clear BK263
                    clear HB
                    have BK233 := n0_
                    have BK234 := n1_
                    have BK235 := n2_
                    have BK239 := n3_
                    have BK243 := n4_
                    have BK247 := n5_
                    have BK251 := n6_
                    have BK255 := n7_
                    have BK259 := n8_
                    have BK263 := n9_
                    have HB := n10_
                    clear n0_ n1_ n2_ n3_ n4_ n5_ n6_ n7_ n8_ n9_ n10_
                    refine start_ (n := 15) (S := fun w' => True) (ds := []) #[false, false, false, false, false, false, false, false, false, false, false, false, false, false, false] (by kernel_rfl) rfl rfl trivial (fun hHeld => ?_); refine with_tabW shapesearchlaw01_RatioSums.tab14 shapesearchlaw01_RatioSums.bits14 (fun HT_ HW_ => ?_)
                    generalize w241.drew = w242 at BK233 BK234 BK235 BK239 BK243 BK247 BK251 BK255 BK259 BK263 HB hHeld ⊢
                    refine pure_ (i := 0) (N := some 107) (v := ?_) (a' := ?_) #[true, false, false, false, false, false, false, false, false, false, false, false, false, false, false] rfl rfl (any_of HT_.out (by kernel_rfl)) (fun _ _ _ h => h) (Or.inl ⟨by rfl, ?_⟩) ?_ ?_
                    rotate_left
                    · intro w'
                      go_simp
                      with_reducible rfl
                    rotate_left
                    · simp only [Act.put, List.setIfInBounds_toArray, List.set_cons_zero, List.set_cons_succ, i64_w, i32_w]
                      rfl
                    refine pure_ (i := 1) (N := some 108) (v := ?_) (a' := ?_) #[true, true, false, false, false, false, false, false, false, false, false, false, false, false, false] rfl rfl (any_of HT_.out (by kernel_rfl)) (fun _ _ _ h => h) (Or.inl ⟨by rfl, ?_⟩) ?_ ?_
                    rotate_left
                    · intro w'
                      go_simp
                      with_reducible rfl
                    rotate_left
                    · simp only [Act.put, List.setIfInBounds_toArray, List.set_cons_zero, List.set_cons_succ, i64_w, i32_w]
                      rfl
                    refine pure_ (i := 2) (N := some 109) (v := ?_) (a' := ?_) #[true, true, true, false, false, false, false, false, false, false, false, false, false, false, false] rfl rfl (any_of HT_.out (by kernel_rfl)) (fun _ _ _ h => h) (Or.inl ⟨by rfl, ?_⟩) ?_ ?_
                    rotate_left
                    · intro w'
                      go_simp
                      with_reducible rfl
                    rotate_left
                    · simp only [Act.put, List.setIfInBounds_toArray, List.set_cons_zero, List.set_cons_succ, i64_w, i32_w]
                      rfl
                    refine pure_ (i := 3) (N := some 110) (v := ?_) (a' := ?_) #[true, true, true, true, false, false, false, false, false, false, false, false, false, false, false] rfl rfl (any_of HT_.out (by kernel_rfl)) (fun _ _ _ h => h) (Or.inl ⟨by rfl, ?_⟩) ?_ ?_
                    rotate_left
                    · intro w'
                      go_simp
                      with_reducible rfl
                    rotate_left
                    · simp only [Act.put, List.setIfInBounds_toArray, List.set_cons_zero, List.set_cons_succ, i64_w, i32_w]
                      rfl
                    refine pure_ (i := 4) (N := some 111) (v := ?_) (a' := ?_) #[true, true, true, true, true, false, false, false, false, false, false, false, false, false, false] rfl rfl (any_of HT_.out (by kernel_rfl)) (fun _ _ _ h => h) (Or.inl ⟨by rfl, ?_⟩) ?_ ?_
                    rotate_left
                    · intro w'
                      go_simp
                      with_reducible rfl
                    rotate_left
                    · simp only [Act.put, List.setIfInBounds_toArray, List.set_cons_zero, List.set_cons_succ, i64_w, i32_w]
                      rfl
                    refine pure_ (i := 5) (N := some 112) (v := ?_) (a' := ?_) #[true, true, true, true, true, true, false, false, false, false, false, false, false, false, false] rfl rfl (any_of HT_.out (by kernel_rfl)) (fun _ _ _ h => h) (Or.inl ⟨by rfl, ?_⟩) ?_ ?_
                    rotate_left
                    · intro w'
                      go_simp
                      with_reducible rfl
                    rotate_left
                    · simp only [Act.put, List.setIfInBounds_toArray, List.set_cons_zero, List.set_cons_succ, i64_w, i32_w]
                      rfl
                    refine pure_ (i := 6) (N := some 113) (v := ?_) (a' := ?_) #[true, true, true, true, true, true, true, false, false, false, false, false, false, false, false] rfl rfl (any_of HT_.out (by kernel_rfl)) (fun _ _ _ h => h) (Or.inl ⟨by rfl, ?_⟩) ?_ ?_
                    rotate_left
                    · intro w'
                      go_simp
                      with_reducible rfl
                    rotate_left
                    · simp only [Act.put, List.setIfInBounds_toArray, List.set_cons_zero, List.set_cons_succ, i64_w, i32_w]
                      rfl
                    refine pure_ (i := 7) (N := some 114) (v := undef) (a' := ?_) #[true, true, true, true, true, true, true, true, false, false, false, false, false, false, false] rfl rfl (any_of HT_.out (by kernel_rfl)) (fun _ _ _ h => h) (Or.inr ⟨by rfl, rfl⟩) ?_ ?_
                    rotate_left
                    · simp only [Act.put, List.setIfInBounds_toArray, List.set_cons_zero, List.set_cons_succ, i64_w, i32_w]
                      rfl
                    refine pure_ (i := 8) (N := some 115) (v := undef) (a' := ?_) #[true, true, true, true, true, true, true, true, true, false, false, false, false, false, false] rfl rfl (any_of HT_.out (by kernel_rfl)) (fun _ _ _ h => h) (Or.inr ⟨by rfl, rfl⟩) ?_ ?_
                    rotate_left
                    · simp only [Act.put, List.setIfInBounds_toArray, List.set_cons_zero, List.set_cons_succ, i64_w, i32_w]
                      rfl
                    refine pure_ (i := 9) (N := some 116) (v := undef) (a' := ?_) #[true, true, true, true, true, true, true, true, true, true, false, false, false, false, false] rfl rfl (any_of HT_.out (by kernel_rfl)) (fun _ _ _ h => h) (Or.inr ⟨by rfl, rfl⟩) ?_ ?_
                    rotate_left
                    · simp only [Act.put, List.setIfInBounds_toArray, List.set_cons_zero, List.set_cons_succ, i64_w, i32_w]
                      rfl
                    refine pure_ (i := 10) (N := some 117) (v := undef) (a' := ?_) #[true, true, true, true, true, true, true, true, true, true, true, false, false, false, false] rfl rfl (any_of HT_.out (by kernel_rfl)) (fun _ _ _ h => h) (Or.inr ⟨by rfl, rfl⟩) ?_ ?_
                    rotate_left
                    · simp only [Act.put, List.setIfInBounds_toArray, List.set_cons_zero, List.set_cons_succ, i64_w, i32_w]
                      rfl
                    refine pure_ (i := 11) (N := some 118) (v := undef) (a' := ?_) #[true, true, true, true, true, true, true, true, true, true, true, true, false, false, false] rfl rfl (any_of HT_.out (by kernel_rfl)) (fun _ _ _ h => h) (Or.inr ⟨by rfl, rfl⟩) ?_ ?_
                    rotate_left
                    · simp only [Act.put, List.setIfInBounds_toArray, List.set_cons_zero, List.set_cons_succ, i64_w, i32_w]
                      rfl
                    refine pure_ (i := 12) (N := some 119) (v := undef) (a' := ?_) #[true, true, true, true, true, true, true, true, true, true, true, true, true, false, false] rfl rfl (any_of HT_.out (by kernel_rfl)) (fun _ _ _ h => h) (Or.inr ⟨by rfl, rfl⟩) ?_ ?_
                    rotate_left
                    · simp only [Act.put, List.setIfInBounds_toArray, List.set_cons_zero, List.set_cons_succ, i64_w, i32_w]
                      rfl
                    refine pure_ (i := 13) (N := some 120) (v := undef) (a' := ?_) #[true, true, true, true, true, true, true, true, true, true, true, true, true, true, false] rfl rfl (any_of HT_.out (by kernel_rfl)) (fun _ _ _ h => h) (Or.inr ⟨by rfl, rfl⟩) ?_ ?_
                    rotate_left
                    · simp only [Act.put, List.setIfInBounds_toArray, List.set_cons_zero, List.set_cons_succ, i64_w, i32_w]
                      rfl
                    refine pure_ (i := 14) (N := some 121) (v := ?_) (a' := ?_) #[true, true, true, true, true, true, true, true, true, true, true, true, true, true, true] rfl rfl (any_of HT_.out (by kernel_rfl)) (fun _ _ _ h => h) (Or.inl ⟨by rfl, ?_⟩) ?_ ?_
                    rotate_left
                    · intro w'
                      go_simp
                      with_reducible rfl
                    rotate_left
                    · simp only [Act.put, List.setIfInBounds_toArray, List.set_cons_zero, List.set_cons_succ, i64_w, i32_w]
                      rfl
                    refine done_ (done_of HT_.out (by kernel_rfl)) ?_
                    try go_wp2
                    go_meet
                    case rel => exact ⟨_, (false), (by first | rfl | (simp; done) | (simp [*]; done)), H', ⟨by have := HJ8.out; have := HJ129.out; first | omega | exact Nat.le_refl _⟩, ⟨by (with_reducible repeat (first | refine blk_drewN ?_ _ | refine blk_drew ?_ | refine blk_alloc ?_ _)); exact BK233.out⟩, ⟨by (with_reducible repeat (first | refine blk_drewN ?_ _ | refine blk_drew ?_ | refine blk_alloc ?_ _)); exact BK234.out⟩, ⟨by (with_reducible repeat (first | refine blk_drewN ?_ _ | refine blk_drew ?_ | refine blk_alloc ?_ _)); exact BK235.out⟩, ⟨by (with_reducible repeat (first | refine blk_drewN ?_ _ | refine blk_drew ?_ | refine blk_alloc ?_ _)); exact BK239.out⟩, ⟨by (with_reducible repeat (first | refine blk_drewN ?_ _ | refine blk_drew ?_ | refine blk_alloc ?_ _)); exact BK243.out⟩, ⟨by (with_reducible repeat (first | refine blk_drewN ?_ _ | refine blk_drew ?_ | refine blk_alloc ?_ _)); exact BK247.out⟩, ⟨by (with_reducible repeat (first | refine blk_drewN ?_ _ | refine blk_drew ?_ | refine blk_alloc ?_ _)); exact BK251.out⟩, ⟨by (with_reducible repeat (first | refine blk_drewN ?_ _ | refine blk_drew ?_ | refine blk_alloc ?_ _)); exact BK255.out⟩, ⟨by (with_reducible repeat (first | refine blk_drewN ?_ _ | refine blk_drew ?_ | refine blk_alloc ?_ _)); exact BK259.out⟩, ⟨by (with_reducible repeat (first | refine blk_drewN ?_ _ | refine blk_drew ?_ | refine blk_alloc ?_ _)); exact BK263.out⟩, ⟨by repeat (first | (with_reducible first | exact HB.out | apply below_alloc | apply pw_below_drewN | apply below_drew1 | refine below_set ?_ GE233.out | refine below_set ?_ GE234.out | refine below_set ?_ GE235.out | refine below_set ?_ GE239.out | refine below_set ?_ GE243.out | refine below_set ?_ GE247.out | refine below_set ?_ GE251.out | refine below_set ?_ GE255.out | refine below_set ?_ GE259.out | refine below_set ?_ GE263.out) | exact HB.out)⟩⟩
                · rw [if_neg c233] at H
                  have c233b0 : (t262 == 0) = false := beq_eq_false_iff_ne.mpr c233
                  have c233b1 : (t262 != 0) = true := bne_iff_ne.mpr c233
                  (first | rw [c233b0] | (simp only [i64_w, i32_w]; rw [c233b0]) | rw [c233b1] | skip)
                  have H' := Aside0.mk H
                  clear H
                  try go_wp2
                  have n0_ : Aside0 (((w222.setCell ⟨gb263, 0, none⟩ (.int .i64 t260)).setCell ⟨gb263, 1, none⟩ (.int .i64 t261)).heap[gb233]? = some (.cells #[.int .i64 t224, .int .i64 t225] 24 (0, 0))) := ⟨by (with_reducible repeat (first | refine blk_drewN ?_ _ | refine blk_drew ?_ | refine blk_alloc ?_ _)); refine blk_far ?_ NB233_263.out _; (with_reducible repeat (first | refine blk_drewN ?_ _ | refine blk_drew ?_ | refine blk_alloc ?_ _)); refine blk_far ?_ NB233_263.out _; (with_reducible repeat (first | refine blk_drewN ?_ _ | refine blk_drew ?_ | refine blk_alloc ?_ _)); exact BK233.out⟩
                  have n1_ : Aside0 (((w222.setCell ⟨gb263, 0, none⟩ (.int .i64 t260)).setCell ⟨gb263, 1, none⟩ (.int .i64 t261)).heap[gb234]? = some (.cells #[.int .i64 t227, .int .i64 t228] 24 (0, 0))) := ⟨by (with_reducible repeat (first | refine blk_drewN ?_ _ | refine blk_drew ?_ | refine blk_alloc ?_ _)); refine blk_far ?_ NB234_263.out _; (with_reducible repeat (first | refine blk_drewN ?_ _ | refine blk_drew ?_ | refine blk_alloc ?_ _)); refine blk_far ?_ NB234_263.out _; (with_reducible repeat (first | refine blk_drewN ?_ _ | refine blk_drew ?_ | refine blk_alloc ?_ _)); exact BK234.out⟩
                  have n2_ : Aside0 (((w222.setCell ⟨gb263, 0, none⟩ (.int .i64 t260)).setCell ⟨gb263, 1, none⟩ (.int .i64 t261)).heap[gb235]? = some (.cells #[.int .i64 t230, .int .i64 t231] 24 (0, 0))) := ⟨by (with_reducible repeat (first | refine blk_drewN ?_ _ | refine blk_drew ?_ | refine blk_alloc ?_ _)); refine blk_far ?_ NB235_263.out _; (with_reducible repeat (first | refine blk_drewN ?_ _ | refine blk_drew ?_ | refine blk_alloc ?_ _)); refine blk_far ?_ NB235_263.out _; (with_reducible repeat (first | refine blk_drewN ?_ _ | refine blk_drew ?_ | refine blk_alloc ?_ _)); exact BK235.out⟩
                  have n3_ : Aside0 (((w222.setCell ⟨gb263, 0, none⟩ (.int .i64 t260)).setCell ⟨gb263, 1, none⟩ (.int .i64 t261)).heap[gb239]? = some (.cells #[.int .i64 t236, .int .i64 t237] 24 (0, 0))) := ⟨by (with_reducible repeat (first | refine blk_drewN ?_ _ | refine blk_drew ?_ | refine blk_alloc ?_ _)); refine blk_far ?_ NB239_263.out _; (with_reducible repeat (first | refine blk_drewN ?_ _ | refine blk_drew ?_ | refine blk_alloc ?_ _)); refine blk_far ?_ NB239_263.out _; (with_reducible repeat (first | refine blk_drewN ?_ _ | refine blk_drew ?_ | refine blk_alloc ?_ _)); exact BK239.out⟩
                  have n4_ : Aside0 (((w222.setCell ⟨gb263, 0, none⟩ (.int .i64 t260)).setCell ⟨gb263, 1, none⟩ (.int .i64 t261)).heap[gb243]? = some (.cells #[.int .i64 t240, .int .i64 t241] 24 (0, 0))) := ⟨by (with_reducible repeat (first | refine blk_drewN ?_ _ | refine blk_drew ?_ | refine blk_alloc ?_ _)); refine blk_far ?_ NB243_263.out _; (with_reducible repeat (first | refine blk_drewN ?_ _ | refine blk_drew ?_ | refine blk_alloc ?_ _)); refine blk_far ?_ NB243_263.out _; (with_reducible repeat (first | refine blk_drewN ?_ _ | refine blk_drew ?_ | refine blk_alloc ?_ _)); exact BK243.out⟩
                  have n5_ : Aside0 (((w222.setCell ⟨gb263, 0, none⟩ (.int .i64 t260)).setCell ⟨gb263, 1, none⟩ (.int .i64 t261)).heap[gb247]? = some (.cells #[.int .i64 t244, .int .i64 t245] 24 (0, 0))) := ⟨by (with_reducible repeat (first | refine blk_drewN ?_ _ | refine blk_drew ?_ | refine blk_alloc ?_ _)); refine blk_far ?_ NB247_263.out _; (with_reducible repeat (first | refine blk_drewN ?_ _ | refine blk_drew ?_ | refine blk_alloc ?_ _)); refine blk_far ?_ NB247_263.out _; (with_reducible repeat (first | refine blk_drewN ?_ _ | refine blk_drew ?_ | refine blk_alloc ?_ _)); exact BK247.out⟩
                  have n6_ : Aside0 (((w222.setCell ⟨gb263, 0, none⟩ (.int .i64 t260)).setCell ⟨gb263, 1, none⟩ (.int .i64 t261)).heap[gb251]? = some (.cells #[.int .i64 t248, .int .i64 t249] 24 (0, 0))) := ⟨by (with_reducible repeat (first | refine blk_drewN ?_ _ | refine blk_drew ?_ | refine blk_alloc ?_ _)); refine blk_far ?_ NB251_263.out _; (with_reducible repeat (first | refine blk_drewN ?_ _ | refine blk_drew ?_ | refine blk_alloc ?_ _)); refine blk_far ?_ NB251_263.out _; (with_reducible repeat (first | refine blk_drewN ?_ _ | refine blk_drew ?_ | refine blk_alloc ?_ _)); exact BK251.out⟩
                  have n7_ : Aside0 (((w222.setCell ⟨gb263, 0, none⟩ (.int .i64 t260)).setCell ⟨gb263, 1, none⟩ (.int .i64 t261)).heap[gb255]? = some (.cells #[.int .i64 t252, .int .i64 t253] 24 (0, 0))) := ⟨by (with_reducible repeat (first | refine blk_drewN ?_ _ | refine blk_drew ?_ | refine blk_alloc ?_ _)); refine blk_far ?_ NB255_263.out _; (with_reducible repeat (first | refine blk_drewN ?_ _ | refine blk_drew ?_ | refine blk_alloc ?_ _)); refine blk_far ?_ NB255_263.out _; (with_reducible repeat (first | refine blk_drewN ?_ _ | refine blk_drew ?_ | refine blk_alloc ?_ _)); exact BK255.out⟩
                  have n8_ : Aside0 (((w222.setCell ⟨gb263, 0, none⟩ (.int .i64 t260)).setCell ⟨gb263, 1, none⟩ (.int .i64 t261)).heap[gb259]? = some (.cells #[.int .i64 t256, .int .i64 t257] 24 (0, 0))) := ⟨by (with_reducible repeat (first | refine blk_drewN ?_ _ | refine blk_drew ?_ | refine blk_alloc ?_ _)); refine blk_far ?_ NB259_263.out _; (with_reducible repeat (first | refine blk_drewN ?_ _ | refine blk_drew ?_ | refine blk_alloc ?_ _)); refine blk_far ?_ NB259_263.out _; (with_reducible repeat (first | refine blk_drewN ?_ _ | refine blk_drew ?_ | refine blk_alloc ?_ _)); exact BK259.out⟩
                  have n9_ : Aside0 (((w222.setCell ⟨gb263, 0, none⟩ (.int .i64 t260)).setCell ⟨gb263, 1, none⟩ (.int .i64 t261)).heap[gb263]? = some (.cells #[.int .i64 t260, .int .i64 t261] 24 (0, 0))) := ⟨by (with_reducible repeat (first | refine blk_drewN ?_ _ | refine blk_drew ?_ | refine blk_alloc ?_ _)); refine blk_put (cs := #[.int .i64 t260, .int .i64 0]) ?_ 1 _ rfl; (with_reducible repeat (first | refine blk_drewN ?_ _ | refine blk_drew ?_ | refine blk_alloc ?_ _)); refine blk_put (cs := #[.int .i64 0, .int .i64 0]) ?_ 0 _ rfl; (with_reducible repeat (first | refine blk_drewN ?_ _ | refine blk_drew ?_ | refine blk_alloc ?_ _)); exact BK263.out⟩
                  have n10_ : Aside0 (Below w.heap.size w ((w222.setCell ⟨gb263, 0, none⟩ (.int .i64 t260)).setCell ⟨gb263, 1, none⟩ (.int .i64 t261))) := ⟨by repeat (first | (with_reducible first | exact HB.out | apply below_alloc | apply pw_below_drewN | apply below_drew1 | refine below_set ?_ GE233.out | refine below_set ?_ GE234.out | refine below_set ?_ GE235.out | refine below_set ?_ GE239.out | refine below_set ?_ GE243.out | refine below_set ?_ GE247.out | refine below_set ?_ GE251.out | refine below_set ?_ GE255.out | refine below_set ?_ GE259.out | refine below_set ?_ GE263.out) | exact HB.out)⟩
                  (try clear BK233)
                  (try clear BK234)
                  (try clear BK235)
                  (try clear BK239)
                  (try clear BK243)
                  (try clear BK247)
                  (try clear BK251)
                  (try clear BK255)
                  (try clear BK259)
                  (try clear BK263)
                  (try clear HB)
                  generalize ((w222.setCell ⟨gb263, 0, none⟩ (.int .i64 t260)).setCell ⟨gb263, 1, none⟩ (.int .i64 t261)) = w243 at n0_ n1_ n2_ n3_ n4_ n5_ n6_ n7_ n8_ n9_ n10_ ⊢
                  have BK233 := n0_
                  have BK234 := n1_
                  have BK235 := n2_
                  have BK239 := n3_
                  have BK243 := n4_
                  have BK247 := n5_
                  have BK251 := n6_
                  have BK255 := n7_
                  have BK259 := n8_
                  have BK263 := n9_
                  have HB := n10_
                  clear n0_ n1_ n2_ n3_ n4_ n5_ n6_ n7_ n8_ n9_ n10_
                  have n0_ := Aside0.mk (blk_drew BK233.out)
                  have n1_ := Aside0.mk (blk_drew BK234.out)
                  have n2_ := Aside0.mk (blk_drew BK235.out)
                  have n3_ := Aside0.mk (blk_drew BK239.out)
                  have n4_ := Aside0.mk (blk_drew BK243.out)
                  have n5_ := Aside0.mk (blk_drew BK247.out)
                  have n6_ := Aside0.mk (blk_drew BK251.out)
                  have n7_ := Aside0.mk (blk_drew BK255.out)
                  have n8_ := Aside0.mk (blk_drew BK259.out)
                  have n9_ := Aside0.mk (blk_drew BK263.out)
                  have n10_ := Aside0.mk (below_drew1 HB.out)
                  clear BK233
                  clear BK234
                  clear BK235
                  clear BK239
                  clear BK243
                  clear BK247
                  clear BK251
                  clear BK255
                  clear BK259
                  clear BK263
                  clear HB
                  have BK233 := n0_
                  have BK234 := n1_
                  have BK235 := n2_
                  have BK239 := n3_
                  have BK243 := n4_
                  have BK247 := n5_
                  have BK251 := n6_
                  have BK255 := n7_
                  have BK259 := n8_
                  have BK263 := n9_
                  have HB := n10_
                  clear n0_ n1_ n2_ n3_ n4_ n5_ n6_ n7_ n8_ n9_ n10_
                  refine start_ (n := 15) (S := fun w' => True) (ds := []) #[false, false, false, false, false, false, false, false, false, false, false, false, false, false, false] (by kernel_rfl) rfl rfl trivial (fun hHeld => ?_); refine with_tabW shapesearchlaw01_RatioSums.tab14 shapesearchlaw01_RatioSums.bits14 (fun HT_ HW_ => ?_)
                  generalize w243.drew = w244 at BK233 BK234 BK235 BK239 BK243 BK247 BK251 BK255 BK259 BK263 HB hHeld ⊢
                  refine pure_ (i := 0) (N := some 107) (v := ?_) (a' := ?_) #[true, false, false, false, false, false, false, false, false, false, false, false, false, false, false] rfl rfl (any_of HT_.out (by kernel_rfl)) (fun _ _ _ h => h) (Or.inl ⟨by rfl, ?_⟩) ?_ ?_
                  rotate_left
                  · intro w'
                    go_simp
                    with_reducible rfl
                  rotate_left
                  · simp only [Act.put, List.setIfInBounds_toArray, List.set_cons_zero, List.set_cons_succ, i64_w, i32_w]
                    rfl
                  refine pure_ (i := 1) (N := some 108) (v := ?_) (a' := ?_) #[true, true, false, false, false, false, false, false, false, false, false, false, false, false, false] rfl rfl (any_of HT_.out (by kernel_rfl)) (fun _ _ _ h => h) (Or.inl ⟨by rfl, ?_⟩) ?_ ?_
                  rotate_left
                  · intro w'
                    go_simp
                    with_reducible rfl
                  rotate_left
                  · simp only [Act.put, List.setIfInBounds_toArray, List.set_cons_zero, List.set_cons_succ, i64_w, i32_w]
                    rfl
                  refine pure_ (i := 2) (N := some 109) (v := ?_) (a' := ?_) #[true, true, true, false, false, false, false, false, false, false, false, false, false, false, false] rfl rfl (any_of HT_.out (by kernel_rfl)) (fun _ _ _ h => h) (Or.inl ⟨by rfl, ?_⟩) ?_ ?_
                  rotate_left
                  · intro w'
                    go_simp
                    with_reducible rfl
                  rotate_left
                  · simp only [Act.put, List.setIfInBounds_toArray, List.set_cons_zero, List.set_cons_succ, i64_w, i32_w]
                    rfl
                  refine pure_ (i := 3) (N := some 110) (v := undef) (a' := ?_) #[true, true, true, true, false, false, false, false, false, false, false, false, false, false, false] rfl rfl (any_of HT_.out (by kernel_rfl)) (fun _ _ _ h => h) (Or.inr ⟨by rfl, rfl⟩) ?_ ?_
                  rotate_left
                  · simp only [Act.put, List.setIfInBounds_toArray, List.set_cons_zero, List.set_cons_succ, i64_w, i32_w]
                    rfl
                  refine pure_ (i := 4) (N := some 111) (v := undef) (a' := ?_) #[true, true, true, true, true, false, false, false, false, false, false, false, false, false, false] rfl rfl (any_of HT_.out (by kernel_rfl)) (fun _ _ _ h => h) (Or.inr ⟨by rfl, rfl⟩) ?_ ?_
                  rotate_left
                  · simp only [Act.put, List.setIfInBounds_toArray, List.set_cons_zero, List.set_cons_succ, i64_w, i32_w]
                    rfl
                  refine pure_ (i := 5) (N := some 112) (v := ?_) (a' := ?_) #[true, true, true, true, true, true, false, false, false, false, false, false, false, false, false] rfl rfl (any_of HT_.out (by kernel_rfl)) (fun _ _ _ h => h) (Or.inl ⟨by rfl, ?_⟩) ?_ ?_
                  rotate_left
                  · intro w'
                    go_simp
                    with_reducible rfl
                  rotate_left
                  · simp only [Act.put, List.setIfInBounds_toArray, List.set_cons_zero, List.set_cons_succ, i64_w, i32_w]
                    rfl
                  refine pure_ (i := 6) (N := some 113) (v := ?_) (a' := ?_) #[true, true, true, true, true, true, true, false, false, false, false, false, false, false, false] rfl rfl (any_of HT_.out (by kernel_rfl)) (fun _ _ _ h => h) (Or.inl ⟨by rfl, ?_⟩) ?_ ?_
                  rotate_left
                  · intro w'
                    go_simp
                    with_reducible rfl
                  rotate_left
                  · simp only [Act.put, List.setIfInBounds_toArray, List.set_cons_zero, List.set_cons_succ, i64_w, i32_w]
                    rfl
                  refine pure_ (i := 7) (N := some 114) (v := undef) (a' := ?_) #[true, true, true, true, true, true, true, true, false, false, false, false, false, false, false] rfl rfl (any_of HT_.out (by kernel_rfl)) (fun _ _ _ h => h) (Or.inr ⟨by rfl, rfl⟩) ?_ ?_
                  rotate_left
                  · simp only [Act.put, List.setIfInBounds_toArray, List.set_cons_zero, List.set_cons_succ, i64_w, i32_w]
                    rfl
                  refine pure_ (i := 8) (N := some 115) (v := undef) (a' := ?_) #[true, true, true, true, true, true, true, true, true, false, false, false, false, false, false] rfl rfl (any_of HT_.out (by kernel_rfl)) (fun _ _ _ h => h) (Or.inr ⟨by rfl, rfl⟩) ?_ ?_
                  rotate_left
                  · simp only [Act.put, List.setIfInBounds_toArray, List.set_cons_zero, List.set_cons_succ, i64_w, i32_w]
                    rfl
                  refine pure_ (i := 9) (N := some 116) (v := undef) (a' := ?_) #[true, true, true, true, true, true, true, true, true, true, false, false, false, false, false] rfl rfl (any_of HT_.out (by kernel_rfl)) (fun _ _ _ h => h) (Or.inr ⟨by rfl, rfl⟩) ?_ ?_
                  rotate_left
                  · simp only [Act.put, List.setIfInBounds_toArray, List.set_cons_zero, List.set_cons_succ, i64_w, i32_w]
                    rfl
                  refine pure_ (i := 10) (N := some 117) (v := undef) (a' := ?_) #[true, true, true, true, true, true, true, true, true, true, true, false, false, false, false] rfl rfl (any_of HT_.out (by kernel_rfl)) (fun _ _ _ h => h) (Or.inr ⟨by rfl, rfl⟩) ?_ ?_
                  rotate_left
                  · simp only [Act.put, List.setIfInBounds_toArray, List.set_cons_zero, List.set_cons_succ, i64_w, i32_w]
                    rfl
                  refine pure_ (i := 11) (N := some 118) (v := undef) (a' := ?_) #[true, true, true, true, true, true, true, true, true, true, true, true, false, false, false] rfl rfl (any_of HT_.out (by kernel_rfl)) (fun _ _ _ h => h) (Or.inr ⟨by rfl, rfl⟩) ?_ ?_
                  rotate_left
                  · simp only [Act.put, List.setIfInBounds_toArray, List.set_cons_zero, List.set_cons_succ, i64_w, i32_w]
                    rfl
                  refine pure_ (i := 12) (N := some 119) (v := undef) (a' := ?_) #[true, true, true, true, true, true, true, true, true, true, true, true, true, false, false] rfl rfl (any_of HT_.out (by kernel_rfl)) (fun _ _ _ h => h) (Or.inr ⟨by rfl, rfl⟩) ?_ ?_
                  rotate_left
                  · simp only [Act.put, List.setIfInBounds_toArray, List.set_cons_zero, List.set_cons_succ, i64_w, i32_w]
                    rfl
                  refine pure_ (i := 13) (N := some 120) (v := undef) (a' := ?_) #[true, true, true, true, true, true, true, true, true, true, true, true, true, true, false] rfl rfl (any_of HT_.out (by kernel_rfl)) (fun _ _ _ h => h) (Or.inr ⟨by rfl, rfl⟩) ?_ ?_
                  rotate_left
                  · simp only [Act.put, List.setIfInBounds_toArray, List.set_cons_zero, List.set_cons_succ, i64_w, i32_w]
                    rfl
                  refine pure_ (i := 14) (N := some 121) (v := ?_) (a' := ?_) #[true, true, true, true, true, true, true, true, true, true, true, true, true, true, true] rfl rfl (any_of HT_.out (by kernel_rfl)) (fun _ _ _ h => h) (Or.inl ⟨by rfl, ?_⟩) ?_ ?_
                  rotate_left
                  · intro w'
                    go_simp
                    with_reducible rfl
                  rotate_left
                  · simp only [Act.put, List.setIfInBounds_toArray, List.set_cons_zero, List.set_cons_succ, i64_w, i32_w]
                    rfl
                  refine done_ (done_of HT_.out (by kernel_rfl)) ?_
                  try go_wp2
                  go_meet
                  case rel => exact ⟨_, (false), (by first | rfl | (simp; done) | (simp [*]; done)), H', ⟨by have := HJ8.out; have := HJ129.out; first | omega | exact Nat.le_refl _⟩, ⟨by (with_reducible repeat (first | refine blk_drewN ?_ _ | refine blk_drew ?_ | refine blk_alloc ?_ _)); exact BK233.out⟩, ⟨by (with_reducible repeat (first | refine blk_drewN ?_ _ | refine blk_drew ?_ | refine blk_alloc ?_ _)); exact BK234.out⟩, ⟨by (with_reducible repeat (first | refine blk_drewN ?_ _ | refine blk_drew ?_ | refine blk_alloc ?_ _)); exact BK235.out⟩, ⟨by (with_reducible repeat (first | refine blk_drewN ?_ _ | refine blk_drew ?_ | refine blk_alloc ?_ _)); exact BK239.out⟩, ⟨by (with_reducible repeat (first | refine blk_drewN ?_ _ | refine blk_drew ?_ | refine blk_alloc ?_ _)); exact BK243.out⟩, ⟨by (with_reducible repeat (first | refine blk_drewN ?_ _ | refine blk_drew ?_ | refine blk_alloc ?_ _)); exact BK247.out⟩, ⟨by (with_reducible repeat (first | refine blk_drewN ?_ _ | refine blk_drew ?_ | refine blk_alloc ?_ _)); exact BK251.out⟩, ⟨by (with_reducible repeat (first | refine blk_drewN ?_ _ | refine blk_drew ?_ | refine blk_alloc ?_ _)); exact BK255.out⟩, ⟨by (with_reducible repeat (first | refine blk_drewN ?_ _ | refine blk_drew ?_ | refine blk_alloc ?_ _)); exact BK259.out⟩, ⟨by (with_reducible repeat (first | refine blk_drewN ?_ _ | refine blk_drew ?_ | refine blk_alloc ?_ _)); exact BK263.out⟩, ⟨by repeat (first | (with_reducible first | exact HB.out | apply below_alloc | apply pw_below_drewN | apply below_drew1 | refine below_set ?_ GE233.out | refine below_set ?_ GE234.out | refine below_set ?_ GE235.out | refine below_set ?_ GE239.out | refine below_set ?_ GE243.out | refine below_set ?_ GE247.out | refine below_set ?_ GE251.out | refine below_set ?_ GE255.out | refine below_set ?_ GE259.out | refine below_set ?_ GE263.out) | exact HB.out)⟩⟩
              case rest =>
                clear HC203
                try clear c1
                try clear c2
                try clear p2
                try clear c16
                try clear c23
                try clear c233
                try clear c233b0
                try clear c233b1
                try clear c234
                try clear c234b0
                try clear c234b1
                obtain ⟨kq, x121_202, rfl, HA, HJ202, BK233, BK234, BK235, BK239, BK243, BK247, BK251, BK255, BK259, BK263, HB⟩ := hcut
                cases kq with
                | zero => exact absurd HA.out (by simp [shapesearchlaw01_RatioSums.j2])
                | succ kj202 =>
                  have H := HA.out
                  clear HA
                  simp only [shapesearchlaw01_RatioSums.j2] at H
                  by_cases c245 : x121_202 = true
                  · subst c245
                    have H1 : (none) = some r := by rw [if_pos rfl] at H; exact H
                    clear H
                    have H := H1
                    clear H1
                    exact absurd H (by simp)
                  · replace c245 := Bool.eq_false_iff.mpr c245
                    subst c245
                    have H1 : (if t238 = 0 then ((ratio_Valid.f kj202 t236 t237).bind fun t266 => (if t266 = true then ((ratio_Less.f kj202 t236 t237 t224 t225).bind fun t267 => (if t267 = true then (none) else ((shapesearchlaw01_awake.f kj202).bind fun t268 => (some t268)))) else (none))) else ((shapesearchlaw01_awake.f kj202).bind fun t269 => (some t269))) = some r := by rw [if_neg (show ¬ (false = true) by decide)] at H; exact H
                    clear H
                    have H := H1
                    clear H1
                    by_cases c246 : t238 = 0
                    · rw [if_pos c246] at H
                      have c246b0 : (t238 == 0) = true := beq_iff_eq.mpr c246
                      have c246b1 : (t238 != 0) = false := bne_eq_false_iff_eq.mpr c246
                      clear c246
                      replace H := Option.bind_eq_some_iff.mp H
                      obtain ⟨t266, A2470, H⟩ := H
                      replace H : (if t266 = true then ((ratio_Less.f kj202 t236 t237 t224 t225).bind fun t267 => (if t267 = true then (none) else ((shapesearchlaw01_awake.f kj202).bind fun t268 => (some t268)))) else (none)) = some r := H
                      have A247 := Aside0.mk A2470
                      clear A2470
                      by_cases c248 : t266 = true
                      · subst c248
                        have H1 : ((ratio_Less.f kj202 t236 t237 t224 t225).bind fun t267 => (if t267 = true then (none) else ((shapesearchlaw01_awake.f kj202).bind fun t268 => (some t268)))) = some r := by rw [if_pos rfl] at H; exact H
                        clear H
                        have H := H1
                        clear H1
                        replace H := Option.bind_eq_some_iff.mp H
                        obtain ⟨t267, A2490, H⟩ := H
                        replace H : (if t267 = true then (none) else ((shapesearchlaw01_awake.f kj202).bind fun t268 => (some t268))) = some r := H
                        have A249 := Aside0.mk A2490
                        clear A2490
                        by_cases c250 : t267 = true
                        · subst c250
                          have H1 : (none) = some r := by rw [if_pos rfl] at H; exact H
                          clear H
                          have H := H1
                          clear H1
                          exact absurd H (by simp)
                        · replace c250 := Bool.eq_false_iff.mpr c250
                          subst c250
                          have H1 : ((shapesearchlaw01_awake.f kj202).bind fun t268 => (some t268)) = some r := by rw [if_neg (show ¬ (false = true) by decide)] at H; exact H
                          clear H
                          have H := H1
                          clear H1
                          replace H := Option.bind_eq_some_iff.mp H
                          obtain ⟨t268, A2510, H⟩ := H
                          replace H : (some t268) = some r := H
                          have A251 := Aside0.mk A2510
                          clear A2510
                          obtain rfl := Option.some.inj H
                          have hnb252 := NB239_233.out
                          have hnc252 := NB233_239.out
                          have hnb253 := NB239_234.out
                          have hnc253 := NB234_239.out
                          have hnb254 := NB239_235.out
                          have hnc254 := NB235_239.out
                          have hnb255 := NB239_243.out
                          have hnc255 := NB243_239.out
                          have hnb256 := NB239_247.out
                          have hnc256 := NB247_239.out
                          have hnb257 := NB239_251.out
                          have hnc257 := NB251_239.out
                          have hnb258 := NB239_255.out
                          have hnc258 := NB255_239.out
                          have hnb259 := NB239_259.out
                          have hnc259 := NB259_239.out
                          have hnb260 := NB239_263.out
                          have hnc260 := NB263_239.out
                          have hcz261_0 : wc.cell? ⟨gb239, 0, none⟩ = some (.int .i64 t236) := (blk_cell BK239.out 0).trans rfl
                          have hcz261_1 : wc.cell? ⟨gb239, 1, none⟩ = some (.int .i64 t237) := (blk_cell BK239.out 1).trans rfl
                          have hfz261_0 := blk_frozen BK239.out 0
                          have hfz261_1 := blk_frozen BK239.out 1
                          go_wp2_with (first | (go_at_call 12; (with_reducible refine (ratio_Valid.calls kj202 t236 t237 true _ A247.out).mono ?_); rintro e w262 ⟨rfl, hb⟩; have n0_ := Aside0.mk (blk_below (g := gb233) (o := .cells #[.int .i64 t224, .int .i64 t225] 24 (0, 0)) (by (with_reducible repeat (first | refine blk_drewN ?_ _ | refine blk_drew ?_ | refine blk_alloc ?_ _)); exact BK233.out) hb); have n1_ := Aside0.mk (blk_below (g := gb234) (o := .cells #[.int .i64 t227, .int .i64 t228] 24 (0, 0)) (by (with_reducible repeat (first | refine blk_drewN ?_ _ | refine blk_drew ?_ | refine blk_alloc ?_ _)); exact BK234.out) hb); have n2_ := Aside0.mk (blk_below (g := gb235) (o := .cells #[.int .i64 t230, .int .i64 t231] 24 (0, 0)) (by (with_reducible repeat (first | refine blk_drewN ?_ _ | refine blk_drew ?_ | refine blk_alloc ?_ _)); exact BK235.out) hb); have n3_ := Aside0.mk (blk_below (g := gb239) (o := .cells #[.int .i64 t236, .int .i64 t237] 24 (0, 0)) (by (with_reducible repeat (first | refine blk_drewN ?_ _ | refine blk_drew ?_ | refine blk_alloc ?_ _)); exact BK239.out) hb); have n4_ := Aside0.mk (blk_below (g := gb243) (o := .cells #[.int .i64 t240, .int .i64 t241] 24 (0, 0)) (by (with_reducible repeat (first | refine blk_drewN ?_ _ | refine blk_drew ?_ | refine blk_alloc ?_ _)); exact BK243.out) hb); have n5_ := Aside0.mk (blk_below (g := gb247) (o := .cells #[.int .i64 t244, .int .i64 t245] 24 (0, 0)) (by (with_reducible repeat (first | refine blk_drewN ?_ _ | refine blk_drew ?_ | refine blk_alloc ?_ _)); exact BK247.out) hb); have n6_ := Aside0.mk (blk_below (g := gb251) (o := .cells #[.int .i64 t248, .int .i64 t249] 24 (0, 0)) (by (with_reducible repeat (first | refine blk_drewN ?_ _ | refine blk_drew ?_ | refine blk_alloc ?_ _)); exact BK251.out) hb); have n7_ := Aside0.mk (blk_below (g := gb255) (o := .cells #[.int .i64 t252, .int .i64 t253] 24 (0, 0)) (by (with_reducible repeat (first | refine blk_drewN ?_ _ | refine blk_drew ?_ | refine blk_alloc ?_ _)); exact BK255.out) hb); have n8_ := Aside0.mk (blk_below (g := gb259) (o := .cells #[.int .i64 t256, .int .i64 t257] 24 (0, 0)) (by (with_reducible repeat (first | refine blk_drewN ?_ _ | refine blk_drew ?_ | refine blk_alloc ?_ _)); exact BK259.out) hb); have n9_ := Aside0.mk (blk_below (g := gb263) (o := .cells #[.int .i64 t260, .int .i64 t261] 24 (0, 0)) (by (with_reducible repeat (first | refine blk_drewN ?_ _ | refine blk_drew ?_ | refine blk_alloc ?_ _)); exact BK263.out) hb); have n10_ := Aside0.mk (below_step (by repeat (first | (with_reducible first | exact HB.out | apply below_alloc | apply pw_below_drewN | apply below_drew1 | refine below_set ?_ GE233.out | refine below_set ?_ GE234.out | refine below_set ?_ GE235.out | refine below_set ?_ GE239.out | refine below_set ?_ GE243.out | refine below_set ?_ GE247.out | refine below_set ?_ GE251.out | refine below_set ?_ GE255.out | refine below_set ?_ GE259.out | refine below_set ?_ GE263.out) | exact HB.out)) hb); clear BK233; clear BK234; clear BK235; clear BK239; clear BK243; clear BK247; clear BK251; clear BK255; clear BK259; clear BK263; clear HB; have BK233 := n0_; have BK234 := n1_; have BK235 := n2_; have BK239 := n3_; have BK243 := n4_; have BK247 := n5_; have BK251 := n6_; have BK255 := n7_; have BK259 := n8_; have BK263 := n9_; have HB := n10_; clear n0_ n1_ n2_ n3_ n4_ n5_ n6_ n7_ n8_ n9_ n10_; (try clear hb); (try clear hb2); (try clear hk); (try clear hi); have hcz263_0 : w262.cell? ⟨gb239, 0, none⟩ = some (.int .i64 t236) := (blk_cell BK239.out 0).trans rfl; have hcz263_1 : w262.cell? ⟨gb239, 1, none⟩ = some (.int .i64 t237) := (blk_cell BK239.out 1).trans rfl; have hfz263_0 := blk_frozen BK239.out 0; have hfz263_1 := blk_frozen BK239.out 1; have hnb264 := NB233_234.out; have hnc264 := NB234_233.out; have hnb265 := NB233_235.out; have hnc265 := NB235_233.out; have hnb266 := NB233_243.out; have hnc266 := NB243_233.out; have hnb267 := NB233_247.out; have hnc267 := NB247_233.out; have hnb268 := NB233_251.out; have hnc268 := NB251_233.out; have hnb269 := NB233_255.out; have hnc269 := NB255_233.out; have hnb270 := NB233_259.out; have hnc270 := NB259_233.out; have hnb271 := NB233_263.out; have hnc271 := NB263_233.out; have hcz272_0 : w262.cell? ⟨gb233, 0, none⟩ = some (.int .i64 t224) := (blk_cell BK233.out 0).trans rfl; have hcz272_1 : w262.cell? ⟨gb233, 1, none⟩ = some (.int .i64 t225) := (blk_cell BK233.out 1).trans rfl; have hfz272_0 := blk_frozen BK233.out 0; have hfz272_1 := blk_frozen BK233.out 1) | (go_at_call 17; (with_reducible refine (ratio_Less.calls kj202 t236 t237 t224 t225 false _ A249.out).mono ?_); rintro e w273 ⟨rfl, hb⟩; have n0_ := Aside0.mk (blk_below (g := gb233) (o := .cells #[.int .i64 t224, .int .i64 t225] 24 (0, 0)) (by (with_reducible repeat (first | refine blk_drewN ?_ _ | refine blk_drew ?_ | refine blk_alloc ?_ _)); exact BK233.out) hb); have n1_ := Aside0.mk (blk_below (g := gb234) (o := .cells #[.int .i64 t227, .int .i64 t228] 24 (0, 0)) (by (with_reducible repeat (first | refine blk_drewN ?_ _ | refine blk_drew ?_ | refine blk_alloc ?_ _)); exact BK234.out) hb); have n2_ := Aside0.mk (blk_below (g := gb235) (o := .cells #[.int .i64 t230, .int .i64 t231] 24 (0, 0)) (by (with_reducible repeat (first | refine blk_drewN ?_ _ | refine blk_drew ?_ | refine blk_alloc ?_ _)); exact BK235.out) hb); have n3_ := Aside0.mk (blk_below (g := gb239) (o := .cells #[.int .i64 t236, .int .i64 t237] 24 (0, 0)) (by (with_reducible repeat (first | refine blk_drewN ?_ _ | refine blk_drew ?_ | refine blk_alloc ?_ _)); exact BK239.out) hb); have n4_ := Aside0.mk (blk_below (g := gb243) (o := .cells #[.int .i64 t240, .int .i64 t241] 24 (0, 0)) (by (with_reducible repeat (first | refine blk_drewN ?_ _ | refine blk_drew ?_ | refine blk_alloc ?_ _)); exact BK243.out) hb); have n5_ := Aside0.mk (blk_below (g := gb247) (o := .cells #[.int .i64 t244, .int .i64 t245] 24 (0, 0)) (by (with_reducible repeat (first | refine blk_drewN ?_ _ | refine blk_drew ?_ | refine blk_alloc ?_ _)); exact BK247.out) hb); have n6_ := Aside0.mk (blk_below (g := gb251) (o := .cells #[.int .i64 t248, .int .i64 t249] 24 (0, 0)) (by (with_reducible repeat (first | refine blk_drewN ?_ _ | refine blk_drew ?_ | refine blk_alloc ?_ _)); exact BK251.out) hb); have n7_ := Aside0.mk (blk_below (g := gb255) (o := .cells #[.int .i64 t252, .int .i64 t253] 24 (0, 0)) (by (with_reducible repeat (first | refine blk_drewN ?_ _ | refine blk_drew ?_ | refine blk_alloc ?_ _)); exact BK255.out) hb); have n8_ := Aside0.mk (blk_below (g := gb259) (o := .cells #[.int .i64 t256, .int .i64 t257] 24 (0, 0)) (by (with_reducible repeat (first | refine blk_drewN ?_ _ | refine blk_drew ?_ | refine blk_alloc ?_ _)); exact BK259.out) hb); have n9_ := Aside0.mk (blk_below (g := gb263) (o := .cells #[.int .i64 t260, .int .i64 t261] 24 (0, 0)) (by (with_reducible repeat (first | refine blk_drewN ?_ _ | refine blk_drew ?_ | refine blk_alloc ?_ _)); exact BK263.out) hb); have n10_ := Aside0.mk (below_step (by repeat (first | (with_reducible first | exact HB.out | apply below_alloc | apply pw_below_drewN | apply below_drew1 | refine below_set ?_ GE233.out | refine below_set ?_ GE234.out | refine below_set ?_ GE235.out | refine below_set ?_ GE239.out | refine below_set ?_ GE243.out | refine below_set ?_ GE247.out | refine below_set ?_ GE251.out | refine below_set ?_ GE255.out | refine below_set ?_ GE259.out | refine below_set ?_ GE263.out) | exact HB.out)) hb); clear BK233; clear BK234; clear BK235; clear BK239; clear BK243; clear BK247; clear BK251; clear BK255; clear BK259; clear BK263; clear HB; have BK233 := n0_; have BK234 := n1_; have BK235 := n2_; have BK239 := n3_; have BK243 := n4_; have BK247 := n5_; have BK251 := n6_; have BK255 := n7_; have BK259 := n8_; have BK263 := n9_; have HB := n10_; clear n0_ n1_ n2_ n3_ n4_ n5_ n6_ n7_ n8_ n9_ n10_; (try clear hb); (try clear hb2); (try clear hk); (try clear hi)) | (go_at_call 13; (with_reducible refine (shapesearchlaw01_awake.calls kj202  t268 _ A251.out).mono ?_); rintro e w274 ⟨rfl, hb⟩; have n0_ := Aside0.mk (blk_below (g := gb233) (o := .cells #[.int .i64 t224, .int .i64 t225] 24 (0, 0)) (by (with_reducible repeat (first | refine blk_drewN ?_ _ | refine blk_drew ?_ | refine blk_alloc ?_ _)); exact BK233.out) hb); have n1_ := Aside0.mk (blk_below (g := gb234) (o := .cells #[.int .i64 t227, .int .i64 t228] 24 (0, 0)) (by (with_reducible repeat (first | refine blk_drewN ?_ _ | refine blk_drew ?_ | refine blk_alloc ?_ _)); exact BK234.out) hb); have n2_ := Aside0.mk (blk_below (g := gb235) (o := .cells #[.int .i64 t230, .int .i64 t231] 24 (0, 0)) (by (with_reducible repeat (first | refine blk_drewN ?_ _ | refine blk_drew ?_ | refine blk_alloc ?_ _)); exact BK235.out) hb); have n3_ := Aside0.mk (blk_below (g := gb239) (o := .cells #[.int .i64 t236, .int .i64 t237] 24 (0, 0)) (by (with_reducible repeat (first | refine blk_drewN ?_ _ | refine blk_drew ?_ | refine blk_alloc ?_ _)); exact BK239.out) hb); have n4_ := Aside0.mk (blk_below (g := gb243) (o := .cells #[.int .i64 t240, .int .i64 t241] 24 (0, 0)) (by (with_reducible repeat (first | refine blk_drewN ?_ _ | refine blk_drew ?_ | refine blk_alloc ?_ _)); exact BK243.out) hb); have n5_ := Aside0.mk (blk_below (g := gb247) (o := .cells #[.int .i64 t244, .int .i64 t245] 24 (0, 0)) (by (with_reducible repeat (first | refine blk_drewN ?_ _ | refine blk_drew ?_ | refine blk_alloc ?_ _)); exact BK247.out) hb); have n6_ := Aside0.mk (blk_below (g := gb251) (o := .cells #[.int .i64 t248, .int .i64 t249] 24 (0, 0)) (by (with_reducible repeat (first | refine blk_drewN ?_ _ | refine blk_drew ?_ | refine blk_alloc ?_ _)); exact BK251.out) hb); have n7_ := Aside0.mk (blk_below (g := gb255) (o := .cells #[.int .i64 t252, .int .i64 t253] 24 (0, 0)) (by (with_reducible repeat (first | refine blk_drewN ?_ _ | refine blk_drew ?_ | refine blk_alloc ?_ _)); exact BK255.out) hb); have n8_ := Aside0.mk (blk_below (g := gb259) (o := .cells #[.int .i64 t256, .int .i64 t257] 24 (0, 0)) (by (with_reducible repeat (first | refine blk_drewN ?_ _ | refine blk_drew ?_ | refine blk_alloc ?_ _)); exact BK259.out) hb); have n9_ := Aside0.mk (blk_below (g := gb263) (o := .cells #[.int .i64 t260, .int .i64 t261] 24 (0, 0)) (by (with_reducible repeat (first | refine blk_drewN ?_ _ | refine blk_drew ?_ | refine blk_alloc ?_ _)); exact BK263.out) hb); have n10_ := Aside0.mk (below_step (by repeat (first | (with_reducible first | exact HB.out | apply below_alloc | apply pw_below_drewN | apply below_drew1 | refine below_set ?_ GE233.out | refine below_set ?_ GE234.out | refine below_set ?_ GE235.out | refine below_set ?_ GE239.out | refine below_set ?_ GE243.out | refine below_set ?_ GE247.out | refine below_set ?_ GE251.out | refine below_set ?_ GE255.out | refine below_set ?_ GE259.out | refine below_set ?_ GE263.out) | exact HB.out)) hb); clear BK233; clear BK234; clear BK235; clear BK239; clear BK243; clear BK247; clear BK251; clear BK255; clear BK259; clear BK263; clear HB; have BK233 := n0_; have BK234 := n1_; have BK235 := n2_; have BK239 := n3_; have BK243 := n4_; have BK247 := n5_; have BK251 := n6_; have BK255 := n7_; have BK259 := n8_; have BK263 := n9_; have HB := n10_; clear n0_ n1_ n2_ n3_ n4_ n5_ n6_ n7_ n8_ n9_ n10_; (try clear hb); (try clear hb2); (try clear hk); (try clear hi)))
                          go_ret
                          exact ⟨by first | rfl | (simp [errW_none, errW_some] <;> rfl) | (simp [*, errW_none, errW_some] <;> rfl), by repeat (first | (with_reducible first | exact HB.out | apply below_alloc | apply pw_below_drewN | apply below_drew1 | refine below_set ?_ GE233.out | refine below_set ?_ GE234.out | refine below_set ?_ GE235.out | refine below_set ?_ GE239.out | refine below_set ?_ GE243.out | refine below_set ?_ GE247.out | refine below_set ?_ GE251.out | refine below_set ?_ GE255.out | refine below_set ?_ GE259.out | refine below_set ?_ GE263.out) | exact HB.out)⟩
                      · replace c248 := Bool.eq_false_iff.mpr c248
                        subst c248
                        have H1 : (none) = some r := by rw [if_neg (show ¬ (false = true) by decide)] at H; exact H
                        clear H
                        have H := H1
                        clear H1
                        exact absurd H (by simp)
                    · rw [if_neg c246] at H
                      have c246b0 : (t238 == 0) = false := beq_eq_false_iff_ne.mpr c246
                      have c246b1 : (t238 != 0) = true := bne_iff_ne.mpr c246
                      replace H := Option.bind_eq_some_iff.mp H
                      obtain ⟨t269, A2750, H⟩ := H
                      replace H : (some t269) = some r := H
                      have A275 := Aside0.mk A2750
                      clear A2750
                      obtain rfl := Option.some.inj H
                      go_wp2_with (first | (go_at_call 13; (with_reducible refine (shapesearchlaw01_awake.calls kj202  t269 _ A275.out).mono ?_); rintro e w276 ⟨rfl, hb⟩; have n0_ := Aside0.mk (blk_below (g := gb233) (o := .cells #[.int .i64 t224, .int .i64 t225] 24 (0, 0)) (by (with_reducible repeat (first | refine blk_drewN ?_ _ | refine blk_drew ?_ | refine blk_alloc ?_ _)); exact BK233.out) hb); have n1_ := Aside0.mk (blk_below (g := gb234) (o := .cells #[.int .i64 t227, .int .i64 t228] 24 (0, 0)) (by (with_reducible repeat (first | refine blk_drewN ?_ _ | refine blk_drew ?_ | refine blk_alloc ?_ _)); exact BK234.out) hb); have n2_ := Aside0.mk (blk_below (g := gb235) (o := .cells #[.int .i64 t230, .int .i64 t231] 24 (0, 0)) (by (with_reducible repeat (first | refine blk_drewN ?_ _ | refine blk_drew ?_ | refine blk_alloc ?_ _)); exact BK235.out) hb); have n3_ := Aside0.mk (blk_below (g := gb239) (o := .cells #[.int .i64 t236, .int .i64 t237] 24 (0, 0)) (by (with_reducible repeat (first | refine blk_drewN ?_ _ | refine blk_drew ?_ | refine blk_alloc ?_ _)); exact BK239.out) hb); have n4_ := Aside0.mk (blk_below (g := gb243) (o := .cells #[.int .i64 t240, .int .i64 t241] 24 (0, 0)) (by (with_reducible repeat (first | refine blk_drewN ?_ _ | refine blk_drew ?_ | refine blk_alloc ?_ _)); exact BK243.out) hb); have n5_ := Aside0.mk (blk_below (g := gb247) (o := .cells #[.int .i64 t244, .int .i64 t245] 24 (0, 0)) (by (with_reducible repeat (first | refine blk_drewN ?_ _ | refine blk_drew ?_ | refine blk_alloc ?_ _)); exact BK247.out) hb); have n6_ := Aside0.mk (blk_below (g := gb251) (o := .cells #[.int .i64 t248, .int .i64 t249] 24 (0, 0)) (by (with_reducible repeat (first | refine blk_drewN ?_ _ | refine blk_drew ?_ | refine blk_alloc ?_ _)); exact BK251.out) hb); have n7_ := Aside0.mk (blk_below (g := gb255) (o := .cells #[.int .i64 t252, .int .i64 t253] 24 (0, 0)) (by (with_reducible repeat (first | refine blk_drewN ?_ _ | refine blk_drew ?_ | refine blk_alloc ?_ _)); exact BK255.out) hb); have n8_ := Aside0.mk (blk_below (g := gb259) (o := .cells #[.int .i64 t256, .int .i64 t257] 24 (0, 0)) (by (with_reducible repeat (first | refine blk_drewN ?_ _ | refine blk_drew ?_ | refine blk_alloc ?_ _)); exact BK259.out) hb); have n9_ := Aside0.mk (blk_below (g := gb263) (o := .cells #[.int .i64 t260, .int .i64 t261] 24 (0, 0)) (by (with_reducible repeat (first | refine blk_drewN ?_ _ | refine blk_drew ?_ | refine blk_alloc ?_ _)); exact BK263.out) hb); have n10_ := Aside0.mk (below_step (by repeat (first | (with_reducible first | exact HB.out | apply below_alloc | apply pw_below_drewN | apply below_drew1 | refine below_set ?_ GE233.out | refine below_set ?_ GE234.out | refine below_set ?_ GE235.out | refine below_set ?_ GE239.out | refine below_set ?_ GE243.out | refine below_set ?_ GE247.out | refine below_set ?_ GE251.out | refine below_set ?_ GE255.out | refine below_set ?_ GE259.out | refine below_set ?_ GE263.out) | exact HB.out)) hb); clear BK233; clear BK234; clear BK235; clear BK239; clear BK243; clear BK247; clear BK251; clear BK255; clear BK259; clear BK263; clear HB; have BK233 := n0_; have BK234 := n1_; have BK235 := n2_; have BK239 := n3_; have BK243 := n4_; have BK247 := n5_; have BK251 := n6_; have BK255 := n7_; have BK259 := n8_; have BK263 := n9_; have HB := n10_; clear n0_ n1_ n2_ n3_ n4_ n5_ n6_ n7_ n8_ n9_ n10_; (try clear hb); (try clear hb2); (try clear hk); (try clear hi)))
                      go_ret
                      exact ⟨by first | rfl | (simp [errW_none, errW_some] <;> rfl) | (simp [*, errW_none, errW_some] <;> rfl), by repeat (first | (with_reducible first | exact HB.out | apply below_alloc | apply pw_below_drewN | apply below_drew1 | refine below_set ?_ GE233.out | refine below_set ?_ GE234.out | refine below_set ?_ GE235.out | refine below_set ?_ GE239.out | refine below_set ?_ GE243.out | refine below_set ?_ GE247.out | refine below_set ?_ GE251.out | refine below_set ?_ GE255.out | refine below_set ?_ GE259.out | refine below_set ?_ GE263.out) | exact HB.out)⟩

/-- THE ONE PURE STATEMENT of shapesearchlaw01_RatioSums: yours. -/
def shapesearchlaw01_RatioSums.Pure : Prop := ∀ (l0 : List Int), l0.length ≤ maxLen → l0.length * 8 ≤ 140737488351232 → (∀ x ∈ l0, (Lit.int .i64 x).wf = true) → ∃ k, shapesearchlaw01_RatioSums.f k l0 = some true
theorem shapesearchlaw01_RatioSums.walk (P : shapesearchlaw01_RatioSums.Pure) (a0 : Option Addr) (len0 cap0 : Nat) (z0 : List Int) (w : World) (w0 : (a0 = none ∧ len0 = 0 ∧ cap0 = 0 ∧ z0 = []) ∨ ∃ x, a0 = some x ∧ len0 ≤ cap0 ∧ cap0 ≤ maxLen ∧ z0.length = cap0 ∧ (∀ i, i < z0.length → w.cell? (x.add i) = some (.int .i64 (z0.getD i 0))) ∧ ∀ n ∈ z0, (Lit.int .i64 n).wf = true) (y0 : len0 * 8 ≤ 140737488351232) :
    Calls Tryd.prog 6 #[.slice a0 len0 cap0] w fun e w' => e = .returned (.bool true) ∧ Below w.heap.size w w' := by
  obtain ⟨l0, rfl, hr0, hm0, hw0, hc0⟩ := ReadsInt.ofRowC w0
  obtain ⟨k, h⟩ := P l0 hm0 y0 hw0
  refine (shapesearchlaw01_RatioSums.calls k _ _ l0 true w (Kd.C_of_reads (d := (0 : Int)) (h1 := fun _ => rfl) hr0) hc0 h).mono ?_
  rintro e w' ⟨rfl, hd⟩
  exact ⟨rfl, hd⟩

end Go.Proofs.YtdfdecpplnjdcaaDoor.Hp
