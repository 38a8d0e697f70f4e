/- The law MeasureWithin, as plain mathematics. -/
import Derived.Test.YtadniiehehiblaaDoorVg6
import Derived.Test.YtadniiehehiblaaDoorVBase
import Derived.Test.YtadniiehehiblaaDoorVKeep
import Derived.Test.YtadniiehehiblaaDoorVEuc
import Derived.Test.YtadniiehehiblaaDoorVWarp
import Derived.Test.YtadniiehehiblaaDoorVGcd
import Derived.Test.YtadniiehehiblaaDoorVWarp2
import Derived.Test.YtadniiehehiblaaDoorVLoop
import Derived.Test.YtadniiehehiblaaDoorVDist
import Derived.Test.YtadniiehehiblaaDoorVDec
import Derived.Test.YtadniiehehiblaaDoorVText
import Derived.Test.YtadniiehehiblaaDoorVCut32
import Derived.Test.YtadniiehehiblaaDoorVAtoi
import Derived.Test.YtadniiehehiblaaDoorVMeas
import Derived.Test.YtadniiehehiblaaDoorVDisk
import Derived.Test.YtadniiehehiblaaDoorVList
import Derived.Test.YtadniiehehiblaaDoorVEdit
import Derived.Test.YtadniiehehiblaaDoorVGap
import Derived.Test.YtadniiehehiblaaDoorVMD
import Derived.Test.YtadniiehehiblaaDoorVCmp
set_option linter.unusedVariables false
set_option linter.unusedSimpArgs false
namespace Go.Proofs.YtadniiehehiblaaDoor.V
open Go.VI
theorem within_is {k b g : Int} {x y : List Int} (hm : Mv k b g) (h : Fit k b x y) {n d : Int} (hv : VR n d) :
    measure_Within.F (((k, b, g, ()), x, y, (n, d, ()), ()), ()) = if n * (MD k b g x y).2 < (MD k b g x y).1 * d then some (((0, 1, ()), false, ()), ()) else some ((((MD k b g x y).1, (MD k b g x y).2, ()), true, ()), ()) := by
  obtain ⟨e, v⟩ := mdist_ok hm h
  rw [measure_Within.F_eq, measure_Within.f, e]
  simp only [Option.bind_some]
  generalize MD k b g x y = r at *
  rw [measure_Within.L0_eq, measure_Within.f0, nt rfl, valid_true hv]
  simp only [cond_false, Option.bind_some, Bool.not_true]
  rw [less_ok hv v]
  by_cases c : n * r.2 < r.1 * d
  · rw [dt c, if_pos c]; rfl
  · rw [df c, if_neg c]; rfl
theorem MeasureWithin_pure (l : List Int) (h : ∀ x ∈ l, I64 x) : law17_MeasureWithin.F ((l, ()), ()) = some ((true, ()), ()) := by
  refine Ok.eq ?_
  rw [law17_MeasureWithin.F_eq, law17_MeasureWithin.f]
  refine .bind (new_ok l h) fun y0 s0 => .bind (dmeasure_ok s0) ?_
  rintro ⟨⟨⟨k, b, g, _⟩, _⟩, ⟨L1, i1, _⟩, _⟩ ⟨s1, hm⟩
  dsimp only at s1 hm ⊢
  refine .bind (suited_ok s1 hm) ?_
  rintro ⟨⟨x, y, _⟩, ⟨L2, i2, _⟩, _⟩ ⟨s2, hf⟩
  dsimp only at s2 hf ⊢
  refine .bind (dratio_ok s2) ?_
  rintro ⟨⟨⟨n, d, _⟩, _⟩, ⟨L3, i3, _⟩, _⟩ ⟨s3, hv⟩
  dsimp only at s3 hv ⊢
  obtain ⟨e, v⟩ := mdist_ok hm hf
  rw [show measure_Distance.F (((k, (b, (g, ()))), (x, (y, ()))), ()) = _ from e]
  simp only [Option.bind_some]
  rw [show measure_Within.F (((k, (b, (g, ()))), (x, (y, ((n, (d, ())), ())))), ()) = _ from within_is hm hf hv,
    show measure_Within.F (((k, (b, (g, ()))), (x, (y, (((MD k b g x y).1, ((MD k b g x y).2, ())), ())))), ()) = _ from within_is hm hf v]
  generalize MD k b g x y = r at *
  rw [if_neg (by omega : ¬ r.1 * r.2 < r.1 * r.2)]
  have hc := rcmp_ok v hv
  have hn : VR n d := hv
  unfold sg at hc
  by_cases c : n * r.2 < r.1 * d
  · rw [if_pos c]
    simp only [Option.bind_some]
    rw [show law17_MeasureWithin.L0 _ = _ from law17_MeasureWithin.L0_eq .., law17_MeasureWithin.f0, bt rfl, show ref01_Cmp.F (((r.1, (r.2, ())), ((n, (d, ())), ())), ()) = _ from hc, if_neg (by omega), if_neg (by omega), awake_ok]
    simp
    exact .some rfl
  · rw [if_neg c]
    simp only [Option.bind_some]
    rw [show law17_MeasureWithin.L0 _ = _ from law17_MeasureWithin.L0_eq .., law17_MeasureWithin.f0, bt rfl, show ref01_Cmp.F (((r.1, (r.2, ())), ((n, (d, ())), ())), ()) = _ from hc, awake_ok]
    by_cases c2 : r.1 * d < n * r.2
    · rw [if_pos c2]
      simp
      exact .some rfl
    · rw [if_neg c2, if_pos (by omega)]
      simp
      exact .some rfl
theorem MeasureWithin_true (x : law17_MeasureWithin.sh.X) (h : dsWf law17_MeasureWithin.sh.ds x.1) : law17_MeasureWithin.F x = some ((true, ()), ()) := by
  obtain ⟨⟨l, _⟩, _⟩ := x
  exact MeasureWithin_pure l (wf_ints h.1)
end Go.Proofs.YtadniiehehiblaaDoor.V
