/- The law MeasureSymmetric, as plain mathematics. -/
import Derived.Test.YtadniiehehiblaaDoorVg5
import Derived.Test.YtadniiehehiblaaDoorVBase
import Derived.Test.YtadniiehehiblaaDoorVKeep
import Derived.Test.YtadniiehehiblaaDoorVEuc
import Derived.Test.YtadniiehehiblaaDoorVWarp
import Derived.Test.YtadniiehehiblaaDoorVGcd
import Derived.Test.YtadniiehehiblaaDoorVWarp2
import Derived.Test.YtadniiehehiblaaDoorVLoop
import Derived.Test.YtadniiehehiblaaDoorVDist
import Derived.Test.YtadniiehehiblaaDoorVDec
import Derived.Test.YtadniiehehiblaaDoorVText
import Derived.Test.YtadniiehehiblaaDoorVCut32
import Derived.Test.YtadniiehehiblaaDoorVAtoi
import Derived.Test.YtadniiehehiblaaDoorVMeas
import Derived.Test.YtadniiehehiblaaDoorVDisk
import Derived.Test.YtadniiehehiblaaDoorVList
import Derived.Test.YtadniiehehiblaaDoorVEdit
import Derived.Test.YtadniiehehiblaaDoorVGap
import Derived.Test.YtadniiehehiblaaDoorVMD
import Derived.Test.YtadniiehehiblaaDoorVSym
set_option linter.unusedVariables false
set_option linter.unusedSimpArgs false
namespace Go.Proofs.YtadniiehehiblaaDoor.V
open Go.VI
theorem MeasureSymmetric_pure (l : List Int) (h : ∀ x ∈ l, I64 x) : law17_MeasureSymmetric.F ((l, ()), ()) = some ((true, ()), ()) := by
  refine Ok.eq ?_
  rw [law17_MeasureSymmetric.F_eq, law17_MeasureSymmetric.f]
  refine .bind (new_ok l h) fun y0 s0 => .bind (dmeasure_ok s0) ?_
  rintro ⟨⟨⟨k, b, g, _⟩, _⟩, ⟨L1, i1, _⟩, _⟩ ⟨s1, hm⟩
  dsimp only at s1 hm ⊢
  refine .bind (suited_ok s1 hm) ?_
  rintro ⟨⟨x, y, _⟩, ⟨L2, i2, _⟩, _⟩ ⟨s2, hf⟩
  dsimp only at s2 hf ⊢
  obtain ⟨e, v⟩ := mdist_ok hm hf
  obtain ⟨e2, _⟩ := mdist_ok hm hf.symm
  obtain ⟨e3, _⟩ := mdist_ok hm (hf.same hm)
  rw [show measure_Distance.F (((k, (b, (g, ()))), (x, (y, ()))), ()) = _ from e, show measure_Distance.F (((k, (b, (g, ()))), (y, (x, ()))), ()) = _ from e2, show measure_Distance.F (((k, (b, (g, ()))), (x, (x, ()))), ()) = _ from e3]
  simp only [Option.bind_some]
  rw [← MD_symm hm hf, MD_self hm hf.wx]
  generalize MD k b g x y = r at *
  rw [show law17_MeasureSymmetric.L0 _ = _ from law17_MeasureSymmetric.L0_eq .., law17_MeasureSymmetric.f0, show ref01_Valid.F (((r.1, (r.2, ())), ()), ()) = _ from rvalid_true v, awake_ok]
  simp
  exact .some rfl
theorem MeasureSymmetric_true (x : law17_MeasureSymmetric.sh.X) (h : dsWf law17_MeasureSymmetric.sh.ds x.1) : law17_MeasureSymmetric.F x = some ((true, ()), ()) := by
  obtain ⟨⟨l, _⟩, _⟩ := x
  exact MeasureSymmetric_pure l (wf_ints h.1)
end Go.Proofs.YtadniiehehiblaaDoor.V
