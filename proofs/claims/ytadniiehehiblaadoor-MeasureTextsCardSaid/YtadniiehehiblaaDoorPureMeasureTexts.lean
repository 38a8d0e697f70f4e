/- The law MeasureTexts, as plain mathematics. -/
import Derived.Test.YtadniiehehiblaaDoorVg3
import Derived.Test.YtadniiehehiblaaDoorVBase
import Derived.Test.YtadniiehehiblaaDoorVKeep
import Derived.Test.YtadniiehehiblaaDoorVLoop
import Derived.Test.YtadniiehehiblaaDoorVDist
import Derived.Test.YtadniiehehiblaaDoorVDec
import Derived.Test.YtadniiehehiblaaDoorVText
import Derived.Test.YtadniiehehiblaaDoorVCut32
import Derived.Test.YtadniiehehiblaaDoorVAtoi
import Derived.Test.YtadniiehehiblaaDoorVMeas
set_option linter.unusedVariables false
namespace Go.Proofs.YtadniiehehiblaaDoor.V
open Go.VI Go.Lib
theorem measure_keep {L : List Int} {i : Int} (h : Src L i) : Ok (keep_Src_Measure.F (((), ()), ((L, i, ()), ()))) (fun r => Mv r.1.1.1 r.1.1.2.1 r.1.1.2.2.1) := by
  rw [keep_Src_Measure.F_eq, keep_Src_Measure.f]
  refine .bind (range_ok h 1 5 (by omega)) fun y0 ⟨s0, a0, b0⟩ => ?_
  by_cases c4 : y0.1.1 = 4
  · rw [bt c4]
    refine .bind (pick_ok s0 _ (by decide)) fun y1 ⟨s1, m1⟩ => ?_
    rw [bf (by omega : y0.1.1 ≠ 5)]
    have i1 : 0 ≤ y1.1.1 ∧ y1.1.1 ≤ 32 := by
      simp only [List.mem_cons, List.not_mem_nil, or_false] at m1; omega
    exact .some ⟨by dsimp only; omega, by dsimp only; omega, by dsimp only; omega⟩
  · rw [bf c4]
    by_cases c5 : y0.1.1 = 5
    · rw [bt c5]
      refine .bind (pick_ok s0 _ (by decide)) fun y1 ⟨s1, m1⟩ => ?_
      have i1 : -1000 ≤ y1.1.1 ∧ y1.1.1 ≤ 1000 := by
        simp only [List.mem_cons, List.not_mem_nil, or_false] at m1; omega
      exact .some ⟨by dsimp only; omega, by dsimp only; omega, by dsimp only; omega⟩
    · rw [bf c5]
      exact .some ⟨by dsimp only; omega, by dsimp only; omega, by dsimp only; omega⟩
theorem MeasureTexts_pure (l : List Int) (s : ByteArray) (h : ∀ x ∈ l, I64 x) : law17_MeasureTexts.F ((l, s, ()), ()) = some ((true, ()), ()) := by
  refine Ok.eq ?_
  rw [law17_MeasureTexts.F_eq, law17_MeasureTexts.f]
  by_cases c : (s.size : Int) > 40
  · rw [dt c, awake_ok]
    exact .some rfl
  · rw [df c]
    refine .bind (new_ok l h) fun y0 s0 => ?_
    refine .bind (measure_keep s0) ?_
    rintro ⟨⟨⟨k, b, g, _⟩, _⟩, _⟩ hv
    dsimp only at hv ⊢
    obtain ⟨k', b', g', e, hF, hB⟩ := parse_any s (by omega)
    rw [format_valid hv, Option.bind_some, parse_txt hv, Option.bind_some, hF, Option.bind_some, law17_MeasureTexts.L0_eq, law17_MeasureTexts.f0, show ((0 : Int) == 0) = true from rfl, bt rfl, bt rfl, bt rfl]
    simp only [cond_true, Bool.and_self]
    by_cases z : e = 0
    · subst z
      obtain ⟨b1, b2⟩ := hB rfl
      rw [show ((0 : Int) != 0) = false from rfl, format_valid b1, check_valid b1]
      simp only [cond_false, Option.bind_some]
      rw [show ((bs (vtxt k' b' g')).toList == s.toList) = true from beq_iff_eq.2 ((toList_bs _).trans b2), bt rfl, awake_ok]
      exact .some rfl
    · rw [show (e != 0) = true from by simpa using z, awake_ok]
      exact .some rfl
theorem MeasureTexts_true (x : law17_MeasureTexts.sh.X) (h : dsWf law17_MeasureTexts.sh.ds x.1) : law17_MeasureTexts.F x = some ((true, ()), ()) := by
  obtain ⟨⟨l, s, _⟩, _⟩ := x
  obtain ⟨h1, _⟩ := h
  exact MeasureTexts_pure l s (wf_ints h1)
end Go.Proofs.YtadniiehehiblaaDoor.V
