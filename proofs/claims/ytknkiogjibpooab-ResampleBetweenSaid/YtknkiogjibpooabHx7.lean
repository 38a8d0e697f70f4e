-- Written by wip/tools/hprint.py of this session, over the kit's print with hand-made contracts; Lean checks it.
import Derived.Test.YtknkiogjibpooabHx0
namespace Go.Proofs.Ytknkiogjibpooab.Hp
open Go.RowKit Go.Proofs.YtknkiogjibpooabW.PrintWords Go.Proofs.YtknkiogjibpooabW.PrintLast Go.Proofs.YtknkiogjibpooabW.PrintMore
attribute [local go_sem] max2_int min2_int max_two min_two max_three min_three max_four min_four   -- for this text's walks alone
attribute [local go_sem] i64_w
set_option linter.unusedVariables false
set_option linter.unusedSimpArgs false

/-! ### resample_half: function 34 -/
def resample_half.f (a0 : Int) (a1 : Int) : Option (Int) := if (wrap64 (2 * a1)) = 0 then (none) else (if (Int.tmod (wrap64 ((wrap64 (2 * a0)) + a1)) (wrap64 (2 * a1))) < 0 then (some (wrap64 ((wrap64 (Int.tdiv (wrap64 ((wrap64 (2 * a0)) + a1)) (wrap64 (2 * a1)))) - 1))) else (some (wrap64 (Int.tdiv (wrap64 ((wrap64 (2 * a0)) + a1)) (wrap64 (2 * a1))))))
set_option maxHeartbeats 8000000 in
set_option maxRecDepth 100000 in
theorem resample_half.calls (a0 : Int) (a1 : Int) (r : Int) (w : World) (h : resample_half.f a0 a1 = some r) :
    Calls Try.prog 34 #[.int .i64 a0, .int .i64 a1] w fun e w' => e = .returned (.int .i64 r) ∧ Drawn0 w w' := by
  have H : (if (wrap64 (2 * a1)) = 0 then (none) else (if (Int.tmod (wrap64 ((wrap64 (2 * a0)) + a1)) (wrap64 (2 * a1))) < 0 then (some (wrap64 ((wrap64 (Int.tdiv (wrap64 ((wrap64 (2 * a0)) + a1)) (wrap64 (2 * a1)))) - 1))) else (some (wrap64 (Int.tdiv (wrap64 ((wrap64 (2 * a0)) + a1)) (wrap64 (2 * a1))))))) = some r := h
  clear h
  by_cases c3 : (wrap64 (2 * a1)) = 0
  · rw [if_pos c3] at H
    exact absurd H (by simp)
  · rw [if_neg c3] at H
    have c3b0 : ((wrap64 (2 * a1)) == 0) = false := beq_eq_false_iff_ne.mpr c3
    have c3b1 : ((wrap64 (2 * a1)) != 0) = true := bne_iff_ne.mpr c3
    by_cases c4 : (Int.tmod (wrap64 ((wrap64 (2 * a0)) + a1)) (wrap64 (2 * a1))) < 0
    · rw [if_pos c4] at H
      have c4b0 : decide ((Int.tmod (wrap64 ((wrap64 (2 * a0)) + a1)) (wrap64 (2 * a1))) < 0) = true := decide_eq_true c4
      clear c4
      obtain rfl := Option.some.inj H
      go_enter Try.func34, Try.ntmps34
      go_wp2
      go_ret
      exact ⟨by first | rfl | (simp; done) | (simp [*]; done), by repeat (first | exact Drawn0.refl _ | apply Drawn0.step)⟩
    · rw [if_neg c4] at H
      have c4b0 : decide ((Int.tmod (wrap64 ((wrap64 (2 * a0)) + a1)) (wrap64 (2 * a1))) < 0) = false := decide_eq_false c4
      clear c4
      obtain rfl := Option.some.inj H
      go_enter Try.func34, Try.ntmps34
      go_wp2
      go_ret
      exact ⟨by first | rfl | (simp; done) | (simp [*]; done), by repeat (first | exact Drawn0.refl _ | apply Drawn0.step)⟩

end Go.Proofs.Ytknkiogjibpooab.Hp
