/- The law UnitRounds, as plain mathematics. -/
import Derived.Test.YthbphpmiandmbaaDoorVg1
import Derived.Test.YthbphpmiandmbaaDoorVBase
import Derived.Test.YthbphpmiandmbaaDoorVUnit
set_option linter.unusedVariables false
namespace Go.Proofs.YthbphpmiandmbaaDoor.V
open Go.VI
theorem wf_i32 {x : Int} (h : Wf (.int .i32) x) : -2147483648 ≤ x ∧ x ≤ 2147483647 := by
  simp [Wf, Go.IntKind.min, Go.IntKind.max, Go.IntKind.signed, Go.IntKind.bits] at h
  omega
theorem UnitRounds_pure (digits mul div add : Int) (h1 : -2147483648 ≤ digits ∧ digits ≤ 2147483647) (h2 : 0 ≤ mul ∧ mul ≤ 255) (h3 : 0 ≤ div ∧ div ≤ 255) (h4 : -32768 ≤ add ∧ add ≤ 32767) :
    law04_UnitRounds.F ((digits, mul, div, add, ()), ()) = some ((true, ()), ()) := by
  have hn := tmod_pos (a := digits) (b := 1000000) (by omega)
  rw [law04_UnitRounds.F_eq, law04_UnitRounds.f]
  rw [w64 (n := digits) (by omega), w64 (n := mul) (by omega), w64 (n := div) (by omega), w64 (n := add) (by omega), w64 (n := 1 + mul) (by omega), w64 (n := 1 + div) (by omega)]
  generalize Int.tmod digits 1000000 = n at hn
  have b1 := mul_abs (a := n) (b := 1 + mul) (A := 1000000) (B := 256) (by omega) (by omega) (by omega) (by omega) (by omega)
  have e1 := conv_ok (nm := NmU) (by simp [Names]) (d := n) (p := 2) (T := 100) (m := 1 + mul) (a := add) (v := 1 + div) (by omega) (by omega) rfl (by omega) (by omega) (by omega)
  rw [w64 (n := n * (1 + mul)) (by omega), w64 (n := add * 100) (by omega), w64 (n := n * (1 + mul) + add * 100) (by omega), w64 (n := (1 + div) * 100) (by omega)]
  generalize hx : n * (1 + mul) + add * 100 = x at e1 ⊢
  generalize hy : (1 + div) * 100 = y at e1 ⊢
  have hs := sample_spec (a := x) (b := y) (by omega)
  rw [show unit_Convert.F ((((n:Int), ((2:Int), ())), (((ByteArray.mk #[(117:UInt8)]), ((1 + mul), (add, ((1 + div), ())))), ())), ()) = _ from e1]
  simp only [Option.bind_some]
  generalize sample x y = s at hs ⊢
  by_cases c : -1000 ≤ s ∧ s ≤ 1000
  · rw [if_pos c]
    have b2 := mul_abs (a := s) (b := y) (A := 1000) (B := 25600) (by omega) (by omega) (by omega) (by omega) (by omega)
    have b3 : 2 * y * s = 2 * (s * y) := by rw [Int.mul_assoc, Int.mul_comm y s]
    dsimp only
    rw [w64 (n := s * y) (by omega), w64 (n := x - s * y) (by omega), w64 (n := 2 * (x - s * y)) (by omega), w64 (n := 0 - y) (by omega),
      dt (by omega : 2 * (x - s * y) < y), dt (by omega : 2 * (x - s * y) ≥ 0 - y), awake_ok]
    rfl
  · rw [if_neg c]
    dsimp only
    have hk : (2 * x ≥ 2001 * y) ∨ ¬ (2 * x ≥ 2001 * y) ∧ 2 * x < -2001 * y := by
      by_cases c1 : s > 1000
      · left
        have := Int.mul_le_mul_of_nonneg_left (show 1001 ≤ s by omega) (show 0 ≤ 2 * y by omega)
        omega
      · right
        have := Int.mul_le_mul_of_nonneg_left (show s ≤ -1001 by omega) (show 0 ≤ 2 * y by omega)
        omega
    rw [show ((12 : Int) != 0) = true from rfl]
    simp only [cond_true]
    rw [law04_UnitRounds.L0_eq, law04_UnitRounds.f0, w64 (n := 2 * x) (by omega), w64 (n := 2001 * y) (by omega), w64 (n := -2001 * y) (by omega), awake_ok, show ((12 : Int) == 12) = true from rfl]
    rcases hk with k | ⟨k, k2⟩
    · rw [dt k]; rfl
    · rw [df k, dt k2]; rfl
theorem UnitRounds_true (x : law04_UnitRounds.sh.X) (h : dsWf law04_UnitRounds.sh.ds x.1) : law04_UnitRounds.F x = some ((true, ()), ()) := by
  obtain ⟨⟨a, b, c, d, _⟩, _⟩ := x
  obtain ⟨h1, h2, h3, h4, _⟩ := h
  exact UnitRounds_pure a b c d (wf_i32 h1) (wf_u8 h2) (wf_u8 h3) (wf_i16 h4)
end Go.Proofs.YthbphpmiandmbaaDoor.V
