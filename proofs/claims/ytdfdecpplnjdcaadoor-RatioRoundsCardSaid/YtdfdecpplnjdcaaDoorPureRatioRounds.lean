/- Floor and Ceil are the nearest integers below and above, and equal exactly for integers: for every list. -/
import Derived.Test.YtdfdecpplnjdcaaDoorHx3
import Derived.Test.YtdfdecpplnjdcaaDoorHx7
import Derived.Test.YtdfdecpplnjdcaaDoorHx17
import Derived.Test.YtdfdecpplnjdcaaDoorHx18
import Derived.Test.YtdfdecpplnjdcaaDoorBase
import Derived.Test.YtdfdecpplnjdcaaDoorKeep
import Derived.Test.YtdfdecpplnjdcaaDoorRat
import Derived.Test.YtdfdecpplnjdcaaDoorRatAwake
namespace Go.Proofs.YtdfdecpplnjdcaaDoor.Pure
open Go.RowKit Go.Proofs.YtdfdecpplnjdcaaDoor.Hp Go.Proofs.YtdfdecpplnjdcaaDoorW.PrintWords Go.Proofs.YtdfdecpplnjdcaaDoorW.PrintLast Go.Proofs.YtdfdecpplnjdcaaDoorW.PrintMore
open Go.Proofs.YtdfdecpplnjdcaaDoor.Base Go.Proofs.YtdfdecpplnjdcaaDoor.Keep Go.Proofs.YtdfdecpplnjdcaaDoor.Rat

theorem VR.whole {n : Int} (h0 : 0 ≤ n) (h1 : n ≤ 2305843009213693952) : VR n 1 := ⟨⟨h0, h1, by omega, by omega⟩, by rw [show (1 : Int).toNat = 1 from rfl, Nat.gcd_one_right]⟩
theorem make_whole {n : Int} (h0 : 0 ≤ n) (h1 : n ≤ 2305843009213693952) : ∃ K, ∀ k, K ≤ k → ratio_Make.f k n 1 = some (n, 1, 0) := by
  have e : Nat.gcd n.toNat (1 : Int).toNat = 1 := by rw [show (1 : Int).toNat = 1 from rfl, Nat.gcd_one_right]
  have e1 : ((n.toNat / Nat.gcd n.toNat (1 : Int).toNat : Nat) : Int) = n := by rw [e, Nat.div_one, Int.toNat_of_nonneg h0]
  have e2 : (((1 : Int).toNat / Nat.gcd n.toNat (1 : Int).toNat : Nat) : Int) = 1 := by rw [e]; rfl
  have := make_ok (n := n) (d := 1) h0 (by omega) (by omega) (by omega) (by rw [e1, e2]; exact (VR.whole h0 h1).1)
  rwa [e1, e2] at this

theorem RatioRounds : shapesearchlaw01_RatioRounds.Pure := by
  intro l _ _ hl
  obtain ⟨L, e0, hL⟩ := new_ok l hl
  obtain ⟨a, b, j1, ⟨K1, hK1⟩, hj1, hab⟩ := src_ratio hL
  obtain ⟨⟨a0, a1, b0, b1⟩, hg⟩ := id hab
  obtain ⟨K2, hK2⟩ := valid_ok hab
  have q0 := Int.mul_ediv_add_emod a b
  have r0 := Int.emod_nonneg a (show b ≠ 0 by omega)
  have r1 := Int.emod_lt_of_pos a (show 0 < b by omega)
  have q1 : 0 ≤ a / b := Int.ediv_nonneg a0 (by omega)
  have q2 : a / b ≤ a := Int.ediv_le_self b a0
  have big : 2 ≤ b → 2 * (a / b) ≤ a := by
    intro h
    have := Int.mul_le_mul_of_nonneg_right h q1
    omega
  have et : Int.tdiv a b = a / b := Int.tdiv_eq_ediv_of_nonneg a0
  have em : Int.tmod a b = a % b := Int.tmod_eq_emod_of_nonneg a0
  have flo : ∀ k, K2 ≤ k → ratio_Floor.f k a b = some (a / b) := by
    intro k hk
    unfold ratio_Floor.f
    rw [hK2 k hk]; simp only [Option.bind_some]
    rw [if_pos (by trivial), if_neg (by omega), et, w64 (by omega) (by omega)]
  have cei : ∀ k, K2 ≤ k → ratio_Ceil.f k a b = some (if a % b = 0 then a / b else a / b + 1) := by
    intro k hk
    unfold ratio_Ceil.f
    rw [hK2 k hk]; simp only [Option.bind_some]
    rw [if_pos (by trivial), if_neg (by omega), et, em, w64 (n := a / b) (by omega) (by omega), w64 (n := a / b + 1) (by omega) (by omega)]
    split <;> rfl
  have one : a % b = 0 ↔ b = 1 := by
    constructor
    · intro h
      have hd : b.toNat ∣ a.toNat := by
        have : (b.toNat : Int) ∣ (a.toNat : Int) := by rw [Int.toNat_of_nonneg a0, Int.toNat_of_nonneg (by omega)]; exact Int.dvd_of_emod_eq_zero h
        exact_mod_cast this
      have := Nat.gcd_eq_right hd
      omega
    · intro h; rw [h]; exact Int.emod_one a
  obtain ⟨hi, hhi⟩ : ∃ hi, hi = (if a % b = 0 then a / b else a / b + 1) := ⟨_, rfl⟩
  rw [← hhi] at cei
  have hc : (a % b = 0 ∧ hi = a / b) ∨ (a % b ≠ 0 ∧ hi = a / b + 1) := by
    rw [hhi]
    by_cases c : a % b = 0
    · rw [if_pos c]; exact .inl ⟨c, rfl⟩
    · rw [if_neg c]; exact .inr ⟨c, rfl⟩
  have hhi2 : 0 ≤ hi ∧ hi ≤ 2305843009213693952 := by
    rcases hc with hc | hc
    · omega
    · have : b ≠ 1 := fun h => hc.1 (one.2 h)
      have := big (by omega)
      omega
  obtain ⟨K3, hK3⟩ := make_whole q1 (by omega)
  obtain ⟨K4, hK4⟩ := make_whole hhi2.1 hhi2.2
  obtain ⟨K5, hK5⟩ := less_ok hab (VR.whole q1 (by omega))
  obtain ⟨K6, hK6⟩ := less_ok (VR.whole hhi2.1 hhi2.2) hab
  obtain ⟨K7, hK7⟩ := awake_ok
  have n1 : decide (a * 1 < a / b * b) = false := by
    rw [decide_eq_false_iff_not, Int.mul_comm (a / b) b]; omega
  have n2 : decide (hi * b < a * 1) = false := by
    rw [decide_eq_false_iff_not]
    rcases hc with hc | hc
    · rw [hc.2, Int.mul_comm (a / b) b]; omega
    · rw [hc.2, Int.add_mul, Int.mul_comm (a / b) b]; omega
  have eqs : (a / b == hi) = (b == 1) := by
    rw [Bool.eq_iff_iff, beq_iff_eq, beq_iff_eq, ← one]; omega
  have j0 : ∀ k, K4 + K6 + K7 ≤ k → shapesearchlaw01_RatioRounds.j0 (k + 1) hi false a b = some true := by
    intro k hk
    simp only [shapesearchlaw01_RatioRounds.j0]
    rw [if_neg (by simp), hK4 _ (by omega)]; simp only [Option.bind_some]
    rw [if_pos (by trivial), hK6 _ (by omega), n2]; simp only [Option.bind_some]
    rw [if_neg (by simp), hK7 _ (by omega)]; rfl
  refine ⟨K1 + K2 + K3 + K4 + K5 + K6 + K7 + 1, ?_⟩
  have hj := j0 (K1 + K2 + K3 + K4 + K5 + K6 + K7) (by omega)
  unfold shapesearchlaw01_RatioRounds.f
  rw [e0]; simp only [Option.bind_some]
  rw [hK1 _ (by omega)]; simp only [Option.bind_some]
  rw [flo _ (by omega)]; simp only [Option.bind_some]
  rw [cei _ (by omega)]; simp only [Option.bind_some]
  rw [hK3 _ (by omega)]; simp only [Option.bind_some]
  rw [if_pos (by trivial), hK5 _ (by omega), n1]; simp only [Option.bind_some]
  rw [if_neg (by simp), eqs, if_neg (by simp), w64 (n := hi - a / b) (by omega) (by omega)]
  by_cases c : hi - a / b = 0
  · rw [if_pos c]; exact hj
  · rw [if_neg c, show hi - a / b = 1 from by omega]; exact hj

end Go.Proofs.YtdfdecpplnjdcaaDoor.Pure
