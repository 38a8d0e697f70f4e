/- A factor of both numbers does not matter, and a result is in lowest terms: for every three short numbers. -/
import Derived.Test.YtdfdecpplnjdcaaDoorHx8
import Derived.Test.YtdfdecpplnjdcaaDoorBase
import Derived.Test.YtdfdecpplnjdcaaDoorRat
import Derived.Test.YtdfdecpplnjdcaaDoorRatAwake
namespace Go.Proofs.YtdfdecpplnjdcaaDoor.Pure
open Go.RowKit Go.Proofs.YtdfdecpplnjdcaaDoor.Hp Go.Proofs.YtdfdecpplnjdcaaDoorW.PrintWords Go.Proofs.YtdfdecpplnjdcaaDoorW.PrintLast Go.Proofs.YtdfdecpplnjdcaaDoorW.PrintMore
open Go.Proofs.YtdfdecpplnjdcaaDoor.Base Go.Proofs.YtdfdecpplnjdcaaDoor.Rat

theorem wf_u16 {x : Int} (h : (Lit.int .u16 x).wf = true) : 0 ≤ x ∧ x ≤ 65535 := by
  simp [Lit.wf, IntKind.min, IntKind.max, IntKind.signed, IntKind.bits] at h
  omega
theorem in_small {n d : Nat} (hn : n ≤ 2305843009213693952) (hd : 1 ≤ d) (hd2 : d ≤ 1152921504606846976) : In ((n / Nat.gcd n d : Nat) : Int) ((d / Nat.gcd n d : Nat) : Int) := by
  have g1 := Nat.div_le_self n (Nat.gcd n d)
  have g2 := Nat.div_le_self d (Nat.gcd n d)
  have g3 : 0 < d / Nat.gcd n d := Nat.div_pos (Nat.gcd_le_right _ (by omega)) (Nat.gcd_pos_of_pos_right _ (by omega))
  have g4 : (0 : Int) ≤ ((n / Nat.gcd n d : Nat) : Int) := Int.natCast_nonneg _
  exact ⟨by omega, by omega, by omega, by omega⟩

theorem cross_div {n d g a b : Nat} (h1 : g * a = n) (h2 : g * b = d) : a * d = n * b := by subst h1; subst h2; grind

theorem RatioMakes : shapesearchlaw01_RatioMakes.Pure := by
  intro a0 a1 a2 h0 h1 h2
  have w0 := wf_u16 h0
  have w1 := wf_u16 h1
  have w2 := wf_u16 h2
  obtain ⟨n, rfl⟩ := Int.eq_ofNat_of_zero_le w0.1
  obtain ⟨d, hd⟩ := Int.eq_ofNat_of_zero_le (show 0 ≤ 1 + a1 by omega)
  obtain ⟨f, hf⟩ := Int.eq_ofNat_of_zero_le (show 0 ≤ 1 + a2 by omega)
  have hd' : 1 ≤ d ∧ d ≤ 65536 := by omega
  have hf' : 1 ≤ f ∧ f ≤ 65536 := by omega
  have hnf : n * f ≤ 65535 * 65536 := Nat.mul_le_mul (by omega) hf'.2
  have hdf : d * f ≤ 65536 * 65536 := Nat.mul_le_mul hd'.2 hf'.2
  have hdf1 : 1 ≤ d * f := Nat.mul_pos (by omega) (by omega)
  have i1 := in_small (n := n) (d := d) (by omega) hd'.1 (by omega)
  have i2 := in_small (n := n * f) (d := d * f) (by omega) hdf1 (by omega)
  obtain ⟨K1, hK1⟩ := make_ok (n := (n : Int)) (d := (d : Int)) (by omega) (by omega) (by omega) (by omega) (by rw [Int.toNat_natCast, Int.toNat_natCast]; exact i1)
  obtain ⟨K2, hK2⟩ := make_ok (n := ((n * f : Nat) : Int)) (d := ((d * f : Nat) : Int)) (by omega) (by omega) (by omega) (by omega) (by rw [Int.toNat_natCast, Int.toNat_natCast]; exact i2)
  have v := VR.of_div (n := (n : Int)) (d := (d : Int)) (by omega) (by rw [Int.toNat_natCast, Int.toNat_natCast]; exact i1)
  rw [Int.toNat_natCast, Int.toNat_natCast] at hK1 hK2 v
  obtain ⟨K3, hK3⟩ := valid_ok v
  obtain ⟨K4, hK4⟩ := awake_ok
  rw [Nat.gcd_mul_right, Nat.mul_div_mul_right _ _ (by omega), Nat.mul_div_mul_right _ _ (by omega)] at hK2
  have g0 : 0 < Nat.gcd n d := Nat.gcd_pos_of_pos_right _ (by omega)
  have en : n / Nat.gcd n d * d = n * (d / Nat.gcd n d) :=
    cross_div (Nat.mul_div_cancel' (Nat.gcd_dvd_left n d)) (Nat.mul_div_cancel' (Nat.gcd_dvd_right n d))
  have b1 := Nat.div_le_self n (Nat.gcd n d)
  have b2 := Nat.div_le_self d (Nat.gcd n d)
  have m1 : n / Nat.gcd n d * d ≤ 65535 * 65536 := Nat.mul_le_mul (by omega) hd'.2
  refine ⟨K1 + K2 + K3 + K4, ?_⟩
  unfold shapesearchlaw01_RatioMakes.f
  rw [w64 (n := (n : Int)) (by omega) (by omega), w64 (n := a1) (by omega) (by omega), w64 (n := a2) (by omega) (by omega), hd, hf, w64 (n := (d : Int)) (by omega) (by omega), w64 (n := (f : Int)) (by omega) (by omega), ← Int.natCast_mul, ← Int.natCast_mul, w64 (n := ((n * f : Nat) : Int)) (by omega) (by omega), w64 (n := ((d * f : Nat) : Int)) (by omega) (by omega)]
  rw [hK1 _ (by omega)]; simp only [Option.bind_some]
  rw [hK2 _ (by omega)]; simp only [Option.bind_some]
  rw [if_pos (by trivial), if_pos (by trivial), if_pos (by simp), ← Int.natCast_mul, ← Int.natCast_mul, en, if_pos rfl, hK3 _ (by omega)]; simp only [Option.bind_some]
  rw [if_pos (by trivial), hK4 _ (by omega)]; rfl

end Go.Proofs.YtdfdecpplnjdcaaDoor.Pure
