/- Ratios: what Add computes. -/
import Derived.Test.YtdfdecpplnjdcaaDoorHx2
import Derived.Test.YtdfdecpplnjdcaaDoorHx4
import Derived.Test.YtdfdecpplnjdcaaDoorHx5
import Derived.Test.YtdfdecpplnjdcaaDoorHx6
import Derived.Test.YtdfdecpplnjdcaaDoorBase
import Derived.Test.YtdfdecpplnjdcaaDoorRat
import Derived.Test.YtdfdecpplnjdcaaDoorDiv
namespace Go.Proofs.YtdfdecpplnjdcaaDoor.RatAdd
open Go.RowKit Go.Proofs.YtdfdecpplnjdcaaDoor.Hp Go.Proofs.YtdfdecpplnjdcaaDoorW.PrintWords Go.Proofs.YtdfdecpplnjdcaaDoorW.PrintLast Go.Proofs.YtdfdecpplnjdcaaDoorW.PrintMore
open Go.Proofs.YtdfdecpplnjdcaaDoor.Base Go.Proofs.YtdfdecpplnjdcaaDoor.Rat Go.Proofs.YtdfdecpplnjdcaaDoor.Div

/-- The sum in lowest terms: coprime, and of the same value. -/
theorem red {a b c d g b' d' e g' s x : Nat} (hb : b = g * b') (hd : d = g * d') (hbd : Nat.Coprime b' d') (hs : s = a * d' + c * b') (hab : Nat.Coprime a b) (hcd : Nat.Coprime c d)
    (hx : s = e * x) (hge : g = e * g') (hxg : Nat.Coprime x g') : Nat.Coprime x (b' * (d' * g')) ∧ x * (b * d) = b' * (d' * g') * (a * d + c * b) := by
  constructor
  · have dx : x ∣ s := ⟨e, by rw [hx, Nat.mul_comm]⟩
    have ab' : Nat.Coprime a b' := (Nat.Coprime.coprime_dvd_left (show b' ∣ b from ⟨g, by rw [hb, Nat.mul_comm]⟩) hab.symm).symm
    have cd' : Nat.Coprime c d' := (Nat.Coprime.coprime_dvd_left (show d' ∣ d from ⟨g, by rw [hd, Nat.mul_comm]⟩) hcd.symm).symm
    have sb : Nat.Coprime s b' := by
      unfold Nat.Coprime
      rw [hs, Nat.gcd_add_mul_right_left]
      exact Nat.Coprime.mul_left ab' hbd.symm
    have sd : Nat.Coprime s d' := by
      unfold Nat.Coprime
      rw [hs, Nat.add_comm, Nat.gcd_add_mul_right_left]
      exact Nat.Coprime.mul_left cd' hbd
    exact Nat.Coprime.mul_right (Nat.Coprime.coprime_dvd_left dx sb) (Nat.Coprime.mul_right (Nat.Coprime.coprime_dvd_left dx sd) hxg)
  · have e1 : a * d + c * b = g * s := by rw [hs, hb, hd]; grind
    rw [e1, hb, hd, hx]
    have e2 : x * (g * b' * (g * d')) = x * b' * d' * g * g := by grind
    rw [e2]
    have e3 : b' * (d' * g') * (g * (e * x)) = x * b' * d' * g * (e * g') := by grind
    rw [e3, ← hge]

theorem addlo_eq {x y c : Nat} : addlo (x : Int) (y : Int) (c : Int) = (((x + y + c) % 18446744073709551616 : Nat) : Int) := by
  unfold addlo; rw [Int.toNat_natCast, Int.toNat_natCast, Int.toNat_natCast]
theorem addhi_eq {x y c : Nat} : addhi (x : Int) (y : Int) (c : Int) = (((x + y + c) / 18446744073709551616 : Nat) : Int) := by
  unfold addhi; rw [Int.toNat_natCast, Int.toNat_natCast, Int.toNat_natCast]

theorem addlo_eq0 {x y : Nat} : addlo (x : Int) (y : Int) 0 = (((x + y) % 18446744073709551616 : Nat) : Int) := addlo_eq (c := 0)
theorem addhi_eq0 {x y : Nat} : addhi (x : Int) (y : Int) 0 = (((x + y) / 18446744073709551616 : Nat) : Int) := addhi_eq (c := 0)

theorem mul64_nat {x y : Nat} (hx : x < 18446744073709551616) (hy : y < 18446744073709551616) : bits_Mul64.f (x : Int) (y : Int) = some (((x * y / 18446744073709551616 : Nat) : Int), ((x * y % 18446744073709551616 : Nat) : Int)) := by
  rw [mul64_ok (by omega) (by omega) (by omega) (by omega), ← Int.natCast_mul]; rfl
theorem div64_nat {h l n : Nat} (h1 : h < n) (h2 : n < 18446744073709551616) (h4 : l < 18446744073709551616) :
    ∃ K, ∀ k, K ≤ k → bits_Div64.f k (h : Int) (l : Int) (n : Int) = some ((((h * 18446744073709551616 + l) / n : Nat) : Int), (((h * 18446744073709551616 + l) % n : Nat) : Int)) := by
  obtain ⟨K, hK⟩ := div64_ok (a0 := (h : Int)) (a1 := (l : Int)) (a2 := (n : Int)) (by omega) (by omega) (by omega) (by omega) (by omega)
  refine ⟨K, fun k hk => ?_⟩
  rw [hK k hk]; rfl
theorem divisor_nat (a b : Nat) : ∃ K, ∀ k, K ≤ k → ratio_divisor.f k (a : Int) (b : Int) = some ((Nat.gcd a b : Nat) : Int) := by
  obtain ⟨K, hK⟩ := divisor_ok (a := (a : Int)) (b := (b : Int)) (by omega) (by omega)
  rw [Int.toNat_natCast, Int.toNat_natCast] at hK
  exact ⟨K, hK⟩

theorem bind_of {α β : Type} {x : Option α} {a : α} {f : α → Option β} {r : Option β} (h : x = some a) (h2 : f a = r) : x.bind f = r := by
  rw [h]; exact h2

/-- Add: the sum in lowest terms, if it is within the limits. -/
theorem add_ok {a b c d : Nat} (h : VR (a : Int) (b : Int)) (h' : VR (c : Int) (d : Int)) : ∃ x y : Nat, 1 ≤ y ∧ Nat.Coprime x y ∧ x * (b * d) = y * (a * d + c * b) ∧
    ∃ K, ∀ k, K ≤ k → ratio_Add.f k a b c d = some (if x ≤ 2305843009213693952 ∧ y ≤ 1152921504606846976 then ((x : Int), (y : Int), 0) else (0, 0, 4)) := by
  obtain ⟨K1, hK1⟩ := valid_ok h
  obtain ⟨K2, hK2⟩ := valid_ok h'
  obtain ⟨⟨a0, a1, b0, b1⟩, hab⟩ := h
  obtain ⟨⟨c0, c1, d0, d1⟩, hcd⟩ := h'
  rw [Int.toNat_natCast, Int.toNat_natCast] at hab hcd
  obtain ⟨g, hg⟩ : ∃ g, g = Nat.gcd b d := ⟨_, rfl⟩
  have g0 : 0 < g := by rw [hg]; exact Nat.gcd_pos_of_pos_left _ (by omega)
  obtain ⟨b', hb'⟩ : ∃ b', b' = b / g := ⟨_, rfl⟩
  obtain ⟨d', hd'⟩ : ∃ d', d' = d / g := ⟨_, rfl⟩
  have hb : b = g * b' := by rw [hb', hg]; exact (Nat.mul_div_cancel' (Nat.gcd_dvd_left b d)).symm
  have hd : d = g * d' := by rw [hd', hg]; exact (Nat.mul_div_cancel' (Nat.gcd_dvd_right b d)).symm
  have hbd : Nat.Coprime b' d' := by rw [hb', hd', hg]; exact Nat.coprime_div_gcd_div_gcd (by rw [← hg]; exact g0)
  have gb : g ≤ b := by rw [hg]; exact Nat.gcd_le_left _ (by omega)
  have lb : b' ≤ b := by rw [hb']; exact Nat.div_le_self _ _
  have ld : d' ≤ d := by rw [hd']; exact Nat.div_le_self _ _
  have b'0 : 0 < b' := by rcases Nat.eq_zero_or_pos b' with z | z
                          · rw [z] at hb; omega
                          · exact z
  have d'0 : 0 < d' := by rcases Nat.eq_zero_or_pos d' with z | z
                          · rw [z] at hd; omega
                          · exact z
  obtain ⟨p, hp⟩ : ∃ p, p = a * d' := ⟨_, rfl⟩
  obtain ⟨q, hq⟩ : ∃ q, q = c * b' := ⟨_, rfl⟩
  have p1 : p ≤ 2305843009213693952 * 1152921504606846976 := by rw [hp]; exact Nat.mul_le_mul (by omega) (by omega)
  have q1 : q ≤ 2305843009213693952 * 1152921504606846976 := by rw [hq]; exact Nat.mul_le_mul (by omega) (by omega)
  obtain ⟨s, hs⟩ : ∃ s, s = p + q := ⟨_, rfl⟩
  obtain ⟨e, he⟩ : ∃ e, e = Nat.gcd (s % g) g := ⟨_, rfl⟩
  have he2 : e = Nat.gcd s g := by rw [he, Nat.gcd_comm, Nat.gcd_comm s g, Nat.gcd_rec g s, Nat.gcd_comm g]
  have e0 : 0 < e := by rw [he]; exact Nat.gcd_pos_of_pos_right _ g0
  have eg : e ≤ g := by rw [he]; exact Nat.gcd_le_right _ g0
  obtain ⟨x, hx⟩ : ∃ x, x = s / e := ⟨_, rfl⟩
  obtain ⟨g', hg'⟩ : ∃ g', g' = g / e := ⟨_, rfl⟩
  have sx : s = e * x := by rw [hx, he2]; exact (Nat.mul_div_cancel' (Nat.gcd_dvd_left s g)).symm
  have gg : g = e * g' := by rw [hg', he2]; exact (Nat.mul_div_cancel' (Nat.gcd_dvd_right s g)).symm
  have xg : Nat.Coprime x g' := by rw [hx, hg', he2]; exact Nat.coprime_div_gcd_div_gcd (by rw [← he2]; exact e0)
  have g'0 : 0 < g' := by rcases Nat.eq_zero_or_pos g' with z | z
                          · rw [z] at gg; omega
                          · exact z
  have de : d / e = d' * g' := by
    have : d = d' * g' * e := by rw [hd, gg]; grind
    rw [this, Nat.mul_div_cancel _ e0]
  obtain ⟨r1, r2⟩ := red hb hd hbd (by rw [hs, hp, hq]) hab hcd sx gg xg
  have dg1 : d' * g' ≤ d := by rw [← de]; exact Nat.div_le_self _ _
  obtain ⟨y, hy⟩ : ∃ y, y = b' * (d' * g') := ⟨_, rfl⟩
  have y0 : 0 < y := by rw [hy]; exact Nat.mul_pos b'0 (Nat.mul_pos d'0 g'0)
  rw [← hy] at r1 r2
  refine ⟨x, y, y0, r1, r2, ?_⟩
  obtain ⟨K3, hK3⟩ := divisor_nat b d
  rw [← hg] at hK3
  obtain ⟨K4, hK4⟩ := div64_nat (h := s / 18446744073709551616 % g) (l := s % 18446744073709551616) (n := g) (Nat.mod_lt _ g0) (by omega) (Nat.mod_lt _ (by omega))
  have hm : (s / 18446744073709551616 % g * 18446744073709551616 + s % 18446744073709551616) % g = s % g := by
    rw [Nat.add_mod, Nat.mod_mul_mod, ← Nat.add_mod, Nat.mul_comm, Nat.div_add_mod]
  rw [hm] at hK4
  obtain ⟨K5, hK5⟩ := divisor_nat (s % g) g
  rw [← he] at hK5
  have sg : s % g < g := Nat.mod_lt _ g0
  have pq : p / 18446744073709551616 < 18446744073709551616 ∧ q / 18446744073709551616 < 18446744073709551616 := by omega
  have hi : addlo ((p / 18446744073709551616 : Nat) : Int) ((q / 18446744073709551616 : Nat) : Int) (addhi ((p % 18446744073709551616 : Nat) : Int) ((q % 18446744073709551616 : Nat) : Int) 0) = ((s / 18446744073709551616 : Nat) : Int) := by
    rw [addhi_eq0, addlo_eq]; congr 1; omega
  have lo : addlo ((p % 18446744073709551616 : Nat) : Int) ((q % 18446744073709551616 : Nat) : Int) 0 = ((s % 18446744073709551616 : Nat) : Int) := by
    rw [addlo_eq0]; congr 1; omega
  have cy : addhi ((p % 18446744073709551616 : Nat) : Int) ((q % 18446744073709551616 : Nat) : Int) 0 ≤ 1 := by
    rw [addhi_eq0]; omega
  have m1 : bits_Mul64.f (a : Int) (d' : Int) = some (((p / 18446744073709551616 : Nat) : Int), ((p % 18446744073709551616 : Nat) : Int)) := by rw [hp]; exact mul64_nat (by omega) (by omega)
  have m2 : bits_Mul64.f (c : Int) (b' : Int) = some (((q / 18446744073709551616 : Nat) : Int), ((q % 18446744073709551616 : Nat) : Int)) := by rw [hq]; exact mul64_nat (by omega) (by omega)
  have m3 : bits_Mul64.f (b' : Int) ((d / e : Nat) : Int) = some (((y / 18446744073709551616 : Nat) : Int), ((y % 18446744073709551616 : Nat) : Int)) := by rw [hy, de]; exact mul64_nat (by omega) (by omega)
  have t1 : Int.tdiv (d : Int) (g : Int) = (d' : Int) := by rw [hd']; rfl
  have t2 : Int.tdiv (b : Int) (g : Int) = (b' : Int) := by rw [hb']; rfl
  have t3 : Int.tdiv (d : Int) (e : Int) = ((d / e : Nat) : Int) := rfl
  have t4 : Int.tmod ((s / 18446744073709551616 : Nat) : Int) (g : Int) = ((s / 18446744073709551616 % g : Nat) : Int) := rfl
  have sm : s / 18446744073709551616 * 18446744073709551616 + s % 18446744073709551616 = s := by omega
  have de1 : d / e ≤ d := Nat.div_le_self _ _
  have main : ∃ K, ∀ k, K ≤ k → ratio_Add.j0 k false a b c d = some (if x ≤ 2305843009213693952 ∧ y ≤ 1152921504606846976 then ((x : Int), (y : Int), 0) else (0, 0, 4)) := by
    by_cases hz : e ≤ s / 18446744073709551616
    · have xb : 18446744073709551616 ≤ x := by
        rw [hx, Nat.le_div_iff_mul_le e0]
        have := Nat.mul_le_mul_left 18446744073709551616 hz
        omega
      refine ⟨K3 + K4 + K5 + 1, fun k hk => ?_⟩
      obtain ⟨k, rfl, hk'⟩ := succ_of hk
      simp only [ratio_Add.j0]
      rw [if_neg (by simp)]
      refine bind_of (hK3 _ (by omega)) ?_
      rw [if_neg (by omega), t1, t2, w64 (n := (d' : Int)) (by omega) (by omega), w64 (n := (b' : Int)) (by omega) (by omega), u64_id (n := (a : Int)) (by omega) (by omega), u64_id (n := (c : Int)) (by omega) (by omega), u64_id (n := (d' : Int)) (by omega) (by omega), u64_id (n := (b' : Int)) (by omega) (by omega)]
      refine bind_of m1 (bind_of m2 ?_)
      rw [if_pos cy, u64_id (n := (g : Int)) (by omega) (by omega), if_neg (by omega), hi, lo, t4]
      refine bind_of (hK4 _ (by omega)) ?_
      rw [w64 (n := ((s % g : Nat) : Int)) (by omega) (by omega)]
      refine bind_of (hK5 _ (by omega)) ?_
      rw [u64_id (n := (e : Int)) (by omega) (by omega), if_pos (by omega), if_neg (by omega)]
    · obtain ⟨K6, hK6⟩ := div64_nat (h := s / 18446744073709551616) (l := s % 18446744073709551616) (n := e) (by omega) (by omega) (Nat.mod_lt _ (by omega))
      rw [sm, ← hx] at hK6
      refine ⟨K3 + K4 + K5 + K6 + 1, fun k hk => ?_⟩
      obtain ⟨k, rfl, hk'⟩ := succ_of hk
      simp only [ratio_Add.j0]
      rw [if_neg (by simp)]
      refine bind_of (hK3 _ (by omega)) ?_
      rw [if_neg (by omega), t1, t2, w64 (n := (d' : Int)) (by omega) (by omega), w64 (n := (b' : Int)) (by omega) (by omega), u64_id (n := (a : Int)) (by omega) (by omega), u64_id (n := (c : Int)) (by omega) (by omega), u64_id (n := (d' : Int)) (by omega) (by omega), u64_id (n := (b' : Int)) (by omega) (by omega)]
      refine bind_of m1 (bind_of m2 ?_)
      rw [if_pos cy, u64_id (n := (g : Int)) (by omega) (by omega), if_neg (by omega), hi, lo, t4]
      refine bind_of (hK4 _ (by omega)) ?_
      rw [w64 (n := ((s % g : Nat) : Int)) (by omega) (by omega)]
      refine bind_of (hK5 _ (by omega)) ?_
      rw [u64_id (n := (e : Int)) (by omega) (by omega), if_neg (by omega)]
      refine bind_of (hK6 _ (by omega)) ?_
      rw [if_neg (by omega), u64_id (n := (d : Int)) (by omega) (by omega), t3, u64_id (n := ((d / e : Nat) : Int)) (by omega) (by omega)]
      refine bind_of m3 ?_
      by_cases z1 : x ≤ 2305843009213693952
      · rw [if_neg (by omega)]
        by_cases z2 : y ≤ 1152921504606846976
        · rw [if_neg (by omega), if_neg (by omega), if_pos ⟨z1, z2⟩, w64 (n := (x : Int)) (by omega) (by omega), show y % 18446744073709551616 = y by omega, w64 (n := (y : Int)) (by omega) (by omega)]
        · rw [if_neg (show ¬ (x ≤ 2305843009213693952 ∧ y ≤ 1152921504606846976) by omega)]
          by_cases z3 : 0 < y / 18446744073709551616
          · rw [if_pos (by omega)]
          · rw [if_neg (by omega), if_pos (by omega)]
      · rw [if_pos (by omega), if_neg (by omega)]
  obtain ⟨K7, hK7⟩ := main
  refine ⟨K1 + K2 + K7, fun k hk => ?_⟩
  unfold ratio_Add.f
  refine bind_of (hK1 _ (by omega)) ?_
  rw [if_pos (by trivial)]
  refine bind_of (hK2 _ (by omega)) ?_
  exact hK7 _ (by omega)

end Go.Proofs.YtdfdecpplnjdcaaDoor.RatAdd
