/- Addition is commutative, associative where it stays within the limits, has 0 as its neutral element, and keeps the order: for every list. -/
import Derived.Test.YtdfdecpplnjdcaaDoorHx4
import Derived.Test.YtdfdecpplnjdcaaDoorHx6
import Derived.Test.YtdfdecpplnjdcaaDoorHx16
import Derived.Test.YtdfdecpplnjdcaaDoorBase
import Derived.Test.YtdfdecpplnjdcaaDoorKeep
import Derived.Test.YtdfdecpplnjdcaaDoorRat
import Derived.Test.YtdfdecpplnjdcaaDoorRatAwake
import Derived.Test.YtdfdecpplnjdcaaDoorDiv
import Derived.Test.YtdfdecpplnjdcaaDoorRatAdd
namespace Go.Proofs.YtdfdecpplnjdcaaDoor.Pure
open Go.RowKit Go.Proofs.YtdfdecpplnjdcaaDoor.Hp Go.Proofs.YtdfdecpplnjdcaaDoorW.PrintWords Go.Proofs.YtdfdecpplnjdcaaDoorW.PrintLast Go.Proofs.YtdfdecpplnjdcaaDoorW.PrintMore
open Go.Proofs.YtdfdecpplnjdcaaDoor.Base Go.Proofs.YtdfdecpplnjdcaaDoor.Keep Go.Proofs.YtdfdecpplnjdcaaDoor.Rat Go.Proofs.YtdfdecpplnjdcaaDoor.RatAdd

/-- What Add tells of a sum in lowest terms. -/
def res (x y : Nat) : Int × Int × Int := if x ≤ 2305843009213693952 ∧ y ≤ 1152921504606846976 then ((x : Int), (y : Int), 0) else (0, 0, 4)
theorem res_cases (x y : Nat) : (res x y = ((x : Int), (y : Int), 0) ∧ x ≤ 2305843009213693952 ∧ y ≤ 1152921504606846976) ∨ res x y = (0, 0, 4) := by
  unfold res
  by_cases h : x ≤ 2305843009213693952 ∧ y ≤ 1152921504606846976
  · exact Or.inl ⟨if_pos h, h⟩
  · exact Or.inr (if_neg h)
/-- The sum of two ratios, in lowest terms. -/
structure Sum (a b c d x y : Nat) : Prop where
  y0 : 1 ≤ y
  co : Nat.Coprime x y
  eq : x * (b * d) = y * (a * d + c * b)
theorem Sum.vr {a b c d x y : Nat} (s : Sum a b c d x y) (h1 : x ≤ 2305843009213693952) (h2 : y ≤ 1152921504606846976) : VR (x : Int) (y : Int) := by
  have := s.y0
  exact ⟨⟨by omega, by omega, by omega, by omega⟩, by rw [Int.toNat_natCast, Int.toNat_natCast]; exact s.co⟩
theorem sum_ok {a b c d : Nat} (h : VR (a : Int) (b : Int)) (h' : VR (c : Int) (d : Int)) : ∃ x y : Nat, Sum a b c d x y ∧ ∃ K, ∀ k, K ≤ k → ratio_Add.f k a b c d = some (res x y) := by
  obtain ⟨x, y, y0, co, eq, hK⟩ := add_ok h h'
  exact ⟨x, y, ⟨y0, co, eq⟩, hK⟩
theorem uniq {x y x' y' : Nat} (h : Nat.Coprime x y) (h' : Nat.Coprime x' y') (hy : 0 < y) (e : x * y' = x' * y) : x = x' ∧ y = y' := by
  have h1 : y ∣ y' := (Nat.Coprime.symm h : Nat.Coprime y x).dvd_of_dvd_mul_left (by rw [e]; exact Nat.dvd_mul_left _ _)
  have h2 : y' ∣ y := (Nat.Coprime.symm h' : Nat.Coprime y' x').dvd_of_dvd_mul_left (by rw [← e]; exact Nat.dvd_mul_left _ _)
  have hbd : y = y' := Nat.dvd_antisymm h1 h2
  subst hbd
  exact ⟨Nat.eq_of_mul_eq_mul_right hy e, rfl⟩
theorem uniq_of {x y x' y' D M : Nat} (h : Nat.Coprime x y) (h' : Nat.Coprime x' y') (hy : 0 < y) (hD : 0 < D) (e : x * D = y * M) (e' : x' * D = y' * M) : x = x' ∧ y = y' := by
  refine uniq h h' hy (Nat.eq_of_mul_eq_mul_right hD ?_)
  have f1 : x * y' * D = x * D * y' := by grind
  have f2 : x' * y * D = x' * D * y := by grind
  rw [f1, f2, e, e']; grind
theorem Sum.comm {a b c d x y x' y' : Nat} (s : Sum a b c d x y) (s' : Sum c d a b x' y') (hb : 0 < b) (hd : 0 < d) : x = x' ∧ y = y' := by
  refine uniq_of s.co s'.co s.y0 (Nat.mul_pos hb hd) s.eq ?_
  have := s'.eq
  rw [Nat.mul_comm b d, this, Nat.add_comm]
theorem Sum.zero {a b x y : Nat} (s : Sum a b 0 1 x y) (h : Nat.Coprime a b) : x = a ∧ y = b := by
  have e := s.eq
  rw [Nat.mul_one, Nat.mul_one, Nat.zero_mul, Nat.add_zero] at e
  exact uniq s.co h s.y0 (by rw [e, Nat.mul_comm])
/-- (a + c) + e. -/
theorem Sum.left {a b c d e f x y u v : Nat} (s : Sum a b c d x y) (t : Sum x y e f u v) : u * (b * d * f) = v * (a * d * f + c * b * f + e * b * d) := by
  have e1 := s.eq
  have e2 := t.eq
  refine Nat.eq_of_mul_eq_mul_right s.y0 ?_
  have f1 : u * (b * d * f) * y = u * (y * f) * (b * d) := by grind
  rw [f1, e2]
  have f2 : v * (x * f + e * y) * (b * d) = v * (f * (x * (b * d)) + e * y * (b * d)) := by grind
  rw [f2, e1]; grind
/-- a + (c + e). -/
theorem Sum.right {a b c d e f x y u v : Nat} (s : Sum c d e f x y) (t : Sum a b x y u v) : u * (b * d * f) = v * (a * d * f + c * b * f + e * b * d) := by
  have e1 := s.eq
  have e2 := t.eq
  refine Nat.eq_of_mul_eq_mul_right s.y0 ?_
  have f1 : u * (b * d * f) * y = u * (b * y) * (d * f) := by grind
  rw [f1, e2]
  have f2 : v * (a * y + x * b) * (d * f) = v * (a * y * (d * f) + b * (x * (d * f))) := by grind
  rw [f2, e1]; grind
theorem sgn_of {P Q A B : Int} (hA : 0 < A) (hB : 0 < B) (e : P * A = Q * B) : (P < 0 ↔ Q < 0) ∧ (P = 0 ↔ Q = 0) := by
  rcases (show P < 0 ∨ P = 0 ∨ 0 < P by omega) with p | p | p <;> rcases (show Q < 0 ∨ Q = 0 ∨ 0 < Q by omega) with q | q | q
  · omega
  · have := Int.mul_neg_of_neg_of_pos p hA; rw [q] at e; omega
  · have := Int.mul_neg_of_neg_of_pos p hA; have := Int.mul_pos q hB; omega
  · have := Int.mul_neg_of_neg_of_pos q hB; rw [p] at e; omega
  · omega
  · have := Int.mul_pos q hB; rw [p] at e; omega
  · have := Int.mul_neg_of_neg_of_pos q hB; have := Int.mul_pos p hA; omega
  · have := Int.mul_pos p hA; rw [q] at e; omega
  · omega
/-- Of a + e and c + e. -/
theorem Sum.keeps {a b c d e f x y u v : Nat} (hb : 0 < b) (hd : 0 < d) (hf : 0 < f) (s : Sum a b e f x y) (t : Sum c d e f u v) :
    sgn ((x : Int) * (v : Int)) ((u : Int) * (y : Int)) = sgn ((a : Int) * (d : Int)) ((c : Int) * (b : Int)) := by
  have e1 : (x : Int) * ((b : Int) * (f : Int)) = (y : Int) * ((a : Int) * (f : Int) + (e : Int) * (b : Int)) := by exact_mod_cast s.eq
  have e2 : (u : Int) * ((d : Int) * (f : Int)) = (v : Int) * ((c : Int) * (f : Int) + (e : Int) * (d : Int)) := by exact_mod_cast t.eq
  have y0 := s.y0
  have v0 := t.y0
  have A0 : 0 < (b : Int) * (f : Int) * ((d : Int) * (f : Int)) := Int.mul_pos (Int.mul_pos (by omega) (by omega)) (Int.mul_pos (by omega) (by omega))
  have B0 : 0 < (y : Int) * (v : Int) * ((f : Int) * (f : Int)) := Int.mul_pos (Int.mul_pos (by omega) (by omega)) (Int.mul_pos (by omega) (by omega))
  have key : ((x : Int) * (v : Int) - (u : Int) * (y : Int)) * ((b : Int) * (f : Int) * ((d : Int) * (f : Int))) = ((a : Int) * (d : Int) - (c : Int) * (b : Int)) * ((y : Int) * (v : Int) * ((f : Int) * (f : Int))) := by
    have f1 : ((x : Int) * (v : Int) - (u : Int) * (y : Int)) * ((b : Int) * (f : Int) * ((d : Int) * (f : Int))) = (x : Int) * ((b : Int) * (f : Int)) * (v : Int) * ((d : Int) * (f : Int)) - (u : Int) * ((d : Int) * (f : Int)) * (y : Int) * ((b : Int) * (f : Int)) := by grind
    rw [f1, e1, e2]; grind
  have k := sgn_of A0 B0 key
  unfold sgn
  by_cases c1 : (a : Int) * (d : Int) < (c : Int) * (b : Int)
  · rw [if_pos c1, if_pos (by omega)]
  · rw [if_neg c1, if_neg (by omega)]
    by_cases c2 : (a : Int) * (d : Int) = (c : Int) * (b : Int)
    · rw [if_pos c2, if_pos (by omega)]
    · rw [if_neg c2, if_neg (by omega)]
theorem Sum.grows {a b c d x y : Nat} (hd : 0 < d) (s : Sum a b c d x y) : ¬ ((x : Int) * (b : Int) < (a : Int) * (y : Int)) := by
  intro z
  have e := s.eq
  have z' : x * b < a * y := by exact_mod_cast z
  have z2 := Nat.mul_lt_mul_of_pos_right z' hd
  have f1 : x * (b * d) = x * b * d := by grind
  have f2 : y * (a * d + c * b) = a * y * d + y * (c * b) := by grind
  omega

theorem no_valid (k : Nat) : ratio_Valid.f k 0 0 = some false := by
  unfold ratio_Valid.f
  rw [within_ok]; rfl

theorem add_no1 {c d : Int} (k : Nat) : ratio_Add.f (k + 1) 0 0 c d = some (0, 0, 1) := by
  unfold ratio_Add.f
  refine bind_of (no_valid _) ?_
  rw [if_neg (by simp)]
  simp only [ratio_Add.j0]
  rw [if_pos (by trivial)]
theorem add_no2 {a b : Int} (h : VR a b) : ∃ K, ∀ k, K ≤ k → ratio_Add.f k a b 0 0 = some (0, 0, 1) := by
  obtain ⟨K, hK⟩ := valid_ok h
  refine ⟨K + 1, fun k hk => ?_⟩
  obtain ⟨k, rfl, hk'⟩ := succ_of hk
  unfold ratio_Add.f
  refine bind_of (hK _ (by omega)) ?_
  rw [if_pos (by trivial)]
  refine bind_of (no_valid _) ?_
  simp only [ratio_Add.j0]
  rw [if_pos (by trivial)]

theorem j2_ok {a b p q x8 : Int} (hab : VR a b) (h : x8 = 0 → VR p q ∧ ¬ p * b < a * q) : ∃ K, ∀ k, K ≤ k → shapesearchlaw01_RatioSums.j2 k x8 false a b p q = some true := by
  obtain ⟨K1, hK1⟩ := awake_ok
  by_cases z : x8 = 0
  · obtain ⟨hpq, hl⟩ := h z
    obtain ⟨K2, hK2⟩ := valid_ok hpq
    obtain ⟨K3, hK3⟩ := less_ok hpq hab
    refine ⟨K1 + K2 + K3 + 1, fun k hk => ?_⟩
    obtain ⟨k, rfl, hk'⟩ := succ_of hk
    simp only [shapesearchlaw01_RatioSums.j2]
    rw [if_neg (by simp), if_pos z]
    refine bind_of (hK2 _ (by omega)) ?_
    rw [if_pos (by trivial)]
    refine bind_of (hK3 _ (by omega)) ?_
    rw [decide_eq_false hl, if_neg (by simp)]
    exact bind_of (hK1 _ (by omega)) rfl
  · refine ⟨K1 + 1, fun k hk => ?_⟩
    obtain ⟨k, rfl, hk'⟩ := succ_of hk
    simp only [shapesearchlaw01_RatioSums.j2]
    rw [if_neg (by simp), if_neg z]
    exact bind_of (hK1 _ (by omega)) rfl

theorem j1_ok {a b c d e f x5 y5 : Nat} {p q x8 v1 v2 x16 : Int} (hab : VR (a : Int) (b : Int)) (hcd : VR (c : Int) (d : Int)) (hef : VR (e : Int) (f : Int)) (s5 : Sum c d e f x5 y5) (hv : res x5 y5 = (v1, v2, x16))
    (h : x8 = 0 → VR p q ∧ ¬ p * (b : Int) < (a : Int) * q) : ∃ K, ∀ k, K ≤ k → shapesearchlaw01_RatioSums.j1 k x8 x16 false a b c d e f p q v1 v2 = some true := by
  obtain ⟨K1, hK1⟩ := j2_ok hab h
  obtain ⟨x7, y7, s7, K2, hK2⟩ := sum_ok hab hef
  have b0 := hab.1.2.2.1; have d0 := hcd.1.2.2.1; have f0 := hef.1.2.2.1
  rcases res_cases x7 y7 with ⟨r7, l7, m7⟩ | r7
  · rcases res_cases x5 y5 with ⟨r5, l5, m5⟩ | r5
    · rw [r5] at hv
      simp only [Prod.mk.injEq] at hv
      obtain ⟨rfl, rfl, rfl⟩ := hv
      obtain ⟨K3, hK3⟩ := cmp_ok (s7.vr l7 m7) (s5.vr l5 m5)
      obtain ⟨K4, hK4⟩ := cmp_ok hab hcd
      rw [s7.keeps (by omega) (by omega) (by omega) s5] at hK3
      refine ⟨K1 + K2 + K3 + K4 + 1, fun k hk => ?_⟩
      obtain ⟨k, rfl, hk'⟩ := succ_of hk
      simp only [shapesearchlaw01_RatioSums.j1]
      rw [if_neg (by simp)]
      refine bind_of (hK2 _ (by omega)) ?_
      rw [r7]
      rw [if_pos (by trivial), if_pos (by trivial)]
      refine bind_of (hK3 _ (by omega)) (bind_of (hK4 _ (by omega)) ?_)
      rw [bne_self_eq_false]
      exact hK1 _ (by omega)
    · rw [r5] at hv
      simp only [Prod.mk.injEq] at hv
      obtain ⟨rfl, rfl, rfl⟩ := hv
      refine ⟨K1 + K2 + 1, fun k hk => ?_⟩
      obtain ⟨k, rfl, hk'⟩ := succ_of hk
      simp only [shapesearchlaw01_RatioSums.j1]
      rw [if_neg (by simp)]
      refine bind_of (hK2 _ (by omega)) ?_
      rw [r7]
      rw [if_pos (by trivial), if_neg (by decide)]
      exact hK1 _ (by omega)
  · refine ⟨K1 + K2 + 1, fun k hk => ?_⟩
    obtain ⟨k, rfl, hk'⟩ := succ_of hk
    simp only [shapesearchlaw01_RatioSums.j1]
    rw [if_neg (by simp)]
    refine bind_of (hK2 _ (by omega)) ?_
    rw [r7]
    rw [if_neg (by decide)]
    exact hK1 _ (by omega)

theorem j0_ok {a b c d e f x1 y1 : Nat} {p q x8 : Int} (hab : VR (a : Int) (b : Int)) (hcd : VR (c : Int) (d : Int)) (hef : VR (e : Int) (f : Int)) (s1 : Sum a b c d x1 y1) (hv : res x1 y1 = (p, q, x8)) :
    ∃ K, ∀ k, K ≤ k → shapesearchlaw01_RatioSums.j0 k x8 false a b c d e f p q = some true := by
  have b0 := hab.1.2.2.1; have d0 := hcd.1.2.2.1; have f0 := hef.1.2.2.1
  obtain ⟨x5, y5, s5, K2, hK2⟩ := sum_ok hcd hef
  obtain ⟨v1, v2, x16, r5⟩ : ∃ v1 v2 x16, res x5 y5 = (v1, v2, x16) := ⟨_, _, _, rfl⟩
  have h : x8 = 0 → VR p q ∧ ¬ p * (b : Int) < (a : Int) * q := by
    intro z
    rcases res_cases x1 y1 with ⟨r1, l1, m1⟩ | r1
    · rw [r1] at hv
      simp only [Prod.mk.injEq] at hv
      obtain ⟨rfl, rfl, _⟩ := hv
      exact ⟨s1.vr l1 m1, s1.grows (by omega)⟩
    · rw [r1] at hv
      simp only [Prod.mk.injEq] at hv
      omega
  obtain ⟨K1, hK1⟩ := j1_ok hab hcd hef s5 r5 h
  rw [r5] at hK2
  -- the third sum, whatever it is
  obtain ⟨o6, K3, hK3, h6⟩ : ∃ o6 : Int × Int × Int, ∃ K3, (∀ k, K3 ≤ k → ratio_Add.f k a b v1 v2 = some o6) ∧ (o6.2.2 = 0 → x16 = 0 → ∃ x6 y6, Sum a b x5 y5 x6 y6 ∧ o6.1 = (x6 : Nat) ∧ o6.2.1 = (y6 : Nat)) := by
    rcases res_cases x5 y5 with ⟨r, l, m⟩ | r
    · rw [r] at r5
      simp only [Prod.mk.injEq] at r5
      obtain ⟨rfl, rfl, rfl⟩ := r5
      obtain ⟨x6, y6, s6, K3, hK3⟩ := sum_ok hab (s5.vr l m)
      refine ⟨res x6 y6, K3, hK3, ?_⟩
      intro z _
      rcases res_cases x6 y6 with ⟨r', _, _⟩ | r'
      · exact ⟨x6, y6, s6, by rw [r'], by rw [r']⟩
      · rw [r'] at z; exact absurd z (by decide)
    · rw [r] at r5
      simp only [Prod.mk.injEq] at r5
      obtain ⟨rfl, rfl, rfl⟩ := r5
      obtain ⟨K3, hK3⟩ := add_no2 hab
      exact ⟨_, K3, hK3, fun z _ => absurd z (by decide)⟩
  obtain ⟨o4, K4, hK4, h4⟩ : ∃ o4 : Int × Int × Int, ∃ K4, (∀ k, K4 ≤ k → ratio_Add.f k p q e f = some o4) ∧ (o4.2.2 = 0 → x8 = 0 → ∃ x4 y4, Sum x1 y1 e f x4 y4 ∧ o4.1 = (x4 : Nat) ∧ o4.2.1 = (y4 : Nat)) := by
    rcases res_cases x1 y1 with ⟨r, l, m⟩ | r
    · rw [r] at hv
      simp only [Prod.mk.injEq] at hv
      obtain ⟨rfl, rfl, rfl⟩ := hv
      obtain ⟨x4, y4, s4, K4, hK4⟩ := sum_ok (s1.vr l m) hef
      refine ⟨res x4 y4, K4, hK4, ?_⟩
      intro z _
      rcases res_cases x4 y4 with ⟨r', _, _⟩ | r'
      · exact ⟨x4, y4, s4, by rw [r'], by rw [r']⟩
      · rw [r'] at z; exact absurd z (by decide)
    · rw [r] at hv
      simp only [Prod.mk.injEq] at hv
      obtain ⟨rfl, rfl, rfl⟩ := hv
      refine ⟨(0, 0, 1), 1, ?_, fun z _ => absurd z (by decide)⟩
      intro k hk
      obtain ⟨k, rfl, hk'⟩ := succ_of hk
      exact add_no1 k
  have same : x8 = 0 → o4.2.2 = 0 → x16 = 0 → o6.2.2 = 0 → (!(o4.1 == o6.1) || (!(o4.2.1 == o6.2.1))) = false := by
    intro z1 z2 z3 z4
    obtain ⟨x4, y4, s4, e1, e2⟩ := h4 z2 z1
    obtain ⟨x6, y6, s6, e3, e4⟩ := h6 z4 z3
    have u := uniq_of s4.co s6.co s4.y0 (Nat.mul_pos (Nat.mul_pos (show 0 < b by omega) (show 0 < d by omega)) (show 0 < f by omega)) (s1.left s4) (s5.right s6)
    rw [e1, e2, e3, e4, u.1, u.2]
    simp
  refine ⟨K1 + K2 + K3 + K4 + 1, fun k hk => ?_⟩
  obtain ⟨k, rfl, hk'⟩ := succ_of hk
  have hj := hK1 k (by omega)
  simp only [shapesearchlaw01_RatioSums.j0]
  rw [if_neg (by simp)]
  refine bind_of (hK4 _ (by omega)) (bind_of (hK2 _ (by omega)) (bind_of (hK3 _ (by omega)) ?_))
  by_cases z1 : x8 = 0
  · rw [if_pos z1]
    by_cases z2 : o4.2.2 = 0
    · rw [if_pos z2]
      by_cases z3 : x16 = 0
      · rw [if_pos z3]
        by_cases z4 : o6.2.2 = 0
        · rw [if_pos z4, same z1 z2 z3 z4]; exact hj
        · rw [if_neg z4]; exact hj
      · rw [if_neg z3]; exact hj
    · rw [if_neg z2]; exact hj
  · rw [if_neg z1]; exact hj

theorem RatioSums : shapesearchlaw01_RatioSums.Pure := by
  intro l _ _ hl
  obtain ⟨L, e0, hL⟩ := new_ok l hl
  obtain ⟨a, b, j1, ⟨K1, hK1⟩, hj1, hab⟩ := src_ratio hL
  obtain ⟨c, d, j2, ⟨K2, hK2⟩, hj2, hcd⟩ := src_ratio hj1
  obtain ⟨e, f, j3, ⟨K3, hK3⟩, hj3, hef⟩ := src_ratio hj2
  obtain ⟨a, rfl⟩ := Int.eq_ofNat_of_zero_le hab.1.1
  obtain ⟨b, rfl⟩ := Int.eq_ofNat_of_zero_le (show 0 ≤ b by have := hab.1.2.2.1; omega)
  obtain ⟨c, rfl⟩ := Int.eq_ofNat_of_zero_le hcd.1.1
  obtain ⟨d, rfl⟩ := Int.eq_ofNat_of_zero_le (show 0 ≤ d by have := hcd.1.2.2.1; omega)
  obtain ⟨e, rfl⟩ := Int.eq_ofNat_of_zero_le hef.1.1
  obtain ⟨f, rfl⟩ := Int.eq_ofNat_of_zero_le (show 0 ≤ f by have := hef.1.2.2.1; omega)
  have b0 := hab.1.2.2.1; have d0 := hcd.1.2.2.1
  obtain ⟨x1, y1, s1, K4, hK4⟩ := sum_ok hab hcd
  obtain ⟨x2, y2, s2, K5, hK5⟩ := sum_ok hcd hab
  obtain ⟨x3, y3, s3, K6, hK6⟩ := sum_ok (c := 0) (d := 1) hab ⟨⟨by omega, by omega, by omega, by omega⟩, by decide⟩
  have u2 := s1.comm s2 (by omega) (by omega)
  have g := hab.2
  rw [Int.toNat_natCast, Int.toNat_natCast] at g
  have u3 := s3.zero g
  rw [← u2.1, ← u2.2] at hK5
  have r3 : res x3 y3 = ((a : Int), (b : Int), 0) := by
    have l1 := hab.1.2.1; have l2 := hab.1.2.2.2
    unfold res
    rw [u3.1, u3.2, if_pos ⟨by omega, by omega⟩]
  rw [r3] at hK6
  obtain ⟨p, q, x8, r1⟩ : ∃ p q x8, res x1 y1 = (p, q, x8) := ⟨_, _, _, rfl⟩
  rw [r1] at hK4 hK5
  obtain ⟨K7, hK7⟩ := j0_ok hab hcd hef s1 r1
  refine ⟨K1 + K2 + K3 + K4 + K5 + K6 + K7, ?_⟩
  unfold shapesearchlaw01_RatioSums.f
  refine bind_of e0 (bind_of (hK1 _ (by omega)) (bind_of (hK2 _ (by omega)) (bind_of (hK3 _ (by omega)) (bind_of (hK4 _ (by omega)) (bind_of (hK5 _ (by omega)) (bind_of (hK6 _ (by omega)) ?_))))))
  rw [if_neg (by simp), if_pos (by trivial), if_neg (by simp)]
  exact hK7 _ (by omega)

end Go.Proofs.YtdfdecpplnjdcaaDoor.Pure
