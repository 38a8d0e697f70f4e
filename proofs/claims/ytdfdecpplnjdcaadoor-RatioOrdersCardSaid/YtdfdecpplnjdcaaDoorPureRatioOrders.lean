/- Cmp is a total order in which equal ratios are equal in both fields, and Less is part of it: for every list. -/
import Derived.Test.YtdfdecpplnjdcaaDoorHx14
import Derived.Test.YtdfdecpplnjdcaaDoorBase
import Derived.Test.YtdfdecpplnjdcaaDoorKeep
import Derived.Test.YtdfdecpplnjdcaaDoorRat
import Derived.Test.YtdfdecpplnjdcaaDoorRatAwake
namespace Go.Proofs.YtdfdecpplnjdcaaDoor.Pure
open Go.RowKit Go.Proofs.YtdfdecpplnjdcaaDoor.Hp Go.Proofs.YtdfdecpplnjdcaaDoorW.PrintWords Go.Proofs.YtdfdecpplnjdcaaDoorW.PrintLast Go.Proofs.YtdfdecpplnjdcaaDoorW.PrintMore
open Go.Proofs.YtdfdecpplnjdcaaDoor.Base Go.Proofs.YtdfdecpplnjdcaaDoor.Keep Go.Proofs.YtdfdecpplnjdcaaDoor.Rat

theorem sgn_neg (p q : Int) : sgn p q = -(sgn q p) := by unfold sgn; split <;> split <;> (try split) <;> (try split) <;> omega
theorem sgn_cases (p q : Int) : (sgn p q = -1 ∧ p < q) ∨ (sgn p q = 0 ∧ p = q) ∨ (sgn p q = 1 ∧ q < p) := by unfold sgn; split <;> (try split) <;> omega

/-- Of three ratios with positive denominators. -/
theorem cross {a b c d e f : Int} (hb : 1 ≤ b) (hd : 1 ≤ d) (hf : 1 ≤ f) (h1 : a * d ≤ c * b) (h2 : c * f ≤ e * d) : a * f ≤ e * b := by
  have x1 := Int.mul_le_mul_of_nonneg_right h1 (show 0 ≤ f by omega)
  have x2 := Int.mul_le_mul_of_nonneg_right h2 (show 0 ≤ b by omega)
  have e1 : a * d * f = d * (a * f) := by grind
  have e2 : c * b * f = c * f * b := by grind
  have e3 : e * d * b = d * (e * b) := by grind
  exact Int.le_of_mul_le_mul_left (show d * (a * f) ≤ d * (e * b) by omega) (by omega)

theorem RatioOrders : shapesearchlaw01_RatioOrders.Pure := by
  intro l _ _ hl
  obtain ⟨L, e0, hL⟩ := new_ok l hl
  obtain ⟨a, b, j1, ⟨K1, hK1⟩, hj1, hab⟩ := src_ratio hL
  obtain ⟨c, d, j2, ⟨K2, hK2⟩, hj2, hcd⟩ := src_ratio hj1
  obtain ⟨e, f, j3, ⟨K3, hK3⟩, hj3, hef⟩ := src_ratio hj2
  obtain ⟨K4, hK4⟩ := cmp_ok hab hcd
  obtain ⟨K5, hK5⟩ := cmp_ok hcd hef
  obtain ⟨K6, hK6⟩ := cmp_ok hab hef
  obtain ⟨K7, hK7⟩ := cmp_ok hcd hab
  obtain ⟨K8, hK8⟩ := less_ok hab hcd
  obtain ⟨K9, hK9⟩ := cmp_ok hab hab
  obtain ⟨K10, hK10⟩ := awake_ok
  have t1 := cross (a := a) (b := b) (c := c) (d := d) (e := e) (f := f) hab.1.2.2.1 hcd.1.2.2.1 hef.1.2.2.1
  have t2 := cross (a := e) (b := f) (c := c) (d := d) (e := a) (f := b) hef.1.2.2.1 hcd.1.2.2.1 hab.1.2.2.1
  have x := sgn_cases (a * d) (c * b)
  have y := sgn_cases (c * f) (e * d)
  have z := sgn_cases (a * f) (e * b)
  have u := sgn_neg (a * d) (c * b)
  have eqs : (sgn (a * d) (c * b) == 0) = (a == c && (b == d)) := by
    rw [Bool.eq_iff_iff, beq_iff_eq, Bool.and_eq_true, beq_iff_eq, beq_iff_eq]
    constructor
    · intro h; exact hab.ext hcd (by omega)
    · rintro ⟨rfl, rfl⟩; unfold sgn; rw [if_neg (by omega), if_pos rfl]
  have les : decide (a * d < c * b) = decide (sgn (a * d) (c * b) < 0) := by
    rw [Bool.eq_iff_iff, decide_eq_true_eq, decide_eq_true_eq]; omega
  have self : sgn (a * b) (a * b) = 0 := by unfold sgn; rw [if_neg (by omega), if_pos rfl]
  have j0 : ∀ k, K9 + K10 ≤ k → shapesearchlaw01_RatioOrders.j0 (k + 1) false a b = some true := by
    intro k hk
    simp only [shapesearchlaw01_RatioOrders.j0]
    rw [if_neg (by simp), hK9 _ (by omega), self]; simp only [Option.bind_some]
    rw [if_pos (by trivial), hK10 _ (by omega)]; rfl
  have w : wrap64 (-(sgn (c * b) (a * d))) = sgn (a * d) (c * b) := by rw [w64 (by omega) (by omega)]; exact u.symm
  refine ⟨K1 + K2 + K3 + K4 + K5 + K6 + K7 + K8 + K9 + K10 + 1, ?_⟩
  have hj := j0 (K1 + K2 + K3 + K4 + K5 + K6 + K7 + K8 + K9 + K10) (by omega)
  unfold shapesearchlaw01_RatioOrders.f
  rw [e0]; simp only [Option.bind_some]
  rw [hK1 _ (by omega)]; simp only [Option.bind_some]
  rw [hK2 _ (by omega)]; simp only [Option.bind_some]
  rw [hK3 _ (by omega)]; simp only [Option.bind_some]
  rw [hK4 _ (by omega)]; simp only [Option.bind_some]
  rw [hK5 _ (by omega)]; simp only [Option.bind_some]
  rw [hK6 _ (by omega)]; simp only [Option.bind_some]
  rw [hK7 _ (by omega)]; simp only [Option.bind_some]
  rw [w, if_pos rfl, eqs, if_neg (by simp), hK8 _ (by omega)]; simp only [Option.bind_some]
  rw [les, if_neg (by simp)]
  clear les eqs self w u
  generalize sgn (a * d) (c * b) = s1 at *
  generalize sgn (c * f) (e * d) = s2 at *
  generalize sgn (a * f) (e * b) = s3 at *
  have n1 : s1 ≤ 0 → s2 ≤ 0 → ¬ s3 > 0 := by intro q1 q2; have := t1 (by omega) (by omega); omega
  have n2 : s1 ≥ 0 → s2 ≥ 0 → ¬ s3 < 0 := by intro q1 q2; have := t2 (by omega) (by omega); omega
  have tail : (if s1 ≥ 0 then if s2 ≥ 0 then shapesearchlaw01_RatioOrders.j0 (K1 + K2 + K3 + K4 + K5 + K6 + K7 + K8 + K9 + K10 + 1) (decide (s3 < 0)) a b else shapesearchlaw01_RatioOrders.j0 (K1 + K2 + K3 + K4 + K5 + K6 + K7 + K8 + K9 + K10 + 1) false a b else shapesearchlaw01_RatioOrders.j0 (K1 + K2 + K3 + K4 + K5 + K6 + K7 + K8 + K9 + K10 + 1) false a b) = some true := by
    by_cases q1 : s1 ≥ 0
    · rw [if_pos q1]
      by_cases q2 : s2 ≥ 0
      · rw [if_pos q2, decide_eq_false (n2 q1 q2)]; exact hj
      · rw [if_neg q2]; exact hj
    · rw [if_neg q1]; exact hj
  by_cases q1 : s1 ≤ 0
  · rw [if_pos q1]
    by_cases q2 : s2 ≤ 0
    · rw [if_pos q2, if_neg (n1 q1 q2)]; exact tail
    · rw [if_neg q2]; exact tail
  · rw [if_neg q1]; exact tail

end Go.Proofs.YtdfdecpplnjdcaaDoor.Pure
