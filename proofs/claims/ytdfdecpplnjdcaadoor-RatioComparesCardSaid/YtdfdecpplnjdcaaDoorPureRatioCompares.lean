/- Ratios of small numbers are ordered as their products crosswise are: for every four numbers. -/
import Derived.Test.YtdfdecpplnjdcaaDoorHx3
import Derived.Test.YtdfdecpplnjdcaaDoorHx15
import Derived.Test.YtdfdecpplnjdcaaDoorBase
import Derived.Test.YtdfdecpplnjdcaaDoorRat
import Derived.Test.YtdfdecpplnjdcaaDoorRatAwake
namespace Go.Proofs.YtdfdecpplnjdcaaDoor.Pure
open Go.RowKit Go.Proofs.YtdfdecpplnjdcaaDoor.Hp Go.Proofs.YtdfdecpplnjdcaaDoorW.PrintWords Go.Proofs.YtdfdecpplnjdcaaDoorW.PrintLast Go.Proofs.YtdfdecpplnjdcaaDoorW.PrintMore
open Go.Proofs.YtdfdecpplnjdcaaDoor.Base Go.Proofs.YtdfdecpplnjdcaaDoor.Rat

theorem wf_u32 {x : Int} (h : (Lit.int .u32 x).wf = true) : 0 ≤ x ∧ x ≤ 4294967295 := by
  simp [Lit.wf, IntKind.min, IntKind.max, IntKind.signed, IntKind.bits] at h
  omega
theorem in_small {n d : Nat} (hn : n ≤ 2305843009213693952) (hd : 1 ≤ d) (hd2 : d ≤ 1152921504606846976) : In ((n / Nat.gcd n d : Nat) : Int) ((d / Nat.gcd n d : Nat) : Int) := by
  have g1 := Nat.div_le_self n (Nat.gcd n d)
  have g2 := Nat.div_le_self d (Nat.gcd n d)
  have g3 : 0 < d / Nat.gcd n d := Nat.div_pos (Nat.gcd_le_right _ (by omega)) (Nat.gcd_pos_of_pos_right _ (by omega))
  have g4 : (0 : Int) ≤ ((n / Nat.gcd n d : Nat) : Int) := Int.natCast_nonneg _
  exact ⟨by omega, by omega, by omega, by omega⟩

theorem made {n d : Nat} (hn : n ≤ 2305843009213693952) (hd : 1 ≤ d) (hd2 : d ≤ 1152921504606846976) :
    ∃ a b g : Nat, n = g * a ∧ d = g * b ∧ 0 < g ∧ VR (a : Int) (b : Int) ∧ ∃ K, ∀ k, K ≤ k → ratio_Make.f k (n : Int) (d : Int) = some ((a : Int), (b : Int), 0) := by
  have i1 := in_small hn hd hd2
  have v := VR.of_div (n := (n : Int)) (d := (d : Int)) (by omega) (by rw [Int.toNat_natCast, Int.toNat_natCast]; exact i1)
  obtain ⟨K, hK⟩ := make_ok (n := (n : Int)) (d := (d : Int)) (by omega) (by omega) (by omega) (by omega) (by rw [Int.toNat_natCast, Int.toNat_natCast]; exact i1)
  rw [Int.toNat_natCast, Int.toNat_natCast] at v hK
  exact ⟨_, _, Nat.gcd n d, (Nat.mul_div_cancel' (Nat.gcd_dvd_left n d)).symm, (Nat.mul_div_cancel' (Nat.gcd_dvd_right n d)).symm, Nat.gcd_pos_of_pos_right _ (by omega), v, K, hK⟩

theorem bind_of {α β : Type} {x : Option α} {a : α} {f : α → Option β} {r : Option β} (h : x = some a) (h2 : f a = r) : x.bind f = r := by
  rw [h]; exact h2
theorem four (g x h y : Int) : g * x * (h * y) = g * h * (x * y) := by grind
theorem four' (g x h y : Int) : h * x * (g * y) = g * h * (x * y) := by grind

theorem RatioCompares : shapesearchlaw01_RatioCompares.Pure := by
  intro a0 a1 a2 a3 h0 h1 h2 h3
  have w0 := wf_u32 h0
  have w1 := wf_u32 h1
  have w2 := wf_u32 h2
  have w3 := wf_u32 h3
  have t1 := tmod_nonneg' (a := a1) (b := 1073741824) w1.1 (by omega)
  have t3 := tmod_nonneg' (a := a3) (b := 1073741824) w3.1 (by omega)
  have e0 : wrap64 a0 = a0 := w64 (by omega) (by omega)
  have e1 : wrap64 a1 = a1 := w64 (by omega) (by omega)
  have e2 : wrap64 a2 = a2 := w64 (by omega) (by omega)
  have e3 : wrap64 a3 = a3 := w64 (by omega) (by omega)
  unfold shapesearchlaw01_RatioCompares.f
  rw [e0, e1, e2, e3]
  clear e0 e1 e2 e3
  generalize Int.tmod a1 1073741824 = u at *
  generalize Int.tmod a3 1073741824 = v at *
  rw [w64 (n := 1 + u) (by omega) (by omega), w64 (n := 1 + v) (by omega) (by omega)]
  obtain ⟨n, rfl⟩ := Int.eq_ofNat_of_zero_le w0.1
  obtain ⟨m, rfl⟩ := Int.eq_ofNat_of_zero_le w2.1
  obtain ⟨b, hb⟩ := Int.eq_ofNat_of_zero_le (show 0 ≤ 1 + u by omega)
  obtain ⟨d, hd⟩ := Int.eq_ofNat_of_zero_le (show 0 ≤ 1 + v by omega)
  rw [hb, hd]
  obtain ⟨x1, x2, g, gn, gb, g0, vx, K1, hK1⟩ := made (n := n) (d := b) (by omega) (by omega) (by omega)
  obtain ⟨y1, y2, h, hm, hd2, hh0, vy, K2, hK2⟩ := made (n := m) (d := d) (by omega) (by omega) (by omega)
  obtain ⟨K3, hK3⟩ := less_ok vx vy
  obtain ⟨K4, hK4⟩ := awake_ok
  refine ⟨K1 + K2 + K3 + K4 + 1, ?_⟩
  refine bind_of (hK1 _ (by omega)) (bind_of (hK2 _ (by omega)) ?_)
  rw [if_pos (by trivial)]
  simp only [shapesearchlaw01_RatioCompares.j0]
  rw [if_neg (by simp)]
  by_cases c0 : (n : Int) < 2147483648
  · rw [if_pos c0]
    by_cases c2 : (m : Int) < 2147483648
    · rw [if_pos c2, hK3 _ (by omega)]; simp only [Option.bind_some]
      have en : Int.tmod (n : Int) 2147483648 = (n : Int) := by rw [Int.tmod_eq_emod_of_nonneg (by omega)]; omega
      have em : Int.tmod (m : Int) 2147483648 = (m : Int) := by rw [Int.tmod_eq_emod_of_nonneg (by omega)]; omega
      have p1 := mul_bd' (a := (n : Int)) (b := (d : Int)) (A := 2147483648) (B := 1073741824) (by omega) (by omega) (by omega) (by omega)
      have p2 := mul_bd' (a := (m : Int)) (b := (b : Int)) (A := 2147483648) (B := 1073741824) (by omega) (by omega) (by omega) (by omega)
      rw [en, em, w64 (n := (n : Int) * (d : Int)) (by omega) (by omega), w64 (n := (m : Int) * (b : Int)) (by omega) (by omega)]
      have q1 : (n : Int) * (d : Int) = (g : Int) * (h : Int) * ((x1 : Int) * (y2 : Int)) := by rw [gn, hd2, Int.natCast_mul, Int.natCast_mul]; exact four _ _ _ _
      have q2 : (m : Int) * (b : Int) = (g : Int) * (h : Int) * ((y1 : Int) * (x2 : Int)) := by rw [hm, gb, Int.natCast_mul, Int.natCast_mul]; exact four' _ _ _ _
      have gh : 0 < (g : Int) * (h : Int) := Int.mul_pos (by omega) (by omega)
      rw [q1, q2]
      have l1 : decide ((x1 : Int) * (y2 : Int) < (y1 : Int) * (x2 : Int)) = decide ((g : Int) * (h : Int) * ((x1 : Int) * (y2 : Int)) < (g : Int) * (h : Int) * ((y1 : Int) * (x2 : Int))) := by
        rw [Bool.eq_iff_iff, decide_eq_true_eq, decide_eq_true_eq]
        exact ⟨fun z => Int.mul_lt_mul_of_pos_left z gh, fun z => Int.lt_of_mul_lt_mul_left z (by omega)⟩
      have l2 : ((x1 : Int) == (y1 : Int) && ((x2 : Int) == (y2 : Int))) = ((g : Int) * (h : Int) * ((x1 : Int) * (y2 : Int)) == (g : Int) * (h : Int) * ((y1 : Int) * (x2 : Int))) := by
        rw [Bool.eq_iff_iff, Bool.and_eq_true, beq_iff_eq, beq_iff_eq, beq_iff_eq]
        constructor
        · rintro ⟨z1, z2⟩; rw [z1, z2]
        · intro z; exact vx.ext vy (Int.eq_of_mul_eq_mul_left (by omega) z)
      rw [l1, if_neg (by simp), l2, if_neg (by simp), hK4 _ (by omega)]; rfl
    · rw [if_neg c2, hK4 _ (by omega)]; rfl
  · rw [if_neg c0, hK4 _ (by omega)]; rfl

end Go.Proofs.YtdfdecpplnjdcaaDoor.Pure
