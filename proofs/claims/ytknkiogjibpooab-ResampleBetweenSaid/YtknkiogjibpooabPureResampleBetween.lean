/- A linear value lies between its neighbours' values, moves from one to the other in one direction, and is at most half a sample away from the line: for every two short numbers and two bytes. -/
import Derived.Test.YtknkiogjibpooabHx10
import Derived.Test.YtknkiogjibpooabHx17
import Derived.Test.YtknkiogjibpooabHx20
import Derived.Test.YtknkiogjibpooabBase
import Derived.Test.YtknkiogjibpooabKeep
import Derived.Test.YtknkiogjibpooabRes
import Derived.Test.YtknkiogjibpooabAsc
namespace Go.Proofs.Ytknkiogjibpooab.Pure
open Go.RowKit Go.Proofs.Ytknkiogjibpooab.Hp Go.Proofs.YtknkiogjibpooabW.PrintWords Go.Proofs.YtknkiogjibpooabW.PrintLast Go.Proofs.YtknkiogjibpooabW.PrintMore
open Go.Proofs.Ytknkiogjibpooab.Base Go.Proofs.Ytknkiogjibpooab.Keep Go.Proofs.Ytknkiogjibpooab.Res

theorem wf_i16 {x : Int} (h : (Lit.int .i16 x).wf = true) : -32768 ≤ x ∧ x ≤ 32767 := by
  simp [Lit.wf, IntKind.min, IntKind.max, IntKind.signed, IntKind.bits] at h
  omega

def G (p q n k : Int) : Int := (2 * (p * (n - k) + q * k) + n) / (2 * n)
theorem G_bd {p q n k : Int} (hn : 0 < n) : 2 * n * G p q n k ≤ 2 * (p * (n - k) + q * k) + n ∧ 2 * (p * (n - k) + q * k) + n < 2 * n * G p q n k + 2 * n := by
  unfold G
  generalize 2 * (p * (n - k) + q * k) + n = a
  have h := Int.mul_ediv_add_emod a (2 * n)
  have h1 := Int.emod_nonneg a (show 2 * n ≠ 0 by omega)
  have h2 := Int.emod_lt_of_pos a (show 0 < 2 * n by omega)
  omega
theorem G_zero {p q n : Int} (hn : 0 < n) : G p q n 0 = p := by
  unfold G
  have e : 2 * (p * (n - 0) + q * 0) + n = n + 2 * n * p := by grind
  rw [e, Int.add_mul_ediv_left _ _ (by omega), Int.ediv_eq_zero_of_lt (by omega) (by omega)]; omega
theorem G_end {p q n : Int} (hn : 0 < n) : G p q n n = q := by
  unfold G
  have e : 2 * (p * (n - n) + q * n) + n = n + 2 * n * q := by grind
  rw [e, Int.add_mul_ediv_left _ _ (by omega), Int.ediv_eq_zero_of_lt (by omega) (by omega)]; omega
theorem G_le {p q n k b : Int} (hn : 0 < n) (h0 : 0 ≤ k) (h1 : k ≤ n) (hp : p ≤ b) (hq : q ≤ b) : G p q n k ≤ b := by
  have a1 := Int.mul_le_mul_of_nonneg_right hp (show 0 ≤ n - k by omega)
  have a2 := Int.mul_le_mul_of_nonneg_right hq h0
  have e : b * (n - k) + b * k = n * b := by grind
  have g := (G_bd (p := p) (q := q) (k := k) hn).1
  rcases Int.lt_or_le b (G p q n k) with c | c
  · have := Int.mul_le_mul_of_nonneg_left (show b + 1 ≤ G p q n k by omega) (show 0 ≤ 2 * n by omega)
    have e2 : 2 * n * (b + 1) = 2 * (n * b) + 2 * n := by grind
    omega
  · exact c
theorem G_ge {p q n k b : Int} (hn : 0 < n) (h0 : 0 ≤ k) (h1 : k ≤ n) (hp : b ≤ p) (hq : b ≤ q) : b ≤ G p q n k := by
  have a1 := Int.mul_le_mul_of_nonneg_right hp (show 0 ≤ n - k by omega)
  have a2 := Int.mul_le_mul_of_nonneg_right hq h0
  have e : b * (n - k) + b * k = n * b := by grind
  have g := (G_bd (p := p) (q := q) (k := k) hn).2
  rcases Int.lt_or_le (G p q n k) b with c | c
  · have := Int.mul_le_mul_of_nonneg_left (show G p q n k + 1 ≤ b by omega) (show 0 ≤ 2 * n by omega)
    have e2 : 2 * n * (G p q n k + 1) = 2 * n * G p q n k + 2 * n := by grind
    have e3 : 2 * n * b = 2 * (n * b) := by grind
    omega
  · exact c
theorem G_up {p q n k : Int} (hn : 0 < n) (h : p ≤ q) : G p q n k ≤ G p q n (k + 1) := by
  unfold G
  refine Int.ediv_le_ediv (by omega) ?_
  have e : p * (n - (k + 1)) + q * (k + 1) = p * (n - k) + q * k + (q - p) := by grind
  omega
theorem G_down {p q n k : Int} (hn : 0 < n) (h : q ≤ p) : G p q n (k + 1) ≤ G p q n k := by
  unfold G
  refine Int.ediv_le_ediv (by omega) ?_
  have e : p * (n - (k + 1)) + q * (k + 1) = p * (n - k) + q * k + (q - p) := by grind
  omega

theorem at_two {p q n k : Int} (p0 : -1000 ≤ p) (p1 : p ≤ 1000) (q0 : -1000 ≤ q) (q1 : q ≤ 1000) (n0 : 1 ≤ n) (n1 : n ≤ 300) (k0 : 0 ≤ k) (k1 : k ≤ n) :
    ∃ K, ∀ j, K ≤ j → resample_At.f j [(⟨100, p⟩ : S29), ⟨100 + n, q⟩] 0 1 0 3 n (100 + k) = some (G p q n k, true) := by
  obtain ⟨y, hy⟩ : ∃ y, y = [(⟨100, p⟩ : S29), ⟨100 + n, q⟩] := ⟨_, rfl⟩
  have yl : (y.length : Int) = 2 := by rw [hy]; rfl
  have t0 : T y 0 = 100 := by rw [hy]; rfl
  have t1 : T y 1 = 100 + n := by rw [hy]; rfl
  have v0 : V y 0 = p := by rw [hy]; rfl
  have v1 : V y 1 = q := by rw [hy]; rfl
  have two : ∀ i : Int, 0 ≤ i → i < (y.length : Int) → i = 0 ∨ i = 1 := by intro i h0 h1; omega
  have hr : Reg y := by
    refine ⟨by omega, ?_, ?_⟩
    · intro i h0 h1
      rcases two i h0 h1 with e | e
      · rw [e, t0, v0]; omega
      · rw [e, t1, v1]; omega
    · intro i h0 h1
      obtain rfl : i = 0 := by omega
      rw [t0, Int.zero_add, t1]; omega
  rw [← hy]
  have g := grid_ok (rule := 3) (reach := n) (by omega) (by omega) (by omega) (by omega)
  by_cases c0 : k = 0
  · obtain ⟨hp, hi⟩ := hr.self (i := 0) (by omega) (by omega)
    rw [t0] at hp hi
    obtain ⟨K, hK⟩ := at_ok hr hp (by omega) (by omega) g
    refine ⟨K, fun j hj => ?_⟩
    rw [c0, Int.add_zero, hK j hj, hi, G_zero (by omega)]
    have e1 : b1 y n 100 0 = true := by unfold b1; rw [t0]; simp; omega
    have e2 : b2 y n 100 0 = true := by unfold b2; rw [t0]; simp; omega
    rw [e1, e2]; unfold val; simp [v0]
  · by_cases c1 : k = n
    · obtain ⟨hp, hi⟩ := hr.self (i := 1) (by omega) (by omega)
      rw [t1] at hp hi
      obtain ⟨K, hK⟩ := at_ok hr hp (by omega) (by omega) g
      refine ⟨K, fun j hj => ?_⟩
      rw [c1, hK j hj, hi, G_end (by omega)]
      have e1 : b1 y n (100 + n) 1 = true := by unfold b1; rw [t1]; simp; omega
      have e2 : b2 y n (100 + n) 1 = true := by unfold b2; rw [t1]; simp; omega
      rw [e1, e2]; unfold val; simp [v1]
    · have hp : Pos y (100 + k) 1 := by
        refine ⟨by omega, by omega, fun a a0 a1 => ?_, fun a a0 a1 => ?_⟩
        · obtain rfl : a = 0 := by omega
          rw [t0]; omega
        · obtain rfl : a = 1 := by omega
          rw [t1]; omega
      have hi : ix y (100 + k) 1 = 0 := by unfold ix; rw [t1, if_neg (by omega)]; rfl
      obtain ⟨K, hK⟩ := at_ok hr hp (by omega) (by omega) g
      refine ⟨K, fun j hj => ?_⟩
      rw [hK j hj, hi]
      have e1 : b1 y n (100 + k) 0 = true := by unfold b1; rw [t0]; simp; omega
      have e2 : b2 y n (100 + k) 1 = true := by unfold b2; rw [t1]; simp; omega
      rw [e1, e2]; unfold val line G
      rw [t0, t1, v0, v1, show 100 + n - (100 + k) = n - k from by omega, show 100 + k - 100 = k from by omega, show 100 + n - 100 = n from by omega]
      simp

theorem ResampleBetween : shapesearchlaw08_ResampleBetween.Pure := by
  intro a0 a1 a2 a3 h0 h1 h2 h3
  have w0 := wf_i16 h0
  have w1 := wf_i16 h1
  have w2 := wf_u8 h2
  have w3 := wf_u8 h3
  have hp := tmod_pos (a := a0) (b := 1000) (by omega)
  have hq := tmod_pos (a := a1) (b := 1000) (by omega)
  have hk := tmod_nonneg' (a := a3) (b := 1 + a2) w3.1 (by omega)
  obtain ⟨K3, hK3⟩ := awake_ok
  have ea0 : wrap64 a0 = a0 := w64 (by omega) (by omega)
  have ea1 : wrap64 a1 = a1 := w64 (by omega) (by omega)
  have ea2 : wrap64 a2 = a2 := w64 (by omega) (by omega)
  have ea3 : wrap64 a3 = a3 := w64 (by omega) (by omega)
  have en : wrap64 (1 + a2) = 1 + a2 := w64 (by omega) (by omega)
  unfold shapesearchlaw08_ResampleBetween.f
  rw [ea0, ea1, ea2, ea3, en]
  clear ea0 ea1 ea2 ea3 en
  generalize Int.tmod a0 1000 = p at *
  generalize Int.tmod a1 1000 = q at *
  generalize Int.tmod a3 (1 + a2) = k at *
  obtain ⟨n, hn⟩ : ∃ n, n = 1 + a2 := ⟨_, rfl⟩
  rw [← hn] at hk ⊢
  have n0 : 1 ≤ n ∧ n ≤ 256 := by omega
  clear h0 h1 h2 h3 w0 w1 w2 w3 hn
  obtain ⟨K1, hK1⟩ := at_two (p := p) (q := q) (n := n) (k := k) (by omega) (by omega) (by omega) (by omega) n0.1 (by omega) hk.1 (by omega)
  obtain ⟨K2, hK2⟩ := at_two (p := p) (q := q) (n := n) (k := k + 1) (by omega) (by omega) (by omega) (by omega) n0.1 (by omega) (by omega) (by omega)
  have gl : G p q n k ≤ mx p q := G_le (by omega) hk.1 (by omega) (by unfold mx; split <;> omega) (by unfold mx; split <;> omega)
  have gg : mn p q ≤ G p q n k := G_ge (by omega) hk.1 (by omega) (by unfold mn; split <;> omega) (by unfold mn; split <;> omega)
  have gb := G_bd (p := p) (q := q) (k := k) (show 0 < n by omega)
  have gu := G_up (p := p) (q := q) (n := n) (k := k) (by omega)
  have gd := G_down (p := p) (q := q) (n := n) (k := k) (by omega)
  have g0 : -1000 ≤ G p q n k ∧ G p q n k ≤ 1000 := ⟨G_ge (by omega) hk.1 (by omega) (by omega) (by omega), G_le (by omega) hk.1 (by omega) (by omega) (by omega)⟩
  have m1 := mul_abs (a := p) (b := n - k) (A := 1000) (B := 256) (by omega) (by omega) (by omega) (by omega) (by omega)
  have m2 := mul_abs (a := q) (b := k) (A := 1000) (B := 256) (by omega) (by omega) (by omega) (by omega) (by omega)
  have m3 := mul_abs (a := G p q n k) (b := n) (A := 1000) (B := 256) (by omega) (by omega) (by omega) (by omega) (by omega)
  have e1 : 2 * n * G p q n k = 2 * (G p q n k * n) := by grind
  rw [e1] at gb
  generalize G p q n k = u at *
  generalize G p q n (k + 1) = v at *
  refine ⟨K1 + K2 + K3, ?_⟩
  have end_ : (if wrap64 (2 * wrap64 (wrap64 (wrap64 (p * wrap64 (n - k)) + wrap64 (q * k)) - wrap64 (u * n))) < n then if wrap64 (2 * wrap64 (wrap64 (wrap64 (p * wrap64 (n - k)) + wrap64 (q * k)) - wrap64 (u * n))) ≥ wrap64 (-n) then (shapesearchlaw08_awake.f (K1 + K2 + K3)).bind fun t => some t else none else none) = some true := by
    rw [w64 (n := n - k) (by omega) (by omega), w64 (n := p * (n - k)) (by omega) (by omega), w64 (n := q * k) (by omega) (by omega), w64 (n := u * n) (by omega) (by omega), w64 (n := p * (n - k) + q * k) (by omega) (by omega), w64 (n := p * (n - k) + q * k - u * n) (by omega) (by omega), w64 (n := 2 * (p * (n - k) + q * k - u * n)) (by omega) (by omega), w64 (n := -n) (by omega) (by omega), if_pos (by omega), if_pos (by omega), hK3 _ (by omega)]; rfl
  simp only [Option.bind_some, shapesearchlaw08_grid.f]
  rw [if_neg (by omega), w64 (n := 100 + n) (by omega) (by omega), w64 (n := 100 + k) (by omega) (by omega), w64 (n := 101 + k) (by omega) (by omega), hK1 _ (by omega)]; simp only [Option.bind_some]
  rw [show 101 + k = 100 + (k + 1) from by omega, hK2 _ (by omega)]; simp only [Option.bind_some]
  rw [if_pos (by trivial), if_pos (by trivial), if_neg (by omega), if_neg (by omega)]
  by_cases c : p ≤ q
  · have := gu c
    rw [if_pos c, if_neg (by omega)]
    by_cases c' : p ≥ q
    · have := gd c'
      rw [if_pos c', if_neg (by omega)]; exact end_
    · rw [if_neg c']; exact end_
  · have := gd (by omega)
    rw [if_neg c, if_pos (by omega), if_neg (by omega)]; exact end_

end Go.Proofs.Ytknkiogjibpooab.Pure
