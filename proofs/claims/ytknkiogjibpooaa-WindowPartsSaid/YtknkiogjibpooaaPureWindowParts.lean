/- Stats of two neighbouring parts add up to those of both; and the variance of both is at least the sum of their variances: for every list and every two bytes. -/
import Derived.Test.YtknkiogjibpooaaHx16
import Derived.Test.YtknkiogjibpooaaBase
import Derived.Test.YtknkiogjibpooaaKeep
import Derived.Test.YtknkiogjibpooaaWin
namespace Go.Proofs.Ytknkiogjibpooaa.Pure
open Go.RowKit Go.Proofs.Ytknkiogjibpooaa.Hp Go.Proofs.YtknkiogjibpooaaW.PrintWords Go.Proofs.YtknkiogjibpooaaW.PrintLast Go.Proofs.YtknkiogjibpooaaW.PrintMore
open Go.Proofs.Ytknkiogjibpooaa.Base Go.Proofs.Ytknkiogjibpooaa.Keep Go.Proofs.Ytknkiogjibpooaa.Win

theorem parts_law {k j s1 s2 q1 q2 : Int} (hk : 1 ≤ k) (hj : 1 ≤ j) (h1 : 0 ≤ k * q1 - s1 * s1) (h2 : 0 ≤ j * q2 - s2 * s2) :
    (k * q1 - s1 * s1) + (j * q2 - s2 * s2) ≤ (k + j) * (q1 + q2) - (s1 + s2) * (s1 + s2) := by
  have e : (k + j) * (q1 + q2) - (s1 + s2) * (s1 + s2) = (k * q1 - s1 * s1) + (j * q2 - s2 * s2) + (k * q2 + j * q1 - 2 * (s1 * s2)) := by grind
  have f : (k * j) * (k * q2 + j * q1 - 2 * (s1 * s2)) = (k * k) * (j * q2 - s2 * s2) + (j * j) * (k * q1 - s1 * s1) + (k * s2 - j * s1) * (k * s2 - j * s1) := by grind
  have g1 := Int.mul_nonneg (sq_nonneg k) h2
  have g2 := Int.mul_nonneg (sq_nonneg j) h1
  have g3 := sq_nonneg (k * s2 - j * s1)
  have hp : 0 < k * j := Int.mul_pos (by omega) (by omega)
  rw [e]
  rcases Int.lt_or_le (k * q2 + j * q1 - 2 * (s1 * s2)) 0 with c | c
  · have := Int.mul_neg_of_pos_of_neg hp c
    rw [f] at this; omega
  · omega

theorem mx_nonneg {x : Int} (h : 0 ≤ x) : mx 0 x = x := by unfold mx; split <;> omega

theorem WindowParts : shapesearchlaw11_WindowParts.Pure := by
  intro l a1 a2 _ _ hl h1 h2
  have w1 := wf_u8 h1
  have w2 := wf_u8 h2
  obtain ⟨L, e0, hL⟩ := new_ok l hl
  obtain ⟨n, j0, e1, hj0, hn0, hn1⟩ := range_ok hL 2 60 (by omega) (by omega) (by omega)
  obtain ⟨x, j2, ⟨K1, hK1⟩, hj2, hxl, hxs⟩ := list_ok hj0 n (by omega) (by omega)
  have ht := tmod_nonneg' (a := a1) (b := (x.length : Int) - 1) w1.1 (by omega)
  obtain ⟨k, hke⟩ : ∃ k, k = 1 + Int.tmod a1 ((x.length : Int) - 1) := ⟨_, rfl⟩
  have hk : 1 ≤ k ∧ k ≤ (x.length : Int) - 1 := by omega
  have hu := tmod_nonneg' (a := a2) (b := (x.length : Int) - k) w2.1 (by omega)
  obtain ⟨j, hje⟩ : ∃ j, j = 1 + Int.tmod a2 ((x.length : Int) - k) := ⟨_, rfl⟩
  have hj : 1 ≤ j ∧ j ≤ (x.length : Int) - k := by omega
  obtain ⟨S, Q, ⟨K2, hK2⟩, hSQ⟩ := of_ok x hxs (by omega)
  obtain ⟨K3, hK3⟩ := stats_ok hSQ hxs (by omega) (i := 0) (m := k) (by omega) hk.1 (by omega)
  obtain ⟨K4, hK4⟩ := stats_ok hSQ hxs (by omega) (i := k) (m := j) (by omega) hj.1 (by omega)
  obtain ⟨K5, hK5⟩ := stats_ok hSQ hxs (by omega) (i := 0) (m := k + j) (by omega) (by omega) (by omega)
  obtain ⟨K6, hK6⟩ := awake_ok
  rw [show (0 + k).toNat = k.toNat from by omega, show (0 : Int).toNat = 0 from rfl, show sumTo idf x 0 = 0 from rfl, show sumTo sqf x 0 = 0 from rfl, Int.sub_zero, Int.sub_zero] at hK3
  rw [show (0 + (k + j)).toNat = (k + j).toNat from by omega, show (0 : Int).toNat = 0 from rfl, show sumTo idf x 0 = 0 from rfl, show sumTo sqf x 0 = 0 from rfl, Int.sub_zero, Int.sub_zero] at hK5
  have sb1 := sum_bd hxs (n := k.toNat) (by omega)
  have sb2 := sq_bd hxs (n := k.toNat) (by omega)
  have c1 : sumTo idf x (k + j).toNat - sumTo idf x k.toNat = sumTo idf ((x.take (k + j).toNat).drop k.toNat) j.toNat := by
    rw [sumTo_cut _ _ _ _ _ (by omega), show k.toNat + j.toNat = (k + j).toNat from by omega]
  have c2 : sumTo sqf x (k + j).toNat - sumTo sqf x k.toNat = sumTo sqf ((x.take (k + j).toNat).drop k.toNat) j.toNat := by
    rw [sumTo_cut _ _ _ _ _ (by omega), show k.toNat + j.toNat = (k + j).toNat from by omega]
  have ys : Smp ((x.take (k + j).toNat).drop k.toNat) := fun z hz => hxs z (List.mem_of_mem_take (List.mem_of_mem_drop hz))
  have yl : ((x.take (k + j).toNat).drop k.toNat).length = j.toNat := by rw [List.length_drop, List.length_take]; omega
  have b1 := sum_bd ys (n := j.toNat) (by omega)
  have b2 := sq_bd ys (n := j.toNat) (by omega)
  have p1 := pairSum_nonneg x k.toNat
  have p2 := pairSum_nonneg ((x.take (k + j).toNat).drop k.toNat) j.toNat
  rw [pairSum_eq, Int.toNat_of_nonneg (by omega)] at p1 p2
  rw [c1, c2] at hK4
  have d1 : sumTo idf x (k + j).toNat = sumTo idf x k.toNat + sumTo idf ((x.take (k + j).toNat).drop k.toNat) j.toNat := by omega
  have d2 : sumTo sqf x (k + j).toNat = sumTo sqf x k.toNat + sumTo sqf ((x.take (k + j).toNat).drop k.toNat) j.toNat := by omega
  rw [d1, d2] at hK5
  generalize sumTo idf x k.toNat = s1 at *
  generalize sumTo sqf x k.toNat = q1 at *
  generalize sumTo idf ((x.take (k + j).toNat).drop k.toNat) j.toNat = s2 at *
  generalize sumTo sqf ((x.take (k + j).toNat).drop k.toNat) j.toNat = q2 at *
  have v := parts_law hk.1 hj.1 p1 p2
  have v1 := variance_ok (n := k) (s := s1) (q := q1) (by omega) (by omega) (by omega) (by omega) (by omega) (by omega)
  have v2 := variance_ok (n := j) (s := s2) (q := q2) (by omega) (by omega) (by omega) (by omega) (by omega) (by omega)
  have v3 := variance_ok (n := k + j) (s := s1 + s2) (q := q1 + q2) (by omega) (by omega) (by omega) (by omega) (by omega) (by omega)
  rw [mx_nonneg p1] at v1
  rw [mx_nonneg p2] at v2
  rw [mx_nonneg (by omega)] at v3
  have m1 := mul_bd (a := k) (b := q1) (A := 60) (B := 60000000) (by omega) (by omega) (by omega) (by omega)
  have m2 := mul_bd (a := j) (b := q2) (A := 60) (B := 60000000) (by omega) (by omega) (by omega) (by omega)
  have n1 := sq_nonneg s1
  have n2 := sq_nonneg s2
  have B1 : k * q1 - s1 * s1 ≤ 3600000000 := by omega
  have B2 : j * q2 - s2 * s2 ≤ 3600000000 := by omega
  clear m1 m2 n1 n2
  generalize k * q1 - s1 * s1 = V1 at *
  generalize j * q2 - s2 * s2 = V2 at *
  generalize (k + j) * (q1 + q2) - (s1 + s2) * (s1 + s2) = V3 at *
  refine ⟨K1 + K2 + K3 + K4 + K5 + K6, ?_⟩
  unfold shapesearchlaw11_WindowParts.f
  rw [e0]; simp only [Option.bind_some]
  rw [e1]; simp only [Option.bind_some]
  rw [hK1 _ (by omega)]; simp only [Option.bind_some]
  rw [w64 (n := (x.length : Int) - 1) (by omega) (by omega), w64 (n := a1) (by omega) (by omega), w64 (n := 1 + Int.tmod a1 ((x.length : Int) - 1)) (by omega) (by omega), ← hke, w64 (n := (x.length : Int) - k) (by omega) (by omega), w64 (n := a2) (by omega) (by omega), w64 (n := 1 + Int.tmod a2 ((x.length : Int) - k)) (by omega) (by omega), ← hje, w64 (n := k + j) (by omega) (by omega)]
  rw [if_neg (by omega), if_neg (by omega), hK2 _ (by omega)]; simp only [Option.bind_some]
  rw [hK3 _ (by omega)]; simp only [Option.bind_some]
  rw [hK4 _ (by omega)]; simp only [Option.bind_some]
  rw [hK5 _ (by omega)]; simp only [Option.bind_some]
  rw [if_pos (by trivial), if_pos (by trivial), if_pos (by trivial), if_pos (by trivial), w64 (n := s1 + s2) (by omega) (by omega), w64 (n := q1 + q2) (by omega) (by omega), w64 (n := k + j) (by omega) (by omega), if_pos (by simp), v3]; simp only [Option.bind_some]
  rw [v1]; simp only [Option.bind_some]
  rw [v2]; simp only [Option.bind_some]
  rw [w64 (n := V1 + V2) (by omega) (by omega), if_pos (by omega), hK6 _ (by omega)]; rfl

end Go.Proofs.Ytknkiogjibpooaa.Pure
