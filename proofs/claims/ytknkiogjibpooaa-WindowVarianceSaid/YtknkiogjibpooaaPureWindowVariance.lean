/- The variance of a window is the sum of the squares of the differences of all pairs of its samples: for every list. -/
import Derived.Test.YtknkiogjibpooaaHx15
import Derived.Test.YtknkiogjibpooaaBase
import Derived.Test.YtknkiogjibpooaaKeep
import Derived.Test.YtknkiogjibpooaaWin
namespace Go.Proofs.Ytknkiogjibpooaa.Pure
open Go.RowKit Go.Proofs.Ytknkiogjibpooaa.Hp Go.Proofs.YtknkiogjibpooaaW.PrintWords Go.Proofs.YtknkiogjibpooaaW.PrintLast Go.Proofs.YtknkiogjibpooaaW.PrintMore
open Go.Proofs.Ytknkiogjibpooaa.Base Go.Proofs.Ytknkiogjibpooaa.Keep Go.Proofs.Ytknkiogjibpooaa.Win

theorem rowSum_bd {l : List Int} (hs : Smp l) {x : Int} (h0 : -1000 ≤ x) (h1 : x ≤ 1000) : ∀ n, n ≤ l.length → rowSum x l n ≤ 4000000 * (n : Int) := by
  intro n
  induction n with
  | zero => intro _; simp [rowSum]
  | succ n ih =>
    intro hn
    have := ih (by omega)
    have hg := hs.get (i := n) (by omega)
    have := (sq_bounds (x := x - l.getD n 0) (b := 2000) (by omega) (by omega)).2
    simp only [rowSum]; omega
theorem pairSum_bd {l : List Int} (hs : Smp l) (hl : l.length ≤ 100) : ∀ n, n ≤ l.length → pairSum l n ≤ 400000000 * (n : Int) := by
  intro n
  induction n with
  | zero => intro _; simp [pairSum]
  | succ n ih =>
    intro hn
    have := ih (by omega)
    have hg := hs.get (i := n) (by omega)
    have := rowSum_bd hs hg.1 hg.2 n (by omega)
    simp only [pairSum]; omega

theorem var_inner (x : List Int) (hs : Smp x) (hl : x.length ≤ 100) (c s q : Int) (i : Nat) (hi : i < x.length) : ∀ (d j : Nat), i - j = d → j ≤ i →
    (∃ K, ∀ k, K ≤ k → shapesearchlaw11_WindowVariance.l0 k x 0 0 (pairSum x (i + 1)) (x.length : Int) ((i : Int) + 1) c s q = some true) →
    ∃ K, ∀ k, K ≤ k → shapesearchlaw11_WindowVariance.l1 k x 0 0 (pairSum x i + rowSum (x.getD i 0) x j) (i : Int) (j : Int) (x.length : Int) (i : Int) c s q = some true := by
  intro d
  induction d with
  | zero =>
    intro j hd hj ⟨K, hK⟩
    refine ⟨K + 1, fun k hk => ?_⟩
    obtain ⟨k, rfl, hk'⟩ := succ_of hk
    obtain rfl : j = i := by omega
    simp only [shapesearchlaw11_WindowVariance.l1]; rw [if_neg (by omega), w64 (by omega) (by omega)]
    exact hK k hk'
  | succ d ih =>
    intro j hd hj hn
    obtain ⟨K, hK⟩ := ih (j + 1) (by omega) (by omega) hn
    refine ⟨K + 1, fun k hk => ?_⟩
    obtain ⟨k, rfl, hk'⟩ := succ_of hk
    have hg := hs.get hi
    have hg2 := hs.get (i := j) (by omega)
    have b := sq_bounds (x := x.getD i 0 - x.getD j 0) (b := 2000) (by omega) (by omega)
    have b1 := pairSum_bd hs hl i (by omega)
    have b2 := pairSum_nonneg x i
    have b3 := rowSum_bd hs hg.1 hg.2 j (by omega)
    have b4 := rowSum_nonneg (x.getD i 0) x j
    simp only [shapesearchlaw11_WindowVariance.l1]
    rw [if_pos (by omega), if_pos (by omega), if_pos (by omega), if_pos (by omega), if_pos (by omega), rd_nat, rd_nat, w64 (n := x.getD i 0 - x.getD j 0) (by omega) (by omega), w64 (n := (x.getD i 0 - x.getD j 0) * (x.getD i 0 - x.getD j 0)) (by omega) (by omega), w64 (n := (j : Int) + 1) (by omega) (by omega)]
    rw [w64 (by omega) (by omega), Int.add_assoc]
    exact hK k hk'

theorem WindowVariance : shapesearchlaw11_WindowVariance.Pure := by
  intro l _ _ hl
  obtain ⟨L, e0, hL⟩ := new_ok l hl
  obtain ⟨n, j, e1, hj, hn0, hn1⟩ := length_ok hL
  obtain ⟨x, j2, ⟨K1, hK1⟩, hj2, hxl, hxs⟩ := list_ok hj n (by omega) (by omega)
  obtain ⟨S, Q, ⟨K2, hK2⟩, hSQ⟩ := of_ok x hxs (by omega)
  obtain ⟨K3, hK3⟩ := stats_ok hSQ hxs (by omega) (i := 0) (m := (x.length : Int)) (by omega) (by omega) (by omega)
  rw [show (0 + (x.length : Int)).toNat = x.length from by omega, show (0 : Int).toNat = 0 from rfl, show sumTo idf x 0 = 0 from rfl, show sumTo sqf x 0 = 0 from rfl, Int.sub_zero, Int.sub_zero] at hK3
  have b1 := sum_bd hxs (n := x.length) (Nat.le_refl _)
  have b2 := sq_bd hxs (n := x.length) (Nat.le_refl _)
  have hv := variance_ok (n := (x.length : Int)) (s := sumTo idf x x.length) (q := sumTo sqf x x.length) (by omega) (by omega) (by omega) (by omega) (by omega) (by omega)
  rw [← pairSum_eq, show mx 0 (pairSum x x.length) = pairSum x x.length from by have := pairSum_nonneg x x.length; unfold mx; split <;> omega] at hv
  have loop : ∀ (d i : Nat), x.length - i = d → i ≤ x.length → ∃ K, ∀ k, K ≤ k → shapesearchlaw11_WindowVariance.l0 k x 0 0 (pairSum x i) (x.length : Int) (i : Int) (x.length : Int) (sumTo idf x x.length) (sumTo sqf x x.length) = some true := by
    intro d
    induction d with
    | zero =>
      intro i hd hi
      obtain ⟨K, hK⟩ := awake_ok
      refine ⟨K + 1, fun k hk => ?_⟩
      obtain ⟨k, rfl, hk'⟩ := succ_of hk
      obtain rfl : i = x.length := by omega
      simp only [shapesearchlaw11_WindowVariance.l0]
      rw [if_neg (by omega), if_pos (by trivial), if_pos (by trivial), hv]; simp only [Option.bind_some]
      rw [if_pos (by trivial), hK k hk']; rfl
    | succ d ih =>
      intro i hd hi
      obtain ⟨K, hK⟩ := var_inner x hxs (by omega) (x.length : Int) (sumTo idf x x.length) (sumTo sqf x x.length) i (by omega) i 0 (by omega) (by omega) (ih (i + 1) (by omega) (by omega))
      refine ⟨K + 1, fun k hk => ?_⟩
      obtain ⟨k, rfl, hk'⟩ := succ_of hk
      simp only [shapesearchlaw11_WindowVariance.l0]
      rw [if_pos (by omega)]
      have := hK k hk'
      rw [show rowSum (x.getD i 0) x 0 = 0 from rfl, Int.add_zero, Int.natCast_zero] at this
      exact this
  obtain ⟨K4, hK4⟩ := loop x.length 0 (by omega) (by omega)
  refine ⟨K1 + K2 + K3 + K4, ?_⟩
  unfold shapesearchlaw11_WindowVariance.f
  rw [e0]; simp only [Option.bind_some]
  rw [e1]; simp only [Option.bind_some]
  rw [hK1 _ (by omega)]; simp only [Option.bind_some]
  rw [hK2 _ (by omega)]; simp only [Option.bind_some]
  rw [hK3 _ (by omega)]; simp only [Option.bind_some]
  have := hK4 (K1 + K2 + K3 + K4) (by omega)
  rw [Int.natCast_zero] at this
  exact this

end Go.Proofs.Ytknkiogjibpooaa.Pure
