/- Stats of a part are the sums over its numbers, added one by one: for every list and every two bytes. -/
import Derived.Test.YtknkiogjibpooaaHx13
import Derived.Test.YtknkiogjibpooaaBase
import Derived.Test.YtknkiogjibpooaaKeep
import Derived.Test.YtknkiogjibpooaaWin
namespace Go.Proofs.Ytknkiogjibpooaa.Pure
open Go.RowKit Go.Proofs.Ytknkiogjibpooaa.Hp Go.Proofs.YtknkiogjibpooaaW.PrintWords Go.Proofs.YtknkiogjibpooaaW.PrintLast Go.Proofs.YtknkiogjibpooaaW.PrintMore
open Go.Proofs.Ytknkiogjibpooaa.Base Go.Proofs.Ytknkiogjibpooaa.Keep Go.Proofs.Ytknkiogjibpooaa.Win

theorem sums_loop (y : List Int) (hs : Smp y) (hl : y.length ≤ 2000) (m s q : Int) (hm : m = (y.length : Int)) (h1 : s = sumTo idf y y.length) (h2 : q = sumTo sqf y y.length) : ∀ (d i : Nat), y.length - i = d → i ≤ y.length →
    ∃ K, ∀ k, K ≤ k → shapesearchlaw11_WindowSums.l0 k m 0 0 (sumTo idf y i) (sumTo sqf y i) y (y.length : Int) (i : Int) m s q = some true := by
  intro d
  induction d with
  | zero =>
    intro i hd hi
    obtain ⟨K, hK⟩ := awake_ok
    refine ⟨K + 1, fun k hk => ?_⟩
    obtain ⟨k, rfl, hk'⟩ := succ_of hk
    obtain rfl : i = y.length := by omega
    simp only [shapesearchlaw11_WindowSums.l0]
    rw [if_neg (by omega), if_pos (by trivial), if_pos (by trivial), h1, h2, if_pos (by simp), hK k hk']; rfl
  | succ d ih =>
    intro i hd hi
    obtain ⟨K, hK⟩ := ih (i + 1) (by omega) (by omega)
    refine ⟨K + 1, fun k hk => ?_⟩
    obtain ⟨k, rfl, hk'⟩ := succ_of hk
    have hilt : i < y.length := by omega
    have hg := hs.get hilt
    have hg2 := hs.sq (getD_mem hilt)
    have b1 := sum_bd hs (n := i) (by omega)
    have b2 := sq_bd hs (n := i) (by omega)
    simp only [shapesearchlaw11_WindowSums.l0]
    rw [if_pos (by omega), if_pos (by omega), if_pos (by omega), rd_nat, w64 (n := y.getD i 0 * y.getD i 0) (by omega) (by omega), w64 (n := sumTo idf y i + y.getD i 0) (by omega) (by omega), w64 (n := sumTo sqf y i + y.getD i 0 * y.getD i 0) (by omega) (by omega), w64 (n := (i : Int) + 1) (by omega) (by omega)]
    exact hK k hk'

theorem WindowSums : shapesearchlaw11_WindowSums.Pure := by
  intro l a1 a2 _ _ hl h1 h2
  have w1 := wf_u8 h1
  have w2 := wf_u8 h2
  obtain ⟨L, e0, hL⟩ := new_ok l hl
  obtain ⟨n, j, e1, hj, hn0, hn1⟩ := range_ok hL 1 60 (by omega) (by omega) (by omega)
  obtain ⟨x, j2, ⟨K1, hK1⟩, hj2, hxl, hxs⟩ := list_ok hj n (by omega) (by omega)
  have ht := tmod_nonneg' (a := a2) (b := (x.length : Int)) w2.1 (by omega)
  obtain ⟨t, hte⟩ : ∃ t, t = Int.tmod a2 (x.length : Int) := ⟨_, rfl⟩
  rw [← hte] at ht
  obtain ⟨r, er, hr0, hr1⟩ := mod_ok a1 ((x.length : Int) - t) (by omega) (by omega)
  obtain ⟨S, Q, ⟨K2, hK2⟩, hSQ⟩ := of_ok x hxs (by omega)
  obtain ⟨K3, hK3⟩ := stats_ok hSQ hxs (by omega) (i := r) (m := 1 + t) hr0 (by omega) (by omega)
  obtain ⟨y, hy⟩ : ∃ y, y = (x.take (r + (1 + t)).toNat).drop r.toNat := ⟨_, rfl⟩
  have hyl : y.length = (1 + t).toNat := by rw [hy, List.length_drop, List.length_take]; omega
  have hys : Smp y := by intro z hz; rw [hy] at hz; exact hxs z (List.mem_of_mem_take (List.mem_of_mem_drop hz))
  have c1 : sumTo idf x (r + (1 + t)).toNat - sumTo idf x r.toNat = sumTo idf y y.length := by
    rw [hyl, hy, sumTo_cut _ _ _ _ _ (by omega), show r.toNat + (1 + t).toNat = (r + (1 + t)).toNat from by omega]
  have c2 : sumTo sqf x (r + (1 + t)).toNat - sumTo sqf x r.toNat = sumTo sqf y y.length := by
    rw [hyl, hy, sumTo_cut _ _ _ _ _ (by omega), show r.toNat + (1 + t).toNat = (r + (1 + t)).toNat from by omega]
  obtain ⟨K4, hK4⟩ := sums_loop y hys (by omega) (1 + t) _ _ (by omega) c1 c2 y.length 0 (by omega) (by omega)
  refine ⟨K1 + K2 + K3 + K4, ?_⟩
  unfold shapesearchlaw11_WindowSums.f
  rw [e0]; simp only [Option.bind_some]
  rw [e1]; simp only [Option.bind_some]
  rw [hK1 _ (by omega)]; simp only [Option.bind_some]
  rw [if_neg (by omega), w64 (n := a1) (by omega) (by omega), w64 (n := a2) (by omega) (by omega), ← hte, w64 (n := 1 + t) (by omega) (by omega), w64 (n := (x.length : Int) - (1 + t)) (by omega) (by omega), w64 (n := (x.length : Int) - (1 + t) + 1) (by omega) (by omega)]
  rw [show (x.length : Int) - (1 + t) + 1 = (x.length : Int) - t from by omega, er]; simp only [Option.bind_some]
  rw [hK2 _ (by omega)]; simp only [Option.bind_some]
  rw [hK3 _ (by omega)]; simp only [Option.bind_some]
  rw [w64 (n := r + (1 + t)) (by omega) (by omega), if_pos (by omega), if_pos (by omega), if_pos (by omega), ← hy]
  have := hK4 (K1 + K2 + K3 + K4) (by omega)
  rw [Int.natCast_zero] at this
  exact this

end Go.Proofs.Ytknkiogjibpooaa.Pure
