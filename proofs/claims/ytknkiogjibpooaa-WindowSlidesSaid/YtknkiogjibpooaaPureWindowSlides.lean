/- There is one window for each beginning; and each is its neighbour without one sample and with another one: for every list and every byte. -/
import Derived.Test.YtknkiogjibpooaaHx24
import Derived.Test.YtknkiogjibpooaaBase
import Derived.Test.YtknkiogjibpooaaKeep
import Derived.Test.YtknkiogjibpooaaWin
import Derived.Test.YtknkiogjibpooaaWinSlide
namespace Go.Proofs.Ytknkiogjibpooaa.Pure
open Go.RowKit Go.Proofs.Ytknkiogjibpooaa.Hp Go.Proofs.YtknkiogjibpooaaW.PrintWords Go.Proofs.YtknkiogjibpooaaW.PrintLast Go.Proofs.YtknkiogjibpooaaW.PrintMore
open Go.Proofs.Ytknkiogjibpooaa.Base Go.Proofs.Ytknkiogjibpooaa.Keep Go.Proofs.Ytknkiogjibpooaa.Win

theorem wrap_back {i : Nat} (h : i ≤ 4000) : wrap64 ((i : Int) + 1 - 1) = (i : Int) := by rw [w64 (by omega) (by omega)]; omega
theorem wrap_on {i m : Nat} (h : i + m ≤ 4000) : wrap64 (wrap64 ((i : Int) + 1 + (m : Int)) - 1) = ((i + m : Nat) : Int) := by rw [w64 (n := (i : Int) + 1 + (m : Int)) (by omega) (by omega), w64 (by omega) (by omega)]; omega
theorem slides_loop (x : List Int) (hs : Smp x) (hl : x.length ≤ 2000) (m : Nat) (h2 : 2 ≤ m) (h3 : m ≤ 32) (out : List S33) (ho : out.length = x.length + 1 - m) (h : ∀ j, j < out.length → out.getD j z33 = win x m j) : ∀ (d i : Nat), out.length - i = d →
    ∃ K, ∀ k, K ≤ k → shapesearchlaw11_WindowSlides.l0 k x (m : Int) out ((i : Int) + 1) = some true := by
  intro d
  induction d with
  | zero =>
    intro i hd
    obtain ⟨K, hK⟩ := awake_ok
    refine ⟨K + 1, fun k hk => ?_⟩
    obtain ⟨k, rfl, hk'⟩ := succ_of hk
    simp only [shapesearchlaw11_WindowSlides.l0]
    rw [if_neg (by omega), hK k hk']; rfl
  | succ d ih =>
    intro i hd
    by_cases c : i + 1 < out.length
    · obtain ⟨K, hK⟩ := ih (i + 1) (by omega)
      refine ⟨K + 1, fun k hk => ?_⟩
      obtain ⟨k, rfl, hk'⟩ := succ_of hk
      have g1 := hs.get (i := i) (by omega)
      have g2 := hs.get (i := i + m) (by omega)
      have q1 := hs.sq (getD_mem (l := x) (i := i) (by omega))
      have q2 := hs.sq (getD_mem (l := x) (i := i + m) (by omega))
      have b1 := sum_bd hs (n := i) (by omega)
      have b2 := sum_bd hs (n := i + m) (by omega)
      have b3 := sq_bd hs (n := i) (by omega)
      have b4 := sq_bd hs (n := i + m) (by omega)
      have s1 : sumTo idf x (i + 1 + m) = sumTo idf x (i + m) + x.getD (i + m) 0 := by rw [show i + 1 + m = i + m + 1 from by omega]; rfl
      have s2 : sumTo sqf x (i + 1 + m) = sumTo sqf x (i + m) + x.getD (i + m) 0 * x.getD (i + m) 0 := by rw [show i + 1 + m = i + m + 1 from by omega]; rfl
      have s3 : sumTo idf x (i + 1) = sumTo idf x i + x.getD i 0 := rfl
      have s4 : sumTo sqf x (i + 1) = sumTo sqf x i + x.getD i 0 * x.getD i 0 := rfl
      have r1 : rd_T33 out ((i : Int) + 1) = win x m (i + 1) := by unfold rd_T33; rw [show ((i : Int) + 1).toNat = i + 1 from by omega]; exact h _ c
      have r2 : rd_T33 out (i : Int) = win x m i := by unfold rd_T33; rw [Int.toNat_natCast]; exact h _ (by omega)
      simp only [shapesearchlaw11_WindowSlides.l0]
      rw [if_pos (by omega), wrap_back (by omega), wrap_on (by omega), if_pos (by omega), if_pos (by omega), if_pos (by omega), if_pos (by omega), if_pos (by omega), r1, r2, rd_nat, rd_nat]
      rw [w64 (n := x.getD i 0 * x.getD i 0) (by omega) (by omega), w64 (n := x.getD (i + m) 0 * x.getD (i + m) 0) (by omega) (by omega)]
      simp only [win, s1, s2, s3, s4]
      rw [if_pos (by trivial), if_pos (by omega)]
      rw [w64 (n := sumTo idf x (i + m) - sumTo idf x i - x.getD i 0) (by omega) (by omega), w64 (n := sumTo idf x (i + m) - sumTo idf x i - x.getD i 0 + x.getD (i + m) 0) (by omega) (by omega), if_pos (by omega)]
      rw [w64 (n := sumTo sqf x (i + m) - sumTo sqf x i - x.getD i 0 * x.getD i 0) (by omega) (by omega), w64 (n := sumTo sqf x (i + m) - sumTo sqf x i - x.getD i 0 * x.getD i 0 + x.getD (i + m) 0 * x.getD (i + m) 0) (by omega) (by omega), if_pos (by omega)]
      rw [w64 (by omega) (by omega)]
      have := hK k hk'
      rw [show ((i + 1 : Nat) : Int) = (i : Int) + 1 from by omega] at this
      exact this
    · obtain ⟨K, hK⟩ := awake_ok
      refine ⟨K + 1, fun k hk => ?_⟩
      obtain ⟨k, rfl, hk'⟩ := succ_of hk
      simp only [shapesearchlaw11_WindowSlides.l0]
      rw [if_neg (by omega), hK k hk']; rfl

theorem WindowSlides : shapesearchlaw11_WindowSlides.Pure := by
  intro l a1 _ _ hl h1
  have w1 := wf_u8 h1
  obtain ⟨L, e0, hL⟩ := new_ok l hl
  obtain ⟨n, j, e1, hj, hn0, hn1⟩ := n_ok hL 60 (by omega) (by omega)
  obtain ⟨x, j2, ⟨K1, hK1⟩, hj2, hxl, hxs⟩ := list_ok hj n (by omega) (by omega)
  have ht := tmod_nonneg' (a := a1) (b := 11) w1.1 (by omega)
  obtain ⟨t, hte⟩ : ∃ t, t = Int.tmod a1 11 := ⟨_, rfl⟩
  rw [← hte] at ht
  obtain ⟨m, hm⟩ : ∃ m : Nat, 2 + t = (m : Int) := ⟨(2 + t).toNat, by omega⟩
  obtain ⟨out, ⟨K2, hK2⟩, ho, hg⟩ := slide_ok x hxs (by omega) m (by omega) (by omega)
  obtain ⟨K3, hK3⟩ := slides_loop x hxs (by omega) m (by omega) (by omega) out ho hg out.length 0 (by omega)
  have e : mx 0 (wrap64 (wrap64 ((x.length : Int) - (m : Int)) + 1)) = (out.length : Int) := by
    rw [w64 (n := (x.length : Int) - (m : Int)) (by omega) (by omega), w64 (by omega) (by omega)]; unfold mx; split <;> omega
  refine ⟨K1 + K2 + K3 + 1, ?_⟩
  unfold shapesearchlaw11_WindowSlides.f
  rw [e0]; simp only [Option.bind_some]
  rw [e1]; simp only [Option.bind_some]
  rw [hK1 _ (by omega)]; simp only [Option.bind_some]
  rw [w64 (n := a1) (by omega) (by omega), ← hte, w64 (n := 2 + t) (by omega) (by omega), hm, hK2 _ (by omega)]; simp only [Option.bind_some]
  rw [if_pos (by trivial), e]
  simp only [shapesearchlaw11_WindowSlides.j0]
  rw [if_neg (by simp)]
  have := hK3 (K1 + K2 + K3) (by omega)
  rw [Int.natCast_zero] at this
  exact this

end Go.Proofs.Ytknkiogjibpooaa.Pure
