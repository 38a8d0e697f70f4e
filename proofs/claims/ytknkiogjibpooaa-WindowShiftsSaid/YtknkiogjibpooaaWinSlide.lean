/- Slide of the window package: the stats of all windows of m samples. -/
import Derived.Test.YtknkiogjibpooaaHx19
import Derived.Test.YtknkiogjibpooaaBase
import Derived.Test.YtknkiogjibpooaaWin
namespace Go.Proofs.Ytknkiogjibpooaa.Win
open Go.RowKit Go.Proofs.Ytknkiogjibpooaa.Hp Go.Proofs.YtknkiogjibpooaaW.PrintWords Go.Proofs.YtknkiogjibpooaaW.PrintLast Go.Proofs.YtknkiogjibpooaaW.PrintMore
open Go.Proofs.Ytknkiogjibpooaa.Base

/-- The stats of the window of m samples from i on. -/
def win (l : List Int) (m i : Nat) : S33 := ⟨(m : Int), sumTo idf l (i + m) - sumTo idf l i, sumTo sqf l (i + m) - sumTo sqf l i⟩

theorem slide_loop {l S Q : List Int} (h : Sums l S Q) (hs : Smp l) (hl : l.length ≤ 2000) (m : Nat) (hm : 1 ≤ m) (n : Nat) (hn : n = 0 ∨ n + m ≤ l.length + 1) : ∀ (d i : Nat) (acc : List S33), n - i = d → i ≤ n → acc.length = i → (∀ j, j < i → acc.getD j z33 = win l m j) →
    ∃ out, out.length = n ∧ (∀ j, j < n → out.getD j z33 = win l m j) ∧ ∃ K, ∀ k, K ≤ k → window_Slide.l0 k (m : Int) acc (n : Int) (i : Int) S Q = some (out, 0) := by
  intro d
  induction d with
  | zero =>
    intro i acc hd hi ha h
    obtain rfl : i = n := by omega
    refine ⟨acc, ha, h, 1, fun k hk => ?_⟩
    obtain ⟨k, rfl, _⟩ := succ_of hk
    simp only [window_Slide.l0]; rw [if_neg (by omega)]
  | succ d ih =>
    intro i acc hd hi ha h'
    obtain ⟨out, h1, h2, K, hK⟩ := ih (i + 1) (acc ++ [win l m i]) (by omega) (by omega) (by simp [ha]) (by
      intro j hj
      rcases Nat.lt_or_ge j i with c | c
      · rw [getD_append_lt (by omega)]; exact h' j c
      · obtain rfl : j = i := (by omega)
        rw [getD_append_eq (by omega)]; rfl)
    refine ⟨out, h1, h2, K + 1, fun k hk => ?_⟩
    obtain ⟨k, rfl, hk'⟩ := succ_of hk
    simp only [window_Slide.l0]
    rw [if_pos (by omega), between_ok h hs hl (by omega) (by omega) (by omega)]; simp only [Option.bind_some]
    rw [if_pos (by omega), w64 (by omega) (by omega), show ((i : Int) + (m : Int)).toNat = i + m from by omega, Int.toNat_natCast]
    exact hK k hk'

theorem slide_ok (l : List Int) (hs : Smp l) (hl : l.length ≤ 2000) (m : Nat) (h2 : 2 ≤ m) (h3 : m ≤ 32) :
    ∃ out, (∃ K, ∀ k, K ≤ k → window_Slide.f k l (m : Int) = some (out, 0)) ∧ out.length = l.length + 1 - m ∧ ∀ j, j < out.length → out.getD j z33 = win l m j := by
  obtain ⟨S, Q, ⟨K1, hK1⟩, hSQ⟩ := of_ok l hs hl
  obtain ⟨out, h4, h5, K2, hK2⟩ := slide_loop hSQ hs hl m (by omega) (l.length + 1 - m) (by omega) (l.length + 1 - m) 0 [] (by omega) (by omega) rfl (by intro j hj; omega)
  have e : mx 0 (wrap64 (wrap64 ((l.length : Int) - (m : Int)) + 1)) = ((l.length + 1 - m : Nat) : Int) := by
    rw [w64 (n := (l.length : Int) - (m : Int)) (by omega) (by omega), w64 (by omega) (by omega)]; unfold mx; split <;> omega
  refine ⟨out, ⟨K1 + K2 + 1, fun k hk => ?_⟩, h4, by rw [h4]; exact h5⟩
  obtain ⟨k, rfl, hk'⟩ := succ_of hk
  unfold window_Slide.f
  rw [hK1 _ (by omega)]; simp only [Option.bind_some]
  rw [if_pos (by trivial), if_neg (by omega), decide_eq_false (by omega)]
  simp only [window_Slide.j0]
  rw [if_neg (by simp), e]
  have := hK2 k (by omega)
  rw [Int.natCast_zero] at this
  exact this

end Go.Proofs.Ytknkiogjibpooaa.Win
