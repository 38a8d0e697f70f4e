/- Adding a number to all samples changes the sum by as much for each, and the variance not at all: for every list and every number of a byte. -/
import Derived.Test.YtknkiogjibpooaaHx23
import Derived.Test.YtknkiogjibpooaaBase
import Derived.Test.YtknkiogjibpooaaKeep
import Derived.Test.YtknkiogjibpooaaWin
import Derived.Test.YtknkiogjibpooaaWinSlide
namespace Go.Proofs.Ytknkiogjibpooaa.Pure
open Go.RowKit Go.Proofs.Ytknkiogjibpooaa.Hp Go.Proofs.YtknkiogjibpooaaW.PrintWords Go.Proofs.YtknkiogjibpooaaW.PrintLast Go.Proofs.YtknkiogjibpooaaW.PrintMore
open Go.Proofs.Ytknkiogjibpooaa.Base Go.Proofs.Ytknkiogjibpooaa.Keep Go.Proofs.Ytknkiogjibpooaa.Win

theorem shift_sum (x z : List Int) (c : Int) : ∀ n, (∀ j, j < n → z.getD j 0 = x.getD j 0 + c) → sumTo idf z n = sumTo idf x n + (n : Int) * c ∧ sumTo sqf z n = sumTo sqf x n + 2 * c * sumTo idf x n + (n : Int) * (c * c) := by
  intro n
  induction n with
  | zero => intro _; simp [sumTo]
  | succ n ih =>
    intro h
    obtain ⟨i1, i2⟩ := ih (fun j hj => h j (by omega))
    simp only [sumTo, i1, i2, idf, sqf, h n (by omega)]
    rw [show ((n + 1 : Nat) : Int) = (n : Int) + 1 from by omega]
    constructor <;> grind

theorem fifth {v : Int} (h0 : -1000 ≤ v) (h1 : v ≤ 1000) : -800 ≤ Int.tdiv (v * 4) 5 ∧ Int.tdiv (v * 4) 5 ≤ 800 := by
  rcases Int.le_total 0 v with h | h
  · rw [Int.tdiv_eq_ediv_of_nonneg (by omega)]; omega
  · have e : Int.tdiv (v * 4) 5 = -(Int.tdiv (-v * 4) 5) := by rw [show v * 4 = -(-v * 4) from by omega, Int.neg_tdiv]
    rw [e, Int.tdiv_eq_ediv_of_nonneg (by omega)]; omega

theorem set_getD {l : List Int} {i j : Nat} {v : Int} : (l.set i v).getD j 0 = if i = j ∧ i < l.length then v else l.getD j 0 := by
  rw [List.getD_eq_getElem?_getD, List.getD_eq_getElem?_getD, List.getElem?_set]
  by_cases c : i = j
  · subst c
    by_cases d : i < l.length
    · simp [d]
    · simp [d]
  · simp [c]

theorem shifts_end (x z : List Int) (c : Int) (hc : -128 ≤ c) (hc2 : c ≤ 127) (hx : ∀ v ∈ x, -800 ≤ v ∧ v ≤ 800) (hl : 2 ≤ x.length) (hl2 : x.length ≤ 32) (hz : z.length = x.length) (h : ∀ j, j < x.length → z.getD j 0 = x.getD j 0 + c) :
    ∃ K, ∀ k, K ≤ k → shapesearchlaw11_WindowShifts.l0 k c x z (x.length : Int) (x.length : Int) = some true := by
  have xs : Smp x := fun v hv => by have := hx v hv; omega
  have zs : Smp z := by
    intro v hv
    obtain ⟨j, hj, rfl⟩ := List.getElem_of_mem hv
    have e : z[j] = z.getD j 0 := by rw [List.getD_eq_getElem?_getD, List.getElem?_eq_getElem hj]; rfl
    have g := hx _ (getD_mem (l := x) (i := j) (by omega))
    rw [e, h j (by omega)]; omega
  obtain ⟨a, ⟨K1, hK1⟩, ha, ha2⟩ := slide_ok x xs (by omega) x.length hl hl2
  obtain ⟨b, ⟨K2, hK2⟩, hb, hb2⟩ := slide_ok z zs (by omega) x.length hl hl2
  obtain ⟨K3, hK3⟩ := awake_ok
  have ra : rd_T33 a 0 = win x x.length 0 := by unfold rd_T33; exact ha2 0 (by omega)
  have rb : rd_T33 b 0 = win z x.length 0 := by unfold rd_T33; exact hb2 0 (by omega)
  obtain ⟨e1, e2⟩ := shift_sum x z c x.length h
  have b1 := sum_bd xs (n := x.length) (Nat.le_refl _)
  have b2 := sq_bd xs (n := x.length) (Nat.le_refl _)
  have b3 := sum_bd zs (n := x.length) (by omega)
  have b4 := sq_bd zs (n := x.length) (by omega)
  have v1 := variance_ok (n := (x.length : Int)) (s := sumTo idf x x.length) (q := sumTo sqf x x.length) (by omega) (by omega) (by omega) (by omega) (by omega) (by omega)
  have v2 := variance_ok (n := (x.length : Int)) (s := sumTo idf z x.length) (q := sumTo sqf z x.length) (by omega) (by omega) (by omega) (by omega) (by omega) (by omega)
  have ev : (x.length : Int) * sumTo sqf z x.length - sumTo idf z x.length * sumTo idf z x.length = (x.length : Int) * sumTo sqf x x.length - sumTo idf x x.length * sumTo idf x x.length := by rw [e1, e2]; grind
  have m1 := mul_bd (a := (x.length : Int)) (b := c + 128) (A := 32) (B := 255) (by omega) (by omega) (by omega) (by omega)
  have m2 : (x.length : Int) * (c + 128) = (x.length : Int) * c + 128 * (x.length : Int) := by grind
  refine ⟨K1 + K2 + K3 + 1, fun k hk => ?_⟩
  obtain ⟨k, rfl, hk'⟩ := succ_of hk
  simp only [shapesearchlaw11_WindowShifts.l0]
  rw [if_neg (by omega), hK1 _ (by omega)]; simp only [Option.bind_some]
  rw [hK2 _ (by omega)]; simp only [Option.bind_some]
  rw [if_pos (by trivial), if_pos (by trivial), if_pos (by omega), if_pos (by omega), if_pos (by omega), if_pos (by omega), ra, rb]
  simp only [win, Nat.zero_add, show sumTo idf x 0 = 0 from rfl, show sumTo sqf x 0 = 0 from rfl, show sumTo idf z 0 = 0 from rfl, show sumTo sqf z 0 = 0 from rfl, Int.sub_zero]
  rw [w64 (n := c) (by omega) (by omega), w64 (n := (x.length : Int) * c) (by omega) (by omega), w64 (by omega) (by omega), if_pos e1, v1]; simp only [Option.bind_some]
  rw [v2]; simp only [Option.bind_some]
  rw [ev, if_pos rfl, hK3 _ (by omega)]; rfl

theorem shifts_loop (c : Int) (hc : -128 ≤ c) (hc2 : c ≤ 127) : ∀ (d i : Nat) (x z : List Int), x.length - i = d → i ≤ x.length → 2 ≤ x.length → x.length ≤ 32 → z.length = i → Smp x → (∀ j, j < i → -800 ≤ x.getD j 0 ∧ x.getD j 0 ≤ 800 ∧ z.getD j 0 = x.getD j 0 + c) →
    ∃ K, ∀ k, K ≤ k → shapesearchlaw11_WindowShifts.l0 k c x z (x.length : Int) (i : Int) = some true := by
  intro d
  induction d with
  | zero =>
    intro i x z hd hi h2 h3 hz hs h
    obtain rfl : i = x.length := by omega
    refine shifts_end x z c hc hc2 ?_ h2 h3 hz (fun j hj => (h j hj).2.2)
    intro v hv
    obtain ⟨j, hj, rfl⟩ := List.getElem_of_mem hv
    have e : x[j] = x.getD j 0 := by rw [List.getD_eq_getElem?_getD, List.getElem?_eq_getElem hj]; rfl
    rw [e]; exact ⟨(h j hj).1, (h j hj).2.1⟩
  | succ d ih =>
    intro i x z hd hi h2 h3 hz hs h
    have hilt : i < x.length := by omega
    have hg := hs.get hilt
    have hf := fifth hg.1 hg.2
    have e1 : (x.set i (Int.tdiv (x.getD i 0 * 4) 5)).getD i 0 = Int.tdiv (x.getD i 0 * 4) 5 := by rw [set_getD, if_pos ⟨rfl, hilt⟩]
    obtain ⟨K, hK⟩ := ih (i + 1) (x.set i (Int.tdiv (x.getD i 0 * 4) 5)) (z ++ [Int.tdiv (x.getD i 0 * 4) 5 + c]) (by simp; omega) (by simp; omega) (by simp; omega) (by simp; omega) (by simp; omega)
      (by
        intro v hv
        rcases List.mem_or_eq_of_mem_set hv with c' | c'
        · exact hs v c'
        · rw [c']; omega)
      (by
        intro j hj
        rcases Nat.lt_or_ge j i with c' | c'
        · rw [getD_append_lt (by omega), set_getD, if_neg (by omega)]; exact h j c'
        · obtain rfl : j = i := (by omega)
          rw [getD_append_eq (by omega), e1]; exact ⟨hf.1, hf.2, rfl⟩)
    rw [List.length_set] at hK
    refine ⟨K + 1, fun k hk => ?_⟩
    obtain ⟨k, rfl, hk'⟩ := succ_of hk
    simp only [shapesearchlaw11_WindowShifts.l0]
    rw [if_pos (by omega), if_pos (by omega), if_pos (by omega)]; simp only [Option.bind_some]
    rw [if_pos (by omega), rd_nat, rd_nat, Int.toNat_natCast, w64 (n := x.getD i 0 * 4) (by omega) (by omega), w64 (n := Int.tdiv (x.getD i 0 * 4) 5) (by omega) (by omega), e1, w64 (n := c) (by omega) (by omega), w64 (n := Int.tdiv (x.getD i 0 * 4) 5 + c) (by omega) (by omega), w64 (n := (i : Int) + 1) (by omega) (by omega)]
    exact hK k hk'

theorem WindowShifts : shapesearchlaw11_WindowShifts.Pure := by
  intro l c _ _ hl h1
  have w1 := wf_i8 h1
  obtain ⟨L, e0, hL⟩ := new_ok l hl
  obtain ⟨n, j, e1, hj, hn0, hn1⟩ := length_ok hL
  obtain ⟨x, j2, ⟨K1, hK1⟩, hj2, hxl, hxs⟩ := list_ok hj n (by omega) (by omega)
  obtain ⟨K2, hK2⟩ := shifts_loop c w1.1 w1.2 x.length 0 x [] (by omega) (by omega) (by omega) (by omega) rfl hxs (by intro j hj; omega)
  refine ⟨K1 + K2, ?_⟩
  unfold shapesearchlaw11_WindowShifts.f
  rw [e0]; simp only [Option.bind_some]
  rw [e1]; simp only [Option.bind_some]
  rw [hK1 _ (by omega)]; simp only [Option.bind_some]
  have := hK2 (K1 + K2) (by omega)
  rw [Int.natCast_zero] at this
  exact this

end Go.Proofs.Ytknkiogjibpooaa.Pure
