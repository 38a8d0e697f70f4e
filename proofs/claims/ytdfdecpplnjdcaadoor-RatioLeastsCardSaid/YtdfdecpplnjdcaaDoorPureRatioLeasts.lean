/- Least returns the first of the ratios than which none is less: for every list. -/
import Derived.Test.YtdfdecpplnjdcaaDoorHx0
import Derived.Test.YtdfdecpplnjdcaaDoorHx19
import Derived.Test.YtdfdecpplnjdcaaDoorHx20
import Derived.Test.YtdfdecpplnjdcaaDoorBase
import Derived.Test.YtdfdecpplnjdcaaDoorKeep
import Derived.Test.YtdfdecpplnjdcaaDoorRat
import Derived.Test.YtdfdecpplnjdcaaDoorRatAwake
namespace Go.Proofs.YtdfdecpplnjdcaaDoor.Pure
open Go.RowKit Go.Proofs.YtdfdecpplnjdcaaDoor.Hp Go.Proofs.YtdfdecpplnjdcaaDoorW.PrintWords Go.Proofs.YtdfdecpplnjdcaaDoorW.PrintLast Go.Proofs.YtdfdecpplnjdcaaDoorW.PrintMore
open Go.Proofs.YtdfdecpplnjdcaaDoor.Base Go.Proofs.YtdfdecpplnjdcaaDoor.Keep Go.Proofs.YtdfdecpplnjdcaaDoor.Rat

/-- The ratio at a place. -/
def atR (xs : List S24) (i : Nat) : S24 := xs.getD i z24
/-- Less. -/
@[reducible] def ltR (x y : S24) : Prop := x.f0 * y.f1 < y.f0 * x.f1
/-- All are valid. -/
def AllR (xs : List S24) : Prop := ∀ i, i < xs.length → VR (atR xs i).f0 (atR xs i).f1
/-- The first least of the first i. -/
def First (xs : List S24) (i q : Nat) : Prop := q < i ∧ (∀ j, j < i → ¬ ltR (atR xs j) (atR xs q)) ∧ ∀ j, j < q → ltR (atR xs q) (atR xs j)

theorem lt_of_lt_of_le {a b c d e f : Int} (hb : 1 ≤ b) (hd : 1 ≤ d) (hf : 1 ≤ f) (h1 : a * d < c * b) (h2 : c * f ≤ e * d) : a * f < e * b := by
  have x1 := Int.mul_lt_mul_of_pos_right h1 (show 0 < f by omega)
  have x2 := Int.mul_le_mul_of_nonneg_right h2 (show 0 ≤ b by omega)
  have e1 : a * d * f = d * (a * f) := by grind
  have e2 : c * b * f = c * f * b := by grind
  have e3 : e * d * b = d * (e * b) := by grind
  exact Int.lt_of_mul_lt_mul_left (show d * (a * f) < d * (e * b) by omega) (by omega)
theorem irr (x : S24) : ¬ ltR x x := by unfold ltR; omega
theorem rd_at (xs : List S24) (i : Nat) : rd_T24 xs (i : Int) = atR xs i := by unfold rd_T24 atR; rw [Int.toNat_natCast]

theorem least_loop (xs : List S24) (h : AllR xs) (hl : xs.length ≤ 1000) : ∀ (m i : Nat) (b : Int), i + m = xs.length → ((i = 0 ∧ b = -1) ∨ ∃ q : Nat, b = (q : Int) ∧ First xs i q) →
    ∃ r : Int, (∃ K, ∀ k, K ≤ k → ratio_Least.l0 k xs b xs (xs.length : Int) (i : Int) = some r) ∧ ((xs.length = 0 ∧ r = -1) ∨ ∃ q : Nat, r = (q : Int) ∧ First xs xs.length q) := by
  intro m
  induction m with
  | zero =>
    intro i b hi hb
    obtain rfl : i = xs.length := by omega
    refine ⟨b, ⟨1, fun k hk => ?_⟩, hb⟩
    obtain ⟨k, rfl, hk'⟩ := succ_of hk
    simp only [ratio_Least.l0]
    rw [if_neg (by omega)]
  | succ m ih =>
    intro i b hi hb
    have vi := h i (by omega)
    obtain ⟨K1, hK1⟩ := valid_ok vi
    have step : wrap64 ((i : Int) + 1) = ((i + 1 : Nat) : Int) := by rw [w64 (by omega) (by omega)]; omega
    rcases hb with ⟨h0, hb⟩ | ⟨q, hb, q1, q2, q3⟩
    · subst hb
      have fi : First xs (i + 1) i := by
        refine ⟨by omega, ?_, by intro j hj; omega⟩
        intro j hj
        obtain rfl : j = i := by omega
        exact irr _
      obtain ⟨r, ⟨K, hK⟩, hr⟩ := ih (i + 1) (i : Int) (by omega) (Or.inr ⟨i, rfl, fi⟩)
      refine ⟨r, ⟨K + K1 + 1, fun k hk => ?_⟩, hr⟩
      obtain ⟨k, rfl, hk'⟩ := succ_of hk
      simp only [ratio_Least.l0]
      rw [if_pos (by omega), if_pos (by omega), if_pos (by omega), rd_at, hK1 _ (by omega)]; simp only [Option.bind_some]
      rw [if_pos (by trivial), if_pos (by omega), step, hK _ (by omega)]
    · subst hb
      have vq := h q (by omega)
      obtain ⟨K2, hK2⟩ := less_ok vi vq
      by_cases c : ltR (atR xs i) (atR xs q)
      · have strict : ∀ j, j < i → ltR (atR xs i) (atR xs j) := by
          intro j hj
          have vj := h j (by omega)
          have := q2 j hj
          exact lt_of_lt_of_le vi.1.2.2.1 vq.1.2.2.1 vj.1.2.2.1 c (by unfold ltR at this; omega)
        have fi : First xs (i + 1) i := by
          refine ⟨by omega, ?_, strict⟩
          intro j hj
          by_cases e : j = i
          · subst e; exact irr _
          · have := strict j (by omega)
            unfold ltR at this ⊢; omega
        obtain ⟨r, ⟨K, hK⟩, hr⟩ := ih (i + 1) (i : Int) (by omega) (Or.inr ⟨i, rfl, fi⟩)
        refine ⟨r, ⟨K + K1 + K2 + 1, fun k hk => ?_⟩, hr⟩
        obtain ⟨k, rfl, hk'⟩ := succ_of hk
        simp only [ratio_Least.l0]
        rw [if_pos (by omega), if_pos (by omega), if_pos (by omega), rd_at, rd_at, hK1 _ (by omega)]; simp only [Option.bind_some]
        rw [if_pos (by trivial), if_neg (by omega), if_pos (by omega), if_pos (by omega), hK2 _ (by omega)]; simp only [Option.bind_some]
        rw [if_pos (decide_eq_true c), step, hK _ (by omega)]
      · have fi : First xs (i + 1) q := by
          refine ⟨by omega, ?_, q3⟩
          intro j hj
          by_cases e : j = i
          · subst e; exact c
          · exact q2 j (by omega)
        obtain ⟨r, ⟨K, hK⟩, hr⟩ := ih (i + 1) (q : Int) (by omega) (Or.inr ⟨q, rfl, fi⟩)
        refine ⟨r, ⟨K + K1 + K2 + 1, fun k hk => ?_⟩, hr⟩
        obtain ⟨k, rfl, hk'⟩ := succ_of hk
        simp only [ratio_Least.l0]
        rw [if_pos (by omega), if_pos (by omega), if_pos (by omega), rd_at, rd_at, hK1 _ (by omega)]; simp only [Option.bind_some]
        rw [if_pos (by trivial), if_neg (by omega), if_pos (by omega), if_pos (by omega), hK2 _ (by omega)]; simp only [Option.bind_some]
        rw [decide_eq_false c, if_neg (by simp), step, hK _ (by omega)]

theorem check_loop (xs : List S24) (h : AllR xs) (hl : xs.length ≤ 1000) (q : Nat) (hq : First xs xs.length q) : ∀ (m i : Nat), i + m = xs.length →
    ∃ K, ∀ k, K ≤ k → shapesearchlaw01_RatioLeasts.l1 k xs (q : Int) (xs.length : Int) (i : Int) = some true := by
  obtain ⟨q1, q2, q3⟩ := hq
  intro m
  induction m with
  | zero =>
    intro i hi
    obtain ⟨K, hK⟩ := awake_ok
    refine ⟨K + 1, fun k hk => ?_⟩
    obtain ⟨k, rfl, hk'⟩ := succ_of hk
    simp only [shapesearchlaw01_RatioLeasts.l1]
    rw [if_neg (by omega), hK _ (by omega)]; rfl
  | succ m ih =>
    intro i hi
    obtain ⟨K, hK⟩ := ih (i + 1) (by omega)
    have vi := h i (by omega)
    have vq := h q (by omega)
    obtain ⟨K2, hK2⟩ := less_ok vi vq
    have step : wrap64 ((i : Int) + 1) = ((i + 1 : Nat) : Int) := by rw [w64 (by omega) (by omega)]; omega
    have c := q2 i (by omega)
    refine ⟨K + K2 + 1, fun k hk => ?_⟩
    obtain ⟨k, rfl, hk'⟩ := succ_of hk
    simp only [shapesearchlaw01_RatioLeasts.l1]
    rw [if_pos (by omega), if_pos (by omega), if_pos (by omega), if_pos (by omega), if_pos (by omega), rd_at, rd_at, hK2 _ (by omega)]; simp only [Option.bind_some]
    rw [decide_eq_false c, if_neg (by simp), step, hK _ (by omega)]
    by_cases e : i < q
    · rw [if_pos (by omega), if_neg ?_]
      intro z
      rw [Bool.and_eq_true, beq_iff_eq, beq_iff_eq] at z
      have := q3 i e
      unfold ltR at this
      rw [z.1, z.2] at this
      omega
    · rw [if_neg (by omega)]

theorem draw_loop (L : List Int) : ∀ (m : Nat) (xs : List S24) (j : Int), Src L j → AllR xs → xs.length + m ≤ 1000 → 1 ≤ xs.length + m →
    ∃ K, ∀ k, K ≤ k → shapesearchlaw01_RatioLeasts.l0 k xs ((m : Int) - 1) L j = some true := by
  intro m
  induction m with
  | zero =>
    intro xs j hj h h1 h2
    obtain ⟨r, ⟨K1, hK1⟩, hr⟩ := least_loop xs h (by omega) xs.length 0 (-1) (by omega) (Or.inl ⟨rfl, rfl⟩)
    rcases hr with ⟨h0, _⟩ | ⟨q, rfl, hq⟩
    · omega
    · obtain ⟨K2, hK2⟩ := check_loop xs h (by omega) q hq xs.length 0 (by omega)
      have qlt := hq.1
      refine ⟨K1 + K2 + 2, fun k hk => ?_⟩
      obtain ⟨k, rfl⟩ : ∃ n, k = n + 2 := ⟨k - 2, by omega⟩
      have e1 : ratio_Least.f (k + 1) xs = some (q : Int) := by unfold ratio_Least.f; exact hK1 _ (by omega)
      simp only [shapesearchlaw01_RatioLeasts.l0]
      rw [if_neg (by omega), e1]; simp only [Option.bind_some]
      rw [if_neg (by omega), decide_eq_false (by omega)]
      simp only [shapesearchlaw01_RatioLeasts.j1]
      rw [if_neg (by simp)]
      exact hK2 _ (by omega)
  | succ m ih =>
    intro xs j hj h h1 h2
    obtain ⟨a, b, j', ⟨K1, hK1⟩, hj', hab⟩ := src_ratio hj
    have h' : AllR (xs ++ [(⟨a, b⟩ : S24)]) := by
      intro i hi
      rw [List.length_append, List.length_singleton] at hi
      by_cases e : i < xs.length
      · have e1 : atR (xs ++ [(⟨a, b⟩ : S24)]) i = atR xs i := getD_append_lt e
        rw [e1]; exact h i e
      · have e1 : atR (xs ++ [(⟨a, b⟩ : S24)]) i = ⟨a, b⟩ := getD_append_eq (by omega)
        rw [e1]; exact hab
    obtain ⟨K, hK⟩ := ih (xs ++ [(⟨a, b⟩ : S24)]) j' hj' h' (by rw [List.length_append, List.length_singleton]; omega) (by rw [List.length_append, List.length_singleton]; omega)
    refine ⟨K + K1 + 1, fun k hk => ?_⟩
    obtain ⟨k, rfl, hk'⟩ := succ_of hk
    simp only [shapesearchlaw01_RatioLeasts.l0]
    rw [if_pos (by omega), hK1 _ (by omega)]; simp only [Option.bind_some]
    rw [if_pos (by omega), w64 (by omega) (by omega), show ((m + 1 : Nat) : Int) - 1 - 1 = (m : Int) - 1 by omega]
    exact hK _ (by omega)

theorem RatioLeasts : shapesearchlaw01_RatioLeasts.Pure := by
  intro l _ _ hl
  obtain ⟨L, e0, hL⟩ := new_ok l hl
  obtain ⟨n, j1, e1, hj1, n0, n1⟩ := n_ok hL 7 (by omega) (by omega)
  obtain ⟨m, hm⟩ := Int.eq_ofNat_of_zero_le (show 0 ≤ n + 1 by omega)
  obtain ⟨K, hK⟩ := draw_loop L m [] j1 hj1 (by intro i hi; exact absurd hi (by simp)) (by rw [List.length_nil]; omega) (by rw [List.length_nil]; omega)
  refine ⟨K, ?_⟩
  unfold shapesearchlaw01_RatioLeasts.f
  rw [e0]; simp only [Option.bind_some]
  rw [e1]; simp only [Option.bind_some]
  rw [show n = (m : Int) - 1 by omega]
  exact hK K (Nat.le_refl _)

end Go.Proofs.YtdfdecpplnjdcaaDoor.Pure
