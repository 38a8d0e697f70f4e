/- Windows that are read backward have the same distance. -/
import Derived.Test.YtefcciajemkicaaVg0
import Derived.Test.YtefcciajemkicaaVBase
import Derived.Test.YtefcciajemkicaaVEuc
import Derived.Test.YtefcciajemkicaaVWarp
import Derived.Test.YtefcciajemkicaaVGcd
import Derived.Test.YtefcciajemkicaaVWarp2
import Derived.Test.YtefcciajemkicaaVDec
import Derived.Test.YtefcciajemkicaaVText
import Derived.Test.YtefcciajemkicaaVMv
import Derived.Test.YtefcciajemkicaaVDisk
import Derived.Test.YtefcciajemkicaaVEdit
import Derived.Test.YtefcciajemkicaaVGap
import Derived.Test.YtefcciajemkicaaVMD
set_option linter.unusedVariables false
set_option linter.unusedSimpArgs false
namespace Go.Proofs.Ytefcciajemkicaa.V
open Go.VI
theorem rev_get {x : List Int} {i : Nat} (h : i < x.length) : x.reverse.getD i 0 = x.getD (x.length - 1 - i) 0 := by
  rw [List.getD_eq_getElem?_getD, List.getElem?_reverse h, ← List.getD_eq_getElem?_getD]
theorem Wn.rev {x : List Int} (h : Wn x) : Wn x.reverse := ⟨by rw [List.length_reverse]; exact h.1, by rw [List.length_reverse]; exact h.2.1, fun v hv => h.2.2 v (List.mem_reverse.1 hv)⟩
/-! ### sums -/
theorem sq_app (x y : List Int) (a b : Int) (h : y.length = x.length) : sq (x ++ [a]) (y ++ [b]) = (a - b) * (a - b) + sq x y := by
  induction x generalizing y with
  | nil => cases y with | nil => simp [sq] | cons => simp at h
  | cons u x ih => cases y with | nil => simp at h | cons v y => simp only [List.cons_append, sq]; rw [ih y (by simpa using h)]; omega
theorem dif_app (x y : List Int) (a b : Int) (h : y.length = x.length) : dif (x ++ [a]) (y ++ [b]) = (a - b) + dif x y := by
  induction x generalizing y with
  | nil => cases y with | nil => simp [dif] | cons => simp at h
  | cons u x ih => cases y with | nil => simp at h | cons v y => simp only [List.cons_append, dif]; rw [ih y (by simpa using h)]; omega
theorem pr_app (x y : List Int) (a b : Int) (h : y.length = x.length) : pr (x ++ [a]) (y ++ [b]) = a * b + pr x y := by
  induction x generalizing y with
  | nil => cases y with | nil => simp [pr] | cons => simp at h
  | cons u x ih => cases y with | nil => simp at h | cons v y => simp only [List.cons_append, pr]; rw [ih y (by simpa using h)]; omega
theorem sm_app (x : List Int) (a : Int) : sm (x ++ [a]) = a + sm x := by
  induction x with
  | nil => simp [sm]
  | cons u x ih => simp only [List.cons_append, sm]; rw [ih]; omega
theorem sums_rev (x y : List Int) (h : y.length = x.length) : sq x.reverse y.reverse = sq x y ∧ dif x.reverse y.reverse = dif x y ∧ pr x.reverse y.reverse = pr x y := by
  induction x generalizing y with
  | nil => cases y with | nil => exact ⟨rfl, rfl, rfl⟩ | cons => simp at h
  | cons a x ih =>
    cases y with
    | nil => simp at h
    | cons b y =>
      have hl : y.length = x.length := by simpa using h
      obtain ⟨h1, h2, h3⟩ := ih y hl
      have hr : y.reverse.length = x.reverse.length := by simp [hl]
      rw [List.reverse_cons, List.reverse_cons]
      refine ⟨?_, ?_, ?_⟩
      · rw [sq_app _ _ _ _ hr, h1]; rfl
      · rw [dif_app _ _ _ _ hr, h2]; rfl
      · rw [pr_app _ _ _ _ hr, h3]; rfl
theorem sm_rev (x : List Int) : sm x.reverse = sm x := by
  induction x with
  | nil => rfl
  | cons a x ih => rw [List.reverse_cons, sm_app, ih]; rfl
theorem vr_rev (x : List Int) : vr x.reverse = vr x := by unfold vr; rw [(sums_rev x x rfl).2.2, sm_rev, List.length_reverse]
theorem cv_rev {x y : List Int} (h : y.length = x.length) : cv x.reverse y.reverse = cv x y := by unfold cv; rw [(sums_rev x y h).2.2, sm_rev, sm_rev, List.length_reverse]
/-! ### ways through the pairs, each with its cost -/
def Stp (p q p' q' : Nat) : Prop := (p' = p + 1 ∧ q' = q) ∨ (p' = p ∧ q' = q + 1) ∨ (p' = p + 1 ∧ q' = q + 1)
inductive Pa (C : Nat → Nat → Int) (b : Int) : Nat → Nat → Nat → Nat → Int → Prop
  | one (i j : Nat) : Near b i j → Pa C b i j i j (C i j)
  | snoc (i j p q p' q' : Nat) (c : Int) : Pa C b i j p q c → Stp p q p' q' → Near b p' q' → Pa C b i j p' q' (c + C p' q')
theorem Pa.cons {C : Nat → Nat → Int} {b : Int} {i' j' p q : Nat} {c : Int} (h : Pa C b i' j' p q c) : ∀ {i j : Nat}, Near b i j → Stp i j i' j' → Pa C b i j p q (C i j + c) := by
  induction h with
  | one hn =>
    intro i j h1 h2
    exact .snoc i j i j i' j' _ (.one i j h1) h2 hn
  | snoc p q p' q' c hp hs hn ih =>
    intro i j h1 h2
    rw [← Int.add_assoc]
    exact .snoc i j p q p' q' _ (ih h1 h2) hs hn
theorem Near.mirror {b : Int} {M i j : Nat} (h : Near b i j) (hi : i ≤ M) (hj : j ≤ M) : Near b (M - i) (M - j) := by
  obtain ⟨h1, h2⟩ := h
  exact ⟨by omega, by omega⟩
theorem Pa.le {C : Nat → Nat → Int} {b : Int} {i j p q : Nat} {c : Int} (h : Pa C b i j p q c) : i ≤ p ∧ j ≤ q := by
  induction h with
  | one => exact ⟨Nat.le_refl _, Nat.le_refl _⟩
  | snoc p q p' q' c hp hs hn ih => rcases hs with hs | hs | hs <;> omega
theorem Pa.mirror {C D : Nat → Nat → Int} {b : Int} {M : Nat} (hC : ∀ i j, i ≤ M → j ≤ M → C i j = D (M - i) (M - j)) {i j p q : Nat} {c : Int} (h : Pa C b i j p q c) : p ≤ M → q ≤ M → Pa D b (M - p) (M - q) (M - i) (M - j) c := by
  induction h with
  | one hn =>
    intro h1 h2
    rw [hC i j h1 h2]
    exact .one _ _ (hn.mirror h1 h2)
  | snoc p q p' q' c hp hs hn ih =>
    intro h1 h2
    have hle := hp.le
    have hs' : p ≤ M ∧ q ≤ M := by rcases hs with hs | hs | hs <;> omega
    have h3 := ih hs'.1 hs'.2
    rw [Int.add_comm, hC p' q' h1 h2]
    refine h3.cons (hn.mirror h1 h2) ?_
    unfold Stp at hs ⊢
    rcases hs with hs | hs | hs <;> omega
theorem lst_le {W : Nat → Nat → Int} {p q p' q' : Nat} (hs : Stp p q p' q') : lst W p' q' ≤ W p q := by
  rcases hs with ⟨rfl, rfl⟩ | ⟨rfl, rfl⟩ | ⟨rfl, rfl⟩
  · cases q' with
    | zero => have := mn_le (4611686018427387904 : Int) (W p 0); simp only [lst]; omega
    | succ q =>
      have := mn_le (mn (4611686018427387904 : Int) (W (p + 1) q)) (W p (q + 1))
      have := mn_le (mn (mn (4611686018427387904 : Int) (W (p + 1) q)) (W p (q + 1))) (W p q)
      simp only [lst]; omega
  · cases p' with
    | zero => have := mn_le (4611686018427387904 : Int) (W 0 q); simp only [lst]; omega
    | succ p =>
      have := mn_le (4611686018427387904 : Int) (W (p + 1) q)
      have := mn_le (mn (4611686018427387904 : Int) (W (p + 1) q)) (W p (q + 1))
      have := mn_le (mn (mn (4611686018427387904 : Int) (W (p + 1) q)) (W p (q + 1))) (W p q)
      simp only [lst]; omega
  · have := mn_le (mn (mn (4611686018427387904 : Int) (W (p + 1) q)) (W p (q + 1))) (W p q)
    simp only [lst]; omega
theorem Wp_low {x y : List Int} {b : Int} {i j p q : Nat} {c : Int} (h : Pa (cst x y) b i j p q c) : i = 0 → j = 0 → Wp x y b p q ≤ c := by
  induction h with
  | one hn =>
    rintro rfl rfl
    rw [Wp_eq, if_pos hn]
    have := mn_le (4611686018427387904 : Int) (lst (Wp x y b) 0 0 + cst x y 0 0)
    have : lst (Wp x y b) 0 0 = 0 := rfl
    omega
  | snoc p q p' q' c hp hs hn ih =>
    intro h1 h2
    have := ih h1 h2
    have := lst_le (W := Wp x y b) hs
    have := mn_le (4611686018427387904 : Int) (lst (Wp x y b) p' q' + cst x y p' q')
    rw [Wp_eq, if_pos hn]; omega
theorem Wp_up (x y : List Int) (b : Int) : ∀ (n i j : Nat), i + j < n → Wp x y b i j < (4611686018427387904 : Int) → Pa (cst x y) b 0 0 i j (Wp x y b i j) := by
  intro n
  induction n with
  | zero => intro i j h; omega
  | succ n ih =>
    intro i j h hlt
    by_cases hn : Near b i j
    · have hc := cst_nonneg x y i j
      have hm := mn_le (4611686018427387904 : Int) (lst (Wp x y b) i j + cst x y i j)
      have e : Wp x y b i j = lst (Wp x y b) i j + cst x y i j := by rw [Wp_eq, if_pos hn] at hlt ⊢; omega
      rw [e] at hlt ⊢
      match i, j with
      | 0, 0 =>
        have e0 : lst (Wp x y b) 0 0 = 0 := rfl
        rw [e0, Int.zero_add]; exact .one 0 0 hn
      | 0, j + 1 =>
        have := mn_le (4611686018427387904 : Int) (Wp x y b 0 j)
        have e0 : lst (Wp x y b) 0 (j + 1) = Wp x y b 0 j := by simp only [lst] at hlt ⊢; omega
        rw [e0] at hlt ⊢
        exact .snoc 0 0 0 j 0 (j + 1) _ (ih 0 j (by omega) (by omega)) (.inr (.inl ⟨rfl, rfl⟩)) hn
      | i + 1, 0 =>
        have := mn_le (4611686018427387904 : Int) (Wp x y b i 0)
        have e0 : lst (Wp x y b) (i + 1) 0 = Wp x y b i 0 := by simp only [lst] at hlt ⊢; omega
        rw [e0] at hlt ⊢
        exact .snoc 0 0 i 0 (i + 1) 0 _ (ih i 0 (by omega) (by omega)) (.inl ⟨rfl, rfl⟩) hn
      | i + 1, j + 1 =>
        have := mn_le (4611686018427387904 : Int) (Wp x y b (i + 1) j)
        have := mn_le (mn (4611686018427387904 : Int) (Wp x y b (i + 1) j)) (Wp x y b i (j + 1))
        have := mn_le (mn (mn (4611686018427387904 : Int) (Wp x y b (i + 1) j)) (Wp x y b i (j + 1))) (Wp x y b i j)
        have e0 : lst (Wp x y b) (i + 1) (j + 1) = Wp x y b (i + 1) j ∨ lst (Wp x y b) (i + 1) (j + 1) = Wp x y b i (j + 1) ∨ lst (Wp x y b) (i + 1) (j + 1) = Wp x y b i j := by simp only [lst] at hlt ⊢; omega
        rcases e0 with e0 | e0 | e0 <;> rw [e0] at hlt ⊢
        · exact .snoc 0 0 (i + 1) j (i + 1) (j + 1) _ (ih (i + 1) j (by omega) (by omega)) (.inr (.inl ⟨rfl, rfl⟩)) hn
        · exact .snoc 0 0 i (j + 1) (i + 1) (j + 1) _ (ih i (j + 1) (by omega) (by omega)) (.inl ⟨rfl, rfl⟩) hn
        · exact .snoc 0 0 i j (i + 1) (j + 1) _ (ih i j (by omega) (by omega)) (.inr (.inr ⟨rfl, rfl⟩)) hn
    · rw [Wp_eq, if_neg hn] at hlt; omega
theorem cst_rev {x y : List Int} (hl : y.length = x.length) {i j : Nat} (hi : i ≤ x.length - 1) (hj : j ≤ x.length - 1) (h0 : 1 ≤ x.length) : cst x y i j = cst x.reverse y.reverse (x.length - 1 - i) (x.length - 1 - j) := by
  unfold cst
  rw [rev_get (by omega), rev_get (by omega), hl, show x.length - 1 - (x.length - 1 - i) = i by omega, show x.length - 1 - (x.length - 1 - j) = j by omega]
theorem Wp_rev_le {x y : List Int} (hx : Wn x) (hy : Wn y) (hl : y.length = x.length) {b : Int} (hb : 0 ≤ b) : Wp x.reverse y.reverse b (x.length - 1) (x.length - 1) ≤ Wp x y b (x.length - 1) (x.length - 1) := by
  have h1 := hx.1
  have h2 := hx.2.1
  have hw := Wp_way hx hy hb _ (x.length - 1) (x.length - 1) (Nat.lt_succ_self _) (by omega) (by omega) ⟨by omega, by omega⟩
  have hp := Wp_up x y b _ (x.length - 1) (x.length - 1) (Nat.lt_succ_self _) (by omega)
  have hm := hp.mirror (D := cst x.reverse y.reverse) (M := x.length - 1) (fun i j hi hj => cst_rev hl hi hj (by omega)) (Nat.le_refl _) (Nat.le_refl _)
  rw [Nat.sub_self, Nat.sub_zero] at hm
  exact Wp_low hm rfl rfl
theorem Wp_rev {x y : List Int} (hx : Wn x) (hy : Wn y) (hl : y.length = x.length) {b : Int} (hb : 0 ≤ b) : Wp x.reverse y.reverse b (x.length - 1) (x.length - 1) = Wp x y b (x.length - 1) (x.length - 1) := by
  have h1 := Wp_rev_le hx hy hl hb
  have h2 := Wp_rev_le hx.rev hy.rev (by simp [hl]) hb
  rw [List.reverse_reverse, List.reverse_reverse, List.length_reverse] at h2
  omega
/-! ### alignments, each with its cost -/
inductive Al (x y : List Int) (g : Int) : Nat → Nat → Nat → Nat → Int → Prop
  | nil (i j : Nat) : Al x y g i j i j 0
  | both (i j p q : Nat) (c : Int) : Al x y g i j p q c → p < x.length → q < y.length → Al x y g i j (p + 1) (q + 1) (c + ab (x.getD p 0) (y.getD q 0))
  | left (i j p q : Nat) (c : Int) : Al x y g i j p q c → p < x.length → Al x y g i j (p + 1) q (c + ab (x.getD p 0) g)
  | right (i j p q : Nat) (c : Int) : Al x y g i j p q c → q < y.length → Al x y g i j p (q + 1) (c + ab (y.getD q 0) g)
section
variable {x y : List Int} {g : Int}
theorem Al.cboth {i j p q : Nat} {c : Int} (h : Al x y g i j p q c) : ∀ {i0 j0 : Nat}, i = i0 + 1 → j = j0 + 1 → i0 < x.length → j0 < y.length → Al x y g i0 j0 p q (ab (x.getD i0 0) (y.getD j0 0) + c) := by
  induction h with
  | nil => rintro i0 j0 rfl rfl h1 h2; rw [Int.add_comm]; exact .both _ _ _ _ _ (.nil _ _) h1 h2
  | both p q c _ h3 h4 ih => intro i0 j0 e1 e2 h1 h2; rw [← Int.add_assoc]; exact .both _ _ _ _ _ (ih e1 e2 h1 h2) h3 h4
  | left p q c _ h3 ih => intro i0 j0 e1 e2 h1 h2; rw [← Int.add_assoc]; exact .left _ _ _ _ _ (ih e1 e2 h1 h2) h3
  | right p q c _ h3 ih => intro i0 j0 e1 e2 h1 h2; rw [← Int.add_assoc]; exact .right _ _ _ _ _ (ih e1 e2 h1 h2) h3
theorem Al.cleft {i j p q : Nat} {c : Int} (h : Al x y g i j p q c) : ∀ {i0 : Nat}, i = i0 + 1 → i0 < x.length → Al x y g i0 j p q (ab (x.getD i0 0) g + c) := by
  induction h with
  | nil => rintro i0 rfl h1; rw [Int.add_comm]; exact .left _ _ _ _ _ (.nil _ _) h1
  | both p q c _ h3 h4 ih => intro i0 e1 h1; rw [← Int.add_assoc]; exact .both _ _ _ _ _ (ih e1 h1) h3 h4
  | left p q c _ h3 ih => intro i0 e1 h1; rw [← Int.add_assoc]; exact .left _ _ _ _ _ (ih e1 h1) h3
  | right p q c _ h3 ih => intro i0 e1 h1; rw [← Int.add_assoc]; exact .right _ _ _ _ _ (ih e1 h1) h3
theorem Al.cright {i j p q : Nat} {c : Int} (h : Al x y g i j p q c) : ∀ {j0 : Nat}, j = j0 + 1 → j0 < y.length → Al x y g i j0 p q (ab (y.getD j0 0) g + c) := by
  induction h with
  | nil => rintro j0 rfl h1; rw [Int.add_comm]; exact .right _ _ _ _ _ (.nil _ _) h1
  | both p q c _ h3 h4 ih => intro j0 e1 h1; rw [← Int.add_assoc]; exact .both _ _ _ _ _ (ih e1 h1) h3 h4
  | left p q c _ h3 ih => intro j0 e1 h1; rw [← Int.add_assoc]; exact .left _ _ _ _ _ (ih e1 h1) h3
  | right p q c _ h3 ih => intro j0 e1 h1; rw [← Int.add_assoc]; exact .right _ _ _ _ _ (ih e1 h1) h3
theorem Al.mirror {i j p q : Nat} {c : Int} (h : Al x y g i j p q c) : p ≤ x.length → q ≤ y.length → Al x.reverse y.reverse g (x.length - p) (y.length - q) (x.length - i) (y.length - j) c := by
  induction h with
  | nil => intro _ _; exact .nil _ _
  | both p q c _ h3 h4 ih =>
    intro h1 h2
    have := ih (by omega) (by omega)
    have e := this.cboth (i0 := x.length - (p + 1)) (j0 := y.length - (q + 1)) (by omega) (by omega) (by rw [List.length_reverse]; omega) (by rw [List.length_reverse]; omega)
    rw [rev_get (by omega), rev_get (by omega), show x.length - 1 - (x.length - (p + 1)) = p by omega, show y.length - 1 - (y.length - (q + 1)) = q by omega, Int.add_comm] at e
    exact e
  | left p q c _ h3 ih =>
    intro h1 h2
    have := ih (by omega) h2
    have e := this.cleft (i0 := x.length - (p + 1)) (by omega) (by rw [List.length_reverse]; omega)
    rw [rev_get (by omega), show x.length - 1 - (x.length - (p + 1)) = p by omega, Int.add_comm] at e
    exact e
  | right p q c _ h3 ih =>
    intro h1 h2
    have := ih h1 (by omega)
    have e := this.cright (j0 := y.length - (q + 1)) (by omega) (by rw [List.length_reverse]; omega)
    rw [rev_get (by omega), show y.length - 1 - (y.length - (q + 1)) = q by omega, Int.add_comm] at e
    exact e
theorem Ed_low {i j p q : Nat} {c : Int} (h : Al x y g i j p q c) : i = 0 → j = 0 → Ed x y g p q ≤ c := by
  induction h with
  | nil => rintro rfl rfl; exact Int.le_refl _
  | both p q c _ h3 h4 ih =>
    intro e1 e2
    have := ih e1 e2
    have := mn_le (Ed x y g p q + ab (x.getD p 0) (y.getD q 0)) (Ed x y g p (q + 1) + ab (x.getD p 0) g)
    have := mn_le (mn (Ed x y g p q + ab (x.getD p 0) (y.getD q 0)) (Ed x y g p (q + 1) + ab (x.getD p 0) g)) (Ed x y g (p + 1) q + ab (y.getD q 0) g)
    rw [Ed_ss]; omega
  | left p q c _ h3 ih =>
    intro e1 e2
    have := ih e1 e2
    cases q with
    | zero => rw [Ed_s0]; omega
    | succ q =>
      have := mn_le (Ed x y g p q + ab (x.getD p 0) (y.getD q 0)) (Ed x y g p (q + 1) + ab (x.getD p 0) g)
      have := mn_le (mn (Ed x y g p q + ab (x.getD p 0) (y.getD q 0)) (Ed x y g p (q + 1) + ab (x.getD p 0) g)) (Ed x y g (p + 1) q + ab (y.getD q 0) g)
      rw [Ed_ss]; omega
  | right p q c _ h3 ih =>
    intro e1 e2
    have := ih e1 e2
    cases p with
    | zero => rw [Ed_0s]; omega
    | succ p =>
      have := mn_le (Ed x y g p q + ab (x.getD p 0) (y.getD q 0)) (Ed x y g p (q + 1) + ab (x.getD p 0) g)
      have := mn_le (mn (Ed x y g p q + ab (x.getD p 0) (y.getD q 0)) (Ed x y g p (q + 1) + ab (x.getD p 0) g)) (Ed x y g (p + 1) q + ab (y.getD q 0) g)
      rw [Ed_ss]; omega
theorem Ed_up (x y : List Int) (g : Int) : ∀ (n i j : Nat), i + j < n → i ≤ x.length → j ≤ y.length → Al x y g 0 0 i j (Ed x y g i j) := by
  intro n
  induction n with
  | zero => intro i j h; omega
  | succ n ih =>
    intro i j h hi hj
    match i, j with
    | 0, 0 => exact .nil 0 0
    | 0, j + 1 => exact .right _ _ _ _ _ (ih 0 j (by omega) (by omega) (by omega)) (by omega)
    | i + 1, 0 => exact .left _ _ _ _ _ (ih i 0 (by omega) (by omega) (by omega)) (by omega)
    | i + 1, j + 1 =>
      have h1 := mn_le (Ed x y g i j + ab (x.getD i 0) (y.getD j 0)) (Ed x y g i (j + 1) + ab (x.getD i 0) g)
      have h2 := mn_le (mn (Ed x y g i j + ab (x.getD i 0) (y.getD j 0)) (Ed x y g i (j + 1) + ab (x.getD i 0) g)) (Ed x y g (i + 1) j + ab (y.getD j 0) g)
      have e : Ed x y g (i + 1) (j + 1) = Ed x y g i j + ab (x.getD i 0) (y.getD j 0) ∨ Ed x y g (i + 1) (j + 1) = Ed x y g i (j + 1) + ab (x.getD i 0) g ∨ Ed x y g (i + 1) (j + 1) = Ed x y g (i + 1) j + ab (y.getD j 0) g := by rw [Ed_ss]; omega
      rcases e with e | e | e <;> rw [e]
      · exact .both _ _ _ _ _ (ih i j (by omega) (by omega) (by omega)) (by omega) (by omega)
      · exact .left _ _ _ _ _ (ih i (j + 1) (by omega) (by omega) (by omega)) (by omega)
      · exact .right _ _ _ _ _ (ih (i + 1) j (by omega) (by omega) (by omega)) (by omega)
theorem Ed_rev_le (x y : List Int) (g : Int) : Ed x.reverse y.reverse g x.length y.length ≤ Ed x y g x.length y.length := by
  have h := (Ed_up x y g _ x.length y.length (Nat.lt_succ_self _) (Nat.le_refl _) (Nat.le_refl _)).mirror (Nat.le_refl _) (Nat.le_refl _)
  rw [Nat.sub_self, Nat.sub_self, Nat.sub_zero, Nat.sub_zero] at h
  exact Ed_low h rfl rfl
theorem Ed_rev (x y : List Int) (g : Int) : Ed x.reverse y.reverse g x.length y.length = Ed x y g x.length y.length := by
  have h1 := Ed_rev_le x y g
  have h2 := Ed_rev_le x.reverse y.reverse g
  rw [List.reverse_reverse, List.reverse_reverse, List.length_reverse, List.length_reverse] at h2
  omega
end
theorem MD_rev {k b g : Int} {x y : List Int} (hm : Mv k b g) (hx : Wn x) (hy : Wn y) (hl : y.length = x.length) : MD k b g x.reverse y.reverse = MD k b g x y := by
  obtain ⟨h1, h2, _⟩ := sums_rev x y hl
  have hb := hm.2.1
  have hE := Ed_rev x y g
  rw [hl] at hE
  unfold MD
  rw [h1, h2, List.length_reverse, List.length_reverse, hl, Wp_rev hx hy hl (by omega), hE]
  have hg : Gp x.reverse y.reverse = Gp x y := by unfold Gp; rw [vr_rev, vr_rev, cv_rev hl]
  rw [hg]
end Go.Proofs.Ytefcciajemkicaa.V
