/- Every distance is symmetric, and nothing for equal windows. -/
import Derived.Test.YtefcciajemkicaaVg0
import Derived.Test.YtefcciajemkicaaVBase
import Derived.Test.YtefcciajemkicaaVEuc
import Derived.Test.YtefcciajemkicaaVWarp
import Derived.Test.YtefcciajemkicaaVGcd
import Derived.Test.YtefcciajemkicaaVWarp2
import Derived.Test.YtefcciajemkicaaVDec
import Derived.Test.YtefcciajemkicaaVText
import Derived.Test.YtefcciajemkicaaVMv
import Derived.Test.YtefcciajemkicaaVDisk
import Derived.Test.YtefcciajemkicaaVEdit
import Derived.Test.YtefcciajemkicaaVGap
import Derived.Test.YtefcciajemkicaaVMD
set_option linter.unusedVariables false
set_option linter.unusedSimpArgs false
namespace Go.Proofs.Ytefcciajemkicaa.V
open Go.VI
theorem mn_comm (a b : Int) : mn a b = mn b a := by have := mn_le a b; have := mn_le b a; omega
theorem sq_comm (x y : List Int) : sq x y = sq y x := by
  induction x generalizing y with
  | nil => cases y <;> rfl
  | cons a x ih =>
    cases y with
    | nil => rfl
    | cons b y =>
      simp only [sq]; rw [ih, show a - b = -(b - a) by omega, Int.neg_mul_neg]
theorem dif_anti (x y : List Int) : dif x y = -dif y x := by
  induction x generalizing y with
  | nil => cases y <;> rfl
  | cons a x ih => cases y with | nil => rfl | cons b y => simp only [dif]; rw [ih]; omega
theorem near_symm (b : Int) (i j : Nat) : Near b i j ↔ Near b j i := ⟨fun h => ⟨h.2, h.1⟩, fun h => ⟨h.2, h.1⟩⟩
theorem cst_symm (x y : List Int) (i j : Nat) : cst x y i j = cst y x j i := by
  unfold cst; rw [show x.getD i 0 - y.getD j 0 = -(y.getD j 0 - x.getD i 0) by omega, Int.neg_mul_neg]
theorem lst_symm {W V : Nat → Nat → Int} {i j : Nat} (h : ∀ a c, a + c < i + j → W a c = V c a) : lst W i j = lst V j i := by
  match i, j with
  | 0, 0 => rfl
  | 0, j + 1 => simp only [lst]; rw [h 0 j (by omega)]
  | i + 1, 0 => simp only [lst]; rw [h i 0 (by omega)]
  | i + 1, j + 1 =>
    simp only [lst]; rw [h i (j + 1) (by omega), h (i + 1) j (by omega), h i j (by omega)]
    generalize V j (i + 1) = p
    generalize V (j + 1) i = q
    generalize V j i = r
    have := mn_le (4611686018427387904 : Int) p
    have := mn_le (4611686018427387904 : Int) q
    have := mn_le (mn (4611686018427387904 : Int) p) q
    have := mn_le (mn (4611686018427387904 : Int) q) p
    have := mn_le (mn (mn (4611686018427387904 : Int) p) q) r
    have := mn_le (mn (mn (4611686018427387904 : Int) q) p) r
    omega
theorem Wp_symm (x y : List Int) (b : Int) : ∀ (n i j : Nat), i + j < n → Wp x y b i j = Wp y x b j i := by
  intro n
  induction n with
  | zero => intro i j h; omega
  | succ n ih =>
    intro i j h
    rw [Wp_eq, Wp_eq y x, lst_symm (V := Wp y x b) fun a c hs => ih a c (by omega), cst_symm x y]
    by_cases k : Near b i j
    · rw [if_pos k, if_pos ((near_symm b i j).1 k)]
    · rw [if_neg k, if_neg (fun h => k ((near_symm b i j).2 h))]
theorem ab_comm (a b : Int) : ab a b = ab b a := by
  unfold ab; have := mx_ge (a - b) (b - a); have := mx_ge (b - a) (a - b); omega
theorem Ed_symm (x y : List Int) (g : Int) : ∀ (n i j : Nat), i + j < n → Ed x y g i j = Ed y x g j i := by
  intro n
  induction n with
  | zero => intro i j h; omega
  | succ n ih =>
    intro i j h
    match i, j with
    | 0, 0 => rfl
    | 0, j + 1 => rw [Ed_0s, Ed_s0, ih 0 j (by omega)]
    | i + 1, 0 => rw [Ed_0s, Ed_s0, ih i 0 (by omega)]
    | i + 1, j + 1 =>
      rw [Ed_ss, Ed_ss, ih i j (by omega), ih i (j + 1) (by omega), ih (i + 1) j (by omega), ab_comm (x.getD i 0) (y.getD j 0)]
      generalize Ed y x g j i + ab (y.getD j 0) (x.getD i 0) = p
      generalize Ed y x g (j + 1) i + ab (x.getD i 0) g = q
      generalize Ed y x g j (i + 1) + ab (y.getD j 0) g = r
      have := mn_le p q
      have := mn_le p r
      have := mn_le (mn p q) r
      have := mn_le (mn p r) q
      omega
theorem Gp_symm {x y : List Int} (hl : y.length = x.length) : Gp x y = Gp y x := by
  unfold Gp
  rw [cv_comm hl, Int.mul_comm (vr x)]
  by_cases c1 : vr x = 0 <;> by_cases c2 : vr y = 0 <;> simp [c1, c2]
theorem MD_symm {k b g : Int} {x y : List Int} (hm : Mv k b g) (h : Fit k b x y) : MD k b g x y = MD k b g y x := by
  have hl := h.len
  unfold MD
  split
  · rw [sq_comm]
  · split
    · have hl := hl (by omega) (by omega)
      rw [sq_comm, dif_anti, Int.neg_mul_neg, hl]
    · split
      · exact Gp_symm (hl (by omega) (by omega))
      · split
        · rw [Wp_symm x y b _ _ _ (Nat.lt_succ_self _)]
        · rw [Ed_symm x y g _ _ _ (Nat.lt_succ_self _)]
theorem dif_self (x : List Int) : dif x x = 0 := by
  induction x with
  | nil => rfl
  | cons a x ih => simp only [dif]; omega
theorem Ed_self {x : List Int} (hx : Wn x) {g : Int} (hg : -1000 ≤ g ∧ g ≤ 1000) : ∀ i, i ≤ x.length → Ed x x g i i = 0 := by
  intro i
  induction i with
  | zero => intro _; rfl
  | succ i ih =>
    intro h
    have e := ih (by omega)
    have b1 := Ed_bd hx hx hg (i + 1 + (i + 1) + 1) (i + 1) (i + 1) (by omega) h h
    rw [Ed_ss] at b1 ⊢
    have : ab (x.getD i 0) (x.getD i 0) = 0 := by unfold ab; have := mx_ge (x.getD i 0 - x.getD i 0) (x.getD i 0 - x.getD i 0); omega
    rw [e, this] at b1 ⊢
    have := mn_le (0 + 0) (Ed x x g i (i + 1) + ab (x.getD i 0) g)
    have := mn_le (mn (0 + 0) (Ed x x g i (i + 1) + ab (x.getD i 0) g)) (Ed x x g (i + 1) i + ab (x.getD i 0) g)
    omega
theorem mkr_zero {d : Int} (h : 1 ≤ d) : mkr 0 d = (0, 1) := by
  unfold mkr
  rw [show Nat.gcd (Int.toNat 0) d.toNat = d.toNat from Nat.gcd_zero_left _, Int.toNat_of_nonneg (by omega), Int.zero_ediv, Int.ediv_self (by omega)]
theorem MD_self {k b g : Int} {x : List Int} (hm : Mv k b g) (hx : Wn x) : MD k b g x x = (0, 1) := by
  have h1 := hx.1
  unfold MD
  split
  · rw [sq_self]
  · split
    · rw [sq_self, dif_self, show (x.length : Int) * 0 - 0 * 0 = 0 by simp]
      exact mkr_zero (by omega)
    · split
      · unfold Gp
        have hcv : cv x x = vr x := rfl
        split
        · rfl
        · rename_i c
          have c1 : vr x ≠ 0 := fun e => c ⟨e, e⟩
          have := vr_nonneg x
          rw [if_neg (fun h => h.elim c1 c1), hcv, if_neg (by omega), Int.sub_self]
          exact mkr_zero (Int.mul_pos (by omega) (by omega))
      · have hb := hm.2.1
        split
        · have e := Wp_euclid (x := x) (y := x) (by omega) rfl (b := b) (by omega)
          have e2 := (Wp_bound x x b _ (x.length - 1) (x.length - 1) (Nat.lt_succ_self _)).1
          rw [sq_self] at e
          rw [show Wp x x b (x.length - 1) (x.length - 1) = 0 by omega]
        · rw [Ed_self hx (by have := hm.2.2; omega) _ (Nat.le_refl _)]
end Go.Proofs.Ytefcciajemkicaa.V
