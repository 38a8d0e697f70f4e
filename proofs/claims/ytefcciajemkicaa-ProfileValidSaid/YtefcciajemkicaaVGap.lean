/- The gap of two windows after shifting and scaling. -/
import Derived.Test.YtefcciajemkicaaVg1
import Derived.Test.YtefcciajemkicaaVBase
import Derived.Test.YtefcciajemkicaaVEuc
import Derived.Test.YtefcciajemkicaaVGcd
set_option linter.unusedVariables false
set_option linter.unusedSimpArgs false
namespace Go.Proofs.Ytefcciajemkicaa.V
open Go.VI
def sm : List Int → Int
  | [] => 0
  | a :: x => a + sm x
def pr : List Int → List Int → Int
  | a :: x, b :: y => a * b + pr x y
  | _, _ => 0
def vr (x : List Int) : Int := (x.length : Int) * pr x x - sm x * sm x
def cv (x y : List Int) : Int := (x.length : Int) * pr x y - sm x * sm y
theorem sm_bd (x : List Int) (hx : ∀ v ∈ x, -1000 ≤ v ∧ v ≤ 1000) : -1000 * (x.length : Int) ≤ sm x ∧ sm x ≤ 1000 * (x.length : Int) := by
  induction x with
  | nil => simp [sm]
  | cons a x ih =>
    have := ih fun v h => hx v (List.mem_cons_of_mem _ h)
    have := hx a (List.mem_cons_self ..)
    simp only [sm, List.length_cons]; omega
theorem pr_bd (x y : List Int) (hx : ∀ v ∈ x, -1000 ≤ v ∧ v ≤ 1000) (hy : ∀ v ∈ y, -1000 ≤ v ∧ v ≤ 1000) : -1000000 * (x.length : Int) ≤ pr x y ∧ pr x y ≤ 1000000 * (x.length : Int) := by
  induction x generalizing y with
  | nil => simp [pr]
  | cons a x ih =>
    cases y with
    | nil => simp only [pr, List.length_cons]; omega
    | cons b y =>
      have := ih y (fun v h => hx v (List.mem_cons_of_mem _ h)) fun v h => hy v (List.mem_cons_of_mem _ h)
      have h1 := hx a (List.mem_cons_self ..)
      have h2 := hy b (List.mem_cons_self ..)
      have := mul_abs2 (a := a) (A := 1000) (b := b) (B := 1000) h1.1 h1.2 h2.1 h2.2 (by omega)
      simp only [pr, List.length_cons]; omega
theorem pr_nonneg (x : List Int) : 0 ≤ pr x x := by
  induction x with
  | nil => simp [pr]
  | cons a x ih => have := sq_nonneg a; simp only [pr]; omega
theorem pr_comm (x y : List Int) : pr x y = pr y x := by
  induction x generalizing y with
  | nil => cases y <;> rfl
  | cons a x ih => cases y with | nil => rfl | cons b y => simp only [pr]; rw [ih, Int.mul_comm]
theorem cv_comm {x y : List Int} (h : y.length = x.length) : cv x y = cv y x := by unfold cv; rw [h, pr_comm x y, Int.mul_comm (sm x)]
/-- Scaled lists. -/
theorem sq_scaled (s t : Int) (x y : List Int) (h : y.length = x.length) : sq (x.map (s * ·)) (y.map (t * ·)) = s * s * pr x x - 2 * (s * t * pr x y) + t * t * pr y y := by
  induction x generalizing y with
  | nil => cases y with | nil => simp [sq, pr] | cons => simp at h
  | cons a x ih =>
    cases y with
    | nil => simp at h
    | cons b y =>
      have := ih y (by simpa using h)
      simp only [List.map_cons, sq, pr]
      rw [this]; grind
theorem dif_scaled (s t : Int) (x y : List Int) (h : y.length = x.length) : dif (x.map (s * ·)) (y.map (t * ·)) = s * sm x - t * sm y := by
  induction x generalizing y with
  | nil => cases y with | nil => simp [dif, sm] | cons => simp at h
  | cons a x ih =>
    cases y with
    | nil => simp at h
    | cons b y =>
      have := ih y (by simpa using h)
      simp only [List.map_cons, dif, sm]
      rw [this]; grind
theorem vr_cv (s t : Int) (x y : List Int) (h : y.length = x.length) : 0 ≤ s * s * vr x - 2 * (s * t * cv x y) + t * t * vr y := by
  have h1 := sq_dif2 (x.map (s * ·)) (y.map (t * ·)) (by simpa using h)
  rw [sq_scaled s t x y h, dif_scaled s t x y h, List.length_map] at h1
  have e : s * s * vr x - 2 * (s * t * cv x y) + t * t * vr y = (x.length : Int) * (s * s * pr x x - 2 * (s * t * pr x y) + t * t * pr y y) - (s * sm x - t * sm y) * (s * sm x - t * sm y) := by
    unfold vr cv; rw [h]; grind
  omega
theorem vr_nonneg (x : List Int) : 0 ≤ vr x := by
  have := vr_cv 1 0 x x rfl
  simpa using this
/-- The square of the product is at most the product of the variances. -/
theorem cv_le {x y : List Int} (h : y.length = x.length) (hw : vr y ≠ 0) : cv x y * cv x y ≤ vr x * vr y := by
  have h1 := vr_cv (vr y) (cv x y) x y h
  have h2 := vr_nonneg y
  have e : vr y * vr y * vr x - 2 * (vr y * cv x y * cv x y) + cv x y * cv x y * vr y = vr y * (vr x * vr y - cv x y * cv x y) := by grind
  rw [e] at h1
  have h3 : 0 ≤ vr x * vr y - cv x y * cv x y := by
    rcases Int.lt_or_le (vr x * vr y - cv x y * cv x y) 0 with hlt | hle
    · have := Int.mul_neg_of_pos_of_neg (show 0 < vr y by omega) hlt
      omega
    · exact hle
  omega
theorem vr_bd {x : List Int} (hx : Wn x) : 0 ≤ vr x ∧ vr x ≤ 1024000000 := by
  refine ⟨vr_nonneg x, ?_⟩
  have h1 := pr_bd x x hx.2.2 hx.2.2
  have h2 := pr_nonneg x
  have h3 := sq_nonneg (sm x)
  have h4 := hx.2.1
  have := mul_bd (a := (x.length : Int)) (A := 32) (b := pr x x) (B := 32000000) (by omega) (by omega) h2 (by omega)
  unfold vr; omega
/-- The gap. -/
def Gp (x y : List Int) : Int × Int :=
  if vr x = 0 ∧ vr y = 0 then (0, 1) else if vr x = 0 ∨ vr y = 0 then (1, 1) else
    if cv x y < 0 then mkr (vr x * vr y + cv x y * cv x y) (vr x * vr y) else mkr (vr x * vr y - cv x y * cv x y) (vr x * vr y)
theorem sm_drop {x : List Int} {i : Nat} (h : i < x.length) : sm (x.drop i) = x.getD i 0 + sm (x.drop (i + 1)) := by rw [drop_cons h]; rfl
theorem pr_drop {x y : List Int} {i : Nat} (h : i < x.length) (h' : i < y.length) : pr (x.drop i) (y.drop i) = x.getD i 0 * y.getD i 0 + pr (x.drop (i + 1)) (y.drop (i + 1)) := by rw [drop_cons h, drop_cons h']; rfl
theorem variance_loop {x : List Int} (hx : Wn x) (c : Int) : ∀ (k i : Nat) (s q : Int), i + k = x.length → -1000 * (i : Int) ≤ s → s ≤ 1000 * (i : Int) → -1000000 * (i : Int) ≤ q → q ≤ 1000000 * (i : Int) →
    normal_variance.L0 (((), x, (x.length : Int), (i : Int), ()), ((c, s, q, ()), ())) = some (Sum.inl (((), ()), ((c, s + sm (x.drop i), q + pr (x.drop i) (x.drop i), ()), ()))) := by
  have h32 := hx.2.1
  intro k
  induction k with
  | zero => intro i s q h h0 h1 h2 h3; rw [normal_variance.L0_eq, normal_variance.f0, df (by omega), drop_nil' (by omega)]; simp [sm, pr]
  | succ k ih =>
    intro i s q h h0 h1 h2 h3
    have g := hx.get (i := i) (by omega)
    have g2 := mul_abs2 (a := x.getD i 0) (A := 1000) (b := x.getD i 0) (B := 1000) g.1 g.2 g.1 g.2 (by omega)
    rw [normal_variance.L0_eq, normal_variance.f0, dt (by omega), dt (by omega), Int.toNat_natCast, sm_drop (by omega), pr_drop (by omega) (by omega)]
    rw [w64 (n := x.getD i 0 * x.getD i 0) (by omega), w64 (n := s + x.getD i 0) (by omega), w64 (n := q + x.getD i 0 * x.getD i 0) (by omega), w64 (n := (i : Int) + 1) (by omega), show (i : Int) + 1 = ((i + 1 : Nat) : Int) by omega]
    simp only [cond_true]
    rw [show normal_variance.L0 (((), (x, ((x.length : Int), (((i + 1 : Nat) : Int), ())))), ((c, (s + x.getD i 0, (q + x.getD i 0 * x.getD i 0, ()))), ())) = _ from ih (i + 1) _ _ (by omega) (by omega) (by omega) (by omega) (by omega)]
    simp only [Option.bind_some, Int.add_assoc]
theorem variance_ok {x : List Int} (hx : Wn x) : normal_variance.F ((x, ()), ()) = some ((vr x, ()), ()) := by
  have h1 := hx.1
  have h2 := hx.2.1
  have h3 := sm_bd x hx.2.2
  have h4 := pr_bd x x hx.2.2 hx.2.2
  have h5 := pr_nonneg x
  have h6 := vr_bd hx
  have h7 := sq_bounds (x := sm x) (b := 32000) (by omega) (by omega)
  have h8 := mul_bd (a := (x.length : Int)) (A := 32) (b := pr x x) (B := 32000000) (by omega) (by omega) h5 (by omega)
  rw [normal_variance.F_eq, normal_variance.f, show normal_variance.L0 (((), (x, ((x.length : Int), ((0 : Int), ())))), (((x.length : Int), ((0 : Int), ((0 : Int), ()))), ())) = _ from variance_loop hx _ x.length 0 0 0 (by omega) (by omega) (by omega) (by omega) (by omega)]
  simp only [Option.bind_some, Sum.elim_inl, List.drop_zero, Int.zero_add]
  rw [window_Variance.F_eq, window_Variance.f, window_Variance.L0_eq, window_Variance.f0, df (by omega), df (by omega), w64 (n := -1000 * (x.length : Int)) (by omega), w64 (n := 1000 * (x.length : Int)) (by omega), w64 (n := 1000000 * (x.length : Int)) (by omega), df (by omega), df (by omega), df (by omega), df (by omega)]
  simp only [cond_false, Option.bind_some, Sum.elim_inl]
  rw [w64 (n := (x.length : Int) * pr x x) (by omega), w64 (n := sm x * sm x) (by omega), w64 (by omega)]
  have : mx 0 ((x.length : Int) * pr x x - sm x * sm x) = vr x := by
    unfold vr at h6 ⊢; unfold mx
    split <;> omega
  rw [this]
theorem product_loop {x y : List Int} (hx : Wn x) (hy : Wn y) (hl : y.length = x.length) : ∀ (k i : Nat) (p s t : Int), i + k = x.length → -1000000 * (i : Int) ≤ p → p ≤ 1000000 * (i : Int) → -1000 * (i : Int) ≤ s → s ≤ 1000 * (i : Int) → -1000 * (i : Int) ≤ t → t ≤ 1000 * (i : Int) →
    normal_product.L0 ((x, y, p, s, t, x, (x.length : Int), (i : Int), ()), ()) = some (Sum.inl ((x, p + pr (x.drop i) (y.drop i), s + sm (x.drop i), t + sm (y.drop i), ()), ())) := by
  have h32 := hx.2.1
  intro k
  induction k with
  | zero => intro i p s t h h0 h1 h2 h3 h4 h5; rw [normal_product.L0_eq, normal_product.f0, df (by omega), drop_nil' (by omega), drop_nil' (by omega)]; simp [sm, pr]
  | succ k ih =>
    intro i p s t h h0 h1 h2 h3 h4 h5
    have g1 := hx.get (i := i) (by omega)
    have g2 := hy.get (i := i) (by omega)
    have g3 := mul_abs2 (a := x.getD i 0) (A := 1000) (b := y.getD i 0) (B := 1000) g1.1 g1.2 g2.1 g2.2 (by omega)
    rw [normal_product.L0_eq, normal_product.f0, dt (by omega), dt (by omega), dt (by omega : (i : Int) < (y.length : Int)), Int.toNat_natCast, sm_drop (by omega), sm_drop (x := y) (by omega), pr_drop (by omega) (by omega)]
    rw [w64 (n := x.getD i 0 * y.getD i 0) (by omega), w64 (n := s + x.getD i 0) (by omega), w64 (n := t + y.getD i 0) (by omega), w64 (n := p + x.getD i 0 * y.getD i 0) (by omega), w64 (n := (i : Int) + 1) (by omega), show (i : Int) + 1 = ((i + 1 : Nat) : Int) by omega]
    simp only [cond_true]
    rw [show normal_product.L0 ((x, (y, (p + x.getD i 0 * y.getD i 0, (s + x.getD i 0, (t + y.getD i 0, (x, ((x.length : Int), (((i + 1 : Nat) : Int), ())))))))), ()) = _ from ih (i + 1) _ _ _ (by omega) (by omega) (by omega) (by omega) (by omega) (by omega) (by omega)]
    simp only [Option.bind_some, Int.add_assoc]
theorem cv_bd {x y : List Int} (hx : Wn x) (hy : Wn y) (hl : y.length = x.length) : -2048000000 ≤ cv x y ∧ cv x y ≤ 2048000000 := by
  have h2 := hx.2.1
  have h3 := sm_bd x hx.2.2
  have h4 := sm_bd y hy.2.2
  have h5 := pr_bd x y hx.2.2 hy.2.2
  have h7 := mul_abs2 (a := sm x) (A := 32000) (b := sm y) (B := 32000) (by omega) (by omega) (by omega) (by omega) (by omega)
  have h8 := mul_abs2 (a := (x.length : Int)) (A := 32) (b := pr x y) (B := 32000000) (by omega) (by omega) (by omega) (by omega) (by omega)
  unfold cv; omega
theorem product_ok {x y : List Int} (hx : Wn x) (hy : Wn y) (hl : y.length = x.length) : normal_product.F ((x, y, ()), ()) = some ((cv x y, ()), ()) := by
  have h2 := hx.2.1
  have h3 := sm_bd x hx.2.2
  have h4 := sm_bd y hy.2.2
  have h5 := pr_bd x y hx.2.2 hy.2.2
  have h7 := mul_abs2 (a := sm x) (A := 32000) (b := sm y) (B := 32000) (by omega) (by omega) (by omega) (by omega) (by omega)
  have h8 := mul_abs2 (a := (x.length : Int)) (A := 32) (b := pr x y) (B := 32000000) (by omega) (by omega) (by omega) (by omega) (by omega)
  rw [normal_product.F_eq, normal_product.f, show normal_product.L0 ((x, (y, ((0 : Int), ((0 : Int), ((0 : Int), (x, ((x.length : Int), ((0 : Int), ())))))))), ()) = _ from product_loop hx hy hl x.length 0 0 0 0 (by omega) (by omega) (by omega) (by omega) (by omega) (by omega) (by omega)]
  simp only [Option.bind_some, Sum.elim_inl, List.drop_zero, Int.zero_add]
  rw [w64 (n := (x.length : Int) * pr x y) (by omega), w64 (n := sm x * sm y) (by omega), w64 (by omega)]
  rfl
theorem Gp_in {x y : List Int} (hx : Wn x) (hy : Wn y) (hl : y.length = x.length) (h : ¬ (vr x = 0 ∨ vr y = 0)) : InR (vr x * vr y + cv x y * cv x y) (vr x * vr y) ∧ InR (vr x * vr y - cv x y * cv x y) (vr x * vr y) := by
  have b1 := vr_bd hx
  have b2 := vr_bd hy
  have b3 := mul_bd (a := vr x) (A := 1024000000) (b := vr y) (B := 1024000000) b1.1 b1.2 b2.1 b2.2
  have b4 := cv_le hl (fun e => h (.inr e))
  have b5 := sq_nonneg (cv x y)
  have b6 := Int.mul_pos (show 0 < vr x by omega) (show 0 < vr y by omega)
  exact ⟨⟨by omega, by omega, by omega, by omega⟩, ⟨by omega, by omega, by omega, by omega⟩⟩
theorem Gp_vr {x y : List Int} (hx : Wn x) (hy : Wn y) (hl : y.length = x.length) : VR (Gp x y).1 (Gp x y).2 := by
  unfold Gp
  split
  · exact ⟨⟨by decide, by decide, by decide, by decide⟩, rfl⟩
  · split
    · exact ⟨⟨by decide, by decide, by decide, by decide⟩, rfl⟩
    · rename_i h
      obtain ⟨h1, h2⟩ := Gp_in hx hy hl h
      split
      · exact (mkr_vr h1).1
      · exact (mkr_vr h2).1
theorem gap_ok {x y : List Int} (hx : Wn x) (hy : Wn y) (hl : y.length = x.length) : normal_Gap.F ((x, y, ()), ()) = some ((((Gp x y).1, (Gp x y).2, ()), 0, ()), ()) := by
  have b1 := vr_bd hx
  have b2 := vr_bd hy
  have b3 := mul_bd (a := vr x) (A := 1024000000) (b := vr y) (B := 1024000000) b1.1 b1.2 b2.1 b2.2
  rw [normal_Gap.F_eq, normal_Gap.f, eDistance_ok hx hy hl]
  simp only [Option.bind_some]
  rw [nt rfl]
  simp only [cond_false]
  rw [normal_gap.F_eq, normal_gap.f, variance_ok hx, variance_ok hy]
  simp only [Option.bind_some]
  rw [normal_gap.L0_eq, normal_gap.f0, normal_gap.L1_eq, normal_gap.f1]
  have m0 : ratio_Make.F ((0, 1, ()), ()) = some (((0, 1, ()), 0, ()), ()) := by rw [make_ok ⟨by omega, by omega, by omega, by omega⟩, mkr_one (by omega)]
  have m1 : ratio_Make.F ((1, 1, ()), ()) = some (((1, 1, ()), 0, ()), ()) := by rw [make_ok ⟨by omega, by omega, by omega, by omega⟩, mkr_one (by omega)]
  by_cases c1 : vr x = 0
  · rw [bt c1]
    simp only [cond_true, Option.bind_some, Sum.elim_inl]
    by_cases c2 : vr y = 0
    · rw [bt c2]
      simp only [cond_true]
      rw [m0]
      unfold Gp; rw [if_pos ⟨c1, c2⟩]; rfl
    · rw [bf c2]
      simp only [cond_false, cond_true, bt c1]
      rw [m1]
      unfold Gp; rw [if_neg (fun h => c2 h.2), if_pos (.inl c1)]; rfl
  · rw [bf c1]
    simp only [cond_false, Option.bind_some, Sum.elim_inl]
    by_cases c2 : vr y = 0
    · simp only [cond_true, cond_false, bt c2, bf c1]
      rw [m1]
      unfold Gp; rw [if_neg (fun h => c1 h.1), if_pos (.inr c2)]; rfl
    · have hn : ¬ (vr x = 0 ∨ vr y = 0) := fun h => h.elim c1 c2
      obtain ⟨i1, i2⟩ := Gp_in hx hy hl hn
      have b4 := cv_le hl c2
      have b5 := sq_nonneg (cv x y)
      simp only [cond_false, Option.bind_some, Sum.elim_inl, Sum.elim_inr, bf c1, bf c2]
      rw [product_ok hx hy hl]
      simp only [Option.bind_some]
      rw [w64 (n := vr x * vr y) (by omega), w64 (n := cv x y * cv x y) (by omega), w64 (n := vr x * vr y + cv x y * cv x y) (by omega), w64 (n := vr x * vr y - cv x y * cv x y) (by omega)]
      by_cases c3 : cv x y < 0
      · rw [dt c3]
        simp only [cond_true]
        rw [make_ok i1]
        unfold Gp; rw [if_neg (fun h => c1 h.1), if_neg hn, if_pos c3]; rfl
      · rw [df c3]
        simp only [cond_false]
        rw [make_ok i2]
        unfold Gp; rw [if_neg (fun h => c1 h.1), if_neg hn, if_neg c3]; rfl
end Go.Proofs.Ytefcciajemkicaa.V
