/- The reference's distances by sums answer as the program's do. -/
import Derived.Test.YtefcciajemkicaaVg3
import Derived.Test.YtefcciajemkicaaVBase
import Derived.Test.YtefcciajemkicaaVEuc
import Derived.Test.YtefcciajemkicaaVWarp
import Derived.Test.YtefcciajemkicaaVGcd
import Derived.Test.YtefcciajemkicaaVWarp2
import Derived.Test.YtefcciajemkicaaVDec
import Derived.Test.YtefcciajemkicaaVText
import Derived.Test.YtefcciajemkicaaVMv
import Derived.Test.YtefcciajemkicaaVDisk
import Derived.Test.YtefcciajemkicaaVEdit
import Derived.Test.YtefcciajemkicaaVGap
import Derived.Test.YtefcciajemkicaaVMD
set_option linter.unusedVariables false
set_option linter.unusedSimpArgs false
namespace Go.Proofs.Ytefcciajemkicaa.V
open Go.VI
theorem rsample_ok (n : Int) : ref04_Sample.F ((n, ()), ()) = some ((decide (-1000 ≤ n ∧ n ≤ 1000), ()), ()) := by
  rw [ref04_Sample.F_eq, ref04_Sample.f]
  by_cases c : n ≥ -1000
  · rw [dt c]
    have : decide (-1000 ≤ n ∧ n ≤ 1000) = decide (n ≤ 1000) := decide_eq_decide.2 ⟨fun h => h.2, fun h => ⟨c, h⟩⟩
    rw [this]; rfl
  · rw [df c, df (by omega : ¬ (-1000 ≤ n ∧ n ≤ 1000))]; rfl
theorem rsamples_loop (x : List Int) (hl : x.length ≤ 100000) (hx : ∀ v ∈ x, -1000 ≤ v ∧ v ≤ 1000) : ∀ (k i : Nat), i + k = x.length → ref12_Samples.L0 ((x, (x.length : Int), (i : Int), ()), ()) = some (Sum.inl ((), ())) := by
  intro k
  induction k with
  | zero => intro i h; rw [ref12_Samples.L0_eq, ref12_Samples.f0, df (by omega)]; rfl
  | succ k ih =>
    intro i h
    have hg := hx _ (getD_mem (l := x) (i := i) (d := 0) (by omega))
    rw [ref12_Samples.L0_eq, ref12_Samples.f0, dt (by omega), dt (by omega), Int.toNat_natCast, rsample_ok, dt hg, w64 (by omega)]
    simp only [cond_true, cond_false, Option.bind_some, Bool.not_true]
    rw [show (i : Int) + 1 = ((i + 1 : Nat) : Int) by omega, show ref12_Samples.L0 ((x, ((x.length : Int), (((i + 1 : Nat) : Int), ()))), ()) = _ from ih (i + 1) (by omega)]
    rfl
theorem rsamples_ok {x : List Int} (h : Wn x) : ref12_Samples.F ((x, ()), ()) = some ((0, ()), ()) := by
  rw [ref12_Samples.F_eq, ref12_Samples.f, show ref12_Samples.L0 ((x, ((x.length : Int), ((0 : Int), ()))), ()) = _ from rsamples_loop x (by have := h.2.1; omega) h.2.2 x.length 0 (by omega)]; rfl
theorem rtwo_ok {x y : List Int} (hx : Wn x) (hy : Wn y) {b : Int} (h : (x.length : Int) - y.length ≤ b ∧ (y.length : Int) - x.length ≤ b) : ref12_Two.F ((x, y, b, ()), ()) = some ((0, ()), ()) := by
  have h1 := hx.1
  have h2 := hy.1
  have h3 := hx.2.1
  have h4 := hy.2.1
  rw [ref12_Two.F_eq, ref12_Two.f, ref12_Two.L0_eq, ref12_Two.f0, df (by omega), df (by omega), df (by omega), df (by omega)]
  simp only [cond_false, Option.bind_some, Sum.elim_inl]
  rw [ref12_Two.L1_eq, ref12_Two.f1, rsamples_ok hx, rsamples_ok hy]
  simp only [Option.bind_some]
  rw [nt rfl]
  simp only [cond_false, Option.bind_some, Sum.elim_inl]
  rw [w64 (by omega), w64 (by omega), df (by omega), df (by omega)]
  rfl
theorem rsums_loop {x y : List Int} (hx : Wn x) (hy : Wn y) (hl : y.length = x.length) : ∀ (k i : Nat) (d s : Int), i + k = x.length → -2000 * (i : Int) ≤ d → d ≤ 2000 * (i : Int) → 0 ≤ s → s ≤ 4000000 * (i : Int) →
    ref12_sums.L0 ((x, y, d, s, (x.length : Int), (i : Int), ()), ()) = some (Sum.inl ((d + dif (x.drop i) (y.drop i), s + sq (x.drop i) (y.drop i), ()), ())) := by
  have h32 := hx.2.1
  intro k
  induction k with
  | zero => intro i d s h h0 h1 h2 h3; rw [ref12_sums.L0_eq, ref12_sums.f0, df (by omega), drop_nil' (by omega)]; simp [sq, dif]
  | succ k ih =>
    intro i d s h h0 h1 h2 h3
    have g1 := hx.get (i := i) (by omega)
    have g2 := hy.get (i := i) (by omega)
    rw [ref12_sums.L0_eq, ref12_sums.f0, dt (by omega), dt (by omega), dt (by omega : (i : Int) < (y.length : Int)), Int.toNat_natCast, sq_drop (by omega) (by omega), dif_drop (by omega) (by omega)]
    generalize x.getD i 0 = a at *
    generalize y.getD i 0 = b at *
    have hb := sq_bounds (x := a - b) (b := 2000) (by omega) (by omega)
    rw [w64 (n := d + a) (by omega), w64 (n := d + a - b) (by omega), w64 (n := a - b) (by omega), w64 (n := (a - b) * (a - b)) (by omega), w64 (n := s + (a - b) * (a - b)) (by omega), w64 (n := (i : Int) + 1) (by omega)]
    simp only [cond_true]
    rw [show (i : Int) + 1 = ((i + 1 : Nat) : Int) by omega, show ref12_sums.L0 ((x, (y, (d + a - b, (s + (a - b) * (a - b), ((x.length : Int), (((i + 1 : Nat) : Int), ())))))), ()) = _ from ih (i + 1) _ _ (by omega) (by omega) (by omega) (by omega) (by omega)]
    simp only [Option.bind_some]
    rw [show d + a - b + dif (x.drop (i + 1)) (y.drop (i + 1)) = d + (a - b + dif (x.drop (i + 1)) (y.drop (i + 1))) by omega, Int.add_assoc]
theorem rsums_ok {x y : List Int} (hx : Wn x) (hy : Wn y) (hl : y.length = x.length) : ref12_sums.F ((x, y, ()), ()) = some ((dif x y, sq x y, ()), ()) := by
  rw [ref12_sums.F_eq, ref12_sums.f, show ref12_sums.L0 ((x, (y, ((0 : Int), ((0 : Int), ((x.length : Int), ((0 : Int), ())))))), ()) = _ from rsums_loop hx hy hl x.length 0 0 0 (by omega) (by omega) (by omega) (by omega) (by omega)]
  simp
theorem reDistance_ok {x y : List Int} (hx : Wn x) (hy : Wn y) (hl : y.length = x.length) : ref12_Distance.F ((x, y, ()), ()) = some ((sq x y, 0, ()), ()) := by
  rw [ref12_Distance.F_eq, ref12_Distance.f, show ref12_Two.F ((x, (y, ((0 : Int), ()))), ()) = _ from rtwo_ok hx hy (by omega)]
  simp only [Option.bind_some]
  rw [nt rfl, rsums_ok hx hy hl]; rfl
theorem rmake_ok {n d : Int} (h : InR n d) : ref01_Make.F ((n, d, ()), ()) = some ((((mkr n d).1, (mkr n d).2, ()), 0, ()), ()) := by
  have hv := (mkr_vr h).1
  obtain ⟨h1, h2, h3, h4⟩ := h
  have hd := common_ok n.toNat d.toNat
  rw [Int.toNat_of_nonneg h1, Int.toNat_of_nonneg (by omega)] at hd
  have hg : 0 < Nat.gcd n.toNat d.toNat := Nat.gcd_pos_of_pos_right _ (by omega)
  rw [ref01_Make.F_eq, ref01_Make.f, ref01_Make.L0_eq, ref01_Make.f0, df (by omega), df (by omega)]
  simp only [cond_false, Option.bind_some, Sum.elim_inl]
  rw [hd]
  simp only [Option.bind_some]
  rw [df (by omega)]
  simp only [Bool.not_false, cond_true]
  have e1 : Int.tdiv n ((Nat.gcd n.toNat d.toNat : Nat) : Int) = (mkr n d).1 := by rw [Int.tdiv_eq_ediv_of_nonneg h1]; rfl
  have e2 : Int.tdiv d ((Nat.gcd n.toNat d.toNat : Nat) : Int) = (mkr n d).2 := by rw [Int.tdiv_eq_ediv_of_nonneg (by omega)]; rfl
  obtain ⟨⟨v1, v2, v3, v4⟩, _⟩ := id hv
  rw [e1, e2, w64 (by omega), w64 (by omega), rvalid_true hv]
  rfl
theorem rShifted_ok {x y : List Int} (hx : Wn x) (hy : Wn y) (hl : y.length = x.length) : ref12_Shifted.F ((x, y, ()), ()) =
    some ((((mkr ((x.length : Int) * sq x y - dif x y * dif x y) x.length).1, (mkr ((x.length : Int) * sq x y - dif x y * dif x y) x.length).2, ()), 0, ()), ()) := by
  have h1 := sq_nonneg' x y
  have h2 := sq_le x y hx.2.2 hy.2.2
  have h3 := hx.2.1
  have h4 := hx.1
  have h5 := sq_dif2 x y hl
  have h6 := sq_nonneg (dif x y)
  have h7 := mul_bd (a := (x.length : Int)) (A := 32) (b := sq x y) (B := 128000000) (by omega) (by omega) h1 (by omega)
  rw [ref12_Shifted.F_eq, ref12_Shifted.f, show ref12_Two.F ((x, (y, ((0 : Int), ()))), ()) = _ from rtwo_ok hx hy (by omega)]
  simp only [Option.bind_some]
  rw [nt rfl, rsums_ok hx hy hl]
  simp only [Option.bind_some, cond_false]
  rw [w64 (n := (x.length : Int) * sq x y) (by omega), w64 (n := dif x y * dif x y) (by omega), w64 (by omega), rmake_ok ⟨by omega, by omega, by omega, by omega⟩]
  rfl
theorem rproduct_loop {x y : List Int} (hx : Wn x) (hy : Wn y) (hl : y.length = x.length) : ∀ (k i : Nat) (p s t : Int), i + k = x.length → -1000000 * (i : Int) ≤ p → p ≤ 1000000 * (i : Int) → -1000 * (i : Int) ≤ s → s ≤ 1000 * (i : Int) → -1000 * (i : Int) ≤ t → t ≤ 1000 * (i : Int) →
    ref13_product.L0 ((x, y, p, s, t, (x.length : Int), (i : Int), ()), ()) = some (Sum.inl ((x, p + pr (x.drop i) (y.drop i), s + sm (x.drop i), t + sm (y.drop i), ()), ())) := by
  have h32 := hx.2.1
  intro k
  induction k with
  | zero => intro i p s t h h0 h1 h2 h3 h4 h5; rw [ref13_product.L0_eq, ref13_product.f0, df (by omega), drop_nil' (by omega), drop_nil' (by omega)]; simp [sm, pr]
  | succ k ih =>
    intro i p s t h h0 h1 h2 h3 h4 h5
    have g1 := hx.get (i := i) (by omega)
    have g2 := hy.get (i := i) (by omega)
    have g3 := mul_abs2 (a := x.getD i 0) (A := 1000) (b := y.getD i 0) (B := 1000) g1.1 g1.2 g2.1 g2.2 (by omega)
    rw [ref13_product.L0_eq, ref13_product.f0, dt (by omega), dt (by omega), dt (by omega : (i : Int) < (y.length : Int)), Int.toNat_natCast, sm_drop (by omega), sm_drop (x := y) (by omega), pr_drop (by omega) (by omega)]
    rw [w64 (n := x.getD i 0 * y.getD i 0) (by omega), w64 (n := s + x.getD i 0) (by omega), w64 (n := t + y.getD i 0) (by omega), w64 (n := p + x.getD i 0 * y.getD i 0) (by omega), w64 (n := (i : Int) + 1) (by omega), show (i : Int) + 1 = ((i + 1 : Nat) : Int) by omega]
    simp only [cond_true]
    rw [show ref13_product.L0 ((x, (y, (p + x.getD i 0 * y.getD i 0, (s + x.getD i 0, (t + y.getD i 0, ((x.length : Int), (((i + 1 : Nat) : Int), ()))))))), ()) = _ from ih (i + 1) _ _ _ (by omega) (by omega) (by omega) (by omega) (by omega) (by omega) (by omega)]
    simp only [Option.bind_some, Int.add_assoc]
theorem rproduct_ok {x y : List Int} (hx : Wn x) (hy : Wn y) (hl : y.length = x.length) : ref13_product.F ((x, y, ()), ()) = some ((cv x y, ()), ()) := by
  have h2 := hx.2.1
  have h3 := sm_bd x hx.2.2
  have h4 := sm_bd y hy.2.2
  have h5 := pr_bd x y hx.2.2 hy.2.2
  have h7 := mul_abs2 (a := sm x) (A := 32000) (b := sm y) (B := 32000) (by omega) (by omega) (by omega) (by omega) (by omega)
  have h8 := mul_abs2 (a := (x.length : Int)) (A := 32) (b := pr x y) (B := 32000000) (by omega) (by omega) (by omega) (by omega) (by omega)
  rw [ref13_product.F_eq, ref13_product.f, show ref13_product.L0 ((x, (y, ((0 : Int), ((0 : Int), ((0 : Int), ((x.length : Int), ((0 : Int), ()))))))), ()) = _ from rproduct_loop hx hy hl x.length 0 0 0 0 (by omega) (by omega) (by omega) (by omega) (by omega) (by omega) (by omega)]
  simp only [Option.bind_some, Sum.elim_inl, List.drop_zero, Int.zero_add]
  rw [w64 (n := (x.length : Int) * pr x y) (by omega), w64 (n := sm x * sm y) (by omega), w64 (by omega)]
  rfl
theorem rbetween_ok {x y : List Int} (hx : Wn x) (hy : Wn y) (hl : y.length = x.length) : ref13_Between.F ((cv x y, vr x, vr y, ()), ()) = some ((((Gp x y).1, (Gp x y).2, ()), ()), ()) := by
  have b1 := vr_bd hx
  have b2 := vr_bd hy
  have b3 := mul_bd (a := vr x) (A := 1024000000) (b := vr y) (B := 1024000000) b1.1 b1.2 b2.1 b2.2
  rw [ref13_Between.F_eq, ref13_Between.f, ref13_Between.L0_eq, ref13_Between.f0]
  by_cases c1 : vr x = 0
  · rw [bt c1]
    simp only [cond_true, Option.bind_some, Sum.elim_inl]
    by_cases c2 : vr y = 0
    · rw [bt c2]
      unfold Gp; rw [if_pos ⟨c1, c2⟩]; rfl
    · rw [bf c2]
      simp only [cond_false, Option.bind_some, Sum.elim_inl]
      rw [ref13_Between.L1_eq, ref13_Between.f1, nt c1]
      simp only [cond_false, Option.bind_some, Sum.elim_inl]
      rw [ref13_Between.L2_eq, ref13_Between.f2, nt c1]
      unfold Gp; rw [if_neg (fun h => c2 h.2), if_pos (.inl c1)]; rfl
  · rw [bf c1]
    simp only [cond_false, Option.bind_some, Sum.elim_inl]
    rw [ref13_Between.L1_eq, ref13_Between.f1, nf c1]
    simp only [cond_true]
    by_cases c2 : vr y = 0
    · rw [nt c2]
      simp only [cond_false, Option.bind_some, Sum.elim_inl]
      rw [ref13_Between.L2_eq, ref13_Between.f2, nf c1, nt c2]
      unfold Gp; rw [if_neg (fun h => c1 h.1), if_pos (.inr c2)]; rfl
    · have hn : ¬ (vr x = 0 ∨ vr y = 0) := fun h => h.elim c1 c2
      obtain ⟨i1, i2⟩ := Gp_in hx hy hl hn
      have b4 := cv_le hl c2
      have b5 := sq_nonneg (cv x y)
      rw [nf c2]
      simp only [cond_true, Option.bind_some, Sum.elim_inl]
      by_cases c3 : cv x y < 0
      · rw [df (by omega : ¬ cv x y ≥ 0)]
        simp only [cond_false]
        rw [ref13_Between.L2_eq, ref13_Between.f2, nf c1, nf c2]
        simp only [cond_true, Option.bind_some, Sum.elim_inl]
        rw [w64 (n := vr x * vr y) (by omega), w64 (n := cv x y * cv x y) (by omega), w64 (n := vr x * vr y + cv x y * cv x y) (by omega), rmake_ok i1]
        unfold Gp; rw [if_neg (fun h => c1 h.1), if_neg hn, if_pos c3]; rfl
      · rw [dt (by omega : cv x y ≥ 0)]
        simp only [cond_true]
        rw [w64 (n := vr x * vr y) (by omega), w64 (n := cv x y * cv x y) (by omega), w64 (n := vr x * vr y - cv x y * cv x y) (by omega), rmake_ok i2]
        unfold Gp; rw [if_neg (fun h => c1 h.1), if_neg hn, if_neg c3]; rfl
theorem rGap_ok {x y : List Int} (hx : Wn x) (hy : Wn y) (hl : y.length = x.length) : ref13_Gap.F ((x, y, ()), ()) = some ((((Gp x y).1, (Gp x y).2, ()), 0, ()), ()) := by
  have e : ref13_Product.F ((x, y, ()), ()) = some ((cv x y, 0, ()), ()) := by
    rw [ref13_Product.F_eq, ref13_Product.f, show ref12_Two.F ((x, (y, ((0 : Int), ()))), ()) = _ from rtwo_ok hx hy (by omega)]
    simp only [Option.bind_some]
    rw [nt rfl, rproduct_ok hx hy hl]; rfl
  have hv : ∀ z, cv z z = vr z := fun z => rfl
  rw [ref13_Gap.F_eq, ref13_Gap.f, e]
  simp only [Option.bind_some]
  rw [nt rfl, rproduct_ok hx hx rfl, rproduct_ok hy hy rfl, hv, hv]
  simp only [Option.bind_some, cond_false]
  rw [show ref13_Between.F ((cv x y, (vr x, (vr y, ()))), ()) = _ from rbetween_ok hx hy hl]
  rfl
end Go.Proofs.Ytefcciajemkicaa.V
