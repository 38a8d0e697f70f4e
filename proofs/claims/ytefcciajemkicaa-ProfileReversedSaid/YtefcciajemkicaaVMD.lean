/- The distance by any measure, and what the reader of numbers draws for it. -/
import Derived.Test.YtefcciajemkicaaVg2
import Derived.Test.YtefcciajemkicaaVBase
import Derived.Test.YtefcciajemkicaaVEuc
import Derived.Test.YtefcciajemkicaaVWarp
import Derived.Test.YtefcciajemkicaaVGcd
import Derived.Test.YtefcciajemkicaaVWarp2
import Derived.Test.YtefcciajemkicaaVDec
import Derived.Test.YtefcciajemkicaaVText
import Derived.Test.YtefcciajemkicaaVMv
import Derived.Test.YtefcciajemkicaaVDisk
import Derived.Test.YtefcciajemkicaaVEdit
import Derived.Test.YtefcciajemkicaaVGap
set_option linter.unusedVariables false
set_option linter.unusedSimpArgs false
namespace Go.Proofs.Ytefcciajemkicaa.V
open Go.VI
/-- Windows that a measure takes. -/
structure Fit (k b : Int) (x y : List Int) : Prop where
  wx : Wn x
  wy : Wn y
  warp : k = 4 → (x.length : Int) - y.length ≤ b ∧ (y.length : Int) - x.length ≤ b
  len : k ≠ 4 → k ≠ 5 → y.length = x.length
theorem Fit.symm {k b : Int} {x y : List Int} (h : Fit k b x y) : Fit k b y x := ⟨h.wy, h.wx, fun e => ⟨(h.warp e).2, (h.warp e).1⟩, fun e e' => (h.len e e').symm⟩
theorem Fit.same {k b g : Int} {x y : List Int} (hm : Mv k b g) (h : Fit k b x y) : Fit k b x x := ⟨h.wx, h.wx, fun e => by have := hm.2.1; omega, fun _ _ => rfl⟩
noncomputable def MD (k b g : Int) (x y : List Int) : Int × Int :=
  if k = 1 then (sq x y, 1) else if k = 2 then mkr ((x.length : Int) * sq x y - dif x y * dif x y) x.length else if k = 3 then Gp x y
  else if k = 4 then (Wp x y b (x.length - 1) (y.length - 1), 1) else (Ed x y g x.length y.length, 1)
theorem vr_of {n : Int} (h : 0 ≤ n ∧ n ≤ 2305843009213693952) : VR n 1 := ⟨⟨h.1, h.2, by omega, by omega⟩, Nat.gcd_one_right _⟩
theorem mdist_normal {x y : List Int} (hx : Wn x) (hy : Wn y) (hl : y.length = x.length) : measure_Distance.F (((3, 0, 0, ()), x, y, ()), ()) = some ((((Gp x y).1, (Gp x y).2, ()), 0, ()), ()) := by
  rw [measure_Distance.F_eq, measure_Distance.f, check_valid (⟨by omega, by omega, by omega⟩ : Mv 3 0 0)]
  simp only [Option.bind_some]
  rw [nt rfl, measure_distances.F_eq]
  simp only [cond_false, Option.bind_some]
  rw [bf (by omega : (3 : Int) ≠ 1), bf (by omega : (3 : Int) ≠ 2), bt rfl, gap_ok hx hy hl]
  rfl
theorem mdist_edit {x y : List Int} (hx : Wn x) (hy : Wn y) {g : Int} (hg : -1000 ≤ g ∧ g ≤ 1000) :
    measure_Distance.F (((5, 0, g, ()), x, y, ()), ()) = some (((Ed x y g x.length y.length, 1, ()), 0, ()), ()) ∧ 0 ≤ Ed x y g x.length y.length ∧ Ed x y g x.length y.length ≤ 2305843009213693952 := by
  have h3 := hx.2.1
  have h4 := hy.2.1
  have hb := Ed_bd hx hy hg _ x.length y.length (Nat.lt_succ_self _) (Nat.le_refl _) (Nat.le_refl _)
  refine ⟨?_, hb.1, by omega⟩
  rw [measure_Distance.F_eq, measure_Distance.f, check_valid (⟨by omega, by omega, by omega⟩ : Mv 5 0 g)]
  simp only [Option.bind_some]
  rw [nt rfl, measure_distances.F_eq]
  simp only [cond_false, Option.bind_some]
  rw [bf (by omega : (5 : Int) ≠ 1), bf (by omega : (5 : Int) ≠ 2), bf (by omega : (5 : Int) ≠ 3), bf (by omega : (5 : Int) ≠ 4), bt rfl]
  simp only [cond_false, cond_true]
  rw [measure_distances_3.F_eq, measure_distances_3.f, edDistance_ok hx hy hg]
  simp only [Option.bind_some]
  rw [whole_ok (by omega)]; rfl
theorem mdist_ok {k b g : Int} {x y : List Int} (hm : Mv k b g) (h : Fit k b x y) :
    measure_Distance.F (((k, b, g, ()), x, y, ()), ()) = some ((((MD k b g x y).1, (MD k b g x y).2, ()), 0, ()), ()) ∧ VR (MD k b g x y).1 (MD k b g x y).2 := by
  obtain ⟨hx, hy, hw, hl⟩ := h
  obtain ⟨m1, m2, m3⟩ := hm
  have h3 := hx.2.1
  have h4 := hx.1
  unfold MD
  by_cases k1 : k = 1
  · obtain rfl : b = 0 := by omega
    obtain rfl : g = 0 := by omega
    subst k1
    have hl := hl (by omega) (by omega)
    have h1 := sq_nonneg' x y
    have h2 := sq_le x y hx.2.2 hy.2.2
    rw [if_pos rfl]
    exact ⟨mdist_euclid hx hy hl, vr_of (by omega)⟩
  rw [if_neg k1]
  by_cases k2 : k = 2
  · obtain rfl : b = 0 := by omega
    obtain rfl : g = 0 := by omega
    subst k2
    have hl := hl (by omega) (by omega)
    have h1 := sq_nonneg' x y
    have h2 := sq_le x y hx.2.2 hy.2.2
    have h5 := sq_dif2 x y hl
    have h6 := sq_nonneg (dif x y)
    have h7 := mul_bd (a := (x.length : Int)) (A := 32) (b := sq x y) (B := 128000000) (by omega) (by omega) h1 (by omega)
    rw [if_pos rfl]
    exact ⟨mdist_shifted hx hy hl, (mkr_vr ⟨by omega, by omega, by omega, by omega⟩).1⟩
  rw [if_neg k2]
  by_cases k3 : k = 3
  · obtain rfl : b = 0 := by omega
    obtain rfl : g = 0 := by omega
    subst k3
    have hl := hl (by omega) (by omega)
    rw [if_pos rfl]
    exact ⟨mdist_normal hx hy hl, Gp_vr hx hy hl⟩
  rw [if_neg k3]
  by_cases k4 : k = 4
  · obtain rfl : g = 0 := by omega
    subst k4
    rw [if_pos rfl]
    obtain ⟨e, b1, b2⟩ := mdist_warp hx hy (b := b) (by omega) (hw rfl)
    exact ⟨e, vr_of ⟨b1, b2⟩⟩
  rw [if_neg k4]
  obtain rfl : k = 5 := by omega
  obtain rfl : b = 0 := by omega
  obtain ⟨e, b1, b2⟩ := mdist_edit hx hy (g := g) (by omega)
  exact ⟨e, vr_of ⟨b1, b2⟩⟩
theorem Wn_take {y : List Int} (hy : Wn y) {m : Nat} (h2 : 2 ≤ m) (hm : m ≤ y.length) : Wn (y.take m) ∧ (y.take m).length = m := by
  have e : (y.take m).length = m := by rw [List.length_take]; omega
  exact ⟨⟨by omega, by have := hy.2.1; omega, fun v hv => hy.2.2 v (List.mem_of_mem_take hv)⟩, e⟩
end Go.Proofs.Ytefcciajemkicaa.V
