/- The distance by a measure, kind by kind. -/
import Derived.Test.YtefcciajemkicaaVg2
import Derived.Test.YtefcciajemkicaaVBase
import Derived.Test.YtefcciajemkicaaVEuc
import Derived.Test.YtefcciajemkicaaVWarp
import Derived.Test.YtefcciajemkicaaVGcd
import Derived.Test.YtefcciajemkicaaVWarp2
import Derived.Test.YtefcciajemkicaaVDec
import Derived.Test.YtefcciajemkicaaVText
import Derived.Test.YtefcciajemkicaaVMv
set_option linter.unusedVariables false
set_option linter.unusedSimpArgs false
namespace Go.Proofs.Ytefcciajemkicaa.V
open Go.VI
theorem mdist_euclid {x y : List Int} (hx : Wn x) (hy : Wn y) (hl : y.length = x.length) : measure_Distance.F (((1, 0, 0, ()), x, y, ()), ()) = some (((sq x y, 1, ()), 0, ()), ()) := by
  have h1 := sq_nonneg' x y
  have h2 := sq_le x y hx.2.2 hy.2.2
  have h3 := hx.2.1
  rw [measure_Distance.F_eq, measure_Distance.f, check_valid (⟨by omega, by omega, by omega⟩ : Mv 1 0 0)]
  simp only [Option.bind_some]
  rw [nt rfl, measure_distances.F_eq]
  simp only [cond_false, Option.bind_some]
  rw [bt rfl, measure_distances_1.F_eq, measure_distances_1.f, eDistance_ok hx hy hl]
  simp only [cond_true, Option.bind_some]
  rw [whole_ok (by omega)]; rfl
theorem mdist_shifted {x y : List Int} (hx : Wn x) (hy : Wn y) (hl : y.length = x.length) : measure_Distance.F (((2, 0, 0, ()), x, y, ()), ()) =
    some ((((mkr ((x.length : Int) * sq x y - dif x y * dif x y) x.length).1, (mkr ((x.length : Int) * sq x y - dif x y * dif x y) x.length).2, ()), 0, ()), ()) := by
  have h1 := sq_nonneg' x y
  have h2 := sq_le x y hx.2.2 hy.2.2
  have h3 := hx.2.1
  have h4 := hx.1
  have h5 := sq_dif2 x y hl
  have h6 := sq_nonneg (dif x y)
  have h7 := mul_bd (a := (x.length : Int)) (A := 32) (b := sq x y) (B := 128000000) (by omega) (by omega) h1 (by omega)
  rw [measure_Distance.F_eq, measure_Distance.f, check_valid (⟨by omega, by omega, by omega⟩ : Mv 2 0 0)]
  simp only [Option.bind_some]
  rw [nt rfl, measure_distances.F_eq]
  simp only [cond_false, Option.bind_some]
  rw [bf (by omega : (2 : Int) ≠ 1), bt rfl, shifted_made hx hy hl, make_ok ⟨by omega, by omega, by omega, by omega⟩]
  rfl
theorem mdist_warp {x y : List Int} (hx : Wn x) (hy : Wn y) {b : Int} (hb : 0 ≤ b ∧ b ≤ 32) (hn : (x.length : Int) - y.length ≤ b ∧ (y.length : Int) - x.length ≤ b) :
    measure_Distance.F (((4, b, 0, ()), x, y, ()), ()) = some (((Wp x y b (x.length - 1) (y.length - 1), 1, ()), 0, ()), ()) ∧ 0 ≤ Wp x y b (x.length - 1) (y.length - 1) ∧ Wp x y b (x.length - 1) (y.length - 1) ≤ 2305843009213693952 := by
  have h1 := hx.1
  have h2 := hy.1
  have h3 := hx.2.1
  have h4 := hy.2.1
  have hw := Wp_way hx hy hb.1 _ (x.length - 1) (y.length - 1) (Nat.lt_succ_self _) (by omega) (by omega) ⟨by omega, by omega⟩
  have h0 := (Wp_bound x y b _ (x.length - 1) (y.length - 1) (Nat.lt_succ_self _)).1
  refine ⟨?_, h0, by omega⟩
  rw [measure_Distance.F_eq, measure_Distance.f, check_valid (⟨by omega, by omega, by omega⟩ : Mv 4 b 0)]
  simp only [Option.bind_some]
  rw [nt rfl, measure_distances.F_eq]
  simp only [cond_false, Option.bind_some]
  rw [bf (by omega : (4 : Int) ≠ 1), bf (by omega : (4 : Int) ≠ 2), bf (by omega : (4 : Int) ≠ 3), bt rfl]
  simp only [cond_false, cond_true]
  rw [measure_distances_2.F_eq, measure_distances_2.f, wDistance_ok hx hy hb hn]
  simp only [Option.bind_some]
  rw [whole_ok (by omega)]; rfl
end Go.Proofs.Ytefcciajemkicaa.V
