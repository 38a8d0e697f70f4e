/- The law MeasureOrder, as plain mathematics. -/
import Derived.Test.YtadniiehehiblaaDoorVg5
import Derived.Test.YtadniiehehiblaaDoorVBase
import Derived.Test.YtadniiehehiblaaDoorVKeep
import Derived.Test.YtadniiehehiblaaDoorVEuc
import Derived.Test.YtadniiehehiblaaDoorVWarp
import Derived.Test.YtadniiehehiblaaDoorVGcd
import Derived.Test.YtadniiehehiblaaDoorVWarp2
import Derived.Test.YtadniiehehiblaaDoorVLoop
import Derived.Test.YtadniiehehiblaaDoorVDist
import Derived.Test.YtadniiehehiblaaDoorVDec
import Derived.Test.YtadniiehehiblaaDoorVText
import Derived.Test.YtadniiehehiblaaDoorVCut32
import Derived.Test.YtadniiehehiblaaDoorVAtoi
import Derived.Test.YtadniiehehiblaaDoorVMeas
import Derived.Test.YtadniiehehiblaaDoorVDisk
import Derived.Test.YtadniiehehiblaaDoorVList
set_option linter.unusedVariables false
set_option linter.unusedSimpArgs false
namespace Go.Proofs.YtadniiehehiblaaDoor.V
open Go.VI
theorem vr_one {n : Int} (h : 0 ≤ n ∧ n ≤ 2305843009213693952) : VR n 1 := ⟨⟨h.1, h.2, by omega, by omega⟩, Nat.gcd_one_right _⟩
theorem MeasureOrder_pure (l : List Int) (band : Int) (hb : 0 ≤ band ∧ band ≤ 255) (h : ∀ x ∈ l, I64 x) : law17_MeasureOrder.F ((l, band, ()), ()) = some ((true, ()), ()) := by
  refine Ok.eq ?_
  rw [law17_MeasureOrder.F_eq, law17_MeasureOrder.f]
  refine .bind (new_ok l h) fun y0 s0 => .bind (pair_ok s0) ?_
  rintro ⟨⟨x, _, _⟩, ⟨L, i, _⟩, y, _⟩ ⟨_, hx, hy, hl⟩
  dsimp only at hx hy hl ⊢
  have hk := tmod_nonneg' (a := band) (b := 33) (by omega) (by omega)
  have h1 := sq_nonneg' x y
  have h2 := sq_le x y hx.2.2 hy.2.2
  have h3 := hx.2.1
  have h4 := hx.1
  have h5 := sq_dif2 x y hl
  have h6 := sq_nonneg (dif x y)
  have h7 := mul_bd (a := (x.length : Int)) (A := 32) (b := sq x y) (B := 128000000) (by omega) (by omega) h1 (by omega)
  have hE : InR ((x.length : Int) * sq x y - dif x y * dif x y) x.length := ⟨by omega, by omega, by omega, by omega⟩
  obtain ⟨v1, v2⟩ := mkr_vr hE
  obtain ⟨w1, w2, w3⟩ := mdist_warp hx hy (b := Int.tmod band 33) (by omega) (by omega)
  obtain ⟨u1, u2, u3⟩ := mdist_warp hx hy (b := 32) (by omega) (by omega)
  have e1 := Wp_euclid (x := x) (y := y) (by omega) hl (b := Int.tmod band 33) (by omega)
  have e2 := Wp_band x y (b := Int.tmod band 33) (c := 32) (by omega) _ (x.length - 1) (y.length - 1) (Nat.lt_succ_self _)
  rw [w64 (by omega)]
  rw [show measure_Distance.F ((((1:Int), ((0:Int), ((0:Int), ()))), (x, (y, ()))), ()) = _ from mdist_euclid hx hy hl, show measure_Distance.F ((((2:Int), ((0:Int), ((0:Int), ()))), (x, (y, ()))), ()) = _ from mdist_shifted hx hy hl,
    show measure_Distance.F ((((4:Int), ((Int.tmod band 33), ((0:Int), ()))), (x, (y, ()))), ()) = _ from w1, show measure_Distance.F ((((4:Int), ((32:Int), ((0:Int), ()))), (x, (y, ()))), ()) = _ from u1]
  simp only [Option.bind_some]
  generalize hS : mkr ((x.length : Int) * sq x y - dif x y * dif x y) x.length = S at v1 v2 ⊢
  generalize Wp x y (Int.tmod band 33) (x.length - 1) (y.length - 1) = A at *
  generalize Wp x y 32 (x.length - 1) (y.length - 1) = B at *
  have k1 : ref01_Less.F ((((sq x y), (1, ())), ((S.1, (S.2, ())), ())), ()) = some ((false, ()), ()) := by
    rw [show ref01_Less.F ((((sq x y), (1, ())), ((S.1, (S.2, ())), ())), ()) = _ from rless_ok (vr_one ⟨by omega, by omega⟩) v1]
    have : ¬ sq x y * S.2 < S.1 * 1 := by
      intro hlt
      have hm : 0 < (x.length : Int) := by omega
      have := Int.mul_lt_mul_of_pos_right hlt hm
      have e3 : S.1 * 1 * (x.length : Int) = ((x.length : Int) * sq x y - dif x y * dif x y) * S.2 := by rw [Int.mul_one]; exact v2
      have e4 : sq x y * S.2 * (x.length : Int) = (x.length : Int) * sq x y * S.2 := by rw [Int.mul_comm (sq x y * S.2), Int.mul_assoc]
      have e5 : ((x.length : Int) * sq x y - dif x y * dif x y) * S.2 = (x.length : Int) * sq x y * S.2 - dif x y * dif x y * S.2 := Int.sub_mul ..
      have e6 := Int.mul_nonneg h6 (show 0 ≤ S.2 from by have := v1.1.2.2.1; omega)
      omega
    rw [df this]
  have k2 : ref01_Less.F ((((sq x y), (1, ())), ((A, (1, ())), ())), ()) = some ((false, ()), ()) := by
    rw [show ref01_Less.F ((((sq x y), (1, ())), ((A, (1, ())), ())), ()) = _ from rless_ok (vr_one ⟨by omega, by omega⟩) (vr_one ⟨by omega, by omega⟩), df (by omega)]
  have k3 : ref01_Less.F (((A, (1, ())), ((B, (1, ())), ())), ()) = some ((false, ()), ()) := by
    rw [show ref01_Less.F (((A, (1, ())), ((B, (1, ())), ())), ()) = _ from rless_ok (vr_one ⟨by omega, by omega⟩) (vr_one ⟨by omega, by omega⟩), df (by omega)]
  rw [show law17_MeasureOrder.L0 _ = _ from law17_MeasureOrder.L0_eq .., law17_MeasureOrder.f0, k1, k2, k3, show ref01_Valid.F (((B, (1, ())), ()), ()) = _ from rvalid_true (vr_one ⟨by omega, by omega⟩), awake_ok]
  exact .some rfl
theorem MeasureOrder_true (x : law17_MeasureOrder.sh.X) (h : dsWf law17_MeasureOrder.sh.ds x.1) : law17_MeasureOrder.F x = some ((true, ()), ()) := by
  obtain ⟨⟨l, b, _⟩, _⟩ := x
  obtain ⟨h1, h2, _⟩ := h
  exact MeasureOrder_pure l b (wf_u8 h2) (wf_ints h1)
end Go.Proofs.YtadniiehehiblaaDoor.V
