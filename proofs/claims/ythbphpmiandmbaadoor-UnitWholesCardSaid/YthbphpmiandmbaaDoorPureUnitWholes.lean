/- The law UnitWholes, as plain mathematics. -/
import Derived.Test.YthbphpmiandmbaaDoorVg2
import Derived.Test.YthbphpmiandmbaaDoorVBase
import Derived.Test.YthbphpmiandmbaaDoorVUnit
set_option linter.unusedVariables false
namespace Go.Proofs.YthbphpmiandmbaaDoor.V
open Go.VI
theorem UnitWholes_pure (n by_ : Int) (h1 : -32768 ≤ n ∧ n ≤ 32767) (h2 : -32768 ≤ by_ ∧ by_ ≤ 32767) :
    law04_UnitWholes.F ((n, by_, ()), ()) = some ((true, ()), ()) := by
  have hn := tmod_pos (a := n) (b := 1001) (by omega)
  have hb := tmod_pos (a := by_) (b := 500) (by omega)
  rw [law04_UnitWholes.F_eq, law04_UnitWholes.f, w64 (n := n) (by omega), w64 (n := by_) (by omega)]
  generalize Int.tmod n 1001 = k at hn
  generalize Int.tmod by_ 500 = m at hb
  have e1 := conv_ok (nm := NmRaw) (by simp [Names]) (d := k) (p := 0) (T := 1) (m := 1) (a := 0) (v := 1) (by omega) (by omega) rfl (by omega) (by omega) (by omega)
  have e2 := conv_ok (nm := NmRaw) (by simp [Names]) (d := 10 * k + 5) (p := 1) (T := 10) (m := 1) (a := 0) (v := 1) (by omega) (by omega) rfl (by omega) (by omega) (by omega)
  have e3 := conv_ok (nm := NmA) (by simp [Names]) (d := k) (p := 0) (T := 1) (m := 1) (a := m) (v := 1) (by omega) (by omega) rfl (by omega) (by omega) (by omega)
  rw [(sample_iff (by omega)).2 (⟨by omega, by omega⟩ : 2 * (1 * 1) * k ≤ 2 * (k * 1 + 0 * 1) + 1 * 1 ∧ 2 * (k * 1 + 0 * 1) + 1 * 1 < 2 * (1 * 1) * k + 2 * (1 * 1)), if_pos (by omega)] at e1
  rw [(sample_iff (by omega)).2 (⟨by omega, by omega⟩ : 2 * (1 * 10) * (k + 1) ≤ 2 * ((10 * k + 5) * 1 + 0 * 10) + 1 * 10 ∧ 2 * ((10 * k + 5) * 1 + 0 * 10) + 1 * 10 < 2 * (1 * 10) * (k + 1) + 2 * (1 * 10))] at e2
  rw [(sample_iff (by omega)).2 (⟨by omega, by omega⟩ : 2 * (1 * 1) * (k + m) ≤ 2 * (k * 1 + m * 1) + 1 * 1 ∧ 2 * (k * 1 + m * 1) + 1 * 1 < 2 * (1 * 1) * (k + m) + 2 * (1 * 1))] at e3
  rw [w64 (n := 10 * k) (by omega), w64 (n := 10 * k + 5) (by omega), law04_raw.F_eq, law04_raw.f]
  simp only [Option.bind_some]
  rw [show unit_Convert.F (((k, ((0:Int), ())), ((ByteArray.mk #[(114:UInt8), (97:UInt8), (119:UInt8)], ((1:Int), ((0:Int), ((1:Int), ())))), ())), ()) = _ from e1]
  simp only [Option.bind_some]
  rw [show unit_Convert.F (((10 * k + 5, ((1:Int), ())), ((ByteArray.mk #[(114:UInt8), (97:UInt8), (119:UInt8)], ((1:Int), ((0:Int), ((1:Int), ())))), ())), ()) = _ from e2]
  simp only [Option.bind_some]
  rw [show unit_Convert.F (((k, ((0:Int), ())), ((ByteArray.mk #[(97:UInt8)], ((1:Int), (m, ((1:Int), ())))), ())), ()) = _ from e3]
  simp only [Option.bind_some]
  have key : ∀ (hf fe w g : Int), (k < 1000 → fe = 0 ∧ hf = k + 1) → law04_UnitWholes.L0 ((k, (m, (k, (0, (hf, (fe, (w, (g, ())))))))), ()) = some (Sum.inl ((k, (m, (w, (g, (false, ()))))), ())) := by
    intro hf fe w g hk
    rw [law04_UnitWholes.L0_eq, law04_UnitWholes.f0, show ((0 : Int) != 0) = false from rfl, nt rfl, w64 (n := k + 1) (by omega)]
    by_cases c : k < 1000
    · obtain ⟨rfl, rfl⟩ := hk c
      rw [dt c, show ((0 : Int) != 0) = false from rfl, nt rfl]; rfl
    · rw [df c]; rfl
  have half : ∀ r : Int × Int × Unit, r = (if -1000 ≤ k + 1 ∧ k + 1 ≤ 1000 then (k + 1, 0, ()) else (0, 12, ())) → (k < 1000 → r.2.1 = 0 ∧ r.1 = k + 1) := by
    rintro r rfl c
    rw [if_pos (by omega)]; exact ⟨rfl, rfl⟩
  generalize hr : (if -1000 ≤ k + 1 ∧ k + 1 ≤ 1000 then ((k + 1, 0, ()) : Int × Int × Unit) else (0, 12, ())) = r
  have hh := half r hr.symm
  rw [key _ _ _ _ hh]
  simp only [Option.bind_some, Sum.elim_inl, cond_false]
  rw [law04_UnitWholes.L1_eq, law04_UnitWholes.f1, w64 (n := k + m) (by omega)]
  by_cases c : -1000 ≤ k + m ∧ k + m ≤ 1000
  · rw [if_pos c, df (by omega : ¬ (k + m > 1000)), df (by omega : ¬ (k + m < -1000))]
    simp only [Option.bind_some, Sum.elim_inl, cond_false]
    rw [show ((0 : Int) == 0) = true from rfl, w64 (n := k + m) (by omega), bt rfl, awake_ok]; rfl
  · rw [if_neg c]
    have c2 : (decide (k + m > 1000)) = true ∨ (decide (k + m > 1000)) = false ∧ decide (k + m < -1000) = true := by
      by_cases c1 : k + m > 1000
      · exact .inl (dt c1)
      · exact .inr ⟨df c1, dt (by omega)⟩
    have aw : law04_UnitWholes.L2 ((12, ()), ()) = some (Sum.inl ((true, ()), ())) := by
      rw [law04_UnitWholes.L2_eq, law04_UnitWholes.f2, show ((12 : Int) == 12) = true from rfl, awake_ok]; rfl
    rcases c2 with c2 | ⟨c2, c3⟩
    · rw [c2]
      simp only [Option.bind_some, Sum.elim_inl, cond_true]
      rw [aw]; rfl
    · rw [c2, c3]
      simp only [Option.bind_some, Sum.elim_inl, cond_true, cond_false]
      rw [aw]; rfl
theorem UnitWholes_true (x : law04_UnitWholes.sh.X) (h : dsWf law04_UnitWholes.sh.ds x.1) : law04_UnitWholes.F x = some ((true, ()), ()) := by
  obtain ⟨⟨a, b, _⟩, _⟩ := x
  obtain ⟨h1, h2, _⟩ := h
  exact UnitWholes_pure a b (wf_i16 h1) (wf_i16 h2)
end Go.Proofs.YthbphpmiandmbaaDoor.V
