/- Neighbours and profiles of any kind. -/
import Derived.Test.YtefcciajemkicaaVg5
import Derived.Test.YtefcciajemkicaaVBase
import Derived.Test.YtefcciajemkicaaVEuc
import Derived.Test.YtefcciajemkicaaVGcd
import Derived.Test.YtefcciajemkicaaVMv
import Derived.Test.YtefcciajemkicaaVMD
import Derived.Test.YtefcciajemkicaaVSym
import Derived.Test.YtefcciajemkicaaVCmp
import Derived.Test.YtefcciajemkicaaVBst
import Derived.Test.YtefcciajemkicaaVDeck
import Derived.Test.YtefcciajemkicaaVWins
import Derived.Test.YtefcciajemkicaaVProf
import Derived.Test.YtefcciajemkicaaVProf2
import Derived.Test.YtefcciajemkicaaVRe
set_option linter.unusedVariables false
set_option linter.unusedSimpArgs false
namespace Go.Proofs.Ytefcciajemkicaa.V
open Go.VI
instance (n d : Int) : Decidable (VR n d) := by unfold VR; infer_instance
instance (k b g : Int) : Decidable (Mv k b g) := by unfold Mv; infer_instance
def LS (a b : Int × Int) : Bool := decide (VR a.1 a.2 ∧ VR b.1 b.2 ∧ a.1 * b.2 < b.1 * a.2)
theorem LS_eq {a b : Int × Int} (ha : VR a.1 a.2) (hb : VR b.1 b.2) : LS a b = decide (a.1 * b.2 < b.1 * a.2) := decide_eq_decide.2 ⟨fun k => k.2.2, fun k => ⟨ha, hb, k⟩⟩
theorem cmp_no {a b c d : Int} (h : ¬ (VR a b ∧ VR c d)) : ratio_Cmp.F (((a, b, ()), (c, d, ()), ()), ()) = some ((0, ()), ()) := by
  obtain ⟨v, e, hv⟩ := valid_ok a b
  obtain ⟨w, e', hw⟩ := valid_ok c d
  rw [ratio_Cmp.F_eq, ratio_Cmp.f, ratio_Cmp.L0_eq, ratio_Cmp.f0, e]
  simp only [Option.bind_some]
  cases v with
  | false => rfl
  | true =>
    rw [e']
    cases w with
    | false => rfl
    | true => exact absurd ⟨hv.1 rfl, hw.1 rfl⟩ h
theorem rcmp_no {a b c d : Int} (h : ¬ (VR a b ∧ VR c d)) : ref01_Cmp.F (((a, b, ()), (c, d, ()), ()), ()) = some ((0, ()), ()) := by
  obtain ⟨v, e, hv⟩ := rvalid_ok a b
  obtain ⟨w, e', hw⟩ := rvalid_ok c d
  rw [ref01_Cmp.F_eq, ref01_Cmp.f, ref01_Cmp.L0_eq, ref01_Cmp.f0, e]
  simp only [Option.bind_some]
  cases v with
  | false => rfl
  | true =>
    rw [e']
    cases w with
    | false => rfl
    | true => exact absurd ⟨hv.1 rfl, hw.1 rfl⟩ h
theorem less_all (a b c d : Int) : ratio_Less.F (((a, b, ()), (c, d, ()), ()), ()) = some ((LS (a, b) (c, d), ()), ()) := by
  by_cases h : VR a b ∧ VR c d
  · rw [less_ok h.1 h.2, LS_eq h.1 h.2]
  · rw [ratio_Less.F_eq, ratio_Less.f, cmp_no h, LS, df (fun k => h ⟨k.1, k.2.1⟩)]; rfl
theorem rless_all (a b c d : Int) : ref01_Less.F (((a, b, ()), (c, d, ()), ()), ()) = some ((LS (a, b) (c, d), ()), ()) := by
  by_cases h : VR a b ∧ VR c d
  · rw [rless_ok h.1 h.2, LS_eq h.1 h.2]
  · rw [ref01_Less.F_eq, ref01_Less.f, rcmp_no h, LS, df (fun k => h ⟨k.1, k.2.1⟩)]; rfl
theorem LS_irr (a : Int × Int) : LS a a = false := df fun h => by have := h.2.2; omega
def nr (a b : Nb) : Bool := if a.1 < 0 ∨ b.1 < 0 then decide (a.1 ≥ 0) && decide (b.1 < 0) else LS a.2 b.2 || (!LS b.2 a.2 && decide (a.1 < b.1))
theorem nr_eq {a b : Nb} (ha : 0 ≤ a.1 → VR a.2.1 a.2.2) (hb : 0 ≤ b.1 → VR b.2.1 b.2.2) : nr a b = nearer a b := by
  unfold nr nearer
  by_cases c : a.1 < 0
  · rw [if_pos (.inl c), df (by omega : ¬ a.1 ≥ 0)]; rfl
  · by_cases c2 : b.1 < 0
    · rw [if_pos (.inr c2), dt c2]; simp
    · have va := ha (by omega)
      have vb := hb (by omega)
      rw [if_neg (by omega), dt (by omega : a.1 ≥ 0), df c2, LS_eq va vb, LS_eq vb va]
      rfl
theorem eq3 (a b : Nb) : (a.1 == b.1 && ((a.2.1 == b.2.1 && (a.2.2 == b.2.2 && true)) && true)) = decide (a = b) := by
  obtain ⟨a1, a2, a3⟩ := a
  obtain ⟨b1, b2, b3⟩ := b
  rw [Bool.eq_iff_iff]
  simp
theorem pnear (a b : Nb) : profile_Nearer.F (((a.1, a.2.1, a.2.2, ()), (b.1, b.2.1, b.2.2, ()), ()), ()) = some ((nr a b, ()), ()) := by
  rw [profile_Nearer.F_eq, profile_Nearer.f, profile_Nearer.L0_eq, profile_Nearer.f0, eq3]
  by_cases e : a = b
  · subst e
    rw [dt rfl]
    have : nr a a = false := by
      unfold nr
      split
      · rename_i h
        rw [df (by omega : ¬ a.1 ≥ 0)]; rfl
      · rw [LS_irr, df (by omega)]; rfl
    rw [this]; rfl
  · rw [df e]
    simp only [cond_false, Option.bind_some, Sum.elim_inl]
    unfold nr
    by_cases c : a.1 < 0
    · rw [dt c, if_pos (.inl c), df (by omega : ¬ a.1 ≥ 0)]; rfl
    · rw [df c]
      simp only [cond_false]
      by_cases c2 : b.1 < 0
      · rw [dt c2, if_pos (.inr c2), dt (by omega : a.1 ≥ 0)]; rfl
      · rw [df c2, if_neg (by omega), less_all, less_all]
        simp only [cond_false, Option.bind_some]
        cases LS a.2 b.2 <;> cases LS b.2 a.2 <;> rfl
theorem rnear (a b : Nb) : ref37_Nearer.F (((a.1, a.2.1, a.2.2, ()), (b.1, b.2.1, b.2.2, ()), ()), ()) = some ((nr a b, ()), ()) := by
  rw [ref37_Nearer.F_eq, ref37_Nearer.f, ref37_Nearer.L0_eq, ref37_Nearer.f0]
  unfold nr
  by_cases c : a.1 < 0
  · rw [dt c, if_pos (.inl c)]
    simp only [cond_true, Option.bind_some, Sum.elim_inl]
    rw [show ref37_Nearer.L1 _ = _ from ref37_Nearer.L1_eq .., ref37_Nearer.f1, df (by omega : ¬ a.1 ≥ 0)]; rfl
  · rw [df c]
    simp only [cond_false, Option.bind_some, Sum.elim_inl]
    by_cases c2 : b.1 < 0
    · rw [dt c2, if_pos (.inr c2)]
      simp only [cond_true]
      rw [show ref37_Nearer.L1 _ = _ from ref37_Nearer.L1_eq .., ref37_Nearer.f1, dt (by omega : a.1 ≥ 0), dt c2]; rfl
    · rw [df c2, if_neg (by omega)]
      simp only [cond_false]
      rw [rless_all, rless_all]
      simp only [Option.bind_some]
      cases LS a.2 b.2 <;> cases LS b.2 a.2 <;> rfl
def in2 (a r : Nb) : Nb := if nr a r then a else r
theorem best_all (a r : Nb) : profile_Best.F (((), (a.1, a.2.1, a.2.2, ()), ()), ((r.1, r.2.1, r.2.2, ()), ())) = some ((), (((in2 a r).1, (in2 a r).2.1, (in2 a r).2.2, ()), ())) := by
  rw [profile_Best.F_eq, profile_Best.f, pnear]
  simp only [Option.bind_some]
  unfold in2
  cases nr a r <;> rfl
/-! ### neighbours of a place -/
def NB (x : Nb) (i n z : Int) (h : Bool) : Bool := if x.1 = -1 then decide (x.2 = (0, 1)) else decide (0 ≤ x.1 ∧ x.1 < n ∧ VR x.2.1 x.2.2) && (bif h then decide (x.1 ≥ Go.IntKind.wrap .i64 (i + z)) else decide (x.1 ≤ Go.IntKind.wrap .i64 (i - z)))
theorem eq2 (a : Int × Int) : (a.1 == 0 && (a.2 == 1 && true)) = decide (a = (0, 1)) := by
  obtain ⟨a1, a2⟩ := a
  rw [Bool.eq_iff_iff]
  simp
theorem pnb (x : Nb) (i n z : Int) (h : Bool) : profile_neighbour.F (((x.1, x.2.1, x.2.2, ()), i, n, z, h, ()), ()) = some ((NB x i n z h, ()), ()) := by
  rw [profile_neighbour.F_eq, profile_neighbour.f]
  unfold NB
  by_cases c : x.1 = -1
  · rw [bt c, if_pos c, none_ok]
    simp only [cond_true, Option.bind_some]
    rw [bt c, ← eq2]; simp
  · obtain ⟨v, e, hv⟩ := valid_ok x.2.1 x.2.2
    rw [bf c, if_neg c]
    simp only [cond_false]
    rw [show profile_neighbour.L0 _ = _ from profile_neighbour.L0_eq .., profile_neighbour.f0]
    by_cases c1 : x.1 < 0
    · rw [dt c1, df (by omega : ¬ (0 ≤ x.1 ∧ x.1 < n ∧ VR x.2.1 x.2.2))]; rfl
    · rw [df c1]
      by_cases c2 : x.1 ≥ n
      · rw [dt c2, df (by omega : ¬ (0 ≤ x.1 ∧ x.1 < n ∧ VR x.2.1 x.2.2))]; rfl
      · rw [df c2, e]
        cases v with
        | false => rw [df (fun h' : 0 ≤ x.1 ∧ x.1 < n ∧ VR x.2.1 x.2.2 => by have := hv.2 h'.2.2; cases this)]; rfl
        | true =>
          rw [dt (show 0 ≤ x.1 ∧ x.1 < n ∧ VR x.2.1 x.2.2 from ⟨by omega, by omega, hv.1 rfl⟩)]
          cases h <;> rfl
theorem rnb (x : Nb) (i n z : Int) (h : Bool) : ref37_right.F (((x.1, x.2.1, x.2.2, ()), i, n, z, !h, h, ()), ()) = some ((NB x i n z h, ()), ()) := by
  rw [ref37_right.F_eq, ref37_right.f]
  unfold NB
  by_cases c : x.1 = -1
  · rw [bt c, if_pos c, eq2]; rfl
  · obtain ⟨v, e, hv⟩ := rvalid_ok x.2.1 x.2.2
    rw [bf c, if_neg c]
    simp only [cond_false]
    rw [show ref37_right.L0 _ = _ from ref37_right.L0_eq .., ref37_right.f0]
    by_cases c1 : x.1 < 0
    · rw [dt c1, df (by omega : ¬ (0 ≤ x.1 ∧ x.1 < n ∧ VR x.2.1 x.2.2))]; rfl
    · rw [df c1]
      by_cases c2 : x.1 ≥ n
      · rw [dt c2, df (by omega : ¬ (0 ≤ x.1 ∧ x.1 < n ∧ VR x.2.1 x.2.2))]; rfl
      · rw [df c2, e]
        cases v with
        | false => rw [df (fun h' : 0 ≤ x.1 ∧ x.1 < n ∧ VR x.2.1 x.2.2 => by have := hv.2 h'.2.2; cases this)]; rfl
        | true =>
          rw [dt (show 0 ≤ x.1 ∧ x.1 < n ∧ VR x.2.1 x.2.2 from ⟨by omega, by omega, hv.1 rfl⟩)]
          simp only [cond_false, Option.bind_some, Sum.elim_inl, Bool.not_true]
          cases h
          · simp only [Bool.not_false, cond_true, cond_false, Bool.true_and]
            by_cases c3 : x.1 ≤ Go.IntKind.wrap .i64 (i - z)
            · rw [dt c3]; rfl
            · rw [df c3]; rfl
          · rfl
/-! ### which profiles are valid -/
def VL (z n : Int) (A L R : List Nb) (i : Nat) : Bool := NB (L.getD i (0, 0, 0)) i n z false && (NB (R.getD i (0, 0, 0)) i n z true && decide (A.getD i (0, 0, 0) = in2 (R.getD i (0, 0, 0)) (L.getD i (0, 0, 0))))
def allF (P : Nat → Bool) : Nat → Nat → Bool
  | 0, _ => true
  | k + 1, i => P i && allF P k (i + 1)
def HV (k b g m z : Int) (A L R : List Nb) : Bool := decide (Mv k b g ∧ 2 ≤ m ∧ m ≤ 32 ∧ 1 ≤ z ∧ z ≤ 64 ∧ L.length = A.length ∧ R.length = A.length ∧ A.length ≤ 2000)
section
variable (k b g m z : Int) (A L R : List Nb)
theorem pv_loop (hn : A.length ≤ 2000) (hL : L.length = A.length) (hR : R.length = A.length) : ∀ q i : Nat, i + q = A.length →
    profile_Valid.L1 (((), (A.length : Int), (A.length : Int), (i : Int), ()), ((k, b, g, m, z, A, L, R, ()), ())) = some (if allF (VL z A.length A L R) q i then Sum.inl ((), ()) else Sum.inr (Sum.inl ((false, ()), ()))) := by
  intro q
  induction q with
  | zero =>
    intro i hi
    rw [show profile_Valid.L1 _ = _ from profile_Valid.L1_eq .., profile_Valid.f1, df (by omega)]; rfl
  | succ q ih =>
    intro i hi
    have step : profile_Valid.L2 (((), (A.length : Int), (i : Int), (), (A.length : Int), (i : Int), ()), ((k, b, g, m, z, A, L, R, ()), ((in2 (R.getD i (0, 0, 0)) (L.getD i (0, 0, 0))).1, (in2 (R.getD i (0, 0, 0)) (L.getD i (0, 0, 0))).2.1, (in2 (R.getD i (0, 0, 0)) (L.getD i (0, 0, 0))).2.2, ()), ())) =
        some (Sum.inl (((), (A.length : Int), (A.length : Int), (i : Int), !VL z A.length A L R i, ()), ((k, b, g, m, z, A, L, R, ()), ()))) := by
      rw [show profile_Valid.L2 _ = _ from profile_Valid.L2_eq .., profile_Valid.f2, dt (by omega : (0 : Int) ≤ (i : Int)), dt (by omega : (i : Int) < (L.length : Int)), dt (by omega : (i : Int) < (R.length : Int)), dt (by omega : (i : Int) < (A.length : Int)), Int.toNat_natCast]
      simp only [cond_true]
      rw [pnb, pnb]
      unfold VL
      cases NB (L.getD i (0, 0, 0)) i A.length z false with
      | false => rfl
      | true =>
        cases NB (R.getD i (0, 0, 0)) i A.length z true with
        | false => rfl
        | true =>
          simp only [Option.bind_some, Bool.not_true, cond_false, Bool.true_and]
          rw [eq3]
    rw [show profile_Valid.L1 _ = _ from profile_Valid.L1_eq .., profile_Valid.f1, dt (by omega : (i : Int) < (A.length : Int)), dt (by omega : (0 : Int) ≤ (i : Int)), dt (by omega : (i : Int) < (L.length : Int)), dt (by omega : (i : Int) < (R.length : Int)), Int.toNat_natCast]
    simp only [cond_true]
    rw [best_all]
    simp only [Option.bind_some]
    rw [show profile_Valid.L2 _ = _ from step]
    simp only [Option.bind_some, Sum.elim_inl]
    unfold allF
    cases VL z A.length A L R i with
    | false => rfl
    | true =>
      simp only [Bool.not_true, cond_false, Bool.true_and]
      rw [w64 (n := (i : Int) + 1) (by omega), show (i : Int) + 1 = ((i + 1 : Nat) : Int) by omega, ih (i + 1) (by omega)]
      rfl
theorem rv_loop (hn : A.length ≤ 2000) (hL : L.length = A.length) (hR : R.length = A.length) : ∀ q i : Nat, i + q = A.length →
    ref37_Valid.L1 (((), (A.length : Int), (i : Int), ()), ((k, b, g, m, z, A, L, R, ()), ())) = some (if allF (VL z A.length A L R) q i then Sum.inl ((), ()) else Sum.inr (Sum.inl ((false, ()), ()))) := by
  intro q
  induction q with
  | zero =>
    intro i hi
    rw [show ref37_Valid.L1 _ = _ from ref37_Valid.L1_eq .., ref37_Valid.f1, df (by omega)]; rfl
  | succ q ih =>
    intro i hi
    have step : ref37_Valid.L2 (((), (A.length : Int), (i : Int), ()), ((k, b, g, m, z, A, L, R, ()), ())) =
        some (Sum.inl (((), (A.length : Int), (i : Int), !(NB (L.getD i (0, 0, 0)) i A.length z false && NB (R.getD i (0, 0, 0)) i A.length z true), ()), ((k, b, g, m, z, A, L, R, ()), ()))) := by
      rw [show ref37_Valid.L2 _ = _ from ref37_Valid.L2_eq .., ref37_Valid.f2, dt (by omega : (0 : Int) ≤ (i : Int)), dt (by omega : (i : Int) < (L.length : Int)), dt (by omega : (i : Int) < (R.length : Int)), Int.toNat_natCast]
      simp only [cond_true]
      rw [show ref37_right.F ((((L.getD i (0, 0, 0)).1, (L.getD i (0, 0, 0)).2.1, (L.getD i (0, 0, 0)).2.2, ()), (i : Int), (A.length : Int), z, true, false, ()), ()) = _ from rnb (L.getD i (0, 0, 0)) i A.length z false,
        show ref37_right.F ((((R.getD i (0, 0, 0)).1, (R.getD i (0, 0, 0)).2.1, (R.getD i (0, 0, 0)).2.2, ()), (i : Int), (A.length : Int), z, false, true, ()), ()) = _ from rnb (R.getD i (0, 0, 0)) i A.length z true]
      cases NB (L.getD i (0, 0, 0)) i A.length z false with
      | false => rfl
      | true => rfl
    rw [show ref37_Valid.L1 _ = _ from ref37_Valid.L1_eq .., ref37_Valid.f1, dt (by omega : (i : Int) < (A.length : Int))]
    simp only [cond_true]
    rw [step]
    simp only [Option.bind_some, Sum.elim_inl]
    unfold allF VL in2
    cases NB (L.getD i (0, 0, 0)) i A.length z false with
    | false => rfl
    | true =>
      cases NB (R.getD i (0, 0, 0)) i A.length z true with
      | false => rfl
      | true =>
        simp only [Bool.not_true, cond_false, Bool.true_and]
        rw [dt (by omega : (0 : Int) ≤ (i : Int)), dt (by omega : (i : Int) < (L.length : Int)), dt (by omega : (i : Int) < (R.length : Int)), dt (by omega : (i : Int) < (A.length : Int)), Int.toNat_natCast]
        simp only [cond_true]
        rw [rnear]
        simp only [Option.bind_some]
        rw [w64 (n := (i : Int) + 1) (by omega), show (i : Int) + 1 = ((i + 1 : Nat) : Int) by omega]
        cases nr (R.getD i (0, 0, 0)) (L.getD i (0, 0, 0)) with
        | true =>
          simp only [cond_true, if_true]
          rw [eq3]
          cases decide (A.getD i (0, 0, 0) = R.getD i (0, 0, 0)) with
          | false => rfl
          | true =>
            simp only [Bool.not_true, cond_false, Bool.true_and]
            rw [ih (i + 1) (by omega)]; rfl
        | false =>
          simp only [cond_false, Bool.false_eq_true, if_false]
          rw [eq3]
          cases decide (A.getD i (0, 0, 0) = L.getD i (0, 0, 0)) with
          | false => rfl
          | true =>
            simp only [Bool.not_true, cond_false, Bool.true_and]
            rw [ih (i + 1) (by omega)]; rfl
theorem rcheck_all : ∃ e, ref17_Check.F (((k, b, g, ()), ()), ()) = some ((e, ()), ()) ∧ (e = 0 ∨ e = 9) ∧ (e = 0 ↔ Mv k b g) := by
  have hs : ref04_Sample.F ((g, ()), ()) = some ((decide (-1000 ≤ g ∧ g ≤ 1000), ()), ()) := by
    rw [ref04_Sample.F_eq, ref04_Sample.f]
    by_cases c : g ≥ -1000
    · rw [dt c, decide_eq_decide.2 (show g ≤ 1000 ↔ (-1000 ≤ g ∧ g ≤ 1000) by omega)]; rfl
    · rw [df c, df (by omega : ¬ (-1000 ≤ g ∧ g ≤ 1000))]; rfl
  by_cases h : Mv k b g
  · exact ⟨0, rcheck_ok h, .inl rfl, by simp [h]⟩
  · refine ⟨9, ?_, .inr rfl, by simp [h]⟩
    rw [ref17_Check.F_eq, ref17_Check.f, ref17_Check.L0_eq, ref17_Check.f0, hs]
    by_cases c1 : k < 1
    · rw [dt c1]; rfl
    rw [df c1]
    by_cases c2 : k > 5
    · rw [dt c2]; rfl
    rw [df c2]
    by_cases c3 : b < 0
    · rw [dt c3]; rfl
    rw [df c3]
    by_cases c4 : b > 32
    · rw [dt c4]; rfl
    rw [df c4]
    by_cases c7 : -1000 ≤ g ∧ g ≤ 1000
    · rw [dt c7]
      by_cases c5 : k = 4
      · rw [nt c5]
        by_cases c8 : k = 5
        · omega
        · rw [nf c8]
          by_cases c9 : g = 0
          · exact absurd (show Mv k b g from ⟨by omega, by omega, by omega⟩) h
          · rw [nf c9]; rfl
      · rw [nf c5]
        by_cases c6 : b = 0
        · rw [nt c6]
          by_cases c8 : k = 5
          · exact absurd (show Mv k b g from ⟨by omega, by omega, by omega⟩) h
          · rw [nf c8]
            by_cases c9 : g = 0
            · exact absurd (show Mv k b g from ⟨by omega, by omega, by omega⟩) h
            · rw [nf c9]; rfl
        · rw [nf c6]; rfl
    · rw [df c7]
      by_cases c5 : k = 4
      · rw [nt c5]; rfl
      · rw [nf c5]
        by_cases c6 : b = 0
        · rw [nt c6]; rfl
        · rw [nf c6]; rfl
theorem plen (a : Int) : profile_Length.F ((a, ()), ()) = some ((decide (2 ≤ a ∧ a ≤ 32), ()), ()) := by
  rw [profile_Length.F_eq, profile_Length.f]
  by_cases c : a ≥ 2
  · rw [dt c, decide_eq_decide.2 (show a ≤ 32 ↔ (2 ≤ a ∧ a ≤ 32) by omega)]; rfl
  · rw [df c, df (by omega : ¬ (2 ≤ a ∧ a ≤ 32))]; rfl
theorem pzone (a : Int) : profile_Zone.F ((a, ()), ()) = some ((decide (1 ≤ a ∧ a ≤ 64), ()), ()) := by
  rw [profile_Zone.F_eq, profile_Zone.f]
  by_cases c : a ≥ 1
  · rw [dt c, decide_eq_decide.2 (show a ≤ 64 ↔ (1 ≤ a ∧ a ≤ 64) by omega)]; rfl
  · rw [df c, df (by omega : ¬ (1 ≤ a ∧ a ≤ 64))]; rfl
theorem HV_no (h : ¬ (Mv k b g ∧ 2 ≤ m ∧ m ≤ 32 ∧ 1 ≤ z ∧ z ≤ 64 ∧ L.length = A.length ∧ R.length = A.length ∧ A.length ≤ 2000)) : HV k b g m z A L R = false := df h
theorem HV_yes (h : Mv k b g ∧ 2 ≤ m ∧ m ≤ 32 ∧ 1 ≤ z ∧ z ≤ 64 ∧ L.length = A.length ∧ R.length = A.length ∧ A.length ≤ 2000) : HV k b g m z A L R = true := dt h
theorem phead : profile_Valid.L0 (((), (A.length : Int), ()), ((k, b, g, m, z, A, L, R, ()), ())) = some (Sum.inl (((), (A.length : Int), !HV k b g m z A L R, ()), ((k, b, g, m, z, A, L, R, ()), ()))) := by
  obtain ⟨e, he, _, hi⟩ := check_ok k b g
  rw [profile_Valid.L0_eq, profile_Valid.f0, he, plen, pzone]
  simp only [Option.bind_some]
  by_cases c1 : Mv k b g
  · rw [nt (hi.2 c1)]
    by_cases c2 : 2 ≤ m ∧ m ≤ 32
    · rw [dt c2]
      by_cases c3 : 1 ≤ z ∧ z ≤ 64
      · rw [dt c3]
        by_cases c4 : (L.length : Int) = A.length
        · rw [nt c4]
          by_cases c5 : (R.length : Int) = A.length
          · rw [nt c5]
            by_cases c6 : (A.length : Int) > 2000
            · rw [dt c6, HV_no k b g m z A L R (fun h => by have := h.2; omega)]; rfl
            · rw [df c6, HV_yes k b g m z A L R ⟨c1, by omega⟩]; rfl
          · rw [nf c5, HV_no k b g m z A L R (fun h => by have := h.2; omega)]; rfl
        · rw [nf c4, HV_no k b g m z A L R (fun h => by have := h.2; omega)]; rfl
      · rw [df c3, HV_no k b g m z A L R (fun h => by have := h.2; omega)]; rfl
    · rw [df c2, HV_no k b g m z A L R (fun h => by have := h.2; omega)]; rfl
  · rw [nf (fun h => c1 (hi.1 h)), HV_no k b g m z A L R (fun h => c1 h.1)]; rfl
theorem rhead : ref37_Valid.L0 (((), (A.length : Int), ()), ((k, b, g, m, z, A, L, R, ()), ())) = some (Sum.inl (((), (A.length : Int), !HV k b g m z A L R, ()), ((k, b, g, m, z, A, L, R, ()), ()))) := by
  obtain ⟨e, he, _, hi⟩ := rcheck_all k b g
  rw [ref37_Valid.L0_eq, ref37_Valid.f0, he]
  simp only [Option.bind_some]
  by_cases c1 : Mv k b g
  · rw [nt (hi.2 c1)]
    by_cases c2 : m < 2
    · rw [dt c2, HV_no k b g m z A L R (fun h => by have := h.2; omega)]; rfl
    rw [df c2]
    by_cases c2 : m > 32
    · rw [dt c2, HV_no k b g m z A L R (fun h => by have := h.2; omega)]; rfl
    rw [df c2]
    by_cases c2 : z < 1
    · rw [dt c2, HV_no k b g m z A L R (fun h => by have := h.2; omega)]; rfl
    rw [df c2]
    by_cases c2 : z > 64
    · rw [dt c2, HV_no k b g m z A L R (fun h => by have := h.2; omega)]; rfl
    rw [df c2]
    by_cases c2 : (A.length : Int) > 2000
    · rw [dt c2, HV_no k b g m z A L R (fun h => by have := h.2; omega)]; rfl
    rw [df c2]
    by_cases c4 : (L.length : Int) = A.length
    · rw [nt c4]
      by_cases c5 : (R.length : Int) = A.length
      · rw [nt c5, HV_yes k b g m z A L R ⟨c1, by omega⟩]; rfl
      · rw [nf c5, HV_no k b g m z A L R (fun h => by have := h.2; omega)]; rfl
    · rw [nf c4, HV_no k b g m z A L R (fun h => by have := h.2; omega)]; rfl
  · rw [nf (fun h => c1 (hi.1 h)), HV_no k b g m z A L R (fun h => c1 h.1)]; rfl
def pvd : Bool := HV k b g m z A L R && allF (VL z A.length A L R) A.length 0
theorem pvalid_all : profile_Valid.F (((k, b, g, m, z, A, L, R, ()), ()), ()) = some ((pvd k b g m z A L R, ()), ()) := by
  rw [profile_Valid.F_eq, profile_Valid.f, phead]
  unfold pvd
  simp only [Option.bind_some, Sum.elim_inl]
  cases h : HV k b g m z A L R with
  | false => rfl
  | true =>
    obtain ⟨_, _, _, _, _, h1, h2, h3⟩ := of_decide_eq_true h
    rw [show profile_Valid.L1 (((), (A.length : Int), (A.length : Int), (0 : Int), ()), ((k, b, g, m, z, A, L, R, ()), ())) = _ from pv_loop k b g m z A L R h3 h1 h2 A.length 0 (by omega)]
    cases allF (VL z A.length A L R) A.length 0 <;> rfl
theorem rpvalid_all : ref37_Valid.F (((k, b, g, m, z, A, L, R, ()), ()), ()) = some ((pvd k b g m z A L R, ()), ()) := by
  rw [ref37_Valid.F_eq, ref37_Valid.f, rhead]
  unfold pvd
  simp only [Option.bind_some, Sum.elim_inl]
  cases h : HV k b g m z A L R with
  | false => rfl
  | true =>
    obtain ⟨_, _, _, _, _, h1, h2, h3⟩ := of_decide_eq_true h
    rw [show ref37_Valid.L1 (((), (A.length : Int), (0 : Int), ()), ((k, b, g, m, z, A, L, R, ()), ())) = _ from rv_loop k b g m z A L R h3 h1 h2 A.length 0 (by omega)]
    cases allF (VL z A.length A L R) A.length 0 <;> rfl
end
end Go.Proofs.Ytefcciajemkicaa.V
