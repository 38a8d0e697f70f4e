/- The law RatioReads, as plain mathematics. -/
import Derived.Test.YtdfdecpplnjdcaaDoorVg1
import Derived.Test.YtdfdecpplnjdcaaDoorVBase
import Derived.Test.YtdfdecpplnjdcaaDoorVKeep
import Derived.Test.YtdfdecpplnjdcaaDoorVDec
import Derived.Test.YtdfdecpplnjdcaaDoorVText
import Derived.Test.YtdfdecpplnjdcaaDoorVCut47
import Derived.Test.YtdfdecpplnjdcaaDoorVAtoi
import Derived.Test.YtdfdecpplnjdcaaDoorVRatio
set_option linter.unusedVariables false
namespace Go.Proofs.YtdfdecpplnjdcaaDoor.V
open Go.VI Go.Lib
theorem gcd_keep (n d : Int) (o0 : List Int) (o1 : Int) : ∀ (N b a : Nat), b ≤ N → keep_Src_Ratio.L0 (((), n, d, (a : Int), (b : Int), ()), ((o0, o1, ()), (0, 0, ()), ())) = some (Sum.inl (((), n, d, ((Nat.gcd a b : Nat) : Int), ()), ((o0, o1, ()), (0, 0, ()), ()))) := by
  intro N
  induction N with
  | zero =>
    intro b a h
    obtain rfl : b = 0 := by omega
    rw [keep_Src_Ratio.L0_eq, keep_Src_Ratio.f0, df (by omega), Nat.gcd_zero_right]; rfl
  | succ N ih =>
    intro b a h
    by_cases c : b = 0
    · subst c
      rw [keep_Src_Ratio.L0_eq, keep_Src_Ratio.f0, df (by omega), Nat.gcd_zero_right]; rfl
    · have hlt : a % b < b := Nat.mod_lt _ (by omega)
      have ht : Int.tmod (a : Int) (b : Int) = ((a % b : Nat) : Int) := by rw [Int.tmod_eq_emod_of_nonneg (by omega)]; rfl
      rw [keep_Src_Ratio.L0_eq, keep_Src_Ratio.f0, dt (by omega : (b : Int) > 0), df (by omega : ¬ (b : Int) = 0), bind_self, ht]
      simp only [cond_true, Bool.not_false]
      rw [ih (a % b) b (by omega), Nat.gcd_comm a b, Nat.gcd_rec b a, Nat.gcd_comm (a % b) b]
theorem reduced (n d : Nat) (hd : 1 ≤ d) (hn : n ≤ 2305843009213693952) (hd2 : d ≤ 1152921504606846976) : VR ((n / Nat.gcd n d : Nat) : Int) ((d / Nat.gcd n d : Nat) : Int) := by
  have hg : 0 < Nat.gcd n d := Nat.gcd_pos_of_pos_right _ (by omega)
  have h1 : n / Nat.gcd n d ≤ n := Nat.div_le_self _ _
  have h2 : d / Nat.gcd n d ≤ d := Nat.div_le_self _ _
  have h3 : 1 ≤ d / Nat.gcd n d := Nat.div_pos (Nat.le_of_dvd (by omega) (Nat.gcd_dvd_right n d)) hg
  have h4 : Nat.gcd (n / Nat.gcd n d) (d / Nat.gcd n d) = 1 := by rw [Nat.gcd_div (Nat.gcd_dvd_left n d) (Nat.gcd_dvd_right n d), Nat.div_self hg]
  generalize n / Nat.gcd n d = p at h1 h4 ⊢
  generalize d / Nat.gcd n d = q at h2 h3 h4 ⊢
  refine ⟨⟨by omega, by omega, by omega, by omega⟩, ?_⟩
  rw [Int.toNat_natCast, Int.toNat_natCast]
  exact h4
theorem ratio_keep {L : List Int} {i : Int} (h : Src L i) : Ok (keep_Src_Ratio.F (((), ()), ((L, i, ()), ()))) (fun r => VR r.1.1.1 r.1.1.2.1) := by
  rw [keep_Src_Ratio.F_eq, keep_Src_Ratio.f]
  refine .bind (pick_ok h _ (by decide)) fun y0 ⟨s0, m0⟩ => ?_
  refine .bind (n_ok s0 5 (by omega)) fun y1 ⟨s1, a1, b1⟩ => ?_
  refine .bind (pick_ok s1 _ (by decide)) fun y2 ⟨s2, m2⟩ => ?_
  have i0 : 0 ≤ y0.1.1 ∧ y0.1.1 ≤ 2305843009213693952 := by
    simp only [List.mem_cons, List.not_mem_nil, or_false] at m0; omega
  have i2 : 1 ≤ y2.1.1 ∧ y2.1.1 ≤ 1152921504606846976 := by
    simp only [List.mem_cons, List.not_mem_nil, or_false] at m2; omega
  rw [w64 (n := y0.1.1 + y1.1.1) (by omega)]
  have hm := mn_le (y0.1.1 + y1.1.1) 2305843009213693952
  generalize mn (y0.1.1 + y1.1.1) 2305843009213693952 = n at hm
  obtain ⟨a, rfl⟩ := Int.eq_ofNat_of_zero_le (show 0 ≤ n by omega)
  generalize y2.1.1 = d at i2
  obtain ⟨b, rfl⟩ := Int.eq_ofNat_of_zero_le (show 0 ≤ d by omega)
  have hg : 0 < Nat.gcd a b := Nat.gcd_pos_of_pos_right _ (by omega)
  have hr := reduced a b (by omega) (by omega) (by omega)
  have h1 : a / Nat.gcd a b ≤ a := Nat.div_le_self _ _
  have h2 : b / Nat.gcd a b ≤ b := Nat.div_le_self _ _
  rw [show keep_Src_Ratio.L0 (((), ((a : Int), ((b : Int), ((a : Int), ((b : Int), ()))))), ((y2.2.1.1, (y2.2.1.2.1, ())), (((0:Int), ((0:Int), ())), ()))) = _ from gcd_keep (a : Int) (b : Int) _ _ b b a (Nat.le_refl _)]
  simp only [Option.bind_some, Sum.elim_inl]
  rw [df (by omega : ¬ ((Nat.gcd a b : Nat) : Int) = 0)]
  simp only [Bool.not_false, cond_true]
  have t1 : Int.tdiv (a : Int) ((Nat.gcd a b : Nat) : Int) = ((a / Nat.gcd a b : Nat) : Int) := by rw [Int.tdiv_eq_ediv_of_nonneg (by omega)]; rfl
  have t2 : Int.tdiv (b : Int) ((Nat.gcd a b : Nat) : Int) = ((b / Nat.gcd a b : Nat) : Int) := by rw [Int.tdiv_eq_ediv_of_nonneg (by omega)]; rfl
  rw [t1, t2]
  generalize a / Nat.gcd a b = p at h1 hr ⊢
  generalize b / Nat.gcd a b = q at h2 hr ⊢
  rw [w64 (n := (p : Int)) (by omega), w64 (n := (q : Int)) (by omega)]
  exact .some hr
theorem awake_ok : law01_awake.F ((), ()) = some ((true, ()), ()) := by
  have v32 : VR 3 2 := ⟨by unfold InR; omega, by decide⟩
  have v72 : VR 7 2 := ⟨by unfold InR; omega, by decide⟩
  have hmake : ratio_Make.F ((6, 4, ()), ()) = some (((3, 2, ()), 0, ()), ()) := by
    obtain ⟨b, h1, h2⟩ := within_ok 3 2
    rw [h2.2 v32.1] at h1
    rw [ratio_Make.F_eq, ratio_Make.f, ratio_Make.L0_eq, show ratio_Make.f0 6 4 0 0 = some (Sum.inl ((6, (4, ((), (false, ())))), (((0 : Int), ((0 : Int), ())), ()))) from rfl]
    simp only [Option.bind_some, Sum.elim_inl, cond_false]
    rw [show ratio_divisor.F ((6, (4, ())), ()) = some ((((Nat.gcd 6 4 : Nat) : Int), ()), ()) from divisor_ok 6 4, show Nat.gcd 6 4 = 2 from by decide]
    simp only [Option.bind_some]
    rw [show Int.tdiv 6 ((2 : Nat) : Int) = 3 from by decide, show Int.tdiv 4 ((2 : Nat) : Int) = 2 from by decide, w64 (n := 3) (by omega), w64 (n := 2) (by omega), show ratio_within.F (((3, (2, ())), ()), ()) = some ((true, ()), ()) from h1]
    rfl
  have hceil : ratio_Ceil.F (((7, 2, ()), ()), ()) = some ((4, ()), ()) := by
    rw [ratio_Ceil.F_eq, ratio_Ceil.f, valid_true v72]
    show _ = (_ : Option _)
    kernel_rfl
  have ht : txt 3 2 = [51, 47, 50] := by
    unfold txt
    rw [if_neg (by omega), show Int.toNat 3 = 3 from rfl, show Int.toNat 2 = 2 from rfl, decDigits_one (by omega), decDigits_one (by omega)]; rfl
  rw [law01_awake.F_eq, law01_awake.f, show ratio_Make.F ((6, (4, ())), ()) = _ from hmake]
  simp only [Option.bind_some]
  rw [show ratio_Add.F (((1, (2, ())), ((1, (3, ())), ())), ()) = _ from ratio_Add.F_ex]
  simp only [Option.bind_some]
  rw [law01_awake.L0_eq, law01_awake.f0, show ratio_Ceil.F (((7, (2, ())), ()), ()) = _ from hceil, show ratio_Format.F (((3, (2, ())), ()), ()) = _ from format_ok v32, ht]
  simp only [toList_eq]
  rfl
theorem RatioReads_pure (l : List Int) (s : ByteArray) (h : ∀ x ∈ l, I64 x) : law01_RatioReads.F ((l, s, ()), ()) = some ((true, ()), ()) := by
  refine Ok.eq ?_
  rw [law01_RatioReads.F_eq, law01_RatioReads.f]
  by_cases c : (s.size : Int) > 60
  · rw [dt c, awake_ok]
    exact .some rfl
  · rw [df c]
    refine .bind (new_ok l h) fun y0 s0 => ?_
    refine .bind (ratio_keep s0) ?_
    rintro ⟨⟨⟨n, d, _⟩, _⟩, _⟩ hv
    dsimp only at hv ⊢
    obtain ⟨a, b, e, hF, hB⟩ := parse_any s (by omega)
    rw [format_ok hv, Option.bind_some, parse_txt hv, Option.bind_some, hF, Option.bind_some, law01_RatioReads.L0_eq, law01_RatioReads.f0, show ((0 : Int) == 0) = true from rfl, bt rfl, bt rfl]
    simp only [cond_true, Bool.and_self]
    by_cases k : e = 0
    · subst k
      obtain ⟨b1, b2⟩ := hB rfl
      rw [show ((0 : Int) != 0) = false from rfl, valid_true b1, format_ok b1]
      simp only [cond_false, cond_true, Option.bind_some]
      rw [show ((bs (txt a b)).toList == s.toList) = true from beq_iff_eq.2 b2, awake_ok]
      exact .some rfl
    · rw [show (e != 0) = true from by simpa using k, awake_ok]
      exact .some rfl
theorem RatioReads_true (x : law01_RatioReads.sh.X) (h : dsWf law01_RatioReads.sh.ds x.1) : law01_RatioReads.F x = some ((true, ()), ()) := by
  obtain ⟨⟨l, s, _⟩, _⟩ := x
  obtain ⟨h1, _⟩ := h
  exact RatioReads_pure l s (wf_ints h1)
end Go.Proofs.YtdfdecpplnjdcaaDoor.V
