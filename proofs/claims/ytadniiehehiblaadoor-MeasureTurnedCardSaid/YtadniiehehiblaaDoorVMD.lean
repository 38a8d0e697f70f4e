/- The distance by any measure, and what the reader of numbers draws for it. -/
import Derived.Test.YtadniiehehiblaaDoorVg4
import Derived.Test.YtadniiehehiblaaDoorVBase
import Derived.Test.YtadniiehehiblaaDoorVKeep
import Derived.Test.YtadniiehehiblaaDoorVEuc
import Derived.Test.YtadniiehehiblaaDoorVWarp
import Derived.Test.YtadniiehehiblaaDoorVGcd
import Derived.Test.YtadniiehehiblaaDoorVWarp2
import Derived.Test.YtadniiehehiblaaDoorVLoop
import Derived.Test.YtadniiehehiblaaDoorVDist
import Derived.Test.YtadniiehehiblaaDoorVDec
import Derived.Test.YtadniiehehiblaaDoorVText
import Derived.Test.YtadniiehehiblaaDoorVCut32
import Derived.Test.YtadniiehehiblaaDoorVAtoi
import Derived.Test.YtadniiehehiblaaDoorVMeas
import Derived.Test.YtadniiehehiblaaDoorVDisk
import Derived.Test.YtadniiehehiblaaDoorVList
import Derived.Test.YtadniiehehiblaaDoorVEdit
import Derived.Test.YtadniiehehiblaaDoorVGap
set_option linter.unusedVariables false
set_option linter.unusedSimpArgs false
namespace Go.Proofs.YtadniiehehiblaaDoor.V
open Go.VI
/-- Windows that a measure takes. -/
structure Fit (k b : Int) (x y : List Int) : Prop where
  wx : Wn x
  wy : Wn y
  warp : k = 4 → (x.length : Int) - y.length ≤ b ∧ (y.length : Int) - x.length ≤ b
  len : k ≠ 4 → k ≠ 5 → y.length = x.length
theorem Fit.symm {k b : Int} {x y : List Int} (h : Fit k b x y) : Fit k b y x := ⟨h.wy, h.wx, fun e => ⟨(h.warp e).2, (h.warp e).1⟩, fun e e' => (h.len e e').symm⟩
theorem Fit.same {k b g : Int} {x y : List Int} (hm : Mv k b g) (h : Fit k b x y) : Fit k b x x := ⟨h.wx, h.wx, fun e => by have := hm.2.1; omega, fun _ _ => rfl⟩
noncomputable def MD (k b g : Int) (x y : List Int) : Int × Int :=
  if k = 1 then (sq x y, 1) else if k = 2 then mkr ((x.length : Int) * sq x y - dif x y * dif x y) x.length else if k = 3 then Gp x y
  else if k = 4 then (Wp x y b (x.length - 1) (y.length - 1), 1) else (Ed x y g x.length y.length, 1)
theorem vr_of {n : Int} (h : 0 ≤ n ∧ n ≤ 2305843009213693952) : VR n 1 := ⟨⟨h.1, h.2, by omega, by omega⟩, Nat.gcd_one_right _⟩
theorem mdist_normal {x y : List Int} (hx : Wn x) (hy : Wn y) (hl : y.length = x.length) : measure_Distance.F (((3, 0, 0, ()), x, y, ()), ()) = some ((((Gp x y).1, (Gp x y).2, ()), 0, ()), ()) := by
  rw [measure_Distance.F_eq, measure_Distance.f, check_valid (⟨by omega, by omega, by omega⟩ : Mv 3 0 0)]
  simp only [Option.bind_some]
  rw [nt rfl, measure_distances.F_eq]
  simp only [cond_false, Option.bind_some]
  rw [bf (by omega : (3 : Int) ≠ 1), bf (by omega : (3 : Int) ≠ 2), bt rfl, gap_ok hx hy hl]
  rfl
theorem mdist_edit {x y : List Int} (hx : Wn x) (hy : Wn y) {g : Int} (hg : -1000 ≤ g ∧ g ≤ 1000) :
    measure_Distance.F (((5, 0, g, ()), x, y, ()), ()) = some (((Ed x y g x.length y.length, 1, ()), 0, ()), ()) ∧ 0 ≤ Ed x y g x.length y.length ∧ Ed x y g x.length y.length ≤ 2305843009213693952 := by
  have h3 := hx.2.1
  have h4 := hy.2.1
  have hb := Ed_bd hx hy hg _ x.length y.length (Nat.lt_succ_self _) (Nat.le_refl _) (Nat.le_refl _)
  refine ⟨?_, hb.1, by omega⟩
  rw [measure_Distance.F_eq, measure_Distance.f, check_valid (⟨by omega, by omega, by omega⟩ : Mv 5 0 g)]
  simp only [Option.bind_some]
  rw [nt rfl, measure_distances.F_eq]
  simp only [cond_false, Option.bind_some]
  rw [bf (by omega : (5 : Int) ≠ 1), bf (by omega : (5 : Int) ≠ 2), bf (by omega : (5 : Int) ≠ 3), bf (by omega : (5 : Int) ≠ 4), bt rfl]
  simp only [cond_false, cond_true]
  rw [measure_distances_3.F_eq, measure_distances_3.f, edDistance_ok hx hy hg]
  simp only [Option.bind_some]
  rw [whole_ok (by omega)]; rfl
theorem mdist_ok {k b g : Int} {x y : List Int} (hm : Mv k b g) (h : Fit k b x y) :
    measure_Distance.F (((k, b, g, ()), x, y, ()), ()) = some ((((MD k b g x y).1, (MD k b g x y).2, ()), 0, ()), ()) ∧ VR (MD k b g x y).1 (MD k b g x y).2 := by
  obtain ⟨hx, hy, hw, hl⟩ := h
  obtain ⟨m1, m2, m3⟩ := hm
  have h3 := hx.2.1
  have h4 := hx.1
  unfold MD
  by_cases k1 : k = 1
  · obtain rfl : b = 0 := by omega
    obtain rfl : g = 0 := by omega
    subst k1
    have hl := hl (by omega) (by omega)
    have h1 := sq_nonneg' x y
    have h2 := sq_le x y hx.2.2 hy.2.2
    rw [if_pos rfl]
    exact ⟨mdist_euclid hx hy hl, vr_of (by omega)⟩
  rw [if_neg k1]
  by_cases k2 : k = 2
  · obtain rfl : b = 0 := by omega
    obtain rfl : g = 0 := by omega
    subst k2
    have hl := hl (by omega) (by omega)
    have h1 := sq_nonneg' x y
    have h2 := sq_le x y hx.2.2 hy.2.2
    have h5 := sq_dif2 x y hl
    have h6 := sq_nonneg (dif x y)
    have h7 := mul_bd (a := (x.length : Int)) (A := 32) (b := sq x y) (B := 128000000) (by omega) (by omega) h1 (by omega)
    rw [if_pos rfl]
    exact ⟨mdist_shifted hx hy hl, (mkr_vr ⟨by omega, by omega, by omega, by omega⟩).1⟩
  rw [if_neg k2]
  by_cases k3 : k = 3
  · obtain rfl : b = 0 := by omega
    obtain rfl : g = 0 := by omega
    subst k3
    have hl := hl (by omega) (by omega)
    rw [if_pos rfl]
    exact ⟨mdist_normal hx hy hl, Gp_vr hx hy hl⟩
  rw [if_neg k3]
  by_cases k4 : k = 4
  · obtain rfl : g = 0 := by omega
    subst k4
    rw [if_pos rfl]
    obtain ⟨e, b1, b2⟩ := mdist_warp hx hy (b := b) (by omega) (hw rfl)
    exact ⟨e, vr_of ⟨b1, b2⟩⟩
  rw [if_neg k4]
  obtain rfl : k = 5 := by omega
  obtain rfl : b = 0 := by omega
  obtain ⟨e, b1, b2⟩ := mdist_edit hx hy (g := g) (by omega)
  exact ⟨e, vr_of ⟨b1, b2⟩⟩
theorem dmeasure_ok {L : List Int} {i : Int} (h : Src L i) : Ok (keep_Src_Measure.F (((), ()), ((L, i, ()), ()))) (fun r => Src r.2.1.1 r.2.1.2.1 ∧ Mv r.1.1.1 r.1.1.2.1 r.1.1.2.2.1) := by
  rw [keep_Src_Measure.F_eq, keep_Src_Measure.f]
  refine .bind (range_ok h 1 5 (by omega)) fun y0 ⟨s0, a0, b0⟩ => ?_
  by_cases c4 : y0.1.1 = 4
  · rw [bt c4]
    refine .bind (pick_ok s0 _ (by decide)) fun y1 ⟨s1, m1⟩ => ?_
    rw [bf (by omega : y0.1.1 ≠ 5)]
    have i1 : 0 ≤ y1.1.1 ∧ y1.1.1 ≤ 32 := by
      simp only [List.mem_cons, List.not_mem_nil, or_false] at m1; omega
    exact .some ⟨s1, ⟨by dsimp only; omega, by dsimp only; omega, by dsimp only; omega⟩⟩
  · rw [bf c4]
    by_cases c5 : y0.1.1 = 5
    · rw [bt c5]
      refine .bind (pick_ok s0 _ (by decide)) fun y1 ⟨s1, m1⟩ => ?_
      have i1 : -1000 ≤ y1.1.1 ∧ y1.1.1 ≤ 1000 := by
        simp only [List.mem_cons, List.not_mem_nil, or_false] at m1; omega
      exact .some ⟨s1, ⟨by dsimp only; omega, by dsimp only; omega, by dsimp only; omega⟩⟩
    · rw [bf c5]
      exact .some ⟨s0, ⟨by dsimp only; omega, by dsimp only; omega, by dsimp only; omega⟩⟩
theorem Wn_take {y : List Int} (hy : Wn y) {m : Nat} (h2 : 2 ≤ m) (hm : m ≤ y.length) : Wn (y.take m) ∧ (y.take m).length = m := by
  have e : (y.take m).length = m := by rw [List.length_take]; omega
  exact ⟨⟨by omega, by have := hy.2.1; omega, fun v hv => hy.2.2 v (List.mem_of_mem_take hv)⟩, e⟩
theorem suited_ok {L : List Int} {i : Int} (h : Src L i) {k b g : Int} (hm : Mv k b g) : Ok (keep_Src_Suited.F (((), (k, b, g, ()), ()), ((L, i, ()), ()))) (fun r => Src r.2.1.1 r.2.1.2.1 ∧ Fit k b r.1.1 r.1.2.1) := by
  obtain ⟨m1, m2, m3⟩ := hm
  rw [keep_Src_Suited.F_eq, keep_Src_Suited.f]
  refine .bind (pair_ok h) ?_
  rintro ⟨⟨x, _, _⟩, ⟨L1, i1, _⟩, y, _⟩ ⟨s1, hx, hy, hl⟩
  dsimp only at s1 hx hy hl ⊢
  have hx2 := hx.2.1
  have hy1 := hy.1
  rw [show keep_Src_Suited.L0 (((), ((), (x, ((), ())))), ((L1, (i1, ())), ((k, (b, (g, ()))), (y, ())))) = some (Sum.inl (((), (), x, (), (bif k == 5 then true else k == 4), ()), ((L1, i1, ()), (k, b, g, ()), y, ()))) from by
    rw [show keep_Src_Suited.L0 _ = _ from keep_Src_Suited.L0_eq .., keep_Src_Suited.f0]; cases (k == 5) <;> rfl]
  simp only [Option.bind_some, Sum.elim_inl]
  have hb := mn_le b 4
  refine .bool (fun c => ?_) fun c => ?_
  · have hk : k = 5 ∨ k = 4 := by
      cases e : k == 5 with
      | true => exact .inl (beq_iff_eq.1 e)
      | false => rw [e] at c; exact .inr (beq_iff_eq.1 c)
    rw [w64 (n := 1 + mn b 4) (by omega)]
    refine .bind (n_ok s1 _ (by omega)) fun y4 ⟨s4, a4, b4⟩ => ?_
    rw [w64 (n := (y.length : Int) - y4.1.1) (by omega)]
    have hmx := mx_ge 2 ((y.length : Int) - y4.1.1)
    obtain ⟨m, hm⟩ : ∃ m : Nat, mx 2 ((y.length : Int) - y4.1.1) = m := ⟨(mx 2 ((y.length : Int) - y4.1.1)).toNat, by omega⟩
    rw [hm] at hmx ⊢
    rw [dt (by omega), dt (by omega)]
    simp only [cond_true, Int.toNat_natCast]
    obtain ⟨w1, w2⟩ := Wn_take hy (m := m) (by omega) (by omega)
    refine .bool (fun c5 => ?_) fun c5 => ?_
    · have c5 := beq_iff_eq.1 c5
      refine .bind (range_ok s4 _ _ (by simp; omega)) fun y8 ⟨s8, a8, b8⟩ => ?_
      have e0 : ((m - Int.toNat 0 : Nat) : Int) = m := by simp
      rw [e0] at b8
      rw [dt (by omega), dt (by rw [e0]; omega)]
      obtain ⟨v1, v2⟩ := Wn_take hy (m := y8.1.1.toNat) (by omega) (by omega)
      refine .some ⟨s8, ⟨hx, ?_, fun e => by omega, fun _ e => absurd c5 e⟩⟩
      simpa using v1
    · have c5 : k ≠ 5 := fun e => by rw [bt e] at c5; cases c5
      refine .some ⟨s4, ⟨hx, ?_, fun e => ?_, fun e e' => by omega⟩⟩
      · simpa using w1
      · simp only [Int.toNat_zero, List.drop_zero, w2]
        omega
  · have hk : k ≠ 4 ∧ k ≠ 5 := by
      constructor
      · intro e; rw [bt e] at c; revert c; cases (k == 5) <;> simp
      · intro e; rw [bt e] at c; cases c
    exact .some ⟨s1, ⟨hx, hy, fun e => absurd e hk.1, fun _ _ => hl⟩⟩
end Go.Proofs.YtadniiehehiblaaDoor.V
