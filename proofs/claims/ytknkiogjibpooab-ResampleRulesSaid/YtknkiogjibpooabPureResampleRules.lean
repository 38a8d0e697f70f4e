/- At the time of a reading all rules give its value; Hold has a value exactly if a reading is at most so far back; and Nearest has one exactly if some reading is so near: for every list and every two bytes. -/
import Derived.Test.YtknkiogjibpooabHx17
import Derived.Test.YtknkiogjibpooabHx18
import Derived.Test.YtknkiogjibpooabBase
import Derived.Test.YtknkiogjibpooabKeep
import Derived.Test.YtknkiogjibpooabRes
import Derived.Test.YtknkiogjibpooabAsc
namespace Go.Proofs.Ytknkiogjibpooab.Pure
open Go.RowKit Go.Proofs.Ytknkiogjibpooab.Hp Go.Proofs.YtknkiogjibpooabW.PrintWords Go.Proofs.YtknkiogjibpooabW.PrintLast Go.Proofs.YtknkiogjibpooabW.PrintMore
open Go.Proofs.Ytknkiogjibpooab.Base Go.Proofs.Ytknkiogjibpooab.Keep Go.Proofs.Ytknkiogjibpooab.Res

theorem grid_f (r s : Int) : shapesearchlaw08_grid.f r s = some (0, 1, 0, r, s) := rfl

theorem s1 : wrap64 (1 + 1) = 2 := by rw [w64 (by omega) (by omega)]; rfl
theorem s2 : wrap64 (2 + 1) = 3 := by rw [w64 (by omega) (by omega)]; rfl
theorem s3 : wrap64 (3 + 1) = 4 := by rw [w64 (by omega) (by omega)]; rfl
theorem rules_inner {x : List S29} (hx : Reg x) (reach t : Int) (hold near : Bool) (i : Int) (h0 : 0 ≤ i) (h1 : i < (x.length : Int)) (hn : ∃ K, ∀ k, K ≤ k → shapesearchlaw08_ResampleRules.l0 k reach x t hold near (x.length : Int) (i + 1) = some true) :
    ∃ K, ∀ k, K ≤ k → shapesearchlaw08_ResampleRules.l1 k reach x t hold near i 1 (x.length : Int) i = some true := by
  have hl := hx.len
  obtain ⟨K0, hK0⟩ := hn
  obtain ⟨p, pi⟩ := hx.self h0 h1
  have rg := hx.rng i h0 h1
  have one : ∀ r, 1 ≤ r → r ≤ 3 → ∃ K, ∀ k, K ≤ k → resample_At.f k x 0 1 0 r 0 (T x i) = some (V x i, true) := by
    intro r r0 r1
    obtain ⟨K, hK⟩ := at_ok hx p rg.1 rg.2.1 (grid_ok (rule := r) (reach := 0) r0 r1 (by omega) (by omega))
    refine ⟨K, fun k hk => ?_⟩
    rw [hK k hk, pi]
    have e1 : b1 x 0 (T x i) i = true := by unfold b1; rw [decide_eq_true h0, decide_eq_true (by omega)]; rfl
    have e2 : b2 x 0 (T x i) i = true := by unfold b2; rw [decide_eq_true h1, decide_eq_true (by omega)]; rfl
    rw [e1, e2]
    unfold val
    by_cases c1 : r = 1
    · rw [if_pos c1]; rfl
    · rw [if_neg c1]
      by_cases c2 : r = 2
      · rw [if_pos c2]; simp
      · rw [if_neg c2]; simp
  obtain ⟨K1, hK1⟩ := one 1 (by omega) (by omega)
  obtain ⟨K2, hK2⟩ := one 2 (by omega) (by omega)
  obtain ⟨K3, hK3⟩ := one 3 (by omega) (by omega)
  refine ⟨K0 + K1 + K2 + K3 + 4, fun k hk => ?_⟩
  obtain ⟨k, rfl⟩ : ∃ m, k = m + 4 := ⟨k - 4, by omega⟩
  simp only [shapesearchlaw08_ResampleRules.l1, grid_f, Option.bind_some]
  rw [if_pos (by omega), if_pos h0, if_pos h1, T_def, hK1 _ (by omega)]; simp only [Option.bind_some]
  rw [if_pos (by trivial), if_pos (by rfl), s1]
  rw [if_pos (by omega), if_pos h0, if_pos h1, hK2 _ (by omega)]; simp only [Option.bind_some]
  rw [if_pos (by trivial), if_pos (by rfl), s2]
  rw [if_pos (by omega), if_pos h0, if_pos h1, hK3 _ (by omega)]; simp only [Option.bind_some]
  rw [if_pos (by trivial), if_pos (by rfl), s3, if_neg (by omega), w64 (n := i + 1) (by omega) (by omega)]
  exact hK0 _ (by omega)

theorem rules_loop {x : List S29} (hx : Reg x) (reach t : Int) (hr0 : 0 ≤ reach) (hr1 : reach ≤ 255) (t0 : 0 ≤ t) (t1 : t ≤ 1099511627776) : ∀ (d : Nat) (i : Int) (hold near : Bool), (x.length : Int) - i = d → 0 ≤ i →
    (hold = true ↔ ∃ a, 0 ≤ a ∧ a < i ∧ 0 ≤ t - T x a ∧ t - T x a ≤ reach) → (near = true ↔ ∃ a, 0 ≤ a ∧ a < i ∧ -reach ≤ t - T x a ∧ t - T x a ≤ reach) →
    ∃ K, ∀ k, K ≤ k → shapesearchlaw08_ResampleRules.l0 k reach x t hold near (x.length : Int) i = some true := by
  have hl := hx.len
  intro d
  induction d with
  | zero =>
    intro i hold near hd h0 hh hn
    obtain rfl : i = (x.length : Int) := by omega
    obtain ⟨c, hc⟩ := pos_ex hx t
    obtain ⟨i0, i1, i2, i3, i4, i5, i6⟩ := ix_ok hx hc
    obtain ⟨K1, hK1⟩ := at_ok hx hc t0 t1 (grid_ok (rule := 1) (reach := reach) (by omega) (by omega) hr0 (by omega))
    obtain ⟨K2, hK2⟩ := at_ok hx hc t0 t1 (grid_ok (rule := 2) (reach := reach) (by omega) (by omega) hr0 (by omega))
    obtain ⟨K3, hK3⟩ := at_ok hx hc t0 t1 (grid_ok (rule := 3) (reach := reach) (by omega) (by omega) hr0 (by omega))
    obtain ⟨K4, hK4⟩ := awake_ok
    have hp : b1 x reach t (ix x t c) = true ↔ 0 ≤ ix x t c ∧ t - T x (ix x t c) ≤ reach := by unfold b1; simp
    have hq : b2 x reach t c = true ↔ c < (x.length : Int) ∧ T x c - t ≤ reach := by unfold b2; simp
    have e1 : b1 x reach t (ix x t c) = hold := by
      rw [Bool.eq_iff_iff, hp, hh]
      constructor
      · intro ⟨z1, z2⟩; exact ⟨_, z1, i1, by have := i4 z1; omega, z2⟩
      · intro ⟨a, a0, a1, a2, a3⟩
        rcases Int.lt_or_le (ix x t c) a with z | z
        · have := i6 a z a1; omega
        · refine ⟨by omega, ?_⟩
          rcases Int.lt_or_eq_of_le z with y | y
          · have := hx.lt' a0 y i1; omega
          · rw [← y]; exact a3
    have e2 : (b1 x reach t (ix x t c) || b2 x reach t c) = near := by
      rw [Bool.eq_iff_iff, Bool.or_eq_true, hp, hq, hn]
      constructor
      · rintro (⟨z1, z2⟩ | ⟨z1, z2⟩)
        · exact ⟨_, z1, i1, by have := i4 z1; omega, z2⟩
        · exact ⟨_, hc.1, z1, by omega, by have := hc.2.2.2 c (Int.le_refl _) z1; omega⟩
      · intro ⟨a, a0, a1, a2, a3⟩
        rcases Int.lt_or_le (ix x t c) a with z | z
        · right
          refine ⟨by omega, ?_⟩
          rcases Int.lt_or_eq_of_le (show c ≤ a by omega) with y | y
          · have := hx.lt' hc.1 y a1; omega
          · rw [y]; omega
        · left
          refine ⟨by omega, ?_⟩
          rcases Int.lt_or_eq_of_le z with y | y
          · have := hx.lt' a0 y i1; omega
          · rw [← y]; exact a3
    generalize b1 x reach t (ix x t c) = p at *
    generalize b2 x reach t c = q at *
    have v1 : (val x 1 t (ix x t c) c p q).2 = p := by unfold val; cases p <;> rfl
    have v2 : (val x 2 t (ix x t c) c p q).2 = (p || q) := by
      unfold val; rw [if_neg (by omega), if_pos rfl]; cases p <;> cases q <;> simp <;> split <;> rfl
    have v3 : (val x 3 t (ix x t c) c p q).2 = (p && q) := by
      unfold val; rw [if_neg (by omega), if_neg (by omega)]; cases p <;> cases q <;> simp <;> split <;> rfl
    refine ⟨K1 + K2 + K3 + K4 + 1, fun k hk => ?_⟩
    obtain ⟨k, rfl, hk'⟩ := succ_of hk
    simp only [shapesearchlaw08_ResampleRules.l0]
    rw [if_neg (by omega), w64 (n := reach) (by omega) (by omega)]
    simp only [grid_f, Option.bind_some]
    rw [hK1 _ (by omega)]; simp only [Option.bind_some]
    rw [hK2 _ (by omega)]; simp only [Option.bind_some]
    rw [hK3 _ (by omega)]; simp only [Option.bind_some]
    rw [v1, v2, v3, e1, ← e2, e1, if_pos (by simp), if_pos (by simp), hK4 _ (by omega)]
    cases hold <;> cases q <;> simp
  | succ d ih =>
    intro i hold near hd h0 hh hn
    have h1 : i < (x.length : Int) := by omega
    have rg := hx.rng i h0 h1
    obtain ⟨u, hu⟩ : ∃ u, u = t - T x i := ⟨_, rfl⟩
    have step : ∀ (a b : Bool), (a = (hold || (decide (0 ≤ u) && decide (u ≤ reach)))) → (b = (near || decide (mx u (-u) ≤ reach))) → ∃ K, ∀ k, K ≤ k → shapesearchlaw08_ResampleRules.l1 k reach x t a b i 1 (x.length : Int) i = some true := by
      intro a b ea eb
      refine rules_inner hx reach t a b i h0 h1 (ih (i + 1) a b (by omega) (by omega) ?_ ?_)
      · rw [ea, Bool.or_eq_true, Bool.and_eq_true, decide_eq_true_eq, decide_eq_true_eq, hh]
        constructor
        · rintro (⟨z, z0, z1, z2⟩ | z)
          · exact ⟨z, z0, by omega, z2⟩
          · exact ⟨i, h0, by omega, by omega, by omega⟩
        · intro ⟨z, z0, z1, z2⟩
          rcases Int.lt_or_le z i with y | y
          · exact .inl ⟨z, z0, y, z2⟩
          · obtain rfl : z = i := (by omega)
            exact .inr (by omega)
      · rw [eb, Bool.or_eq_true, decide_eq_true_eq, hn]
        have em : mx u (-u) ≤ reach ↔ -reach ≤ u ∧ u ≤ reach := by unfold mx; split <;> omega
        rw [em]
        constructor
        · rintro (⟨z, z0, z1, z2⟩ | z)
          · exact ⟨z, z0, by omega, z2⟩
          · exact ⟨i, h0, by omega, by omega, by omega⟩
        · intro ⟨z, z0, z1, z2⟩
          rcases Int.lt_or_le z i with y | y
          · exact .inl ⟨z, z0, y, z2⟩
          · obtain rfl : z = i := (by omega)
            exact .inr (by omega)
    obtain ⟨K, hK⟩ := step _ _ rfl rfl
    have j1 : ∀ (a : Bool) k, a = (hold || (decide (0 ≤ u) && decide (u ≤ reach))) → K ≤ k → shapesearchlaw08_ResampleRules.j1 (k + 2) reach x t a near i u (x.length : Int) i = some true := by
      intro a k ea hk
      simp only [shapesearchlaw08_ResampleRules.j1]
      cases hne : near with
      | true =>
        rw [if_pos (by trivial)]; simp only [shapesearchlaw08_ResampleRules.j2]
        have := hK k hk
        rw [← ea, hne, Bool.true_or] at this
        exact this
      | false =>
        rw [if_neg (by simp)]; simp only [shapesearchlaw08_ResampleRules.j2]
        have := hK k hk
        rw [← ea, hne, Bool.false_or] at this
        rw [w64 (n := -u) (by omega) (by omega), w64 (n := reach) (by omega) (by omega)]
        exact this
    refine ⟨K + 3, fun k hk => ?_⟩
    obtain ⟨k, rfl⟩ : ∃ m, k = m + 3 := ⟨k - 3, by omega⟩
    simp only [shapesearchlaw08_ResampleRules.l0]
    rw [if_pos h1, if_pos h0, if_pos h1, T_def, w64 (n := t - T x i) (by omega) (by omega), ← hu]
    cases hho : hold with
    | true => rw [if_pos (by trivial)]; exact j1 true k (by rw [hho]; rfl) (by omega)
    | false =>
      rw [if_neg (by simp)]
      by_cases c : u ≥ 0
      · rw [if_pos c, w64 (n := reach) (by omega) (by omega)]; exact j1 _ k (by rw [hho, decide_eq_true (show 0 ≤ u from c)]; rfl) (by omega)
      · rw [if_neg c]; exact j1 false k (by rw [hho, decide_eq_false (show ¬ 0 ≤ u from c)]; rfl) (by omega)

theorem ResampleRules : shapesearchlaw08_ResampleRules.Pure := by
  intro l a1 a2 _ _ hl h1 h2
  have w1 := wf_u8 h1
  have w2 := wf_u8 h2
  obtain ⟨L, e0, hL⟩ := new_ok l hl
  obtain ⟨x, j, ⟨K1, hK1⟩, hj, hx, hxl, hx0⟩ := asc_ok hL 10 (by omega)
  by_cases c : (x.length : Int) = 0
  · have hp : Pos x 3 0 := ⟨by omega, by omega, fun a _ _ => by omega, fun a _ _ => by omega⟩
    obtain ⟨K2, hK2⟩ := at_ok hx hp (by omega) (by omega) (grid_ok (rule := 1) (reach := 5) (by omega) (by omega) (by omega) (by omega))
    obtain ⟨K3, hK3⟩ := awake_ok
    have ei : ix x 3 0 = -1 := by unfold ix; rw [if_neg (by omega)]; rfl
    have ev : (val x 1 3 (ix x 3 0) 0 (b1 x 5 3 (ix x 3 0)) (b2 x 5 3 0)).2 = false := by
      rw [ei]; unfold val b1; rw [if_pos rfl, decide_eq_false (by omega)]; rfl
    refine ⟨K1 + K2 + K3, ?_⟩
    unfold shapesearchlaw08_ResampleRules.f
    rw [e0]; simp only [Option.bind_some]
    have := hK1 (K1 + K2 + K3) (by omega)
    rw [show ((10 : Nat) : Int) = 10 from rfl] at this
    rw [this]; simp only [Option.bind_some]
    rw [if_pos c]; simp only [grid_f, Option.bind_some]
    rw [hK2 _ (by omega)]; simp only [Option.bind_some]
    rw [ev, if_neg (by simp), hK3 _ (by omega)]; rfl
  · have hx0 := hx0 (by omega)
    have r0 := hx.rng 0 (by omega) (by omega)
    obtain ⟨K2, hK2⟩ := rules_loop hx a2 (T x 0 + a1) w2.1 w2.2 (by omega) (by omega) x.length 0 false false (by omega) (by omega)
      ⟨fun z => (by cases z), fun ⟨a, _, _, _⟩ => (by omega)⟩ ⟨fun z => (by cases z), fun ⟨a, _, _, _⟩ => (by omega)⟩
    refine ⟨K1 + K2, ?_⟩
    unfold shapesearchlaw08_ResampleRules.f
    rw [e0]; simp only [Option.bind_some]
    have := hK1 (K1 + K2) (by omega)
    rw [show ((10 : Nat) : Int) = 10 from rfl] at this
    rw [this]; simp only [Option.bind_some]
    rw [if_neg c, if_pos (by omega), T_def, w64 (n := a1) (by omega) (by omega), w64 (n := T x 0 + a1) (by omega) (by omega)]
    exact hK2 _ (by omega)

end Go.Proofs.Ytknkiogjibpooab.Pure
