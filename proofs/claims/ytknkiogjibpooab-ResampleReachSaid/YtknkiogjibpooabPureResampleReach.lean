/- A greater reach changes no value that is there, for any rule: for every list and every four bytes. -/
import Derived.Test.YtknkiogjibpooabHx2
import Derived.Test.YtknkiogjibpooabHx17
import Derived.Test.YtknkiogjibpooabHx19
import Derived.Test.YtknkiogjibpooabBase
import Derived.Test.YtknkiogjibpooabKeep
import Derived.Test.YtknkiogjibpooabRes
import Derived.Test.YtknkiogjibpooabAsc
namespace Go.Proofs.Ytknkiogjibpooab.Pure
open Go.RowKit Go.Proofs.Ytknkiogjibpooab.Hp Go.Proofs.YtknkiogjibpooabW.PrintWords Go.Proofs.YtknkiogjibpooabW.PrintLast Go.Proofs.YtknkiogjibpooabW.PrintMore
open Go.Proofs.Ytknkiogjibpooab.Base Go.Proofs.Ytknkiogjibpooab.Keep Go.Proofs.Ytknkiogjibpooab.Res

theorem reach_law {x : List S29} {t c r s rule : Int} (hs : r ≤ s) (h : (val x rule t (ix x t c) c (b1 x r t (ix x t c)) (b2 x r t c)).2 = true) :
    val x rule t (ix x t c) c (b1 x s t (ix x t c)) (b2 x s t c) = val x rule t (ix x t c) c (b1 x r t (ix x t c)) (b2 x r t c) := by
  generalize ix x t c = i at *
  have p1 : b1 x r t i = true → b1 x s t i = true := by unfold b1; simp; omega
  have q1 : b2 x r t c = true → b2 x s t c = true := by unfold b2; simp; omega
  unfold val at h ⊢
  by_cases c1 : rule = 1
  · rw [if_pos c1] at h ⊢
    rw [if_pos c1]
    cases hp : b1 x r t i with
    | false => rw [hp] at h; cases h
    | true => rw [p1 hp]
  · rw [if_neg c1] at h ⊢
    rw [if_neg c1]
    by_cases c2 : rule = 2
    · rw [if_pos c2] at h ⊢
      rw [if_pos c2]
      cases hp : b1 x r t i with
      | true =>
        rw [p1 hp]
        cases hq : b2 x r t c with
        | true => rw [q1 hq]
        | false =>
          cases hq' : b2 x s t c with
          | false => rfl
          | true =>
            have e : decide (t - T x i ≤ T x c - t) = true := by
              unfold b1 at hp; unfold b2 at hq hq'; simp at hp hq hq' ⊢
              have := hq hq'.1; omega
            rw [e]; rfl
      | false =>
        cases hq : b2 x r t c with
        | true =>
          rw [q1 hq]
          cases hp' : b1 x s t i with
          | false => rfl
          | true =>
            have e : decide (t - T x i ≤ T x c - t) = false := by
              unfold b1 at hp hp'; unfold b2 at hq; simp at hp hp' hq ⊢
              have := hp hp'.1; omega
            rw [e]; rfl
        | false => rw [hp, hq] at h; cases h
    · rw [if_neg c2] at h ⊢
      rw [if_neg c2]
      cases hp : b1 x r t i with
      | false => rw [hp] at h; cases h
      | true =>
        cases hq : b2 x r t c with
        | false => rw [hp, hq] at h; cases h
        | true => rw [p1 hp, q1 hq]

theorem reach_end {x : List S29} (hx : Reg x) {a2 a3 rule t : Int} (w2 : 0 ≤ a2 ∧ a2 ≤ 255) (w3 : 0 ≤ a3 ∧ a3 ≤ 255) (r0 : 1 ≤ rule) (r1 : rule ≤ 3) (h0 : 0 ≤ t) :
    ∃ K, ∀ k, K ≤ k → shapesearchlaw08_ResampleReach.j0 k a2 a3 x t rule = some true := by
  obtain ⟨m, hm⟩ : ∃ m, m = mn t 1099511627776 := ⟨_, rfl⟩
  have hm' : 0 ≤ m ∧ m ≤ 1099511627776 := by rw [hm]; unfold mn; split <;> omega
  obtain ⟨c, hc⟩ := pos_ex hx m
  obtain ⟨K1, hK1⟩ := at_ok hx hc hm'.1 hm'.2 (grid_ok (rule := rule) (reach := a2) r0 r1 (by omega) (by omega))
  obtain ⟨K2, hK2⟩ := at_ok hx hc hm'.1 hm'.2 (grid_ok (rule := rule) (reach := a2 + a3) r0 r1 (by omega) (by omega))
  obtain ⟨K3, hK3⟩ := awake_ok
  have law := reach_law (x := x) (t := m) (c := c) (r := a2) (s := a2 + a3) (rule := rule) (by omega)
  refine ⟨K1 + K2 + K3 + 1, fun k hk => ?_⟩
  obtain ⟨k, rfl, hk'⟩ := succ_of hk
  simp only [shapesearchlaw08_ResampleReach.j0, shapesearchlaw08_grid.f, Option.bind_some]
  rw [w64 (n := a2) (by omega) (by omega), w64 (n := a3) (by omega) (by omega), w64 (n := a2 + a3) (by omega) (by omega), ← hm]
  rw [hK1 _ (by omega)]; simp only [Option.bind_some]
  rw [hK2 _ (by omega)]; simp only [Option.bind_some]
  cases hv : (val x rule m (ix x m c) c (b1 x a2 m (ix x m c)) (b2 x a2 m c)).2 with
  | false => rw [if_neg (by simp), hK3 _ (by omega)]; rfl
  | true =>
    rw [law hv, hv, if_pos (by trivial), if_pos (by trivial), if_pos (by rfl), hK3 _ (by omega)]; rfl

theorem ResampleReach : shapesearchlaw08_ResampleReach.Pure := by
  intro l a1 a2 a3 a4 _ _ hl h1 h2 h3 h4
  have w1 := wf_u8 h1
  have w2 := wf_u8 h2
  have w3 := wf_u8 h3
  have w4 := wf_u8 h4
  obtain ⟨L, e0, hL⟩ := new_ok l hl
  obtain ⟨x, j, ⟨K1, hK1⟩, hj, hx, hxl, hx0⟩ := asc_ok hL 10 (by omega)
  have ht := tmod_nonneg' (a := a4) (b := 3) w4.1 (by omega)
  have hK1' : shapesearchkeep_Src_Ascending.f K1 L 0 10 = some (x, j) := hK1 K1 (Nat.le_refl _)
  by_cases c : (x.length : Int) > 0
  · have r0 := hx.rng 0 (by omega) (by omega)
    obtain ⟨K2, hK2⟩ := reach_end hx (a2 := a2) (a3 := a3) (rule := 1 + Int.tmod a4 3) (t := a1 + T x 0) w2 w3 (by omega) (by omega) (by omega)
    refine ⟨K1 + K2, ?_⟩
    unfold shapesearchlaw08_ResampleReach.f
    have := hK1 (K1 + K2) (by omega)
    rw [show ((10 : Nat) : Int) = 10 from rfl] at this
    rw [e0]; simp only [Option.bind_some]
    rw [this]; simp only [Option.bind_some]
    rw [if_pos c, if_pos (by omega), T_def, w64 (n := a1) (by omega) (by omega), w64 (n := a4) (by omega) (by omega), w64 (n := a1 + T x 0) (by omega) (by omega), w64 (n := 1 + Int.tmod a4 3) (by omega) (by omega)]
    exact hK2 _ (by omega)
  · obtain ⟨K2, hK2⟩ := reach_end hx (a2 := a2) (a3 := a3) (rule := 1 + Int.tmod a4 3) (t := a1) w2 w3 (by omega) (by omega) (by omega)
    refine ⟨K1 + K2, ?_⟩
    unfold shapesearchlaw08_ResampleReach.f
    have := hK1 (K1 + K2) (by omega)
    rw [show ((10 : Nat) : Int) = 10 from rfl] at this
    rw [e0]; simp only [Option.bind_some]
    rw [this]; simp only [Option.bind_some]
    rw [if_neg c, w64 (n := a1) (by omega) (by omega), w64 (n := a4) (by omega) (by omega), w64 (n := 1 + Int.tmod a4 3) (by omega) (by omega)]
    exact hK2 _ (by omega)

end Go.Proofs.Ytknkiogjibpooab.Pure
