/- Ascending readings out of the reader of numbers. -/
import Derived.Test.YtknkiogjibpooabHx2
import Derived.Test.YtknkiogjibpooabHx10
import Derived.Test.YtknkiogjibpooabBase
import Derived.Test.YtknkiogjibpooabKeep
import Derived.Test.YtknkiogjibpooabRes
namespace Go.Proofs.Ytknkiogjibpooab.Res
open Go.RowKit Go.Proofs.Ytknkiogjibpooab.Hp Go.Proofs.YtknkiogjibpooabW.PrintWords Go.Proofs.YtknkiogjibpooabW.PrintLast Go.Proofs.YtknkiogjibpooabW.PrintMore
open Go.Proofs.Ytknkiogjibpooab.Base Go.Proofs.Ytknkiogjibpooab.Keep

theorem T_snoc_lt {l : List S29} {r : S29} {i : Int} (h0 : 0 ≤ i) (h1 : i < (l.length : Int)) : T (l ++ [r]) i = T l i ∧ V (l ++ [r]) i = V l i := by
  unfold T V rd_T29; rw [getD_append_lt (by omega)]; exact ⟨rfl, rfl⟩
theorem T_snoc_eq {l : List S29} {r : S29} {i : Int} (h : i = (l.length : Int)) : T (l ++ [r]) i = r.f0 ∧ V (l ++ [r]) i = r.f1 := by
  unfold T V rd_T29; rw [getD_append_eq (by omega)]; exact ⟨rfl, rfl⟩

theorem Reg.snoc {l : List S29} (h : Reg l) {r : S29} (hl : l.length < 2000) (h0 : 0 ≤ r.f0) (h1 : r.f0 ≤ 1099511627776) (h2 : -1000 ≤ r.f1) (h3 : r.f1 ≤ 1000) (ha : 0 < l.length → T l ((l.length : Int) - 1) < r.f0) : Reg (l ++ [r]) := by
  refine ⟨by simp; omega, ?_, ?_⟩
  · intro i i0 i1
    rw [List.length_append, List.length_singleton] at i1
    rcases Int.lt_or_le i (l.length : Int) with c | c
    · obtain ⟨e1, e2⟩ := T_snoc_lt (r := r) i0 c
      rw [e1, e2]; exact h.rng i i0 c
    · obtain ⟨e1, e2⟩ := T_snoc_eq (l := l) (r := r) (i := i) (by omega)
      rw [e1, e2]; exact ⟨h0, h1, h2, h3⟩
  · intro i i0 i1
    rw [List.length_append, List.length_singleton] at i1
    rcases Int.lt_or_le (i + 1) (l.length : Int) with c | c
    · rw [(T_snoc_lt (r := r) i0 (by omega)).1, (T_snoc_lt (r := r) (i := i + 1) (by omega) c).1]; exact h.asc i i0 c
    · have := ha (by omega)
      rw [(T_snoc_lt (r := r) i0 (by omega)).1, (T_snoc_eq (l := l) (r := r) (i := i + 1) (by omega)).1, show i = (l.length : Int) - 1 from by omega]; exact this

theorem Reg.nil : Reg [] := ⟨by simp, fun i h0 h1 => by simp at h1; omega, fun i h0 h1 => by simp at h1; omega⟩

theorem asc_loop {L : List Int} : ∀ (d : Nat) (acc : List S29) (t i j : Int), i = d → d ≤ 20 → acc.length + d ≤ 100 → Src L j → Reg acc → 0 ≤ t → t + 12 * i ≤ 1099511627776 → (0 < acc.length → T acc ((acc.length : Int) - 1) ≤ t) → (acc.length = 0 → t ≤ 1099511627476) → (0 < acc.length → T acc 0 ≤ 1099511627488) →
    ∃ x j', Src L j' ∧ Reg x ∧ x.length = acc.length + d ∧ (0 < x.length → T x 0 ≤ 1099511627488) ∧ ∃ K, ∀ k, K ≤ k → shapesearchkeep_Src_Ascending.l0 k acc t i L j = some (x, j') := by
  intro d
  induction d with
  | zero =>
    intro acc t i j hi _ _ hj hr h0 h1 h2 h3 h4
    refine ⟨acc, j, hj, hr, rfl, h4, 1, fun k hk => ?_⟩
    obtain ⟨k, rfl, hk'⟩ := succ_of hk
    simp only [shapesearchkeep_Src_Ascending.l0]; rw [if_neg (by omega)]
  | succ d ih =>
    intro acc t i j hi hd hl hj hr h0 h1 h2 h3 h4
    obtain ⟨a, j1, e1, hj1, a0, a1⟩ := range_ok hj 1 12 (by omega) (by omega) (by omega)
    obtain ⟨v, j2, e2, hj2, v0, v1⟩ := range_ok hj1 (-30) 30 (by omega) (by omega) (by omega)
    obtain ⟨p, j3, e3, hj3, hp⟩ := pick_ok hj2 [1, 1, 33] (by simp) (by simp)
    have hp' : p = 1 ∨ p = 33 := by simp at hp; omega
    have hv : -1000 ≤ v * p ∧ v * p ≤ 1000 := by rcases hp' with z | z <;> rw [z] <;> omega
    obtain ⟨r, hre⟩ : ∃ r : S29, r = ⟨t + a, v * p⟩ := ⟨_, rfl⟩
    have r0 : r.f0 = t + a := by rw [hre]
    have r1 : r.f1 = v * p := by rw [hre]
    obtain ⟨x, j', g1, g2, g3, g4, K, hK⟩ := ih (acc ++ [r]) (t + a) (i - 1) j3 (by omega) (by omega) (by simp; omega) hj3
      (hr.snoc (by omega) (by omega) (by omega) (by omega) (by omega) (fun z => by have := h2 z; omega)) (by omega) (by omega)
      (fun _ => by rw [(T_snoc_eq (by simp)).1]; omega) (fun z => by simp at z)
      (fun _ => by
        rcases Nat.eq_zero_or_pos acc.length with z | z
        · rw [(T_snoc_eq (by omega)).1]; have := h3 z; omega
        · rw [(T_snoc_lt (by omega) (by omega)).1]; exact h4 z)
    refine ⟨x, j', g1, g2, by rw [g3]; simp; omega, g4, K + 1, fun k hk => ?_⟩
    obtain ⟨k, rfl, hk'⟩ := succ_of hk
    simp only [shapesearchkeep_Src_Ascending.l0]
    rw [if_pos (by omega), e1]; simp only [Option.bind_some]
    rw [e2]; simp only [Option.bind_some]
    rw [e3]; simp only [Option.bind_some]
    rw [if_pos (by omega), w64 (n := t + a) (by omega) (by omega), w64 (n := v * p) (by omega) (by omega), w64 (n := i - 1) (by omega) (by omega), ← hre]
    exact hK k hk'

/-- Up to n readings with ascending times. -/
theorem asc_ok {L : List Int} {j : Int} (h : Src L j) (n : Nat) (hn : n ≤ 20) : ∃ x j', (∃ K, ∀ k, K ≤ k → shapesearchkeep_Src_Ascending.f k L j (n : Int) = some (x, j')) ∧ Src L j' ∧ Reg x ∧ x.length ≤ n ∧ (0 < x.length → T x 0 ≤ 1099511627488) := by
  obtain ⟨t, j1, e1, hj1, ht⟩ := pick_ok h [0, 0, 7, 1099511627476] (by simp) (by simp)
  have ht' : 0 ≤ t ∧ t ≤ 1099511627476 := by simp at ht; omega
  obtain ⟨i, j2, e2, hj2, i0, i1⟩ := n_ok hj1 ((n : Int) + 1) (by omega) (by omega)
  obtain ⟨x, j', g1, g2, g3, g4, K, hK⟩ := asc_loop i.toNat [] t i j2 (by omega) (by omega) (by simp; omega) hj2 Reg.nil ht'.1 (by omega) (fun z => by simp at z) (fun _ => ht'.2) (fun z => by simp at z)
  refine ⟨x, j', ⟨K, fun k hk => ?_⟩, g1, g2, by rw [g3]; simp; omega, g4⟩
  unfold shapesearchkeep_Src_Ascending.f
  rw [e1]; simp only [Option.bind_some]
  rw [w64 (n := (n : Int) + 1) (by omega) (by omega), e2]; simp only [Option.bind_some]
  exact hK k hk

theorem grid_ok {rule reach : Int} (h0 : 1 ≤ rule) (h1 : rule ≤ 3) (h2 : 0 ≤ reach) (h3 : reach ≤ 1099511627776) : Grid 0 1 0 rule reach :=
  ⟨by omega, by omega, by omega, by omega, by omega, by omega, h0, h1, h2, h3, fun z => by omega⟩

theorem awake_ok : ∃ K, ∀ k, K ≤ k → shapesearchlaw08_awake.f k = some true := by
  refine Ev.of (fun k => shapesearchlaw08_awake.mono k) (k := 20) ?_
  decide +kernel

/-- The place of a reading's own time. -/
theorem Reg.self {l : List S29} (h : Reg l) {i : Int} (h0 : 0 ≤ i) (h1 : i < (l.length : Int)) : Pos l (T l i) i ∧ ix l (T l i) i = i := by
  refine ⟨⟨h0, by omega, fun a a0 a1 => h.lt' a0 a1 h1, fun a a0 a1 => ?_⟩, ?_⟩
  · rcases Int.lt_or_le i a with z | z
    · have := h.lt' h0 z a1; omega
    · obtain rfl : a = i := (by omega)
      exact Int.le_refl _
  · unfold ix; rw [if_pos ⟨h1, rfl⟩]
/-- What is known of the two neighbours. -/
theorem ix_ok {l : List S29} (hr : Reg l) {t c : Int} (h : Pos l t c) : -1 ≤ ix l t c ∧ ix l t c < (l.length : Int) ∧ ix l t c ≤ c ∧ c - 1 ≤ ix l t c ∧ (0 ≤ ix l t c → T l (ix l t c) ≤ t) ∧ (ix l t c = c → c < (l.length : Int) ∧ T l c = t) ∧ (∀ a, ix l t c < a → a < (l.length : Int) → t < T l a) := by
  obtain ⟨a0, a1, a2, a3⟩ := h
  unfold ix
  by_cases e : c < (l.length : Int) ∧ T l c = t
  · rw [if_pos e]
    refine ⟨by omega, by omega, by omega, by omega, fun _ => by omega, fun _ => e, fun a b0 b1 => ?_⟩
    have := hr.lt' a0 b0 b1
    omega
  · rw [if_neg e]
    refine ⟨by omega, by omega, by omega, by omega, fun z => by have := a2 (c - 1) z (by omega); omega, fun z => by omega, fun a b0 b1 => ?_⟩
    have h1 := a3 a (by omega) b1
    rcases Int.lt_or_eq_of_le h1 with z | z
    · exact z
    · exfalso
      rcases Int.lt_or_eq_of_le (show c ≤ a by omega) with y | y
      · have := hr.lt' a0 y b1
        have := a3 c (Int.le_refl _) (by omega)
        omega
      · exact e ⟨by omega, by rw [y]; exact z.symm⟩

end Go.Proofs.Ytknkiogjibpooab.Res
