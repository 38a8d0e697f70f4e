/- Regular series: the reference answers what the program answers. -/
import Derived.Test.YtknkiogjibpooabVg4
import Derived.Test.YtknkiogjibpooabVRes3
set_option linter.unusedVariables false
set_option linter.unusedSimpArgs false
namespace Go.Proofs.Ytknkiogjibpooab.V
open Go.VI

theorem ref_valid_eq (f s c r h : Int) : ref08_Valid.F (((f, (s, (c, (r, (h, ()))))), ()), ()) = some ((decide (GV f s c r h), ()), ()) := by
  rw [ref08_Valid.F_eq, ref08_Valid.f]
  refine Ok.eq (.bind (P := fun y => y = Sum.inl (((), (decide (¬ (0 ≤ f ∧ f ≤ 1099511627776 ∧ 1 ≤ s ∧ s ≤ 1099511627776 ∧ 0 ≤ c ∧ c ≤ 2000 ∧ 1 ≤ r ∧ r ≤ 3 ∧ 0 ≤ h ∧ h ≤ 1099511627776)), ())), ((f, (s, (c, (r, (h, ()))))), ()))) ?_ ?_)
  · rw [ref08_Valid.L0_eq, ref08_Valid.f0]
    repeat' first
      | refine Ok.some ?_
      | refine Ok.cond (fun _ => ?_) fun _ => ?_
    all_goals (simp only [Sum.inl.injEq, Prod.mk.injEq, and_true, true_and]; first | exact (decide_eq_true (by omega)).symm | exact (decide_eq_false (by omega)).symm | exact decide_eq_decide.2 (by omega))
  · rintro y rfl
    simp only [Sum.elim_inl]
    refine .bool (fun e => .some ?_) fun e => ?_
    · have e' := of_decide_eq_true e
      rw [decide_eq_false (fun g : GV f s c r h => by unfold GV at g; omega)]
    · have e' := Decidable.not_not.1 (of_decide_eq_false e)
      refine .bool (fun k => .some ?_) fun k => .some ?_
      · have k' : c = 0 := by simpa using k
        rw [dt (p := GV f s c r h) (by unfold GV; omega)]
      · have k' : c ≠ 0 := by simpa using k
        have hm := grid_mul (s := s) (c := c - 1) (by omega) (by omega)
        simp (disch := omega) only [w64]
        simp only [Prod.mk.injEq, and_true]
        exact decide_eq_decide.2 (by unfold GV; omega)
theorem ref_rd (x : Int × Int) : ref05_Valid.F (((x.1, (x.2, ())), ()), ()) = some ((decide (Rd x), ()), ()) := by
  rw [ref05_Valid.F_eq, ref05_Valid.f]
  have hs : ref04_Sample.F ((x.2, ()), ()) = some ((decide (-1000 ≤ x.2 ∧ x.2 ≤ 1000), ()), ()) := by
    rw [ref04_Sample.F_eq, ref04_Sample.f]
    refine Ok.eq (.cond (fun _ => .some ?_) fun _ => .some ?_)
    all_goals (simp only [Prod.mk.injEq, and_true]; first | exact (decide_eq_false (by omega)).symm | exact decide_eq_decide.2 (by omega))
  rw [hs]
  simp only [Option.bind_some]
  refine Ok.eq (.cond (fun _ => .cond (fun _ => .some ?_) fun _ => .some ?_) fun _ => .some ?_)
  all_goals (simp only [Prod.mk.injEq, and_true]; first | exact (decide_eq_false (by unfold Rd; omega)).symm | exact decide_eq_decide.2 (by unfold Rd; omega))
theorem ref_check_rng (l : List (Int × Int)) (hl : l.length ≤ 2000) : ∀ (k i : Nat), i + k = l.length → (∀ j : Nat, j < i → Rd (l.getD j (0, 0))) →
    Ok (ref05_Check.L0 ((l, ((l.length : Int), ((i : Int), ()))), ())) (fun r => (Rng l ∧ r = Sum.inl ((), ())) ∨ (¬ Rng l ∧ r = Sum.inr (Sum.inl ((1, ()), ())))) := by
  intro k
  induction k with
  | zero =>
    intro i hi hj
    rw [ref05_Check.L0_eq, ref05_Check.f0]
    exact .cond (fun c => by omega) fun c => .some (.inl ⟨Rng.of fun j h => hj j (by omega), rfl⟩)
  | succ k ih =>
    intro i hi hj
    rw [ref05_Check.L0_eq, ref05_Check.f0]
    refine .cond (fun c => .guard (by omega) (.guard (by omega) ?_)) fun c => by omega
    rw [Int.toNat_natCast, ref_rd]
    simp only [Option.bind_some]
    by_cases e : Rd (l.getD i (0, 0))
    · rw [dt e]
      simp only [Bool.not_true, cond_false]
      simp (disch := omega) only [w64]
      refine .bind (ih (i + 1) (by omega) fun j h => ?_) fun y hy => .some hy
      by_cases e' : j = i
      · subst e'; exact e
      · exact hj j (by omega)
    · rw [df e]
      exact .some (.inr ⟨fun h => e (h.get (i := i) (by omega)), rfl⟩)
theorem ref_check_asc (l : List (Int × Int)) (hl : l.length ≤ 2000) : ∀ (k i : Nat), i + 1 + k = l.length ∨ (l.length = 0 ∧ i = 0) → (∀ j : Nat, j < i → (l.getD j (0, 0)).1 < (l.getD (j + 1) (0, 0)).1) →
    Ok (ref08_check.L0 ((l, (((i : Int) + 1), ())), ())) (fun r => (Asc l ∧ r = Sum.inl ((), ())) ∨ (¬ Asc l ∧ r = Sum.inr (Sum.inl ((6, ()), ())))) := by
  intro k
  induction k with
  | zero =>
    intro i hi hj
    rw [ref08_check.L0_eq, ref08_check.f0]
    refine .cond (fun c => by omega) fun c => .some (.inl ⟨asc_of fun j h => hj j (by omega), rfl⟩)
  | succ k ih =>
    intro i hi hj
    rw [ref08_check.L0_eq, ref08_check.f0]
    refine .cond (fun c => ?_) fun c => .some (.inl ⟨asc_of fun j h => by omega, rfl⟩)
    simp (disch := omega) only [w64]
    refine .guard (by omega) (.guard (by omega) (.guard (by omega) (.guard (by omega) ?_)))
    rw [show ((i : Int) + 1 - 1).toNat = i by omega, show ((i : Int) + 1).toNat = i + 1 by omega]
    refine .cond (fun e => .some (.inr ⟨fun h => ?_, rfl⟩)) fun e => ?_
    · have := h i (i + 1) (by omega) (by omega)
      omega
    · refine .bind (ih (i + 1) (by omega) fun j h => ?_) fun y hy => .some hy
      by_cases e' : j = i
      · subst e'; omega
      · exact hj j (by omega)
theorem ref_check_eq (l : List (Int × Int)) : ref08_check.F ((l, ()), ()) = some ((chk l, ()), ()) := by
  rw [ref08_check.F_eq, ref08_check.f]
  have h5 : Ok (ref05_Check.F ((l, ()), ())) (fun y => (2000 < l.length ∧ y = ((4, ()), ())) ∨ (l.length ≤ 2000 ∧ ¬ Rng l ∧ y = ((1, ()), ())) ∨ (l.length ≤ 2000 ∧ Rng l ∧ y = ((0, ()), ()))) := by
    rw [ref05_Check.F_eq, ref05_Check.f]
    refine .cond (fun c => .some (.inl ⟨by omega, rfl⟩)) fun c => ?_
    have hl : l.length ≤ 2000 := by omega
    refine .bind (ref_check_rng l hl l.length 0 (by omega) (by omega)) fun y hy => ?_
    rcases hy with ⟨h1, rfl⟩ | ⟨h1, rfl⟩
    · exact .some (.inr (.inr ⟨hl, h1, rfl⟩))
    · exact .some (.inr (.inl ⟨hl, h1, rfl⟩))
  refine Ok.eq (.bind h5 fun y hy => ?_)
  rcases hy with ⟨h1, rfl⟩ | ⟨h1, h2, rfl⟩ | ⟨h1, h2, rfl⟩
  · exact .some (by unfold chk; rw [if_pos h1])
  · exact .some (by unfold chk; rw [if_neg (by omega), if_pos h2])
  · refine .bool (fun c => by simp at c) fun _ => ?_
    refine .bind (ref_check_asc l h1 (l.length - 1) 0 (by omega) (by omega)) fun y hy => ?_
    rcases hy with ⟨h3, rfl⟩ | ⟨h3, rfl⟩
    · exact .some (by rw [chk_ok h1 h2 h3])
    · exact .some (by unfold chk; rw [if_neg (by omega), if_neg (fun e => e h2), if_pos h3])
theorem ref_half_eq {a b : Int} (ha : -4000000000000000000 ≤ a ∧ a ≤ 4000000000000000000) (hb : 1 ≤ b ∧ b ≤ 1000000000000000000) : ref04_Half.F ((a, (b, ())), ()) = some ((halfUp a b, ()), ()) := by
  rw [ref04_Half.F_eq, ref04_Half.f, ref04_Down.F_eq, ref04_Down.f]
  simp (disch := omega) only [w64]
  have hz : (!decide (2 * b = 0)) = true := by simp; omega
  rw [hz, cond_true, cond_true]
  have hf := floor_of_tdiv (n := 2 * a + b) (d := 2 * b) (by omega)
  have hq := tdiv_abs (n := 2 * a + b) (d := 2 * b) (by omega)
  refine Ok.eq (.bind (P := fun y => y = ((halfUp a b, ()), ())) ?_ fun y hy => by subst hy; exact .some rfl)
  refine .cond (fun c => .some ?_) fun c => .some ?_
  · rw [if_pos c] at hf
    simp (disch := omega) only [w64]
    rw [hf]; rfl
  · rw [if_neg c] at hf
    simp (disch := omega) only [w64]
    rw [hf]; rfl

/-- The reference's neighbours: the last reading at or before a time, the first one at or behind it, or -1. -/
def Rb (l : List (Int × Int)) (t : Int) (n : Nat) (a b : Int) : Prop :=
  (-1 ≤ a ∧ a < (n : Int) ∧ (∀ j : Nat, a < (j : Int) → j < n → t < (l.getD j (0, 0)).1) ∧ (0 ≤ a → (l.getD a.toNat (0, 0)).1 ≤ t)) ∧
  (-1 ≤ b ∧ b < (n : Int) ∧ (∀ j : Nat, j < n → ((j : Int) < b ∨ b < 0) → (l.getD j (0, 0)).1 < t) ∧ (0 ≤ b → t ≤ (l.getD b.toNat (0, 0)).1))
theorem ref_at_loop {l : List (Int × Int)} (hl : l.length ≤ 2000) (ha : Asc l) (f s c r h t : Int) : ∀ (k i : Nat) (a b : Int), i + k = l.length → Rb l t i a b →
    Ok (ref08_at.L0 ((l, (t, ((), (a, (b, ((l.length : Int), ((i : Int), ()))))))), ((f, (s, (c, (r, (h, ()))))), ()))) (fun y => ∃ a b, Rb l t l.length a b ∧ y = Sum.inl ((l, (t, ((), (a, (b, ()))))), ((f, (s, (c, (r, (h, ()))))), ()))) := by
  intro k
  induction k with
  | zero =>
    intro i a b hi R
    rw [ref08_at.L0_eq, ref08_at.f0]
    have : i = l.length := by omega
    subst this
    exact .cond (fun c => by omega) fun c => .some ⟨a, b, R, rfl⟩
  | succ k ih =>
    intro i a b hi R
    rw [ref08_at.L0_eq, ref08_at.f0]
    obtain ⟨⟨a1, a2, a3, a4⟩, b1, b2, b3, b4⟩ := R
    simp (disch := omega) only [w64]
    rw [Int.toNat_natCast, show (i : Int) + 1 = ((i + 1 : Nat) : Int) by omega]
    -- the new neighbours
    have A1 : (l.getD i (0, 0)).1 ≤ t → (-1 ≤ (i : Int) ∧ (i : Int) < ((i + 1 : Nat) : Int) ∧ (∀ j : Nat, (i : Int) < (j : Int) → j < i + 1 → t < (l.getD j (0, 0)).1) ∧ (0 ≤ (i : Int) → (l.getD ((i : Int)).toNat (0, 0)).1 ≤ t)) := fun e =>
      ⟨by omega, by omega, fun j h1 h2 => by omega, fun _ => by rw [Int.toNat_natCast]; exact e⟩
    have A2 : ¬ (l.getD i (0, 0)).1 ≤ t → (-1 ≤ a ∧ a < ((i + 1 : Nat) : Int) ∧ (∀ j : Nat, a < (j : Int) → j < i + 1 → t < (l.getD j (0, 0)).1) ∧ (0 ≤ a → (l.getD a.toNat (0, 0)).1 ≤ t)) := fun e =>
      ⟨a1, by omega, fun j h1 h2 => by
        by_cases e' : j = i
        · subst e'; omega
        · exact a3 j h1 (by omega), a4⟩
    have B1 : (l.getD i (0, 0)).1 ≥ t → b < 0 → (-1 ≤ (i : Int) ∧ (i : Int) < ((i + 1 : Nat) : Int) ∧ (∀ j : Nat, j < i + 1 → ((j : Int) < (i : Int) ∨ (i : Int) < 0) → (l.getD j (0, 0)).1 < t) ∧ (0 ≤ (i : Int) → t ≤ (l.getD ((i : Int)).toNat (0, 0)).1)) := fun e e0 =>
      ⟨by omega, by omega, fun j h1 h2 => b3 j (by omega) (.inr e0), fun _ => by rw [Int.toNat_natCast]; exact e⟩
    have B2 : ((l.getD i (0, 0)).1 < t ∨ ¬ b < 0) → (-1 ≤ b ∧ b < ((i + 1 : Nat) : Int) ∧ (∀ j : Nat, j < i + 1 → ((j : Int) < b ∨ b < 0) → (l.getD j (0, 0)).1 < t) ∧ (0 ≤ b → t ≤ (l.getD b.toNat (0, 0)).1)) := fun e =>
      ⟨b1, by omega, fun j h1 h2 => by
        by_cases e' : j = i
        · subst e'
          rcases e with e | e
          · exact e
          · omega
        · exact b3 j (by omega) h2, b4⟩
    refine .cond (fun k1 => .guard (by omega) (.guard (by omega) (.cond (fun p => .guard (by omega) (.guard (by omega) (.cond (fun q => .cond (fun u => ?_) fun u => ?_) fun q => ?_))) fun p => .guard (by omega) (.guard (by omega) (.cond (fun q => .cond (fun u => ?_) fun u => ?_) fun q => ?_))))) fun k1 => by omega
    · exact .bind (ih (i + 1) _ _ (by omega) ⟨A1 p, B1 q u⟩) fun y hy => .some hy
    · exact .bind (ih (i + 1) _ _ (by omega) ⟨A1 p, B2 (.inr u)⟩) fun y hy => .some hy
    · exact .bind (ih (i + 1) _ _ (by omega) ⟨A1 p, B2 (.inl (by omega))⟩) fun y hy => .some hy
    · exact .bind (ih (i + 1) _ _ (by omega) ⟨A2 p, B1 q u⟩) fun y hy => .some hy
    · exact .bind (ih (i + 1) _ _ (by omega) ⟨A2 p, B2 (.inr u)⟩) fun y hy => .some hy
    · exact .bind (ih (i + 1) _ _ (by omega) ⟨A2 p, B2 (.inl (by omega))⟩) fun y hy => .some hy
theorem Rb.nb {l : List (Int × Int)} (ha : Asc l) {t a b : Int} (R : Rb l t l.length a b) : Nb l t a (if b < 0 then (l.length : Int) else b) := by
  obtain ⟨⟨a1, a2, a3, a4⟩, b1, b2, b3, b4⟩ := R
  by_cases e : b < 0
  · rw [if_pos e]
    refine ⟨by omega, by omega, fun j hj => b3 j (by omega) (.inr e), fun j h1 h2 => by omega, ?_⟩
    rw [if_neg (by omega)]
    by_cases e0 : (l.length : Int) - 1 ≤ a
    · omega
    · have := a3 (l.length - 1) (by omega) (by omega)
      have := b3 (l.length - 1) (by omega) (.inr e)
      omega
  · rw [if_neg e]
    have mono : ∀ j k : Nat, j ≤ k → k < l.length → (l.getD j (0, 0)).1 ≤ (l.getD k (0, 0)).1 := fun j k h1 h2 => by
      by_cases e' : j = k
      · subst e'; exact Int.le_refl _
      · exact Int.le_of_lt (ha j k (by omega) h2)
    have hb := b4 (by omega)
    refine ⟨by omega, by omega, fun j hj => b3 j (by omega) (.inl hj), fun j h1 h2 => Int.le_trans hb (mono b.toNat j (by omega) h2), ?_⟩
    by_cases c : b < (l.length : Int) ∧ (l.getD b.toNat (0, 0)).1 = t
    · rw [if_pos c]
      rcases Int.lt_trichotomy a b with h | h | h
      · have := a3 b.toNat (by omega) (by omega); omega
      · exact h
      · have := a4 (by omega); have := ha b.toNat a.toNat (by omega) (by omega); omega
    · rw [if_neg c]
      have hlt : t < (l.getD b.toNat (0, 0)).1 := by
        by_cases e' : (l.getD b.toNat (0, 0)).1 = t
        · exact absurd ⟨by omega, e'⟩ c
        · omega
      rcases Int.lt_trichotomy a (b - 1) with h | h | h
      · have := a3 (b - 1).toNat (by omega) (by omega); have := b3 (b - 1).toNat (by omega) (.inl (by omega)); omega
      · exact h
      · have h1 := a4 (by omega); have := mono b.toNat a.toNat (by omega) (by omega); omega
theorem ref_at_ok {l : List (Int × Int)} (hl : l.length ≤ 2000) (hr : Rng l) (ha : Asc l) (f s c r h t : Int) (r1 : 1 ≤ r ∧ r ≤ 3) (t1 : 0 ≤ t ∧ t ≤ 1099511627776) :
    Ok (ref08_at.F ((l, ((f, (s, (c, (r, (h, ()))))), (t, ()))), ())) (fun y => ∃ v, V l r h t v ∧ y = res v) := by
  rw [ref08_at.F_eq, ref08_at.f]
  refine .bind (ref_at_loop hl ha f s c r h t l.length 0 (-1) (-1) (by omega) ⟨⟨by omega, by omega, fun j h1 h2 => by omega, fun h => by omega⟩, by omega, by omega, fun j h1 h2 => by omega, fun h => by omega⟩) fun y hy => ?_
  obtain ⟨a, b0, R, rfl⟩ := hy
  have hnb := R.nb ha
  generalize hb' : (if b0 < 0 then (l.length : Int) else b0) = b at hnb
  have N := nbs_of hnb hr t1
  suffices Ok _ (· = res (val l r h t a b)) by exact this.mono fun y hy => ⟨_, ⟨a, b, hnb, rfl⟩, hy⟩
  have hN := N.ha; have hN' := N.hb
  have hb0 : -1 ≤ b0 ∧ b0 < (l.length : Int) := ⟨R.2.1, R.2.2.1⟩
  have hbb : (b0 < 0 ∧ b = (l.length : Int)) ∨ (0 ≤ b0 ∧ b = b0) := by
    by_cases e : b0 < 0
    · rw [if_pos e] at hb'; exact .inl ⟨e, hb'.symm⟩
    · rw [if_neg e] at hb'; exact .inr ⟨by omega, hb'.symm⟩
  have mxa : 0 ≤ a → mx a 0 = a := fun h => by unfold mx; split <;> omega
  have mxb : 0 ≤ b0 → mx b0 0 = b0 := fun h => by unfold mx; split <;> omega
  dsimp only [Sum.elim_inl]
  refine .bind (P := fun y => y = Sum.inl ((l, (t, ((), (a, (b0, (Bf l h t a, (Bh l h t b, ()))))))), ((f, (s, (c, (r, (h, ()))))), ()))) ?_ ?_
  · rw [ref08_at.L1_eq, ref08_at.f1]
    have hBh : ∀ k : 0 ≤ b0, (Go.IntKind.wrap .i64 ((l.getD b0.toNat (0, 0)).1 - t) ≤ h ↔ (b < (l.length : Int) ∧ (l.getD b.toNat (0, 0)).1 - t ≤ h)) := fun k => by
      have e : b = b0 := by omega
      have := N.B (by omega)
      rw [e] at this
      rw [w64 (by omega), e]
      exact ⟨fun q => ⟨by omega, q⟩, fun q => q.2⟩
    have hBf : ∀ k : 0 ≤ a, (Go.IntKind.wrap .i64 (t - (l.getD a.toNat (0, 0)).1) ≤ h ↔ (0 ≤ a ∧ t - (l.getD a.toNat (0, 0)).1 ≤ h)) := fun k => by
      have := N.A k
      rw [w64 (by omega)]
      exact ⟨fun q => ⟨k, q⟩, fun q => q.2⟩
    refine .cond (fun k => ?_) fun k => ?_
    · have k : 0 ≤ a := k
      rw [mxa k]
      refine .guard k (.guard (by omega) (.cond (fun k2 => ?_) fun k2 => .some ?_))
      · have k2 : 0 ≤ b0 := k2
        rw [mxb k2]
        refine .guard k2 (.guard (by omega) (.some ?_))
        unfold Bf Bh
        rw [decide_eq_decide.2 (hBf k), decide_eq_decide.2 (hBh k2)]
      · unfold Bf Bh
        rw [decide_eq_decide.2 (hBf k), df (p := b < (l.length : Int) ∧ _) (by omega)]
    · refine .cond (fun k2 => ?_) fun k2 => .some ?_
      · have k2 : 0 ≤ b0 := k2
        rw [mxb k2]
        refine .guard k2 (.guard (by omega) (.some ?_))
        unfold Bf Bh
        rw [decide_eq_decide.2 (hBh k2), df (p := 0 ≤ a ∧ _) (by omega)]
      · unfold Bf Bh
        rw [df (p := b < (l.length : Int) ∧ _) (by omega), df (p := 0 ≤ a ∧ _) (by omega)]
  rintro y rfl
  have hbeq : Bh l h t b = true → 0 ≤ b0 ∧ b = b0 := fun e => by have := bh_t e; omega
  simp only [Sum.elim_inl]
  rcases (show r = 1 ∨ r = 2 ∨ r = 3 by omega) with rfl | rfl | rfl
  · rw [val1, ref08_at.L2_eq, ref08_at.f2, bt rfl]
    simp only [cond_true, Option.bind_some, Sum.elim_inl]
    refine .bool (fun k => ?_) fun k => ?_
    · have := bf_t k
      exact .guard (by omega) (.guard (by omega) (.some (by rw [k]; rfl)))
    · rw [k]
      simp only [ref08_at.L3_eq, ref08_at.f3, ref08_at.L4_eq, ref08_at.f4, ref08_at.L5_eq, ref08_at.f5, ref08_at.L6_eq, ref08_at.f6, bf (show (1 : Int) ≠ 2 by decide), bf (show (1 : Int) ≠ 3 by decide), cond_false, Option.bind_some, Sum.elim_inl]
      exact .some rfl
  · rw [val2, ref08_at.L2_eq, ref08_at.f2, bf (by decide)]
    simp only [cond_false, Option.bind_some, Sum.elim_inl]
    refine .bind (P := fun y => y = Sum.inl ((l, (t, ((), (a, (b0, (Bf l h t a, (Bh l h t b, ((Bf l h t a && (!Bh l h t b || decide (t - (l.getD a.toNat (0, 0)).1 ≤ (l.getD b.toNat (0, 0)).1 - t))), ())))))))), ((f, (s, (c, ((2 : Int), (h, ()))))), ()))) ?_ ?_
    · rw [ref08_at.L3_eq, ref08_at.f3, bt rfl]
      simp only [cond_true]
      refine .bool (fun k => .bool (fun k2 => .some ?_) fun k2 => ?_) fun k => .some (by rw [k]; rfl)
      · rw [k, k2]; rfl
      · have k2' : Bh l h t b = true := by simpa using k2
        have := bf_t k; have := bh_t k2'; have := N.A (by omega); have := N.B (by omega)
        obtain ⟨q1, rfl⟩ := hbeq k2'
        refine .guard (by omega) (.guard (by omega) (.guard (by omega) (.guard (by omega) (.some ?_))))
        rw [w64 (by omega), w64 (by omega), k, k2']; rfl
    rintro y rfl
    simp only [Sum.elim_inl]
    refine .bool (fun k => ?_) fun k => ?_
    · have k' : Bf l h t a = true := by simp at k; exact k.1
      have := bf_t k'
      exact .guard (by omega) (.guard (by omega) (.some (by rw [k]; rfl)))
    · rw [ref08_at.L4_eq, ref08_at.f4, bt rfl]
      simp only [cond_true, Option.bind_some, Sum.elim_inl]
      refine .bool (fun k2 => ?_) fun k2 => ?_
      · have := bh_t k2
        obtain ⟨q1, rfl⟩ := hbeq k2
        exact .guard (by omega) (.guard (by omega) (.some (by rw [k, k2]; rfl)))
      · rw [k, k2]
        simp only [ref08_at.L5_eq, ref08_at.f5, ref08_at.L6_eq, ref08_at.f6, bf (show (2 : Int) ≠ 3 by decide), cond_false, Option.bind_some, Sum.elim_inl]
        exact .some rfl
  · rw [val3, ref08_at.L2_eq, ref08_at.f2, bf (by decide)]
    simp only [cond_false, Option.bind_some, Sum.elim_inl, ref08_at.L3_eq, ref08_at.f3, ref08_at.L4_eq, ref08_at.f4, bf (show (3 : Int) ≠ 2 by decide)]
    rw [ref08_at.L5_eq, ref08_at.f5, bt rfl]
    simp only [cond_true]
    cases k1 : Bf l h t a with
    | false =>
      simp only [cond_false, Option.bind_some, Sum.elim_inl, ref08_at.L6_eq, ref08_at.f6, bt rfl, cond_true, Bool.false_and]
      exact .some rfl
    | true =>
      cases k2 : Bh l h t b with
      | false =>
        simp only [cond_true, cond_false, Option.bind_some, Sum.elim_inl, ref08_at.L6_eq, ref08_at.f6, bt rfl, Bool.and_false]
        exact .some rfl
      | true =>
        have q1 := bf_t k1; have q2 := bh_t k2
        obtain ⟨q3, rfl⟩ := hbeq k2
        simp only [cond_true, Option.bind_some, Sum.elim_inl, Bool.and_true]
        refine .bool (fun e => ?_) fun e => ?_
        · exact .guard (by omega) (.guard (by omega) (.some (by rw [e]; rfl)))
        · rw [ref08_at.L6_eq, ref08_at.f6, bt rfl]
          simp only [cond_true, Option.bind_some, Sum.elim_inl]
          refine .guard (by omega) (.guard (by omega) (.guard (by omega) (.guard (by omega) ?_)))
          have hne : a ≠ b := by simpa using e
          have := N.ne (by omega) (by omega) hne; have := N.A (by omega); have := N.B (by omega); have := N.ht
          have q := lin_eq N q1.1 q2.1
          rw [q.1, w64 (by omega), ref_half_eq q.2 (by omega), e]
          exact .some rfl
theorem ref_At_ok (l : List (Int × Int)) (f s c r h t : Int) : Ok (ref08_At.F ((l, ((f, (s, (c, (r, (h, ()))))), (t, ()))), ())) (AtR l f s c r h t) := by
  rw [ref08_At.F_eq, ref08_At.f]
  refine .bind (P := fun y => y = Sum.inl ((l, (t, ((), (decide (¬ (chk l = 0 ∧ GV f s c r h ∧ 0 ≤ t ∧ t ≤ 1099511627776)), ())))), ((f, (s, (c, (r, (h, ()))))), ()))) ?_ ?_
  · rw [ref08_At.L0_eq, ref08_At.f0, ref_check_eq]
    simp only [Option.bind_some]
    refine .bool (fun k => .some ?_) fun k => ?_
    · have : chk l ≠ 0 := by simpa using k
      rw [dt (p := ¬ _) (fun h => this h.1)]
    · have e0 : chk l = 0 := by simpa using k
      rw [ref_valid_eq]
      simp only [Option.bind_some]
      by_cases g : GV f s c r h
      · rw [dt g]
        refine .cond (fun k => .some ?_) fun k => .some ?_
        · rw [dt (p := ¬ _) (fun h => by omega)]
        · simp only [Sum.inl.injEq, Prod.mk.injEq, and_true, true_and]
          exact decide_eq_decide.2 ⟨fun h h' => by omega, fun h' => by
            by_cases q : t > 1099511627776
            · exact q
            · exact absurd ⟨e0, g, by omega, by omega⟩ h'⟩
      · rw [df g]
        exact .some (by rw [dt (p := ¬ _) (fun h => g h.2.1)])
  rintro y rfl
  simp only [Sum.elim_inl]
  refine .cond (fun k => .some (.inl ⟨k, rfl⟩)) fun k => ?_
  have k' := Decidable.not_not.1 k
  obtain ⟨k1, k2, k3⟩ := k'
  obtain ⟨c1, c2, c3⟩ := chk_zero k1
  refine .bind (ref_at_ok c1 c2 c3 f s c r h t (by unfold GV at k2; omega) k3) fun y hy => ?_
  obtain ⟨v, hv, rfl⟩ := hy
  exact .some (.inr ⟨⟨k1, k2, k3⟩, v, hv, rfl⟩)
theorem ref_apply_loop {l : List (Int × Int)} {f s c r h : Int} (g : GV f s c r h) (h0 : chk l = 0) : ∀ (k i : Nat) (o : List Int), ((i + k : Nat) : Int) = c → o.length = i → (∀ j : Nat, j < i → ∃ v, V l r h (f + j * s) v ∧ o.getD j 0 = v.getD 1073741824) →
    Ok (ref08_Apply.L0 ((l, ((), ((), ((), ((i : Int), ()))))), ((f, (s, (c, (r, (h, ()))))), ((0, (0, ((), ()))), ((f, (s, ((), ()))), (o, ()))))))
      (fun y => ∃ vs, App l f s c r h vs ∧ y = Sum.inl (((), ((), ())), ((0, (0, ((), ()))), ((f, (s, ((), ()))), (vs, ()))))) := by
  intro k
  induction k with
  | zero =>
    intro i o hi ho hj
    rw [ref08_Apply.L0_eq, ref08_Apply.f0]
    exact .cond (fun c => by omega) fun c => .some ⟨o, ⟨by omega, fun j h => hj j (by omega)⟩, rfl⟩
  | succ k ih =>
    intro i o hi ho hj
    rw [ref08_Apply.L0_eq, ref08_Apply.f0]
    have hg := g
    unfold GV at hg
    have hm := GV.mul g (i := i) (by omega) (by omega)
    obtain ⟨c1, c2, c3⟩ := chk_zero h0
    have fin : ∀ (x : Int) (v : Option Int), V l r h (f + i * s) v → x = v.getD 1073741824 → ∀ j : Nat, j < i + 1 → ∃ v, V l r h (f + j * s) v ∧ (o ++ [x]).getD j 0 = v.getD 1073741824 := by
      intro x v hv hx j hj'
      by_cases e : j = i
      · subst e; rw [getD_append_eq ho.symm]; exact ⟨v, hv, hx⟩
      · rw [getD_append_lt (by omega)]; exact hj j (by omega)
    refine .cond (fun k1 => ?_) fun k1 => by omega
    rw [w64 (n := (i : Int) * s) (by omega), w64 (n := f + i * s) (by omega), w64 (n := (i : Int) + 1) (by omega), show ((i : Int) + 1) = ((i + 1 : Nat) : Int) by omega]
    refine .bind (ref_at_ok c1 c2 c3 f s c r h (f + i * s) (by omega) (by omega)) fun y hy => ?_
    obtain ⟨v, hv, rfl⟩ := hy
    cases v with
    | none =>
      simp only [res, Option.isSome_none, Bool.not_false, cond_true]
      refine .guard (by simp; omega) (.bind (ih (i + 1) _ (by omega) (by simp; omega) (fin _ _ hv rfl)) fun y hy => .some hy)
    | some z =>
      simp only [res, Option.isSome_some, Bool.not_true, cond_false, Option.getD_some]
      refine .guard (by simp; omega) (.bind (ih (i + 1) _ (by omega) (by simp; omega) (fin _ _ hv rfl)) fun y hy => .some hy)
theorem ref_apply_ok (l : List (Int × Int)) (f s c r h : Int) : Ok (ref08_Apply.F ((l, ((f, (s, (c, (r, (h, ()))))), ())), ())) (ApR l f s c r h) := by
  rw [ref08_Apply.F_eq, ref08_Apply.f, ref_valid_eq]
  simp only [Option.bind_some]
  by_cases g : GV f s c r h
  · rw [dt g]
    simp only [Bool.not_true, cond_false]
    rw [ref_check_eq]
    simp only [Option.bind_some]
    refine .bool (fun k => .some (.inr (.inl ⟨g, by simpa using k, rfl⟩))) fun k => ?_
    have h0 : chk l = 0 := by simpa using k
    have hg := g
    unfold GV at hg
    obtain ⟨n, hn⟩ : ∃ n : Nat, c = n := ⟨c.toNat, by omega⟩
    refine .bind (ref_apply_loop g h0 n 0 [] (by omega) rfl (by omega)) fun y hy => ?_
    obtain ⟨vs, hv, rfl⟩ := hy
    exact .some (.inr (.inr ⟨g, h0, vs, hv, rfl⟩))
  · rw [df g]
    exact .some (.inl ⟨g, rfl⟩)
end Go.Proofs.Ytknkiogjibpooab.V
