/- Regular series: values at times, and whole series, of the program and of the reference. -/
import Derived.Test.YtknkiogjibpooabVg1
import Derived.Test.YtknkiogjibpooabVRes
set_option linter.unusedVariables false
set_option linter.unusedSimpArgs false
namespace Go.Proofs.Ytknkiogjibpooab.V
open Go.VI

/-- The value at a time, from the neighbours. -/
def val (l : List (Int × Int)) (r h t a b : Int) : Option Int :=
  if r = 1 then (if 0 ≤ a ∧ t - (l.getD a.toNat (0, 0)).1 ≤ h then some (l.getD a.toNat (0, 0)).2 else none)
  else if r = 2 then
    (if (0 ≤ a ∧ t - (l.getD a.toNat (0, 0)).1 ≤ h) ∧ (¬ (b < (l.length : Int) ∧ (l.getD b.toNat (0, 0)).1 - t ≤ h) ∨ t - (l.getD a.toNat (0, 0)).1 ≤ (l.getD b.toNat (0, 0)).1 - t) then some (l.getD a.toNat (0, 0)).2
    else if b < (l.length : Int) ∧ (l.getD b.toNat (0, 0)).1 - t ≤ h then some (l.getD b.toNat (0, 0)).2 else none)
  else if (0 ≤ a ∧ t - (l.getD a.toNat (0, 0)).1 ≤ h) ∧ (b < (l.length : Int) ∧ (l.getD b.toNat (0, 0)).1 - t ≤ h) then
    (if a = b then some (l.getD a.toNat (0, 0)).2
    else some (halfUp ((l.getD a.toNat (0, 0)).2 * ((l.getD b.toNat (0, 0)).1 - t) + (l.getD b.toNat (0, 0)).2 * (t - (l.getD a.toNat (0, 0)).1)) ((l.getD b.toNat (0, 0)).1 - (l.getD a.toNat (0, 0)).1)))
  else none
/-- The value at a time. -/
def V (l : List (Int × Int)) (r h t : Int) (v : Option Int) : Prop := ∃ a b, Nb l t a b ∧ v = val l r h t a b
theorem V.one {l : List (Int × Int)} {r h t : Int} {v v' : Option Int} (k : V l r h t v) (k' : V l r h t v') : v = v' := by
  obtain ⟨a, b, k1, rfl⟩ := k
  obtain ⟨a', b', k1', rfl⟩ := k'
  obtain ⟨rfl, rfl⟩ := k1.one k1'; rfl
def res (v : Option Int) : (Int × Bool × Unit) × Unit := ((v.getD 0, (v.isSome, ())), ())
theorem Nb.bd {l : List (Int × Int)} {t a b : Int} (h : Nb l t a b) : -1 ≤ a ∧ a < (l.length : Int) ∧ 0 ≤ b ∧ b ≤ (l.length : Int) ∧ (a = b ∨ a = b - 1) ∧ (a = b → b < (l.length : Int)) ∧
    (0 ≤ a → (l.getD a.toNat (0, 0)).1 ≤ t) ∧ (b < (l.length : Int) → t ≤ (l.getD b.toNat (0, 0)).1) ∧ (0 ≤ a → a ≠ b → (l.getD a.toNat (0, 0)).1 < t) := by
  obtain ⟨h1, h2, h3, h4, h5⟩ := h
  by_cases c : b < (l.length : Int) ∧ (l.getD b.toNat (0, 0)).1 = t
  · rw [if_pos c] at h5; subst h5
    exact ⟨by omega, c.1, by omega, by omega, .inl rfl, fun _ => c.1, fun _ => by omega, fun _ => by omega, fun _ h => absurd rfl h⟩
  · rw [if_neg c] at h5; subst h5
    have h6 : 0 ≤ b - 1 → (l.getD (b - 1).toNat (0, 0)).1 < t := fun h => h3 _ (by omega)
    exact ⟨by omega, by omega, by omega, by omega, .inr rfl, fun h => by omega, fun h => by have := h6 h; omega, fun h => h4 _ (by omega) (by omega), fun h _ => h6 h⟩
/-- Is the reading before near enough? -/
def Bf (l : List (Int × Int)) (h t a : Int) : Bool := decide (0 ≤ a ∧ t - (l.getD a.toNat (0, 0)).1 ≤ h)
/-- Is the reading behind near enough? -/
def Bh (l : List (Int × Int)) (h t b : Int) : Bool := decide (b < (l.length : Int) ∧ (l.getD b.toNat (0, 0)).1 - t ≤ h)
theorem bf_t {l : List (Int × Int)} {h t a : Int} (e : Bf l h t a = true) : 0 ≤ a ∧ t - (l.getD a.toNat (0, 0)).1 ≤ h := of_decide_eq_true e
theorem bh_t {l : List (Int × Int)} {h t b : Int} (e : Bh l h t b = true) : b < (l.length : Int) ∧ (l.getD b.toNat (0, 0)).1 - t ≤ h := of_decide_eq_true e
theorem val1 (l : List (Int × Int)) (h t a b : Int) : val l 1 h t a b = bif Bf l h t a then some (l.getD a.toNat (0, 0)).2 else none := by
  unfold val Bf; rw [if_pos rfl, Bool.cond_decide]
theorem val2 (l : List (Int × Int)) (h t a b : Int) : val l 2 h t a b = bif Bf l h t a && (!Bh l h t b || decide (t - (l.getD a.toNat (0, 0)).1 ≤ (l.getD b.toNat (0, 0)).1 - t)) then some (l.getD a.toNat (0, 0)).2 else bif Bh l h t b then some (l.getD b.toNat (0, 0)).2 else none := by
  unfold val Bf Bh; rw [if_neg (by decide), if_pos rfl, ← decide_not, ← Bool.decide_or, ← Bool.decide_and, Bool.cond_decide, Bool.cond_decide]
theorem val3 (l : List (Int × Int)) (h t a b : Int) : val l 3 h t a b = bif Bf l h t a && Bh l h t b then (bif a == b then some (l.getD a.toNat (0, 0)).2
    else some (halfUp ((l.getD a.toNat (0, 0)).2 * ((l.getD b.toNat (0, 0)).1 - t) + (l.getD b.toNat (0, 0)).2 * (t - (l.getD a.toNat (0, 0)).1)) ((l.getD b.toNat (0, 0)).1 - (l.getD a.toNat (0, 0)).1))) else none := by
  unfold val Bf Bh; rw [if_neg (by decide), if_neg (by decide), ← Bool.decide_and, Bool.cond_decide]
  have : (a == b) = decide (a = b) := by by_cases e : a = b <;> simp [e]
  rw [this, Bool.cond_decide]
/-- What is known of neighbours within their lists. -/
structure Nbs (l : List (Int × Int)) (t a b : Int) : Prop where
  ht : 0 ≤ t ∧ t ≤ 1099511627776
  ha : -1 ≤ a ∧ a < (l.length : Int)
  hb : 0 ≤ b ∧ b ≤ (l.length : Int)
  A : 0 ≤ a → 0 ≤ (l.getD a.toNat (0, 0)).1 ∧ (l.getD a.toNat (0, 0)).1 ≤ t ∧ -1000 ≤ (l.getD a.toNat (0, 0)).2 ∧ (l.getD a.toNat (0, 0)).2 ≤ 1000
  B : b < (l.length : Int) → t ≤ (l.getD b.toNat (0, 0)).1 ∧ (l.getD b.toNat (0, 0)).1 ≤ 1099511627776 ∧ -1000 ≤ (l.getD b.toNat (0, 0)).2 ∧ (l.getD b.toNat (0, 0)).2 ≤ 1000
  ne : 0 ≤ a → b < (l.length : Int) → a ≠ b → (l.getD a.toNat (0, 0)).1 < t
theorem nbs_of {l : List (Int × Int)} {t a b : Int} (h : Nb l t a b) (hr : Rng l) (t1 : 0 ≤ t ∧ t ≤ 1099511627776) : Nbs l t a b := by
  obtain ⟨b1, b2, b3, b4, b5, b6, b7, b8, b9⟩ := h.bd
  refine ⟨t1, ⟨b1, b2⟩, ⟨b3, b4⟩, fun h => ?_, fun h => ?_, fun h _ => b9 h⟩
  · have := hr.get (i := a.toNat) (by omega); have := b7 h; omega
  · have := hr.get (i := b.toNat) (by omega); have := b8 h; omega
theorem lin_eq {l : List (Int × Int)} {t a b : Int} (N : Nbs l t a b) (h0 : 0 ≤ a) (h1 : b < (l.length : Int)) :
    Go.IntKind.wrap .i64 (Go.IntKind.wrap .i64 ((l.getD a.toNat (0, 0)).2 * Go.IntKind.wrap .i64 ((l.getD b.toNat (0, 0)).1 - t)) + Go.IntKind.wrap .i64 ((l.getD b.toNat (0, 0)).2 * Go.IntKind.wrap .i64 (t - (l.getD a.toNat (0, 0)).1))) =
      (l.getD a.toNat (0, 0)).2 * ((l.getD b.toNat (0, 0)).1 - t) + (l.getD b.toNat (0, 0)).2 * (t - (l.getD a.toNat (0, 0)).1) ∧
    (-4000000000000000000 ≤ (l.getD a.toNat (0, 0)).2 * ((l.getD b.toNat (0, 0)).1 - t) + (l.getD b.toNat (0, 0)).2 * (t - (l.getD a.toNat (0, 0)).1) ∧ (l.getD a.toNat (0, 0)).2 * ((l.getD b.toNat (0, 0)).1 - t) + (l.getD b.toNat (0, 0)).2 * (t - (l.getD a.toNat (0, 0)).1) ≤ 4000000000000000000) := by
  have hA := N.A h0; have hB := N.B h1; have ht := N.ht
  have m1 := mul_abs (a := (l.getD a.toNat (0, 0)).2) (b := (l.getD b.toNat (0, 0)).1 - t) (A := 1000) (B := 1099511627776) (by omega) (by omega) (by omega) (by omega) (by omega)
  have m2 := mul_abs (a := (l.getD b.toNat (0, 0)).2) (b := t - (l.getD a.toNat (0, 0)).1) (A := 1000) (B := 1099511627776) (by omega) (by omega) (by omega) (by omega) (by omega)
  rw [w64 (n := (l.getD b.toNat (0, 0)).1 - t) (by omega), w64 (n := t - (l.getD a.toNat (0, 0)).1) (by omega), w64 (n := _ * _) (by omega), w64 (n := _ * _) (by omega), w64 (by omega)]
  exact ⟨rfl, by omega⟩
theorem value_ok {l : List (Int × Int)} (hl : l.length ≤ 2000) (hr : Rng l) (ha : Asc l) (f s c r h t : Int) (r1 : 1 ≤ r ∧ r ≤ 3) (t1 : 0 ≤ t ∧ t ≤ 1099511627776) :
    Ok (resample_value.F ((l, ((f, (s, (c, (r, (h, ()))))), (t, ()))), ())) (fun y => ∃ v, V l r h t v ∧ y = res v) := by
  rw [resample_value.F_eq, resample_value.f]
  refine .bind (neighbours_ok l hl ha t) fun y hy => ?_
  obtain ⟨a, b, rfl, hnb⟩ := hy
  have N := nbs_of hnb hr t1
  suffices Ok _ (· = res (val l r h t a b)) by exact this.mono fun y hy => ⟨_, ⟨a, b, hnb, rfl⟩, hy⟩
  have hN := N.ha; have hN' := N.hb
  dsimp only
  refine .bind (P := fun y => y = Sum.inl ((l, (t, ((), (a, (b, (Bf l h t a, ())))))), ((f, (s, (c, (r, (h, ()))))), ()))) ?_ ?_
  · rw [resample_value.L0_eq, resample_value.f0]
    refine .cond (fun k => .guard k (.guard (by omega) (.some ?_))) fun k => .some ?_
    · have := N.A k
      rw [w64 (by omega)]; unfold Bf
      simp only [Sum.inl.injEq, Prod.mk.injEq, and_true, true_and]; exact decide_eq_decide.2 (by omega)
    · unfold Bf; rw [df (by omega)]
  rintro y rfl
  simp only [Sum.elim_inl]
  refine .bind (P := fun y => y = Sum.inl ((l, (t, ((), (a, (b, (Bf l h t a, (Bh l h t b, ()))))))), ((f, (s, (c, (r, (h, ()))))), ()))) ?_ ?_
  · rw [resample_value.L1_eq, resample_value.f1]
    refine .cond (fun k => .guard (by omega) (.guard (by omega) (.some ?_))) fun k => .some ?_
    · have := N.B k
      rw [w64 (by omega)]; unfold Bh
      simp only [Sum.inl.injEq, Prod.mk.injEq, and_true, true_and]; exact decide_eq_decide.2 (by omega)
    · unfold Bh; rw [df (by omega)]
  rintro y rfl
  simp only [Sum.elim_inl]
  refine .bool (fun e => ?_) fun e1 => .bool (fun e => ?_) fun e2 => .bool (fun e => ?_) fun e3 => ?_
  · obtain rfl : r = 1 := by simpa using e
    rw [val1]
    refine .bool (fun k => ?_) fun k => .some ?_
    · have := bf_t k
      exact .guard (by omega) (.guard (by omega) (.some (by rw [k]; rfl)))
    · rw [k]; rfl
  · obtain rfl : r = 2 := by simpa using e
    rw [val2]
    refine .bind (P := fun y => y = Sum.inl ((l, (a, (b, (Bh l h t b, ((Bf l h t a && (!Bh l h t b || decide (t - (l.getD a.toNat (0, 0)).1 ≤ (l.getD b.toNat (0, 0)).1 - t))), ()))))), ())) ?_ ?_
    · rw [resample_value.L2_eq, resample_value.f2]
      refine .bool (fun k => .bool (fun k2 => .some ?_) fun k2 => ?_) fun k => .some (by rw [k]; rfl)
      · rw [k, k2]; rfl
      · have k2' : Bh l h t b = true := by simpa using k2
        have := bf_t k; have := bh_t k2'; have := N.A (by omega); have := N.B (by omega)
        refine .guard (by omega) (.guard (by omega) (.guard (by omega) (.guard (by omega) (.some ?_))))
        rw [w64 (by omega), w64 (by omega), k, k2']; rfl
    rintro y rfl
    simp only [Sum.elim_inl]
    refine .bool (fun k => ?_) fun k => .bool (fun k2 => ?_) fun k2 => .some ?_
    · have k' : Bf l h t a = true := by simp at k; exact k.1
      have := bf_t k'
      exact .guard (by omega) (.guard (by omega) (.some (by rw [k]; rfl)))
    · have := bh_t k2
      exact .guard (by omega) (.guard (by omega) (.some (by rw [k, k2]; rfl)))
    · rw [k, k2]; rfl
  · obtain rfl : r = 3 := by simpa using e
    rw [val3]
    refine .bind (P := fun y => y = Sum.inl ((l, (t, (a, (b, ((!(Bf l h t a && Bh l h t b)), ()))))), ())) ?_ ?_
    · rw [resample_value.L3_eq, resample_value.f3]
      refine .bool (fun k => .some ?_) fun k => .some ?_
      · simp at k; rw [k]; rfl
      · simp at k; rw [k]; rfl
    rintro y rfl
    simp only [Sum.elim_inl]
    refine .bool (fun k => .some (by simp at k; rcases k with h1 | h1 <;> rw [h1] <;> cases Bf l h t a <;> rfl)) fun k => ?_
    have k' : Bf l h t a = true ∧ Bh l h t b = true := by simpa using k
    have q1 := bf_t k'.1; have q2 := bh_t k'.2
    refine .guard (by omega) (.guard (by omega) (.guard (by omega) (.guard (by omega) (.bool (fun e => .some (by rw [k'.1, k'.2, e]; rfl)) fun e => ?_))))
    have hne : a ≠ b := by simpa using e
    have := N.ne (by omega) (by omega) hne; have := N.A (by omega); have := N.B (by omega); have := N.ht
    have q := lin_eq N q1.1 q2.1
    rw [q.1, w64 (by omega), half_eq q.2 (by omega), k'.1, k'.2, e]
    exact .some rfl
  · exfalso; simp at e1 e2 e3; omega
end Go.Proofs.Ytknkiogjibpooab.V
