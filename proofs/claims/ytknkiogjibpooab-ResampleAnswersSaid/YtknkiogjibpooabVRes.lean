/- Regular series: what the program and the reference compute of readings and a grid. -/
import Derived.Test.YtknkiogjibpooabVg1
import Derived.Test.YtknkiogjibpooabVKeep
set_option linter.unusedVariables false
namespace Go.Proofs.Ytknkiogjibpooab.V
open Go.VI

/-- A grid is valid. -/
def GV (f s c r h : Int) : Prop := 0 ≤ f ∧ f ≤ 1099511627776 ∧ 1 ≤ s ∧ s ≤ 1099511627776 ∧ 0 ≤ c ∧ c ≤ 2000 ∧ (c = 0 ∨ f + (c - 1) * s ≤ 1099511627776) ∧ 1 ≤ r ∧ r ≤ 3 ∧ 0 ≤ h ∧ h ≤ 1099511627776
instance (f s c r h : Int) : Decidable (GV f s c r h) := by unfold GV; infer_instance
theorem grid_mul {s c : Int} (h : 1 ≤ s ∧ s ≤ 1099511627776) (k : 0 ≤ c ∧ c ≤ 2000) : 0 ≤ c * s ∧ c * s ≤ 2199023255552000 := by
  have := mul_bd k.1 k.2 (show 0 ≤ s by omega) h.2; omega
theorem GV.mul {f s c r h : Int} (g : GV f s c r h) {i : Int} (h0 : 0 ≤ i) (h1 : i < c) : 0 ≤ i * s ∧ f + i * s ≤ 1099511627776 := by
  obtain ⟨g1, g2, g3, g4, g5, g6, g7, _⟩ := g
  have h2 : i * s ≤ (c - 1) * s := Int.mul_le_mul_of_nonneg_right (by omega) (by omega)
  have := Int.mul_nonneg h0 (show 0 ≤ s by omega)
  rcases g7 with g7 | g7 <;> omega
theorem GridR.gv {f s c r h : Int} (g : GridR f s c r h) : GV f s c r h := by
  obtain ⟨g1, g2, g3, g4, g5, g6, g7⟩ := g
  refine ⟨g1, by omega, g3, by omega, g5, by omega, ?_, g7⟩
  by_cases e : c = 0
  · exact .inl e
  · have := mul_bd (a := c - 1) (b := s) (A := 18) (B := 9) (by omega) (by omega) (by omega) (by omega)
    right; omega
theorem GridR.part {f s c r h : Int} (g : GridR f s c r h) {k n : Int} (hk : 0 ≤ k ∧ k ≤ c) (hn : 0 ≤ n ∧ n ≤ c - k) : GV (f + k * s) s n r h := by
  obtain ⟨g1, g2, g3, g4, g5, g6, g7⟩ := g
  have := mul_bd (a := k) (b := s) (A := 19) (B := 9) (by omega) (by omega) (by omega) (by omega)
  refine ⟨by omega, by omega, g3, by omega, hn.1, by omega, ?_, g7⟩
  by_cases e : n = 0
  · exact .inl e
  · have := mul_bd (a := k + (n - 1)) (b := s) (A := 19) (B := 9) (by omega) (by omega) (by omega) (by omega)
    rw [Int.add_mul] at this
    right; omega
theorem valid_eq (f s c r h : Int) : resample_Valid.F (((f, (s, (c, (r, (h, ()))))), ()), ()) = some ((decide (GV f s c r h), ()), ()) := by
  rw [resample_Valid.F_eq, resample_Valid.f]
  refine Ok.eq (.bind (P := fun y => y = Sum.inl (((), (decide (¬ (0 ≤ f ∧ f ≤ 1099511627776 ∧ 1 ≤ s ∧ s ≤ 1099511627776 ∧ 0 ≤ c ∧ c ≤ 2000)), ())), ((f, (s, (c, (r, (h, ()))))), ()))) ?_ ?_)
  · rw [resample_Valid.L0_eq, resample_Valid.f0]
    repeat' first
      | refine Ok.some ?_
      | refine Ok.cond (fun _ => ?_) fun _ => ?_
    all_goals (simp only [Sum.inl.injEq, Prod.mk.injEq, and_true, true_and]; first | exact (decide_eq_true (by omega)).symm | exact (decide_eq_false (by omega)).symm | exact decide_eq_decide.2 (by omega))
  · rintro y rfl
    simp only [Sum.elim_inl]
    refine .bool (fun e => .some ?_) fun e => ?_
    · have e' := of_decide_eq_true e
      rw [decide_eq_false (fun g : GV f s c r h => by unfold GV at g; omega)]
    · have e' : 0 ≤ f ∧ f ≤ 1099511627776 ∧ 1 ≤ s ∧ s ≤ 1099511627776 ∧ 0 ≤ c ∧ c ≤ 2000 := by have := of_decide_eq_false e; omega
      refine .bind (P := fun y => y = Sum.inl (((), (decide (¬ (c = 0 ∨ f + (c - 1) * s ≤ 1099511627776)), ())), ((f, (s, (c, (r, (h, ()))))), ()))) ?_ ?_
      · rw [resample_Valid.L1_eq, resample_Valid.f1]
        refine .cond (fun k => .some ?_) fun k => .some ?_
        · have hm := grid_mul (s := s) (c := c - 1) (by omega) (by omega)
          simp (disch := omega) only [w64]
          simp only [Sum.inl.injEq, Prod.mk.injEq, and_true, true_and]; first | exact (decide_eq_true (by omega)).symm | exact (decide_eq_false (by omega)).symm | exact decide_eq_decide.2 (by omega)
        · simp only [Sum.inl.injEq, Prod.mk.injEq, and_true, true_and]; first | exact (decide_eq_true (by omega)).symm | exact (decide_eq_false (by omega)).symm | exact decide_eq_decide.2 (by omega)
      · rintro y rfl
        simp only [Sum.elim_inl]
        refine .bool (fun k => .some ?_) fun k => ?_
        · have k' := of_decide_eq_true k
          rw [decide_eq_false (fun g : GV f s c r h => by unfold GV at g; omega)]
        · have k' := of_decide_eq_false k
          repeat' first
            | refine Ok.some ?_
            | refine Ok.cond (fun _ => ?_) fun _ => ?_
          all_goals (simp only [Prod.mk.injEq, and_true]; first | exact (decide_eq_true (by unfold GV; omega)).symm | exact (decide_eq_false (by unfold GV; omega)).symm | exact decide_eq_decide.2 (by unfold GV; omega))

open Classical in
/-- The first error of readings. -/
noncomputable def chk (l : List (Int × Int)) : Int := if 2000 < l.length then 4 else if ¬ Rng l then 1 else if ¬ Asc l then 6 else 0
theorem chk_ok {l : List (Int × Int)} (hl : l.length ≤ 2000) (h : Rng l) (k : Asc l) : chk l = 0 := by
  unfold chk; rw [if_neg (by omega), if_neg (fun e => e h), if_neg (fun e => e k)]
theorem chk_zero {l : List (Int × Int)} (h : chk l = 0) : l.length ≤ 2000 ∧ Rng l ∧ Asc l := by
  unfold chk at h
  by_cases c1 : 2000 < l.length
  · rw [if_pos c1] at h; omega
  · rw [if_neg c1] at h
    by_cases c2 : Rng l
    · rw [if_neg (fun e => e c2)] at h
      by_cases c3 : Asc l
      · exact ⟨by omega, c2, c3⟩
      · rw [if_pos c3] at h; omega
    · rw [if_pos c2] at h; omega
def Rd (x : Int × Int) : Prop := 0 ≤ x.1 ∧ x.1 ≤ 1099511627776 ∧ -1000 ≤ x.2 ∧ x.2 ≤ 1000
instance (x : Int × Int) : Decidable (Rd x) := by unfold Rd; infer_instance
theorem Rng.of {l : List (Int × Int)} (h : ∀ j : Nat, j < l.length → Rd (l.getD j (0, 0))) : Rng l := fun x hx => by
  obtain ⟨i, hi, rfl⟩ := List.getElem_of_mem hx
  have := h i hi
  rw [List.getD_eq_getElem?_getD, List.getElem?_eq_getElem hi] at this
  exact this
theorem asc_of {l : List (Int × Int)} (h : ∀ j : Nat, j + 1 < l.length → (l.getD j (0, 0)).1 < (l.getD (j + 1) (0, 0)).1) : Asc l := by
  intro i j hij
  induction j with
  | zero => omega
  | succ j ih =>
    intro hj
    by_cases e : i = j
    · subst e; exact h i hj
    · exact Int.lt_trans (ih (by omega) (by omega)) (h j hj)
theorem check_rng (l : List (Int × Int)) (hl : l.length ≤ 2000) : ∀ (k i : Nat), i + k = l.length → (∀ j : Nat, j < i → Rd (l.getD j (0, 0))) →
    Ok (resample_check.L0 ((l, (l, ((l.length : Int), ((i : Int), ())))), ())) (fun r => (Rng l ∧ r = Sum.inl ((l, ()), ())) ∨ (¬ Rng l ∧ r = Sum.inr (Sum.inl ((1, ()), ())))) := by
  intro k
  induction k with
  | zero =>
    intro i hi hj
    rw [resample_check.L0_eq, resample_check.f0]
    exact .cond (fun c => by omega) fun c => .some (.inl ⟨Rng.of fun j h => hj j (by omega), rfl⟩)
  | succ k ih =>
    intro i hi hj
    rw [resample_check.L0_eq, resample_check.f0]
    refine .cond (fun c => .guard (by omega) (.guard (by omega) ?_)) fun c => by omega
    rw [Int.toNat_natCast]
    refine .bind (P := fun y => y = Sum.inl ((l, (l, ((l.length : Int), ((i : Int), (decide (¬ Rd (l.getD i (0, 0))), ()))))), ())) ?_ ?_
    · rw [resample_check.L1_eq, resample_check.f1]
      repeat' first
        | refine Ok.some ?_
        | refine Ok.cond (fun _ => ?_) fun _ => ?_
      all_goals (simp only [Sum.inl.injEq, Prod.mk.injEq, and_true, true_and]; first | exact (decide_eq_true (by unfold Rd; omega)).symm | exact (decide_eq_false (by unfold Rd; omega)).symm | exact decide_eq_decide.2 (by unfold Rd; omega))
    · rintro y rfl
      simp only [Sum.elim_inl]
      refine .bool (fun e => .some (.inr ⟨fun h => ?_, rfl⟩)) fun e => ?_
      · exact of_decide_eq_true e (h.get (i := i) (by omega))
      · simp (disch := omega) only [w64]
        refine .bind (ih (i + 1) (by omega) fun j h => ?_) fun y hy => .some hy
        by_cases e' : j = i
        · subst e'; have := of_decide_eq_false e; exact Decidable.not_not.1 this
        · exact hj j (by omega)
theorem check_asc (l : List (Int × Int)) (hl : l.length ≤ 2000) : ∀ (k i : Nat), i + 1 + k = l.length ∨ (l.length = 0 ∧ i = 0) → (∀ j : Nat, j < i → (l.getD j (0, 0)).1 < (l.getD (j + 1) (0, 0)).1) →
    Ok (resample_check.L2 ((l, ((l.length : Int) - 1, ((i : Int), ()))), ())) (fun r => (Asc l ∧ r = Sum.inl ((), ())) ∨ (¬ Asc l ∧ r = Sum.inr (Sum.inl ((6, ()), ())))) := by
  intro k
  induction k with
  | zero =>
    intro i hi hj
    rw [resample_check.L2_eq, resample_check.f2]
    refine .cond (fun c => by omega) fun c => .some (.inl ⟨asc_of fun j h => hj j (by omega), rfl⟩)
  | succ k ih =>
    intro i hi hj
    rw [resample_check.L2_eq, resample_check.f2]
    refine .cond (fun c => ?_) fun c => .some (.inl ⟨asc_of fun j h => by omega, rfl⟩)
    simp (disch := omega) only [w64]
    refine .guard (by omega) (.guard (by omega) (.guard (by omega) (.guard (by omega) ?_)))
    rw [Int.toNat_natCast, show ((i : Int) + 1).toNat = i + 1 by omega]
    refine .cond (fun e => .some (.inr ⟨fun h => ?_, rfl⟩)) fun e => ?_
    · have := h i (i + 1) (by omega) (by omega)
      omega
    · refine .bind (ih (i + 1) (by omega) fun j h => ?_) fun y hy => .some hy
      by_cases e' : j = i
      · subst e'; omega
      · exact hj j (by omega)
theorem check_eq (l : List (Int × Int)) : resample_check.F ((l, ()), ()) = some ((chk l, ()), ()) := by
  rw [resample_check.F_eq, resample_check.f]
  refine Ok.eq (.cond (fun c => .some ?_) fun c => ?_)
  · unfold chk; rw [if_pos (by omega)]
  · have hl : l.length ≤ 2000 := by omega
    refine .bind (check_rng l hl l.length 0 (by omega) (by omega)) fun y hy => ?_
    rcases hy with ⟨h1, rfl⟩ | ⟨h1, rfl⟩
    · simp only [Sum.elim_inl]
      simp (disch := omega) only [w64]
      refine .bind (check_asc l hl (l.length - 1) 0 (by omega) (by omega)) fun y hy => ?_
      rcases hy with ⟨h2, rfl⟩ | ⟨h2, rfl⟩
      · exact .some (by rw [chk_ok hl h1 h2])
      · exact .some (by unfold chk; rw [if_neg (by omega), if_neg (fun e => e h1), if_pos h2])
    · exact .some (by unfold chk; rw [if_neg (by omega), if_pos h1])

/-- The reading at or before a time, and the one at or behind it. -/
def Nb (l : List (Int × Int)) (t a b : Int) : Prop := 0 ≤ b ∧ b ≤ (l.length : Int) ∧ (∀ j : Nat, (j : Int) < b → (l.getD j (0, 0)).1 < t) ∧ (∀ j : Nat, b ≤ (j : Int) → j < l.length → t ≤ (l.getD j (0, 0)).1) ∧
  a = (if b < (l.length : Int) ∧ (l.getD b.toNat (0, 0)).1 = t then b else b - 1)
theorem Nb.one {l : List (Int × Int)} {t a b a' b' : Int} (h : Nb l t a b) (h' : Nb l t a' b') : a = a' ∧ b = b' := by
  obtain ⟨h1, h2, h3, h4, h5⟩ := h
  obtain ⟨k1, k2, k3, k4, k5⟩ := h'
  have e : b = b' := by
    rcases Int.lt_trichotomy b b' with h | h | h
    · have := h4 b.toNat (by omega) (by omega); have := k3 b.toNat (by omega); omega
    · exact h
    · have := k4 b'.toNat (by omega) (by omega); have := h3 b'.toNat (by omega); omega
  subst e
  exact ⟨h5.trans k5.symm, rfl⟩
theorem cmp_eq (x y : Int) : cmp_Compare.F ((x, (y, ())), ()) = some (((if x < y then -1 else if x > y then 1 else 0), ()), ()) := by
  rw [cmp_Compare.F_eq, cmp_Compare.f]
  have hn : ∀ z : Int, cmp_isNaN.F ((z, ()), ()) = some ((false, ()), ()) := fun z => by
    show cmp_isNaN z = _
    unfold cmp_isNaN cmp_isNaN.f; simp
  rw [hn, hn]; simp only [Option.bind_some, cond_false]
  refine Ok.eq (.cond (fun c => .some ?_) fun c => .cond (fun d => .some ?_) fun d => .some ?_)
  · rw [if_pos c]
  · rw [if_neg c, if_pos d]
  · rw [if_neg c, if_neg d]
theorem nb1_eq (a b t : Int) : resample_neighbours_1.F (((a, (b, ())), (t, ())), ()) = some (((if a < t then -1 else if a > t then 1 else 0), ()), ()) := by
  rw [resample_neighbours_1.F_eq, resample_neighbours_1.f]
  rw [cmp_eq]; rfl
theorem half_shift {i j : Int} (h0 : 0 ≤ i) (h1 : i < j) (h2 : j ≤ 2000) : Go.IntKind.wrap .i64 (Int.fdiv (Go.IntKind.wrap .u64 (Go.IntKind.wrap .i64 (i + j))) ((2 : Int) ^ (Min.min (Int.toNat 1) 64))) = (i + j) / 2 := by
  rw [w64 (n := i + j) (by omega)]
  have : Go.IntKind.wrap .u64 (i + j) = i + j := by
    simp only [Go.IntKind.wrap, Go.IntKind.signed, Go.IntKind.bits]; simp; omega
  rw [this, show ((2 : Int) ^ (Min.min (Int.toNat 1) 64)) = 2 from by decide, Int.fdiv_eq_ediv_of_nonneg _ (by omega), w64 (by omega)]
theorem search_loop (l : List (Int × Int)) (hl : l.length ≤ 2000) (ha : Asc l) (t n : Int) : ∀ (d : Nat) (i j : Int), j - i ≤ (d : Int) → 0 ≤ i → i ≤ j → j ≤ (l.length : Int) → (∀ k : Nat, (k : Int) < i → (l.getD k (0, 0)).1 < t) →
    (∀ k : Nat, j ≤ (k : Int) → k < l.length → t ≤ (l.getD k (0, 0)).1) →
    Ok (slices_BinarySearchFunc.L0 ((l, (t, ((), (n, (i, (j, ())))))), ())) (fun r => ∃ b, r = Sum.inl ((l, (t, ((), (n, (b, ()))))), ()) ∧ 0 ≤ b ∧ b ≤ (l.length : Int) ∧ (∀ k : Nat, (k : Int) < b → (l.getD k (0, 0)).1 < t) ∧ (∀ k : Nat, b ≤ (k : Int) → k < l.length → t ≤ (l.getD k (0, 0)).1)) := by
  intro d
  induction d with
  | zero =>
    intro i j hd h0 hij hj h1 h2
    rw [slices_BinarySearchFunc.L0_eq, slices_BinarySearchFunc.f0]
    exact .cond (fun c => by omega) fun c => .some ⟨i, rfl, h0, by omega, h1, fun k hk => h2 k (by omega)⟩
  | succ d ih =>
    intro i j hd h0 hij hj h1 h2
    rw [slices_BinarySearchFunc.L0_eq, slices_BinarySearchFunc.f0]
    refine .cond (fun c => ?_) fun c => .some ⟨i, rfl, h0, by omega, h1, fun k hk => h2 k (by omega)⟩
    rw [half_shift h0 c (by omega)]
    refine .guard (by omega) (.guard (by omega) ?_)
    rw [nb1_eq]; simp only [Option.bind_some]
    have hm : ((i + j) / 2).toNat < l.length := by omega
    refine .cond (fun e => ?_) fun e => ?_
    · have e' : (l.getD ((i + j) / 2).toNat (0, 0)).1 < t := by
        by_cases h : (l.getD ((i + j) / 2).toNat (0, 0)).1 < t
        · exact h
        · rw [if_neg h] at e; split at e <;> omega
      rw [w64 (n := (i + j) / 2 + 1) (by omega)]
      refine .bind (ih ((i + j) / 2 + 1) j (by omega) (by omega) (by omega) hj (fun k hk => ?_) h2) fun y hy => .some hy
      by_cases hk2 : k = ((i + j) / 2).toNat
      · subst hk2; exact e'
      · exact Int.lt_trans (ha k ((i + j) / 2).toNat (by omega) hm) e'
    · have e' : t ≤ (l.getD ((i + j) / 2).toNat (0, 0)).1 := by
        by_cases h : (l.getD ((i + j) / 2).toNat (0, 0)).1 < t
        · rw [if_pos h] at e; omega
        · omega
      refine .bind (ih i ((i + j) / 2) (by omega) (by omega) (by omega) (by omega) h1 (fun k hk hk2 => ?_)) fun y hy => .some hy
      by_cases hk3 : k = ((i + j) / 2).toNat
      · subst hk3; exact e'
      · exact Int.le_of_lt (Int.lt_of_le_of_lt e' (ha ((i + j) / 2).toNat k (by omega) hk2))
theorem neighbours_ok (l : List (Int × Int)) (hl : l.length ≤ 2000) (ha : Asc l) (t : Int) : Ok (resample_neighbours.F ((l, (t, ())), ())) (fun r => ∃ a b, r = ((a, (b, ())), ()) ∧ Nb l t a b) := by
  rw [resample_neighbours.F_eq, resample_neighbours.f]
  have hs : Ok (slices_BinarySearchFunc.F ((l, (t, ((), ()))), ())) (fun r => ∃ b, r = ((b, (decide (b < (l.length : Int) ∧ (l.getD b.toNat (0, 0)).1 = t), ())), ()) ∧ 0 ≤ b ∧ b ≤ (l.length : Int) ∧ (∀ k : Nat, (k : Int) < b → (l.getD k (0, 0)).1 < t) ∧ (∀ k : Nat, b ≤ (k : Int) → k < l.length → t ≤ (l.getD k (0, 0)).1)) := by
    rw [slices_BinarySearchFunc.F_eq, slices_BinarySearchFunc.f]
    refine .bind (search_loop l hl ha t l.length l.length 0 l.length (by omega) (by omega) (by omega) (by omega) (by omega) (by omega)) fun y hy => ?_
    obtain ⟨b, rfl, h0, h1, h2, h3⟩ := hy
    simp only [Sum.elim_inl]
    refine .cond (fun c => .guard h0 (.guard c ?_)) fun c => .some ⟨b, ?_, h0, h1, h2, h3⟩
    · rw [nb1_eq]; simp only [Option.bind_some]
      refine .some ⟨b, ?_, h0, h1, h2, h3⟩
      have := h3 b.toNat (by omega) (by omega)
      by_cases e : (l.getD b.toNat (0, 0)).1 = t
      · rw [if_neg (by omega), if_neg (by omega), decide_eq_true ⟨c, e⟩]; rfl
      · rw [if_neg (by omega), if_pos (by omega), decide_eq_false (fun h => e h.2)]; rfl
    · rw [decide_eq_false (fun h => c h.1)]
  refine .bind hs fun y hy => ?_
  obtain ⟨b, rfl, h0, h1, h2, h3⟩ := hy
  refine .cond (fun c => .some ⟨b, b, rfl, h0, h1, h2, h3, by rw [if_pos c]⟩) fun c => .some ⟨b - 1, b, ?_, h0, h1, h2, h3, by rw [if_neg c]⟩
  simp (disch := omega) only [w64]

def halfUp (a b : Int) : Int := (2 * a + b) / (2 * b)
theorem half_eq {a b : Int} (ha : -4000000000000000000 ≤ a ∧ a ≤ 4000000000000000000) (hb : 1 ≤ b ∧ b ≤ 1000000000000000000) : resample_half.F ((a, (b, ())), ()) = some ((halfUp a b, ()), ()) := by
  rw [resample_half.F_eq, resample_half.f]
  simp (disch := omega) only [w64]
  have hz : (!decide (2 * b = 0)) = true := by simp; omega
  rw [hz, cond_true, cond_true]
  have hf := floor_of_tdiv (n := 2 * a + b) (d := 2 * b) (by omega)
  have hq := tdiv_abs (n := 2 * a + b) (d := 2 * b) (by omega)
  refine Ok.eq (.cond (fun c => .some ?_) fun c => .some ?_)
  · rw [if_pos c] at hf
    simp (disch := omega) only [w64]
    rw [hf]; rfl
  · rw [if_neg c] at hf
    simp (disch := omega) only [w64]
    rw [hf]; rfl
end Go.Proofs.Ytknkiogjibpooab.V
