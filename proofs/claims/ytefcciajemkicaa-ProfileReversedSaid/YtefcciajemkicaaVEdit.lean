/- The edit distance answers with its recursion. -/
import Derived.Test.YtefcciajemkicaaVg2
import Derived.Test.YtefcciajemkicaaVBase
import Derived.Test.YtefcciajemkicaaVEuc
set_option linter.unusedVariables false
set_option linter.unusedSimpArgs false
namespace Go.Proofs.Ytefcciajemkicaa.V
open Go.VI
def ab (a b : Int) : Int := mx (a - b) (b - a)
/-- The least cost of the first samples. -/
noncomputable def Ed (x y : List Int) (g : Int) : Nat → Nat → Int
  | 0 => fun j => Nat.rec 0 (fun j p => p + ab (y.getD j 0) g) j
  | i + 1 => fun j => Nat.rec (Ed x y g i 0 + ab (x.getD i 0) g) (fun j p => mn (mn (Ed x y g i j + ab (x.getD i 0) (y.getD j 0)) (Ed x y g i (j + 1) + ab (x.getD i 0) g)) (p + ab (y.getD j 0) g)) j
theorem Ed_00 (x y : List Int) (g : Int) : Ed x y g 0 0 = 0 := rfl
theorem Ed_0s (x y : List Int) (g : Int) (j : Nat) : Ed x y g 0 (j + 1) = Ed x y g 0 j + ab (y.getD j 0) g := rfl
theorem Ed_s0 (x y : List Int) (g : Int) (i : Nat) : Ed x y g (i + 1) 0 = Ed x y g i 0 + ab (x.getD i 0) g := rfl
theorem Ed_ss (x y : List Int) (g : Int) (i j : Nat) : Ed x y g (i + 1) (j + 1) = mn (mn (Ed x y g i j + ab (x.getD i 0) (y.getD j 0)) (Ed x y g i (j + 1) + ab (x.getD i 0) g)) (Ed x y g (i + 1) j + ab (y.getD j 0) g) := rfl
theorem ab_bd {a b : Int} (ha : -1000 ≤ a ∧ a ≤ 1000) (hb : -1000 ≤ b ∧ b ≤ 1000) : 0 ≤ ab a b ∧ ab a b ≤ 2000 := by
  have := mx_ge (a - b) (b - a)
  unfold ab; omega
theorem Ed_bd {x y : List Int} {g : Int} (hx : Wn x) (hy : Wn y) (hg : -1000 ≤ g ∧ g ≤ 1000) : ∀ (n i j : Nat), i + j < n → i ≤ x.length → j ≤ y.length → 0 ≤ Ed x y g i j ∧ Ed x y g i j ≤ 2000 * ((i : Int) + j) := by
  intro n
  induction n with
  | zero => intro i j h; omega
  | succ n ih =>
    intro i j h hi hj
    match i, j with
    | 0, 0 => rw [Ed_00]; omega
    | 0, j + 1 =>
      have := ih 0 j (by omega) (by omega) (by omega)
      have := ab_bd (hy.get (i := j) (by omega)) hg
      rw [Ed_0s]; omega
    | i + 1, 0 =>
      have := ih i 0 (by omega) (by omega) (by omega)
      have := ab_bd (hx.get (i := i) (by omega)) hg
      rw [Ed_s0]; omega
    | i + 1, j + 1 =>
      have := ih i j (by omega) (by omega) (by omega)
      have := ih i (j + 1) (by omega) (by omega) (by omega)
      have := ih (i + 1) j (by omega) (by omega) (by omega)
      have := ab_bd (hx.get (i := i) (by omega)) (hy.get (i := j) (by omega))
      have := ab_bd (hx.get (i := i) (by omega)) hg
      have := ab_bd (hy.get (i := j) (by omega)) hg
      have := mn_le (Ed x y g i j + ab (x.getD i 0) (y.getD j 0)) (Ed x y g i (j + 1) + ab (x.getD i 0) g)
      have := mn_le (mn (Ed x y g i j + ab (x.getD i 0) (y.getD j 0)) (Ed x y g i (j + 1) + ab (x.getD i 0) g)) (Ed x y g (i + 1) j + ab (y.getD j 0) g)
      rw [Ed_ss]; omega
theorem apart_ok {a b : Int} (ha : -1000 ≤ a ∧ a ≤ 1000) (hb : -1000 ≤ b ∧ b ≤ 1000) : edit_apart.F ((a, b, ()), ()) = some ((ab a b, ()), ()) := by
  rw [edit_apart.F_eq, edit_apart.f, w64 (by omega), w64 (by omega)]; rfl
section
variable {x y : List Int} {g : Int} (hx : Wn x) (hy : Wn y) (hg : -1000 ≤ g ∧ g ≤ 1000)
theorem last0 (s i j : Int) : edit_last.L0 ((s, x, y, g, i, j, ()), ()) = some (Sum.inl ((s, x, y, g, i, j, (s == 1 && (decide (i > 0) && decide (j > 0))), ()), ())) := by
  rw [edit_last.L0_eq, edit_last.f0]; cases (s == 1) <;> cases decide (i > 0) <;> rfl
theorem last1 (s i j : Int) : edit_last.L1 ((s, x, y, g, i, j, ()), ()) = some (Sum.inl ((s, x, y, g, i, j, (s == 2 && decide (i > 0)), ()), ())) := by
  rw [edit_last.L1_eq, edit_last.f1]; cases (s == 2) <;> rfl
theorem last2 (s i j : Int) : edit_last.L2 ((s, y, g, i, j, ()), ()) = some (Sum.inl ((y, g, i, j, (s == 3 && decide (j > 0)), ()), ())) := by
  rw [edit_last.L2_eq, edit_last.f2]; cases (s == 3) <;> rfl
include hx hy in
theorem last_both {i j : Nat} (hi : i < x.length) (hj : j < y.length) : edit_last.F ((1, x, y, g, ((i + 1 : Nat) : Int), ((j + 1 : Nat) : Int), ()), ()) = some ((ab (x.getD i 0) (y.getD j 0), (i : Int), (j : Int), true, ()), ()) := by
  have := hx.2.1
  have := hy.2.1
  rw [edit_last.F_eq, edit_last.f, last0]
  simp only [Option.bind_some, Sum.elim_inl]
  rw [bt rfl, dt (by omega : ((i + 1 : Nat) : Int) > 0), dt (by omega : ((j + 1 : Nat) : Int) > 0), w64 (n := ((i + 1 : Nat) : Int) - 1) (by omega), w64 (n := ((j + 1 : Nat) : Int) - 1) (by omega)]
  rw [show ((i + 1 : Nat) : Int) - 1 = (i : Int) by omega, show ((j + 1 : Nat) : Int) - 1 = (j : Int) by omega, dt (by omega), dt (by omega), dt (by omega), dt (by omega), Int.toNat_natCast, Int.toNat_natCast, apart_ok (hx.get hi) (hy.get hj)]
  rfl
theorem last_no {s i j : Int} (h1 : ¬ (s = 1 ∧ i > 0 ∧ j > 0)) (h2 : ¬ (s = 2 ∧ i > 0)) (h3 : ¬ (s = 3 ∧ j > 0)) : edit_last.F ((s, x, y, g, i, j, ()), ()) = some ((0, 0, 0, false, ()), ()) := by
  have e1 : (s == 1 && (decide (i > 0) && decide (j > 0))) = false := by
    cases hc : (s == 1 && (decide (i > 0) && decide (j > 0))) with
    | false => rfl
    | true => simp only [Bool.and_eq_true, beq_iff_eq, decide_eq_true_eq] at hc; exact absurd hc h1
  have e2 : (s == 2 && decide (i > 0)) = false := by
    cases hc : (s == 2 && decide (i > 0)) with
    | false => rfl
    | true => simp only [Bool.and_eq_true, beq_iff_eq, decide_eq_true_eq] at hc; exact absurd hc h2
  have e3 : (s == 3 && decide (j > 0)) = false := by
    cases hc : (s == 3 && decide (j > 0)) with
    | false => rfl
    | true => simp only [Bool.and_eq_true, beq_iff_eq, decide_eq_true_eq] at hc; exact absurd hc h3
  rw [edit_last.F_eq, edit_last.f, last0, e1]
  simp only [Option.bind_some, Sum.elim_inl, cond_false]
  rw [last1, e2]
  simp only [Option.bind_some, Sum.elim_inl, cond_false]
  rw [last2, e3]
  rfl
include hx hg in
theorem last_left {i : Nat} {j : Int} (hi : i < x.length) : edit_last.F ((2, x, y, g, ((i + 1 : Nat) : Int), j, ()), ()) = some ((ab (x.getD i 0) g, (i : Int), j, true, ()), ()) := by
  have := hx.2.1
  rw [edit_last.F_eq, edit_last.f, last0, bf (by omega : (2 : Int) ≠ 1)]
  simp only [Option.bind_some, Sum.elim_inl, cond_false, Bool.false_and]
  rw [last1, bt rfl, dt (by omega : ((i + 1 : Nat) : Int) > 0)]
  simp only [Option.bind_some, Sum.elim_inl, cond_true, Bool.and_self]
  rw [w64 (n := ((i + 1 : Nat) : Int) - 1) (by omega), show ((i + 1 : Nat) : Int) - 1 = (i : Int) by omega, dt (by omega), dt (by omega), Int.toNat_natCast, apart_ok (hx.get hi) hg]
  rfl
include hy hg in
theorem last_right {i : Int} {j : Nat} (hj : j < y.length) : edit_last.F ((3, x, y, g, i, ((j + 1 : Nat) : Int), ()), ()) = some ((ab (y.getD j 0) g, i, (j : Int), true, ()), ()) := by
  have := hy.2.1
  rw [edit_last.F_eq, edit_last.f, last0, bf (by omega : (3 : Int) ≠ 1)]
  simp only [Option.bind_some, Sum.elim_inl, cond_false, Bool.false_and]
  rw [last1, bf (by omega : (3 : Int) ≠ 2)]
  simp only [Option.bind_some, Sum.elim_inl, cond_false, Bool.false_and]
  rw [last2, bt rfl, dt (by omega : ((j + 1 : Nat) : Int) > 0)]
  simp only [Option.bind_some, Sum.elim_inl, cond_true, Bool.and_self]
  rw [w64 (n := ((j + 1 : Nat) : Int) - 1) (by omega), show ((j + 1 : Nat) : Int) - 1 = (j : Int) by omega, dt (by omega), dt (by omega), Int.toNat_natCast, apart_ok (hy.get hj) hg]
  rfl
theorem ix (a b : Nat) : 0 + a * 33 + b * 1 = a * 33 + b := by omega
theorem tab3 {i j a b : Nat} (hi : i ≤ 32) (hj : j ≤ 32) (ha : a ≤ 32) (hb : b ≤ 32) (first ok : Bool) (s cost : Int) {o z : List Int} (hz : z.length = 1089) (hs : ok = true → I64 (z.getD (a * 33 + b) 0 + cost)) :
    edit_table.L3 ((x, y, g, (), (), (i : Int), (j : Int), first, s, cost, (a : Int), (b : Int), ok, ()), (o, z, ())) =
      some (Sum.inl ((x, y, g, (), (), (i : Int), (j : Int), first, s, cost, (a : Int), (b : Int), (ok && (first || decide (z.getD (a * 33 + b) 0 + cost < z.getD (i * 33 + j) 0))), ()), (o, z, ()))) := by
  rw [edit_table.L3_eq, edit_table.f3]
  cases ok with
  | false => rfl
  | true =>
    cases first with
    | true => rfl
    | false =>
      simp only [Int.toNat_natCast, ix]
      rw [dt (by omega : (0 : Int) ≤ (a : Int)), dt (by omega : (a : Int) < ((33 : Nat) : Int)), dt (by omega : ((0 + a * 33 : Nat) : Int) < (z.length : Int)), dt (by omega : (0 : Int) ≤ (b : Int)), dt (by omega : (b : Int) < ((33 : Nat) : Int)), dt (by omega : ((a * 33 + b : Nat) : Int) < (z.length : Int)),
        dt (by omega : (0 : Int) ≤ (i : Int)), dt (by omega : (i : Int) < ((33 : Nat) : Int)), dt (by omega : ((0 + i * 33 : Nat) : Int) < (z.length : Int)), dt (by omega : (0 : Int) ≤ (j : Int)), dt (by omega : (j : Int) < ((33 : Nat) : Int)), dt (by omega : ((i * 33 + j : Nat) : Int) < (z.length : Int)), w64 (hs rfl)]
      rfl
/-- A step is better. -/
theorem tab2_yes {i j a b : Nat} (hi : i ≤ 32) (hj : j ≤ 32) (ha : a ≤ 32) (hb : b ≤ 32) {first : Bool} {s cost : Int} {o z : List Int} (hz : z.length = 1089) (hs : 1 ≤ s ∧ s ≤ 3) (hl : edit_last.F ((s, x, y, g, (i : Int), (j : Int), ()), ()) = some ((cost, (a : Int), (b : Int), true, ()), ()))
    (hw : I64 (z.getD (a * 33 + b) 0 + cost)) (h : first = true ∨ z.getD (a * 33 + b) 0 + cost < z.getD (i * 33 + j) 0) :
    edit_table.L2 ((x, y, g, (), (), (i : Int), (j : Int), first, s, ()), (o, z, ())) = edit_table.L2 ((x, y, g, (), (), (i : Int), (j : Int), false, s + 1, ()), (o, z.set (i * 33 + j) (z.getD (a * 33 + b) 0 + cost), ())) := by
  have hd : (true && (first || decide (z.getD (a * 33 + b) 0 + cost < z.getD (i * 33 + j) 0))) = true := by
    rcases h with h | h
    · rw [h]; rfl
    · rw [dt h]; simp
  rw [edit_table.L2_eq, edit_table.f2, dt hs.2, hl]
  simp only [cond_true, Option.bind_some]
  rw [tab3 hi hj ha hb first true s cost hz (fun _ => hw), hd]
  simp only [cond_true, Option.bind_some, Sum.elim_inl, Int.toNat_natCast, ix]
  rw [dt (by omega : (0 : Int) ≤ (a : Int)), dt (by omega : (a : Int) < ((33 : Nat) : Int)), dt (by omega : ((0 + a * 33 : Nat) : Int) < (z.length : Int)), dt (by omega : (0 : Int) ≤ (b : Int)), dt (by omega : (b : Int) < ((33 : Nat) : Int)), dt (by omega : ((a * 33 + b : Nat) : Int) < (z.length : Int)),
    dt (by omega : (0 : Int) ≤ (i : Int)), dt (by omega : (i : Int) < ((33 : Nat) : Int)), dt (by omega : ((0 + i * 33 : Nat) : Int) < (z.length : Int)), dt (by omega : (0 : Int) ≤ (j : Int)), dt (by omega : (j : Int) < ((33 : Nat) : Int)), dt (by omega : ((i * 33 + j : Nat) : Int) < (z.length : Int)), w64 hw, w64 (n := s + 1) (by omega)]
  simp only [cond_true]
  generalize edit_table.L2 _ = q
  cases q <;> rfl
theorem tab2_no {i j a b : Nat} (hi : i ≤ 32) (hj : j ≤ 32) (ha : a ≤ 32) (hb : b ≤ 32) {first ok : Bool} {s cost : Int} {o z : List Int} (hz : z.length = 1089) (hs : 1 ≤ s ∧ s ≤ 3) (hl : edit_last.F ((s, x, y, g, (i : Int), (j : Int), ()), ()) = some ((cost, (a : Int), (b : Int), ok, ()), ()))
    (hw : ok = true → I64 (z.getD (a * 33 + b) 0 + cost)) (h : ok = true → first = false ∧ ¬ z.getD (a * 33 + b) 0 + cost < z.getD (i * 33 + j) 0) :
    edit_table.L2 ((x, y, g, (), (), (i : Int), (j : Int), first, s, ()), (o, z, ())) = edit_table.L2 ((x, y, g, (), (), (i : Int), (j : Int), first, s + 1, ()), (o, z, ())) := by
  have hd : (ok && (first || decide (z.getD (a * 33 + b) 0 + cost < z.getD (i * 33 + j) 0))) = false := by
    cases ok with
    | false => rfl
    | true =>
      obtain ⟨h1, h2⟩ := h rfl
      rw [h1, df h2]; rfl
  rw [edit_table.L2_eq, edit_table.f2, dt hs.2, hl]
  simp only [cond_true, Option.bind_some]
  rw [tab3 hi hj ha hb first ok s cost hz hw, hd]
  simp only [cond_false, Option.bind_some, Sum.elim_inl]
  rw [w64 (n := s + 1) (by omega)]
  generalize edit_table.L2 _ = q
  cases q <;> rfl
theorem tab2_end {i j : Int} {first : Bool} {o z : List Int} : edit_table.L2 ((x, y, g, (), (), i, j, first, 4, ()), (o, z, ())) = some (Sum.inl ((x, y, g, (), (), i, j, ()), (o, z, ()))) := by
  rw [edit_table.L2_eq, edit_table.f2, df (by omega)]; rfl
/-- One step, whether it is better or not. -/
theorem tab2_step {i j a b : Nat} (hi : i ≤ 32) (hj : j ≤ 32) (ha : a ≤ 32) (hb : b ≤ 32) {s cost : Int} {o z : List Int} (hz : z.length = 1089) (hs : 1 ≤ s ∧ s ≤ 3) (hl : edit_last.F ((s, x, y, g, (i : Int), (j : Int), ()), ()) = some ((cost, (a : Int), (b : Int), true, ()), ()))
    (hne : a * 33 + b ≠ i * 33 + j) {v : Int} (hw : I64 (z.getD (a * 33 + b) 0 + cost)) :
    edit_table.L2 ((x, y, g, (), (), (i : Int), (j : Int), false, s, ()), (o, z.set (i * 33 + j) v, ())) = edit_table.L2 ((x, y, g, (), (), (i : Int), (j : Int), false, s + 1, ()), (o, z.set (i * 33 + j) (mn v (z.getD (a * 33 + b) 0 + cost)), ())) := by
  have hz' : (z.set (i * 33 + j) v).length = 1089 := by rw [List.length_set, hz]
  have e1 : (z.set (i * 33 + j) v).getD (a * 33 + b) 0 = z.getD (a * 33 + b) 0 := by rw [getD_set (by omega), if_neg hne]
  have e2 : (z.set (i * 33 + j) v).getD (i * 33 + j) 0 = v := by rw [getD_set (by omega), if_pos rfl]
  by_cases c : z.getD (a * 33 + b) 0 + cost < v
  · rw [tab2_yes (z := z.set (i * 33 + j) v) hi hj ha hb hz' hs hl (by rw [e1]; exact hw) (.inr (by rw [e1, e2]; exact c)), e1, List.set_set]
    unfold mn; rw [if_pos c]
  · rw [tab2_no (z := z.set (i * 33 + j) v) hi hj ha hb hz' hs hl (fun _ => by rw [e1]; exact hw) (fun _ => ⟨rfl, by rw [e1, e2]; exact c⟩)]
    unfold mn; rw [if_neg c]
/-- What is known of the table ahead of a cell. -/
def Tb (x y : List Int) (g : Int) (i j : Nat) (z : List Int) : Prop := z.length = 1089 ∧ (∀ a b, b ≤ y.length → a < i ∨ (a = i ∧ b < j) → z.getD (a * 33 + b) 0 = Ed x y g a b) ∧ (i = 0 → j = 0 → z.getD 0 0 = 0)
include hx hy hg in
theorem cell_ok {i j : Nat} (hi : i ≤ x.length) (hj : j ≤ y.length) {o z : List Int} (ht : Tb x y g i j z) :
    edit_table.L2 ((x, y, g, (), (), (i : Int), (j : Int), true, 1, ()), (o, z, ())) = some (Sum.inl ((x, y, g, (), (), (i : Int), (j : Int), ()), (o, z.set (i * 33 + j) (Ed x y g i j), ()))) := by
  obtain ⟨hz, ht, h00⟩ := ht
  have hx2 := hx.2.1
  have hy2 := hy.2.1
  have bd : ∀ a b, a ≤ x.length → b ≤ y.length → 0 ≤ Ed x y g a b ∧ Ed x y g a b ≤ 128000 := fun a b h1 h2 => by have := Ed_bd hx hy hg (a + b + 1) a b (by omega) h1 h2; omega
  have e4 : (3 : Int) + 1 = 4 := rfl
  have e3 : (2 : Int) + 1 = 3 := rfl
  have e2 : (1 : Int) + 1 = 2 := rfl
  match i, j with
  | 0, 0 =>
    rw [tab2_no (i := 0) (j := 0) (a := 0) (b := 0) (by omega) (by omega) (by omega) (by omega) hz (by omega) (last_no (by omega) (by omega) (by omega)) (fun h => by cases h) (fun h => by cases h), e2,
      tab2_no (i := 0) (j := 0) (a := 0) (b := 0) (by omega) (by omega) (by omega) (by omega) hz (by omega) (last_no (by omega) (by omega) (by omega)) (fun h => by cases h) (fun h => by cases h), e3,
      tab2_no (i := 0) (j := 0) (a := 0) (b := 0) (by omega) (by omega) (by omega) (by omega) hz (by omega) (last_no (by omega) (by omega) (by omega)) (fun h => by cases h) (fun h => by cases h), e4, tab2_end, Ed_00]
    have : z.set (0 * 33 + 0) 0 = z := by
      refine list_ext_getD 0 (by simp) fun k hk => ?_
      rw [getD_set (by omega)]
      split
      · rename_i e; rw [e]; exact (h00 rfl rfl).symm
      · rfl
    rw [this]
  | 0, j + 1 =>
    have t1 := ht 0 j (by omega) (.inr ⟨rfl, by omega⟩)
    have b1 := bd 0 j (by omega) (by omega)
    have a1 := ab_bd (hy.get (i := j) (by omega)) hg
    rw [tab2_no (i := 0) (j := j + 1) (a := 0) (b := 0) (by omega) (by omega) (by omega) (by omega) hz (by omega) (last_no (by omega) (by omega) (by omega)) (fun h => by cases h) (fun h => by cases h), e2,
      tab2_no (i := 0) (j := j + 1) (a := 0) (b := 0) (by omega) (by omega) (by omega) (by omega) hz (by omega) (last_no (by omega) (by omega) (by omega)) (fun h => by cases h) (fun h => by cases h), e3,
      tab2_yes (i := 0) (j := j + 1) (a := 0) (b := j) (by omega) (by omega) (by omega) (by omega) hz (by omega) (last_right hy hg (i := ((0 : Nat) : Int)) (by omega)) (by unfold I64; omega) (.inl rfl), e4, tab2_end, t1]
    rfl
  | i + 1, 0 =>
    have t1 := ht i 0 (by omega) (.inl (by omega))
    have b1 := bd i 0 (by omega) (by omega)
    have a1 := ab_bd (hx.get (i := i) (by omega)) hg
    rw [tab2_no (i := i + 1) (j := 0) (a := 0) (b := 0) (by omega) (by omega) (by omega) (by omega) hz (by omega) (last_no (by omega) (by omega) (by omega)) (fun h => by cases h) (fun h => by cases h), e2,
      tab2_yes (i := i + 1) (j := 0) (a := i) (b := 0) (by omega) (by omega) (by omega) (by omega) hz (by omega) (last_left hx hg (by omega)) (by unfold I64; omega) (.inl rfl), e3]
    rw [tab2_no (i := i + 1) (j := 0) (a := 0) (b := 0) (by omega) (by omega) (by omega) (by omega) (by rw [List.length_set, hz]) (by omega) (last_no (by omega) (by omega) (by omega)) (fun h => by cases h) (fun h => by cases h), e4, tab2_end, t1]
    rfl
  | i + 1, j + 1 =>
    have t1 := ht i j (by omega) (.inl (by omega))
    have t2 := ht i (j + 1) (by omega) (.inl (by omega))
    have t3 := ht (i + 1) j (by omega) (.inr ⟨rfl, by omega⟩)
    have b1 := bd i j (by omega) (by omega)
    have b2 := bd i (j + 1) (by omega) (by omega)
    have b3 := bd (i + 1) j (by omega) (by omega)
    have a1 := ab_bd (hx.get (i := i) (by omega)) (hy.get (i := j) (by omega))
    have a2 := ab_bd (hx.get (i := i) (by omega)) hg
    have a3 := ab_bd (hy.get (i := j) (by omega)) hg
    rw [tab2_yes (i := i + 1) (j := j + 1) (a := i) (b := j) (by omega) (by omega) (by omega) (by omega) hz (by omega) (last_both hx hy (by omega) (by omega)) (by unfold I64; omega) (.inl rfl), e2,
      tab2_step (i := i + 1) (j := j + 1) (a := i) (b := j + 1) (by omega) (by omega) (by omega) (by omega) hz (by omega) (last_left hx hg (by omega)) (by omega) (by unfold I64; omega), e3,
      tab2_step (i := i + 1) (j := j + 1) (a := i + 1) (b := j) (by omega) (by omega) (by omega) (by omega) hz (by omega) (last_right hy hg (by omega)) (by omega) (by unfold I64; omega), e4, tab2_end, t1, t2, t3]
    rfl
include hx hy hg in
theorem row_loop {i : Nat} (hi : i ≤ x.length) (o : List Int) : ∀ (k j : Nat) (z : List Int), j + k = y.length + 1 → Tb x y g i j z →
    Ok (edit_table.L1 ((x, y, g, (), (), (i : Int), (j : Int), ()), (o, z, ()))) (fun r => ∃ z', r = Sum.inl ((x, y, g, (), (), (i : Int), ()), (o, z', ())) ∧ Tb x y g (i + 1) 0 z') := by
  have hx2 := hx.2.1
  have hy2 := hy.2.1
  intro k
  induction k with
  | zero =>
    intro j z h ht
    rw [edit_table.L1_eq, edit_table.f1, df (by omega)]
    exact .some ⟨z, rfl, ht.1, fun a b hb hab => ht.2.1 a b hb (by omega), fun h => by omega⟩
  | succ k ih =>
    intro j z h ht
    rw [edit_table.L1_eq, edit_table.f1, dt (by omega), cell_ok hx hy hg hi (by omega) ht]
    simp only [cond_true, Option.bind_some, Sum.elim_inl]
    rw [w64 (by omega), show (j : Int) + 1 = ((j + 1 : Nat) : Int) by omega]
    refine .bind (ih (j + 1) _ (by omega) ⟨by rw [List.length_set, ht.1], fun a b hb hab => ?_, fun _ h => by omega⟩) fun r hr => .some hr
    rw [getD_set (by have := ht.1; omega)]
    split
    · rename_i e
      have h1 : a = i := by omega
      have h2 : b = j := by omega
      rw [h1, h2]
    · exact ht.2.1 a b hb (by omega)
include hx hy hg in
theorem rows_loop (o : List Int) : ∀ (k i : Nat) (z : List Int), i + k = x.length + 1 → Tb x y g i 0 z →
    Ok (edit_table.L0 ((x, y, g, (), (), (i : Int), ()), (o, z, ()))) (fun r => ∃ z', r = Sum.inl (((), (), ()), (o, z', ())) ∧ Tb x y g (x.length + 1) 0 z') := by
  have hx2 := hx.2.1
  have hy2 := hy.2.1
  intro k
  induction k with
  | zero =>
    intro i z h ht
    rw [edit_table.L0_eq, edit_table.f0, df (by omega)]
    exact .some ⟨z, rfl, by rw [show x.length + 1 = i by omega]; exact ht⟩
  | succ k ih =>
    intro i z h ht
    rw [edit_table.L0_eq, edit_table.f0, dt (by omega)]
    refine .bind (row_loop hx hy hg (by omega) o (y.length + 1) 0 z (by omega) ht) fun r hr => ?_
    obtain ⟨z', rfl, ht'⟩ := hr
    simp only [Sum.elim_inl]
    rw [w64 (by omega), show (i : Int) + 1 = ((i + 1 : Nat) : Int) by omega]
    exact .bind (ih (i + 1) z' (by omega) ht') fun r hr => .some hr
include hx hy hg in
theorem table_ok : ∃ z, edit_table.F ((x, y, g, ()), ()) = some ((z, ()), ()) ∧ z.length = 1089 ∧ z.getD (x.length * 33 + y.length) 0 = Ed x y g x.length y.length := by
  have hr : (List.replicate 1089 (0 : Int)).length = 1089 := List.length_replicate ..
  obtain ⟨r, h1, z, rfl, h2, h3, _⟩ := rows_loop hx hy hg (List.replicate 1089 0) (x.length + 1) 0 (List.replicate 1089 0) (by omega) ⟨hr, fun a b _ h => by omega, fun _ _ => by rw [List.getD_eq_getElem?_getD, List.getElem?_replicate]; rfl⟩
  refine ⟨z, ?_, h2, h3 _ _ (Nat.le_refl _) (.inl (by omega))⟩
  rw [edit_table.F_eq, edit_table.f, show edit_table.L0 ((x, (y, (g, ((), ((), ((0 : Int), ())))))), ((List.replicate (1089:Nat) (0:Int)), ((List.replicate (1089:Nat) (0:Int)), ()))) = _ from h1]
  simp only [Option.bind_some, Sum.elim_inl]
  rw [h2, hr, dt rfl]; rfl
include hx hy hg in
theorem edDistance_ok : edit_Distance.F ((x, y, g, ()), ()) = some ((Ed x y g x.length y.length, 0, ()), ()) := by
  have hx2 := hx.2.1
  have hy2 := hy.2.1
  have hc : edit_check.F ((x, y, g, ()), ()) = some ((0, ()), ()) := by
    rw [edit_check.F_eq, edit_check.f, edit_check.L0_eq, edit_check.f0, df (by omega), df (by omega)]
    simp only [cond_false, Option.bind_some, Sum.elim_inl]
    rw [eDistance_ok hx hx rfl, eDistance_ok hy hy rfl]
    rfl
  obtain ⟨z, h1, h2, h3⟩ := table_ok hx hy hg
  have hg' : (List.take 33 (List.drop (x.length * 33) z)).getD y.length 0 = Ed x y g x.length y.length := by
    rw [List.getD_eq_getElem?_getD, List.getElem?_take, if_pos (by omega), List.getElem?_drop, ← List.getD_eq_getElem?_getD, h3]
  rw [edit_Distance.F_eq, edit_Distance.f, hc]
  simp only [Option.bind_some]
  rw [nt rfl, h1]
  simp only [cond_false, Option.bind_some, Int.toNat_natCast]
  rw [dt (by omega), dt (by omega), dt (by omega), dt (by rw [List.length_take, List.length_drop]; omega), hg']
  rfl
end
end Go.Proofs.Ytefcciajemkicaa.V
