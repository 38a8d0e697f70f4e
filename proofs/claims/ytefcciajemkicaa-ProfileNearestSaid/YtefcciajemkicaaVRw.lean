/- The reference's warping distance answers as the program's does. -/
import Derived.Test.YtefcciajemkicaaVg4
import Derived.Test.YtefcciajemkicaaVBase
import Derived.Test.YtefcciajemkicaaVEuc
import Derived.Test.YtefcciajemkicaaVWarp
import Derived.Test.YtefcciajemkicaaVGcd
import Derived.Test.YtefcciajemkicaaVWarp2
import Derived.Test.YtefcciajemkicaaVDec
import Derived.Test.YtefcciajemkicaaVText
import Derived.Test.YtefcciajemkicaaVMv
import Derived.Test.YtefcciajemkicaaVDisk
import Derived.Test.YtefcciajemkicaaVEdit
import Derived.Test.YtefcciajemkicaaVGap
import Derived.Test.YtefcciajemkicaaVMD
import Derived.Test.YtefcciajemkicaaVRd
set_option linter.unusedVariables false
set_option linter.unusedSimpArgs false
namespace Go.Proofs.Ytefcciajemkicaa.V
open Go.VI
def mat (n m : Nat) (f : Nat → Nat → Int) : List (List Int) := (List.range n).map fun i => (List.range m).map (f i)
theorem mat_len (n m : Nat) (f : Nat → Nat → Int) : (mat n m f).length = n := by simp [mat]
theorem row_len (m : Nat) (f : Nat → Int) : ((List.range m).map f).length = m := by simp
theorem row_get {m : Nat} {f : Nat → Int} {j : Nat} (h : j < m) : ((List.range m).map f).getD j 0 = f j := by
  rw [List.getD_eq_getElem?_getD, List.getElem?_map, List.getElem?_range h]; rfl
theorem mat_get {n m : Nat} {f : Nat → Nat → Int} {i : Nat} (h : i < n) : (mat n m f).getD i [] = (List.range m).map (f i) := by
  rw [List.getD_eq_getElem?_getD, mat, List.getElem?_map, List.getElem?_range h]; rfl
theorem set_same {α : Type} {l : List α} {i : Nat} {d : α} (h : i < l.length) : l.set i (l.getD i d) = l := by
  refine list_ext_getD d (by simp) fun k hk => ?_
  rw [getD_set h]
  split
  · rename_i e; rw [e]
  · rfl
section
variable {x y : List Int} (hx : Wn x) (hy : Wn y)
include hx hy
theorem costs_inner {i : Nat} (hi : i < x.length) (v w : Int) : ∀ (k j : Nat) (o : List (List Int)), j + k = y.length → o.length = x.length → o.getD i [] = (List.range j).map (cst x y i) →
    ref14_Costs.L1 ((x, y, (), (i : Int), v, w, (y.length : Int), (j : Int), ()), (o, ())) = some (Sum.inl ((x, y, (), v, w, ()), (o.set i ((List.range y.length).map (cst x y i)), ()))) := by
  have hx2 := hx.2.1
  have hy2 := hy.2.1
  intro k
  induction k with
  | zero =>
    intro j o h ho hr
    rw [ref14_Costs.L1_eq, ref14_Costs.f1, df (by omega), show y.length = j by omega, ← hr, set_same (by omega)]; rfl
  | succ k ih =>
    intro j o h ho hr
    have gx := hx.get hi
    have gy := hy.get (i := j) (by omega)
    have hl : (o.getD i []).length = j := by rw [hr, row_len]
    have hs := sq_bounds (x := x.getD i 0 - y.getD j 0) (b := 2000) (by omega) (by omega)
    rw [ref14_Costs.L1_eq, ref14_Costs.f1]
    simp only [Int.toNat_natCast, List.length_cons, List.length_nil, hl]
    rw [w64 (n := x.getD i 0 - y.getD j 0) (by omega), w64 (n := (x.getD i 0 - y.getD j 0) * (x.getD i 0 - y.getD j 0)) (by omega), w64 (n := (j : Int) + 1) (by omega), show (j : Int) + 1 = ((j + 1 : Nat) : Int) by omega]
    repeat rw [dt (by omega)]
    simp only [cond_true, Bool.and_self]
    have e1 : o.getD i [] ++ [(x.getD i 0 - y.getD j 0) * (x.getD i 0 - y.getD j 0)] = (List.range (j + 1)).map (cst x y i) := by rw [hr, List.range_succ, List.map_append]; rfl
    rw [e1, show ref14_Costs.L1 ((x, (y, ((), ((i : Int), (v, (w, ((y.length : Int), (((j + 1 : Nat) : Int), ())))))))), (o.set i ((List.range (j + 1)).map (cst x y i)), ())) = _ from
      ih (j + 1) _ (by omega) (by rw [List.length_set, ho]) (by rw [getD_set (by omega), if_pos rfl]), List.set_set]
    rfl
theorem costs_outer : ∀ (k i : Nat) (o : List (List Int)), i + k = x.length → o.length = x.length → (∀ c, c < x.length → o.getD c [] = if c < i then (List.range y.length).map (cst x y c) else []) →
    ref14_Costs.L0 ((x, y, (), (x.length : Int), (i : Int), ()), (o, ())) = some (Sum.inl (((), ()), (mat x.length y.length (cst x y), ()))) := by
  have hx2 := hx.2.1
  have hy2 := hy.2.1
  intro k
  induction k with
  | zero =>
    intro i o h ho hr
    have e : o = mat x.length y.length (cst x y) := list_ext_getD [] (by rw [ho, mat_len]) fun c hc => by rw [hr c (by omega), if_pos (by omega), mat_get (by omega)]
    rw [ref14_Costs.L0_eq, ref14_Costs.f0, df (by omega), e]; rfl
  | succ k ih =>
    intro i o h ho hr
    rw [ref14_Costs.L0_eq, ref14_Costs.f0, dt (by omega), show ref14_Costs.L1 ((x, (y, ((), ((i : Int), ((x.length : Int), ((i : Int), ((y.length : Int), ((0 : Int), ())))))))), (o, ())) = _ from
      costs_inner hx hy (by omega) _ _ y.length 0 o (by omega) ho (by rw [hr i (by omega), if_neg (by omega)]; rfl)]
    simp only [cond_true, Option.bind_some, Sum.elim_inl]
    rw [w64 (by omega), show (i : Int) + 1 = ((i + 1 : Nat) : Int) by omega, show ref14_Costs.L0 ((x, (y, ((), ((x.length : Int), (((i + 1 : Nat) : Int), ()))))), (o.set i ((List.range y.length).map (cst x y i)), ())) = _ from
      ih (i + 1) _ (by omega) (by rw [List.length_set, ho]) fun c hc => ?_]
    · rfl
    · rw [getD_set (by omega)]
      by_cases e : c = i
      · rw [if_pos e, if_pos (by omega), e]
      · rw [if_neg e, hr c hc]
        by_cases e2 : c < i
        · rw [if_pos e2, if_pos (by omega)]
        · rw [if_neg e2, if_neg (by omega)]
theorem costs_ok : ref14_Costs.F ((x, y, ()), ()) = some ((mat x.length y.length (cst x y), ()), ()) := by
  have hx2 := hx.2.1
  rw [ref14_Costs.F_eq, ref14_Costs.f]
  rw [dt (rfl : (x.length : Int) = x.length), dt (by omega : (((24 : Nat) : Nat) : Int) * (x.length : Int) ≤ 281474976710656)]
  simp only [cond_true, Bool.and_self, Int.toNat_natCast]
  rw [show ref14_Costs.L0 ((x, (y, ((), ((x.length : Int), ((0 : Int), ()))))), (List.replicate x.length [], ())) = _ from costs_outer hx hy x.length 0 _ (by omega) (by simp) fun c hc => by
    rw [if_neg (by omega), List.getD_eq_getElem?_getD, List.getElem?_replicate, if_pos hc]; rfl]
  rfl
end
/-- What the reference reads at a pair. -/
def Av (o : List (List Int)) (n m : Nat) (b i j : Int) : Int := if i < 0 ∨ j < 0 ∨ i ≥ n ∨ j ≥ m ∨ i - j > b ∨ j - i > b then (4611686018427387904 : Int) else (o.getD i.toNat []).getD j.toNat 0
theorem out_ok {n m b i j : Int} (hi : -1 ≤ i ∧ i ≤ 1000) (hj : -1 ≤ j ∧ j ≤ 1000) : ref14_out.F ((n, m, b, i, j, ()), ()) = some ((decide (i < 0 ∨ j < 0 ∨ i ≥ n ∨ j ≥ m ∨ i - j > b ∨ j - i > b), ()), ()) := by
  rw [ref14_out.F_eq, ref14_out.f, ref14_out.L0_eq, ref14_out.f0, w64 (by omega), w64 (by omega)]
  have yes : (i < 0 ∨ j < 0 ∨ i ≥ n ∨ j ≥ m ∨ i - j > b ∨ j - i > b) → decide (i < 0 ∨ j < 0 ∨ i ≥ n ∨ j ≥ m ∨ i - j > b ∨ j - i > b) = true := fun h => dt h
  by_cases c1 : i < 0
  · rw [yes (by omega), dt c1]; rfl
  by_cases c2 : j < 0
  · rw [yes (by omega), df c1, dt c2]; rfl
  by_cases c3 : i ≥ n
  · rw [yes (by omega), df c1, df c2, dt c3]; rfl
  by_cases c4 : j ≥ m
  · rw [yes (by omega), df c1, df c2, df c3, dt c4]; rfl
  by_cases c5 : i - j > b
  · rw [yes (by omega), df c1, df c2, df c3, df c4, dt c5]; rfl
  have : decide (i < 0 ∨ j < 0 ∨ i ≥ n ∨ j ≥ m ∨ i - j > b ∨ j - i > b) = decide (j - i > b) := decide_eq_decide.2 ⟨fun h => by omega, fun h => by omega⟩
  rw [this, df c1, df c2, df c3, df c4, df c5]; rfl
structure Tm (o : List (List Int)) (n m : Nat) : Prop where
  len : o.length = n
  rows : ∀ a, a < n → (o.getD a []).length = m
  n1 : 1 ≤ n ∧ n ≤ 32
  m1 : 1 ≤ m ∧ m ≤ 32
theorem at_ok {o : List (List Int)} {n m : Nat} (h : Tm o n m) {b i j : Int} (hi : -1 ≤ i ∧ i ≤ 1000) (hj : -1 ≤ j ∧ j ≤ 1000) : ref14_At.F ((o, b, i, j, ()), ()) = some ((Av o n m b i j, ()), ()) := by
  obtain ⟨h1, h2, h3, h4⟩ := h
  have r0 := h2 0 (by omega)
  rw [ref14_At.F_eq, ref14_At.f, bf (by omega), dt (by omega)]
  simp only [cond_true, cond_false, Int.toNat_zero]
  rw [r0, h1, show ref14_out.F (((n : Int), ((m : Int), (b, (i, (j, ()))))), ()) = _ from out_ok hi hj]
  simp only [Option.bind_some]
  by_cases c : i < 0 ∨ j < 0 ∨ i ≥ n ∨ j ≥ m ∨ i - j > b ∨ j - i > b
  · rw [dt c]; unfold Av; rw [if_pos c]; rfl
  · have ri := h2 i.toNat (by omega)
    rw [df c]; unfold Av; rw [if_neg c]
    simp only [cond_false]
    rw [dt (by omega : (0 : Int) ≤ i), dt (by omega : i < (n : Int)), dt (by omega : (0 : Int) ≤ j), ri, dt (by omega : j < (m : Int))]
    rfl
section
variable {o : List (List Int)} {n m : Nat} (h : Tm o n m) {b : Int} {i j : Nat} (hi : i < n) (hj : j < m)
include h hi hj
theorem before_ok : Ok (ref14_Before.F ((o, b, (i : Int), (j : Int), ()), ())) (fun r => -1 ≤ r.1.1.1 ∧ r.1.1.1 ≤ 1000 ∧ -1 ≤ r.1.1.2.1 ∧ r.1.1.2.1 ≤ 1000 ∧
    Av o n m b r.1.1.1 r.1.1.2.1 = mn (mn (Av o n m b ((i : Int) - 1) ((j : Int) - 1)) (Av o n m b ((i : Int) - 1) j)) (Av o n m b i ((j : Int) - 1))) := by
  obtain ⟨n1, n2⟩ := h.n1
  obtain ⟨m1, m2⟩ := h.m1
  rw [ref14_Before.F_eq, ref14_Before.f, w64 (n := (i : Int) - 1) (by omega), w64 (n := (j : Int) - 1) (by omega)]
  have r2 : ∀ p q s t u v : Int, ref14_Before.L0 ((o, b, (), (), (p, q, s, t, ()), 2, ()), ((0, 0, ()), (u, v, ()), ())) = some (Sum.inl (((), (), ()), ((0, 0, ()), (u, v, ()), ()))) := fun p q s t u v => by
    rw [ref14_Before.L0_eq, ref14_Before.f0, df (by omega)]; rfl
  have r1 : ∀ p q s t u v : Int, -1 ≤ s ∧ s ≤ 1000 → -1 ≤ t ∧ t ≤ 1000 → -1 ≤ u ∧ u ≤ 1000 → -1 ≤ v ∧ v ≤ 1000 → ref14_Before.L0 ((o, b, (), (), (p, q, s, t, ()), 1, ()), ((0, 0, ()), (u, v, ()), ())) =
      some (Sum.inl (((), (), ()), ((0, 0, ()), (if Av o n m b s t < Av o n m b u v then s else u, if Av o n m b s t < Av o n m b u v then t else v, ()), ()))) := fun p q s t u v h1 h2 h3 h4 => by
    rw [ref14_Before.L0_eq, ref14_Before.f0, dt (by omega), dt (by omega), dt (by omega), bf (by omega), bt (by omega)]
    simp only [cond_true, cond_false]
    rw [show ref14_At.F ((o, (b, (s, (t, ())))), ()) = _ from at_ok h h1 h2, show ref14_At.F ((o, (b, (u, (v, ())))), ()) = _ from at_ok h h3 h4]
    simp only [Option.bind_some]
    rw [w64 (by omega), show (1 : Int) + 1 = 2 by omega]
    by_cases c : Av o n m b s t < Av o n m b u v
    · rw [dt c, if_pos c, if_pos c]; simp only [cond_true]
      rw [show ref14_Before.L0 ((o, (b, ((), ((), ((p, (q, (s, (t, ())))), ((2 : Int), ())))))), (((0 : Int), ((0 : Int), ())), ((s, (t, ())), ()))) = _ from r2 p q s t s t]; rfl
    · rw [df c, if_neg c, if_neg c]; simp only [cond_false]
      rw [show ref14_Before.L0 ((o, (b, ((), ((), ((p, (q, (s, (t, ())))), ((2 : Int), ())))))), (((0 : Int), ((0 : Int), ())), ((u, (v, ())), ()))) = _ from r2 p q s t u v]; rfl
  have r0 : ∀ p q s t u v : Int, -1 ≤ p ∧ p ≤ 1000 → -1 ≤ q ∧ q ≤ 1000 → -1 ≤ s ∧ s ≤ 1000 → -1 ≤ t ∧ t ≤ 1000 → -1 ≤ u ∧ u ≤ 1000 → -1 ≤ v ∧ v ≤ 1000 →
      Ok (ref14_Before.L0 ((o, b, (), (), (p, q, s, t, ()), 0, ()), ((0, 0, ()), (u, v, ()), ()))) (fun r => ∃ e f : Int, r = Sum.inl (((), (), ()), ((0, 0, ()), (e, f, ()), ())) ∧ -1 ≤ e ∧ e ≤ 1000 ∧ -1 ≤ f ∧ f ≤ 1000 ∧
        Av o n m b e f = mn (mn (Av o n m b u v) (Av o n m b p q)) (Av o n m b s t)) := fun p q s t u v h1 h2 h3 h4 h5 h6 => by
    rw [ref14_Before.L0_eq, ref14_Before.f0, dt (by omega), dt (by omega), dt (by omega), bt (by omega)]
    simp only [cond_true]
    rw [show ref14_At.F ((o, (b, (p, (q, ())))), ()) = _ from at_ok h h1 h2, show ref14_At.F ((o, (b, (u, (v, ())))), ()) = _ from at_ok h h5 h6]
    simp only [Option.bind_some]
    rw [w64 (by omega), show (0 : Int) + 1 = 1 by omega]
    have fin : ∀ u v : Int, -1 ≤ u ∧ u ≤ 1000 → -1 ≤ v ∧ v ≤ 1000 → Ok (some (Sum.inl (((), (), ()), ((0, 0, ()), (if Av o n m b s t < Av o n m b u v then s else u, if Av o n m b s t < Av o n m b u v then t else v, ()), ()))) : Option (_ ⊕ Empty)) (fun r => ∃ e f : Int, r = Sum.inl (((), (), ()), (((0 : Int), (0 : Int), ()), (e, f, ()), ())) ∧ -1 ≤ e ∧ e ≤ 1000 ∧ -1 ≤ f ∧ f ≤ 1000 ∧
        Av o n m b e f = mn (Av o n m b u v) (Av o n m b s t)) := fun u v h5 h6 => by
      refine .some ⟨_, _, rfl, ?_⟩
      unfold mn
      by_cases c : Av o n m b s t < Av o n m b u v
      · simp only [if_pos c]; exact ⟨h3.1, h3.2, h4.1, h4.2, trivial⟩
      · simp only [if_neg c]; exact ⟨h5.1, h5.2, h6.1, h6.2, trivial⟩
    by_cases c : Av o n m b p q < Av o n m b u v
    · rw [dt c]; simp only [cond_true]
      rw [show ref14_Before.L0 ((o, (b, ((), ((), ((p, (q, (s, (t, ())))), ((1 : Int), ())))))), (((0 : Int), ((0 : Int), ())), ((p, (q, ())), ()))) = _ from r1 p q s t p q h3 h4 h1 h2]
      rw [show mn (Av o n m b u v) (Av o n m b p q) = Av o n m b p q by unfold mn; rw [if_pos c]]
      exact fin p q h1 h2
    · rw [df c]; simp only [cond_false]
      rw [show ref14_Before.L0 ((o, (b, ((), ((), ((p, (q, (s, (t, ())))), ((1 : Int), ())))))), (((0 : Int), ((0 : Int), ())), ((u, (v, ())), ()))) = _ from r1 p q s t u v h3 h4 h5 h6]
      rw [show mn (Av o n m b u v) (Av o n m b p q) = Av o n m b u v by unfold mn; rw [if_neg c]]
      exact fin u v h5 h6
  refine .bind (r0 ((i : Int) - 1) (j : Int) (i : Int) ((j : Int) - 1) ((i : Int) - 1) ((j : Int) - 1) (by omega) (by omega) (by omega) (by omega) (by omega) (by omega)) ?_
  rintro _ ⟨e, f, rfl, h1, h2, h3, h4, h5⟩
  exact .some ⟨h1, h2, h3, h4, h5⟩
end
end Go.Proofs.Ytefcciajemkicaa.V
