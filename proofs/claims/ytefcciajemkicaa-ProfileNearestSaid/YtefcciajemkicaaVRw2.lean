/- The reference's table of warping costs. -/
import Derived.Test.YtefcciajemkicaaVg4
import Derived.Test.YtefcciajemkicaaVBase
import Derived.Test.YtefcciajemkicaaVEuc
import Derived.Test.YtefcciajemkicaaVWarp
import Derived.Test.YtefcciajemkicaaVGcd
import Derived.Test.YtefcciajemkicaaVWarp2
import Derived.Test.YtefcciajemkicaaVDec
import Derived.Test.YtefcciajemkicaaVText
import Derived.Test.YtefcciajemkicaaVMv
import Derived.Test.YtefcciajemkicaaVDisk
import Derived.Test.YtefcciajemkicaaVEdit
import Derived.Test.YtefcciajemkicaaVGap
import Derived.Test.YtefcciajemkicaaVMD
import Derived.Test.YtefcciajemkicaaVRd
import Derived.Test.YtefcciajemkicaaVRw
set_option linter.unusedVariables false
set_option linter.unusedSimpArgs false
namespace Go.Proofs.Ytefcciajemkicaa.V
open Go.VI
theorem getD_set_row {o : List (List Int)} {i : Nat} {r : List Int} (h : i < o.length) : (o.set i r).getD i [] = r := by rw [getD_set h, if_pos rfl]
theorem Tm.set {o : List (List Int)} {n m i : Nat} (h : Tm o n m) (hi : i < n) {r : List Int} (hr : r.length = m) : Tm (o.set i r) n m := by
  refine ⟨by rw [List.length_set]; exact h.len, fun a ha => ?_, h.n1, h.m1⟩
  rw [getD_set (by rw [h.len]; exact hi)]
  split
  · exact hr
  · exact h.rows a ha
section
variable {x y : List Int} (hx : Wn x) (hy : Wn y) {b : Int} (hb : 0 ≤ b ∧ b ≤ 32)
/-- What is known of the table ahead of a cell. -/
structure Ft (x y : List Int) (b : Int) (i j : Nat) (o : List (List Int)) : Prop where
  tm : Tm o x.length y.length
  val : ∀ a c, a < x.length → c < y.length → a < i ∨ (a = i ∧ c < j) → Near b a c → (o.getD a []).getD c 0 = Wp x y b a c
theorem Ft.put {i j : Nat} {o : List (List Int)} (h : Ft x y b i j o) (hi : i < x.length) (hj : j < y.length) (v : Int) : Ft x y b i j (o.set i ((o.getD i []).set j v)) := by
  have hl := h.tm.len
  have hr := h.tm.rows i hi
  refine ⟨h.tm.set hi (by rw [List.length_set]; exact hr), fun a c ha hc hp hn => ?_⟩
  rw [getD_set (by omega)]
  by_cases e : a = i
  · subst e
    rw [if_pos rfl, getD_set (by omega), if_neg (by omega)]
    exact h.val a c ha hc hp hn
  · rw [if_neg e]; exact h.val a c ha hc hp hn
theorem Ft.next {i j : Nat} {o : List (List Int)} (h : Ft x y b i j o) (hi : i < x.length) (hj : j < y.length) (hv : Near b i j → (o.getD i []).getD j 0 = Wp x y b i j) : Ft x y b i (j + 1) o :=
  ⟨h.tm, fun a c ha hc hp hn => by
    by_cases e : a = i ∧ c = j
    · obtain ⟨rfl, rfl⟩ := e; exact hv hn
    · exact h.val a c ha hc (by omega) hn⟩
theorem av_neg {o : List (List Int)} {n m : Nat} {i j : Int} (h : i < 0 ∨ j < 0) : Av o n m b i j = (4611686018427387904 : Int) := by
  unfold Av; rw [if_pos (by omega)]
theorem av_wp {i j : Nat} {o : List (List Int)} (h : Ft x y b i j o) {a c : Nat} (ha : a < x.length) (hc : c < y.length) (hp : a < i ∨ (a = i ∧ c < j)) : Av o x.length y.length b a c = Wp x y b a c := by
  unfold Av
  by_cases hn : Near b a c
  · obtain ⟨n1, n2⟩ := id hn
    rw [if_neg (by omega), Int.toNat_natCast, Int.toNat_natCast, h.val a c ha hc hp hn]
  · rw [Wp_eq, if_neg hn, if_pos]
    by_cases h1 : (a : Int) - c ≤ b
    · have : ¬ (c : Int) - a ≤ b := fun h2 => hn ⟨h1, h2⟩
      omega
    · omega
theorem av_lst {i j : Nat} {o : List (List Int)} (h : Ft x y b i j o) (hi : i < x.length) (hj : j < y.length) (h0 : 0 < i + j) :
    mn (mn (Av o x.length y.length b ((i : Int) - 1) ((j : Int) - 1)) (Av o x.length y.length b ((i : Int) - 1) j)) (Av o x.length y.length b i ((j : Int) - 1)) = lst (Wp x y b) i j := by
  have bd : ∀ a c, 0 ≤ Wp x y b a c ∧ Wp x y b a c ≤ (4611686018427387904 : Int) := fun a c => Wp_bound x y b _ a c (Nat.lt_succ_self _)
  match i, j with
  | 0, 0 => omega
  | 0, j + 1 =>
    rw [av_neg (.inl (by omega)), av_neg (.inl (by omega)), show ((j + 1 : Nat) : Int) - 1 = (j : Int) by omega, av_wp h hi (by omega) (by omega)]
    have := bd 0 j
    have := mn_le (4611686018427387904 : Int) (4611686018427387904 : Int)
    have := mn_le (mn (4611686018427387904 : Int) (4611686018427387904 : Int)) (Wp x y b 0 j)
    have := mn_le (4611686018427387904 : Int) (Wp x y b 0 j)
    simp only [lst]; omega
  | i + 1, 0 =>
    rw [av_neg (.inr (by omega)), av_neg (j := ((0 : Nat) : Int) - 1) (.inr (by omega)), show ((i + 1 : Nat) : Int) - 1 = (i : Int) by omega, av_wp h (by omega) hj (by omega)]
    have := bd i 0
    have := mn_le (4611686018427387904 : Int) (Wp x y b i 0)
    have := mn_le (mn (4611686018427387904 : Int) (Wp x y b i 0)) (4611686018427387904 : Int)
    simp only [lst]; omega
  | i + 1, j + 1 =>
    rw [show ((i + 1 : Nat) : Int) - 1 = (i : Int) by omega, show ((j + 1 : Nat) : Int) - 1 = (j : Int) by omega, av_wp h (by omega) (by omega) (by omega), av_wp h (by omega) hj (by omega), av_wp h hi (by omega) (by omega)]
    have := bd i j
    have := bd i (j + 1)
    have := bd (i + 1) j
    have := mn_le (Wp x y b i j) (Wp x y b i (j + 1))
    have := mn_le (mn (Wp x y b i j) (Wp x y b i (j + 1))) (Wp x y b (i + 1) j)
    have := mn_le (4611686018427387904 : Int) (Wp x y b (i + 1) j)
    have := mn_le (mn (4611686018427387904 : Int) (Wp x y b (i + 1) j)) (Wp x y b i (j + 1))
    have := mn_le (mn (mn (4611686018427387904 : Int) (Wp x y b (i + 1) j)) (Wp x y b i (j + 1))) (Wp x y b i j)
    simp only [lst]; omega
include hx hy hb
theorem wp_sum {i j : Nat} (hi : i < x.length) (hj : j < y.length) (hn : Near b i j) : Wp x y b i j = cst x y i j + lst (Wp x y b) i j ∧ 0 ≤ lst (Wp x y b) i j ∧ lst (Wp x y b) i j ≤ (4611686018427387904 : Int) ∧ 0 ≤ cst x y i j ∧ cst x y i j ≤ 4000000 := by
  have hx2 := hx.2.1
  have hy2 := hy.2.1
  have h1 := Wp_way hx hy hb.1 _ i j (Nat.lt_succ_self _) hi hj hn
  have h2 := Wp_eq x y b i j
  rw [if_pos hn] at h2
  have h3 := mn_le (4611686018427387904 : Int) (lst (Wp x y b) i j + cst x y i j)
  have h4 := lst_bound (W := Wp x y b) (i := i) (j := j) fun a c _ => (Wp_bound x y b _ a c (Nat.lt_succ_self _)).1
  have h5 := cst_nonneg x y i j
  have h6 := cst_le hx hy hi hj
  omega
theorem cell_round {i j : Nat} (hi : i < x.length) (hj : j < y.length) (v w : Int) {o : List (List Int)} (h : Ft x y b i j o) :
    ∃ o', Ft x y b i (j + 1) o' ∧ ref14_Fill.L2 ((mat x.length y.length (cst x y), b, (), (i : Int), v, w, (y.length : Int), (j : Int), ()), (o, ())) = ref14_Fill.L2 ((mat x.length y.length (cst x y), b, (), (i : Int), v, w, (y.length : Int), ((j + 1 : Nat) : Int), ()), (o', ())) := by
  have hx2 := hx.2.1
  have hy2 := hy.2.1
  have hl := h.tm.len
  have hr := h.tm.rows i hi
  have bs : ∀ {α : Type} (o : Option α), (o.bind fun y => some y) = o := fun o => by cases o <;> rfl
  rw [ref14_Fill.L2_eq, ref14_Fill.f2]
  simp only [Int.toNat_natCast, mat_len, mat_get hi, row_len, row_get hj, bs]
  rw [dt (by omega : (j : Int) < (y.length : Int)), dt (by omega : (0 : Int) ≤ (i : Int)), dt (by omega : (i : Int) < (x.length : Int)), show ref14_out.F (((x.length : Int), ((y.length : Int), (b, ((i : Int), ((j : Int), ()))))), ()) = _ from out_ok (by omega) (by omega)]
  simp only [cond_true, Option.bind_some]
  rw [w64 (n := (j : Int) + 1) (by omega), show (j : Int) + 1 = ((j + 1 : Nat) : Int) by omega]
  by_cases hn : Near b i j
  · obtain ⟨n1, n2⟩ := id hn
    rw [df (by omega : ¬ ((i : Int) < 0 ∨ (j : Int) < 0 ∨ (i : Int) ≥ (x.length : Int) ∨ (j : Int) ≥ (y.length : Int) ∨ (i : Int) - j > b ∨ (j : Int) - i > b))]
    have hp := h.put hi hj (cst x y i j)
    obtain ⟨s1, s2, s3, s4, s5⟩ := wp_sum hx hy hb hi hj hn
    have e1 : (o.set i ((o.getD i []).set j (cst x y i j))).getD i [] = (o.getD i []).set j (cst x y i j) := getD_set_row (by omega)
    have e2 : ((o.getD i []).set j (cst x y i j)).getD j 0 = cst x y i j := by rw [getD_set (by omega), if_pos rfl]
    rw [dt (by omega : (0 : Int) ≤ (j : Int)), dt (by omega : (i : Int) < (o.length : Int)), dt (by omega : i < o.length), dt (by omega : (j : Int) < (((o.getD i []).length : Nat) : Int)), dt (by omega : j < (o.getD i []).length), w64 (n := (i : Int) + j) (by omega)]
    simp only [cond_false, cond_true]
    by_cases c : (i : Int) + j > 0
    · rw [dt c]
      simp only [cond_true]
      obtain ⟨r, hr1, q1, q2, q3, q4, q5⟩ := before_ok hp.tm (b := b) hi hj
      rw [show ref14_Before.F ((o.set i ((o.getD i []).set j (cst x y i j)), (b, ((i : Int), ((j : Int), ())))), ()) = _ from hr1]
      simp only [Option.bind_some]
      rw [show ref14_At.F ((o.set i ((o.getD i []).set j (cst x y i j)), (b, (r.1.1.1, (r.1.1.2.1, ())))), ()) = _ from at_ok hp.tm ⟨q1, q2⟩ ⟨q3, q4⟩]
      simp only [Option.bind_some]
      rw [q5, av_lst hp hi hj (by omega), e1, e2, List.length_set, List.length_set]
      rw [dt (by omega : (i : Int) < (o.length : Int)), dt (by omega : i < o.length), dt (by omega : (j : Int) < (((o.getD i []).length : Nat) : Int)), dt (by omega : j < (o.getD i []).length), w64 (by omega), ← s1, List.set_set, List.set_set]
      simp only [cond_true]
      refine ⟨_, (h.put hi hj (Wp x y b i j)).next hi hj fun _ => ?_, rfl⟩
      rw [getD_set_row (by omega), getD_set (by omega), if_pos rfl]
    · have hij : i = 0 ∧ j = 0 := by omega
      rw [df c]
      simp only [cond_false]
      refine ⟨_, hp.next hi hj fun _ => ?_, rfl⟩
      rw [e1, e2, s1, hij.1, hij.2]
      simp [lst]
  · have hno : (i : Int) < 0 ∨ (j : Int) < 0 ∨ (i : Int) ≥ (x.length : Int) ∨ (j : Int) ≥ (y.length : Int) ∨ (i : Int) - j > b ∨ (j : Int) - i > b := by
      by_cases h1 : (i : Int) - j ≤ b
      · have : ¬ (j : Int) - i ≤ b := fun h2 => hn ⟨h1, h2⟩
        omega
      · omega
    rw [dt hno]
    simp only [cond_true]
    exact ⟨o, h.next hi hj fun k => absurd k hn, rfl⟩
theorem fill_row {i : Nat} (hi : i < x.length) (v w : Int) : ∀ (k j : Nat) (o : List (List Int)), j + k = y.length → Ft x y b i j o →
    Ok (ref14_Fill.L2 ((mat x.length y.length (cst x y), b, (), (i : Int), v, w, (y.length : Int), (j : Int), ()), (o, ()))) (fun r => ∃ o', r = Sum.inl ((mat x.length y.length (cst x y), b, (), v, w, ()), (o', ())) ∧ Ft x y b (i + 1) 0 o') := by
  intro k
  induction k with
  | zero =>
    intro j o h ho
    rw [ref14_Fill.L2_eq, ref14_Fill.f2, df (by omega)]
    exact .some ⟨o, rfl, ho.tm, fun a c ha hc hp hn => ho.val a c ha hc (by omega) hn⟩
  | succ k ih =>
    intro j o h ho
    obtain ⟨o', ho', e⟩ := cell_round hx hy hb hi (by omega) v w ho
    rw [e]
    exact ih (j + 1) o' (by omega) ho'
theorem fill_rows : ∀ (k i : Nat) (o : List (List Int)), i + k = x.length → Ft x y b i 0 o →
    Ok (ref14_Fill.L1 ((mat x.length y.length (cst x y), b, (), (x.length : Int), (i : Int), ()), (o, ()))) (fun r => ∃ o', r = Sum.inl (((), ()), (o', ())) ∧ Ft x y b x.length 0 o') := by
  have hx2 := hx.2.1
  have hy2 := hy.2.1
  intro k
  induction k with
  | zero =>
    intro i o h ho
    rw [ref14_Fill.L1_eq, ref14_Fill.f1, df (by omega)]
    exact .some ⟨o, rfl, by have e : i = x.length := by omega
                            rw [e] at ho; exact ho⟩
  | succ k ih =>
    intro i o h ho
    rw [ref14_Fill.L1_eq, ref14_Fill.f1]
    simp only [Int.toNat_natCast, mat_len, mat_get (show i < x.length by omega), row_len]
    rw [dt (by omega : (i : Int) < (x.length : Int)), dt (by omega : (0 : Int) ≤ (i : Int))]
    simp only [cond_true]
    refine .bind (fill_row hx hy hb (by omega) _ _ y.length 0 o (by omega) ho) ?_
    rintro _ ⟨o', rfl, ho'⟩
    simp only [Sum.elim_inl]
    rw [w64 (by omega), show (i : Int) + 1 = ((i + 1 : Nat) : Int) by omega]
    exact .bind (ih (i + 1) o' (by omega) ho') fun r hr => .some hr
omit hb in
theorem fill_init : ∀ (k i : Nat) (o : List (List Int)), i + k = x.length → o.length = x.length → (∀ a, a < i → (o.getD a []).length = y.length) →
    Ok (ref14_Fill.L0 ((mat x.length y.length (cst x y), b, (), (x.length : Int), (i : Int), ()), (o, ()))) (fun r => ∃ o', r = Sum.inl ((mat x.length y.length (cst x y), b, (), ()), (o', ())) ∧ o'.length = x.length ∧ ∀ a, a < x.length → (o'.getD a []).length = y.length) := by
  have hx2 := hx.2.1
  have hy2 := hy.2.1
  intro k
  induction k with
  | zero =>
    intro i o h ho hr
    rw [ref14_Fill.L0_eq, ref14_Fill.f0, df (by omega)]
    exact .some ⟨o, rfl, ho, fun a ha => hr a (by omega)⟩
  | succ k ih =>
    intro i o h ho hr
    rw [ref14_Fill.L0_eq, ref14_Fill.f0]
    simp only [Int.toNat_natCast, mat_len, mat_get (show i < x.length by omega), row_len]
    rw [dt (by omega : (i : Int) < (x.length : Int)), dt (by omega : (0 : Int) ≤ (i : Int)), dt (trivial : True), dt (by omega : (((8 : Nat) : Nat) : Int) * (y.length : Int) ≤ 281474976710656), dt (by omega : (i : Int) < (o.length : Int)), dt (by omega : i < o.length), w64 (by omega), show (i : Int) + 1 = ((i + 1 : Nat) : Int) by omega]
    simp only [cond_true, Bool.and_self]
    refine .bind (ih (i + 1) _ (by omega) (by rw [List.length_set]; exact ho) fun a ha => ?_) fun r hr => .some hr
    rw [getD_set (by omega)]
    split
    · simp
    · exact hr a (by omega)
theorem rfill_ok : Ok (ref14_Fill.F ((mat x.length y.length (cst x y), b, ()), ())) (fun r => Ft x y b x.length 0 r.1.1) := by
  have hx1 := hx.1
  have hy1 := hy.1
  have hx2 := hx.2.1
  have hy2 := hy.2.1
  rw [ref14_Fill.F_eq, ref14_Fill.f]
  simp only [mat_len, Int.toNat_natCast]
  rw [dt (trivial : True), dt (by omega : (((24 : Nat) : Nat) : Int) * (x.length : Int) ≤ 281474976710656)]
  simp only [cond_true, Bool.and_self]
  refine .bind (fill_init hx hy (b := b) x.length 0 _ (by omega) (by simp) fun a ha => by omega) ?_
  rintro _ ⟨o1, rfl, l1, l2⟩
  simp only [Sum.elim_inl, mat_len]
  refine .bind (fill_rows hx hy hb x.length 0 o1 (by omega) ⟨⟨l1, l2, by omega, by omega⟩, fun a c _ _ h => by omega⟩) ?_
  rintro _ ⟨o2, rfl, h2⟩
  exact .some h2
theorem rwDistance_ok (hn : (x.length : Int) - y.length ≤ b ∧ (y.length : Int) - x.length ≤ b) : ref14_Distance.F ((x, y, b, ()), ()) = some ((Wp x y b (x.length - 1) (y.length - 1), 0, ()), ()) := by
  have hx1 := hx.1
  have hy1 := hy.1
  have hx2 := hx.2.1
  have hy2 := hy.2.1
  have hc : ref14_Check.F ((x, y, b, ()), ()) = some ((0, ()), ()) := by
    rw [ref14_Check.F_eq, ref14_Check.f, df (by omega), df (by omega), show ref12_Two.F ((x, (y, (b, ()))), ()) = _ from rtwo_ok hx hy hn]; rfl
  obtain ⟨⟨⟨o, _⟩, _⟩, h1, h2⟩ := rfill_ok hx hy hb
  have r := h2.tm.rows (x.length - 1) (by omega)
  have l := h2.tm.len
  have v := h2.val (x.length - 1) (y.length - 1) (by omega) (by omega) (.inl (by omega)) ⟨by omega, by omega⟩
  rw [ref14_Distance.F_eq, ref14_Distance.f, hc]
  simp only [Option.bind_some]
  rw [nt rfl, costs_ok hx hy]
  simp only [Option.bind_some, cond_false]
  rw [show ref14_Fill.F ((mat x.length y.length (cst x y), (b, ())), ()) = _ from h1]
  simp only [Option.bind_some]
  rw [w64 (by omega), w64 (by omega), show ((x.length : Int) - 1).toNat = x.length - 1 by omega, show ((y.length : Int) - 1).toNat = y.length - 1 by omega]
  simp only at r l v
  rw [r, l, v, dt (by omega), dt (by omega), dt (by omega), dt (by omega)]
  rfl
end
end Go.Proofs.Ytefcciajemkicaa.V
