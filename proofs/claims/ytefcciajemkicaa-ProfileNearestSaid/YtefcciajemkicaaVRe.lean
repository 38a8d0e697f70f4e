/- The reference's edit distance, and its distance by any measure. -/
import Derived.Test.YtefcciajemkicaaVg4
import Derived.Test.YtefcciajemkicaaVBase
import Derived.Test.YtefcciajemkicaaVEuc
import Derived.Test.YtefcciajemkicaaVWarp
import Derived.Test.YtefcciajemkicaaVGcd
import Derived.Test.YtefcciajemkicaaVWarp2
import Derived.Test.YtefcciajemkicaaVDec
import Derived.Test.YtefcciajemkicaaVText
import Derived.Test.YtefcciajemkicaaVMv
import Derived.Test.YtefcciajemkicaaVDisk
import Derived.Test.YtefcciajemkicaaVEdit
import Derived.Test.YtefcciajemkicaaVGap
import Derived.Test.YtefcciajemkicaaVMD
import Derived.Test.YtefcciajemkicaaVRd
import Derived.Test.YtefcciajemkicaaVRw
import Derived.Test.YtefcciajemkicaaVRw2
set_option linter.unusedVariables false
set_option linter.unusedSimpArgs false
namespace Go.Proofs.Ytefcciajemkicaa.V
open Go.VI
theorem rabs_ok {a b : Int} (ha : -1000 ≤ a ∧ a ≤ 1000) (hb : -1000 ≤ b ∧ b ≤ 1000) : ref15_Abs.F ((a - b, ()), ()) = some ((ab a b, ()), ()) := by
  rw [ref15_Abs.F_eq, ref15_Abs.f, w64 (by omega), show (0 : Int) - (a - b) = b - a by omega]; rfl
section
variable {x y : List Int} {g : Int} (hx : Wn x) (hy : Wn y) (hg : -1000 ≤ g ∧ g ≤ 1000)
/-- What is known of the table ahead of a cell. -/
structure Etb (x y : List Int) (g : Int) (i j : Nat) (o : List (List Int)) : Prop where
  len : o.length = x.length + 1
  rows : ∀ a, a ≤ i → (o.getD a []).length = y.length + 1
  val : ∀ a c, a ≤ i → c ≤ y.length → a < i ∨ (a = i ∧ c < j) → (o.getD a []).getD c 0 = Ed x y g a c
  zero : i = 0 → j = 0 → (o.getD 0 []).getD 0 0 = 0
theorem Etb.put {i j : Nat} {o : List (List Int)} (h : Etb x y g i j o) (hi : i ≤ x.length) (hj : j ≤ y.length) : Etb x y g i (j + 1) (o.set i ((o.getD i []).set j (Ed x y g i j))) := by
  have hl := h.len
  have hr := h.rows i (Nat.le_refl _)
  refine ⟨by rw [List.length_set]; exact hl, fun a ha => ?_, fun a c ha hc hp => ?_, fun _ h => by omega⟩
  · rw [getD_set (by omega)]
    split
    · rw [List.length_set]; exact hr
    · exact h.rows a ha
  · rw [getD_set (by omega)]
    by_cases e : a = i
    · subst e
      rw [if_pos rfl, getD_set (by omega)]
      by_cases e2 : c = j
      · rw [if_pos e2, e2]
      · rw [if_neg e2]; exact h.val a c ha hc (by omega)
    · rw [if_neg e]; exact h.val a c ha hc (by omega)
theorem el2 (i j best v w s t : Int) (o : List (List Int)) : ref15_table.L2 ((x, y, g, (), i, j, best, v, w, s, t, ()), (o, ())) = some (Sum.inl ((x, y, g, (), i, j, best, v, w, s, t, (decide (i > 0) && decide (j > 0)), ()), (o, ()))) := by
  rw [ref15_table.L2_eq, ref15_table.f2]; cases decide (i > 0) <;> rfl
theorem el3 (i j best v w s t : Int) (o : List (List Int)) : ref15_table.L3 ((x, y, g, (), i, j, best, v, w, s, t, false, ()), (o, ())) = some (Sum.inl ((x, y, g, (), i, j, best, v, w, s, t, ()), (o, ()))) := by
  rw [ref15_table.L3_eq, ref15_table.f3]; rfl
include hx hy hg
theorem el3t {i j : Nat} (hi : i < x.length) (hj : j < y.length) (best v w s t : Int) {o : List (List Int)} (h : Etb x y g (i + 1) (j + 1) o) :
    ref15_table.L3 ((x, y, g, (), ((i + 1 : Nat) : Int), ((j + 1 : Nat) : Int), best, v, w, s, t, true, ()), (o, ())) = some (Sum.inl ((x, y, g, (), ((i + 1 : Nat) : Int), ((j + 1 : Nat) : Int), Ed x y g i j + ab (x.getD i 0) (y.getD j 0), v, w, s, t, ()), (o, ()))) := by
  have hx2 := hx.2.1
  have hy2 := hy.2.1
  have gx := hx.get hi
  have gy := hy.get hj
  have hl := h.len
  have hr := h.rows i (by omega)
  have hv := h.val i j (by omega) (by omega) (.inl (by omega))
  have bd := Ed_bd hx hy hg _ i j (Nat.lt_succ_self _) (by omega) (by omega)
  have ba := ab_bd gx gy
  rw [ref15_table.L3_eq, ref15_table.f3, w64 (n := ((i + 1 : Nat) : Int) - 1) (by omega), w64 (n := ((j + 1 : Nat) : Int) - 1) (by omega), show ((i + 1 : Nat) : Int) - 1 = (i : Int) by omega, show ((j + 1 : Nat) : Int) - 1 = (j : Int) by omega]
  simp only [Int.toNat_natCast, hr, hv]
  rw [dt (by omega : (0 : Int) ≤ (i : Int)), dt (by omega : (i : Int) < (o.length : Int)), dt (by omega : i < o.length), dt (by omega : (0 : Int) ≤ (j : Int)), dt (by omega : (j : Int) < ((y.length + 1 : Nat) : Int)), dt (by omega : j < y.length + 1), dt (by omega : (i : Int) < (x.length : Int)), dt (by omega : (j : Int) < (y.length : Int)), w64 (n := x.getD i 0 - y.getD j 0) (by omega), rabs_ok gx gy]
  simp only [cond_true, Option.bind_some]
  rw [w64 (by omega)]
theorem ed_round {i j : Nat} (hi : i ≤ x.length) (hj : j ≤ y.length) (v w : Int) {o : List (List Int)} (h : Etb x y g i j o) :
    ∃ o', Etb x y g i (j + 1) o' ∧ ref15_table.L1 ((x, y, g, (), (i : Int), v, w, ((y.length + 1 : Nat) : Int), (j : Int), ()), (o, ())) = ref15_table.L1 ((x, y, g, (), (i : Int), v, w, ((y.length + 1 : Nat) : Int), ((j + 1 : Nat) : Int), ()), (o', ())) := by
  have hx2 := hx.2.1
  have hy2 := hy.2.1
  have hl := h.len
  have hr := h.rows i (Nat.le_refl _)
  have bs : ∀ {α : Type} (o : Option α), (o.bind fun y => some y) = o := fun o => by cases o <;> rfl
  have bd : ∀ a c, a ≤ x.length → c ≤ y.length → 0 ≤ Ed x y g a c ∧ Ed x y g a c ≤ 128000 := fun a c h1 h2 => by have := Ed_bd hx hy hg _ a c (Nat.lt_succ_self _) h1 h2; omega
  have hp := h.put hi hj
  rw [ref15_table.L1_eq, ref15_table.f1, dt (by omega : (j : Int) < ((y.length + 1 : Nat) : Int)), w64 (n := (i : Int) + j) (by omega), w64 (n := (j : Int) + 1) (by omega), show (j : Int) + 1 = ((j + 1 : Nat) : Int) by omega]
  simp only [bs, cond_true]
  match i, j, hi, hj, h, hr, hp with
  | 0, 0, hi, hj, h, hr, hp =>
    rw [bt (by omega)]
    exact ⟨o, ⟨h.len, h.rows, fun a c ha hc hpp => by
      obtain rfl : a = 0 := by omega
      obtain rfl : c = 0 := by omega
      rw [h.zero rfl rfl]; rfl, fun _ h => by omega⟩, rfl⟩
  | 0, j + 1, hi, hj, h, hr, hp =>
    have gy := hy.get (i := j) (by omega)
    have hv := h.val 0 j (by omega) (by omega) (.inr ⟨rfl, by omega⟩)
    have b1 := bd 0 j (by omega) (by omega)
    have ba := ab_bd gy hg
    rw [bf (by omega)]
    simp only [cond_false]
    rw [show ref15_table.L2 ((x, (y, (g, ((), (((0 : Nat) : Int), (((j + 1 : Nat) : Int), ((4611686018427387904 : Int), (v, (w, (((y.length + 1 : Nat) : Int), (((j + 1 : Nat) : Int), ()))))))))))), (o, ())) = _ from el2 ..]
    simp only [Option.bind_some, Sum.elim_inl]
    rw [df (by omega : ¬ ((0 : Nat) : Int) > 0), Bool.false_and]
    rw [show ref15_table.L3 ((x, (y, (g, ((), (((0 : Nat) : Int), (((j + 1 : Nat) : Int), ((4611686018427387904 : Int), (v, (w, (((y.length + 1 : Nat) : Int), (((j + 1 : Nat) : Int), (false, ())))))))))))), (o, ())) = _ from el3 ..]
    simp only [Option.bind_some, Sum.elim_inl, cond_false]
    rw [df (by omega : ¬ ((0 : Nat) : Int) > 0), dt (by omega : ((j + 1 : Nat) : Int) > 0), w64 (n := ((j + 1 : Nat) : Int) - 1) (by omega), show ((j + 1 : Nat) : Int) - 1 = (j : Int) by omega]
    simp only [Int.toNat_natCast, hr, hv, cond_true, cond_false]
    rw [dt (by omega : (0 : Int) ≤ ((0 : Nat) : Int)), dt (by omega : ((0 : Nat) : Int) < (o.length : Int)), dt (by omega : 0 < o.length), dt (by omega : (0 : Int) ≤ (j : Int)), dt (by omega : (j : Int) < ((y.length + 1 : Nat) : Int)), dt (by omega : j < y.length + 1), dt (by omega : (j : Int) < (y.length : Int)),
      w64 (n := y.getD j 0 - g) (by omega), rabs_ok gy hg]
    simp only [cond_true, Option.bind_some]
    rw [dt (by omega : (0 : Int) ≤ ((j + 1 : Nat) : Int)), dt (by omega : ((j + 1 : Nat) : Int) < ((y.length + 1 : Nat) : Int)), dt (by omega : j + 1 < y.length + 1), w64 (n := Ed x y g 0 j + ab (y.getD j 0) g) (by omega), w64 (n := ((j + 1 : Nat) : Int) + 1) (by omega), show ((j + 1 : Nat) : Int) + 1 = ((j + 1 + 1 : Nat) : Int) by omega]
    simp only [cond_true, bs]
    refine ⟨_, hp, ?_⟩
    rw [Ed_0s, show mn (4611686018427387904 : Int) (Ed x y g 0 j + ab (y.getD j 0) g) = Ed x y g 0 j + ab (y.getD j 0) g by have := mn_le (4611686018427387904 : Int) (Ed x y g 0 j + ab (y.getD j 0) g); omega]
  | i + 1, 0, hi, hj, h, hr, hp =>
    have gx := hx.get (i := i) (by omega)
    have hv := h.val i 0 (by omega) (by omega) (.inl (by omega))
    have hr' := h.rows i (by omega)
    have b1 := bd i 0 (by omega) (by omega)
    have ba := ab_bd gx hg
    rw [bf (by omega)]
    simp only [cond_false]
    rw [show ref15_table.L2 ((x, (y, (g, ((), (((i + 1 : Nat) : Int), (((0 : Nat) : Int), ((4611686018427387904 : Int), (v, (w, (((y.length + 1 : Nat) : Int), (((0 : Nat) : Int), ()))))))))))), (o, ())) = _ from el2 ..]
    simp only [Option.bind_some, Sum.elim_inl]
    rw [df (by omega : ¬ ((0 : Nat) : Int) > 0), Bool.and_false]
    rw [show ref15_table.L3 ((x, (y, (g, ((), (((i + 1 : Nat) : Int), (((0 : Nat) : Int), ((4611686018427387904 : Int), (v, (w, (((y.length + 1 : Nat) : Int), (((0 : Nat) : Int), (false, ())))))))))))), (o, ())) = _ from el3 ..]
    simp only [Option.bind_some, Sum.elim_inl]
    rw [df (by omega : ¬ ((0 : Nat) : Int) > 0), dt (by omega : ((i + 1 : Nat) : Int) > 0), w64 (n := ((i + 1 : Nat) : Int) - 1) (by omega), show ((i + 1 : Nat) : Int) - 1 = (i : Int) by omega]
    simp only [Int.toNat_natCast, hr, hr', hv, cond_true, cond_false]
    rw [dt (by omega : (0 : Int) ≤ (i : Int)), dt (by omega : (i : Int) < (o.length : Int)), dt (by omega : i < o.length), dt (by omega : (0 : Int) ≤ ((0 : Nat) : Int)), dt (by omega : ((0 : Nat) : Int) < ((y.length + 1 : Nat) : Int)), dt (by omega : 0 < y.length + 1), dt (by omega : (i : Int) < (x.length : Int)),
      w64 (n := x.getD i 0 - g) (by omega), rabs_ok gx hg]
    simp only [cond_true, Option.bind_some]
    rw [dt (by omega : (0 : Int) ≤ ((i + 1 : Nat) : Int)), dt (by omega : ((i + 1 : Nat) : Int) < (o.length : Int)), dt (by omega : i + 1 < o.length), w64 (n := Ed x y g i 0 + ab (x.getD i 0) g) (by omega), w64 (n := ((0 : Nat) : Int) + 1) (by omega), show ((0 : Nat) : Int) + 1 = ((0 + 1 : Nat) : Int) by omega]
    simp only [cond_true, bs]
    refine ⟨_, hp, ?_⟩
    rw [Ed_s0, show mn (4611686018427387904 : Int) (Ed x y g i 0 + ab (x.getD i 0) g) = Ed x y g i 0 + ab (x.getD i 0) g by have := mn_le (4611686018427387904 : Int) (Ed x y g i 0 + ab (x.getD i 0) g); omega]
  | i + 1, j + 1, hi, hj, h, hr, hp =>
    have gx := hx.get (i := i) (by omega)
    have gy := hy.get (i := j) (by omega)
    have hv1 := h.val i (j + 1) (by omega) (by omega) (.inl (by omega))
    have hv2 := h.val (i + 1) j (by omega) (by omega) (.inr ⟨rfl, by omega⟩)
    have hr' := h.rows i (by omega)
    have b0 := bd i j (by omega) (by omega)
    have b1 := bd i (j + 1) (by omega) (by omega)
    have b2 := bd (i + 1) j (by omega) (by omega)
    have a1 := ab_bd gx hg
    have a2 := ab_bd gy hg
    rw [bf (by omega)]
    simp only [cond_false]
    rw [show ref15_table.L2 ((x, (y, (g, ((), (((i + 1 : Nat) : Int), (((j + 1 : Nat) : Int), ((4611686018427387904 : Int), (v, (w, (((y.length + 1 : Nat) : Int), (((j + 1 : Nat) : Int), ()))))))))))), (o, ())) = _ from el2 ..]
    simp only [Option.bind_some, Sum.elim_inl]
    rw [dt (by omega : ((j + 1 : Nat) : Int) > 0), dt (by omega : ((i + 1 : Nat) : Int) > 0), Bool.and_self]
    rw [show ref15_table.L3 ((x, (y, (g, ((), (((i + 1 : Nat) : Int), (((j + 1 : Nat) : Int), ((4611686018427387904 : Int), (v, (w, (((y.length + 1 : Nat) : Int), (((j + 1 : Nat) : Int), (true, ())))))))))))), (o, ())) = _ from el3t hx hy hg (by omega) (by omega) (4611686018427387904 : Int) v w _ _ h]
    simp only [Option.bind_some, Sum.elim_inl]
    rw [dt (by omega : ((j + 1 : Nat) : Int) > 0), dt (by omega : ((i + 1 : Nat) : Int) > 0), w64 (n := ((i + 1 : Nat) : Int) - 1) (by omega), w64 (n := ((j + 1 : Nat) : Int) - 1) (by omega), show ((i + 1 : Nat) : Int) - 1 = (i : Int) by omega, show ((j + 1 : Nat) : Int) - 1 = (j : Int) by omega]
    simp only [Int.toNat_natCast, hr, hr', hv1, hv2, cond_true]
    rw [dt (by omega : (0 : Int) ≤ (i : Int)), dt (by omega : (i : Int) < (o.length : Int)), dt (by omega : i < o.length), dt (by omega : (0 : Int) ≤ ((j + 1 : Nat) : Int)), dt (by omega : ((j + 1 : Nat) : Int) < ((y.length + 1 : Nat) : Int)), dt (by omega : j + 1 < y.length + 1), dt (by omega : (i : Int) < (x.length : Int)),
      w64 (n := x.getD i 0 - g) (by omega), rabs_ok gx hg]
    simp only [cond_true, Option.bind_some]
    rw [dt (by omega : (0 : Int) ≤ ((i + 1 : Nat) : Int)), dt (by omega : ((i + 1 : Nat) : Int) < (o.length : Int)), dt (by omega : i + 1 < o.length), dt (by omega : (0 : Int) ≤ (j : Int)), dt (by omega : (j : Int) < ((y.length + 1 : Nat) : Int)), dt (by omega : j < y.length + 1), dt (by omega : (j : Int) < (y.length : Int)),
      w64 (n := y.getD j 0 - g) (by omega), rabs_ok gy hg]
    simp only [cond_true, Option.bind_some]
    rw [w64 (n := Ed x y g i (j + 1) + ab (x.getD i 0) g) (by omega), w64 (n := Ed x y g (i + 1) j + ab (y.getD j 0) g) (by omega), w64 (n := ((j + 1 : Nat) : Int) + 1) (by omega), show ((j + 1 : Nat) : Int) + 1 = ((j + 1 + 1 : Nat) : Int) by omega]
    exact ⟨_, hp, rfl⟩
theorem ed_row {i : Nat} (hi : i ≤ x.length) (v w : Int) : ∀ (k j : Nat) (o : List (List Int)), j + k = y.length + 1 → Etb x y g i j o →
    Ok (ref15_table.L1 ((x, y, g, (), (i : Int), v, w, ((y.length + 1 : Nat) : Int), (j : Int), ()), (o, ()))) (fun r => ∃ o', r = Sum.inl ((x, y, g, (), v, w, ()), (o', ())) ∧ Etb x y g i (y.length + 1) o') := by
  intro k
  induction k with
  | zero =>
    intro j o h ho
    rw [ref15_table.L1_eq, ref15_table.f1, df (by omega)]
    have e : j = y.length + 1 := by omega
    rw [e] at ho
    exact .some ⟨o, rfl, ho⟩
  | succ k ih =>
    intro j o h ho
    obtain ⟨o', ho', e⟩ := ed_round hx hy hg hi (by omega) v w ho
    rw [e]
    exact ih (j + 1) o' (by omega) ho'
theorem ed_rows : ∀ (k i : Nat) (o : List (List Int)), i + k = x.length + 1 → o.length = x.length + 1 → (∀ a, a < i → (o.getD a []).length = y.length + 1) → (∀ a c, a < i → c ≤ y.length → (o.getD a []).getD c 0 = Ed x y g a c) →
    Ok (ref15_table.L0 ((x, y, g, (), ((x.length + 1 : Nat) : Int), (i : Int), ()), (o, ()))) (fun r => ∃ o', r = Sum.inl (((), ()), (o', ())) ∧ o'.length = x.length + 1 ∧ (∀ a, a < x.length + 1 → (o'.getD a []).length = y.length + 1) ∧ ∀ a c, a < x.length + 1 → c ≤ y.length → (o'.getD a []).getD c 0 = Ed x y g a c) := by
  have hx2 := hx.2.1
  have hy2 := hy.2.1
  intro k
  induction k with
  | zero =>
    intro i o h ho hr hv
    rw [ref15_table.L0_eq, ref15_table.f0, df (by omega)]
    exact .some ⟨o, rfl, ho, fun a ha => hr a (by omega), fun a c ha hc => hv a c (by omega) hc⟩
  | succ k ih =>
    intro i o h ho hr hv
    have e1 : (o.set i (List.replicate (y.length + 1) 0)).getD i [] = List.replicate (y.length + 1) 0 := getD_set_row (by omega)
    rw [ref15_table.L0_eq, ref15_table.f0, w64 (n := (y.length : Int) + 1) (by omega), show (y.length : Int) + 1 = ((y.length + 1 : Nat) : Int) by omega]
    simp only [Int.toNat_natCast, List.length_set, e1, List.length_replicate]
    rw [dt (by omega : (i : Int) < ((x.length + 1 : Nat) : Int)), dt (trivial : True), dt (by omega : (0 : Int) ≤ ((y.length + 1 : Nat) : Int)), dt (by omega : (((8 : Nat) : Nat) : Int) * ((y.length + 1 : Nat) : Int) ≤ 281474976710656), dt (by omega : (0 : Int) ≤ (i : Int)), dt (by omega : (i : Int) < (o.length : Int)), dt (by omega : i < o.length)]
    simp only [cond_true, Bool.and_self]
    have g0 : Etb x y g i 0 (o.set i (List.replicate (y.length + 1) 0)) := by
      refine ⟨by rw [List.length_set]; exact ho, fun a ha => ?_, fun a c ha hc hp => ?_, fun e _ => ?_⟩
      · rw [getD_set (by omega)]
        split
        · simp
        · exact hr a (by omega)
      · rw [getD_set (by omega), if_neg (by omega)]; exact hv a c (by omega) hc
      · subst e; rw [e1, List.getD_eq_getElem?_getD, List.getElem?_replicate]; rfl
    refine .bind (ed_row hx hy hg (by omega) _ _ (y.length + 1) 0 _ (by omega) g0) ?_
    rintro _ ⟨o', rfl, ho'⟩
    simp only [Sum.elim_inl]
    rw [w64 (by omega), show (i : Int) + 1 = ((i + 1 : Nat) : Int) by omega]
    exact .bind (ih (i + 1) o' (by omega) ho'.len (fun a ha => ho'.rows a (by omega)) (fun a c ha hc => ho'.val a c (by omega) hc (by omega))) fun r hr => .some hr
theorem rtable_ok : Ok (ref15_table.F ((x, y, g, ()), ())) (fun r => r.1.1.length = x.length + 1 ∧ (∀ a, a < x.length + 1 → (r.1.1.getD a []).length = y.length + 1) ∧ ∀ a c, a < x.length + 1 → c ≤ y.length → (r.1.1.getD a []).getD c 0 = Ed x y g a c) := by
  have hx2 := hx.2.1
  have hy2 := hy.2.1
  rw [ref15_table.F_eq, ref15_table.f, w64 (n := (x.length : Int) + 1) (by omega), show (x.length : Int) + 1 = ((x.length + 1 : Nat) : Int) by omega]
  simp only [Int.toNat_natCast, List.length_replicate]
  rw [dt (trivial : True), dt (by omega : (0 : Int) ≤ ((x.length + 1 : Nat) : Int)), dt (by omega : (((24 : Nat) : Nat) : Int) * ((x.length + 1 : Nat) : Int) ≤ 281474976710656)]
  simp only [cond_true, Bool.and_self]
  refine .bind (ed_rows hx hy hg (x.length + 1) 0 _ (by omega) (by simp) (fun a ha => by omega) (fun a c ha => by omega)) ?_
  rintro _ ⟨o', rfl, h1, h2, h3⟩
  exact .some ⟨h1, h2, h3⟩
theorem redDistance_ok : ref15_Distance.F ((x, y, g, ()), ()) = some ((Ed x y g x.length y.length, 0, ()), ()) := by
  have hx2 := hx.2.1
  have hy2 := hy.2.1
  have hc : ref15_check.F ((x, y, g, ()), ()) = some ((0, ()), ()) := by
    rw [ref15_check.F_eq, ref15_check.f, rsample_ok, dt hg]
    simp only [Option.bind_some, Bool.not_true, cond_false]
    rw [show ref12_Two.F ((x, (y, ((32 : Int), ()))), ()) = _ from rtwo_ok hx hy (by omega)]; rfl
  refine Ok.eq ?_
  rw [ref15_Distance.F_eq, ref15_Distance.f, hc]
  simp only [Option.bind_some]
  rw [nt rfl]
  refine .bind (rtable_ok hx hy hg) ?_
  rintro ⟨⟨o, _⟩, _⟩ ⟨h2, h3, h4⟩
  dsimp only at h2 h3 h4 ⊢
  simp only [Int.toNat_natCast]
  have h5 := h3 x.length (by omega)
  rw [dt (by omega : (x.length : Int) < (o.length : Int)), dt (by omega : (y.length : Int) < (((o.getD x.length []).length : Nat) : Int)), h4 _ _ (by omega) (Nat.le_refl _)]
  exact .some rfl
end
theorem rcheck_ok {k b g : Int} (hm : Mv k b g) : ref17_Check.F (((k, b, g, ()), ()), ()) = some ((0, ()), ()) := by
  obtain ⟨m1, m2, m3⟩ := hm
  rw [ref17_Check.F_eq, ref17_Check.f, ref17_Check.L0_eq, ref17_Check.f0, df (by omega), df (by omega), df (by omega), df (by omega), rsample_ok, dt (by omega : -1000 ≤ g ∧ g ≤ 1000)]
  by_cases c : k = 4
  · rw [nt c, nf (by omega : k ≠ 5)]
    simp only [cond_false, cond_true, Option.bind_some, Bool.not_true]
    rw [nt (by omega : g = 0)]; rfl
  · rw [nf c, nt (by omega : b = 0)]
    simp only [cond_false, cond_true, Option.bind_some, Bool.not_true]
    by_cases c5 : k = 5
    · rw [nt c5]; rfl
    · rw [nf c5, nt (by omega : g = 0)]; rfl
/-- The reference's distance. -/
theorem rdist_ok {k b g : Int} {x y : List Int} (hm : Mv k b g) (h : Fit k b x y) : ref17_Distance.F (((k, b, g, ()), x, y, ()), ()) = some ((((MD k b g x y).1, (MD k b g x y).2, ()), 0, ()), ()) := by
  have hc := rcheck_ok hm
  obtain ⟨hx, hy, hw, hl⟩ := h
  obtain ⟨m1, m2, m3⟩ := hm
  rw [ref17_Distance.F_eq, ref17_Distance.f, show ref17_Check.F (((k, (b, (g, ()))), ()), ()) = _ from hc]
  simp only [Option.bind_some]
  rw [nt rfl]
  simp only [cond_false]
  unfold MD
  by_cases k1 : k = 1
  · subst k1
    rw [bf (by omega : (1 : Int) ≠ 2), bf (by omega : (1 : Int) ≠ 3), bt rfl, reDistance_ok hx hy (hl (by omega) (by omega)), if_pos rfl]; rfl
  rw [if_neg k1]
  by_cases k2 : k = 2
  · subst k2
    rw [bt rfl, rShifted_ok hx hy (hl (by omega) (by omega)), if_pos rfl]; rfl
  rw [if_neg k2]
  by_cases k3 : k = 3
  · subst k3
    rw [bf (by omega : (3 : Int) ≠ 2), bt rfl, rGap_ok hx hy (hl (by omega) (by omega)), if_pos rfl]; rfl
  rw [if_neg k3, bf k2, bf k3, bf k1]
  by_cases k4 : k = 4
  · subst k4
    rw [bt rfl, show ref14_Distance.F ((x, (y, (b, ()))), ()) = _ from rwDistance_ok hx hy (by omega) (hw rfl), if_pos rfl]; rfl
  · rw [bf k4, if_neg k4, show ref15_Distance.F ((x, (y, (g, ()))), ()) = _ from redDistance_ok hx hy (by omega)]; rfl
end Go.Proofs.Ytefcciajemkicaa.V
