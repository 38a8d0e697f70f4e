/- The reader of numbers of the second kind (shapesearchsecond.Deck). -/
import Derived.Test.YtefcciajemkicaaVg3
import Derived.Test.YtefcciajemkicaaVBase
import Derived.Test.YtefcciajemkicaaVEuc
import Derived.Test.YtefcciajemkicaaVMv
set_option linter.unusedVariables false
set_option linter.unusedSimpArgs false
namespace Go.Proofs.Ytefcciajemkicaa.V
open Go.VI
/-- A reader that stands within its list of at most 400 numbers. -/
def Dk (L : List Int) (i : Int) : Prop := 0 ≤ i ∧ i ≤ (L.length : Int) ∧ L.length ≤ 400 ∧ ∀ x ∈ L, I64 x
/-- Samples, some of them missing. -/
def Sv (l : List Int) : Prop := ∀ v ∈ l, v = 1073741824 ∨ (-1000 ≤ v ∧ v ≤ 1000)
theorem few_ok (l : List Int) : second_Few.F ((l, ()), ()) = some ((decide ((l.length : Int) ≤ 400), ()), ()) := by rw [second_Few.F_eq, second_Few.f]
theorem dnew_ok {l : List Int} (h : ∀ x ∈ l, I64 x) (hl : l.length ≤ 400) : second_New.F ((l, ()), ()) = some (((), ()), ((l, 0, ()), ())) ∧ Dk l 0 := by
  refine ⟨by rw [second_New.F_eq, second_New.f], by omega, by omega, hl, h⟩
theorem dmod_ok (a b : Int) (hb : 1 ≤ b ∧ b ≤ 1000000) : Ok (second_Mod.F ((a, b, ()), ())) (fun r => 0 ≤ r.1.1 ∧ r.1.1 < b) := by
  have h := tmod_pos (a := a) (b := b) (by omega)
  rw [second_Mod.F_eq, second_Mod.f, df (by omega), w64 (by omega)]
  have := tmod_nonneg' (a := Int.tmod a b + b) (b := b) (by omega) (by omega)
  exact .some this
theorem next_ok {L : List Int} {i : Int} (h : Dk L i) (n : Int) (hn : 1 ≤ n ∧ n ≤ 1000000) : Ok (second_Deck_Next.F (((), n, ()), ((L, i, ()), ()))) (fun r => Dk r.2.1.1 r.2.1.2.1 ∧ 0 ≤ r.1.1 ∧ r.1.1 < n) := by
  obtain ⟨h0, h1, h2, h3⟩ := h
  rw [second_Deck_Next.F_eq, second_Deck_Next.f, second_Deck_Next.L0_eq, second_Deck_Next.f0]
  by_cases c : i ≥ (L.length : Int)
  · rw [dt c]
    exact .some ⟨⟨h0, h1, h2, h3⟩, by dsimp only; omega, by dsimp only; omega⟩
  · rw [df c]
    simp only [cond_false, Option.bind_some, Sum.elim_inl]
    refine .cond (fun c2 => .some ⟨⟨h0, h1, h2, h3⟩, by dsimp only; omega, by dsimp only; omega⟩) fun c2 => ?_
    rw [w64 (n := i + 1) (by omega), w64 (n := i + 1 - 1) (by omega)]
    refine .guard (by omega) (.guard (by omega) (.bind (dmod_ok _ n hn) fun y hy => .some ⟨⟨by dsimp only; omega, by dsimp only; omega, h2, h3⟩, hy.1, hy.2⟩))
theorem sample_ok {L : List Int} {i : Int} (h : Dk L i) : Ok (second_Deck_Sample.F (((), ()), ((L, i, ()), ()))) (fun r => Dk r.2.1.1 r.2.1.2.1 ∧ -1000 ≤ r.1.1 ∧ r.1.1 ≤ 1000) := by
  rw [second_Deck_Sample.F_eq, second_Deck_Sample.f]
  refine .bind (next_ok h _ (by omega)) fun y0 h0 => .bool (fun _ => ?_) fun _ => .bool (fun _ => ?_) fun _ => ?_
  · refine .bind (next_ok h0.1 _ (by omega)) fun y2 h2 => ?_
    rw [w64 (by omega)]
    exact .some ⟨h2.1, by dsimp only; omega, by dsimp only; omega⟩
  · refine .bind (next_ok h0.1 _ (by omega)) fun y2 h2 => ?_
    have hl : (([1000, -1000] : List Int).length : Int) = 2 := rfl
    rw [dt h2.2.1, dt (by rw [hl]; exact h2.2.2)]
    have hm := getD_int (l := ([1000, -1000] : List Int)) (d := 0) h2.2.1 (by rw [hl]; exact h2.2.2)
    simp only [List.mem_cons, List.not_mem_nil, or_false] at hm
    exact .some ⟨h2.1, by dsimp only; omega, by dsimp only; omega⟩
  · refine .bind (next_ok h0.1 _ (by omega)) fun y2 h2 => ?_
    rw [w64 (by omega)]
    exact .some ⟨h2.1, by dsimp only; omega, by dsimp only; omega⟩
theorem Sv.app {l : List Int} (h : Sv l) {v : Int} (hv : v = 1073741824 ∨ (-1000 ≤ v ∧ v ≤ 1000)) : Sv (l ++ [v]) := fun u hu => by
  rcases List.mem_append.1 hu with hu | hu
  · exact h u hu
  · rw [List.mem_singleton.1 hu]; exact hv
theorem values_loop (n : Nat) (hn : n ≤ 100) (shape width : Int) (hw : 1 ≤ width ∧ width ≤ 10) : ∀ (k i : Nat) (L : List Int) (j : Int) (o : List Int), i + k = n → Dk L j → Sv o → o.length = i →
    Ok (second_Deck_Values.L0 (((), (n : Int), (), shape, width, (i : Int), ()), ((L, j, ()), o, ()))) (fun r => ∃ L' j' o', r = Sum.inl (((), ()), ((L', j', ()), o', ())) ∧ Dk L' j' ∧ Sv o' ∧ o'.length = n) := by
  intro k
  induction k with
  | zero =>
    intro i L j o h hL ho hl
    rw [second_Deck_Values.L0_eq, second_Deck_Values.f0, df (by omega)]
    exact .some ⟨L, j, o, rfl, hL, ho, by omega⟩
  | succ k ih =>
    intro i L j o h hL ho hl
    rw [second_Deck_Values.L0_eq, second_Deck_Values.f0, dt (by omega)]
    refine .bind (sample_ok hL) fun y1 h1 => ?_
    have key : Ok (second_Deck_Values.L1 (((), (n : Int), (), shape, width, (i : Int), y1.1.1, shape, ()), ((y1.2.1.1, y1.2.1.2.1, ()), o, ()))) (fun r => ∃ x L' j', r = Sum.inl (((), (n : Int), (), shape, width, (i : Int), x, ()), ((L', j', ()), o, ())) ∧ Dk L' j' ∧ -1000 ≤ x ∧ x ≤ 1000) := by
      have hm := tmod_nonneg' (a := (i : Int)) (b := width) (by omega) (by omega)
      have hd := (tdiv_abs (n := (i : Int)) (d := width) (by omega)).1 (by omega)
      rw [second_Deck_Values.L1_eq, second_Deck_Values.f1]
      have l2 : Ok (second_Deck_Values.L2 (((), (n : Int), (), shape, width, (i : Int), y1.1.1, shape, (shape == 0), ()), ((y1.2.1.1, y1.2.1.2.1, ()), o, ()))) (fun r => ∃ x L' j', r = Sum.inl (((), (n : Int), (), shape, width, (i : Int), x, ()), ((L', j', ()), o, ())) ∧ Dk L' j' ∧ -1000 ≤ x ∧ x ≤ 1000) := by
        rw [second_Deck_Values.L2_eq, second_Deck_Values.f2, df (by omega : ¬ width = 0)]
        simp only [Bool.not_false, cond_true]
        refine .bool (fun _ => ?_) fun _ => .bool (fun _ => ?_) fun _ => .bool (fun _ => ?_) fun _ => ?_
        · rw [w64 (by omega)]
          exact .some ⟨_, _, _, rfl, h1.1, by omega, by omega⟩
        · refine .bind (next_ok h1.1 _ (by omega)) fun y3 h3 => ?_
          rw [w64 (n := Int.tmod (i : Int) width * 4) (by omega), w64 (by omega)]
          exact .some ⟨_, _, _, rfl, h3.1, by omega, by omega⟩
        · rw [w64 (n := Int.tdiv (i : Int) width) (by omega), w64 (by omega)]
          exact .some ⟨_, _, _, rfl, h1.1, by omega, by omega⟩
        · exact .some ⟨_, _, _, rfl, h1.1, h1.2⟩
      refine .bind l2 fun r hr => ?_
      obtain ⟨x, L', j', rfl, h3, h4⟩ := hr
      exact .some ⟨x, L', j', rfl, h3, h4⟩
    refine .bind key fun r hr => ?_
    obtain ⟨x, L', j', rfl, h3, h4⟩ := hr
    simp only [Sum.elim_inl]
    refine .bind (next_ok h3 _ (by omega)) fun y4 h5 => ?_
    have ei : Go.IntKind.wrap .i64 ((i : Int) + 1) = ((i + 1 : Nat) : Int) := by rw [w64 (by omega)]; omega
    rw [ei]
    refine .bool (fun _ => ?_) fun _ => ?_
    · rw [dt (by simp only [List.length_singleton]; omega)]
      exact .bind (ih (i + 1) _ _ (o ++ [1073741824]) (by omega) h5.1 (ho.app (.inl rfl)) (by rw [List.length_append, List.length_singleton]; omega)) fun r hr => .some hr
    · rw [dt (by simp only [List.length_singleton]; omega)]
      exact .bind (ih (i + 1) _ _ (o ++ [x]) (by omega) h5.1 (ho.app (.inr h4)) (by rw [List.length_append, List.length_singleton]; omega)) fun r hr => .some hr
theorem values_ok {L : List Int} {i : Int} (h : Dk L i) (n : Nat) (hn : n ≤ 100) : Ok (second_Deck_Values.F (((), (n : Int), ()), ((L, i, ()), ()))) (fun r => Dk r.2.1.1 r.2.1.2.1 ∧ Sv r.2.2.1 ∧ r.2.2.1.length = n) := by
  rw [second_Deck_Values.F_eq, second_Deck_Values.f]
  refine .bind (next_ok h _ (by omega)) fun y0 h0 => .bind (next_ok h0.1 _ (by omega)) fun y1 h1 => ?_
  rw [w64 (by omega)]
  refine .bind (values_loop n hn y0.1.1 (2 + y1.1.1) (by omega) n 0 y1.2.1.1 y1.2.1.2.1 [] (by omega) h1.1 (fun v hv => by cases hv) rfl) fun r hr => ?_
  obtain ⟨L', j', o', rfl, h3, h4, h5⟩ := hr
  exact .some ⟨h3, h4, h5⟩
theorem kmeasure_ok {L : List Int} {i : Int} (h : Dk L i) (kind : Int) (hk : 0 ≤ kind ∧ kind ≤ 5) : Ok (second_Deck_Measure.F (((), kind, ()), ((L, i, ()), ()))) (fun r => Dk r.2.1.1 r.2.1.2.1 ∧ Mv r.1.1.1 r.1.1.2.1 r.1.1.2.2.1 ∧ (kind ≠ 0 → r.1.1.1 = kind)) := by
  have hl : (([0, 1, 2, 5, 32] : List Int).length : Int) = 5 := rfl
  have pick : ∀ {y : Int}, 0 ≤ y → y < 5 → 0 ≤ ([0, 1, 2, 5, 32] : List Int).getD y.toNat 0 ∧ ([0, 1, 2, 5, 32] : List Int).getD y.toNat 0 ≤ 32 := fun {y} h0 h1 => by
    have hm := getD_int (l := ([0, 1, 2, 5, 32] : List Int)) (d := 0) h0 (by rw [hl]; exact h1)
    simp only [List.mem_cons, List.not_mem_nil, or_false] at hm
    omega
  rw [second_Deck_Measure.F_eq, second_Deck_Measure.f]
  by_cases c0 : kind = 0
  · rw [bt c0]
    refine .bind (next_ok h _ (by omega)) fun y1 h1 => ?_
    rw [w64 (n := 1 + y1.1.1) (by omega)]
    by_cases c4 : 1 + y1.1.1 = 4
    · rw [bt c4]
      refine .bind (next_ok h1.1 _ (by omega)) fun y3 h3 => ?_
      have := pick h3.2.1 h3.2.2
      rw [dt h3.2.1, dt (by rw [hl]; exact h3.2.2)]
      exact .some ⟨h3.1, ⟨by dsimp only; omega, by dsimp only; omega, by dsimp only; omega⟩, fun h => absurd c0 h⟩
    · rw [bf c4]
      by_cases c5 : 1 + y1.1.1 = 5
      · rw [bt c5]
        refine .bind (next_ok h1.1 _ (by omega)) fun y3 h3 => ?_
        rw [w64 (n := y3.1.1 - 3) (by omega)]
        exact .some ⟨h3.1, ⟨by dsimp only; omega, by dsimp only; omega, by dsimp only; omega⟩, fun h => absurd c0 h⟩
      · rw [bf c5]
        exact .some ⟨h1.1, ⟨by dsimp only; omega, by dsimp only; omega, by dsimp only; omega⟩, fun h => absurd c0 h⟩
  · rw [bf c0]
    by_cases c4 : kind = 4
    · rw [bt c4]
      refine .bind (next_ok h _ (by omega)) fun y3 h3 => ?_
      have := pick h3.2.1 h3.2.2
      rw [dt h3.2.1, dt (by rw [hl]; exact h3.2.2)]
      exact .some ⟨h3.1, ⟨by dsimp only; omega, by dsimp only; omega, by dsimp only; omega⟩, fun _ => rfl⟩
    · rw [bf c4]
      by_cases c5 : kind = 5
      · rw [bt c5]
        refine .bind (next_ok h _ (by omega)) fun y3 h3 => ?_
        rw [w64 (n := y3.1.1 - 3) (by omega)]
        exact .some ⟨h3.1, ⟨by dsimp only; omega, by dsimp only; omega, by dsimp only; omega⟩, fun _ => rfl⟩
      · rw [bf c5]
        exact .some ⟨h, ⟨by dsimp only; omega, by dsimp only; omega, by dsimp only; omega⟩, fun _ => rfl⟩
theorem klength_ok {L : List Int} {i : Int} (h : Dk L i) : Ok (second_Deck_Length.F (((), ()), ((L, i, ()), ()))) (fun r => Dk r.2.1.1 r.2.1.2.1 ∧ 2 ≤ r.1.1 ∧ r.1.1 ≤ 6) := by
  rw [second_Deck_Length.F_eq, second_Deck_Length.f]
  refine .bind (next_ok h _ (by omega)) fun y0 h0 => ?_
  rw [w64 (by omega)]
  exact .some ⟨h0.1, by dsimp only; omega, by dsimp only; omega⟩
end Go.Proofs.Ytefcciajemkicaa.V
