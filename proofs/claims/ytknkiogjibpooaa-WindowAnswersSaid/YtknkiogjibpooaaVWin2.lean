/- Windows: stats, variance, slides, in the program and in the document's answer. -/
import Derived.Test.YtknkiogjibpooaaVg2
import Derived.Test.YtknkiogjibpooaaVBase
import Derived.Test.YtknkiogjibpooaaVKeep
import Derived.Test.YtknkiogjibpooaaVWin
set_option linter.unusedVariables false
namespace Go.Proofs.Ytknkiogjibpooaa.V
open Go.VI
theorem part_same (s q : List Int) (i m : Int) : ref11_part.F (((s, q, ()), i, m, ()), ()) = window_between.F (((s, q, ()), i, m, ()), ()) := rfl
theorem var_same (a b c : Int) : ref11_Variance.F (((a, b, c, ()), ()), ()) = window_Variance.F (((a, b, c, ()), ()), ()) := rfl
theorem var_ok (a b c : Int) : Ok (window_Variance.F (((a, b, c, ()), ()), ())) fun _ => True := by
  rw [window_Variance.F_eq, window_Variance.f, window_Variance.L0_eq]
  have : ∃ t, window_Variance.f0 a b c = some (Sum.inl (((), (t, ())), ((a, (b, (c, ()))), ()))) := by
    unfold window_Variance.f0
    generalize decide (a < 1) = b1
    generalize decide (a > 2000) = b2
    generalize decide (b < Go.IntKind.wrap Go.IntKind.i64 (-1000 * a)) = b3
    generalize decide (b > Go.IntKind.wrap Go.IntKind.i64 (1000 * a)) = b4
    generalize decide (c < 0) = b5
    cases b1 <;> cases b2 <;> cases b3 <;> cases b4 <;> cases b5 <;> exact ⟨_, rfl⟩
  obtain ⟨t, e⟩ := this
  rw [e]
  cases t <;> exact ⟨_, rfl, trivial⟩
theorem between_ok {s q : List Int} {i m : Int} (h0 : 0 ≤ i) (hm : 0 ≤ m) (h1 : i + m < (s.length : Int)) (h2 : i + m < (q.length : Int)) (hb : (s.length : Int) ≤ 1000000) : ∃ r : Int × Int × Int, window_between.F (((s, q, ()), i, m, ()), ()) = some (((r.1, r.2.1, r.2.2, ()), ()), ()) := by
  show ∃ r : Int × Int × Int, window_between.f s q i m = _
  unfold window_between.f
  rw [w64 (n := i + m) (by omega), dt (by omega : 0 ≤ i + m), dt h1, dt h0, dt (by omega : i < (s.length : Int)), dt h2, dt (by omega : i < (q.length : Int))]
  exact ⟨(_, _, _), rfl⟩

/-! slides -/
theorem slide_loop (l s q : List Int) (m : Int) (hm : 2 ≤ m ∧ m ≤ 32) (hl : l.length ≤ 2000) (hs : s.length = l.length + 1) (hq : q.length = l.length + 1) : ∀ (k : Nat) (i : Int) (o : List (Int × Int × Int)), i + k = mx 0 ((l.length : Int) - m + 1) → 0 ≤ i → (o.length : Int) = i →
    ∃ r, window_Slide.L1 ((m, (), (), mx 0 ((l.length : Int) - m + 1), i, ()), (((), (), ()), o, s, q, ())) = some (Sum.inl (((), ()), (r, ()))) ∧ ref11_Slide.L1 ((l, m, (), (), i, ()), (((), (), ()), o, s, q, ())) = some (Sum.inl (((), ()), (r, ()))) ∧ r.length ≤ 2000
  | 0, i, o, h, h0, ho => by
    have hx := mx_ge 0 ((l.length : Int) - m + 1)
    refine ⟨o, ?_, ?_, by omega⟩
    · rw [window_Slide.L1_eq, window_Slide.f1, df (by omega)]; rfl
    · rw [ref11_Slide.L1_eq, ref11_Slide.f1, w64 (n := i + m) (by omega), df (by omega)]; rfl
  | k + 1, i, o, h, h0, ho => by
    have hx := mx_ge 0 ((l.length : Int) - m + 1)
    obtain ⟨⟨r1, r2, r3⟩, hr⟩ := between_ok (s := s) (q := q) (i := i) (m := m) h0 (by omega) (by omega) (by omega) (by omega)
    obtain ⟨r, e1, e2, e3⟩ := slide_loop l s q m hm hl hs hq k (i + 1) (o ++ [(r1, r2, r3)]) (by omega) (by omega) (by simp; omega)
    refine ⟨r, ?_, ?_, e3⟩
    · rw [window_Slide.L1_eq, window_Slide.f1, dt (by omega : i < mx 0 ((l.length : Int) - m + 1))]
      simp only [cond_true]
      rw [hr]
      simp only [Option.bind_some, List.length_cons, List.length_nil]
      rw [dt (by omega : (o.length + (0 + 1)) * 24 ≤ 140737488355328), w64 (n := i + 1) (by omega)]
      simp only [cond_true]
      rw [e1]; rfl
    · rw [ref11_Slide.L1_eq, ref11_Slide.f1, w64 (n := i + m) (by omega), dt (by omega : i + m ≤ (l.length : Int))]
      simp only [cond_true]
      rw [part_same, hr]
      simp only [Option.bind_some, List.length_cons, List.length_nil]
      rw [dt (by omega : (o.length + (0 + 1)) * 24 ≤ 140737488355328), w64 (n := i + 1) (by omega)]
      simp only [cond_true]
      rw [e2]; rfl
theorem slide_ok (l : List Int) (m : Int) : ∃ e r, window_Slide.F ((l, m, ()), ()) = some (((), e, ()), (r, ())) ∧ ref11_Slide.F ((l, m, ()), ()) = some (((), e, ()), (r, ())) ∧ r.length ≤ 2000 := by
  obtain ⟨e, s, q, S, he⟩ := of_ok l
  obtain ⟨e', s', q', S', he'⟩ := rof_ok l
  obtain ⟨rfl, rfl, rfl⟩ := S.one S'
  rw [window_Slide.F_eq, window_Slide.f, ref11_Slide.F_eq, ref11_Slide.f, he, he']
  simp only [Option.bind_some]
  rcases S with ⟨a, rfl, rfl, rfl⟩ | ⟨a, b, rfl, rfl, rfl⟩ | ⟨hl, hs, rfl, rfl, rfl⟩
  · exact ⟨_, _, rfl, rfl, by simp⟩
  · exact ⟨_, _, rfl, rfl, by simp⟩
  · rw [window_Slide.L0_eq, ref11_Slide.L0_eq, window_Slide.f0, ref11_Slide.f0]
    simp only [show ((0 : Int) != 0) = false from rfl, cond_false]
    by_cases c : m < 2
    · rw [dt c]; exact ⟨_, _, rfl, rfl, by simp⟩
    · rw [df c]
      by_cases d : m > 32
      · rw [dt d]; exact ⟨_, _, rfl, rfl, by simp⟩
      · rw [df d]
        have hx := mx_ge 0 ((l.length : Int) - m + 1)
        obtain ⟨r, e1, e2, e3⟩ := slide_loop l (tab idf l l.length) (tab sqf l l.length) m (by omega) hl (tab_len _ _ _) (tab_len _ _ _) (mx 0 ((l.length : Int) - m + 1)).toNat 0 [] (by omega) (by omega) rfl
        refine ⟨0, r, ?_, ?_, e3⟩
        · simp only [cond_false, Option.bind_some, Sum.elim_inl]
          rw [w64 (n := (l.length : Int) - m) (by omega), w64 (n := (l.length : Int) - m + 1) (by omega), e1]; rfl
        · simp only [cond_false, Option.bind_some, Sum.elim_inl]
          rw [e2]; rfl
theorem slides_loop (a : List (Int × Int × Int)) (hl : a.length ≤ 2000) : ∀ (k : Nat) (i : Int), i + k = (a.length : Int) → 0 ≤ i → law11_slides.L0 ((a, a, (a.length : Int), i, ()), ()) = some (Sum.inl ((), ()))
  | 0, i, h, h0 => by
    rw [law11_slides.L0_eq, law11_slides.f0, df (by omega)]; rfl
  | k + 1, i, h, h0 => by
    have ih := slides_loop a hl k (i + 1) (by omega) (by omega)
    rw [law11_slides.L0_eq, law11_slides.f0, dt (by omega : i < (a.length : Int)), dt h0, bt rfl, bt rfl, bt rfl, w64 (n := i + 1) (by omega)]
    simp only [cond_true, Bool.and_true, Bool.not_true, cond_false]
    rw [ih]; rfl
theorem slides_ok (a : List (Int × Int × Int)) (hl : a.length ≤ 2000) : law11_slides.F ((a, a, ()), ()) = some ((true, ()), ()) := by
  rw [law11_slides.F_eq, law11_slides.f, nt rfl]
  simp only [cond_false]
  rw [slides_loop a hl a.length 0 (by omega) (by omega)]; rfl
theorem same_ok (s q : List Int) (h1 : (s.length : Int) ≤ 9223372036854775806) (h2 : (q.length : Int) ≤ 9223372036854775806) (s' q' : List Int) : ref11_Same.F (((s, q, ()), (s', q', ()), ()), ()) = some ((decide (s = s' ∧ q = q'), ()), ()) := by
  rw [ref11_Same.F_eq, ref11_Same.f, ints_eq s s' h1]
  by_cases c : s = s'
  · rw [dt c]
    simp only [Option.bind_some, cond_true]
    rw [ints_eq q q' h2]
    by_cases d : q = q'
    · rw [dt d, dt ⟨c, d⟩]; rfl
    · rw [df d, df (show ¬ (s = s' ∧ q = q') from fun k => d k.2)]; rfl
  · rw [df c, df (show ¬ (s = s' ∧ q = q') from fun k => c k.1)]; rfl
end Go.Proofs.Ytknkiogjibpooaa.V
