/- Windows: the sums of beginnings, in the program and in the document's answer. -/
import Derived.Test.YtknkiogjibpooaaVg1
import Derived.Test.YtknkiogjibpooaaVBase
import Derived.Test.YtknkiogjibpooaaVKeep
set_option linter.unusedVariables false
namespace Go.Proofs.Ytknkiogjibpooaa.V
open Go.VI

/-- The sum of what becomes of the first k numbers. -/
def psum (f : Int → Int) (l : List Int) : Nat → Int
  | 0 => 0
  | k + 1 => psum f l k + f (l.getD k 0)
def tab (f : Int → Int) (l : List Int) (n : Nat) : List Int := (List.range (n + 1)).map (psum f l)
def idf (x : Int) : Int := x
def sqf (x : Int) : Int := x * x
/-- The first n numbers are samples. -/
def Sm (l : List Int) (n : Nat) : Prop := ∀ j, j < n → -1000 ≤ l.getD j 0 ∧ l.getD j 0 ≤ 1000
theorem tab_len (f : Int → Int) (l : List Int) (n : Nat) : (tab f l n).length = n + 1 := by simp [tab]
theorem tab_get (f : Int → Int) (l : List Int) {n i : Nat} (h : i ≤ n) : (tab f l n).getD i 0 = psum f l i := by
  unfold tab
  rw [List.getD_eq_getElem?_getD, List.getElem?_map, List.getElem?_range (by omega)]; rfl
theorem tab_succ (f : Int → Int) (l : List Int) (n : Nat) : tab f l (n + 1) = tab f l n ++ [psum f l (n + 1)] := by
  simp [tab, List.range_succ]
theorem tab_zero (f : Int → Int) (l : List Int) : tab f l 0 = [0] := rfl
theorem psum_id {l : List Int} : ∀ {n : Nat}, Sm l n → -1000 * (n : Int) ≤ psum idf l n ∧ psum idf l n ≤ 1000 * (n : Int)
  | 0, _ => by simp [psum]
  | n + 1, h => by
    have h1 := psum_id (n := n) fun j hj => h j (by omega)
    have h2 := h n (by omega)
    simp only [psum, idf]
    omega
theorem psum_sq {l : List Int} : ∀ {n : Nat}, Sm l n → 0 ≤ psum sqf l n ∧ psum sqf l n ≤ 1000000 * (n : Int)
  | 0, _ => by simp [psum]
  | n + 1, h => by
    have h1 := psum_sq (n := n) fun j hj => h j (by omega)
    have h2 := h n (by omega)
    have h3 := sq_bounds (b := 1000) (x := l.getD n 0) (by omega) h2.2
    simp only [psum, sqf]
    omega
theorem sample_eq (v : Int) : window_sample.F ((v, ()), ()) = some ((decide (-1000 ≤ v ∧ v ≤ 1000), ()), ()) := by
  rw [window_sample.F_eq, window_sample.f]
  by_cases h : v ≥ -1000
  · rw [dt h]
    by_cases k : v ≤ 1000
    · rw [dt k, dt ⟨h, k⟩]; rfl
    · rw [df k, df (fun c => k c.2)]; rfl
  · rw [df h, df (show ¬ (-1000 ≤ v ∧ v ≤ 1000) from fun c => h c.1)]; rfl
theorem rsample_eq (v : Int) : ref04_Sample.F ((v, ()), ()) = some ((decide (-1000 ≤ v ∧ v ≤ 1000), ()), ()) := by
  rw [ref04_Sample.F_eq, ref04_Sample.f]
  by_cases h : v ≥ -1000
  · rw [dt h]
    by_cases k : v ≤ 1000
    · rw [dt k, dt ⟨h, k⟩]; rfl
    · rw [df k, df (fun c => k c.2)]; rfl
  · rw [df h, df (show ¬ (-1000 ≤ v ∧ v ≤ 1000) from fun c => h c.1)]; rfl

theorem fold_loop (l : List Int) (hl : l.length ≤ 2000) (hs : Sm l l.length) : ∀ (k i : Nat), k + i = l.length →
    window_fold.L0 (((), (), l, (l.length : Int), (i : Int), ()), (tab idf l i, ())) = some (Sum.inl (((), ()), (tab idf l l.length, ())))
  | 0, i, h => by
    have : i = l.length := by omega
    subst this
    rw [window_fold.L0_eq, window_fold.f0, df (by omega)]; rfl
  | k + 1, i, h => by
    have hb := psum_id (n := i) fun j hj => hs j (by omega)
    have hi := hs i (by omega)
    have ih := fold_loop l hl hs k (i + 1) (by omega)
    rw [window_fold.L0_eq, window_fold.f0, dt (by omega : (i : Int) < (l.length : Int)), dt (by omega : (0 : Int) ≤ (i : Int)), tab_len, w64 (n := ((i + 1 : Nat) : Int) - 1) (by omega), dt (by omega : (0 : Int) ≤ ((i + 1 : Nat) : Int) - 1), dt (by omega : ((i + 1 : Nat) : Int) - 1 < ((i + 1 : Nat) : Int))]
    simp only [cond_true]
    rw [show (((i + 1 : Nat) : Int) - 1).toNat = i by omega, tab_get idf l (Nat.le_refl i), show ((i : Int)).toNat = i by omega, window_Of_1.F_eq, window_Of_1.f, w64 (n := psum idf l i + l.getD i 0) (by omega)]
    simp only [Option.bind_some, List.length_cons, List.length_nil]
    rw [dt (by omega : (i + 1 + (0 + 1)) * 8 ≤ 140737488355328), w64 (n := (i : Int) + 1) (by omega)]
    simp only [cond_true]
    rw [show tab idf l i ++ [psum idf l i + l.getD i 0] = tab idf l (i + 1) from (tab_succ idf l i).symm, show ((i : Int) + 1) = ((i + 1 : Nat) : Int) by omega, ih]
    rfl
theorem fold2_loop (l : List Int) (hl : l.length ≤ 2000) (hs : Sm l l.length) : ∀ (k i : Nat), k + i = l.length →
    window_fold_2.L0 (((), (), l, (l.length : Int), (i : Int), ()), (tab sqf l i, ())) = some (Sum.inl (((), ()), (tab sqf l l.length, ())))
  | 0, i, h => by
    have : i = l.length := by omega
    subst this
    rw [window_fold_2.L0_eq, window_fold_2.f0, df (by omega)]; rfl
  | k + 1, i, h => by
    have hb := psum_sq (n := i) fun j hj => hs j (by omega)
    have hi := hs i (by omega)
    have hq := sq_bounds (b := 1000) (x := l.getD i 0) (by omega) hi.2
    have ih := fold2_loop l hl hs k (i + 1) (by omega)
    rw [window_fold_2.L0_eq, window_fold_2.f0, dt (by omega : (i : Int) < (l.length : Int)), dt (by omega : (0 : Int) ≤ (i : Int)), tab_len, w64 (n := ((i + 1 : Nat) : Int) - 1) (by omega), dt (by omega : (0 : Int) ≤ ((i + 1 : Nat) : Int) - 1), dt (by omega : ((i + 1 : Nat) : Int) - 1 < ((i + 1 : Nat) : Int))]
    simp only [cond_true]
    rw [show (((i + 1 : Nat) : Int) - 1).toNat = i by omega, tab_get sqf l (Nat.le_refl i), show ((i : Int)).toNat = i by omega, window_Of_2.F_eq, window_Of_2.f, w64 (n := l.getD i 0 * l.getD i 0) (by omega), w64 (n := psum sqf l i + l.getD i 0 * l.getD i 0) (by omega)]
    simp only [Option.bind_some, List.length_cons, List.length_nil]
    rw [dt (by omega : (i + 1 + (0 + 1)) * 8 ≤ 140737488355328), w64 (n := (i : Int) + 1) (by omega)]
    simp only [cond_true]
    rw [show tab sqf l i ++ [psum sqf l i + l.getD i 0 * l.getD i 0] = tab sqf l (i + 1) from (tab_succ sqf l i).symm, show ((i : Int) + 1) = ((i + 1 : Nat) : Int) by omega, ih]
    rfl
theorem of_loop (l : List Int) (hl : l.length ≤ 2000) : ∀ (k i : Nat), k + i = l.length → Sm l i →
    (Sm l l.length ∧ window_Of.L0 ((l, (), l, (l.length : Int), (i : Int), ()), (((), (), ()), ())) = some (Sum.inl ((l, (), ()), (((), (), ()), ())))) ∨
    (¬ Sm l l.length ∧ window_Of.L0 ((l, (), l, (l.length : Int), (i : Int), ()), (((), (), ()), ())) = some (Sum.inr (Sum.inl (((), 12, ()), (((), (), ()), ())))))
  | 0, i, h, hs => by
    have : i = l.length := by omega
    subst this
    refine .inl ⟨hs, ?_⟩
    rw [window_Of.L0_eq, window_Of.f0, df (by omega)]; rfl
  | k + 1, i, h, hs => by
    rw [window_Of.L0_eq, window_Of.f0, dt (by omega : (i : Int) < (l.length : Int)), dt (by omega : (0 : Int) ≤ (i : Int)), show ((i : Int)).toNat = i by omega, sample_eq, w64 (n := (i : Int) + 1) (by omega)]
    simp only [cond_true, Option.bind_some]
    by_cases c : -1000 ≤ l.getD i 0 ∧ l.getD i 0 ≤ 1000
    · have ih := of_loop l hl k (i + 1) (by omega) fun j hj => by
        by_cases e : j = i
        · subst e; exact c
        · exact hs j (by omega)
      rw [dt c, show ((i : Int) + 1) = ((i + 1 : Nat) : Int) by omega]
      rcases ih with ⟨h1, h2⟩ | ⟨h1, h2⟩
      · refine .inl ⟨h1, ?_⟩
        simp only [Bool.not_true, cond_false]
        rw [h2]; rfl
      · refine .inr ⟨h1, ?_⟩
        simp only [Bool.not_true, cond_false]
        rw [h2]; rfl
    · rw [df c]
      exact .inr ⟨fun hS => c (hS i (by omega)), rfl⟩

/-- The sums of a list, or why there are none. -/
def Sums (l : List Int) (e : Int) (s q : List Int) : Prop :=
  (2000 < l.length ∧ e = 4 ∧ s = [] ∧ q = []) ∨ (l.length ≤ 2000 ∧ ¬ Sm l l.length ∧ e = 12 ∧ s = [] ∧ q = []) ∨ (l.length ≤ 2000 ∧ Sm l l.length ∧ e = 0 ∧ s = tab idf l l.length ∧ q = tab sqf l l.length)
theorem of_ok (l : List Int) : ∃ e s q, Sums l e s q ∧ window_Of.F ((l, ()), ()) = some ((((), (), ()), e, ()), (s, q, ())) := by
  rw [window_Of.F_eq, window_Of.f]
  by_cases c : (l.length : Int) > 2000
  · rw [dt c]; exact ⟨4, [], [], .inl ⟨by omega, rfl, rfl, rfl⟩, rfl⟩
  · rw [df c]
    have hl : l.length ≤ 2000 := by omega
    simp only [cond_false]
    rcases of_loop l hl l.length 0 rfl (fun j hj => absurd hj (Nat.not_lt_zero j)) with ⟨h1, h2⟩ | ⟨h1, h2⟩
    · refine ⟨0, _, _, .inr (.inr ⟨hl, h1, rfl, rfl, rfl⟩), ?_⟩
      have e1 : window_fold.F ((l, ((0:Int), ((), ()))), ()) = some (((), ()), (tab idf l l.length, ())) := by
        rw [window_fold.F_eq, window_fold.f]
        have := fold_loop l hl h1 l.length 0 rfl
        rw [tab_zero] at this
        rw [show ((0 : Nat) : Int) = 0 from rfl] at this
        rw [this]; rfl
      have e2 : window_fold_2.F ((l, ((0:Int), ((), ()))), ()) = some (((), ()), (tab sqf l l.length, ())) := by
        rw [window_fold_2.F_eq, window_fold_2.f]
        have := fold2_loop l hl h1 l.length 0 rfl
        rw [tab_zero] at this
        rw [show ((0 : Nat) : Int) = 0 from rfl] at this
        rw [this]; rfl
      rw [show ((0 : Nat) : Int) = 0 from rfl] at h2
      rw [h2]
      simp only [Option.bind_some, Sum.elim_inl]
      rw [e1]
      simp only [Option.bind_some]
      rw [e2]; rfl
    · refine ⟨12, [], [], .inr (.inl ⟨hl, h1, rfl, rfl, rfl⟩), ?_⟩
      rw [show ((0 : Nat) : Int) = 0 from rfl] at h2
      rw [h2]; rfl
theorem rof_loop (l : List Int) (hl : l.length ≤ 2000) : ∀ (k i : Nat), k + i = l.length → Sm l i →
    (Sm l l.length ∧ ref11_Of.L0 ((l, (), (), (l.length : Int), (i : Int), ()), (((), (), ()), ((), (), ()), tab idf l i, tab sqf l i, ())) = some (Sum.inl (((), (), ()), (((), (), ()), ((), (), ()), tab idf l l.length, tab sqf l l.length, ())))) ∨
    (¬ Sm l l.length ∧ ref11_Of.L0 ((l, (), (), (l.length : Int), (i : Int), ()), (((), (), ()), ((), (), ()), tab idf l i, tab sqf l i, ())) = some (Sum.inr (Sum.inl (((), 12, ()), (((), (), ()), ())))))
  | 0, i, h, hs => by
    have : i = l.length := by omega
    subst this
    refine .inl ⟨hs, ?_⟩
    rw [ref11_Of.L0_eq, ref11_Of.f0, df (by omega)]; rfl
  | k + 1, i, h, hs => by
    have hb := psum_id (n := i) hs
    have hb2 := psum_sq (n := i) hs
    rw [ref11_Of.L0_eq, ref11_Of.f0, dt (by omega : (i : Int) < (l.length : Int)), dt (by omega : (0 : Int) ≤ (i : Int)), show ((i : Int)).toNat = i by omega, rsample_eq, w64 (n := (i : Int) + 1) (by omega), tab_len, tab_len, dt (by omega : (i : Int) < ((i + 1 : Nat) : Int)),
      tab_get idf l (Nat.le_refl i), tab_get sqf l (Nat.le_refl i)]
    simp only [cond_true, Option.bind_some, List.length_cons, List.length_nil]
    by_cases c : -1000 ≤ l.getD i 0 ∧ l.getD i 0 ≤ 1000
    · have hq := sq_bounds (b := 1000) (x := l.getD i 0) (by omega) c.2
      have ih := rof_loop l hl k (i + 1) (by omega) fun j hj => by
        by_cases e : j = i
        · subst e; exact c
        · exact hs j (by omega)
      rw [dt c, show ((i : Int) + 1) = ((i + 1 : Nat) : Int) by omega, dt (by omega : (i + 1 + (0 + 1)) * 8 ≤ 140737488355328), w64 (n := psum idf l i + l.getD i 0) (by omega), w64 (n := l.getD i 0 * l.getD i 0) (by omega), w64 (n := psum sqf l i + l.getD i 0 * l.getD i 0) (by omega),
        show tab idf l i ++ [psum idf l i + l.getD i 0] = tab idf l (i + 1) from (tab_succ idf l i).symm, show tab sqf l i ++ [psum sqf l i + l.getD i 0 * l.getD i 0] = tab sqf l (i + 1) from (tab_succ sqf l i).symm]
      simp only [Bool.not_true, cond_false, cond_true]
      rcases ih with ⟨h1, h2⟩ | ⟨h1, h2⟩
      · exact .inl ⟨h1, by rw [h2]; rfl⟩
      · exact .inr ⟨h1, by rw [h2]; rfl⟩
    · rw [df c]
      exact .inr ⟨fun hS => c (hS i (by omega)), rfl⟩
theorem rof_ok (l : List Int) : ∃ e s q, Sums l e s q ∧ ref11_Of.F ((l, ()), ()) = some ((((), (), ()), e, ()), (s, q, ())) := by
  rw [ref11_Of.F_eq, ref11_Of.f]
  by_cases c : (l.length : Int) > 2000
  · rw [dt c]; exact ⟨4, [], [], .inl ⟨by omega, rfl, rfl, rfl⟩, rfl⟩
  · rw [df c]
    have hl : l.length ≤ 2000 := by omega
    simp only [cond_false]
    have hL := rof_loop l hl l.length 0 rfl (fun j hj => absurd hj (Nat.not_lt_zero j))
    rw [tab_zero, tab_zero, show ((0 : Nat) : Int) = 0 from rfl] at hL
    rcases hL with ⟨h1, h2⟩ | ⟨h1, h2⟩
    · exact ⟨0, _, _, .inr (.inr ⟨hl, h1, rfl, rfl, rfl⟩), by rw [h2]; rfl⟩
    · exact ⟨12, [], [], .inr (.inl ⟨hl, h1, rfl, rfl, rfl⟩), by rw [h2]; rfl⟩
theorem Sums.one {l : List Int} {e e' : Int} {s q s' q' : List Int} (h : Sums l e s q) (h' : Sums l e' s' q') : e = e' ∧ s = s' ∧ q = q' := by
  rcases h with ⟨a, rfl, rfl, rfl⟩ | ⟨a, b, rfl, rfl, rfl⟩ | ⟨a, b, rfl, rfl, rfl⟩ <;> rcases h' with ⟨a', rfl, rfl, rfl⟩ | ⟨a', b', rfl, rfl, rfl⟩ | ⟨a', b', rfl, rfl, rfl⟩ <;> first | exact ⟨rfl, rfl, rfl⟩ | omega | exact absurd b' b | exact absurd b b'
end Go.Proofs.Ytknkiogjibpooaa.V
