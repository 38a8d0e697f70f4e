/- Windows: which sums are valid, and stats. -/
import Derived.Test.YtknkiogjibpooaaVg2
import Derived.Test.YtknkiogjibpooaaVBase
import Derived.Test.YtknkiogjibpooaaVKeep
import Derived.Test.YtknkiogjibpooaaVWin
import Derived.Test.YtknkiogjibpooaaVWin2
set_option linter.unusedVariables false
namespace Go.Proofs.Ytknkiogjibpooaa.V
open Go.VI
local notation "W" => Go.IntKind.wrap Go.IntKind.i64
/-- The sums are those of some samples. -/
def Val (s q : List Int) : Prop := ∃ l, l.length ≤ 2000 ∧ Sm l l.length ∧ s = tab idf l l.length ∧ q = tab sqf l l.length
def step (s : List Int) (t : Nat) : Int := W (s.getD (t + 1) 0 - s.getD t 0)
def Cond (s q : List Int) (t : Nat) : Prop := (-1000 ≤ step s t ∧ step s t ≤ 1000) ∧ W (q.getD (t + 1) 0 - q.getD t 0) = W (step s t * step s t)
def Pall (s q : List Int) (t : Nat) : Prop := ∀ j, t ≤ j → j + 1 < s.length → Cond s q j
theorem wv_loop (s q : List Int) (hl : s.length = q.length) (hn : s.length ≤ 2001) : ∀ (k t : Nat), t + 1 + k = s.length →
    (Pall s q t ∧ window_valid.L1 (((), (s.length : Int), ((t + 1 : Nat) : Int), ()), ((s, q, ()), ())) = some (Sum.inl ((), ()))) ∨
    (¬ Pall s q t ∧ window_valid.L1 (((), (s.length : Int), ((t + 1 : Nat) : Int), ()), ((s, q, ()), ())) = some (Sum.inr (Sum.inl ((false, ()), ()))))
  | 0, t, h => by
    refine .inl ⟨fun j h1 h2 => absurd h2 (by omega), ?_⟩
    rw [window_valid.L1_eq, window_valid.f1, df (by omega)]; rfl
  | k + 1, t, h => by
    have ih := wv_loop s q hl hn k (t + 1) (by omega)
    rw [window_valid.L1_eq, window_valid.f1, dt (by omega : ((t + 1 : Nat) : Int) < (s.length : Int)), dt (by omega : (0 : Int) ≤ ((t + 1 : Nat) : Int)), w64 (n := ((t + 1 : Nat) : Int) - 1) (by omega), w64 (n := ((t + 1 : Nat) : Int) + 1) (by omega),
      dt (by omega : (0 : Int) ≤ ((t + 1 : Nat) : Int) - 1), dt (by omega : ((t + 1 : Nat) : Int) - 1 < (s.length : Int)), dt (by omega : ((t + 1 : Nat) : Int) < (q.length : Int)), dt (by omega : ((t + 1 : Nat) : Int) - 1 < (q.length : Int)),
      show (((t + 1 : Nat) : Int) - 1).toNat = t by omega, show (((t + 1 : Nat) : Int)).toNat = t + 1 by omega]
    simp only [cond_true]
    rw [show W (s.getD (t + 1) 0 - s.getD t 0) = step s t from rfl, sample_eq]
    simp only [Option.bind_some]
    by_cases c : -1000 ≤ step s t ∧ step s t ≤ 1000
    · rw [dt c]
      simp only [Bool.not_true, cond_false]
      by_cases d : W (q.getD (t + 1) 0 - q.getD t 0) = W (step s t * step s t)
      · rw [nt d]
        simp only [cond_false]
        rw [show ((t + 1 : Nat) : Int) + 1 = ((t + 1 + 1 : Nat) : Int) by omega]
        rcases ih with ⟨h1, h2⟩ | ⟨h1, h2⟩
        · refine .inl ⟨fun j hj hk => ?_, by rw [h2]; rfl⟩
          by_cases e : j = t
          · subst e; exact ⟨c, d⟩
          · exact h1 j (by omega) hk
        · exact .inr ⟨fun hp => h1 fun j hj hk => hp j (by omega) hk, by rw [h2]; rfl⟩
      · rw [nf d]
        exact .inr ⟨fun hp => d (hp t (Nat.le_refl t) (by omega)).2, rfl⟩
    · rw [df c]
      exact .inr ⟨fun hp => c (hp t (Nat.le_refl t) (by omega)).1, rfl⟩
theorem wrap_back {x v : Int} (h : W x = v) (h1 : x - v < 18446744073709551616) (h2 : -18446744073709551616 < x - v) : x = v := by
  rw [Go.IntWalk.i64_left] at h; unfold Go.RowKit.wrap64 at h; omega
def dl (s : List Int) (n : Nat) : List Int := (List.range (n - 1)).map (step s)
theorem dl_len (s : List Int) (n : Nat) : (dl s n).length = n - 1 := by simp [dl]
theorem dl_get (s : List Int) {n j : Nat} (h : j < n - 1) : (dl s n).getD j 0 = step s j := by
  unfold dl
  rw [List.getD_eq_getElem?_getD, List.getElem?_map, List.getElem?_range h]; rfl
theorem getD_I64 {l : List Int} (h : ∀ x ∈ l, I64 x) (i : Nat) : I64 (l.getD i 0) := by
  by_cases c : i < l.length
  · exact h _ (getD_mem c)
  · rw [List.getD_eq_getElem?_getD, List.getElem?_eq_none (by omega)]; unfold I64; decide
theorem val_of_cond {s q : List Int} (hs : ∀ x ∈ s, I64 x) (hq : ∀ x ∈ q, I64 x) (hl : s.length = q.length) (h1 : 1 ≤ s.length) (h2 : s.length ≤ 2001) (z : s.getD 0 0 = 0) (z2 : q.getD 0 0 = 0) (P : Pall s q 0) : Val s q := by
  have hL := dl_len s s.length
  have hSm : Sm (dl s s.length) (s.length - 1) := fun j hj => by
    rw [dl_get s hj]; exact (P j (Nat.zero_le j) (by omega)).1
  have key : ∀ k, k < s.length → s.getD k 0 = psum idf (dl s s.length) k ∧ q.getD k 0 = psum sqf (dl s s.length) k := by
    intro k
    induction k with
    | zero => intro _; exact ⟨z, z2⟩
    | succ k ih =>
      intro hk
      obtain ⟨i1, i2⟩ := ih (by omega)
      obtain ⟨c1, c2⟩ := P k (Nat.zero_le k) hk
      have b1 := psum_id (l := dl s s.length) (n := k) fun j hj => hSm j (by omega)
      have b2 := psum_sq (l := dl s s.length) (n := k) fun j hj => hSm j (by omega)
      have b3 := getD_I64 hs (k + 1)
      have b4 := getD_I64 hq (k + 1)
      have b5 := sq_bounds (b := 1000) (x := step s k) (by omega) c1.2
      unfold I64 at b3 b4
      have e1 : s.getD (k + 1) 0 - s.getD k 0 = step s k := wrap_back rfl (by unfold step at c1 ⊢; omega) (by unfold step at c1 ⊢; omega)
      rw [w64 (n := step s k * step s k) (by omega)] at c2
      have e2 : q.getD (k + 1) 0 - q.getD k 0 = step s k * step s k := wrap_back c2 (by omega) (by omega)
      simp only [psum, idf, sqf]
      rw [dl_get s (by omega)]
      omega
  refine ⟨dl s s.length, by omega, ?_, ?_, ?_⟩
  · rw [hL]; exact hSm
  · refine list_ext_getD 0 (by rw [tab_len, hL]; omega) fun i hi => ?_
    rw [tab_get _ _ (by omega)]; exact (key i hi).1
  · refine list_ext_getD 0 (by rw [tab_len, hL]; omega) fun i hi => ?_
    rw [tab_get _ _ (by omega)]; exact (key i (by omega)).2
theorem Val.parts {s q : List Int} (h : Val s q) : s.length = q.length ∧ 1 ≤ s.length ∧ s.length ≤ 2001 ∧ s.getD 0 0 = 0 ∧ q.getD 0 0 = 0 ∧ Pall s q 0 ∧ (∀ j, j < s.length → -2000000 ≤ s.getD j 0 ∧ s.getD j 0 ≤ 2000000) ∧ Sm (dl s s.length) (s.length - 1) ∧ s = tab idf (dl s s.length) (s.length - 1) ∧ q = tab sqf (dl s s.length) (s.length - 1) := by
  obtain ⟨l, h1, h2, rfl, rfl⟩ := h
  have st : ∀ j, j < l.length → step (tab idf l l.length) j = l.getD j 0 := fun j hj => by
    have b1 := psum_id (l := l) (n := j) fun i hi => h2 i (by omega)
    have b2 := h2 j hj
    unfold step
    rw [tab_get _ _ (by omega), tab_get _ _ (by omega)]
    simp only [psum, idf]
    rw [w64 (by omega)]; omega
  have hd : dl (tab idf l l.length) (tab idf l l.length).length = l := by
    refine list_ext_getD 0 (by rw [dl_len, tab_len]; omega) fun i hi => ?_
    rw [dl_len, tab_len] at hi
    rw [dl_get _ (by rw [tab_len]; omega)]; exact st i (by omega)
  rw [hd]
  refine ⟨by rw [tab_len, tab_len], by rw [tab_len]; omega, by rw [tab_len]; omega, tab_get _ _ (Nat.zero_le _), tab_get _ _ (Nat.zero_le _), fun j _ hj => ?_, fun j hj => ?_, ?_, ?_, ?_⟩
  · rw [tab_len] at hj
    have b1 := psum_sq (l := l) (n := j) fun i hi => h2 i (by omega)
    have b2 := h2 j (by omega)
    have b3 := sq_bounds (b := 1000) (x := l.getD j 0) (by omega) b2.2
    refine ⟨by rw [st j (by omega)]; exact b2, ?_⟩
    rw [st j (by omega), tab_get _ _ (by omega), tab_get _ _ (by omega)]
    simp only [psum, sqf]
    rw [show psum sqf l j + l.getD j 0 * l.getD j 0 - psum sqf l j = l.getD j 0 * l.getD j 0 by omega]
  · rw [tab_len] at hj
    rw [tab_get _ _ (by omega)]
    have b1 := psum_id (l := l) (n := j) fun i hi => h2 i (by omega)
    omega
  · rw [tab_len]; exact h2
  · rw [tab_len]; rfl
  · rw [tab_len]; rfl
theorem wvalid_ok (s q : List Int) (hs : ∀ x ∈ s, I64 x) (hq : ∀ x ∈ q, I64 x) (hb : s.length ≤ 1000000 ∧ q.length ≤ 1000000) : ∃ b, window_valid.F (((s, q, ()), ()), ()) = some ((b, ()), ()) ∧ (b = true ↔ Val s q) := by
  rw [window_valid.F_eq, window_valid.f, window_valid.L0_eq, window_valid.f0]
  have no : ∀ P : Prop, ¬ P → ((false = true) ↔ P) := fun P h => ⟨fun e => (by cases e), fun p => absurd p h⟩
  by_cases c1 : (s.length : Int) = (q.length : Int)
  · rw [nt c1]
    by_cases c2 : (s.length : Int) < 1
    · rw [dt c2]; exact ⟨false, rfl, no _ fun v => by have := v.parts; omega⟩
    · rw [df c2]
      by_cases c3 : (s.length : Int) > 2001
      · rw [dt c3]; exact ⟨false, rfl, no _ fun v => by have := v.parts; omega⟩
      · rw [df c3, dt (by omega : (0 : Int) < (s.length : Int)), dt (by omega : (0 : Int) < (q.length : Int)), show (0 : Int).toNat = 0 from rfl]
        simp only [cond_true, cond_false]
        by_cases c4 : s.getD 0 0 = 0
        · rw [nt c4]
          simp only [cond_false]
          by_cases c5 : q.getD 0 0 = 0
          · rw [nt c5]
            simp only [Option.bind_some, Sum.elim_inl, cond_false]
            have hL := wv_loop s q (by omega) (by omega) (s.length - 1) 0 (by omega)
            rw [show ((0 + 1 : Nat) : Int) = 1 from rfl] at hL
            rcases hL with ⟨h1, h2⟩ | ⟨h1, h2⟩
            · rw [h2]
              exact ⟨true, rfl, fun _ => val_of_cond hs hq (by omega) (by omega) (by omega) c4 c5 h1, fun _ => rfl⟩
            · rw [h2]
              exact ⟨false, rfl, no _ fun v => h1 v.parts.2.2.2.2.2.1⟩
          · rw [nf c5]; exact ⟨false, rfl, no _ fun v => c5 v.parts.2.2.2.2.1⟩
        · rw [nf c4]; exact ⟨false, rfl, no _ fun v => c4 v.parts.2.2.2.1⟩
  · rw [nf c1]; exact ⟨false, rfl, no _ fun v => c1 (by have := v.parts.1; omega)⟩
theorem dl_succ (s : List Int) (t : Nat) : dl s (t + 1 + 1) = dl s (t + 1) ++ [step s t] := by
  unfold dl
  rw [show t + 1 + 1 - 1 = t + 1 by omega, show t + 1 - 1 = t by omega, List.range_succ, List.map_append]; rfl
def Inb (s : List Int) (i : Nat) : Prop := ∀ j, i ≤ j → j < s.length → -2000000 ≤ s.getD j 0 ∧ s.getD j 0 ≤ 2000000
theorem rv_loop (s q : List Int) (hn : s.length ≤ 2001) : ∀ (k i : Nat), i + k = s.length →
    (Inb s i ∧ ref11_Valid.L1 (((), (), (s.length : Int), (i : Int), ()), ((s, q, ()), dl s i, ())) = some (Sum.inl (((), (), ()), ((s, q, ()), dl s s.length, ())))) ∨
    (¬ Inb s i ∧ ref11_Valid.L1 (((), (), (s.length : Int), (i : Int), ()), ((s, q, ()), dl s i, ())) = some (Sum.inr (Sum.inl ((false, ()), ()))))
  | 0, i, h => by
    have : i = s.length := by omega
    subst this
    refine .inl ⟨fun j h1 h2 => absurd h2 (by omega), ?_⟩
    rw [ref11_Valid.L1_eq, ref11_Valid.f1, df (by omega)]; rfl
  | k + 1, i, h => by
    have ih := rv_loop s q hn k (i + 1) (by omega)
    rw [ref11_Valid.L1_eq, ref11_Valid.f1, dt (by omega : (i : Int) < (s.length : Int))]
    simp only [cond_true]
    rw [ref11_Valid.L2_eq, ref11_Valid.f2, dt (by omega : (0 : Int) ≤ (i : Int)), dt (by omega : (i : Int) < (s.length : Int)), show ((i : Int)).toNat = i by omega]
    simp only [cond_true]
    by_cases c1 : s.getD i 0 < -2000000
    · rw [dt c1]; exact .inr ⟨fun hp => by have := hp i (Nat.le_refl i) (by omega); omega, rfl⟩
    · rw [df c1]
      by_cases c2 : s.getD i 0 > 2000000
      · rw [dt c2]; exact .inr ⟨fun hp => by have := hp i (Nat.le_refl i) (by omega); omega, rfl⟩
      · rw [df c2]
        simp only [cond_false, Option.bind_some, Sum.elim_inl]
        have fin : ∀ R, R = ref11_Valid.L1 (((), (), (s.length : Int), ((i + 1 : Nat) : Int), ()), ((s, q, ()), dl s (i + 1), ())) → (Inb s i ∧ (Option.bind R fun y => some y) = some (Sum.inl (((), (), ()), ((s, q, ()), dl s s.length, ())))) ∨ (¬ Inb s i ∧ (Option.bind R fun y => some y) = some (Sum.inr (Sum.inl ((false, ()), ())))) := by
          rintro R rfl
          rcases ih with ⟨h1, h2⟩ | ⟨h1, h2⟩
          · refine .inl ⟨fun j hj hk => ?_, by rw [h2]; rfl⟩
            by_cases e : j = i
            · subst e; omega
            · exact h1 j (by omega) hk
          · exact .inr ⟨fun hp => h1 fun j hj hk => hp j (by omega) hk, by rw [h2]; rfl⟩
        rw [w64 (n := (i : Int) + 1) (by omega), show (i : Int) + 1 = ((i + 1 : Nat) : Int) by omega]
        cases i with
        | zero =>
          rw [df (by omega : ¬ (((0 : Nat) : Int) > 0))]
          exact fin _ rfl
        | succ t =>
          have hdl := dl_len s (t + 1)
          rw [dt (by omega : ((t + 1 : Nat) : Int) > 0), dt (by omega : (0 : Int) ≤ ((t + 1 : Nat) : Int)), dt (by omega : ((t + 1 : Nat) : Int) < (s.length : Int)), w64 (n := ((t + 1 : Nat) : Int) - 1) (by omega), dt (by omega : (0 : Int) ≤ ((t + 1 : Nat) : Int) - 1), dt (by omega : ((t + 1 : Nat) : Int) - 1 < (s.length : Int)),
            show (((t + 1 : Nat) : Int) - 1).toNat = t by omega, show (((t + 1 : Nat) : Int)).toNat = t + 1 by omega]
          simp only [cond_true, List.length_cons, List.length_nil]
          rw [dt (by omega : ((dl s (t + 1)).length + (0 + 1)) * 8 ≤ 140737488355328)]
          simp only [cond_true]
          rw [show dl s (t + 1) ++ [W (s.getD (t + 1) 0 - s.getD t 0)] = dl s (t + 1 + 1) from (dl_succ s t).symm]
          exact fin _ rfl
theorem rvalid_ok (s q : List Int) (hb : s.length ≤ 1000000 ∧ q.length ≤ 1000000) : ∃ b, ref11_Valid.F (((s, q, ()), ()), ()) = some ((b, ()), ()) ∧ (b = true ↔ Val s q) := by
  rw [ref11_Valid.F_eq, ref11_Valid.f, ref11_Valid.L0_eq, ref11_Valid.f0]
  have no : ∀ P : Prop, ¬ P → ((false = true) ↔ P) := fun P h => ⟨fun e => (by cases e), fun p => absurd p h⟩
  by_cases c2 : (s.length : Int) < 1
  · rw [dt c2]; exact ⟨false, rfl, no _ fun v => by have := v.parts; omega⟩
  · rw [df c2]
    by_cases c3 : (s.length : Int) > 2001
    · rw [dt c3]; exact ⟨false, rfl, no _ fun v => by have := v.parts; omega⟩
    · rw [df c3]
      by_cases c1 : (q.length : Int) = (s.length : Int)
      · rw [nt c1]
        simp only [Option.bind_some, Sum.elim_inl, cond_false]
        have hL := rv_loop s q (by omega) s.length 0 (by omega)
        rw [show ((0 : Nat) : Int) = 0 from rfl, show dl s 0 = [] from rfl] at hL
        rcases hL with ⟨h1, h2⟩ | ⟨h1, h2⟩
        · rw [h2]
          simp only [Option.bind_some, Sum.elim_inl]
          obtain ⟨e, s', q', S, he⟩ := rof_ok (dl s s.length)
          have hL := dl_len s s.length
          rw [he]
          simp only [Option.bind_some]
          rcases S with ⟨a, rfl, rfl, rfl⟩ | ⟨a, b, rfl, rfl, rfl⟩ | ⟨a, b, rfl, rfl, rfl⟩
          · omega
          · refine ⟨false, rfl, no _ fun v => b ?_⟩
            rw [hL]; exact v.parts.2.2.2.2.2.2.2.1
          · rw [show ((0 : Int) == 0) = true from rfl]
            simp only [cond_true]
            rw [same_ok s q (by omega) (by omega)]
            refine ⟨_, rfl, ?_⟩
            rw [decide_eq_true_iff]
            constructor
            · rintro ⟨e1, e2⟩
              exact ⟨_, by omega, b, e1, e2⟩
            · intro v
              have := v.parts
              rw [hL]
              exact ⟨this.2.2.2.2.2.2.2.2.1, this.2.2.2.2.2.2.2.2.2⟩
        · rw [h2]
          exact ⟨false, rfl, no _ fun v => h1 fun j _ hj => v.parts.2.2.2.2.2.2.1 j hj⟩
      · rw [nf c1]; exact ⟨false, rfl, no _ fun v => c1 (by have := v.parts.1; omega)⟩
theorem stats_ok (s q : List Int) (hs : ∀ x ∈ s, I64 x) (hq : ∀ x ∈ q, I64 x) (hb : s.length ≤ 1000000 ∧ q.length ≤ 1000000) (i m : Int) (hi : I64 i) (hm : I64 m) :
    ∃ (r : Int × Int × Int) (e : Int), window_Stats.F (((s, q, ()), i, m, ()), ()) = some (((r.1, r.2.1, r.2.2, ()), e, ()), ()) ∧ ref11_Stats.F (((s, q, ()), i, m, ()), ()) = some (((r.1, r.2.1, r.2.2, ()), e, ()), ()) := by
  obtain ⟨b, e1, k1⟩ := wvalid_ok s q hs hq hb
  obtain ⟨b', e2, k2⟩ := rvalid_ok s q hb
  have hbb : b = b' := by
    cases b <;> cases b' <;> first | rfl | (have := k1.1 rfl; have := k2.2 this; cases this) | (have := k2.1 rfl; have := k1.2 this; cases this)
  subst hbb
  show ∃ (r : Int × Int × Int) (e : Int), window_Stats.f window_valid.F window_between.F window_Stats.L0 s q i m = _ ∧ ref11_Stats.f ref11_Valid.F ref11_part.F ref11_Stats.L0 s q i m = _
  unfold window_Stats.f ref11_Stats.f I64 at *
  rw [show window_valid.F (((s, (q, ())), ()), ()) = _ from e1, show ref11_Valid.F (((s, (q, ())), ()), ()) = _ from e2]
  simp only [Option.bind_some]
  cases b with
  | false => exact ⟨(0, 0, 0), 3, rfl, rfl⟩
  | true =>
    have P := (k1.1 rfl).parts
    simp only [Bool.not_true, cond_false]
    rw [window_Stats.L0_eq, ref11_Stats.L0_eq, window_Stats.f0, ref11_Stats.f0, w64 (n := (s.length : Int) - 1) (by omega)]
    by_cases c1 : i < 0
    · rw [dt c1]; exact ⟨(0, 0, 0), 1, rfl, rfl⟩
    · rw [df c1]
      by_cases c2 : m < 1
      · rw [dt c2]; exact ⟨(0, 0, 0), 1, rfl, rfl⟩
      · rw [df c2]
        simp only [cond_false]
        by_cases c : i + m ≤ (s.length : Int) - 1
        · obtain ⟨r, hr⟩ := between_ok (s := s) (q := q) (i := i) (m := m) (by omega) (by omega) (by omega) (by omega) (by omega)
          refine ⟨r, 0, ?_, ?_⟩
          · rw [df (by omega : ¬ i > (s.length : Int) - 1), w64 (n := (s.length : Int) - 1 - i) (by omega), df (by omega : ¬ m > (s.length : Int) - 1 - i)]
            simp only [cond_false, Option.bind_some, Sum.elim_inl]
            rw [hr]; rfl
          · rw [df (by omega : ¬ m > (s.length : Int) - 1), w64 (n := (s.length : Int) - 1 - m) (by omega), df (by omega : ¬ i > (s.length : Int) - 1 - m)]
            simp only [cond_false, Option.bind_some, Sum.elim_inl]
            rw [show ref11_part.F (((s, (q, ())), (i, (m, ()))), ()) = _ from hr]; rfl
        · refine ⟨(0, 0, 0), 1, ?_, ?_⟩
          · by_cases d : i > (s.length : Int) - 1
            · rw [dt d]; rfl
            · rw [df d, w64 (n := (s.length : Int) - 1 - i) (by omega), dt (by omega : m > (s.length : Int) - 1 - i)]; rfl
          · by_cases d : m > (s.length : Int) - 1
            · rw [dt d]; rfl
            · rw [df d, w64 (n := (s.length : Int) - 1 - m) (by omega), dt (by omega : i > (s.length : Int) - 1 - m)]; rfl
end Go.Proofs.Ytknkiogjibpooaa.V
