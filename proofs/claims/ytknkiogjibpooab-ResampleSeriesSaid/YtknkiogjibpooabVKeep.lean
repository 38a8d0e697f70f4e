/- The reader of numbers (shapesearchkeep.Src): each of its functions answers, in the range that it names. -/
import Derived.Test.YtknkiogjibpooabVg3
import Derived.Test.YtknkiogjibpooabVBase
set_option linter.unusedVariables false
namespace Go.Proofs.Ytknkiogjibpooab.V
open Go.VI

/-- A reader that stands within its list of at most 2000 numbers. -/
def Src (L : List Int) (i : Int) : Prop := 0 ≤ i ∧ i ≤ (L.length : Int) ∧ L.length ≤ 2000 ∧ ∀ x ∈ L, I64 x

theorem new_ok (l : List Int) (h : ∀ x ∈ l, I64 x) : Ok (keep_New.F ((l, ()), ())) (fun r => Src r.2.1.1 r.2.1.2.1) := by
  show Ok (keep_New l) _
  unfold keep_New keep_New.f
  have hm := mn_le (l.length : Int) 2000
  refine .guard (by omega) (.guard (by omega) (.some ?_))
  refine ⟨by simp, by simp, ?_, fun x hx => h x (List.mem_of_mem_take (List.mem_of_mem_drop hx))⟩
  simp only [List.length_drop, List.length_take]; omega

theorem raw_ok {L : List Int} {i : Int} (h : Src L i) : Ok (keep_Src_Raw.F (((), ()), ((L, (i, ())), ()))) (fun r => Src r.2.1.1 r.2.1.2.1 ∧ I64 r.1.1) := by
  show Ok (keep_Src_Raw L i) _
  unfold keep_Src_Raw keep_Src_Raw.f
  obtain ⟨h0, h1, h2, h3⟩ := h
  refine .cond (fun c => .some ⟨⟨h0, h1, h2, h3⟩, by dsimp only; unfold I64; omega⟩) fun c => ?_
  simp (disch := omega) only [w64]
  exact .guard (by omega) (.guard (by omega) (.some ⟨⟨by dsimp only; omega, by dsimp only; omega, h2, h3⟩, h3 _ (getD_int (by omega) (by omega))⟩))

theorem mod_ok (a b : Int) (hb : 1 ≤ b) (hb2 : b ≤ 9223372036854775807) : Ok (keep_Mod.F ((a, (b, ())), ())) (fun r => 0 ≤ r.1.1 ∧ r.1.1 < b) := by
  show Ok (keep_Mod a b) _
  unfold keep_Mod keep_Mod.f
  have h := tmod_pos (a := a) (b := b) (by omega)
  refine .cond (fun c => by omega) fun c => ?_
  rw [show (!decide (b = 0)) = true by simp; omega]
  refine .cond (fun c => .some ?_) fun c => .some ⟨?_, ?_⟩
  · simp (disch := omega) only [w64]; omega
  · exact Int.not_lt.1 c
  · exact h.2

theorem n_ok {L : List Int} {i : Int} (h : Src L i) (n : Int) (hn : 1 ≤ n ∧ n ≤ 9223372036854775807) : Ok (keep_Src_N.F (((), (n, ())), ((L, (i, ())), ()))) (fun r => Src r.2.1.1 r.2.1.2.1 ∧ 0 ≤ r.1.1 ∧ r.1.1 < n) := by
  show Ok (keep_Src_N n L i) _
  unfold keep_Src_N keep_Src_N.f
  exact .bind (raw_ok h) fun y ⟨k1, k2⟩ => .bind (mod_ok _ _ hn.1 hn.2) fun z ⟨k3, k4⟩ => .some ⟨k1, k3, k4⟩

theorem range_ok {L : List Int} {i : Int} (h : Src L i) (lo hi : Int) (hl : lo ≤ hi ∧ -4611686018427387904 ≤ lo ∧ hi ≤ 4611686018427387000) : Ok (keep_Src_Range.F (((), (lo, (hi, ()))), ((L, (i, ())), ()))) (fun r => Src r.2.1.1 r.2.1.2.1 ∧ lo ≤ r.1.1 ∧ r.1.1 ≤ hi) := by
  show Ok (keep_Src_Range lo hi L i) _
  unfold keep_Src_Range keep_Src_Range.f
  simp (disch := omega) only [w64]
  refine .bind (n_ok h _ (by omega)) fun y ⟨k1, k2, k3⟩ => .some ⟨k1, ?_⟩
  simp (disch := omega) only [w64]; omega

theorem pick_ok {L : List Int} {i : Int} (h : Src L i) (l : List Int) (hl : 0 < l.length ∧ l.length ≤ 1000000) : Ok (keep_Src_Pick.F (((), (l, ())), ((L, (i, ())), ()))) (fun r => Src r.2.1.1 r.2.1.2.1 ∧ r.1.1 ∈ l) := by
  show Ok (keep_Src_Pick l L i) _
  unfold keep_Src_Pick keep_Src_Pick.f
  refine .bind (n_ok h _ (by omega)) fun y ⟨k1, k2, k3⟩ => .guard k2 (.guard k3 (.some ⟨k1, getD_int k2 k3⟩))


theorem ints_loop (a b : List Int) (hb : b.length = a.length) (hl : (a.length : Int) ≤ 9223372036854775806) : ∀ (k : Nat) (i : Int), i = (a.length : Int) - k → 0 ≤ i →
    (∀ j : Nat, (j : Int) < i → a.getD j 0 = b.getD j 0) → Ok (keep_Ints.L0 ((a, (b, ((a.length : Int), (i, ())))), ())) (fun r => (a = b ∧ r = Sum.inl ((), ())) ∨ (a ≠ b ∧ r = Sum.inr (Sum.inl ((false, ()), ())))) := by
  intro k
  induction k with
  | zero =>
    intro i hi h0 hj
    rw [keep_Ints.L0_eq, keep_Ints.f0]
    refine .cond (fun c => by omega) fun c => .some (.inl ⟨?_, rfl⟩)
    exact list_ext_getD 0 hb.symm fun j h => hj j (by omega)
  | succ k ih =>
    intro i hi h0 hj
    rw [keep_Ints.L0_eq, keep_Ints.f0]
    refine .cond (fun c => ?_) fun c => by omega
    refine .guard h0 (.guard (by omega) (.guard h0 (.guard (by omega) (.bool (fun e => ?_) fun e => ?_))))
    · refine .some (.inr ⟨fun he => ?_, rfl⟩)
      subst he; simp at e
    · simp (disch := omega) only [w64]
      refine .bind (ih (i + 1) (by omega) (by omega) fun j h => ?_) fun y hy => .some hy
      by_cases hlt : (j : Int) < i
      · exact hj j hlt
      · have : i.toNat = j := by omega
        rw [← this]; simpa using e
theorem ints_eq (a b : List Int) (hl : (a.length : Int) ≤ 9223372036854775806) : keep_Ints.F ((a, (b, ())), ()) = some ((decide (a = b), ()), ()) := by
  show keep_Ints a b = _
  unfold keep_Ints keep_Ints.f
  refine Ok.eq (.bool (fun c => .some ?_) fun c => ?_)
  · have : a ≠ b := fun e => by subst e; simp at c
    rw [decide_eq_false this]
  · have hb : b.length = a.length := by simp at c; omega
    refine .bind (ints_loop a b hb hl a.length 0 (by omega) (by omega) fun j h => by omega) fun y hy => ?_
    rcases hy with ⟨e, rfl⟩ | ⟨e, rfl⟩
    · exact .some (by rw [decide_eq_true e])
    · exact .some (by rw [decide_eq_false e])

/-- Readings whose times ascend strictly. -/
def Asc (l : List (Int × Int)) : Prop := ∀ i j : Nat, i < j → j < l.length → (l.getD i (0, 0)).1 < (l.getD j (0, 0)).1
/-- Readings within the document's ranges. -/
def Rng (l : List (Int × Int)) : Prop := ∀ x ∈ l, 0 ≤ x.1 ∧ x.1 ≤ 1099511627776 ∧ -1000 ≤ x.2 ∧ x.2 ≤ 1000
theorem Rng.get {l : List (Int × Int)} (h : Rng l) {i : Nat} (hi : i < l.length) : 0 ≤ (l.getD i (0, 0)).1 ∧ (l.getD i (0, 0)).1 ≤ 1099511627776 ∧ -1000 ≤ (l.getD i (0, 0)).2 ∧ (l.getD i (0, 0)).2 ≤ 1000 := h _ (getD_mem hi)
theorem asc_loop (n0 : Nat) (hn0 : n0 ≤ 24) (t0 : Int) (ht0 : 0 ≤ t0 ∧ t0 ≤ 1099511627476) : ∀ (k : Nat) (t : Int) (L : List Int) (j : Int) (o : List (Int × Int)), k + o.length = n0 → Src L j → t0 ≤ t → t ≤ t0 + 12 * o.length →
    (∀ x ∈ o, 0 ≤ x.1 ∧ x.1 ≤ t ∧ -1000 ≤ x.2 ∧ x.2 ≤ 1000) → Asc o →
    Ok (keep_Src_Ascending.L0 (((), ((), (t, ((k : Int), ())))), ((L, (j, ())), (o, ())))) (fun r => ∃ L' j' o', r = Sum.inl (((), ()), ((L', (j', ())), (o', ()))) ∧ Src L' j' ∧ o'.length = n0 ∧ Rng o' ∧ Asc o') := by
  intro k
  induction k with
  | zero =>
    intro t L j o hk hs h1 h2 h3 h4
    rw [keep_Src_Ascending.L0_eq, keep_Src_Ascending.f0]
    refine .cond (fun c => by omega) fun c => .some ⟨L, j, o, rfl, hs, by omega, fun x hx => ?_, h4⟩
    have := h3 x hx
    exact ⟨this.1, by omega, this.2.2⟩
  | succ k ih =>
    intro t L j o hk hs h1 h2 h3 h4
    rw [keep_Src_Ascending.L0_eq, keep_Src_Ascending.f0]
    refine .cond (fun c => ?_) fun c => by omega
    refine .bind (range_ok hs _ _ (by omega)) fun y1 ⟨k1, a1, b1⟩ => .bind (range_ok k1 _ _ (by omega)) fun y2 ⟨k2, a2, b2⟩ => .bind (pick_ok k2 _ (by simp)) fun y3 ⟨k3, p3⟩ => ?_
    have hp : y3.1.1 = 1 ∨ y3.1.1 = 33 := by simp at p3; omega
    have hv : -1000 ≤ y2.1.1 * y3.1.1 ∧ y2.1.1 * y3.1.1 ≤ 1000 := by rcases hp with e | e <;> rw [e] <;> omega
    refine .guard (by simp; omega) ?_
    simp (disch := omega) only [w64]
    have e : ((k + 1 : Nat) : Int) - 1 = (k : Int) := by omega
    rw [e]
    refine .bind (ih (t + y1.1.1) _ _ _ (by simp; omega) k3 (by omega) (by simp; omega) (fun x hx => ?_) ?_) fun y hy => .some hy
    · rcases List.mem_append.1 hx with hx | hx
      · have := h3 x hx; exact ⟨this.1, by omega, this.2.2⟩
      · rw [List.mem_singleton.1 hx]; exact ⟨by show 0 ≤ t + _; omega, Int.le_refl _, hv⟩
    · intro a b hab hb
      simp only [List.length_append, List.length_singleton] at hb
      by_cases hbl : b < o.length
      · rw [getD_append_lt (by omega), getD_append_lt hbl]; exact h4 a b hab hbl
      · rw [getD_append_lt (i := a) (by omega), getD_append_eq (i := b) (by omega)]
        have := (h3 _ (getD_mem (l := o) (i := a) (d := (0, 0)) (by omega))).2.1
        show _ < t + y1.1.1
        omega
theorem ascending_ok {L : List Int} {i : Int} (h : Src L i) (n : Int) (hn : 0 ≤ n ∧ n ≤ 23) : Ok (keep_Src_Ascending.F (((), (n, ())), ((L, (i, ())), ()))) (fun r => Src r.2.1.1 r.2.1.2.1 ∧ (r.2.2.1.length : Int) ≤ n ∧ Rng r.2.2.1 ∧ Asc r.2.2.1) := by
  show Ok (keep_Src_Ascending n L i) _
  unfold keep_Src_Ascending keep_Src_Ascending.f
  refine .bind (pick_ok h _ (by simp)) fun y0 ⟨k0, p0⟩ => ?_
  simp (disch := omega) only [w64]
  refine .bind (n_ok k0 _ (by omega)) fun y1 ⟨k1, a1, b1⟩ => ?_
  have hp : 0 ≤ y0.1.1 ∧ y0.1.1 ≤ 1099511627476 := by simp at p0; omega
  obtain ⟨m, hm⟩ : ∃ m : Nat, y1.1.1 = m := ⟨y1.1.1.toNat, by omega⟩
  rw [hm]
  refine .bind (asc_loop m (by omega) y0.1.1 hp m y0.1.1 _ _ [] (by simp) k1 (by omega) (by simp) (by simp) (fun i j _ h => by simp at h)) fun y2 k2 => ?_
  obtain ⟨L', j', o', rfl, h1, h2, h3, h4⟩ := k2
  exact .some ⟨h1, by show (o'.length : Int) ≤ n; omega, h3, h4⟩
/-- A grid near the times of readings. -/
def GridR (f s c r h : Int) : Prop := 0 ≤ f ∧ f ≤ 1099511627576 ∧ 1 ≤ s ∧ s ≤ 9 ∧ 0 ≤ c ∧ c ≤ 19 ∧ 1 ≤ r ∧ r ≤ 3 ∧ 0 ≤ h ∧ h ≤ 1099511627776
theorem grid_ok {L : List Int} {i : Int} (h : Src L i) (l : List (Int × Int)) (hl : l.length ≤ 100000) (hr : ∀ x ∈ l, -4000000000000000000 ≤ x.1 ∧ x.1 ≤ 4000000000000000000) :
    Ok (keep_Src_Grid.F (((), (l, ())), ((L, (i, ())), ()))) (fun y => Src y.2.1.1 y.2.1.2.1 ∧ GridR y.1.1.1 y.1.1.2.1 y.1.1.2.2.1 y.1.1.2.2.2.1 y.1.1.2.2.2.2.1 ∧ (0 ≥ y.1.1.1 ∨ ∃ x ∈ l, x.1 + 15 ≥ y.1.1.1)) := by
  rw [keep_Src_Grid.F_eq, keep_Src_Grid.f]
  refine .bind (range_ok h _ _ (by omega)) fun y1 ⟨k1, a1, b1⟩ => .bind (n_ok k1 _ (by omega)) fun y2 ⟨k2, a2, b2⟩ => .bind (range_ok k2 _ _ (by omega)) fun y3 ⟨k3, a3, b3⟩ => .bind (pick_ok k3 _ (by simp)) fun y4 ⟨k4, p4⟩ => ?_
  have hp : 0 ≤ y4.1.1 ∧ y4.1.1 ≤ 1099511627776 := by simp at p4; omega
  refine .cond (fun c => .bind (n_ok k4 _ (by omega)) fun y5 ⟨k5, a5, b5⟩ => .guard a5 (.guard b5 (.bind (range_ok k5 _ _ (by omega)) fun y6 ⟨k6, a6, b6⟩ => .some ⟨k6, ?_⟩))) fun c => .some ⟨k4, ?_⟩
  · have := hr _ (getD_int (d := (0, 0)) a5 b5)
    rw [w64 (by omega)]
    have := mn_le ((l.getD y5.1.1.toNat (0, 0)).1 + y6.1.1) 1099511627576
    have := mx_ge 0 (mn ((l.getD y5.1.1.toNat (0, 0)).1 + y6.1.1) 1099511627576)
    dsimp only
    refine ⟨⟨by omega, by omega, by omega, by omega, by omega, by omega, by omega, by omega, by omega, by omega⟩, ?_⟩
    by_cases e : 0 ≥ mx 0 (mn ((l.getD y5.1.1.toNat (0, 0)).1 + y6.1.1) 1099511627576)
    · exact .inl e
    · exact .inr ⟨_, getD_int (d := (0, 0)) a5 b5, by omega⟩
  · dsimp only
    exact ⟨⟨by omega, by omega, by omega, by omega, by omega, by omega, by omega, by omega, by omega, by omega⟩, .inl (by omega)⟩
theorem wrong_ok {L : List Int} {i : Int} (h : Src L i) (l : List (Int × Int)) (hl : l.length ≤ 100000) : Ok (keep_Src_Wrong.F (((), (l, ())), ((L, (i, ())), ()))) (fun y => Src y.2.1.1 y.2.1.2.1) := by
  rw [keep_Src_Wrong.F_eq, keep_Src_Wrong.f]
  refine .guard (by simp; omega) (.bool (fun c => ?_) fun c => ?_)
  · exact .bind (pick_ok h _ (by simp)) fun y ⟨k, _⟩ => .bind (pick_ok k _ (by simp)) fun y' ⟨k', _⟩ => .guard (by simp; omega) (.some k')
  · have hp : 0 < l.length := by simp at c; exact List.length_pos_iff.2 c
    simp only [List.nil_append]
    refine .bind (n_ok h _ (by omega)) fun y ⟨k, a, b⟩ => .bind (n_ok k _ (by omega)) fun y' ⟨k', a', b'⟩ => .bool (fun c => ?_) fun c => .bool (fun c => ?_) fun c => ?_
    · exact .bind (pick_ok k' _ (by simp)) fun z ⟨q, _⟩ => .guard a (.guard b (.some q))
    · exact .bind (pick_ok k' _ (by simp)) fun z ⟨q, _⟩ => .guard a (.guard b (.some q))
    · exact .guard a (.guard b (.guard (by simp; omega) (.some k')))
end Go.Proofs.Ytknkiogjibpooab.V
