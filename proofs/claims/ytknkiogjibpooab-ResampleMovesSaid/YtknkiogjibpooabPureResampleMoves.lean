/- The law ResampleMoves, as plain mathematics: it is true for every input. -/
import Derived.Test.YtknkiogjibpooabVg2
import Derived.Test.YtknkiogjibpooabVRes3
set_option linter.unusedVariables false
set_option linter.unusedSimpArgs false
namespace Go.Proofs.Ytknkiogjibpooab.V
open Go.VI

/-- Readings moved by a time. -/
def shift (l : List (Int × Int)) (m : Int) : List (Int × Int) := l.map fun x => (x.1 + m, x.2)
theorem shift_length (l : List (Int × Int)) (m : Int) : (shift l m).length = l.length := by unfold shift; simp
theorem shift_get {l : List (Int × Int)} {m : Int} {i : Nat} (h : i < l.length) : (shift l m).getD i (0, 0) = ((l.getD i (0, 0)).1 + m, (l.getD i (0, 0)).2) := by
  unfold shift
  rw [List.getD_eq_getElem?_getD, List.getD_eq_getElem?_getD, List.getElem?_map, List.getElem?_eq_getElem h]; rfl
theorem nb_shift {l : List (Int × Int)} {t a b : Int} (m : Int) (h : Nb l t a b) : Nb (shift l m) (t + m) a b := by
  obtain ⟨h1, h2, h3, h4, h5⟩ := h
  refine ⟨h1, by rw [shift_length]; exact h2, fun j hj => ?_, fun j hj hj2 => ?_, ?_⟩
  · rw [shift_get (by omega)]; have := h3 j hj; show _ + m < t + m; omega
  · rw [shift_length] at hj2
    rw [shift_get hj2]; have := h4 j hj hj2; show t + m ≤ _ + m; omega
  · rw [shift_length, h5]
    by_cases c : b < (l.length : Int)
    · rw [shift_get (by omega)]
      by_cases e : (l.getD b.toNat (0, 0)).1 = t
      · rw [if_pos ⟨c, e⟩, if_pos ⟨c, by show _ + m = t + m; omega⟩]
      · rw [if_neg (fun h => e h.2), if_neg (fun h => e (by have h := h.2; have h : _ + m = t + m := h; omega))]
    · rw [if_neg (fun h => c h.1), if_neg (fun h => c h.1)]
theorem val_shift {l : List (Int × Int)} {t a b : Int} (m r h : Int) (N : Nb l t a b) : val (shift l m) r h (t + m) a b = val l r h t a b := by
  obtain ⟨b1, b2, b3, b4, b5, b6, _⟩ := N.bd
  have hA : 0 ≤ a → (shift l m).getD a.toNat (0, 0) = ((l.getD a.toNat (0, 0)).1 + m, (l.getD a.toNat (0, 0)).2) := fun h => shift_get (by omega)
  have hB : b < (l.length : Int) → (shift l m).getD b.toNat (0, 0) = ((l.getD b.toNat (0, 0)).1 + m, (l.getD b.toNat (0, 0)).2) := fun h => shift_get (by omega)
  unfold val
  rw [shift_length]
  by_cases c1 : 0 ≤ a <;> by_cases c2 : b < (l.length : Int)
  · rw [hA c1, hB c2]
    dsimp only
    rw [show t + m - ((l.getD a.toNat (0, 0)).1 + m) = t - (l.getD a.toNat (0, 0)).1 by omega, show (l.getD b.toNat (0, 0)).1 + m - (t + m) = (l.getD b.toNat (0, 0)).1 - t by omega, show (l.getD b.toNat (0, 0)).1 + m - ((l.getD a.toNat (0, 0)).1 + m) = (l.getD b.toNat (0, 0)).1 - (l.getD a.toNat (0, 0)).1 by omega]
  · rw [hA c1]
    dsimp only
    rw [show t + m - ((l.getD a.toNat (0, 0)).1 + m) = t - (l.getD a.toNat (0, 0)).1 by omega]
    simp only [c1, c2, true_and, false_and, not_false_eq_true, true_or, and_true, and_false, if_false]
  · rw [hB c2]
    dsimp only
    rw [show (l.getD b.toNat (0, 0)).1 + m - (t + m) = (l.getD b.toNat (0, 0)).1 - t by omega]
    simp only [c1, c2, true_and, false_and, and_true, and_false, if_false]
  · simp only [c1, c2, true_and, false_and, and_true, and_false, if_false]
theorem app_shift {l : List (Int × Int)} {f s c r h : Int} {vs : List Int} (m : Int) (k : App l f s c r h vs) : App (shift l m) (f + m) s c r h vs := by
  refine ⟨k.1, fun i hi => ?_⟩
  obtain ⟨v, ⟨a, b, hn, rfl⟩, hv⟩ := k.2 i hi
  refine ⟨_, ⟨a, b, ?_, rfl⟩, ?_⟩
  · have := nb_shift m hn
    rw [show f + m + i * s = f + i * s + m by omega]; exact this
  · rw [hv, show f + m + i * s = f + i * s + m by omega, val_shift m r h hn]
def cut (x : Int × Int) : Int × Int := (Int.tmod x.1 1099511626776, x.2)
theorem moves_loop (m : Int) (hm : 0 ≤ m ∧ m ≤ 65535) (L : List Int) (j : Int) (l : List (Int × Int)) (hl : l.length ≤ 1000) : ∀ (k i : Nat), i + k = l.length →
    Ok (law08_ResampleMoves.L0 ((m, ((), ((), ((), ((), ((l.length : Int), ((i : Int), ()))))))), ((L, (j, ())), ((l.take i).map cut, (shift ((l.take i).map cut) m, (l, ()))))))
      (fun y => y = Sum.inl ((m, ((), ((), ((), ())))), ((L, (j, ())), (l.map cut, (shift (l.map cut) m, ()))))) := by
  intro k
  induction k with
  | zero =>
    intro i hi
    rw [law08_ResampleMoves.L0_eq, law08_ResampleMoves.f0]
    refine .cond (fun c => by omega) fun c => .some ?_
    rw [List.take_of_length_le (by omega)]
  | succ k ih =>
    intro i hi
    rw [law08_ResampleMoves.L0_eq, law08_ResampleMoves.f0]
    refine .cond (fun c => .guard (by omega) (.guard (by omega) ?_)) fun c => by omega
    have hb := tmod_pos (a := (l.getD i (0, 0)).1) (b := 1099511626776) (by omega)
    have e1 : (l.take (i + 1)).map cut = (l.take i).map cut ++ [(Int.tmod (l.getD i (0, 0)).1 1099511626776, (l.getD i (0, 0)).2)] := by
      rw [List.take_add_one, List.map_append, List.getD_eq_getElem?_getD, List.getElem?_eq_getElem (by omega)]; rfl
    have e2 : shift ((l.take (i + 1)).map cut) m = shift ((l.take i).map cut) m ++ [(Int.tmod (l.getD i (0, 0)).1 1099511626776 + m, (l.getD i (0, 0)).2)] := by
      rw [e1]; unfold shift; rw [List.map_append]; rfl
    rw [Int.toNat_natCast, w64 (n := m) (by omega), w64 (n := _ + m) (by omega), w64 (n := (i : Int) + 1) (by omega), ← e1, ← e2, show (i : Int) + 1 = ((i + 1 : Nat) : Int) by omega]
    refine .guard (by simp; omega) (.guard (by rw [shift_length]; simp; omega) (.bind (ih (i + 1) (by omega)) fun y hy => .some hy))
/-- What the law asks of moved readings. -/
def Fit (l : List (Int × Int)) (n : Nat) : Prop := ∀ j : Nat, j < n → (l.getD j (0, 0)).1 ≤ 1073741824 ∧ (0 < j → (l.getD (j - 1) (0, 0)).1 < (l.getD j (0, 0)).1)
theorem moves_fit (m : Int) (L : List Int) (j : Int) (l z : List (Int × Int)) (hl : l.length ≤ 1000) : ∀ (k i : Nat), i + k = l.length → Fit l i →
    Ok (law08_ResampleMoves.L1 ((m, ((), ((), ((), ((l.length : Int), ((i : Int), ())))))), ((L, (j, ())), (l, (z, ())))))
      (fun y => (Fit l l.length ∧ y = Sum.inl ((m, ((), ((), ((), ())))), ((L, (j, ())), (l, (z, ()))))) ∨ y = Sum.inr (Sum.inl ((true, ()), ()))) := by
  intro k
  induction k with
  | zero =>
    intro i hi hF
    rw [law08_ResampleMoves.L1_eq, law08_ResampleMoves.f1]
    have : i = l.length := by omega
    subst this
    exact .cond (fun c => by omega) fun c => .some (.inl ⟨hF, rfl⟩)
  | succ k ih =>
    intro i hi hF
    rw [law08_ResampleMoves.L1_eq, law08_ResampleMoves.f1]
    refine .cond (fun c => ?_) fun c => by omega
    refine .bind (P := fun y => ∃ b, y = Sum.inl ((m, ((), ((), ((), ((l.length : Int), ((i : Int), (b, ()))))))), ((L, (j, ())), (l, (z, ())))) ∧ (b = false → Fit l (i + 1))) ?_ fun y hy => ?_
    · rw [law08_ResampleMoves.L2_eq, law08_ResampleMoves.f2, Int.toNat_natCast]
      refine .guard (by omega) (.guard (by omega) (.cond (fun c => .some ⟨_, rfl, fun h => by cases h⟩) fun c1 => .cond (fun c => ?_) fun c => .some ⟨_, rfl, fun _ q hq => ?_⟩))
      · rw [w64 (by omega)]
        refine .guard (by omega) (.guard (by omega) (.guard (by omega) (.guard (by omega) (.some ⟨_, rfl, fun h q hq => ?_⟩))))
        have h := of_decide_eq_false h
        rw [show ((i : Int) - 1).toNat = i - 1 by omega] at h
        by_cases e : q = i
        · subst e; exact ⟨by omega, fun _ => by omega⟩
        · exact hF q (by omega)
      · by_cases e : q = i
        · subst e; exact ⟨by omega, fun _ => by omega⟩
        · exact hF q (by omega)
    obtain ⟨b, rfl, hb⟩ := hy
    simp only [Sum.elim_inl]
    refine .bool (fun _ => by rw [awake_eq]; exact .some (.inr rfl)) fun hb' => ?_
    rw [w64 (by omega), show (i : Int) + 1 = ((i + 1 : Nat) : Int) by omega]
    exact .bind (ih (i + 1) (by omega) (hb hb')) fun y hy => .some hy
theorem ResampleMoves_pure (l : List Int) (m : Int) (hl : ∀ x ∈ l, I64 x) (hm : 0 ≤ m ∧ m ≤ 65535) : law08_ResampleMoves.F ((l, (m, ())), ()) = some ((true, ()), ()) := by
  rw [law08_ResampleMoves.F_eq, law08_ResampleMoves.f]
  refine Ok.eq (.bind (new_ok l hl) fun y0 k0 => .bind (ascending_ok k0 _ (by omega)) fun y1 ⟨k1, n1, r1, a1⟩ => ?_)
  generalize y1.2.2.1 = l at *
  refine .bind (moves_loop m hm _ _ l (by omega) l.length 0 (by omega)) fun y hy => ?_
  subst hy
  simp only [Sum.elim_inl]
  refine .bind (moves_fit m _ _ (l.map cut) _ (by simp; omega) (l.map cut).length 0 (by omega) (fun j hj => by omega)) fun y hy => ?_
  rcases hy with ⟨hF, rfl⟩ | rfl
  · have hx : ∀ i : Nat, i < (l.map cut).length → 0 ≤ ((l.map cut).getD i (0, 0)).1 ∧ -1000 ≤ ((l.map cut).getD i (0, 0)).2 ∧ ((l.map cut).getD i (0, 0)).2 ≤ 1000 := fun i hi => by
      have hi' : i < l.length := by simpa using hi
      have e : (l.map cut).getD i (0, 0) = cut (l.getD i (0, 0)) := by
        rw [List.getD_eq_getElem?_getD, List.getD_eq_getElem?_getD, List.getElem?_map, List.getElem?_eq_getElem hi']; rfl
      rw [e]
      have := r1.get hi'
      exact ⟨Int.tmod_nonneg _ this.1, this.2.2⟩
    have hlen : (l.map cut).length ≤ 10 := by simp; omega
    generalize l.map cut = x at *
    have rx : Rng x := Rng.of fun j hj => ⟨(hx j hj).1, by have := (hF j hj).1; omega, (hx j hj).2⟩
    have ax : Asc x := asc_of fun j hj => (hF (j + 1) hj).2 (by omega)
    have h0 := chk_ok (by omega) rx ax
    have ry : Rng (shift x m) := Rng.of fun j hj => by
      rw [shift_length] at hj
      rw [shift_get hj]
      have := hF j hj; have := hx j hj
      exact ⟨by show 0 ≤ _ + m; omega, by show _ + m ≤ _; omega, this.2⟩
    have ay : Asc (shift x m) := asc_of fun j hj => by
      rw [shift_length] at hj
      rw [shift_get (by omega), shift_get hj]
      have := ax j (j + 1) (by omega) hj
      show _ + m < _ + m; omega
    have h0y := chk_ok (by rw [shift_length]; omega) ry ay
    simp only [Sum.elim_inl]
    refine .bind (grid_ok k1 x (by omega) fun q hq => by have := rx q hq; omega) fun y2 ⟨k2, g2, g2f⟩ => ?_
    obtain ⟨⟨⟨f, s, c, r, h, _⟩, _⟩, _⟩ := y2
    dsimp only at *
    have g := g2.gv
    have hf : f ≤ 1073741840 := by
      rcases g2f with e | ⟨q, hq, e⟩
      · omega
      · obtain ⟨i, hi, rfl⟩ := List.getElem_of_mem hq
        have := (hF i hi).1
        rw [List.getD_eq_getElem?_getD, List.getElem?_eq_getElem hi] at this
        simp at this
        omega
    rw [w64 (n := m) (by omega), w64 (n := f + m) (by unfold GridR at g2; omega)]
    have g' : GV (f + m) s c r h := by
      obtain ⟨g3, g4, g5, g6, g7, g8, g9⟩ := g2
      refine ⟨by omega, by omega, g5, by omega, g7, by omega, ?_, g9⟩
      by_cases e : c = 0
      · exact .inl e
      · have := mul_bd (a := c - 1) (b := s) (A := 18) (B := 9) (by omega) (by omega) (by omega) (by omega)
        right; omega
    refine .bind (apply_ok x f s c r h) fun y3 k3 => .bind (apply_ok (shift x m) (f + m) s c r h) fun y4 k4 => ?_
    rcases k3 with ⟨n, rfl⟩ | ⟨p, q, rfl⟩ | ⟨p, q, vs, hv, rfl⟩
    · exact absurd g n
    · exact absurd h0 q
    rcases k4 with ⟨n, rfl⟩ | ⟨p', q', rfl⟩ | ⟨p', q', vs', hv', rfl⟩
    · exact absurd g' n
    · exact absurd h0y q'
    have e := hv'.one (app_shift m hv)
    subst e
    rw [law08_ResampleMoves.L3_eq, law08_ResampleMoves.f3]
    dsimp only
    rw [w64 (n := m) (by omega), w64 (n := f + m) (by unfold GridR at g2; omega), bt rfl, bt rfl, bt rfl, ints_eq _ _ (by have := hv.1; unfold GV at g; omega), dt rfl]
    simp only [Option.bind_some, cond_true]
    rw [awake_eq]
    exact .some rfl
  · exact .some rfl
theorem ResampleMoves_true (x : law08_ResampleMoves.sh.X) (h : dsWf law08_ResampleMoves.sh.ds x.1) : law08_ResampleMoves.F x = some ((true, ()), ()) := by
  obtain ⟨⟨l, m, _⟩, _⟩ := x
  obtain ⟨hl, hm, _⟩ := h
  exact ResampleMoves_pure l m (wf_ints hl) (wf_u16 hm)
end Go.Proofs.Ytknkiogjibpooab.V
