/- Regular series: the program's series. -/
import Derived.Test.YtknkiogjibpooabVg1
import Derived.Test.YtknkiogjibpooabVRes2
set_option linter.unusedVariables false
set_option linter.unusedSimpArgs false
namespace Go.Proofs.Ytknkiogjibpooab.V
open Go.VI

/-- What is answered at a time. -/
def AtR (l : List (Int × Int)) (f s c r h t : Int) (y : (Int × Bool × Unit) × Unit) : Prop :=
  (¬ (chk l = 0 ∧ GV f s c r h ∧ 0 ≤ t ∧ t ≤ 1099511627776) ∧ y = ((0, (false, ())), ())) ∨ ((chk l = 0 ∧ GV f s c r h ∧ 0 ≤ t ∧ t ≤ 1099511627776) ∧ ∃ v, V l r h t v ∧ y = res v)
theorem AtR.one {l : List (Int × Int)} {f s c r h t : Int} {y y' : (Int × Bool × Unit) × Unit} (k : AtR l f s c r h t y) (k' : AtR l f s c r h t y') : y = y' := by
  rcases k with ⟨n, rfl⟩ | ⟨p, v, hv, rfl⟩ <;> rcases k' with ⟨n', rfl⟩ | ⟨p', v', hv', rfl⟩
  · rfl
  · exact absurd p' n
  · exact absurd p n'
  · rw [hv.one hv']
theorem at_ok (l : List (Int × Int)) (f s c r h t : Int) : Ok (resample_At.F ((l, ((f, (s, (c, (r, (h, ()))))), (t, ()))), ())) (AtR l f s c r h t) := by
  rw [resample_At.F_eq, resample_At.f]
  refine .bind (P := fun y => y = Sum.inl ((l, (t, ((), (decide (¬ (chk l = 0 ∧ GV f s c r h ∧ 0 ≤ t ∧ t ≤ 1099511627776)), ())))), ((f, (s, (c, (r, (h, ()))))), ()))) ?_ ?_
  · rw [resample_At.L0_eq, resample_At.f0, check_eq]
    simp only [Option.bind_some]
    refine .bool (fun k => .some ?_) fun k => ?_
    · have : chk l ≠ 0 := by simpa using k
      rw [dt (p := ¬ _) (fun h => this h.1)]
    · have e0 : chk l = 0 := by simpa using k
      rw [valid_eq]
      simp only [Option.bind_some]
      by_cases g : GV f s c r h
      · rw [dt g]
        refine .cond (fun k => .some ?_) fun k => .some ?_
        · rw [dt (p := ¬ _) (fun h => by omega)]
        · simp only [Sum.inl.injEq, Prod.mk.injEq, and_true, true_and]
          exact decide_eq_decide.2 ⟨fun h h' => by omega, fun h' => by
            by_cases q : t > 1099511627776
            · exact q
            · exact absurd ⟨e0, g, by omega, by omega⟩ h'⟩
      · rw [df g]
        exact .some (by rw [dt (p := ¬ _) (fun h => g h.2.1)])
  rintro y rfl
  simp only [Sum.elim_inl]
  refine .cond (fun k => .some (.inl ⟨k, rfl⟩)) fun k => ?_
  have k' := Decidable.not_not.1 k
  obtain ⟨k1, k2, k3⟩ := k'
  obtain ⟨c1, c2, c3⟩ := chk_zero k1
  refine .bind (value_ok c1 c2 c3 f s c r h t (by unfold GV at k2; omega) k3) fun y hy => ?_
  obtain ⟨v, hv, rfl⟩ := hy
  exact .some (.inr ⟨⟨k1, k2, k3⟩, v, hv, rfl⟩)

/-- A series' values. -/
def App (l : List (Int × Int)) (f s c r h : Int) (vs : List Int) : Prop := (vs.length : Int) = c ∧ ∀ i : Nat, (i : Int) < c → ∃ v, V l r h (f + i * s) v ∧ vs.getD i 0 = v.getD 1073741824
theorem App.one {l : List (Int × Int)} {f s c r h : Int} {vs vs' : List Int} (k : App l f s c r h vs) (k' : App l f s c r h vs') : vs = vs' := by
  refine list_ext_getD 0 (by have := k.1; have := k'.1; omega) fun i hi => ?_
  obtain ⟨v, h1, h2⟩ := k.2 i (by have := k.1; omega)
  obtain ⟨v', h1', h2'⟩ := k'.2 i (by have := k.1; omega)
  rw [h2, h2', h1.one h1']
abbrev AppT := ((Int × Int × Unit × Unit) × Int × Unit) × (List Int) × Unit
/-- What Apply answers. -/
def ApR (l : List (Int × Int)) (f s c r h : Int) (y : AppT) : Prop :=
  (¬ GV f s c r h ∧ y = (((0, (0, ((), ()))), (3, ())), ([], ()))) ∨ (GV f s c r h ∧ chk l ≠ 0 ∧ y = (((0, (0, ((), ()))), (chk l, ())), ([], ()))) ∨
    (GV f s c r h ∧ chk l = 0 ∧ ∃ vs, App l f s c r h vs ∧ y = (((f, (s, ((), ()))), (0, ())), (vs, ())))
theorem ApR.one {l : List (Int × Int)} {f s c r h : Int} {y y' : AppT} (k : ApR l f s c r h y) (k' : ApR l f s c r h y') : y = y' := by
  rcases k with ⟨n, rfl⟩ | ⟨p, q, rfl⟩ | ⟨p, q, v, hv, rfl⟩ <;> rcases k' with ⟨n', rfl⟩ | ⟨p', q', rfl⟩ | ⟨p', q', v', hv', rfl⟩
  all_goals first | rfl | exact absurd ‹GV f s c r h› ‹¬ GV f s c r h› | exact absurd ‹chk l = 0› ‹chk l ≠ 0› | rw [hv.one hv']
theorem apply_loop {l : List (Int × Int)} {f s c r h : Int} (g : GV f s c r h) (h0 : chk l = 0) : ∀ (k i : Nat) (o : List Int), ((i + k : Nat) : Int) = c → (o.length : Int) = c → (∀ j : Nat, j < i → ∃ v, V l r h (f + j * s) v ∧ o.getD j 0 = v.getD 1073741824) →
    Ok (resample_Apply.L0 ((l, ((), ((), ((), (c, ((i : Int), ())))))), ((f, (s, (c, (r, (h, ()))))), ((0, (0, ((), ()))), ((f, (s, ((), ()))), (o, ()))))))
      (fun y => ∃ vs, App l f s c r h vs ∧ y = Sum.inl (((), ((), ())), ((0, (0, ((), ()))), ((f, (s, ((), ()))), (vs, ()))))) := by
  intro k
  induction k with
  | zero =>
    intro i o hi ho hj
    rw [resample_Apply.L0_eq, resample_Apply.f0]
    exact .cond (fun c => by omega) fun c => .some ⟨o, ⟨ho, fun j h => hj j (by omega)⟩, rfl⟩
  | succ k ih =>
    intro i o hi ho hj
    rw [resample_Apply.L0_eq, resample_Apply.f0]
    have hg := g
    unfold GV at hg
    have hm := GV.mul g (i := i) (by omega) (by omega)
    obtain ⟨c1, c2, c3⟩ := chk_zero h0
    have e1 : ((i : Int) + 1) = ((i + 1 : Nat) : Int) := by omega
    have fin : ∀ (x : Int) (v : Option Int), V l r h (f + i * s) v → x = v.getD 1073741824 → ∀ j : Nat, j < i + 1 → ∃ v, V l r h (f + j * s) v ∧ (o.set i x).getD j 0 = v.getD 1073741824 := by
      intro x v hv hx j hj'
      rw [getD_set (by omega)]
      by_cases e : j = i
      · subst e; rw [if_pos rfl]; exact ⟨v, hv, hx⟩
      · rw [if_neg e]; exact hj j (by omega)
    refine .cond (fun k1 => ?_) fun k1 => by omega
    rw [w64 (n := (i : Int) * s) (by omega), w64 (n := f + i * s) (by omega), w64 (n := (i : Int) + 1) (by omega), Int.toNat_natCast, e1]
    refine .bind (value_ok c1 c2 c3 f s c r h (f + i * s) (by omega) (by omega)) fun y hy => ?_
    obtain ⟨v, hv, rfl⟩ := hy
    cases v with
    | none =>
      simp only [res, Option.isSome_none, Bool.not_false, cond_true]
      refine .guard (by omega) (.guard (by omega) (.bind (ih (i + 1) _ (by omega) (by simp; omega) (fin _ _ hv rfl)) fun y hy => .some hy))
    | some z =>
      simp only [res, Option.isSome_some, Bool.not_true, cond_false, Option.getD_some]
      refine .guard (by omega) (.guard (by omega) (.bind (ih (i + 1) _ (by omega) (by simp; omega) (fin _ _ hv rfl)) fun y hy => .some hy))
theorem apply_ok (l : List (Int × Int)) (f s c r h : Int) : Ok (resample_Apply.F ((l, ((f, (s, (c, (r, (h, ()))))), ())), ())) (ApR l f s c r h) := by
  rw [resample_Apply.F_eq, resample_Apply.f, valid_eq]
  simp only [Option.bind_some]
  by_cases g : GV f s c r h
  · rw [dt g]
    simp only [Bool.not_true, cond_false]
    rw [check_eq]
    simp only [Option.bind_some]
    refine .bool (fun k => .some (.inr (.inl ⟨g, by simpa using k, rfl⟩))) fun k => ?_
    have h0 : chk l = 0 := by simpa using k
    have hg := g
    unfold GV at hg
    refine .guard (by trivial) (.guard (by omega) ?_)
    rw [Bool.and_true]
    refine .guard (by omega) ?_
    obtain ⟨n, hn⟩ : ∃ n : Nat, c = n := ⟨c.toNat, by omega⟩
    have e : ((List.length (List.replicate c.toNat (0 : Int)) : Nat) : Int) = c := by simp; omega
    rw [e]
    refine .bind (apply_loop g h0 n 0 _ (by omega) e (by omega)) fun y hy => ?_
    obtain ⟨vs, hv, rfl⟩ := hy
    exact .some (.inr (.inr ⟨g, h0, vs, hv, rfl⟩))
  · rw [df g]
    exact .some (.inl ⟨g, rfl⟩)
/-- The examples of the chapter. -/
theorem awake_eq : law08_awake.F ((), ()) = some ((true, ()), ()) := by
  have hr : Rng [((10 : Int), (0 : Int)), (20, 5)] := by intro x hx; simp at hx; rcases hx with rfl | rfl <;> simp
  have ha : Asc [((10 : Int), (0 : Int)), (20, 5)] := by
    refine asc_of fun j hj => ?_
    have : j = 0 := by simp at hj; omega
    subst this; simp
  have h0 : chk [((10 : Int), (0 : Int)), (20, 5)] = 0 := chk_ok (by simp) hr ha
  have g : GV 9 2 7 3 9 := by decide
  have hV : App [((10 : Int), (0 : Int)), (20, 5)] 9 2 7 3 9 [1073741824, 1, 2, 3, 4, 5, 1073741824] := by
    refine ⟨rfl, fun i hi => ?_⟩
    have nb : ∀ t : Int, 10 < t → t < 20 → Nb [((10 : Int), (0 : Int)), (20, 5)] t 0 1 := fun t h1 h2 => by
      refine ⟨by omega, by simp, fun j hj => ?_, fun j hj hj2 => ?_, ?_⟩
      · have : j = 0 := by omega
        subst this; simpa using h1
      · simp at hj2
        have : j = 1 := by omega
        subst this; simp; omega
      · simp; omega
    have nb0 : Nb [((10 : Int), (0 : Int)), (20, 5)] 9 (-1) 0 := by
      refine ⟨by omega, by simp, fun j hj => by omega, fun j hj hj2 => ?_, by simp⟩
      simp at hj2
      have : j = 0 ∨ j = 1 := by omega
      rcases this with rfl | rfl <;> simp
    have nb2 : Nb [((10 : Int), (0 : Int)), (20, 5)] 21 1 2 := by
      refine ⟨by omega, by simp, fun j hj => ?_, fun j hj hj2 => by simp at hj2; omega, by simp⟩
      have : j = 0 ∨ j = 1 := by omega
      rcases this with rfl | rfl <;> simp
    have hi' : i = 0 ∨ i = 1 ∨ i = 2 ∨ i = 3 ∨ i = 4 ∨ i = 5 ∨ i = 6 := by omega
    rcases hi' with rfl | rfl | rfl | rfl | rfl | rfl | rfl
    · exact ⟨_, ⟨_, _, nb0, rfl⟩, by decide⟩
    · exact ⟨_, ⟨_, _, nb 11 (by omega) (by omega), rfl⟩, by decide⟩
    · exact ⟨_, ⟨_, _, nb 13 (by omega) (by omega), rfl⟩, by decide⟩
    · exact ⟨_, ⟨_, _, nb 15 (by omega) (by omega), rfl⟩, by decide⟩
    · exact ⟨_, ⟨_, _, nb 17 (by omega) (by omega), rfl⟩, by decide⟩
    · exact ⟨_, ⟨_, _, nb 19 (by omega) (by omega), rfl⟩, by decide⟩
    · exact ⟨_, ⟨_, _, nb2, rfl⟩, by decide⟩
  rw [law08_awake.F_eq, law08_awake.f, law08_two.F_eq, law08_two.f]
  simp only [Option.bind_some]
  refine Ok.eq (.bind (apply_ok _ _ _ _ _ _) fun y hy => ?_)
  rcases hy with ⟨n, rfl⟩ | ⟨p, q, rfl⟩ | ⟨p, q, vs, hv, rfl⟩
  · exact absurd g n
  · exact absurd h0 q
  · have e := hv.one hV
    subst e
    dsimp only
    rw [ints_eq _ _ (by simp)]
    exact .some rfl
end Go.Proofs.Ytknkiogjibpooab.V
