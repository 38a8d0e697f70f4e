/- The law ResampleAnswers, as plain mathematics: it is true for every input. -/
import Derived.Test.YtknkiogjibpooabVg5
import Derived.Test.YtknkiogjibpooabVRes4
set_option linter.unusedVariables false
set_option linter.unusedSimpArgs false
namespace Go.Proofs.Ytknkiogjibpooab.V
open Go.VI

theorem at_same (l : List (Int × Int)) (f s c r h t : Int) : Ok (resample_At.F ((l, ((f, (s, (c, (r, (h, ()))))), (t, ()))), ())) (fun y => ref08_At.F ((l, ((f, (s, (c, (r, (h, ()))))), (t, ()))), ()) = some y) := by
  obtain ⟨y', e, hy'⟩ := ref_At_ok l f s c r h t
  exact (at_ok l f s c r h t).mono fun y hy => by rw [e, hy.one hy']
theorem apply_same (l : List (Int × Int)) (f s c r h : Int) : Ok (resample_Apply.F ((l, ((f, (s, (c, (r, (h, ()))))), ())), ())) (fun y => ref08_Apply.F ((l, ((f, (s, (c, (r, (h, ()))))), ())), ()) = some y ∧ y.2.1.length ≤ 2000 ∧ y.1.1.2.2.1 = () ) := by
  obtain ⟨y', e, hy'⟩ := ref_apply_ok l f s c r h
  refine (apply_ok l f s c r h).mono fun y hy => ⟨by rw [e, hy.one hy'], ?_, rfl⟩
  rcases hy with ⟨n, rfl⟩ | ⟨p, q, rfl⟩ | ⟨p, q, vs, hv, rfl⟩
  · simp
  · simp
  · have := hv.1; unfold GV at p; show vs.length ≤ 2000; omega
theorem same_eq (a b : Int) (v : List Int) (hv : v.length ≤ 2000) : law08_same.F (((a, (b, (v, ()))), ((a, (b, (v, ()))), ())), ()) = some ((true, ()), ()) := by
  rw [law08_same.F_eq, law08_same.f, bt rfl, bt rfl, ints_eq v v (by omega), dt rfl]; rfl
theorem ans5 (raw : List (Int × Int)) (time : Int) (x y : List (Int × Int)) (e1 e2 v99 v100 : Int) (L : List Int) (j : Int) (f s c r h f' s' c' r' h' : Int) (o3 : List (Int × Int × Int × Int × Int)) (o4 : List (List (Int × Int))) (ts : List Int) (hn : ts.length ≤ 1000) :
    ∀ (k i : Nat), i + k = ts.length →
    Ok (law08_ResampleAnswers.L5 ((raw, (time, ((), (x, ((), ((), (y, ((), (e1, (e2, ((), (v99, (v100, ((), ((ts.length : Int), ((i : Int), ())))))))))))))))), ((L, (j, ())), ((f, (s, (c, (r, (h, ()))))), ((f', (s', (c', (r', (h', ()))))), (o3, (o4, (ts, ()))))))))
      (fun z => z = Sum.inl ((raw, (time, ((), (x, ((), ((), ((), (e1, (e2, ((), (v99, (v100, ())))))))))))), ((L, (j, ())), ((f, (s, (c, (r, (h, ()))))), ((f', (s', (c', (r', (h', ()))))), (o3, (o4, ()))))))) := by
  intro k
  induction k with
  | zero =>
    intro i hi
    rw [law08_ResampleAnswers.L5_eq, law08_ResampleAnswers.f5]
    exact .cond (fun hc => by omega) fun hc => .some rfl
  | succ k ih =>
    intro i hi
    rw [law08_ResampleAnswers.L5_eq, law08_ResampleAnswers.f5]
    refine .cond (fun hc => .guard (by omega) (.guard (by omega) ?_)) fun hc => by omega
    refine .bind (at_same _ _ _ _ _ _ _) fun z hz => ?_
    rw [hz]
    simp only [Option.bind_some, nt, beq_self_eq_true, Bool.not_true, cond_false]
    rw [w64 (by omega), show (i : Int) + 1 = ((i + 1 : Nat) : Int) by omega]
    exact .bind (ih (i + 1) (by omega)) fun y hy => .some hy
theorem ans3 (raw : List (Int × Int)) (time : Int) (x : List (Int × Int)) (e1 e2 : Int) (L : List Int) (j : Int) (f s c r h f' s' c' r' h' : Int) (o3 : List (Int × Int × Int × Int × Int)) (o4 : List (List (Int × Int))) (hn : o4.length ≤ 1000) :
    ∀ (k i : Nat), i + k = o4.length →
    Ok (law08_ResampleAnswers.L3 ((raw, (time, ((), (x, ((), ((), ((), (e1, (e2, ((), ((o4.length : Int), ((i : Int), ())))))))))))), ((L, (j, ())), ((f, (s, (c, (r, (h, ()))))), ((f', (s', (c', (r', (h', ()))))), (o3, (o4, ())))))))
      (fun z => z = Sum.inl ((raw, (time, ((), (x, ((), ((), (e1, (e2, ())))))))), ((L, (j, ())), ((f, (s, (c, (r, (h, ()))))), (o3, ()))))) := by
  intro k
  induction k with
  | zero =>
    intro i hi
    rw [law08_ResampleAnswers.L3_eq, law08_ResampleAnswers.f3]
    exact .cond (fun hc => by omega) fun hc => .some rfl
  | succ k ih =>
    intro i hi
    rw [law08_ResampleAnswers.L3_eq, law08_ResampleAnswers.f3]
    refine .cond (fun hc => .guard (by omega) (.guard (by omega) ?_)) fun hc => by omega
    refine .bind (apply_same _ _ _ _ _ _) fun z ⟨hz, hl, _⟩ => ?_
    rw [hz]
    simp only [Option.bind_some]
    rw [law08_ResampleAnswers.L4_eq, law08_ResampleAnswers.f4, same_eq _ _ _ hl]
    simp only [Option.bind_some, Bool.not_true, cond_false, Sum.elim_inl, nt]
    refine .bind (mod_ok _ _ (by omega) (by omega)) fun m hm => ?_
    refine .bind (ans5 raw time x _ e1 e2 _ _ L j f s c r h f' s' c' r' h' o3 o4 [time, Go.IntKind.wrap .i64 (f + m.1.1)] (by simp) 2 0 rfl) fun y hy => ?_
    subst hy
    simp only [Sum.elim_inl]
    rw [w64 (by omega), show (i : Int) + 1 = ((i + 1 : Nat) : Int) by omega]
    exact .bind (ih (i + 1) (by omega)) fun y hy => .some hy
theorem ans2 (raw : List (Int × Int)) (time : Int) (x : List (Int × Int)) (hx : x.length ≤ 100000) (f s c r h : Int) (o2 : List (Int × Int × Int × Int × Int)) (hn : o2.length ≤ 1000) :
    ∀ (k i : Nat) (L : List Int) (j : Int), i + k = o2.length → Src L j →
    Ok (law08_ResampleAnswers.L2 ((raw, (time, ((), (x, ((), ((), ((o2.length : Int), ((i : Int), ())))))))), ((L, (j, ())), ((f, (s, (c, (r, (h, ()))))), (o2, ()))))) (fun z => z = Sum.inl ((), ())) := by
  intro k
  induction k with
  | zero =>
    intro i L j hi hs
    rw [law08_ResampleAnswers.L2_eq, law08_ResampleAnswers.f2]
    exact .cond (fun hc => by omega) fun hc => .some rfl
  | succ k ih =>
    intro i L j hi hs
    rw [law08_ResampleAnswers.L2_eq, law08_ResampleAnswers.f2]
    refine .cond (fun hc => .guard (by omega) (.guard (by omega) ?_)) fun hc => by omega
    rw [valid_eq, ref_valid_eq]
    simp only [Option.bind_some, beq_self_eq_true, Bool.not_true, cond_false]
    refine .bind (wrong_ok hs x hx) fun w hw => ?_
    refine .bind (ans3 raw time x _ _ _ _ f s c r h _ _ _ _ _ o2 [raw, x, w.2.2.1] (by simp) 3 0 rfl) fun y hy => ?_
    subst hy
    simp only [Sum.elim_inl]
    rw [w64 (by omega), show (i : Int) + 1 = ((i + 1 : Nat) : Int) by omega]
    exact .bind (ih (i + 1) _ _ (by omega) hw) fun y hy => .some hy
theorem ResampleAnswers_true (x : law08_ResampleAnswers.sh.X) (h : dsWf law08_ResampleAnswers.sh.ds x.1) : law08_ResampleAnswers.F x = some ((true, ()), ()) := by
  obtain ⟨⟨raw, ⟨g0, g1, g2, g3, g4, _⟩, time, l, _⟩, _⟩ := x
  obtain ⟨hraw, hg, ht, hl, _⟩ := h
  have hl := wf_ints hl
  rw [law08_ResampleAnswers.F_eq, law08_ResampleAnswers.f]
  refine Ok.eq (.bind (P := fun y => ∃ b, y = Sum.inl ((raw, (time, (l, ((), (b, ()))))), ((g0, (g1, (g2, (g3, (g4, ()))))), ()))) ?_ fun y hy => ?_)
  · rw [law08_ResampleAnswers.L0_eq, law08_ResampleAnswers.f0]
    exact .cond (fun _ => .some ⟨_, rfl⟩) fun _ => .cond (fun _ => .some ⟨_, rfl⟩) fun _ => .some ⟨_, rfl⟩
  obtain ⟨b, rfl⟩ := hy
  simp only [Sum.elim_inl]
  refine .bool (fun _ => by rw [awake_eq]; exact .some rfl) fun _ => ?_
  refine .bind (new_ok l hl) fun y0 k0 => .bind (ascending_ok k0 _ (by omega)) fun y1 ⟨k1, n1, r1, a1⟩ => .bind (grid_ok k1 _ (by omega) fun x hx => by have := r1 x hx; omega) fun y2 ⟨k2, _⟩ => .bind (n_ok k2 _ (by omega)) fun y3 ⟨k3, _⟩ => ?_
  refine .bind (P := fun y => ∃ L j o0 o1 o2 o3 o4, Src L j ∧ y = Sum.inl ((raw, (time, ((), ((), (y1.2.2.1, ((), ((), ()))))))), ((g0, (g1, (g2, (g3, (g4, ()))))), ((L, (j, ())), ((y2.1.1.1, (y2.1.1.2.1, (y2.1.1.2.2.1, (y2.1.1.2.2.2.1, (y2.1.1.2.2.2.2.1, ()))))), ((o0, (o1, (o2, (o3, (o4, ()))))), ())))))) ?_ fun y hy => ?_
  · rw [law08_ResampleAnswers.L1_eq, law08_ResampleAnswers.f1]
    refine .bool (fun _ => .bind (pick_ok k3 _ (by simp)) fun z ⟨q, _⟩ => .some ⟨_, _, _, _, _, _, _, q, rfl⟩) fun _ => .bool (fun _ => .bind (pick_ok k3 _ (by simp)) fun z ⟨q, _⟩ => .some ⟨_, _, _, _, _, _, _, q, rfl⟩) fun _ =>
      .bool (fun _ => .bind (pick_ok k3 _ (by simp)) fun z ⟨q, _⟩ => .some ⟨_, _, _, _, _, _, _, q, rfl⟩) fun _ => .bool (fun _ => .bind (pick_ok k3 _ (by simp)) fun z ⟨q, _⟩ => .some ⟨_, _, _, _, _, _, _, q, rfl⟩) fun _ => .bind (pick_ok k3 _ (by simp)) fun z ⟨q, _⟩ => .some ⟨_, _, _, _, _, _, _, q, rfl⟩
  obtain ⟨L, j, o0, o1, o2, o3, o4, hs, rfl⟩ := hy
  simp only [Sum.elim_inl]
  refine .bind (ans2 raw time y1.2.2.1 (by omega) _ _ _ _ _ [_, _, _] (by simp) 3 0 L j rfl hs) fun y hy => ?_
  subst hy
  simp only [Sum.elim_inl]
  rw [awake_eq]
  exact .some rfl
end Go.Proofs.Ytknkiogjibpooab.V
