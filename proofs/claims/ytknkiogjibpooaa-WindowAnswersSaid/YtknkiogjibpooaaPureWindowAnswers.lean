/- The law WindowAnswers, as plain mathematics. -/
import Derived.Test.YtknkiogjibpooaaVg3
import Derived.Test.YtknkiogjibpooaaVBase
import Derived.Test.YtknkiogjibpooaaVKeep
import Derived.Test.YtknkiogjibpooaaVWin
import Derived.Test.YtknkiogjibpooaaVWin2
import Derived.Test.YtknkiogjibpooaaVWin3
import Derived.Test.YtknkiogjibpooaaVWin4
set_option linter.unusedVariables false
namespace Go.Proofs.Ytknkiogjibpooaa.V
open Go.VI
def In1000 (v : Int) : Prop := -1000 ≤ v ∧ v ≤ 1000
theorem clip_in (n : Int) : In1000 (mn (mx n (-1000)) 1000) := by
  have h1 := mx_ge n (-1000)
  have h2 := mn_le (mx n (-1000)) 1000
  unfold In1000; omega
theorem list_loop (n kind size : Int) (hn : n ≤ 1000) (hsz : 1 ≤ size ∧ size ≤ 1000) : ∀ (k : Nat) (i x : Int) (L : List Int) (j : Int) (o : List Int), i + k = n → 0 ≤ i → (o.length : Int) = i → Src L j → In1000 x → (∀ v ∈ o, In1000 v) →
    Ok (keep_Src_List.L1 (((), n, kind, size, x, (), i, ()), ((L, j, ()), o, ()))) fun r => ∃ L' j' o', Src L' j' ∧ o'.length ≤ 1000 ∧ (∀ v ∈ o', In1000 v) ∧ r = Sum.inl (((), ()), ((L', j', ()), o', ()))
  | 0, i, x, L, j, o, h, h0, ho, hs, hx, hv => by
    rw [keep_Src_List.L1_eq, keep_Src_List.f1, df (by omega)]; exact .some ⟨L, j, o, hs, by omega, hv, rfl⟩
  | k + 1, i, x, L, j, o, h, h0, ho, hs, hx, hv => by
    have hw : Go.IntKind.wrap Go.IntKind.i64 (0 - size) = 0 - size := w64 (by omega)
    have fin : ∀ (L' : List Int) (j' x' v : Int), Src L' j' → In1000 x' → In1000 v → Ok (bif decide ((o.length + [v].length) * 8 ≤ 140737488355328) then (keep_Src_List.L1 (((), (n, (kind, (size, (x', ((), (Go.IntKind.wrap Go.IntKind.i64 (i + 1), ()))))))), ((L', (j', ())), (o ++ [v], ())))).bind fun y => some y else none) fun r => ∃ L' j' o', Src L' j' ∧ o'.length ≤ 1000 ∧ (∀ v ∈ o', In1000 v) ∧ r = Sum.inl (((), ()), ((L', j', ()), o', ())) := fun L' j' x' v hs' hx' hv' => by
      rw [w64 (n := i + 1) (by omega)]
      refine .guard (by simp; omega) (.bind (list_loop n kind size hn hsz k (i + 1) x' L' j' (o ++ [v]) (by omega) (by omega) (by simp; omega) hs' hx' ?_) fun r hr => .some hr)
      intro u hu
      rcases List.mem_append.1 hu with hu | hu
      · exact hv u hu
      · simp at hu; subst hu; exact hv'
    have l2 : ∃ t, keep_Src_List.L2 (((), n, kind, size, x, (), i, kind, kind == 0, ()), ((L, j, ()), o, ())) = some (Sum.inl (((), n, kind, size, x, (), i, kind, t, ()), ((L, j, ()), o, ()))) := by
      rw [keep_Src_List.L2_eq, keep_Src_List.f2]; cases (kind == 0) <;> exact ⟨_, rfl⟩
    have l3 : ∃ t, keep_Src_List.L3 (((), n, kind, size, x, (), i, kind, kind == 2, ()), ((L, j, ()), o, ())) = some (Sum.inl (((), n, kind, size, x, (), i, kind, t, ()), ((L, j, ()), o, ()))) := by
      rw [keep_Src_List.L3_eq, keep_Src_List.f3]; cases (kind == 2) <;> exact ⟨_, rfl⟩
    obtain ⟨t2, e2⟩ := l2
    obtain ⟨t3, e3⟩ := l3
    rw [keep_Src_List.L1_eq, keep_Src_List.f1, dt (by omega : i < n)]
    simp only [cond_true]
    rw [e2]
    simp only [Option.bind_some, Sum.elim_inl, hw]
    refine .bool (fun _ => ?_) fun _ => ?_
    · exact .bind (range_ok hs _ _ (by omega)) fun y ⟨k1, a, b⟩ => fin _ _ _ _ k1 hx (by unfold In1000; omega)
    · rw [e3]
      simp only [Option.bind_some, Sum.elim_inl, hw]
      refine .bool (fun _ => ?_) fun _ => ?_
      · refine .bind (range_ok hs _ _ (by omega)) fun y ⟨k1, _, _⟩ => ?_
        rw [keep_clip.F_eq, keep_clip.f]
        simp only [Option.bind_some]
        exact fin _ _ _ _ k1 (clip_in _) (clip_in _)
      · refine .bool (fun _ => ?_) fun _ => ?_
        · exact .bind (n_ok hs 4 (by omega)) fun y ⟨k1, _, _⟩ => .bool (fun _ => .bind (range_ok k1 _ _ (by omega)) fun y' ⟨k2, a, b⟩ => fin _ _ _ _ k2 (by unfold In1000; omega) (by unfold In1000; omega)) fun _ => fin _ _ _ _ k1 hx hx
        · exact .bind (pick_ok hs _ (by decide)) fun y ⟨k1, m1⟩ => fin _ _ _ _ k1 hx (by simp at m1; unfold In1000; omega)
theorem list_ok {L : List Int} {j : Int} (h : Src L j) (n : Int) (hn : 0 ≤ n ∧ n ≤ 1000) : Ok (keep_Src_List.F (((), (n, ())), ((L, (j, ())), ()))) fun r => Src r.2.1.1 r.2.1.2.1 ∧ r.2.2.1.length ≤ 1000 ∧ ∀ v ∈ r.2.2.1, In1000 v := by
  rw [keep_Src_List.F_eq, keep_Src_List.f]
  refine .bind (n_ok h 6 (by omega)) fun y0 ⟨s0, _, _⟩ => .bind (pick_ok s0 _ (by decide)) fun y1 ⟨s1, m1⟩ => .bind (n_ok s1 3 (by omega)) fun y2 ⟨s2, _, _⟩ => ?_
  have hsz : 1 ≤ y1.1.1 ∧ y1.1.1 ≤ 1000 := by simp at m1; omega
  have l0 : Ok (keep_Src_List.L0 (((), n, y0.1.1, y1.1.1, 0, y2.1.1 == 0, ()), ((y2.2.1.1, y2.2.1.2.1, ()), ()))) fun r => ∃ L' j' x, Src L' j' ∧ In1000 x ∧ r = Sum.inl (((), n, y0.1.1, y1.1.1, x, ()), ((L', j', ()), ())) := by
    rw [keep_Src_List.L0_eq, keep_Src_List.f0]
    exact .bool (fun _ => .bind (range_ok s2 _ _ (by omega)) fun y ⟨k1, a, b⟩ => .some ⟨_, _, _, k1, ⟨a, b⟩, rfl⟩) fun _ => .some ⟨_, _, _, s2, by unfold In1000; decide, rfl⟩
  refine .bind l0 ?_
  rintro _ ⟨L', j', x, k1, hx, rfl⟩
  simp only [Sum.elim_inl]
  refine .bind (list_loop n y0.1.1 y1.1.1 hn.2 hsz n.toNat 0 x L' j' [] (by omega) (by omega) rfl k1 hx (by simp)) ?_
  rintro _ ⟨L2, j2, o2, k2, k3, k4, rfl⟩
  exact .some ⟨k2, k3, k4⟩
theorem bent_loop : ∀ (k : Nat) (o L : List Int) (j : Int), 33 ≤ o.length + k → o.length ≤ 1000000 → Src L j → Ok (keep_Src_Bent.L0 (((), (), ()), ((L, j, ()), o, ()))) fun r => ∃ L' j' o', Src L' j' ∧ r = Sum.inl (((), ()), ((L', j', ()), o', ()))
  | 0, o, L, j, h, ho, hs => by
    rw [keep_Src_Bent.L0_eq, keep_Src_Bent.f0, df (by omega)]; exact .some ⟨L, j, o, hs, rfl⟩
  | k + 1, o, L, j, h, ho, hs => by
    rw [keep_Src_Bent.L0_eq, keep_Src_Bent.f0]
    refine .cond (fun c => ?_) fun _ => .some ⟨L, j, o, hs, rfl⟩
    exact .bind (n_ok hs 9 (by omega)) fun y ⟨k1, _, _⟩ => .guard (by simp; omega) (.bind (bent_loop k (o ++ [y.1.1]) _ _ (by simp; omega) (by simp; omega) k1) fun r hr => .some hr)
theorem bent_ok {L : List Int} {j : Int} (h : Src L j) (x : List Int) (hx : x.length ≤ 1000) : Ok (keep_Src_Bent.F (((), (x, ())), ((L, (j, ())), ()))) fun r => Src r.2.1.1 r.2.1.2.1 := by
  rw [keep_Src_Bent.F_eq, keep_Src_Bent.f]
  simp only [List.nil_append]
  refine .guard (by simp; omega) (.bind (n_ok h 4 (by omega)) fun y1 ⟨s1, _, _⟩ => .bool (fun _ => ?_) fun _ => .bool (fun _ => ?_) fun _ => ?_)
  · refine .bind (n_ok s1 2 (by omega)) fun y3 ⟨s3, a3, b3⟩ => ?_
    have hm := mn_le (x.length : Int) y3.1.1
    exact .guard (by omega) (.guard (by omega) (.some s3))
  · refine .bind (bent_loop 33 x _ _ (by omega) (by omega) s1) ?_
    rintro _ ⟨L', j', o', k1, rfl⟩
    exact .some k1
  · refine .cond (fun c => ?_) fun _ => .some s1
    exact .bind (n_ok s1 _ (by omega)) fun y5 ⟨s5, a5, b5⟩ => .bind (pick_ok s5 _ (by decide)) fun y6 ⟨s6, _⟩ => .guard a5 (.guard b5 (.some s6))

theorem WindowAnswers_pure (raw oS oQ : List Int) (x1 x2 x3 from_ m : Int) (l : List Int) (hS : ∀ x ∈ oS, I64 x) (hQ : ∀ x ∈ oQ, I64 x) (hf : I64 from_) (hm : I64 m) (hl : ∀ x ∈ l, I64 x) :
    law11_WindowAnswers.F ((raw, (oS, oQ, ()), (x1, x2, x3, ()), from_, m, l, ()), ()) = some ((true, ()), ()) := by
  refine Ok.eq ?_
  rw [law11_WindowAnswers.F_eq, law11_WindowAnswers.f]
  have l0 : ∃ t, law11_WindowAnswers.L0 ((raw, from_, m, l, (), (), ()), ((oS, oQ, ()), (x1, x2, x3, ()), ())) = some (Sum.inl ((raw, from_, m, l, (), (), t, ()), ((oS, oQ, ()), (x1, x2, x3, ()), ()))) ∧ (t = false → oS.length ≤ 200 ∧ oQ.length ≤ 200) := by
    rw [law11_WindowAnswers.L0_eq, law11_WindowAnswers.f0]
    by_cases c1 : (raw.length : Int) > 200
    · rw [dt c1]; exact ⟨true, rfl, fun h => by cases h⟩
    · rw [df c1]
      by_cases c2 : (oS.length : Int) > 200
      · rw [dt c2]; exact ⟨true, rfl, fun h => by cases h⟩
      · rw [df c2]
        by_cases c3 : (oQ.length : Int) > 200
        · rw [dt c3]; exact ⟨true, rfl, fun h => by cases h⟩
        · rw [df c3]; exact ⟨false, rfl, fun _ => ⟨by omega, by omega⟩⟩
  obtain ⟨t, e0, ht⟩ := l0
  have aw : ∀ (Q : ((Bool × Unit) × Unit) → Prop), Q ((true, ()), ()) → Ok ((law11_awake.F ((), ())).bind fun y => some ((y.1.1, ()), ())) Q := by
    intro Q hq
    rw [awake11]; exact .some hq
  rw [e0]
  simp only [Option.bind_some, Sum.elim_inl]
  refine .bool (fun _ => aw _ rfl) fun hfalse => ?_
  have hlen := ht hfalse
  refine .bind (new_ok l hl) ?_
  rintro ⟨⟨⟨⟩, _⟩, ⟨L0, j0, _⟩, _⟩ s0
  dsimp only at s0 ⊢
  refine .bind (n_ok s0 40 (by omega)) ?_
  rintro ⟨⟨n4, _⟩, ⟨L4, j4, _⟩, _⟩ ⟨s4, a4, b4⟩
  dsimp only at s4 a4 b4 ⊢
  refine .bind (list_ok s4 n4 (by omega)) ?_
  rintro ⟨⟨⟨⟩, _⟩, ⟨L5, j5, _⟩, y5, _⟩ ⟨s5, hy, hy2⟩
  dsimp only at s5 hy hy2 ⊢
  refine .bind (bent_ok s5 y5 hy) ?_
  rintro ⟨⟨z6, _⟩, ⟨L6, j6, _⟩, _⟩ s6
  dsimp only at s6 ⊢
  refine .bind (wa_L1 from_ m y5 oS oQ x1 x2 x3 [raw, y5, z6] (by simp) 3 0 L6 j6 (by simp) (by omega) s6) ?_
  rintro _ ⟨L7, j7, s7, rfl⟩
  simp only [Sum.elim_inl]
  obtain ⟨e, S, Q, hSum, he⟩ := rof_ok y5
  have hSl := sums_len hSum
  have hSI := sums_I64 hSum
  rw [he]
  simp only [Option.bind_some, List.nil_append, List.length_nil]
  refine .guard (by omega) (.guard (by omega) ?_)
  have hq0 : 0 < Q.length := by
    rcases hSum with ⟨a, _⟩ | ⟨a, b, _⟩ | ⟨a, b, rfl, rfl, rfl⟩
    · omega
    · exact absurd (fun j hj => hy2 _ (getD_mem hj)) b
    · rw [tab_len]; omega
  refine .bind (n_ok s7 (Q.length : Int) (by omega)) ?_
  rintro ⟨⟨n12, _⟩, ⟨L12, j12, _⟩, _⟩ ⟨s12, a12, b12⟩
  dsimp only at s12 a12 b12 ⊢
  refine .guard a12 (.guard b12 ?_)
  refine .bind (pick_ok s12 _ (by decide)) ?_
  rintro ⟨⟨n15, _⟩, ⟨L15, j15, _⟩, _⟩ ⟨s15, m15⟩
  dsimp only at s15 m15 ⊢
  refine .guard a12 (.guard b12 ?_)
  refine .bind (wa_L4 from_ m hf hm x1 x2 x3 [(oS, oQ), (S, Q), (S, Q.set n12.toNat (Go.IntKind.wrap Go.IntKind.i64 (Q.getD n12.toNat 0 + n15))), ([], [])] (by simp) (by
    intro p hp
    simp only [List.mem_cons, List.not_mem_nil, or_false] at hp
    rcases hp with rfl | rfl | rfl | rfl
    · exact ⟨hS, hQ, by dsimp only; omega, by dsimp only; omega⟩
    · exact ⟨hSI.1, hSI.2, by dsimp only; omega, by dsimp only; omega⟩
    · refine ⟨hSI.1, fun x hx => ?_, by dsimp only; omega, by dsimp only; rw [List.length_set]; omega⟩
      rcases List.mem_or_eq_of_mem_set hx with h | rfl
      · exact hSI.2 x h
      · exact wrap_I64 _
    · exact ⟨by simp, by simp, by simp, by simp⟩) 4 0 L15 j15 (by simp) (by omega) s15) ?_
  rintro _ ⟨L18, j18, s18, rfl⟩
  simp only [Sum.elim_inl]
  refine .bind (range_ok s18 0 9 (by omega)) fun y20 ⟨s20, _, _⟩ => .bind (range_ok s20 (-99) 99 (by omega)) fun y21 ⟨s21, _, _⟩ => .bind (n_ok s21 2000 (by omega)) fun y22 ⟨s22, _, _⟩ => ?_
  obtain ⟨w1, ew1, _⟩ := var_ok x1 x2 x3
  obtain ⟨w2, ew2, _⟩ := var_ok y20.1.1 y21.1.1 y22.1.1
  rw [show window_Variance.F (((x1, (x2, (x3, ()))), ()), ()) = _ from ew1]
  simp only [Option.bind_some]
  rw [show ref11_Variance.F (((x1, (x2, (x3, ()))), ()), ()) = _ from (var_same x1 x2 x3).trans ew1]
  simp only [Option.bind_some]
  rw [bt rfl]
  simp only [cond_true]
  rw [show window_Variance.F (((y20.1.1, (y21.1.1, (y22.1.1, ()))), ()), ()) = _ from ew2]
  simp only [Option.bind_some]
  rw [show ref11_Variance.F (((y20.1.1, (y21.1.1, (y22.1.1, ()))), ()), ()) = _ from (var_same _ _ _).trans ew2]
  simp only [Option.bind_some]
  rw [bt rfl]
  exact aw _ rfl
theorem WindowAnswers_true (x : law11_WindowAnswers.sh.X) (h : dsWf law11_WindowAnswers.sh.ds x.1) : law11_WindowAnswers.F x = some ((true, ()), ()) := by
  obtain ⟨⟨raw, ⟨oS, oQ, _⟩, ⟨x1, x2, x3, _⟩, f, m, l, _⟩, _⟩ := x
  obtain ⟨h1, h2, h3, h4, h5, h6, _⟩ := h
  exact WindowAnswers_pure raw oS oQ x1 x2 x3 f m l (wf_ints h2.1) (wf_ints h2.2.1) (wf_i64 h4) (wf_i64 h5) (wf_ints h6)
end Go.Proofs.Ytknkiogjibpooaa.V
