/- The law ProfileReversed, as plain mathematics. -/
import Derived.Test.YtefcciajemkicaaVg6
import Derived.Test.YtefcciajemkicaaVBase
import Derived.Test.YtefcciajemkicaaVEuc
import Derived.Test.YtefcciajemkicaaVGcd
import Derived.Test.YtefcciajemkicaaVMv
import Derived.Test.YtefcciajemkicaaVMD
import Derived.Test.YtefcciajemkicaaVSym
import Derived.Test.YtefcciajemkicaaVTurn
import Derived.Test.YtefcciajemkicaaVCmp
import Derived.Test.YtefcciajemkicaaVBst
import Derived.Test.YtefcciajemkicaaVDeck
import Derived.Test.YtefcciajemkicaaVWins
import Derived.Test.YtefcciajemkicaaVProf
import Derived.Test.YtefcciajemkicaaVProf2
set_option linter.unusedVariables false
set_option linter.unusedSimpArgs false
namespace Go.Proofs.Ytefcciajemkicaa.V
open Go.VI
theorem take_rev {x : List Int} {i : Nat} (h : i < x.length) : x.reverse.take i ++ [x.getD (x.length - 1 - i) 0] = x.reverse.take (i + 1) := by
  have hr : i < x.reverse.length := by rw [List.length_reverse]; exact h
  rw [List.take_add_one, ← rev_get h, List.getD_eq_getElem?_getD, List.getElem?_eq_getElem hr]; rfl
theorem back_loop (l : List Int) (hl : l.length ≤ 2000) (k b g m z : Int) : ∀ (n t : Nat), t + n = l.length →
    law37_ProfileReversed.L0 (((), (), m, z, (), (l.length : Int) - 1 - t, ()), (l, (k, b, g, ()), l.reverse.take t, ())) = some (Sum.inl (((), (), m, z, (), ()), (l, (k, b, g, ()), l.reverse, ()))) := by
  intro n
  induction n with
  | zero =>
    intro t h
    rw [law37_ProfileReversed.L0_eq, law37_ProfileReversed.f0, df (by omega), List.take_of_length_le (by rw [List.length_reverse]; omega)]; rfl
  | succ n ih =>
    intro t h
    rw [law37_ProfileReversed.L0_eq, law37_ProfileReversed.f0, dt (by omega), dt (by omega : (l.length : Int) - 1 - t < (l.length : Int)), show ((l.length : Int) - 1 - t).toNat = l.length - 1 - t by omega, take_rev (by omega),
      dt (by rw [List.length_take, List.length_reverse, List.length_singleton]; omega), w64 (by omega), show (l.length : Int) - 1 - t - 1 = (l.length : Int) - 1 - ((t + 1 : Nat) : Int) by omega]
    simp only [cond_true]
    rw [show law37_ProfileReversed.L0 (((), ((), (m, (z, ((), ((l.length : Int) - 1 - ((t + 1 : Nat) : Int), ())))))), (l, ((k, (b, (g, ()))), (l.reverse.take (t + 1), ())))) = _ from ih (t + 1) (by omega)]
    rfl
theorem wn_get {l : List Int} {m i c : Nat} (h : c < m) : (wn l m i).getD c 0 = l.getD (i + c) 0 := getD_cut (by omega)
theorem cnt_rev (l : List Int) (m : Nat) : cnt l.reverse m = cnt l m := by unfold cnt; rw [List.length_reverse]
theorem wn_rev {l : List Int} {m i : Nat} (hm : 1 ≤ m) (h : i < cnt l m) : wn l.reverse m i = (wn l m (cnt l m - 1 - i)).reverse := by
  have e1 := wn_len (l := l.reverse) hm (by rw [cnt_rev]; exact h)
  have e2 := wn_len (l := l) (i := cnt l m - 1 - i) hm (by omega)
  have hc : cnt l m + m = l.length + 1 := by unfold cnt at *; omega
  refine list_ext_getD 0 (by rw [e1, List.length_reverse, e2]) fun c hc' => ?_
  rw [e1] at hc'
  rw [wn_get hc', rev_get (by omega), rev_get (by omega), e2, wn_get (by omega)]
  congr 1; omega
theorem okw_rev {l : List Int} {m i : Nat} (hm : 1 ≤ m) (h : i < cnt l m) : okw l.reverse m i = okw l m (cnt l m - 1 - i) := by
  unfold okw
  rw [wn_rev hm h]
  congr 1
  exact decide_eq_decide.2 List.mem_reverse
section
variable {k b g : Int} {l : List Int} {m z : Nat}
theorem Dd_rev (hm : Mv k b g) (hl : Sv l) (hl' : Sv l.reverse) (hM : 2 ≤ m ∧ m ≤ 32) {i j : Nat} (hi : i < cnt l m) (hj : j < cnt l m) (wi : okw l m i = true) (wj : okw l m j = true) :
    Dd k b g l.reverse m (cnt l m - 1 - i) (cnt l m - 1 - j) = Dd k b g l m i j := by
  have h1 : okw l.reverse m (cnt l m - 1 - i) = true := by rw [okw_rev (by omega) (by omega), show cnt l m - 1 - (cnt l m - 1 - i) = i by omega]; exact wi
  have h2 : okw l.reverse m (cnt l m - 1 - j) = true := by rw [okw_rev (by omega) (by omega), show cnt l m - 1 - (cnt l m - 1 - j) = j by omega]; exact wj
  rw [Dd_symm hm hl' hM (by rw [cnt_rev]; omega) (by rw [cnt_rev]; omega) h1 h2, Dd_symm hm hl hM hi hj wi wj, wn_rev (by omega) (by omega), wn_rev (by omega) (by omega), show cnt l m - 1 - (cnt l m - 1 - i) = i by omega, show cnt l m - 1 - (cnt l m - 1 - j) = j by omega]
  exact MD_rev hm (Wn_win hl hM hi wi) (Wn_win hl hM hj wj) (by rw [wn_len (by omega) hi, wn_len (by omega) hj])
theorem SL_rev (hM : 1 ≤ m) {a x : Nat} (ha : a < cnt l m) (hx : x < cnt l m) : SL l.reverse m z (cnt l m - 1 - a) (cnt l m - 1 - x) ↔ okw l m a = true ∧ okw l m x = true ∧ a + z ≤ x := by
  unfold SL
  rw [okw_rev hM (by omega), okw_rev hM (by omega), show cnt l m - 1 - (cnt l m - 1 - a) = a by omega, show cnt l m - 1 - (cnt l m - 1 - x) = x by omega]
  constructor
  · rintro ⟨h1, h2, h3⟩; exact ⟨h1, h2, by omega⟩
  · rintro ⟨h1, h2, h3⟩; exact ⟨h1, h2, by omega⟩
/-- What the profile of a list and that of the reversed one have to do with one another. -/
theorem rev_same (hm : Mv k b g) (hl : Sv l) (hl' : Sv l.reverse) (hM : 2 ≤ m ∧ m ≤ 32) {A Lf Rt A' Lf' Rt' : List Nb} (h : Pf k b g l m z A Lf Rt) (h' : Pf k b g l.reverse m z A' Lf' Rt') {a : Nat} (ha : a < cnt l m) :
    ((A.getD a (0, 0, 0)).2 = (A'.getD (cnt l m - 1 - a) (0, 0, 0)).2) ∧ ((Lf.getD a (0, 0, 0)).2 = (Rt'.getD (cnt l m - 1 - a) (0, 0, 0)).2 ∧ ((Lf.getD a (0, 0, 0)).1 < 0 ↔ (Rt'.getD (cnt l m - 1 - a) (0, 0, 0)).1 < 0)) ∧ ((Rt.getD a (0, 0, 0)).2 = (Lf'.getD (cnt l m - 1 - a) (0, 0, 0)).2) := by
  have hc := cnt_rev l m
  have ha' : cnt l m - 1 - a < cnt l.reverse m := by omega
  have v := SLR_vr (z := z) hm hl hM ha
  have e0 : cnt l m - 1 - (cnt l m - 1 - a) = a := by omega
  have f1 : ∀ j, SL l m z a j → SR l.reverse m z (cnt l m - 1 - a) (cnt l m - 1 - j) ∧ Dd k b g l.reverse m (cnt l m - 1 - a) (cnt l m - 1 - j) = Dd k b g l m a j := fun j hj => by
    have := hj.2.2
    exact ⟨⟨by omega, (SL_rev (by omega) (by omega) ha).2 ⟨hj.2.1, hj.1, hj.2.2⟩⟩, Dd_rev hm hl hl' hM ha (by omega) hj.1 hj.2.1⟩
  have f2 : ∀ j, SR l m z a j → SL l.reverse m z (cnt l m - 1 - a) (cnt l m - 1 - j) ∧ Dd k b g l.reverse m (cnt l m - 1 - a) (cnt l m - 1 - j) = Dd k b g l m a j := fun j hj =>
    ⟨(SL_rev (by omega) ha hj.1).2 ⟨hj.2.2.1, hj.2.1, hj.2.2.2⟩, Dd_rev hm hl hl' hM ha hj.1 hj.2.2.1 hj.2.1⟩
  have g1 : ∀ j, SR l.reverse m z (cnt l m - 1 - a) j → SL l m z a (cnt l m - 1 - j) ∧ Dd k b g l m a (cnt l m - 1 - j) = Dd k b g l.reverse m (cnt l m - 1 - a) j := fun j hj => by
    have hj1 := hj.1
    have ej : cnt l m - 1 - (cnt l m - 1 - j) = j := by omega
    have hs := hj.2
    have k1 := (SL_rev (z := z) (by omega : 1 ≤ m) (a := cnt l m - 1 - j) (x := a) (by omega) ha).1 (by rw [ej]; exact hs)
    exact ⟨⟨k1.2.1, k1.1, k1.2.2⟩, by rw [← Dd_rev hm hl hl' hM ha (by omega) k1.2.1 k1.1, ej]⟩
  have g2 : ∀ j, SL l.reverse m z (cnt l m - 1 - a) j → SR l m z a (cnt l m - 1 - j) ∧ Dd k b g l m a (cnt l m - 1 - j) = Dd k b g l.reverse m (cnt l m - 1 - a) j := fun j hj => by
    have hj1 := hj.2.2
    have ej : cnt l m - 1 - (cnt l m - 1 - j) = j := by omega
    have k1 := (SL_rev (z := z) (by omega : 1 ≤ m) (a := a) (x := cnt l m - 1 - j) ha (by omega)).1 (by rw [ej]; exact hj)
    exact ⟨⟨by omega, k1.2.1, k1.1, k1.2.2⟩, by rw [← Dd_rev hm hl hl' hM ha (by omega) k1.1 k1.2.1, ej]⟩
  have b1 := (h.left a ha).map (h'.right _ ha') (fun j => cnt l m - 1 - j) (fun j => cnt l m - 1 - j) f1 g1 (fun j hj => v j (.inl hj))
  have b2 := (h.right a ha).map (h'.left _ ha') (fun j => cnt l m - 1 - j) (fun j => cnt l m - 1 - j) f2 g2 (fun j hj => v j (.inr hj))
  have b3 := (h.whole hm hl hM ha).map (h'.whole hm hl' hM ha') (fun j => cnt l m - 1 - j) (fun j => cnt l m - 1 - j) (fun j hj => hj.elim (fun hj => ⟨.inr (f1 j hj).1, (f1 j hj).2⟩) fun hj => ⟨.inl (f2 j hj).1, (f2 j hj).2⟩)
    (fun j hj => hj.elim (fun hj => ⟨.inr (g2 j hj).1, (g2 j hj).2⟩) fun hj => ⟨.inl (g1 j hj).1, (g1 j hj).2⟩) v
  exact ⟨b3.1, b1, b2.1⟩
theorem pair_same {u v : Int × Int} (h : u = v) : ((u.1 == v.1) && ((u.2 == v.2) && true)) = true := by subst h; simp
@[reducible] def PR (k b g : Int) (m z : Nat) (A Lf Rt A' Lf' Rt' : List Nb) := (((k, b, g, (m : Int), (z : Int), (), (), (), ()), (k, b, g, (m : Int), (z : Int), (), (), (), ()), A, Lf, Rt, A', Lf', Rt', ()) : (Int × Int × Int × Int × Int × Unit × Unit × Unit × Unit) × (Int × Int × Int × Int × Int × Unit × Unit × Unit × Unit) × List Nb × List Nb × List Nb × List Nb × List Nb × List Nb × Unit)
theorem check_loop (hm : Mv k b g) (hl : Sv l) (hl' : Sv l.reverse) (hM : 2 ≤ m ∧ m ≤ 32) (hc : cnt l m ≤ 2001) {A Lf Rt A' Lf' Rt' : List Nb} (h : Pf k b g l m z A Lf Rt) (h' : Pf k b g l.reverse m z A' Lf' Rt') : ∀ (n i : Nat), i + n = cnt l m →
    law37_ProfileReversed.L2 (((), (), ((cnt l m : Nat) : Int), (i : Int), ()), PR k b g m z A Lf Rt A' Lf' Rt') = some (Sum.inl ((), ())) := by
  have q1 := h.lA
  have q2 := h.lL
  have q3 := h.lR
  have q4 := h'.lA
  have q5 := h'.lL
  have q6 := h'.lR
  rw [cnt_rev] at q4 q5 q6
  intro n
  induction n with
  | zero =>
    intro i hi
    rw [show law37_ProfileReversed.L2 (((), (), ((cnt l m : Nat) : Int), (i : Int), ()), PR k b g m z A Lf Rt A' Lf' Rt') = _ from law37_ProfileReversed.L2_eq .., law37_ProfileReversed.f2, df (by omega)]; rfl
  | succ n ih =>
    intro i hi
    obtain ⟨s1, ⟨s2, s3⟩, s4⟩ := rev_same hm hl hl' hM h h' (a := i) (by omega)
    rw [show law37_ProfileReversed.L2 (((), (), ((cnt l m : Nat) : Int), (i : Int), ()), PR k b g m z A Lf Rt A' Lf' Rt') = _ from law37_ProfileReversed.L2_eq .., law37_ProfileReversed.f2, dt (by omega), w64 (n := ((cnt l m : Nat) : Int) - 1) (by omega), w64 (n := ((cnt l m : Nat) : Int) - 1 - i) (by omega)]
    simp only [cond_true]
    rw [show law37_ProfileReversed.L3 _ = _ from law37_ProfileReversed.L3_eq .., law37_ProfileReversed.f3, dt (by omega : (0 : Int) ≤ (i : Int)), dt (by omega : (i : Int) < (A.length : Int)), dt (by omega : (0 : Int) ≤ ((cnt l m : Nat) : Int) - 1 - i), dt (by omega : ((cnt l m : Nat) : Int) - 1 - i < (A'.length : Int)),
      dt (by omega : (i : Int) < (Lf.length : Int)), dt (by omega : ((cnt l m : Nat) : Int) - 1 - i < (Rt'.length : Int)), dt (by omega : (i : Int) < (Rt.length : Int)), dt (by omega : ((cnt l m : Nat) : Int) - 1 - i < (Lf'.length : Int)), Int.toNat_natCast, show (((cnt l m : Nat) : Int) - 1 - i).toNat = cnt l m - 1 - i by omega, pair_same s1, pair_same s2, pair_same s4,
      decide_eq_decide.2 s3, beq_self_eq_true]
    simp only [cond_true, cond_false, Bool.not_true, Option.bind_some, Sum.elim_inl]
    rw [w64 (n := (i : Int) + 1) (by omega), show (i : Int) + 1 = ((i + 1 : Nat) : Int) by omega]
    rw [show law37_ProfileReversed.L2 _ = _ from ih (i + 1) (by omega)]
    rfl
end
theorem ProfileReversed_pure (l : List Int) (h : ∀ x ∈ l, I64 x) : law37_ProfileReversed.F ((l, ()), ()) = some ((true, ()), ()) := by
  refine Ok.eq ?_
  rw [law37_ProfileReversed.F_eq, law37_ProfileReversed.f, few_ok]
  simp only [Option.bind_some]
  by_cases c : (l.length : Int) ≤ 400
  · rw [dt c]
    obtain ⟨e0, s0⟩ := dnew_ok h (by omega)
    simp only [Bool.not_true, cond_false]
    rw [e0]
    simp only [Option.bind_some]
    refine .bind (next_ok s0 _ (by omega)) fun y3 h3 => ?_
    obtain ⟨n, hn⟩ : ∃ n : Nat, y3.1.1 = n := ⟨y3.1.1.toNat, by omega⟩
    rw [hn]
    refine .bind (values_ok h3.1 n (by omega)) ?_
    rintro ⟨⟨_, _⟩, ⟨L1, i1, _⟩, a, _⟩ ⟨s1, hv, hlen⟩
    dsimp only at s1 hv hlen ⊢
    refine .bind (kmeasure_ok s1 0 (by omega)) ?_
    rintro ⟨⟨⟨k, b, g, _⟩, _⟩, ⟨L2, i2, _⟩, _⟩ ⟨s2, hm, _⟩
    dsimp only at s2 hm ⊢
    refine .bind (klength_ok s2) ?_
    rintro ⟨⟨m, _⟩, ⟨L3, i3, _⟩, _⟩ ⟨s3, m1, m2⟩
    dsimp only at s3 m1 m2 ⊢
    obtain ⟨m, rfl⟩ : ∃ q : Nat, m = q := ⟨m.toNat, by omega⟩
    refine .bind (next_ok s3 _ (by omega)) ?_
    rintro ⟨⟨z, _⟩, ⟨L4, i4, _⟩, _⟩ ⟨s4, z1, z2⟩
    dsimp only at s4 z1 z2 ⊢
    rw [w64 (n := 1 + z) (by omega), w64 (n := (a.length : Int) - 1) (by omega)]
    obtain ⟨z, hz⟩ : ∃ q : Nat, 1 + z = q := ⟨(1 + z).toNat, by omega⟩
    rw [hz]
    have hloop := back_loop a (by omega) k b g m z a.length 0 (by omega)
    rw [List.take_zero, show (a.length : Int) - 1 - ((0 : Nat) : Int) = (a.length : Int) - 1 by omega] at hloop
    rw [show law37_ProfileReversed.L0 (((), ((), ((m : Int), ((z : Int), ((), ((a.length : Int) - 1, ())))))), (a, ((k, (b, (g, ()))), (([] : List Int), ())))) = _ from hloop]
    simp only [Option.bind_some, Sum.elim_inl]
    have hv' : Sv a.reverse := fun v hx => hv v (List.mem_reverse.1 hx)
    obtain ⟨r, e, A, Lf, Rt, rfl, hp⟩ := prof_ok (z := z) hm hv (by omega : 2 ≤ m ∧ m ≤ 32) (by omega) (by omega)
    obtain ⟨r, e', A', Lf', Rt', rfl, hp'⟩ := prof_ok (z := z) hm hv' (by omega : 2 ≤ m ∧ m ≤ 32) (by rw [List.length_reverse]; omega) (by omega)
    rw [show profile_Of.F ((a, ((k, (b, (g, ()))), ((m : Int), ((z : Int), ())))), ()) = _ from e, show profile_Of.F ((a.reverse, ((k, (b, (g, ()))), ((m : Int), ((z : Int), ())))), ()) = _ from e']
    simp only [Option.bind_some]
    have q4 := hp'.lA
    have q5 := hp'.lL
    have q6 := hp'.lR
    rw [cnt_rev] at q4 q5 q6
    have hc : cnt a m ≤ 2001 := by unfold cnt; omega
    rw [show law37_ProfileReversed.L1 _ = _ from law37_ProfileReversed.L1_eq .., law37_ProfileReversed.f1, nt rfl, hp.lA, hp.lL, hp.lR, q4, q5, q6, nt rfl]
    simp only [cond_false, Option.bind_some, Sum.elim_inl]
    rw [show law37_ProfileReversed.L2 (((), (), ((cnt a m : Nat) : Int), (0 : Int), ()), PR k b g m z A Lf Rt A' Lf' Rt') = _ from check_loop hm hv hv' (by omega) hc hp hp' (cnt a m) 0 (by omega)]
    simp only [Option.bind_some, Sum.elim_inl]
    rw [awake_ok]
    exact .some rfl
  · rw [df c]
    simp only [Bool.not_false, cond_true]
    rw [awake_ok]
    exact .some rfl
theorem ProfileReversed_true (x : law37_ProfileReversed.sh.X) (h : dsWf law37_ProfileReversed.sh.ds x.1) : law37_ProfileReversed.F x = some ((true, ()), ()) := by
  obtain ⟨⟨l, _⟩, _⟩ := x
  exact ProfileReversed_pure l (wf_ints h.1)
end Go.Proofs.Ytefcciajemkicaa.V
