/- The law ProfileMutual, as plain mathematics. -/
import Derived.Test.YtefcciajemkicaaVg5
import Derived.Test.YtefcciajemkicaaVBase
import Derived.Test.YtefcciajemkicaaVEuc
import Derived.Test.YtefcciajemkicaaVGcd
import Derived.Test.YtefcciajemkicaaVMv
import Derived.Test.YtefcciajemkicaaVMD
import Derived.Test.YtefcciajemkicaaVSym
import Derived.Test.YtefcciajemkicaaVCmp
import Derived.Test.YtefcciajemkicaaVBst
import Derived.Test.YtefcciajemkicaaVDeck
import Derived.Test.YtefcciajemkicaaVWins
import Derived.Test.YtefcciajemkicaaVProf
import Derived.Test.YtefcciajemkicaaVProf2
set_option linter.unusedVariables false
set_option linter.unusedSimpArgs false
namespace Go.Proofs.Ytefcciajemkicaa.V
open Go.VI
section
variable {k b g : Int} {l : List Int} {m z : Nat}
/-- The windows that are far enough away. -/
def SA (l : List Int) (m z a x : Nat) : Prop := SL l m z a x ∨ SR l m z a x
theorem SA_symm {a x : Nat} (ha : a < cnt l m) (h : SA l m z a x) : SA l m z x a := by
  rcases h with h | h
  · exact .inr ⟨ha, h⟩
  · exact .inl h.2
theorem SA_lt {a x : Nat} (ha : a < cnt l m) (h : SA l m z a x) : x < cnt l m := by
  rcases h with h | h
  · have := h.2.2; omega
  · exact h.1
theorem SA_mono {z' a x : Nat} (hz : z ≤ z') (h : SA l m z' a x) : SA l m z a x := by
  rcases h with h | h
  · exact .inl ⟨h.1, h.2.1, by have := h.2.2; omega⟩
  · exact .inr ⟨h.1, h.2.1, h.2.2.1, by have := h.2.2.2; omega⟩
theorem SA_ok {a x : Nat} (h : SA l m z a x) : okw l m a = true ∧ okw l m x = true := by
  rcases h with h | h
  · exact ⟨h.1, h.2.1⟩
  · exact ⟨h.2.2.1, h.2.1⟩
theorem SA_ne {a x : Nat} (hz : 1 ≤ z) (h : SA l m z a x) : x ≠ a := by
  rcases h with h | h
  · have := h.2.2; omega
  · have := h.2.2.2; omega
theorem Dd_comm (hm : Mv k b g) (hl : Sv l) (hM : 2 ≤ m ∧ m ≤ 32) {a x : Nat} (ha : a < cnt l m) (h : SA l m z a x) : Dd k b g l m a x = Dd k b g l m x a := by
  obtain ⟨h1, h2⟩ := SA_ok h
  have hx := SA_lt ha h
  rw [Dd_symm hm hl hM ha hx h1 h2, Dd_symm hm hl hM hx ha h2 h1]
  exact MD_symm hm (Fit_win hm hl hM ha hx h1 h2)
/-- One list's entries: the nearest ones of all windows. -/
structure Nr (k b g : Int) (l : List Int) (m z : Nat) (A : List Nb) : Prop where
  len : A.length = cnt l m
  bst : ∀ a, a < cnt l m → Bst (SA l m z a) (Dd k b g l m a) (A.getD a (0, 0, 0))
theorem Pf.nr {A Lf Rt : List Nb} (h : Pf k b g l m z A Lf Rt) (hm : Mv k b g) (hl : Sv l) (hM : 2 ≤ m ∧ m ≤ 32) : Nr k b g l m z A := ⟨h.lA, fun a ha => h.whole hm hl hM ha⟩
theorem Nr.vr {A : List Nb} (h : Nr k b g l m z A) (hm : Mv k b g) (hl : Sv l) (hM : 2 ≤ m ∧ m ≤ 32) {a : Nat} (ha : a < cnt l m) : VR (A.getD a (0, 0, 0)).2.1 (A.getD a (0, 0, 0)).2.2 := (h.bst a ha).vr (SLR_vr hm hl hM ha)
/-- A greater zone has no nearer neighbours. -/
theorem Nr.zone {A B : List Nb} {z' : Nat} (h : Nr k b g l m z A) (h' : Nr k b g l m z' B) (hz : z ≤ z') (hm : Mv k b g) (hl : Sv l) (hM : 2 ≤ m ∧ m ≤ 32) {a : Nat} (ha : a < cnt l m) (hB : 0 ≤ (B.getD a (0, 0, 0)).1) :
    0 ≤ (A.getD a (0, 0, 0)).1 ∧ ¬ rlt (B.getD a (0, 0, 0)).2 (A.getD a (0, 0, 0)).2 := by
  have v := SLR_vr (z := z) hm hl hM ha
  rcases h'.bst a ha with ⟨e, _⟩ | ⟨j, hj, e, _⟩
  · rw [e] at hB; simp at hB
  · have hj' := SA_mono hz hj
    rcases h.bst a ha with ⟨_, e2⟩ | ⟨i, hi, e2, h2⟩
    · exact absurd hj' (e2 j)
    · rw [e, e2]
      refine ⟨by simp only; omega, fun hlt => ?_⟩
      rcases h2 j hj' with h3 | ⟨h3, _⟩
      · exact rlt_irr _ (rlt_trans (v j hj') (v i hi) (v j hj') hlt h3)
      · simp only at hlt; rw [h3] at hlt; exact rlt_irr _ hlt
/-- The least distance so far. -/
def Lst (A : List Nb) (i : Nat) (best : Int) : Prop := (best = -1 ∧ ∀ a, a < i → (A.getD a (0, 0, 0)).1 < 0) ∨
  ∃ j : Nat, j < i ∧ best = j ∧ 0 ≤ (A.getD j (0, 0, 0)).1 ∧ ∀ a, a < i → 0 ≤ (A.getD a (0, 0, 0)).1 → rlt (A.getD j (0, 0, 0)).2 (A.getD a (0, 0, 0)).2 ∨ ((A.getD j (0, 0, 0)).2 = (A.getD a (0, 0, 0)).2 ∧ j ≤ a)
@[reducible] def PM (k b g : Int) (m z z' : Nat) (A Lf Rt B Lf' Rt' : List Nb) := (((k, b, g, (m : Int), (z : Int), (), (), (), ()), (k, b, g, (m : Int), (z' : Int), (), (), (), ()), A, Lf, Rt, B, Lf', Rt', ()) : (Int × Int × Int × Int × Int × Unit × Unit × Unit × Unit) × (Int × Int × Int × Int × Int × Unit × Unit × Unit × Unit) × List Nb × List Nb × List Nb × List Nb × List Nb × List Nb × Unit)
theorem mutual_loop (hm : Mv k b g) (hl : Sv l) (hM : 2 ≤ m ∧ m ≤ 32) (hc : cnt l m ≤ 2001) {z' : Nat} (hz : z ≤ z') {A B Lf Rt Lf' Rt' : List Nb} (h : Nr k b g l m z A) (h' : Nr k b g l m z' B) : ∀ (n i : Nat) (best : Int), i + n = cnt l m → Lst A i best →
    Ok (law37_ProfileMutual.L1 (((), (), best, (i : Int), ()), PM k b g m z z' A Lf Rt B Lf' Rt')) (fun r => ∃ best, r = Sum.inl (((), best, ()), ((k, b, g, (m : Int), (z : Int), (), (), (), ()), A, Lf, Rt, ())) ∧ Lst A (cnt l m) best) := by
  have qA := h.len
  have qB := h'.len
  intro n
  induction n with
  | zero =>
    intro i best hi hb
    obtain rfl : i = cnt l m := by omega
    rw [show law37_ProfileMutual.L1 (((), (), best, ((cnt l m : Nat) : Int), ()), PM k b g m z z' A Lf Rt B Lf' Rt') = _ from law37_ProfileMutual.L1_eq .., law37_ProfileMutual.f1, df (by omega)]
    exact .some ⟨best, rfl, hb⟩
  | succ n ih =>
    intro i best hi hb
    have hic : i < cnt l m := by omega
    have hz2 := h.zone h' hz hm hl hM hic
    have vA := h.vr hm hl hM hic
    have vB := h'.vr hm hl hM hic
    rw [show law37_ProfileMutual.L1 (((), (), best, (i : Int), ()), PM k b g m z z' A Lf Rt B Lf' Rt') = _ from law37_ProfileMutual.L1_eq .., law37_ProfileMutual.f1, dt (by omega)]
    simp only [cond_true]
    have s2 : law37_ProfileMutual.L2 (((), (), best, (i : Int), ()), PM k b g m z z' A Lf Rt B Lf' Rt') = some (Sum.inl (((), (), best, (i : Int), false, ()), PM k b g m z z' A Lf Rt B Lf' Rt')) := by
      rw [show law37_ProfileMutual.L2 (((), (), best, (i : Int), ()), PM k b g m z z' A Lf Rt B Lf' Rt') = _ from law37_ProfileMutual.L2_eq .., law37_ProfileMutual.f2, dt (by omega : (0 : Int) ≤ (i : Int)), dt (by omega : (i : Int) < (B.length : Int)), dt (by omega : (i : Int) < (A.length : Int)), Int.toNat_natCast]
      simp only [cond_true]
      by_cases c : (B.getD i (0, 0, 0)).1 ≥ 0
      · obtain ⟨w1, w2⟩ := hz2 c
        rw [dt c, df (by omega : ¬ (A.getD i (0, 0, 0)).1 < 0)]
        simp only [cond_true, cond_false]
        rw [show ref01_Less.F ((((B.getD i (0, 0, 0)).2.1, ((B.getD i (0, 0, 0)).2.2, ())), (((A.getD i (0, 0, 0)).2.1, ((A.getD i (0, 0, 0)).2.2, ())), ())), ()) = _ from rless_ok vB vA, df (show ¬ (B.getD i (0, 0, 0)).2.1 * (A.getD i (0, 0, 0)).2.2 < (A.getD i (0, 0, 0)).2.1 * (B.getD i (0, 0, 0)).2.2 from w2)]
        rfl
      · rw [df c]; rfl
    rw [show law37_ProfileMutual.L2 _ = _ from s2]
    simp only [Option.bind_some, Sum.elim_inl, cond_false]
    have s3 : ∃ bb : Bool, law37_ProfileMutual.L3 (((), (), best, (i : Int), ()), PM k b g m z z' A Lf Rt B Lf' Rt') = some (Sum.inl (((), (), best, (i : Int), bb, ()), PM k b g m z z' A Lf Rt B Lf' Rt')) ∧ Lst A (i + 1) (bif bb then (i : Int) else best) := by
      rw [show law37_ProfileMutual.L3 (((), (), best, (i : Int), ()), PM k b g m z z' A Lf Rt B Lf' Rt') = _ from law37_ProfileMutual.L3_eq .., law37_ProfileMutual.f3, dt (by omega : (0 : Int) ≤ (i : Int)), dt (by omega : (i : Int) < (A.length : Int)), Int.toNat_natCast]
      simp only [cond_true]
      by_cases c : (A.getD i (0, 0, 0)).1 ≥ 0
      · rw [dt c]
        simp only [cond_true]
        rcases hb with ⟨rfl, hb⟩ | ⟨j, hj, rfl, hb1, hb2⟩
        · rw [dt (by omega : (-1 : Int) < 0)]
          refine ⟨true, rfl, .inr ⟨i, by omega, rfl, c, fun a ha h0 => ?_⟩⟩
          rcases Nat.lt_or_ge a i with hlt | hge
          · have := hb a hlt; omega
          · obtain rfl : a = i := by omega
            exact .inr ⟨rfl, Nat.le_refl _⟩
        · have vj := h.vr hm hl hM (a := j) (by omega)
          rw [df (by omega : ¬ (j : Int) < 0), dt (by omega : (0 : Int) ≤ (j : Int)), dt (by omega : (j : Int) < (A.length : Int)), Int.toNat_natCast]
          simp only [cond_true, cond_false]
          rw [show ref01_Less.F ((((A.getD i (0, 0, 0)).2.1, ((A.getD i (0, 0, 0)).2.2, ())), (((A.getD j (0, 0, 0)).2.1, ((A.getD j (0, 0, 0)).2.2, ())), ())), ()) = _ from rless_ok vA vj]
          by_cases c2 : rlt (A.getD i (0, 0, 0)).2 (A.getD j (0, 0, 0)).2
          · rw [dt (show (A.getD i (0, 0, 0)).2.1 * (A.getD j (0, 0, 0)).2.2 < (A.getD j (0, 0, 0)).2.1 * (A.getD i (0, 0, 0)).2.2 from c2)]
            refine ⟨true, rfl, .inr ⟨i, by omega, rfl, c, fun a ha h0 => ?_⟩⟩
            rcases Nat.lt_or_ge a i with hlt | hge
            · have va := h.vr hm hl hM (a := a) (by omega)
              rcases hb2 a hlt h0 with h3 | ⟨h3, _⟩
              · exact .inl (rlt_trans vA vj va c2 h3)
              · exact .inl (h3 ▸ c2)
            · obtain rfl : a = i := by omega
              exact .inr ⟨rfl, Nat.le_refl _⟩
          · rw [df (show ¬ (A.getD i (0, 0, 0)).2.1 * (A.getD j (0, 0, 0)).2.2 < (A.getD j (0, 0, 0)).2.1 * (A.getD i (0, 0, 0)).2.2 from c2)]
            refine ⟨false, rfl, .inr ⟨j, by omega, rfl, hb1, fun a ha h0 => ?_⟩⟩
            rcases Nat.lt_or_ge a i with hlt | hge
            · exact hb2 a hlt h0
            · obtain rfl : a = i := by omega
              rcases rlt_tri vj vA with t | t | t
              · exact .inl t
              · exact .inr ⟨t, by omega⟩
              · exact absurd t c2
      · rw [df c]
        refine ⟨false, rfl, ?_⟩
        rcases hb with ⟨rfl, hb⟩ | ⟨j, hj, rfl, hb1, hb2⟩
        · refine .inl ⟨rfl, fun a ha => ?_⟩
          rcases Nat.lt_or_ge a i with hlt | hge
          · exact hb a hlt
          · obtain rfl : a = i := by omega
            omega
        · refine .inr ⟨j, by omega, rfl, hb1, fun a ha h0 => ?_⟩
          rcases Nat.lt_or_ge a i with hlt | hge
          · exact hb2 a hlt h0
          · obtain rfl : a = i := by omega
            omega
    obtain ⟨bb, e3, hb3⟩ := s3
    rw [show law37_ProfileMutual.L3 _ = _ from e3]
    simp only [Option.bind_some, Sum.elim_inl]
    rw [w64 (n := (i : Int) + 1) (by omega), show (i : Int) + 1 = ((i + 1 : Nat) : Int) by omega]
    cases bb with
    | true => exact .bind (ih (i + 1) _ (by omega) hb3) fun r hr => .some hr
    | false => exact .bind (ih (i + 1) _ (by omega) hb3) fun r hr => .some hr
/-- The closest pair are each other's neighbours. -/
theorem both_near (hm : Mv k b g) (hl : Sv l) (hM : 2 ≤ m ∧ m ≤ 32) (hz : 1 ≤ z) {A : List Nb} (h : Nr k b g l m z A) {j : Nat} (hj : j < cnt l m) (h0 : 0 ≤ (A.getD j (0, 0, 0)).1)
    (hb : ∀ a, a < cnt l m → 0 ≤ (A.getD a (0, 0, 0)).1 → rlt (A.getD j (0, 0, 0)).2 (A.getD a (0, 0, 0)).2 ∨ ((A.getD j (0, 0, 0)).2 = (A.getD a (0, 0, 0)).2 ∧ j ≤ a)) :
    ∃ i : Nat, (A.getD j (0, 0, 0)).1 = i ∧ j < i ∧ i < cnt l m ∧ (A.getD i (0, 0, 0)).2 = (A.getD j (0, 0, 0)).2 ∧ (A.getD i (0, 0, 0)).1 ≤ j := by
  have vj := h.vr hm hl hM hj
  rcases h.bst j hj with ⟨e, _⟩ | ⟨i, hi, e, hmin⟩
  · rw [e] at h0; simp at h0
  · have hic := SA_lt hj hi
    have hs := SA_symm hj hi
    have vi := h.vr hm hl hM hic
    have hd := Dd_comm hm hl hM hj hi
    have hne := SA_ne hz hi
    rcases h.bst i hic with ⟨_, e2⟩ | ⟨q, hq, e2, h2⟩
    · exact absurd hs (e2 j)
    · have q0 : 0 ≤ (A.getD i (0, 0, 0)).1 := by rw [e2]; simp only; omega
      have v := SLR_vr (z := z) hm hl hM hic
      have e' : (A.getD j (0, 0, 0)).2 = Dd k b g l m i j := by rw [e]; exact hd
      have e2' : (A.getD i (0, 0, 0)).2 = Dd k b g l m i q := by rw [e2]
      have hb2 := hb i hic q0
      rw [e', e2'] at hb2
      have eq : Dd k b g l m i q = Dd k b g l m i j := by
        rcases h2 j hs with h3 | ⟨h3, _⟩
        · rcases hb2 with h4 | ⟨h4, _⟩
          · exact absurd (rlt_trans (v q hq) (v j hs) (v q hq) h3 h4) (rlt_irr _)
          · exact h4.symm
        · exact h3
      have hqj : q ≤ j := by
        rcases h2 j hs with h3 | ⟨_, h3⟩
        · rw [eq] at h3; exact absurd h3 (rlt_irr _)
        · exact h3
      have hji : j ≤ i := by
        rcases hb2 with h4 | ⟨_, h4⟩
        · rw [eq] at h4; exact absurd h4 (rlt_irr _)
        · exact h4
      exact ⟨i, by rw [e], by omega, hic, by rw [e', e2', eq], by rw [e2]; simp only; omega⟩
end
theorem pair_same {u v : Int × Int} (h : u = v) : ((u.1 == v.1) && ((u.2 == v.2) && true)) = true := by subst h; simp
theorem ProfileMutual_pure (l : List Int) (h : ∀ x ∈ l, I64 x) (more : Int) (hmore : 0 ≤ more ∧ more ≤ 255) : law37_ProfileMutual.F ((l, more, ()), ()) = some ((true, ()), ()) := by
  refine Ok.eq ?_
  rw [law37_ProfileMutual.F_eq, law37_ProfileMutual.f, few_ok]
  simp only [Option.bind_some]
  by_cases c : (l.length : Int) ≤ 400
  · rw [dt c]
    obtain ⟨e0, s0⟩ := dnew_ok h (by omega)
    simp only [Bool.not_true, cond_false]
    rw [e0]
    simp only [Option.bind_some]
    refine .bind (next_ok s0 _ (by omega)) fun y3 h3 => ?_
    obtain ⟨n, hn⟩ : ∃ n : Nat, y3.1.1 = n := ⟨y3.1.1.toNat, by omega⟩
    rw [hn]
    refine .bind (values_ok h3.1 n (by omega)) ?_
    rintro ⟨⟨_, _⟩, ⟨L1, i1, _⟩, a, _⟩ ⟨s1, hv, hlen⟩
    dsimp only at s1 hv hlen ⊢
    refine .bind (kmeasure_ok s1 0 (by omega)) ?_
    rintro ⟨⟨⟨k, b, g, _⟩, _⟩, ⟨L2, i2, _⟩, _⟩ ⟨s2, hm, _⟩
    dsimp only at s2 hm ⊢
    refine .bind (klength_ok s2) ?_
    rintro ⟨⟨m, _⟩, ⟨L3, i3, _⟩, _⟩ ⟨s3, m1, m2⟩
    dsimp only at s3 m1 m2 ⊢
    obtain ⟨m, rfl⟩ : ∃ q : Nat, m = q := ⟨m.toNat, by omega⟩
    refine .bind (next_ok s3 _ (by omega)) ?_
    rintro ⟨⟨z, _⟩, ⟨L4, i4, _⟩, _⟩ ⟨s4, z1, z2⟩
    dsimp only at s4 z1 z2 ⊢
    have hmod := tmod_nonneg' (a := more) (b := 5) (by omega) (by omega)
    rw [w64 (n := 1 + z) (by omega), w64 (n := more) (by omega), w64 (n := 1 + z + Int.tmod more 5) (by omega)]
    obtain ⟨z', hz'⟩ : ∃ q : Nat, 1 + z + Int.tmod more 5 = q := ⟨(1 + z + Int.tmod more 5).toNat, by omega⟩
    obtain ⟨z, hz⟩ : ∃ q : Nat, 1 + z = q := ⟨(1 + z).toNat, by omega⟩
    rw [hz']
    rw [hz] at hz' ⊢
    obtain ⟨r, e, A, Lf, Rt, rfl, hp⟩ := prof_ok (z := z) hm hv (by omega : 2 ≤ m ∧ m ≤ 32) (by omega) (by omega)
    obtain ⟨r, e', B, Lf', Rt', rfl, hp'⟩ := prof_ok (z := z') hm hv (by omega : 2 ≤ m ∧ m ≤ 32) (by omega) (by omega)
    rw [show profile_Of.F ((a, ((k, (b, (g, ()))), ((m : Int), ((z : Int), ())))), ()) = _ from e, show profile_Of.F ((a, ((k, (b, (g, ()))), ((m : Int), ((z' : Int), ())))), ()) = _ from e']
    simp only [Option.bind_some]
    have hc : cnt a m ≤ 2001 := by unfold cnt; omega
    have hM : 2 ≤ m ∧ m ≤ 32 := by omega
    have hA := hp.nr hm hv hM
    have hB := hp'.nr hm hv hM
    rw [show law37_ProfileMutual.L0 _ = _ from law37_ProfileMutual.L0_eq .., law37_ProfileMutual.f0, nt rfl, hp.lA, hp'.lA, nt rfl]
    simp only [cond_false, Option.bind_some, Sum.elim_inl]
    obtain ⟨r, e2, best, rfl, hb⟩ := mutual_loop (Lf := Lf) (Rt := Rt) (Lf' := Lf') (Rt' := Rt') hm hv hM hc (by omega : z ≤ z') hA hB (cnt a m) 0 (-1) (by omega) (.inl ⟨rfl, fun a ha => by omega⟩)
    rw [show law37_ProfileMutual.L1 (((), (), (-1 : Int), (0 : Int), ()), PM k b g m z z' A Lf Rt B Lf' Rt') = _ from e2]
    simp only [Option.bind_some, Sum.elim_inl]
    rcases hb with ⟨rfl, hb⟩ | ⟨j, hj, rfl, hb1, hb2⟩
    · rw [dt (by omega : (-1 : Int) < 0), awake_ok]
      exact .some rfl
    · obtain ⟨i, k1, k2, k3, k4, k5⟩ := both_near hm hv hM (by omega) hA hj hb1 hb2
      rw [df (by omega : ¬ (j : Int) < 0), dt (by omega : (0 : Int) ≤ (j : Int)), hp.lA, dt (by omega : (j : Int) < ((cnt a m : Nat) : Int)), Int.toNat_natCast, k1]
      simp only [cond_false, cond_true]
      rw [show law37_ProfileMutual.L4 _ = _ from law37_ProfileMutual.L4_eq .., law37_ProfileMutual.f4, hp.lA, dt (by omega : (i : Int) > (j : Int)), dt (by omega : (i : Int) < ((cnt a m : Nat) : Int)), dt (by omega : (0 : Int) ≤ (i : Int)), dt (by omega : (0 : Int) ≤ (j : Int)), dt (by omega : (j : Int) < ((cnt a m : Nat) : Int)), Int.toNat_natCast, Int.toNat_natCast, pair_same k4, dt k5, awake_ok]
      exact .some rfl
  · rw [df c]
    simp only [Bool.not_false, cond_true]
    rw [awake_ok]
    exact .some rfl
theorem ProfileMutual_true (x : law37_ProfileMutual.sh.X) (h : dsWf law37_ProfileMutual.sh.ds x.1) : law37_ProfileMutual.F x = some ((true, ()), ()) := by
  obtain ⟨⟨l, more, _⟩, _⟩ := x
  exact ProfileMutual_pure l (wf_ints h.1) more (wf_u8 h.2.1)
end Go.Proofs.Ytefcciajemkicaa.V
