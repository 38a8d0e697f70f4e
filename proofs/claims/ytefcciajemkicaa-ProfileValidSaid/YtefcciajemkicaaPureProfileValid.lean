/- The law ProfileValid, as plain mathematics. -/
import Derived.Test.YtefcciajemkicaaVg5
import Derived.Test.YtefcciajemkicaaVBase
import Derived.Test.YtefcciajemkicaaVEuc
import Derived.Test.YtefcciajemkicaaVGcd
import Derived.Test.YtefcciajemkicaaVMv
import Derived.Test.YtefcciajemkicaaVMD
import Derived.Test.YtefcciajemkicaaVSym
import Derived.Test.YtefcciajemkicaaVCmp
import Derived.Test.YtefcciajemkicaaVBst
import Derived.Test.YtefcciajemkicaaVDeck
import Derived.Test.YtefcciajemkicaaVWins
import Derived.Test.YtefcciajemkicaaVProf
import Derived.Test.YtefcciajemkicaaVProf2
import Derived.Test.YtefcciajemkicaaVRe
import Derived.Test.YtefcciajemkicaaVPv
import Derived.Test.YtefcciajemkicaaVRo
set_option linter.unusedVariables false
set_option linter.unusedSimpArgs false
namespace Go.Proofs.Ytefcciajemkicaa.V
open Go.VI
theorem dprofile_ok {L : List Int} {i : Int} (h : Dk L i) (n : Int) (hn : 0 ≤ n ∧ n ≤ 99) : Ok (second_Deck_Profile.F (((), n, ()), ((L, i, ()), ()))) (fun r => ∃ k b g m z A Lf Rt D V, r = (((k, b, g, m, z, (), (), (), ()), (), ()), (D, A, Lf, Rt, V)) ∧ A.length ≤ 200 ∧ Lf.length = A.length ∧ Rt.length = A.length) := by
  rw [second_Deck_Profile.F_eq, second_Deck_Profile.f, w64 (n := n + 1) (by omega)]
  refine .bind (next_ok h _ (by omega)) ?_
  rintro ⟨⟨c, _⟩, ⟨L0, i0, _⟩, _⟩ ⟨s0, c1, c2⟩
  dsimp only at s0 c1 c2 ⊢
  obtain ⟨c, rfl⟩ : ∃ q : Nat, c = q := ⟨c.toNat, by omega⟩
  refine .bind (values_ok s0 c (by omega)) ?_
  rintro ⟨⟨_, _⟩, ⟨L1, i1, _⟩, a, _⟩ ⟨s1, hv, hlen⟩
  dsimp only at s1 hv hlen ⊢
  refine .bind (kmeasure_ok s1 0 (by omega)) ?_
  rintro ⟨⟨⟨k, b, g, _⟩, _⟩, ⟨L2, i2, _⟩, _⟩ ⟨s2, hm, _⟩
  dsimp only at s2 hm ⊢
  refine .bind (klength_ok s2) ?_
  rintro ⟨⟨m, _⟩, ⟨L3, i3, _⟩, _⟩ ⟨s3, m1, m2⟩
  dsimp only at s3 m1 m2 ⊢
  obtain ⟨m, rfl⟩ : ∃ q : Nat, m = q := ⟨m.toNat, by omega⟩
  refine .bind (next_ok s3 _ (by omega)) ?_
  rintro ⟨⟨z, _⟩, ⟨L4, i4, _⟩, _⟩ ⟨s4, z1, z2⟩
  dsimp only at s4 z1 z2 ⊢
  rw [w64 (n := 1 + z) (by omega)]
  obtain ⟨z, hz⟩ : ∃ q : Nat, 1 + z = q := ⟨(1 + z).toNat, by omega⟩
  rw [hz]
  refine .bind (rof_ok (z := z) hm hv (by omega : 2 ≤ m ∧ m ≤ 32) (by omega) (by omega)) ?_
  rintro _ ⟨A, Lf, Rt, rfl, hp⟩
  have lA := hp.lA
  have lL := hp.lL
  have lR := hp.lR
  have hc : cnt a m ≤ 200 := by unfold cnt; omega
  exact .some ⟨_, _, _, _, _, A, Lf, Rt, _, _, rfl, by omega, by omega, by omega⟩
theorem pv_cut (wt ap by_ : Int) (k b g m z : Int) (A L R A0 L0 R0 : List Nb) (k0 b0 g0 m0 z0 a1 a2 a3 b1 b2 b3 : Int) (hA : A.length ≤ 200) (hL : L.length = A.length) (hR : R.length = A.length) :
    Ok (law37_ProfileValid.L1 ((wt, ap, by_, (), (), (), (), (A.length : Int), decide ((A.length : Int) > 0), ()), ((k0, b0, g0, m0, z0, A0, L0, R0, ()), (a1, a2, a3, ()), (b1, b2, b3, ()), (k, b, g, m, z, (), (), (), ()), A, L, R, ())))
      (fun r => ∃ k' b' g' m' z' A' L' R', r = Sum.inl (((), (), (), (), ()), ((k0, b0, g0, m0, z0, A0, L0, R0, ()), (a1, a2, a3, ()), (b1, b2, b3, ()), (k', b', g', m', z', A', (), (), ()), L', R', ()))) := by
  rw [show law37_ProfileValid.L1 _ = _ from law37_ProfileValid.L1_eq .., law37_ProfileValid.f1, w64 (n := (A.length : Int) + 2) (by omega)]
  refine .bool (fun hn => ?_) fun _ => .some ⟨_, _, _, _, _, _, _, _, rfl⟩
  have hn : (A.length : Int) > 0 := of_decide_eq_true hn
  refine .bind (dmod_ok _ _ (by omega)) fun y1 h1 => .bind (dmod_ok _ _ (by omega)) fun y2 _ => ?_
  refine .bool (fun _ => ?_) fun _ => ?_
  · exact .bind (dmod_ok _ _ (by omega)) fun y3 _ => .guard h1.1 (.guard (by omega) (.some ⟨_, _, _, _, _, _, _, _, rfl⟩))
  refine .bool (fun _ => ?_) fun _ => ?_
  · exact .bind (dmod_ok _ _ (by omega)) fun y3 _ => .guard h1.1 (.guard (by omega) (.some ⟨_, _, _, _, _, _, _, _, rfl⟩))
  refine .bool (fun _ => ?_) fun _ => ?_
  · exact .bind (dmod_ok _ _ (by omega)) fun y3 _ => .guard h1.1 (.guard (by omega) (.some ⟨_, _, _, _, _, _, _, _, rfl⟩))
  refine .bool (fun _ => ?_) fun _ => ?_
  · exact .bind (dmod_ok _ _ (by omega)) fun y3 _ => .guard h1.1 (.guard (by omega) (.some ⟨_, _, _, _, _, _, _, _, rfl⟩))
  refine .bool (fun _ => ?_) fun _ => ?_
  · exact .bind (dmod_ok _ _ (by omega)) fun y3 _ => .bind (dmod_ok _ _ (by omega)) fun y4 _ => .guard h1.1 (.guard (by omega) (.some ⟨_, _, _, _, _, _, _, _, rfl⟩))
  refine .bool (fun _ => ?_) fun _ => ?_
  · exact .bind (dmod_ok _ _ (by omega)) fun y3 _ => .some ⟨_, _, _, _, _, _, _, _, rfl⟩
  refine .bool (fun _ => ?_) fun _ => ?_
  · exact .bind (dmod_ok _ _ (by omega)) fun y3 _ => .some ⟨_, _, _, _, _, _, _, _, rfl⟩
  refine .bool (fun _ => ?_) fun _ => ?_
  · exact .guard (by omega) (.some ⟨_, _, _, _, _, _, _, _, rfl⟩)
  refine .bool (fun _ => ?_) fun _ => ?_
  · exact .some ⟨_, _, _, _, _, _, _, _, rfl⟩
  refine .bool (fun _ => ?_) fun _ => ?_
  · exact .guard h1.1 (.guard (by omega) (.guard h1.1 (.guard (by omega) (.some ⟨_, _, _, _, _, _, _, _, rfl⟩))))
  · exact .some ⟨_, _, _, _, _, _, _, _, rfl⟩
theorem ProfileValid_pure (l : List Int) (k0 b0 g0 m0 z0 : Int) (A0 L0 R0 : List Nb) (a1 a2 a3 b1 b2 b3 wt ap by_ : Int) (h : ∀ x ∈ l, I64 x) : law37_ProfileValid.F ((l, (k0, b0, g0, m0, z0, A0, L0, R0, ()), (a1, a2, a3, ()), (b1, b2, b3, ()), wt, ap, by_, ()), ()) = some ((true, ()), ()) := by
  refine Ok.eq ?_
  rw [law37_ProfileValid.F_eq, law37_ProfileValid.f]
  obtain ⟨fl, e0, hfl⟩ : ∃ fl : Bool, law37_ProfileValid.L0 ((l, wt, ap, by_, (), (), (), ()), ((k0, b0, g0, m0, z0, A0, L0, R0, ()), (a1, a2, a3, ()), (b1, b2, b3, ()), ())) = some (Sum.inl ((l, wt, ap, by_, (), (), (), fl, ()), ((k0, b0, g0, m0, z0, A0, L0, R0, ()), (a1, a2, a3, ()), (b1, b2, b3, ()), ()))) ∧ (fl = false → (l.length : Int) ≤ 400) := by
    rw [law37_ProfileValid.L0_eq, law37_ProfileValid.f0, few_ok]
    by_cases c : (l.length : Int) ≤ 400
    · rw [dt c]; exact ⟨_, rfl, fun _ => c⟩
    · rw [df c]; exact ⟨true, rfl, fun h => by cases h⟩
  rw [e0]
  simp only [Option.bind_some, Sum.elim_inl]
  cases fl with
  | true =>
    rw [awake_ok]
    exact .some rfl
  | false =>
    have c := hfl rfl
    obtain ⟨en, s0⟩ := dnew_ok h (by omega)
    simp only [cond_false]
    rw [en]
    simp only [Option.bind_some]
    refine .bind (dprofile_ok s0 24 (by omega)) ?_
    rintro _ ⟨k, b, g, m, z, A, Lf, Rt, D, V, rfl, hA, hL, hR⟩
    dsimp only
    refine .bind (pv_cut wt ap by_ k b g m z A Lf Rt A0 L0 R0 k0 b0 g0 m0 z0 a1 a2 a3 b1 b2 b3 hA hL hR) ?_
    rintro _ ⟨k', b', g', m', z', A', L', R', rfl⟩
    simp only [Sum.elim_inl]
    rw [show profile_Valid.F (((k', b', g', m', z', A', L', R', ()), ()), ()) = _ from pvalid_all k' b' g' m' z' A' L' R', show ref37_Valid.F (((k', b', g', m', z', A', L', R', ()), ()), ()) = _ from rpvalid_all k' b' g' m' z' A' L' R',
      show profile_Valid.F (((k0, b0, g0, m0, z0, A0, L0, R0, ()), ()), ()) = _ from pvalid_all k0 b0 g0 m0 z0 A0 L0 R0, show ref37_Valid.F (((k0, b0, g0, m0, z0, A0, L0, R0, ()), ()), ()) = _ from rpvalid_all k0 b0 g0 m0 z0 A0 L0 R0,
      show profile_Nearer.F (((a1, a2, a3, ()), (b1, b2, b3, ()), ()), ()) = _ from pnear (a1, a2, a3) (b1, b2, b3), show ref37_Nearer.F (((a1, a2, a3, ()), (b1, b2, b3, ()), ()), ()) = _ from rnear (a1, a2, a3) (b1, b2, b3)]
    simp only [Option.bind_some, beq_self_eq_true, cond_true]
    rw [awake_ok]
    exact .some rfl
theorem ProfileValid_true (x : law37_ProfileValid.sh.X) (h : dsWf law37_ProfileValid.sh.ds x.1) : law37_ProfileValid.F x = some ((true, ()), ()) := by
  obtain ⟨⟨l, ⟨k, b, g, m, z, A, L, R, _⟩, ⟨a1, a2, a3, _⟩, ⟨b1, b2, b3, _⟩, wt, ap, by_, _⟩, _⟩ := x
  exact ProfileValid_pure l k b g m z A L R a1 a2 a3 b1 b2 b3 wt ap by_ (wf_ints h.1)
end Go.Proofs.Ytefcciajemkicaa.V
