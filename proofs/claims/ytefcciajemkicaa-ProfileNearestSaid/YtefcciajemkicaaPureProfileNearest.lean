/- The law ProfileNearest, as plain mathematics. -/
import Derived.Test.YtefcciajemkicaaVg5
import Derived.Test.YtefcciajemkicaaVBase
import Derived.Test.YtefcciajemkicaaVEuc
import Derived.Test.YtefcciajemkicaaVGcd
import Derived.Test.YtefcciajemkicaaVMv
import Derived.Test.YtefcciajemkicaaVMD
import Derived.Test.YtefcciajemkicaaVSym
import Derived.Test.YtefcciajemkicaaVCmp
import Derived.Test.YtefcciajemkicaaVBst
import Derived.Test.YtefcciajemkicaaVDeck
import Derived.Test.YtefcciajemkicaaVWins
import Derived.Test.YtefcciajemkicaaVProf
import Derived.Test.YtefcciajemkicaaVProf2
import Derived.Test.YtefcciajemkicaaVRd
import Derived.Test.YtefcciajemkicaaVRw
import Derived.Test.YtefcciajemkicaaVRw2
import Derived.Test.YtefcciajemkicaaVRe
set_option linter.unusedVariables false
set_option linter.unusedSimpArgs false
namespace Go.Proofs.Ytefcciajemkicaa.V
open Go.VI
section
/-- No candidate is nearer than the best one. -/
theorem bst_not {S : Nat → Prop} {D : Nat → Int × Int} {r : Nb} (h : Bst S D r) {j : Nat} (hj : S j) : nearer ((j : Int), D j) r = false := by
  rcases h with ⟨_, h⟩ | ⟨i, hi, rfl, h⟩
  · exact absurd hj (h j)
  · have hp := h j hj
    unfold nearer
    rw [df (by simp only; omega : ¬ ((i : Int), D i).1 < 0)]
    have h1 : ¬ rlt (D j) (D i) := by
      rcases hp with h | ⟨h, _⟩
      · unfold rlt at *; omega
      · rw [h]; exact rlt_irr _
    rw [df h1]
    rcases hp with h | ⟨h, h2⟩
    · rw [dt h]; simp
    · rw [df (by simp only; omega : ¬ ((j : Int), D j).1 < ((i : Int), D i).1)]; simp
variable {k b g : Int} {l : List Int} {m z : Nat}
/-- The windows that are far enough away. -/
def SAn (l : List Int) (m z a x : Nat) : Prop := SL l m z a x ∨ SR l m z a x
instance (l : List Int) (m z a x : Nat) : Decidable (SAn l m z a x) := by unfold SAn SR SL; infer_instance
theorem SAn_lt {a x : Nat} (ha : a < cnt l m) (h : SAn l m z a x) : x < cnt l m := by
  rcases h with h | h
  · have := h.2.2; omega
  · exact h.1
@[reducible] def PN (k b g : Int) (l : List Int) (m z : Nat) (A Lf Rt : List Nb) := ((l, (k, b, g, ()), (k, b, g, (m : Int), (z : Int), (), (), (), ()), ws l m, A, Lf, Rt, ()) : List Int × (Int × Int × Int × Unit) × (Int × Int × Int × Int × Int × Unit × Unit × Unit × Unit) × List Bool × List Nb × List Nb × List Nb × Unit)
variable {A Lf Rt : List Nb} (hc : cnt l m ≤ 2001) (hz : 1 ≤ z ∧ z ≤ 64)
include hc hz
omit hz in
theorem near_skip {i j : Nat} (hi : i < cnt l m) (hj : j < cnt l m) (s : Bool) : law37_ProfileNearest.L3 (((), (), (m : Int), (z : Int), (), (), (i : Int), s, (j : Int), ()), PN k b g l m z A Lf Rt) =
    some (Sum.inl (((), (), (m : Int), (z : Int), (), (), (i : Int), s, (j : Int), !decide (SAn l m z i j), ()), PN k b g l m z A Lf Rt)) := by
  rw [show law37_ProfileNearest.L3 _ = _ from law37_ProfileNearest.L3_eq .., law37_ProfileNearest.f3, ws_len, dt (by omega : (0 : Int) ≤ (i : Int)), dt (by omega : (i : Int) < ((cnt l m : Nat) : Int)), Int.toNat_natCast, ws_get _ _ hi]
  simp only [cond_true]
  cases wi : okw l m i with
  | false =>
    have : ¬ SAn l m z i j := by
      rintro (h | h)
      · rw [h.1] at wi; cases wi
      · rw [h.2.2.1] at wi; cases wi
    rw [df this]; rfl
  | true =>
    rw [dt (by omega : (0 : Int) ≤ (j : Int)), dt (by omega : (j : Int) < ((cnt l m : Nat) : Int)), Int.toNat_natCast, ws_get _ _ hj]
    simp only [cond_true, Bool.not_true, cond_false]
    cases wj : okw l m j with
    | false =>
      have : ¬ SAn l m z i j := by
        rintro (h | h)
        · rw [h.2.1] at wj; cases wj
        · rw [h.2.1] at wj; cases wj
      rw [df this]; rfl
    | true =>
      rw [w64 (by omega), w64 (by omega)]
      simp only [Bool.not_true, cond_false]
      by_cases c : (j : Int) - i < z
      · rw [dt c]
        by_cases c2 : (i : Int) - j < z
        · have : ¬ SAn l m z i j := by
            rintro (h | h)
            · have := h.2.2; omega
            · have := h.2.2.2; omega
          rw [dt c2, df this]; rfl
        · have : SAn l m z i j := .inl ⟨wi, wj, by omega⟩
          rw [df c2, dt this]; rfl
      · have : SAn l m z i j := .inr ⟨hj, wj, wi, by omega⟩
        rw [df c, dt this]; rfl
omit hc in
theorem near_fine (hm : Mv k b g) (hl : Sv l) (hM : 2 ≤ m ∧ m ≤ 32) (h : Pf k b g l m z A Lf Rt) {i j : Nat} (hi : i < cnt l m) (hs : SAn l m z i j) (s : Bool) :
    law37_ProfileNearest.L4 (((), (), (m : Int), (z : Int), (), (), (i : Int), s, (j : Int), 0, (), ()), (l, (k, b, g, ()), (k, b, g, (m : Int), (z : Int), (), (), (), ()), ws l m, ((j : Int), (Dd k b g l m i j).1, (Dd k b g l m i j).2, ()), A, Lf, Rt, ())) =
    some (Sum.inl (((), (), (m : Int), (z : Int), (), (), (i : Int), s, (j : Int), false, ()), PN k b g l m z A Lf Rt)) := by
  have hj := SAn_lt hi hs
  have vd := SLR_vr (z := z) hm hl hM hi
  have hA := h.whole hm hl hM hi
  have hL := h.left i hi
  have hR := h.right i hi
  have vA := hA.vr vd
  have vL := hL.vr fun x hx => vd x (.inl hx)
  have vR := hR.vr fun x hx => vd x (.inr hx)
  have vj := vd j hs
  have nr : ∀ r : Nb, VR r.2.1 r.2.2 → nearer ((j : Int), Dd k b g l m i j) r = false → profile_Nearer.F ((((j : Int), ((Dd k b g l m i j).1, ((Dd k b g l m i j).2, ()))), ((r.1, (r.2.1, (r.2.2, ()))), ())), ()) = some ((false, ()), ()) := fun r hr hn => by
    rw [← hn]
    exact nearer_ok (a := ((j : Int), Dd k b g l m i j)) (b := r) (fun _ => vj) (fun _ => hr)
  rw [show law37_ProfileNearest.L4 _ = _ from law37_ProfileNearest.L4_eq .., law37_ProfileNearest.f4, nt rfl, h.lA, h.lL, h.lR, dt (by omega : (0 : Int) ≤ (i : Int)), dt (by omega : (i : Int) < ((cnt l m : Nat) : Int)), Int.toNat_natCast, nr _ vA (bst_not hA hs)]
  simp only [cond_true, cond_false, Option.bind_some]
  have last : (bif (A.getD i (0, 0, 0)).1 == (j : Int) then (!((A.getD i (0, 0, 0)).1 == (j : Int) && ((A.getD i (0, 0, 0)).2.1 == (Dd k b g l m i j).1 && (((A.getD i (0, 0, 0)).2.2 == (Dd k b g l m i j).2) && true) && true))) else false) = false := by
    by_cases c : (A.getD i (0, 0, 0)).1 = (j : Int)
    · have e := (hA.at.2 (by omega)).2
      rw [c, Int.toNat_natCast] at e
      rw [bt c, e]; simp
    · rw [bf c]; rfl
  have fin : ∀ X : Option _, X = (bif (A.getD i (0, 0, 0)).1 == (j : Int) then some (Sum.inl (((), (), (m : Int), (z : Int), (), (), (i : Int), s, (j : Int), (!((A.getD i (0, 0, 0)).1 == (j : Int) && ((A.getD i (0, 0, 0)).2.1 == (Dd k b g l m i j).1 && (((A.getD i (0, 0, 0)).2.2 == (Dd k b g l m i j).2) && true) && true))), ()), PN k b g l m z A Lf Rt))
      else some (Sum.inl (((), (), (m : Int), (z : Int), (), (), (i : Int), s, (j : Int), false, ()), PN k b g l m z A Lf Rt))) → X = (some (Sum.inl (((), (), (m : Int), (z : Int), (), (), (i : Int), s, (j : Int), false, ()), PN k b g l m z A Lf Rt)) : Option (_ ⊕ Empty)) := fun X e => by
    rw [e]
    cases c : (A.getD i (0, 0, 0)).1 == (j : Int) with
    | false => rfl
    | true => rw [c] at last; simp only [cond_true] at last ⊢; rw [last]
  by_cases c1 : j < i
  · have hSL : SL l m z i j := by
      rcases hs with h | h
      · exact h
      · have := h.2.2.2; omega
    rw [dt (by omega : (j : Int) < (i : Int)), nr _ vL (bst_not hL hSL)]
    simp only [cond_true, cond_false, Option.bind_some]
    rw [df (by omega : ¬ (j : Int) > (i : Int))]
    exact fin _ rfl
  · have hSR : SR l m z i j := by
      rcases hs with h | h
      · have := h.2.2; omega
      · exact h
    have hji : i < j := by have := hSR.2.2.2; omega
    rw [df (by omega : ¬ (j : Int) < (i : Int)), dt (by omega : (j : Int) > (i : Int)), nr _ vR (bst_not hR hSR)]
    simp only [cond_true, cond_false, Option.bind_some]
    exact fin _ rfl
theorem near_inner (hm : Mv k b g) (hl : Sv l) (hM : 2 ≤ m ∧ m ≤ 32) (h : Pf k b g l m z A Lf Rt) {i : Nat} (hi : i < cnt l m) : ∀ (n j : Nat) (s : Bool), j + n = cnt l m → (s = true ↔ ∃ x, x < j ∧ SAn l m z i x) →
    Ok (law37_ProfileNearest.L2 (((), (), (m : Int), (z : Int), (), (), (i : Int), s, (j : Int), ()), PN k b g l m z A Lf Rt)) (fun r => ∃ s', r = Sum.inl (((), (), (m : Int), (z : Int), (), (), (i : Int), s', ()), PN k b g l m z A Lf Rt) ∧ (s' = true ↔ ∃ x, x < cnt l m ∧ SAn l m z i x)) := by
  intro n
  induction n with
  | zero =>
    intro j s hj hs
    obtain rfl : j = cnt l m := by omega
    rw [show law37_ProfileNearest.L2 _ = _ from law37_ProfileNearest.L2_eq .., law37_ProfileNearest.f2, ws_len, df (by omega)]
    exact .some ⟨s, rfl, hs⟩
  | succ n ih =>
    intro j s hj hs
    have hjc : j < cnt l m := by omega
    have lc : cnt l m = l.length + 1 - m := rfl
    rw [show law37_ProfileNearest.L2 _ = _ from law37_ProfileNearest.L2_eq .., law37_ProfileNearest.f2, ws_len, dt (by omega), show law37_ProfileNearest.L3 _ = _ from near_skip hc hi hjc s]
    simp only [cond_true, Option.bind_some, Sum.elim_inl]
    by_cases c : SAn l m z i j
    · rw [dt c]
      simp only [Bool.not_true, cond_false]
      have ok : okw l m i = true ∧ okw l m j = true := by
        rcases c with h | h
        · exact ⟨h.1, h.2.1⟩
        · exact ⟨h.2.2.1, h.2.1⟩
      have hd := rdist_ok hm (Fit_win hm hl hM hi hjc ok.1 ok.2)
      rw [← Dd_symm hm hl hM hi hjc ok.1 ok.2] at hd
      rw [w64 (n := (i : Int) + m) (by omega), w64 (n := (j : Int) + m) (by omega), dt (by omega : (0 : Int) ≤ (i : Int)), dt (by omega : (i : Int) ≤ (i : Int) + m), dt (by omega : (i : Int) + m ≤ (l.length : Int)), dt (by omega : (0 : Int) ≤ (j : Int)), dt (by omega : (j : Int) ≤ (j : Int) + m), dt (by omega : (j : Int) + m ≤ (l.length : Int)),
        Int.toNat_natCast, Int.toNat_natCast, show ((i : Int) + m).toNat = i + m by omega, show ((j : Int) + m).toNat = j + m by omega]
      simp only [cond_true]
      rw [show ref17_Distance.F (((k, (b, (g, ()))), (List.drop i (List.take (i + m) l), (List.drop j (List.take (j + m) l), ()))), ()) = _ from hd]
      simp only [Option.bind_some]
      rw [show law37_ProfileNearest.L4 _ = _ from near_fine hz hm hl hM h hi c true]
      simp only [Option.bind_some, Sum.elim_inl, cond_false]
      rw [w64 (n := (j : Int) + 1) (by omega), show (j : Int) + 1 = ((j + 1 : Nat) : Int) by omega]
      exact .bind (ih (j + 1) true (by omega) ⟨fun _ => ⟨j, by omega, c⟩, fun _ => rfl⟩) fun r hr => .some hr
    · rw [df c]
      simp only [Bool.not_false, cond_true]
      rw [w64 (n := (j : Int) + 1) (by omega), show (j : Int) + 1 = ((j + 1 : Nat) : Int) by omega]
      refine .bind (ih (j + 1) s (by omega) ⟨fun e => ?_, fun ⟨x, hx, hx2⟩ => hs.2 ?_⟩) fun r hr => .some hr
      · obtain ⟨x, hx, hx2⟩ := hs.1 e
        exact ⟨x, by omega, hx2⟩
      · rcases Nat.lt_or_ge x j with h1 | h1
        · exact ⟨x, h1, hx2⟩
        · obtain rfl : x = j := by omega
          exact absurd hx2 c
theorem near_outer (hm : Mv k b g) (hl : Sv l) (hM : 2 ≤ m ∧ m ≤ 32) (h : Pf k b g l m z A Lf Rt) : ∀ (n i : Nat), i + n = cnt l m →
    law37_ProfileNearest.L1 (((), (), (m : Int), (z : Int), (), (), (i : Int), ()), PN k b g l m z A Lf Rt) = some (Sum.inl ((), ())) := by
  intro n
  induction n with
  | zero =>
    intro i hi
    rw [show law37_ProfileNearest.L1 _ = _ from law37_ProfileNearest.L1_eq .., law37_ProfileNearest.f1, ws_len, df (by omega)]; rfl
  | succ n ih =>
    intro i hi
    have hic : i < cnt l m := by omega
    obtain ⟨r, e, s, rfl, hs⟩ := near_inner hc hz hm hl hM h hic (cnt l m) 0 false (by omega) ⟨fun e => absurd e (by simp), fun ⟨x, hx, _⟩ => by omega⟩
    have hA := h.whole hm hl hM hic
    have hsA : s = decide ((A.getD i (0, 0, 0)).1 ≥ 0) := by
      rcases hA with ⟨e, hn⟩ | ⟨j, hj, e, _⟩
      · rw [e, df (by simp)]
        cases s with
        | false => rfl
        | true =>
          obtain ⟨x, _, hx⟩ := hs.1 rfl
          exact absurd hx (hn x)
      · rw [e, dt (by simp only; omega)]
        exact hs.2 ⟨j, SAn_lt hic hj, hj⟩
    rw [show law37_ProfileNearest.L1 _ = _ from law37_ProfileNearest.L1_eq .., law37_ProfileNearest.f1, ws_len, dt (by omega), show law37_ProfileNearest.L2 (((), ((), ((m : Int), ((z : Int), ((), ((), ((i : Int), (false, ((0 : Int), ()))))))))), PN k b g l m z A Lf Rt) = _ from e]
    simp only [cond_true, Option.bind_some, Sum.elim_inl]
    rw [dt (by omega : (0 : Int) ≤ (i : Int)), h.lA, dt (by omega : (i : Int) < ((cnt l m : Nat) : Int)), Int.toNat_natCast, hsA]
    simp only [cond_true, beq_self_eq_true, Bool.not_true, cond_false]
    rw [w64 (n := (i : Int) + 1) (by omega), show (i : Int) + 1 = ((i + 1 : Nat) : Int) by omega, show law37_ProfileNearest.L1 (((), ((), ((m : Int), ((z : Int), ((), ((), (((i + 1 : Nat) : Int), ()))))))), PN k b g l m z A Lf Rt) = _ from ih (i + 1) (by omega)]
    rfl
end
theorem ProfileNearest_pure (l : List Int) (h : ∀ x ∈ l, I64 x) : law37_ProfileNearest.F ((l, ()), ()) = some ((true, ()), ()) := by
  refine Ok.eq ?_
  rw [law37_ProfileNearest.F_eq, law37_ProfileNearest.f, few_ok]
  simp only [Option.bind_some]
  by_cases c : (l.length : Int) ≤ 400
  · rw [dt c]
    obtain ⟨e0, s0⟩ := dnew_ok h (by omega)
    simp only [Bool.not_true, cond_false]
    rw [e0]
    simp only [Option.bind_some]
    refine .bind (next_ok s0 _ (by omega)) fun y3 h3 => ?_
    obtain ⟨n, hn⟩ : ∃ n : Nat, y3.1.1 = n := ⟨y3.1.1.toNat, by omega⟩
    rw [hn]
    refine .bind (values_ok h3.1 n (by omega)) ?_
    rintro ⟨⟨_, _⟩, ⟨L1, i1, _⟩, a, _⟩ ⟨s1, hv, hlen⟩
    dsimp only at s1 hv hlen ⊢
    refine .bind (kmeasure_ok s1 0 (by omega)) ?_
    rintro ⟨⟨⟨k, b, g, _⟩, _⟩, ⟨L2, i2, _⟩, _⟩ ⟨s2, hm, _⟩
    dsimp only at s2 hm ⊢
    refine .bind (klength_ok s2) ?_
    rintro ⟨⟨m, _⟩, ⟨L3, i3, _⟩, _⟩ ⟨s3, m1, m2⟩
    dsimp only at s3 m1 m2 ⊢
    obtain ⟨m, rfl⟩ : ∃ q : Nat, m = q := ⟨m.toNat, by omega⟩
    refine .bind (next_ok s3 _ (by omega)) ?_
    rintro ⟨⟨z, _⟩, ⟨L4, i4, _⟩, _⟩ ⟨s4, z1, z2⟩
    dsimp only at s4 z1 z2 ⊢
    rw [w64 (n := 1 + z) (by omega)]
    obtain ⟨z, hz⟩ : ∃ q : Nat, 1 + z = q := ⟨(1 + z).toNat, by omega⟩
    rw [hz]
    obtain ⟨r, e, A, Lf, Rt, rfl, hp⟩ := prof_ok (z := z) hm hv (by omega : 2 ≤ m ∧ m ≤ 32) (by omega) (by omega)
    rw [show profile_Of.F ((a, ((k, (b, (g, ()))), ((m : Int), ((z : Int), ())))), ()) = _ from e]
    simp only [Option.bind_some]
    have hc : cnt a m ≤ 2000 := by unfold cnt; omega
    have hM : 2 ≤ m ∧ m ≤ 32 := by omega
    rw [show profile_Windows.F ((a, ((m : Int), ())), ()) = _ from windows_ok a hv (by omega) m hM]
    simp only [Option.bind_some]
    rw [show law37_ProfileNearest.L0 _ = _ from law37_ProfileNearest.L0_eq .., law37_ProfileNearest.f0, nt rfl, hp.lA, hp.lL, hp.lR, ws_len, nt rfl, show profile_Valid.F (((k, (b, (g, ((m : Int), ((z : Int), (A, (Lf, (Rt, ())))))))), ()), ()) = _ from pvalid_ok hm hv hM hc (by omega) hp]
    simp only [cond_false, Option.bind_some, Sum.elim_inl, Bool.not_true]
    rw [show law37_ProfileNearest.L1 (((), ((), ((m : Int), ((z : Int), ((), ((), ((0 : Int), ()))))))), PN k b g a m z A Lf Rt) = _ from near_outer (by omega) (by omega) hm hv hM hp (cnt a m) 0 (by omega)]
    simp only [Option.bind_some, Sum.elim_inl]
    rw [awake_ok]
    exact .some rfl
  · rw [df c]
    simp only [Bool.not_false, cond_true]
    rw [awake_ok]
    exact .some rfl
theorem ProfileNearest_true (x : law37_ProfileNearest.sh.X) (h : dsWf law37_ProfileNearest.sh.ds x.1) : law37_ProfileNearest.F x = some ((true, ()), ()) := by
  obtain ⟨⟨l, _⟩, _⟩ := x
  exact ProfileNearest_pure l (wf_ints h.1)
end Go.Proofs.Ytefcciajemkicaa.V
