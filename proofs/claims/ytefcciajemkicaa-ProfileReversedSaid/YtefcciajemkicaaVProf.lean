/- The profile of a series: the nearest window of each window. -/
import Derived.Test.YtefcciajemkicaaVg2
import Derived.Test.YtefcciajemkicaaVBase
import Derived.Test.YtefcciajemkicaaVEuc
import Derived.Test.YtefcciajemkicaaVGcd
import Derived.Test.YtefcciajemkicaaVMv
import Derived.Test.YtefcciajemkicaaVMD
import Derived.Test.YtefcciajemkicaaVSym
import Derived.Test.YtefcciajemkicaaVCmp
import Derived.Test.YtefcciajemkicaaVBst
import Derived.Test.YtefcciajemkicaaVDeck
import Derived.Test.YtefcciajemkicaaVWins
set_option linter.unusedVariables false
set_option linter.unusedSimpArgs false
namespace Go.Proofs.Ytefcciajemkicaa.V
open Go.VI
abbrev Nb := Int × Int × Int
/-- The distance of two windows. -/
noncomputable def Dd (k b g : Int) (l : List Int) (m i j : Nat) : Int × Int := if j < i then MD k b g (wn l m j) (wn l m i) else MD k b g (wn l m i) (wn l m j)
theorem Fit_win {k b g : Int} (hm : Mv k b g) {l : List Int} (hl : Sv l) {m i j : Nat} (h : 2 ≤ m ∧ m ≤ 32) (hi : i < cnt l m) (hj : j < cnt l m) (wi : okw l m i = true) (wj : okw l m j = true) : Fit k b (wn l m i) (wn l m j) := by
  have ei := wn_len (l := l) (m := m) (by omega) hi
  have ej := wn_len (l := l) (m := m) (by omega) hj
  have := hm.2.1
  exact ⟨Wn_win hl h hi wi, Wn_win hl h hj wj, fun _ => by rw [ei, ej]; omega, fun _ _ => by rw [ei, ej]⟩
theorem Dd_vr {k b g : Int} (hm : Mv k b g) {l : List Int} (hl : Sv l) {m i j : Nat} (h : 2 ≤ m ∧ m ≤ 32) (hi : i < cnt l m) (hj : j < cnt l m) (wi : okw l m i = true) (wj : okw l m j = true) : VR (Dd k b g l m i j).1 (Dd k b g l m i j).2 := by
  unfold Dd
  split
  · exact (mdist_ok hm (Fit_win hm hl h hj hi wj wi)).2
  · exact (mdist_ok hm (Fit_win hm hl h hi hj wi wj)).2
theorem Dd_symm {k b g : Int} (hm : Mv k b g) {l : List Int} (hl : Sv l) {m i j : Nat} (h : 2 ≤ m ∧ m ≤ 32) (hi : i < cnt l m) (hj : j < cnt l m) (wi : okw l m i = true) (wj : okw l m j = true) : Dd k b g l m i j = MD k b g (wn l m i) (wn l m j) := by
  unfold Dd
  split
  · exact MD_symm hm (Fit_win hm hl h hj hi wj wi)
  · rfl
/-! ### one neighbour and another one -/
theorem nearer_ok {a b : Nb} (ha : 0 ≤ a.1 → VR a.2.1 a.2.2) (hb : 0 ≤ b.1 → VR b.2.1 b.2.2) : profile_Nearer.F (((a.1, a.2.1, a.2.2, ()), (b.1, b.2.1, b.2.2, ()), ()), ()) = some ((nearer a b, ()), ()) := by
  rw [profile_Nearer.F_eq, profile_Nearer.f, profile_Nearer.L0_eq, profile_Nearer.f0]
  by_cases e : a = b
  · subst e
    have : nearer a a = false := by
      unfold nearer
      by_cases c : a.1 < 0
      · rw [df (by omega : ¬ a.1 ≥ 0)]; rfl
      · rw [df c, df (rlt_irr a.2), df (by omega : ¬ a.1 < a.1)]; simp
    rw [this]; simp
  · have : ((a.1 == b.1) && (((a.2.1 == b.2.1) && ((a.2.2 == b.2.2) && true)) && true)) = false := by
      cases hc : ((a.1 == b.1) && (((a.2.1 == b.2.1) && ((a.2.2 == b.2.2) && true)) && true)) with
      | false => rfl
      | true =>
        simp only [Bool.and_eq_true, beq_iff_eq, and_true] at hc
        exact absurd (Prod.ext hc.1 (Prod.ext hc.2.1 hc.2.2)) e
    rw [this]
    simp only [cond_false, Option.bind_some, Sum.elim_inl]
    unfold nearer
    by_cases c : a.1 < 0
    · rw [dt c, df (by omega : ¬ a.1 ≥ 0)]; rfl
    · rw [df c, dt (by omega : a.1 ≥ 0)]
      simp only [cond_false, Bool.true_and]
      by_cases c2 : b.1 < 0
      · rw [dt c2]; rfl
      · rw [df c2]
        simp only [cond_false, Bool.false_or]
        have va := ha (by omega)
        have vb := hb (by omega)
        rw [less_ok va vb]
        simp only [Option.bind_some]
        by_cases c3 : rlt a.2 b.2
        · rw [dt (show a.2.1 * b.2.2 < b.2.1 * a.2.2 from c3), dt c3]; rfl
        · rw [df (show ¬ a.2.1 * b.2.2 < b.2.1 * a.2.2 from c3), df c3]
          simp only [cond_false, Bool.false_or]
          rw [less_ok vb va]
          simp only [Option.bind_some]
          by_cases c4 : rlt b.2 a.2
          · rw [dt (show b.2.1 * a.2.2 < a.2.1 * b.2.2 from c4), dt c4]; rfl
          · rw [df (show ¬ b.2.1 * a.2.2 < a.2.1 * b.2.2 from c4), df c4]; rfl
def ins (a r : Nb) : Nb := if nearer a r then a else r
theorem best_ok {a r : Nb} (ha : 0 ≤ a.1 → VR a.2.1 a.2.2) (hr : 0 ≤ r.1 → VR r.2.1 r.2.2) : profile_Best.F (((), (a.1, a.2.1, a.2.2, ()), ()), ((r.1, r.2.1, r.2.2, ()), ())) = some ((), (((ins a r).1, (ins a r).2.1, (ins a r).2.2, ()), ())) := by
  rw [profile_Best.F_eq, profile_Best.f, nearer_ok ha hr]
  simp only [Option.bind_some]
  unfold ins
  cases nearer a r <;> rfl
/-! ### the loops -/
section
variable {k b g : Int} {l : List Int} {m z : Nat}
@[reducible] def P1 (k b g : Int) (l : List Int) (m z : Nat) (i : Int) (A Lf Rt : List Nb) : profile_Of.s1.X := ((l, (m : Int), (z : Int), (), (), (), (), ((cnt l m : Nat) : Int), i, ()), ((k, b, g, ()), ((0 : Int), (0 : Int), (0 : Int), (0 : Int), (0 : Int), (), (), (), ()), ws l m, (k, b, g, (m : Int), (z : Int), (), (), (), ()), A, Lf, Rt, ()))
@[reducible] def P2 (k b g : Int) (l : List Int) (m z : Nat) (i j : Int) (A Lf Rt : List Nb) : profile_Of.s2.X := ((l, (m : Int), (z : Int), (), (), (), (), i, j, ((cnt l m : Nat) : Int), i, ()), ((k, b, g, ()), ((0 : Int), (0 : Int), (0 : Int), (0 : Int), (0 : Int), (), (), (), ()), ws l m, (k, b, g, (m : Int), (z : Int), (), (), (), ()), A, Lf, Rt, ()))
theorem of_cond {i j : Nat} (hi : i < cnt l m) (hc : cnt l m ≤ 2001) (hz : z ≤ 100) (A Lf Rt : List Nb) : profile_Of.L3 (P2 k b g l m z i j A Lf Rt) =
    some (Sum.inl ((l, (m : Int), (z : Int), (), (), (), (), (i : Int), (j : Int), ((cnt l m : Nat) : Int), (i : Int), (okw l m i && decide (j + z ≤ i)), ()), (P2 k b g l m z i j A Lf Rt).2)) := by
  rw [show profile_Of.L3 (P2 k b g l m z i j A Lf Rt) = _ from profile_Of.L3_eq .., profile_Of.f3, dt (by omega), ws_len, dt (by omega), Int.toNat_natCast, ws_get l m hi, w64 (by omega)]
  cases okw l m i with
  | false => rfl
  | true =>
    have : decide ((j : Int) ≤ (i : Int) - z) = decide (j + z ≤ i) := decide_eq_decide.2 ⟨fun h => by omega, fun h => by omega⟩
    simp only [cond_true]
    rw [this]; rfl
theorem of_end {i j : Nat} (hi : i < cnt l m) (hc : cnt l m ≤ 2001) (hz : z ≤ 100) (A Lf Rt : List Nb) (h : ¬ (okw l m i = true ∧ j + z ≤ i)) : profile_Of.L2 (P2 k b g l m z i j A Lf Rt) = some (Sum.inl (P1 k b g l m z i A Lf Rt)) := by
  have : (okw l m i && decide (j + z ≤ i)) = false := by
    cases e : okw l m i with
    | false => rfl
    | true => rw [df (fun h' => h ⟨e, h'⟩)]; rfl
  rw [show profile_Of.L2 (P2 k b g l m z i j A Lf Rt) = _ from profile_Of.L2_eq .., profile_Of.f2, show profile_Of.L3 _ = _ from of_cond hi hc hz A Lf Rt, this]
  rfl
theorem of_skip {i j : Nat} (hi : i < cnt l m) (hc : cnt l m ≤ 2001) (hz : z ≤ 100) (A Lf Rt : List Nb) (h1 : okw l m i = true) (h2 : j + z ≤ i) (h3 : okw l m j = false) :
    profile_Of.L2 (P2 k b g l m z i j A Lf Rt) = profile_Of.L2 (P2 k b g l m z i ((j + 1 : Nat) : Int) A Lf Rt) := by
  rw [show profile_Of.L2 (P2 k b g l m z i j A Lf Rt) = _ from profile_Of.L2_eq .., profile_Of.f2, show profile_Of.L3 _ = _ from of_cond hi hc hz A Lf Rt, h1, dt h2]
  simp only [Option.bind_some, Sum.elim_inl, Bool.and_self, cond_true, ws_len, Int.toNat_natCast]
  rw [dt (by omega), dt (by omega), ws_get l m (by omega), h3, w64 (n := (j : Int) + 1) (by omega), show (j : Int) + 1 = ((j + 1 : Nat) : Int) by omega]
  simp only [Bool.not_false, cond_true]
  show (Option.bind (profile_Of.L2 (P2 k b g l m z i ((j + 1 : Nat) : Int) A Lf Rt)) fun y => some y) = _
  generalize profile_Of.L2 _ = q
  cases q <;> rfl
theorem of_do (hm : Mv k b g) (hl : Sv l) (hM : 2 ≤ m ∧ m ≤ 32) {i j : Nat} (hi : i < cnt l m) (hc : cnt l m ≤ 2001) (hz : z ≤ 100) (A Lf Rt : List Nb) (h1 : okw l m i = true) (h2 : j + z ≤ i) (h3 : okw l m j = true) (hz1 : 1 ≤ z)
    (eL : Lf.length = cnt l m) (eR : Rt.length = cnt l m) (vL : 0 ≤ (Lf.getD i (0, 0, 0)).1 → VR (Lf.getD i (0, 0, 0)).2.1 (Lf.getD i (0, 0, 0)).2.2) (vR : 0 ≤ (Rt.getD j (0, 0, 0)).1 → VR (Rt.getD j (0, 0, 0)).2.1 (Rt.getD j (0, 0, 0)).2.2) :
    profile_Of.L2 (P2 k b g l m z i j A Lf Rt) = profile_Of.L2 (P2 k b g l m z i ((j + 1 : Nat) : Int) A (Lf.set i (ins ((j : Int), Dd k b g l m i j) (Lf.getD i (0, 0, 0)))) (Rt.set j (ins ((i : Int), Dd k b g l m j i) (Rt.getD j (0, 0, 0))))) := by
  have hcl : cnt l m + m = l.length + 1 := by unfold cnt at *; omega
  obtain ⟨e, v⟩ := mdist_ok hm (Fit_win hm hl hM (by omega : j < cnt l m) hi h3 h1)
  have d1 : Dd k b g l m i j = MD k b g (wn l m j) (wn l m i) := by unfold Dd; rw [if_pos (by omega)]
  have d2 : Dd k b g l m j i = MD k b g (wn l m j) (wn l m i) := by unfold Dd; rw [if_neg (by omega)]
  rw [d1, d2]
  rw [show profile_Of.L2 (P2 k b g l m z i j A Lf Rt) = _ from profile_Of.L2_eq .., profile_Of.f2, show profile_Of.L3 _ = _ from of_cond hi hc hz A Lf Rt, h1, dt h2]
  simp only [Option.bind_some, Sum.elim_inl, Bool.and_self, cond_true, ws_len, Int.toNat_natCast]
  rw [dt (by omega), dt (by omega), ws_get l m (by omega), h3, w64 (n := (j : Int) + m) (by omega), w64 (n := (i : Int) + m) (by omega)]
  simp only [Bool.not_true, cond_false]
  rw [dt (by omega : (j : Int) ≤ (j : Int) + m), dt (by omega : (j : Int) + m ≤ (l.length : Int)), dt (by omega : (0 : Int) ≤ (i : Int)), dt (by omega : (i : Int) ≤ (i : Int) + m), dt (by omega : (i : Int) + m ≤ (l.length : Int)), show ((i : Int) + (m : Int)).toNat = i + m by omega, show ((j : Int) + (m : Int)).toNat = j + m by omega]
  simp only [cond_true]
  rw [show measure_Distance.F (((k, (b, (g, ()))), ((l.take (j + m)).drop j, ((l.take (i + m)).drop i, ()))), ()) = _ from e]
  generalize MD k b g (wn l m j) (wn l m i) = d at *
  simp only [Option.bind_some]
  rw [nt rfl]
  simp only [cond_false]
  rw [dt (by omega : (i : Int) < (Lf.length : Int)), dt (by omega : (j : Int) < (Rt.length : Int))]
  simp only [cond_true]
  rw [show profile_Best.F (((), (((j : Int), (d.1, (d.2, ()))), ())), (((Lf.getD i (0, 0, 0)).1, ((Lf.getD i (0, 0, 0)).2.1, ((Lf.getD i (0, 0, 0)).2.2, ()))), ())) = _ from best_ok (a := ((j : Int), d)) (fun _ => v) vL,
    show profile_Best.F (((), (((i : Int), (d.1, (d.2, ()))), ())), (((Rt.getD j (0, 0, 0)).1, ((Rt.getD j (0, 0, 0)).2.1, ((Rt.getD j (0, 0, 0)).2.2, ()))), ())) = _ from best_ok (a := ((i : Int), d)) (fun _ => v) vR]
  simp only [Option.bind_some]
  rw [w64 (n := (j : Int) + 1) (by omega), show (j : Int) + 1 = ((j + 1 : Nat) : Int) by omega]
  show (Option.bind (profile_Of.L2 (P2 k b g l m z i ((j + 1 : Nat) : Int) A (Lf.set i (ins ((j : Int), d) (Lf.getD i (0, 0, 0)))) (Rt.set j (ins ((i : Int), d) (Rt.getD j (0, 0, 0)))))) fun y => some y) = _
  generalize profile_Of.L2 _ = q
  cases q <;> rfl
/-- The windows ahead of a window, far enough away; and those behind it. -/
def SL (l : List Int) (m z a x : Nat) : Prop := okw l m a = true ∧ okw l m x = true ∧ x + z ≤ a
def SR (l : List Int) (m z a x : Nat) : Prop := x < cnt l m ∧ SL l m z x a
structure Inv (k b g : Int) (l : List Int) (m z i j : Nat) (Lf Rt : List Nb) : Prop where
  l1 : Lf.length = cnt l m
  l2 : Rt.length = cnt l m
  left : ∀ a, a < cnt l m → Bst (fun x => SL l m z a x ∧ (a < i ∨ (a = i ∧ x < j))) (Dd k b g l m a) (Lf.getD a (0, 0, 0))
  right : ∀ a, a < cnt l m → Bst (fun x => SR l m z a x ∧ (x < i ∨ (x = i ∧ a < j))) (Dd k b g l m a) (Rt.getD a (0, 0, 0))
theorem Inv.next {i j : Nat} {Lf Rt : List Nb} (h : Inv k b g l m z i j Lf Rt) {i' j' : Nat} (hL : ∀ a x, SL l m z a x → ((a < i ∨ (a = i ∧ x < j)) ↔ (a < i' ∨ (a = i' ∧ x < j')))) : Inv k b g l m z i' j' Lf Rt :=
  ⟨h.l1, h.l2, fun a ha => (h.left a ha).congr (fun x => ⟨fun hx => ⟨hx.1, (hL a x hx.1).1 hx.2⟩, fun hx => ⟨hx.1, (hL a x hx.1).2 hx.2⟩⟩) fun _ _ => rfl,
   fun a ha => (h.right a ha).congr (fun x => ⟨fun hx => ⟨hx.1, (hL x a hx.1.2).1 hx.2⟩, fun hx => ⟨hx.1, (hL x a hx.1.2).2 hx.2⟩⟩) fun _ _ => rfl⟩
theorem inner_loop (hm : Mv k b g) (hl : Sv l) (hM : 2 ≤ m ∧ m ≤ 32) {i : Nat} (hi : i < cnt l m) (hc : cnt l m ≤ 2001) (hz : 1 ≤ z ∧ z ≤ 100) (A : List Nb) : ∀ (f j : Nat) (Lf Rt : List Nb), i < j + f → Inv k b g l m z i j Lf Rt →
    Ok (profile_Of.L2 (P2 k b g l m z i j A Lf Rt)) (fun r => ∃ Lf' Rt', r = Sum.inl (P1 k b g l m z i A Lf' Rt') ∧ Inv k b g l m z (i + 1) 0 Lf' Rt') := by
  have fin : ∀ (j : Nat) (Lf Rt : List Nb), ¬ (okw l m i = true ∧ j + z ≤ i) → Inv k b g l m z i j Lf Rt → Ok (profile_Of.L2 (P2 k b g l m z i j A Lf Rt)) (fun r => ∃ Lf' Rt', r = Sum.inl (P1 k b g l m z i A Lf' Rt') ∧ Inv k b g l m z (i + 1) 0 Lf' Rt') := fun j Lf Rt h hv => by
    rw [of_end hi hc hz.2 A Lf Rt h]
    refine .some ⟨Lf, Rt, rfl, hv.next fun a x hs => ?_⟩
    constructor
    · intro h; left; omega
    · intro h'
      rcases Nat.lt_or_ge a i with hlt | hge
      · exact .inl hlt
      · have e : a = i := by omega
        subst e
        refine .inr ⟨rfl, ?_⟩
        have : ¬ j + z ≤ a := fun hj => h ⟨hs.1, hj⟩
        have := hs.2.2
        omega
  intro f
  induction f with
  | zero => intro j Lf Rt h hv; exact fin j Lf Rt (fun h' => by omega) hv
  | succ f ih =>
    intro j Lf Rt h hv
    by_cases c : okw l m i = true ∧ j + z ≤ i
    · obtain ⟨c1, c2⟩ := c
      cases c3 : okw l m j with
      | false =>
        rw [of_skip hi hc hz.2 A Lf Rt c1 c2 c3]
        refine ih (j + 1) Lf Rt (by omega) (hv.next fun a x hs => ?_)
        constructor
        · intro h; omega
        · intro h
          rcases h with h | ⟨h, h'⟩
          · exact .inl h
          · rcases Nat.lt_or_ge x j with hlt | hge
            · exact .inr ⟨h, hlt⟩
            · exfalso
              have e : x = j := by omega
              subst e
              have := hs.2.1
              rw [c3] at this; cases this
      | true =>
        have vd : ∀ {a x : Nat}, a < cnt l m → x < cnt l m → okw l m a = true → okw l m x = true → VR (Dd k b g l m a x).1 (Dd k b g l m a x).2 := fun h1 h2 h3 h4 => Dd_vr hm hl hM h1 h2 h3 h4
        have bL := hv.left i hi
        have bR := hv.right j (by omega)
        have vL := bL.vr fun x hx => vd hi (by have := hx.1.2.2; omega) hx.1.1 hx.1.2.1
        have vR := bR.vr fun x hx => vd (by omega : j < cnt l m) hx.1.1 hx.1.2.2.1 hx.1.2.1
        rw [of_do hm hl hM hi hc hz.2 A Lf Rt c1 c2 c3 hz.1 hv.l1 hv.l2 (fun _ => vL) (fun _ => vR)]
        refine ih (j + 1) _ _ (by omega) ⟨by rw [List.length_set, hv.l1], by rw [List.length_set, hv.l2], fun a ha => ?_, fun a ha => ?_⟩
        · rw [getD_set (by rw [hv.l1]; exact hi)]
          by_cases e : a = i
          · subst e
            rw [if_pos rfl]
            refine (bL.ins j fun x hx => ?_).congr (fun x => ?_) fun _ _ => rfl
            · rcases hx with hx | rfl
              · exact vd hi (by have := hx.1.2.2; omega) hx.1.1 hx.1.2.1
              · exact vd hi (by omega) c1 c3
            · constructor
              · rintro (hx | rfl)
                · exact ⟨hx.1, by omega⟩
                · exact ⟨⟨c1, c3, c2⟩, .inr ⟨rfl, by omega⟩⟩
              · rintro ⟨hs, hx⟩
                rcases Nat.lt_or_ge x j with hlt | hge
                · exact .inl ⟨hs, .inr ⟨rfl, hlt⟩⟩
                · exact .inr (by omega)
          · rw [if_neg e]
            refine (hv.left a ha).congr (fun x => ?_) fun _ _ => rfl
            constructor
            · rintro ⟨hs, hx⟩; exact ⟨hs, by omega⟩
            · rintro ⟨hs, hx⟩; exact ⟨hs, by omega⟩
        · rw [getD_set (by rw [hv.l2]; omega)]
          by_cases e : a = j
          · subst e
            rw [if_pos rfl]
            refine (bR.ins i fun x hx => ?_).congr (fun x => ?_) fun _ _ => rfl
            · rcases hx with hx | rfl
              · exact vd (by omega : a < cnt l m) hx.1.1 hx.1.2.2.1 hx.1.2.1
              · exact vd (by omega : a < cnt l m) hi c3 c1
            · constructor
              · rintro (hx | rfl)
                · exact ⟨hx.1, by omega⟩
                · exact ⟨⟨hi, c1, c3, c2⟩, .inr ⟨rfl, by omega⟩⟩
              · rintro ⟨hs, hx⟩
                rcases Nat.lt_or_ge x i with hlt | hge
                · exact .inl ⟨hs, .inl hlt⟩
                · exact .inr (by omega)
          · rw [if_neg e]
            refine (hv.right a ha).congr (fun x => ?_) fun _ _ => rfl
            constructor
            · rintro ⟨hs, hx⟩; exact ⟨hs, by omega⟩
            · rintro ⟨hs, hx⟩; exact ⟨hs, by omega⟩
    · exact fin j Lf Rt c hv
theorem outer_loop (hm : Mv k b g) (hl : Sv l) (hM : 2 ≤ m ∧ m ≤ 32) (hc : cnt l m ≤ 2001) (hz : 1 ≤ z ∧ z ≤ 100) (A : List Nb) : ∀ (n i : Nat) (Lf Rt : List Nb), i + n = cnt l m → Inv k b g l m z i 0 Lf Rt →
    Ok (profile_Of.L1 (P1 k b g l m z i A Lf Rt)) (fun r => ∃ Lf' Rt', r = Sum.inl (((), (), (), ()), (P1 k b g l m z i A Lf' Rt').2.2) ∧ Inv k b g l m z (cnt l m) 0 Lf' Rt') := by
  intro n
  induction n with
  | zero =>
    intro i Lf Rt h hv
    rw [show profile_Of.L1 (P1 k b g l m z i A Lf Rt) = _ from profile_Of.L1_eq .., profile_Of.f1, df (by omega)]
    obtain rfl : i = cnt l m := by omega
    exact .some ⟨Lf, Rt, rfl, hv⟩
  | succ n ih =>
    intro i Lf Rt h hv
    rw [show profile_Of.L1 (P1 k b g l m z i A Lf Rt) = _ from profile_Of.L1_eq .., profile_Of.f1, dt (by omega)]
    obtain ⟨r, e, Lf', Rt', rfl, hv'⟩ := inner_loop hm hl hM (i := i) (by omega) hc hz A (i + 1) 0 Lf Rt (by omega) hv
    rw [show profile_Of.L2 (P2 k b g l m z i (0 : Int) A Lf Rt) = _ from e]
    simp only [cond_true, Option.bind_some, Sum.elim_inl]
    rw [w64 (n := (i : Int) + 1) (by omega), show (i : Int) + 1 = ((i + 1 : Nat) : Int) by omega]
    exact .bind (ih (i + 1) Lf' Rt' (by omega) hv') fun r hr => .some hr
end
end Go.Proofs.Ytefcciajemkicaa.V
