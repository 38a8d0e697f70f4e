/- The profile of a series, whole; it is valid; the example of the chapter. -/
import Derived.Test.YtefcciajemkicaaVg3
import Derived.Test.YtefcciajemkicaaVBase
import Derived.Test.YtefcciajemkicaaVEuc
import Derived.Test.YtefcciajemkicaaVGcd
import Derived.Test.YtefcciajemkicaaVMv
import Derived.Test.YtefcciajemkicaaVMD
import Derived.Test.YtefcciajemkicaaVSym
import Derived.Test.YtefcciajemkicaaVCmp
import Derived.Test.YtefcciajemkicaaVBst
import Derived.Test.YtefcciajemkicaaVDeck
import Derived.Test.YtefcciajemkicaaVWins
import Derived.Test.YtefcciajemkicaaVProf
set_option linter.unusedVariables false
set_option linter.unusedSimpArgs false
namespace Go.Proofs.Ytefcciajemkicaa.V
open Go.VI
theorem peta {α β : Type} (p : α × β) : (p.1, p.2) = p := rfl
/-- A profile. -/
structure Pf (k b g : Int) (l : List Int) (m z : Nat) (A Lf Rt : List Nb) : Prop where
  lA : A.length = cnt l m
  lL : Lf.length = cnt l m
  lR : Rt.length = cnt l m
  left : ∀ a, a < cnt l m → Bst (SL l m z a) (Dd k b g l m a) (Lf.getD a (0, 0, 0))
  right : ∀ a, a < cnt l m → Bst (SR l m z a) (Dd k b g l m a) (Rt.getD a (0, 0, 0))
  all : ∀ a, a < cnt l m → A.getD a (0, 0, 0) = ins (Rt.getD a (0, 0, 0)) (Lf.getD a (0, 0, 0))
section
variable {k b g : Int} {l : List Int} {m z : Nat}
theorem SLR_vr (hm : Mv k b g) (hl : Sv l) (hM : 2 ≤ m ∧ m ≤ 32) {a : Nat} (ha : a < cnt l m) : ∀ x, SL l m z a x ∨ SR l m z a x → VR (Dd k b g l m a x).1 (Dd k b g l m a x).2 := by
  rintro x (h | h)
  · exact Dd_vr hm hl hM ha (by have := h.2.2; omega) h.1 h.2.1
  · exact Dd_vr hm hl hM ha h.1 h.2.2.1 h.2.1
theorem Pf.whole {A Lf Rt : List Nb} (h : Pf k b g l m z A Lf Rt) (hm : Mv k b g) (hl : Sv l) (hM : 2 ≤ m ∧ m ≤ 32) {a : Nat} (ha : a < cnt l m) : Bst (fun x => SL l m z a x ∨ SR l m z a x) (Dd k b g l m a) (A.getD a (0, 0, 0)) := by
  rw [h.all a ha]
  exact (h.left a ha).join (h.right a ha) (SLR_vr hm hl hM ha)
theorem none_ok : profile_None.F ((), ()) = some (((-1, 0, 1, ()), ()), ()) := by rw [profile_None.F_eq, profile_None.f]
theorem init_loop (hc : cnt l m ≤ 2001) : ∀ (n i : Nat), i + n = cnt l m →
    profile_Of.L0 (P1 k b g l m z i (List.replicate i (-1, 0, 1)) (List.replicate i (-1, 0, 1)) (List.replicate i (-1, 0, 1))) = some (Sum.inl ((l, (m : Int), (z : Int), (), (), (), (), ()), (P1 k b g l m z i (List.replicate (cnt l m) (-1, 0, 1)) (List.replicate (cnt l m) (-1, 0, 1)) (List.replicate (cnt l m) (-1, 0, 1))).2)) := by
  intro n
  induction n with
  | zero =>
    intro i h
    obtain rfl : i = cnt l m := by omega
    rw [show profile_Of.L0 (P1 k b g l m z _ _ _ _) = _ from profile_Of.L0_eq .., profile_Of.f0, df (by omega)]; rfl
  | succ n ih =>
    intro i h
    have hs : (((List.replicate i ((-1, 0, 1) : Nb)).length + [((-1, 0, 1) : Nb)].length) * 24 ≤ 140737488355328) := by rw [List.length_replicate, List.length_singleton]; omega
    have he : List.replicate i ((-1, 0, 1) : Nb) ++ [(-1, 0, 1)] = List.replicate (i + 1) (-1, 0, 1) := (List.replicate_succ' ..).symm
    rw [show profile_Of.L0 (P1 k b g l m z _ _ _ _) = _ from profile_Of.L0_eq .., profile_Of.f0, dt (by omega), none_ok]
    simp only [cond_true, Option.bind_some]
    rw [dt hs, w64 (n := (i : Int) + 1) (by omega), show (i : Int) + 1 = ((i + 1 : Nat) : Int) by omega, he]
    simp only [cond_true]
    rw [show profile_Of.L0 _ = _ from ih (i + 1) (by omega)]
    rfl
@[reducible] def P4 (k b g : Int) (l : List Int) (m z : Nat) (i : Int) (A Lf Rt : List Nb) : profile_Of.s4.X := (((), (), ((cnt l m : Nat) : Int), i, ()), (((0 : Int), (0 : Int), (0 : Int), (0 : Int), (0 : Int), (), (), (), ()), (k, b, g, (m : Int), (z : Int), (), (), (), ()), A, Lf, Rt, ()))
theorem all_loop (hc : cnt l m ≤ 2001) {Lf Rt : List Nb} (lL : Lf.length = cnt l m) (lR : Rt.length = cnt l m) (vL : ∀ a, a < cnt l m → VR (Lf.getD a (0, 0, 0)).2.1 (Lf.getD a (0, 0, 0)).2.2) (vR : ∀ a, a < cnt l m → VR (Rt.getD a (0, 0, 0)).2.1 (Rt.getD a (0, 0, 0)).2.2) : ∀ (n i : Nat) (A : List Nb), i + n = cnt l m → A.length = cnt l m → (∀ a, a < i → A.getD a (0, 0, 0) = ins (Rt.getD a (0, 0, 0)) (Lf.getD a (0, 0, 0))) →
    Ok (profile_Of.L4 (P4 k b g l m z i A Lf Rt)) (fun r => ∃ A', r = Sum.inl (((), (), ()), (P4 k b g l m z i A' Lf Rt).2) ∧ A'.length = cnt l m ∧ ∀ a, a < cnt l m → A'.getD a (0, 0, 0) = ins (Rt.getD a (0, 0, 0)) (Lf.getD a (0, 0, 0))) := by
  intro n
  induction n with
  | zero =>
    intro i A h hA hv
    rw [show profile_Of.L4 (P4 k b g l m z _ _ _ _) = _ from profile_Of.L4_eq .., profile_Of.f4, df (by omega)]
    exact .some ⟨A, rfl, hA, fun a ha => hv a (by omega)⟩
  | succ n ih =>
    intro i A h hA hv
    have gs : (A.set i (Lf.getD i (0, 0, 0))).getD i (0, 0, 0) = Lf.getD i (0, 0, 0) := by rw [getD_set (by omega), if_pos rfl]
    rw [show profile_Of.L4 (P4 k b g l m z _ _ _ _) = _ from profile_Of.L4_eq .., profile_Of.f4, dt (by omega)]
    simp only [Int.toNat_natCast, peta, gs, List.length_set, List.set_set]
    rw [dt (by omega : (0 : Int) ≤ (i : Int)), dt (by omega : (i : Int) < (Lf.length : Int)), dt (by omega : (i : Int) < (A.length : Int)), dt (by omega : (i : Int) < (Rt.length : Int))]
    simp only [cond_true]
    rw [show profile_Best.F (((), (((Rt.getD i (0, 0, 0)).1, ((Rt.getD i (0, 0, 0)).2.1, ((Rt.getD i (0, 0, 0)).2.2, ()))), ())), (((Lf.getD i (0, 0, 0)).1, ((Lf.getD i (0, 0, 0)).2.1, ((Lf.getD i (0, 0, 0)).2.2, ()))), ())) = _ from best_ok (fun _ => vR i (by omega)) (fun _ => vL i (by omega))]
    simp only [Option.bind_some, peta]
    rw [w64 (n := (i : Int) + 1) (by omega), show (i : Int) + 1 = ((i + 1 : Nat) : Int) by omega]
    refine .bind (ih (i + 1) (A.set i (ins (Rt.getD i (0, 0, 0)) (Lf.getD i (0, 0, 0)))) (by omega) (by rw [List.length_set, hA]) fun a ha => ?_) fun r hr => .some hr
    rw [getD_set (by omega)]
    by_cases e : a = i
    · rw [if_pos e, e]
    · rw [if_neg e, hv a (by omega)]
theorem prof_ok (hm : Mv k b g) (hl : Sv l) (hM : 2 ≤ m ∧ m ≤ 32) (hlen : l.length ≤ 2000) (hz : 1 ≤ z ∧ z ≤ 64) : Ok (profile_Of.F ((l, (k, b, g, ()), (m : Int), (z : Int), ()), ())) (fun r => ∃ A Lf Rt, r = (((k, b, g, (m : Int), (z : Int), (), (), (), ()), 0, ()), (A, Lf, Rt, ())) ∧ Pf k b g l m z A Lf Rt) := by
  have hc : cnt l m ≤ 2001 := by unfold cnt; omega
  have hzone : profile_Zone.F (((z : Int), ()), ()) = some ((true, ()), ()) := by rw [profile_Zone.F_eq, profile_Zone.f, dt (by omega), dt (by omega)]; rfl
  rw [profile_Of.F_eq, profile_Of.f, check_valid hm]
  simp only [Option.bind_some]
  rw [nt rfl, windows_ok l hl hlen m hM]
  simp only [cond_false, Option.bind_some]
  rw [nt rfl, hzone]
  simp only [cond_false, Option.bind_some, Bool.not_true, ws_len]
  rw [show profile_Of.L0 (P1 k b g l m z (0 : Int) [] [] []) = _ from init_loop hc (cnt l m) 0 (by omega)]
  simp only [Option.bind_some, Sum.elim_inl, ws_len]
  have hn : ∀ a, a < cnt l m → (List.replicate (cnt l m) ((-1, 0, 1) : Nb)).getD a (0, 0, 0) = (-1, 0, 1) := fun a ha => by
    rw [List.getD_eq_getElem?_getD, List.getElem?_replicate, if_pos ha]; rfl
  obtain ⟨r, e, Lf, Rt, rfl, hv⟩ := outer_loop (k := k) (b := b) (g := g) (z := z) hm hl hM hc (by omega) (List.replicate (cnt l m) (-1, 0, 1)) (cnt l m) 0 (List.replicate (cnt l m) (-1, 0, 1)) (List.replicate (cnt l m) (-1, 0, 1)) (by omega)
    ⟨List.length_replicate .., List.length_replicate .., fun a ha => by rw [hn a ha]; exact Bst.none fun j h => by omega, fun a ha => by rw [hn a ha]; exact Bst.none fun j h => by omega⟩
  rw [show profile_Of.L1 (P1 k b g l m z (0 : Int) (List.replicate (cnt l m) (-1, 0, 1)) (List.replicate (cnt l m) (-1, 0, 1)) (List.replicate (cnt l m) (-1, 0, 1))) = _ from e]
  simp only [Option.bind_some, Sum.elim_inl, ws_len]
  have left : ∀ a, a < cnt l m → Bst (SL l m z a) (Dd k b g l m a) (Lf.getD a (0, 0, 0)) := fun a ha => (hv.left a ha).congr (fun x => ⟨fun h => h.1, fun h => ⟨h, .inl ha⟩⟩) fun _ _ => rfl
  have right : ∀ a, a < cnt l m → Bst (SR l m z a) (Dd k b g l m a) (Rt.getD a (0, 0, 0)) := fun a ha => (hv.right a ha).congr (fun x => ⟨fun h => h.1, fun h => ⟨h, .inl h.1⟩⟩) fun _ _ => rfl
  obtain ⟨r, e, A, rfl, hA, hA2⟩ := all_loop (k := k) (b := b) (g := g) (z := z) hc hv.l1 hv.l2 (fun a ha => (left a ha).vr fun x hx => SLR_vr hm hl hM ha x (.inl hx)) (fun a ha => (right a ha).vr fun x hx => SLR_vr hm hl hM ha x (.inr hx)) (cnt l m) 0 (List.replicate (cnt l m) (-1, 0, 1)) (by omega) (List.length_replicate ..) fun a ha => by omega
  rw [show profile_Of.L4 (P4 k b g l m z (0 : Int) (List.replicate (cnt l m) (-1, 0, 1)) Lf Rt) = _ from e]
  exact .some ⟨A, Lf, Rt, rfl, hA, hv.l1, hv.l2, left, right, hA2⟩
/-! ### a profile is valid -/
theorem neighbour_left {i : Nat} (hi : i < cnt l m) (hc : cnt l m ≤ 2001) (hz : z ≤ 64) {r : Nb} (h : Bst (SL l m z i) (Dd k b g l m i) r) (hv : VR r.2.1 r.2.2) : profile_neighbour.F (((r.1, r.2.1, r.2.2, ()), (i : Int), ((cnt l m : Nat) : Int), (z : Int), false, ()), ()) = some ((true, ()), ()) := by
  rw [profile_neighbour.F_eq, profile_neighbour.f]
  rcases h with ⟨rfl, h⟩ | ⟨j, hj, rfl, h⟩
  · rw [bt rfl, none_ok]; rfl
  · have := hj.2.2
    rw [bf (by simp only; omega), profile_neighbour.L0_eq, profile_neighbour.f0, df (by simp only; omega), df (by simp only; omega), valid_true hv]
    simp only [cond_false, Option.bind_some, Sum.elim_inl, Bool.not_true]
    rw [w64 (by omega), dt (by omega)]
theorem neighbour_right {i : Nat} (hi : i < cnt l m) (hc : cnt l m ≤ 2001) (hz : z ≤ 64) {r : Nb} (h : Bst (SR l m z i) (Dd k b g l m i) r) (hv : VR r.2.1 r.2.2) : profile_neighbour.F (((r.1, r.2.1, r.2.2, ()), (i : Int), ((cnt l m : Nat) : Int), (z : Int), true, ()), ()) = some ((true, ()), ()) := by
  rw [profile_neighbour.F_eq, profile_neighbour.f]
  rcases h with ⟨rfl, h⟩ | ⟨j, hj, rfl, h⟩
  · rw [bt rfl, none_ok]; rfl
  · have := hj.2.2.2
    have := hj.1
    rw [bf (by simp only; omega), profile_neighbour.L0_eq, profile_neighbour.f0, df (by simp only; omega), df (by simp only; omega), valid_true hv]
    simp only [cond_false, cond_true, Option.bind_some, Sum.elim_inl, Bool.not_true]
    rw [w64 (by omega), dt (by omega)]
theorem same3 (r : Nb) : ((r.1 == r.1) && (((r.2.1 == r.2.1) && ((r.2.2 == r.2.2) && true)) && true)) = true := by simp
@[reducible] def PV (k b g : Int) (m z : Nat) (A Lf Rt : List Nb) : Int × Int × Int × Int × Int × List Nb × List Nb × List Nb × Unit := (k, b, g, (m : Int), (z : Int), A, Lf, Rt, ())
theorem valid_loop (hm : Mv k b g) (hl : Sv l) (hM : 2 ≤ m ∧ m ≤ 32) (hc : cnt l m ≤ 2001) (hz : 1 ≤ z ∧ z ≤ 64) {A Lf Rt : List Nb} (h : Pf k b g l m z A Lf Rt) : ∀ (n i : Nat), i + n = cnt l m →
    profile_Valid.L1 (((), ((cnt l m : Nat) : Int), ((cnt l m : Nat) : Int), (i : Int), ()), (PV k b g m z A Lf Rt, ())) = some (Sum.inl ((), ())) := by
  intro n
  induction n with
  | zero =>
    intro i hi
    rw [show profile_Valid.L1 (((), ((cnt l m : Nat) : Int), ((cnt l m : Nat) : Int), (i : Int), ()), (PV k b g m z A Lf Rt, ())) = _ from profile_Valid.L1_eq .., profile_Valid.f1, df (by omega)]; rfl
  | succ n ih =>
    intro i hi
    have hic : i < cnt l m := by omega
    have lA := h.lA
    have lL := h.lL
    have lR := h.lR
    have vL := (h.left i hic).vr fun x hx => SLR_vr hm hl hM hic x (.inl hx)
    have vR := (h.right i hic).vr fun x hx => SLR_vr hm hl hM hic x (.inr hx)
    rw [show profile_Valid.L1 (((), ((cnt l m : Nat) : Int), ((cnt l m : Nat) : Int), (i : Int), ()), (PV k b g m z A Lf Rt, ())) = _ from profile_Valid.L1_eq .., profile_Valid.f1, dt (by omega), dt (by omega : (0 : Int) ≤ (i : Int)), dt (by omega : (i : Int) < (Lf.length : Int)), dt (by omega : (i : Int) < (Rt.length : Int)), Int.toNat_natCast]
    simp only [cond_true]
    rw [show profile_Best.F (((), (((Rt.getD i (0, 0, 0)).1, ((Rt.getD i (0, 0, 0)).2.1, ((Rt.getD i (0, 0, 0)).2.2, ()))), ())), (((Lf.getD i (0, 0, 0)).1, ((Lf.getD i (0, 0, 0)).2.1, ((Lf.getD i (0, 0, 0)).2.2, ()))), ())) = _ from best_ok (fun _ => vR) (fun _ => vL)]
    simp only [Option.bind_some]
    rw [show profile_Valid.L2 (((), (((cnt l m : Nat) : Int), ((i : Int), ((), (((cnt l m : Nat) : Int), ((i : Int), ())))))), ((k, (b, (g, ((m : Int), ((z : Int), (A, (Lf, (Rt, ())))))))), (((ins (Rt.getD i (0, 0, 0)) (Lf.getD i (0, 0, 0))).1, ((ins (Rt.getD i (0, 0, 0)) (Lf.getD i (0, 0, 0))).2.1, ((ins (Rt.getD i (0, 0, 0)) (Lf.getD i (0, 0, 0))).2.2, ()))), ()))) = _ from profile_Valid.L2_eq .., profile_Valid.f2,
      dt (by omega : (0 : Int) ≤ (i : Int)), dt (by omega : (i : Int) < (Lf.length : Int)), Int.toNat_natCast]
    simp only [cond_true]
    rw [show profile_neighbour.F (((((Lf.getD i (0, 0, 0)).1, ((Lf.getD i (0, 0, 0)).2.1, ((Lf.getD i (0, 0, 0)).2.2, ()))), ((i : Int), (((cnt l m : Nat) : Int), ((z : Int), (false, ())))))), ()) = _ from neighbour_left hic hc hz.2 (h.left i hic) vL]
    simp only [Option.bind_some, Bool.not_true, cond_false]
    rw [dt (by omega : (i : Int) < (Rt.length : Int))]
    simp only [cond_true]
    rw [show profile_neighbour.F (((((Rt.getD i (0, 0, 0)).1, ((Rt.getD i (0, 0, 0)).2.1, ((Rt.getD i (0, 0, 0)).2.2, ()))), ((i : Int), (((cnt l m : Nat) : Int), ((z : Int), (true, ())))))), ()) = _ from neighbour_right hic hc hz.2 (h.right i hic) vR]
    simp only [Option.bind_some, Bool.not_true, cond_false]
    rw [dt (by omega : (i : Int) < (A.length : Int)), h.all i hic, same3]
    simp only [Option.bind_some, Bool.not_true, cond_false, cond_true, Sum.elim_inl]
    rw [w64 (n := (i : Int) + 1) (by omega), show (i : Int) + 1 = ((i + 1 : Nat) : Int) by omega]
    rw [show profile_Valid.L1 (((), (((cnt l m : Nat) : Int), (((cnt l m : Nat) : Int), (((i + 1 : Nat) : Int), ())))), ((k, (b, (g, ((m : Int), ((z : Int), (A, (Lf, (Rt, ())))))))), ())) = _ from ih (i + 1) (by omega)]
    rfl
theorem pvalid_ok (hm : Mv k b g) (hl : Sv l) (hM : 2 ≤ m ∧ m ≤ 32) (hc : cnt l m ≤ 2000) (hz : 1 ≤ z ∧ z ≤ 64) {A Lf Rt : List Nb} (h : Pf k b g l m z A Lf Rt) : profile_Valid.F ((PV k b g m z A Lf Rt, ()), ()) = some ((true, ()), ()) := by
  have hzone : profile_Zone.F (((z : Int), ()), ()) = some ((true, ()), ()) := by rw [profile_Zone.F_eq, profile_Zone.f, dt (by omega), dt (by omega)]; rfl
  have hlen : profile_Length.F (((m : Int), ()), ()) = some ((true, ()), ()) := by rw [profile_Length.F_eq, profile_Length.f, dt (by omega), dt (by omega)]; rfl
  rw [show profile_Valid.F ((PV k b g m z A Lf Rt, ()), ()) = _ from profile_Valid.F_eq .., profile_Valid.f, profile_Valid.L0_eq, profile_Valid.f0, check_valid hm]
  simp only [Option.bind_some]
  rw [nt rfl, hlen]
  simp only [cond_false, Option.bind_some, Bool.not_true]
  rw [hzone]
  simp only [cond_false, Option.bind_some, Bool.not_true, h.lA, h.lL, h.lR]
  rw [nt rfl, df (by omega)]
  simp only [cond_false, Option.bind_some, Sum.elim_inl]
  rw [show profile_Valid.L1 (((), (((cnt l m : Nat) : Int), (((cnt l m : Nat) : Int), ((0 : Int), ())))), ((k, (b, (g, ((m : Int), ((z : Int), (A, (Lf, (Rt, ())))))))), ())) = _ from valid_loop hm hl hM (by omega) hz h (cnt l m) 0 (by omega)]
  rfl
end
/-! ### the example -/
/-- The nearest of those that are marked. -/
noncomputable def bof (S : Nat → Bool) (D : Nat → Int × Int) : Nat → Nb
  | 0 => (-1, 0, 1)
  | n + 1 => if S n then ins ((n : Int), D n) (bof S D n) else bof S D n
theorem bof_ok (S : Nat → Bool) (D : Nat → Int × Int) : ∀ n, (∀ j, j < n → S j = true → VR (D j).1 (D j).2) → Bst (fun j => j < n ∧ S j = true) D (bof S D n) := by
  intro n
  induction n with
  | zero => intro _; exact Bst.none fun j h => by omega
  | succ n ih =>
    intro hv
    have h := ih fun j hj => hv j (by omega)
    unfold bof
    cases c : S n with
    | false =>
      refine h.congr (fun j => ⟨fun hj => ⟨by omega, hj.2⟩, fun hj => ⟨?_, hj.2⟩⟩) fun _ _ => rfl
      rcases Nat.lt_or_ge j n with hlt | hge
      · exact hlt
      · have e : j = n := by omega
        subst e
        rw [c] at hj; cases hj.2
    | true =>
      refine (h.ins n fun j hj => ?_).congr (fun j => ?_) fun _ _ => rfl
      · rcases hj with hj | rfl
        · exact hv j (by omega) hj.2
        · exact hv _ (by omega) c
      · constructor
        · rintro (hj | rfl)
          · exact ⟨by omega, hj.2⟩
          · exact ⟨by omega, c⟩
        · rintro ⟨hj, hs⟩
          rcases Nat.lt_or_ge j n with hlt | hge
          · exact .inl ⟨hlt, hs⟩
          · exact .inr (by omega)
theorem awake_ok : law37_awake.F ((), ()) = some ((true, ()), ()) := by
  have hl : Sv [0, 1, 0, 1, 5] := by
    intro v hv
    simp only [List.mem_cons, List.not_mem_nil, or_false] at hv
    omega
  have hm : Mv 1 0 0 := ⟨by omega, by omega, by omega⟩
  obtain ⟨r, e, A, Lf, Rt, rfl, hp⟩ := prof_ok (z := 2) (m := 2) hm hl (by omega) (by decide) (by omega)
  have hc : cnt [0, 1, 0, 1, 5] 2 = 4 := by decide
  have hv := pvalid_ok hm hl (by omega) (by rw [hc]; omega) (by omega) hp
  have a0 : A.getD 0 (0, 0, 0) = (2, 0, 1) := by
    have h := hp.whole hm hl (by omega) (a := 0) (by rw [hc]; omega)
    have hb := bof_ok (fun x => okw [0, 1, 0, 1, 5] 2 0 && (okw [0, 1, 0, 1, 5] 2 x && decide (2 ≤ x))) (Dd 1 0 0 [0, 1, 0, 1, 5] 2 0) 4 fun j hj hs => by
      simp only [Bool.and_eq_true] at hs
      exact Dd_vr hm hl (by omega) (by rw [hc]; omega) (by rw [hc]; omega) hs.1 hs.2.1
    have := h.unique hb (fun x => ?_) (fun _ _ => rfl) (SLR_vr hm hl (by omega) (by rw [hc]; omega))
    · rw [this]; rfl
    · simp only [SL, SR, hc, Bool.and_eq_true, decide_eq_true_eq]
      constructor
      · rintro (⟨h1, h2, h3⟩ | ⟨h0, h1, h2, h3⟩)
        · omega
        · exact ⟨h0, h2, h1, by omega⟩
      · rintro ⟨h0, h1, h2, h3⟩
        exact .inr ⟨h0, h2, h1, by omega⟩
  have l0 : (Lf.getD 0 (0, 0, 0)).1 = -1 := by
    rcases hp.left 0 (by rw [hc]; omega) with ⟨e, _⟩ | ⟨j, hj, _⟩
    · rw [e]
    · have := hj.2.2; omega
  rw [law37_awake.F_eq, law37_awake.f, show profile_Of.F (([(0:Int), (1:Int), (0:Int), (1:Int), (5:Int)], (((1:Int), ((0:Int), ((0:Int), ()))), ((2:Int), ((2:Int), ())))), ()) = _ from e]
  simp only [Option.bind_some]
  rw [show law37_awake.L0 _ = _ from law37_awake.L0_eq .., law37_awake.f0, hp.lA, hp.lL, hc, bt rfl, show (((4 : Nat) : Int) == (4 : Int)) = true from rfl, dt (by omega : (0 : Int) < ((4 : Nat) : Int)), show Int.toNat 0 = 0 from rfl, a0, l0]
  simp only [cond_true]
  rw [show profile_Valid.F ((((1 : Int), ((0 : Int), ((0 : Int), (((2 : Nat) : Int), (((2 : Nat) : Int), (A, (Lf, (Rt, ())))))))), ()), ()) = _ from hv]
  rfl
end Go.Proofs.Ytefcciajemkicaa.V
