/- The reference's profile. -/
import Derived.Test.YtefcciajemkicaaVg5
import Derived.Test.YtefcciajemkicaaVBase
import Derived.Test.YtefcciajemkicaaVEuc
import Derived.Test.YtefcciajemkicaaVGcd
import Derived.Test.YtefcciajemkicaaVMv
import Derived.Test.YtefcciajemkicaaVMD
import Derived.Test.YtefcciajemkicaaVSym
import Derived.Test.YtefcciajemkicaaVCmp
import Derived.Test.YtefcciajemkicaaVBst
import Derived.Test.YtefcciajemkicaaVDeck
import Derived.Test.YtefcciajemkicaaVWins
import Derived.Test.YtefcciajemkicaaVProf
import Derived.Test.YtefcciajemkicaaVProf2
import Derived.Test.YtefcciajemkicaaVRe
import Derived.Test.YtefcciajemkicaaVPv
set_option linter.unusedVariables false
set_option linter.unusedSimpArgs false
namespace Go.Proofs.Ytefcciajemkicaa.V
open Go.VI
theorem rsample (v : Int) : ref23_Sample.F ((v, ()), ()) = some ((decide (-1000 ≤ v ∧ v ≤ 1000), ()), ()) := by
  rw [ref23_Sample.F_eq, ref23_Sample.f]
  by_cases c : v ≥ -1000
  · rw [dt c, decide_eq_decide.2 (show v ≤ 1000 ↔ (-1000 ≤ v ∧ v ≤ 1000) by omega)]; rfl
  · rw [df c, df (by omega : ¬ (-1000 ≤ v ∧ v ≤ 1000))]; rfl
section
variable {l : List Int}
theorem rw_samples (hl : Sv l) (h : l.length ≤ 2000) (m : Int) : ∀ q i : Nat, i + q = l.length → ref37_Windows.L0 ((l, m, (i : Int), ()), ()) = some (Sum.inl ((l, m, ()), ())) := by
  intro q
  induction q with
  | zero =>
    intro i hi
    rw [show ref37_Windows.L0 _ = _ from ref37_Windows.L0_eq .., ref37_Windows.f0, df (by omega)]; rfl
  | succ q ih =>
    intro i hi
    have hv := hl _ (getD_mem (l := l) (i := i) (d := 0) (by omega))
    have nx : ref37_Windows.L0 ((l, m, Go.IntKind.wrap .i64 ((i : Int) + 1), ()), ()) = some (Sum.inl ((l, m, ()), ())) := by
      rw [w64 (n := (i : Int) + 1) (by omega), show (i : Int) + 1 = ((i + 1 : Nat) : Int) by omega]
      exact ih (i + 1) (by omega)
    rw [show ref37_Windows.L0 _ = _ from ref37_Windows.L0_eq .., ref37_Windows.f0, dt (by omega : (i : Int) < (l.length : Int)), dt (by omega : (0 : Int) ≤ (i : Int)), Int.toNat_natCast]
    simp only [cond_true]
    by_cases c : l.getD i 0 = 1073741824
    · rw [nt c]
      simp only [cond_false]
      rw [nx]; rfl
    · rw [nf c, rsample, dt (by omega : -1000 ≤ l.getD i 0 ∧ l.getD i 0 ≤ 1000)]
      simp only [cond_true, Option.bind_some, Bool.not_true, cond_false]
      rw [nx]; rfl
def wh (l : List Int) (i k : Nat) : Bool := decide (∀ c, c < k → l.getD (i + c) 0 ≠ 1073741824)
theorem wh_succ (i k : Nat) : wh l i (k + 1) = (wh l i k && (l.getD (i + k) 0 != 1073741824)) := by
  rw [Bool.eq_iff_iff]
  unfold wh
  simp only [Bool.and_eq_true, decide_eq_true_eq, bne_iff_ne]
  constructor
  · intro h; exact ⟨fun c hc => h c (by omega), h k (by omega)⟩
  · rintro ⟨h, h2⟩ c hc
    rcases Nat.lt_or_ge c k with hlt | hge
    · exact h c hlt
    · obtain rfl : c = k := by omega
      exact h2
theorem wh_okw {i m : Nat} (h : i + m ≤ l.length) : wh l i m = okw l m i := by
  rw [Bool.eq_iff_iff]
  unfold wh okw
  simp only [decide_eq_true_eq, Bool.not_eq_true', decide_eq_false_iff_not]
  have hlen : ((l.take (i + m)).drop i).length = m := by rw [List.length_drop, List.length_take]; omega
  constructor
  · intro hc hm
    obtain ⟨c, hc1, hc2⟩ := List.getElem_of_mem hm
    unfold wn at hc1 hc2
    refine hc c (by omega) ?_
    rw [← getD_cut (l := l) (a := i) (b := i + m) (n := c) (d := 0) (by omega), List.getD_eq_getElem?_getD, List.getElem?_eq_getElem hc1, hc2]; rfl
  · intro hm c hc e
    apply hm
    rw [← getD_cut (l := l) (a := i) (b := i + m) (n := c) (d := 0) (by omega)] at e
    have := getD_mem (l := (l.take (i + m)).drop i) (i := c) (d := 0) (by omega)
    rw [e] at this
    exact this
theorem rw_whole {i m : Nat} (hl : l.length ≤ 2000) (h : i + m ≤ l.length) (o : List Bool) : ∀ q k : Nat, k + q = m → ref37_Windows.L3 ((l, (m : Int), (), (i : Int), wh l i k, (k : Int), ()), (o, ())) = some (Sum.inl ((l, (m : Int), (), (i : Int), okw l m i, ()), (o, ()))) := by
  intro q
  induction q with
  | zero =>
    intro k hk
    obtain rfl : k = m := by omega
    rw [show ref37_Windows.L3 _ = _ from ref37_Windows.L3_eq .., ref37_Windows.f3, df (by omega), wh_okw h]; rfl
  | succ q ih =>
    intro k hk
    have nx := ih (k + 1) (by omega)
    rw [wh_succ] at nx
    rw [show ref37_Windows.L3 _ = _ from ref37_Windows.L3_eq .., ref37_Windows.f3, dt (by omega : (k : Int) < (m : Int)), w64 (n := (i : Int) + k) (by omega), w64 (n := (k : Int) + 1) (by omega), dt (by omega : (0 : Int) ≤ (i : Int) + k), dt (by omega : (i : Int) + k < (l.length : Int)), show ((i : Int) + k).toNat = i + k by omega, show (k : Int) + 1 = ((k + 1 : Nat) : Int) by omega]
    cases e : wh l i k with
    | false =>
      rw [e] at nx
      simp only [cond_true, cond_false]
      rw [show ref37_Windows.L3 ((l, (m : Int), (), (i : Int), false, ((k + 1 : Nat) : Int), ()), (o, ())) = _ from nx]; rfl
    | true =>
      rw [e, Bool.true_and] at nx
      simp only [cond_true]
      rw [show ref37_Windows.L3 ((l, (m : Int), (), (i : Int), l.getD (i + k) 0 != 1073741824, ((k + 1 : Nat) : Int), ()), (o, ())) = _ from nx]; rfl
theorem rw_loop (hl : l.length ≤ 2000) {m : Nat} (hm : 2 ≤ m ∧ m ≤ 32) : ∀ q i : Nat, i + q = cnt l m → ref37_Windows.L2 ((l, (m : Int), (), (i : Int), ()), ((List.range i).map (okw l m), ())) = some (Sum.inl (((), ()), (ws l m, ()))) := by
  intro q
  have lc : cnt l m = l.length + 1 - m := rfl
  induction q with
  | zero =>
    intro i hi
    rw [show ref37_Windows.L2 _ = _ from ref37_Windows.L2_eq .., ref37_Windows.f2, w64 (by omega), df (by omega), show i = cnt l m by omega]; rfl
  | succ q ih =>
    intro i hi
    have hw := rw_whole (l := l) (i := i) (m := m) hl (by omega) ((List.range i).map (okw l m)) m 0 (by omega)
    have h0 : wh l i 0 = true := dt (fun c hc => absurd hc (by omega))
    rw [h0] at hw
    have nx := ih (i + 1) (by omega)
    rw [List.range_succ, List.map_append] at nx
    rw [show ref37_Windows.L2 _ = _ from ref37_Windows.L2_eq .., ref37_Windows.f2, w64 (n := (i : Int) + m) (by omega), dt (by omega : (i : Int) + m ≤ (l.length : Int)), show ref37_Windows.L3 ((l, (m : Int), (), (i : Int), true, (0 : Int), ()), ((List.range i).map (okw l m), ())) = _ from hw]
    simp only [cond_true, Option.bind_some, Sum.elim_inl]
    rw [dt (by rw [List.length_map, List.length_range, List.length_singleton]; omega), w64 (n := (i : Int) + 1) (by omega), show (i : Int) + 1 = ((i + 1 : Nat) : Int) by omega]
    simp only [cond_true]
    rw [show ref37_Windows.L2 ((l, (m : Int), (), ((i + 1 : Nat) : Int), ()), ((List.range i).map (okw l m) ++ [okw l m i], ())) = _ from nx]
    rfl
theorem rwindows_ok (hv : Sv l) (hl : l.length ≤ 2000) {m : Nat} (hm : 2 ≤ m ∧ m ≤ 32) : ref37_Windows.F ((l, (m : Int), ()), ()) = some (((), 0, ()), (ws l m, ())) := by
  rw [ref37_Windows.F_eq, ref37_Windows.f, df (by omega : ¬ (l.length : Int) > 2000), show ref37_Windows.L0 ((l, (m : Int), (0 : Int), ()), ()) = _ from rw_samples hv hl m l.length 0 (by omega)]
  simp only [cond_false, Option.bind_some, Sum.elim_inl]
  rw [show ref37_Windows.L1 _ = _ from ref37_Windows.L1_eq .., ref37_Windows.f1, df (by omega : ¬ (m : Int) < 2), df (by omega : ¬ (m : Int) > 32)]
  simp only [cond_false, Option.bind_some, Sum.elim_inl]
  by_cases c : m ≤ l.length + 1
  · rw [show ref37_Windows.L2 ((l, (m : Int), (), (0 : Int), ()), (([] : List Bool), ())) = _ from rw_loop hl hm (cnt l m) 0 (by omega)]
    rfl
  · have e : cnt l m = 0 := by unfold cnt; omega
    rw [show ref37_Windows.L2 ((l, (m : Int), (), (0 : Int), ()), (([] : List Bool), ())) = _ from rw_loop hl hm (cnt l m) 0 (by omega)]
    rfl
end
/-! ### the profile -/
def SA (l : List Int) (m z a x : Nat) : Prop := SL l m z a x ∨ SR l m z a x
instance (l : List Int) (m z a x : Nat) : Decidable (SA l m z a x) := by unfold SA SR SL; infer_instance
section
variable {k b g : Int} {l : List Int} {m z : Nat}
@[reducible] def Q1 (k b g : Int) (l : List Int) (m z : Nat) (i : Int) (A Lf Rt : List Nb) : ref37_Of.s1.X := ((l, (m : Int), (z : Int), (), (), (), (), i, ()), ((k, b, g, ()), ((0 : Int), (0 : Int), (0 : Int), (0 : Int), (0 : Int), (), (), (), ()), ws l m, (k, b, g, (m : Int), (z : Int), (), (), (), ()), A, Lf, Rt, ()))
@[reducible] def Q2 (k b g : Int) (l : List Int) (m z : Nat) (i j : Int) (u v : Nb) (A Lf Rt : List Nb) : ref37_Of.s2.X := ((l, (m : Int), (z : Int), (), (), (), (), i, (), (), j, ()), ((k, b, g, ()), ((0 : Int), (0 : Int), (0 : Int), (0 : Int), (0 : Int), (), (), (), ()), ws l m, (k, b, g, (m : Int), (z : Int), (), (), (), ()), (u.1, u.2.1, u.2.2, ()), (v.1, v.2.1, v.2.2, ()), A, Lf, Rt, ()))
theorem SA_lt {a x : Nat} (ha : a < cnt l m) (h : SA l m z a x) : x < cnt l m := by
  rcases h with h | h
  · have := h.2.2; omega
  · exact h.1
theorem rof_skip (hc : cnt l m ≤ 2001) (hz : 1 ≤ z ∧ z ≤ 64) {i j : Nat} (hi : i < cnt l m) (hj : j < cnt l m) (u v : Nb) (A Lf Rt : List Nb) : ref37_Of.L4 (Q2 k b g l m z i j u v A Lf Rt) =
    some (Sum.inl ((l, (m : Int), (z : Int), (), (), (), (), (i : Int), (), (), (j : Int), !decide (SA l m z i j), ()), (Q2 k b g l m z i j u v A Lf Rt).2)) := by
  rw [show ref37_Of.L4 _ = _ from ref37_Of.L4_eq .., ref37_Of.f4, ws_len, dt (by omega : (0 : Int) ≤ (i : Int)), dt (by omega : (i : Int) < ((cnt l m : Nat) : Int)), Int.toNat_natCast, ws_get _ _ hi]
  simp only [cond_true]
  cases wi : okw l m i with
  | false =>
    have : ¬ SA l m z i j := by
      rintro (h | h)
      · rw [h.1] at wi; cases wi
      · rw [h.2.2.1] at wi; cases wi
    rw [df this]; rfl
  | true =>
    rw [dt (by omega : (0 : Int) ≤ (j : Int)), dt (by omega : (j : Int) < ((cnt l m : Nat) : Int)), Int.toNat_natCast, ws_get _ _ hj]
    simp only [cond_true, Bool.not_true, cond_false]
    cases wj : okw l m j with
    | false =>
      have : ¬ SA l m z i j := by
        rintro (h | h)
        · rw [h.2.1] at wj; cases wj
        · rw [h.2.1] at wj; cases wj
      rw [df this]; rfl
    | true =>
      rw [w64 (n := (i : Int) - z) (by omega), w64 (n := (i : Int) + z) (by omega)]
      simp only [Bool.not_true, cond_false]
      by_cases c : (j : Int) > (i : Int) - z
      · rw [dt c]
        by_cases c2 : (j : Int) < (i : Int) + z
        · have : ¬ SA l m z i j := by
            rintro (h | h)
            · have := h.2.2; omega
            · have := h.2.2.2; omega
          rw [dt c2, df this]; rfl
        · have : SA l m z i j := .inr ⟨hj, wj, wi, by omega⟩
          rw [df c2, dt this]; rfl
      · have : SA l m z i j := .inl ⟨wi, wj, by omega⟩
        rw [df c, dt this]; rfl
theorem rof_round (hm : Mv k b g) (hl : Sv l) (hM : 2 ≤ m ∧ m ≤ 32) (hc : cnt l m ≤ 2001) (hz : 1 ≤ z ∧ z ≤ 64) {i j : Nat} (hi : i < cnt l m) (hj : j < cnt l m) (u v : Nb) (A Lf Rt : List Nb)
    (hu : Bst (fun x => SL l m z i x ∧ x < j) (Dd k b g l m i) u) (hv : Bst (fun x => SR l m z i x ∧ x < j) (Dd k b g l m i) v) :
    Ok (ref37_Of.L3 (Q2 k b g l m z i j u v A Lf Rt)) (fun r => ∃ u' v', r = Sum.inl (Q2 k b g l m z i j u' v' A Lf Rt) ∧ Bst (fun x => SL l m z i x ∧ x < j + 1) (Dd k b g l m i) u' ∧ Bst (fun x => SR l m z i x ∧ x < j + 1) (Dd k b g l m i) v') := by
  have lc : cnt l m = l.length + 1 - m := rfl
  have vd := SLR_vr (z := z) (k := k) (b := b) (g := g) hm hl hM hi
  have same : ∀ {S : Nat → Prop} {r : Nb}, ¬ S j → Bst (fun x => S x ∧ x < j) (Dd k b g l m i) r → Bst (fun x => S x ∧ x < j + 1) (Dd k b g l m i) r := fun {S r} hn h => h.congr (fun x => ⟨fun h => ⟨h.1, by omega⟩, fun h => ⟨h.1, by
    rcases Nat.lt_or_ge x j with h1 | h1
    · exact h1
    · obtain rfl : x = j := by omega
      exact absurd h.1 hn⟩⟩) fun _ _ => rfl
  have add : ∀ {S : Nat → Prop} {r : Nb}, S j → (∀ x, S x → VR (Dd k b g l m i x).1 (Dd k b g l m i x).2) → Bst (fun x => S x ∧ x < j) (Dd k b g l m i) r → Bst (fun x => S x ∧ x < j + 1) (Dd k b g l m i) (if nr ((j : Int), Dd k b g l m i j) r then ((j : Int), Dd k b g l m i j) else r) := fun {S r} hs hvr h => by
    have vr := h.vr fun x hx => hvr x hx.1
    rw [nr_eq (fun _ => hvr j hs) (fun _ => vr)]
    refine (h.ins j fun x hx => ?_).congr (fun x => ⟨?_, ?_⟩) fun _ _ => rfl
    · rcases hx with hx | rfl
      · exact hvr x hx.1
      · exact hvr x hs
    · rintro (hx | rfl)
      · exact ⟨hx.1, by omega⟩
      · exact ⟨hs, by omega⟩
    · rintro ⟨hx, h2⟩
      rcases Nat.lt_or_ge x j with h1 | h1
      · exact .inl ⟨hx, h1⟩
      · exact .inr (by omega)
  rw [show ref37_Of.L3 _ = _ from ref37_Of.L3_eq .., ref37_Of.f3, show ref37_Of.L4 _ = _ from rof_skip hc hz hi hj u v A Lf Rt]
  simp only [Option.bind_some, Sum.elim_inl]
  by_cases c : SA l m z i j
  · rw [dt c]
    simp only [Bool.not_true, cond_false]
    have ok : okw l m i = true ∧ okw l m j = true := by
      rcases c with h | h
      · exact ⟨h.1, h.2.1⟩
      · exact ⟨h.2.2.1, h.2.1⟩
    have hd := rdist_ok hm (Fit_win hm hl hM hi hj ok.1 ok.2)
    rw [← Dd_symm hm hl hM hi hj ok.1 ok.2] at hd
    rw [w64 (n := (i : Int) + m) (by omega), w64 (n := (j : Int) + m) (by omega), dt (by omega : (0 : Int) ≤ (i : Int)), dt (by omega : (i : Int) ≤ (i : Int) + m), dt (by omega : (i : Int) + m ≤ (l.length : Int)), dt (by omega : (0 : Int) ≤ (j : Int)), dt (by omega : (j : Int) ≤ (j : Int) + m), dt (by omega : (j : Int) + m ≤ (l.length : Int)),
      Int.toNat_natCast, Int.toNat_natCast, show ((i : Int) + m).toNat = i + m by omega, show ((j : Int) + m).toNat = j + m by omega]
    simp only [cond_true]
    rw [show ref17_Distance.F (((k, (b, (g, ()))), (List.drop i (List.take (i + m) l), (List.drop j (List.take (j + m) l), ()))), ()) = _ from hd]
    simp only [Option.bind_some]
    rw [show ref37_Of.L5 _ = _ from ref37_Of.L5_eq .., ref37_Of.f5]
    by_cases c1 : j < i
    · have hSL : SL l m z i j := by
        rcases c with h | h
        · exact h
        · have := h.2.2.2; omega
      have a1 := add (S := SL l m z i) hSL (fun x hx => vd x (.inl hx)) hu
      have a2 := same (S := SR l m z i) (fun h => by have := h.2.2.2; omega) hv
      rw [dt (by omega : (j : Int) < (i : Int)), show ref37_Nearer.F ((((j : Int), (Dd k b g l m i j).1, (Dd k b g l m i j).2, ()), (u.1, u.2.1, u.2.2, ()), ()), ()) = _ from rnear ((j : Int), Dd k b g l m i j) u]
      simp only [cond_true, Option.bind_some, Sum.elim_inl]
      rw [df (by omega : ¬ (j : Int) > (i : Int))]
      cases e : nr ((j : Int), Dd k b g l m i j) u with
      | true => rw [e, if_pos rfl] at a1; exact .some ⟨_, v, rfl, a1, a2⟩
      | false => rw [e, if_neg (by simp)] at a1; exact .some ⟨u, v, rfl, a1, a2⟩
    · have hSR : SR l m z i j := by
        rcases c with h | h
        · have := h.2.2; omega
        · exact h
      have hji : i < j := by have := hSR.2.2.2; omega
      have a2 := add (S := SR l m z i) hSR (fun x hx => vd x (.inr hx)) hv
      have a1 := same (S := SL l m z i) (fun h => by have := h.2.2; omega) hu
      rw [df (by omega : ¬ (j : Int) < (i : Int))]
      simp only [cond_false, Option.bind_some, Sum.elim_inl]
      rw [dt (by omega : (j : Int) > (i : Int)), show ref37_Nearer.F ((((j : Int), (Dd k b g l m i j).1, (Dd k b g l m i j).2, ()), (v.1, v.2.1, v.2.2, ()), ()), ()) = _ from rnear ((j : Int), Dd k b g l m i j) v]
      simp only [cond_true, Option.bind_some]
      cases e : nr ((j : Int), Dd k b g l m i j) v with
      | true => rw [e, if_pos rfl] at a2; exact .some ⟨u, _, rfl, a1, a2⟩
      | false => rw [e, if_neg (by simp)] at a2; exact .some ⟨u, v, rfl, a1, a2⟩
  · rw [df c]
    exact .some ⟨u, v, rfl, same (fun h => c (.inl h)) hu, same (fun h => c (.inr h)) hv⟩
theorem rof_inner (hm : Mv k b g) (hl : Sv l) (hM : 2 ≤ m ∧ m ≤ 32) (hc : cnt l m ≤ 2001) (hz : 1 ≤ z ∧ z ≤ 64) {i : Nat} (hi : i < cnt l m) (A Lf Rt : List Nb) : ∀ (q j : Nat) (u v : Nb), j + q = cnt l m →
    Bst (fun x => SL l m z i x ∧ x < j) (Dd k b g l m i) u → Bst (fun x => SR l m z i x ∧ x < j) (Dd k b g l m i) v →
    Ok (ref37_Of.L2 (Q2 k b g l m z i j u v A Lf Rt)) (fun r => ∃ u' v', r = Sum.inl ((l, (m : Int), (z : Int), (), (), (), (), (i : Int), (), (), ()), (Q2 k b g l m z i j u' v' A Lf Rt).2) ∧ Bst (SL l m z i) (Dd k b g l m i) u' ∧ Bst (SR l m z i) (Dd k b g l m i) v') := by
  intro q
  induction q with
  | zero =>
    intro j u v h hu hv
    rw [show ref37_Of.L2 _ = _ from ref37_Of.L2_eq .., ref37_Of.f2, ws_len, df (by omega)]
    exact .some ⟨u, v, rfl, hu.congr (fun x => ⟨fun h => h.1, fun h => ⟨h, by have := h.2.2; omega⟩⟩) fun _ _ => rfl, hv.congr (fun x => ⟨fun h => h.1, fun h => ⟨h, by have := h.1; omega⟩⟩) fun _ _ => rfl⟩
  | succ q ih =>
    intro j u v h hu hv
    rw [show ref37_Of.L2 _ = _ from ref37_Of.L2_eq .., ref37_Of.f2, ws_len, dt (by omega)]
    simp only [cond_true]
    refine .bind (rof_round hm hl hM hc hz hi (by omega) u v A Lf Rt hu hv) ?_
    rintro _ ⟨u', v', rfl, hu', hv'⟩
    simp only [Sum.elim_inl]
    rw [w64 (n := (j : Int) + 1) (by omega), show (j : Int) + 1 = ((j + 1 : Nat) : Int) by omega]
    exact .bind (ih (j + 1) u' v' (by omega) hu' hv') fun r hr => .some hr
structure PfI (k b g : Int) (l : List Int) (m z i : Nat) (A Lf Rt : List Nb) : Prop where
  lA : A.length = i
  lL : Lf.length = i
  lR : Rt.length = i
  left : ∀ a, a < i → Bst (SL l m z a) (Dd k b g l m a) (Lf.getD a (0, 0, 0))
  right : ∀ a, a < i → Bst (SR l m z a) (Dd k b g l m a) (Rt.getD a (0, 0, 0))
  all : ∀ a, a < i → A.getD a (0, 0, 0) = ins (Rt.getD a (0, 0, 0)) (Lf.getD a (0, 0, 0))
theorem getD_snoc {α : Type} (l : List α) (x d : α) (a : Nat) (h : a < l.length + 1) : (l ++ [x]).getD a d = if a = l.length then x else l.getD a d := by
  by_cases c : a = l.length
  · rw [if_pos c, getD_append_eq c]; rfl
  · rw [if_neg c, getD_append_lt (by omega)]
theorem PfI.push {i : Nat} {A Lf Rt : List Nb} (h : PfI k b g l m z i A Lf Rt) {u v : Nb} (hu : Bst (SL l m z i) (Dd k b g l m i) u) (hv : Bst (SR l m z i) (Dd k b g l m i) v) : PfI k b g l m z (i + 1) (A ++ [ins v u]) (Lf ++ [u]) (Rt ++ [v]) := by
  have lA := h.lA
  have lL := h.lL
  have lR := h.lR
  refine ⟨by simp [lA], by simp [lL], by simp [lR], fun a ha => ?_, fun a ha => ?_, fun a ha => ?_⟩
  · rw [getD_snoc _ _ _ _ (by omega)]
    by_cases c : a = Lf.length
    · rw [if_pos c, show a = i by omega]; exact hu
    · rw [if_neg c]; exact h.left a (by omega)
  · rw [getD_snoc _ _ _ _ (by omega)]
    by_cases c : a = Rt.length
    · rw [if_pos c, show a = i by omega]; exact hv
    · rw [if_neg c]; exact h.right a (by omega)
  · rw [getD_snoc _ _ _ _ (by omega), getD_snoc _ _ _ _ (by omega), getD_snoc _ _ _ _ (by omega)]
    by_cases c : a = i
    · rw [if_pos (by omega), if_pos (by omega), if_pos (by omega)]
    · rw [if_neg (by omega), if_neg (by omega), if_neg (by omega)]; exact h.all a (by omega)
theorem rnone_ok : ref37_none.F ((), ()) = some (((-1, 0, 1, ()), ()), ()) := by rw [ref37_none.F_eq, ref37_none.f]
theorem rof_outer (hm : Mv k b g) (hl : Sv l) (hM : 2 ≤ m ∧ m ≤ 32) (hc : cnt l m ≤ 2001) (hz : 1 ≤ z ∧ z ≤ 64) : ∀ (q i : Nat) (A Lf Rt : List Nb), i + q = cnt l m → PfI k b g l m z i A Lf Rt →
    Ok (ref37_Of.L1 (Q1 k b g l m z i A Lf Rt)) (fun r => ∃ A' Lf' Rt', r = Sum.inl (((), (), ()), (((0 : Int), (0 : Int), (0 : Int), (0 : Int), (0 : Int), (), (), (), ()), (k, b, g, (m : Int), (z : Int), (), (), (), ()), A', Lf', Rt', ())) ∧ Pf k b g l m z A' Lf' Rt') := by
  intro q
  induction q with
  | zero =>
    intro i A Lf Rt h hp
    obtain rfl : i = cnt l m := by omega
    rw [show ref37_Of.L1 _ = _ from ref37_Of.L1_eq .., ref37_Of.f1, ws_len, df (by omega)]
    exact .some ⟨A, Lf, Rt, rfl, hp.lA, hp.lL, hp.lR, hp.left, hp.right, hp.all⟩
  | succ q ih =>
    intro i A Lf Rt h hp
    have hi : i < cnt l m := by omega
    rw [show ref37_Of.L1 _ = _ from ref37_Of.L1_eq .., ref37_Of.f1, ws_len, dt (by omega), rnone_ok]
    simp only [cond_true, Option.bind_some]
    refine .bind (rof_inner hm hl hM hc hz hi A Lf Rt (cnt l m) 0 (-1, 0, 1) (-1, 0, 1) (by omega) (Bst.none fun j h => by omega) (Bst.none fun j h => by omega)) ?_
    rintro _ ⟨u, v, rfl, hu, hv⟩
    have lA := hp.lA
    have lL := hp.lL
    have lR := hp.lR
    have vu := hu.vr fun x hx => SLR_vr (z := z) hm hl hM hi x (.inl hx)
    have vv := hv.vr fun x hx => SLR_vr (z := z) hm hl hM hi x (.inr hx)
    have nx := ih (i + 1) _ _ _ (by omega) (hp.push hu hv)
    simp only [Sum.elim_inl, List.length_singleton]
    rw [show ref37_Nearer.F (((v.1, v.2.1, v.2.2, ()), (u.1, u.2.1, u.2.2, ()), ()), ()) = _ from rnear v u, w64 (n := (i : Int) + 1) (by omega), show (i : Int) + 1 = ((i + 1 : Nat) : Int) by omega,
      dt (by omega : (A.length + 1) * 24 ≤ 140737488355328), dt (by omega : (Lf.length + 1) * 24 ≤ 140737488355328), dt (by omega : (Rt.length + 1) * 24 ≤ 140737488355328)]
    simp only [Option.bind_some, cond_true]
    unfold ins at nx
    rw [← nr_eq (fun _ => vv) (fun _ => vu)] at nx
    cases e : nr v u with
    | true => rw [e, if_pos rfl] at nx; exact .bind nx fun r hr => .some hr
    | false => rw [e, if_neg (by simp)] at nx; exact .bind nx fun r hr => .some hr
theorem rof_ok (hm : Mv k b g) (hl : Sv l) (hM : 2 ≤ m ∧ m ≤ 32) (hlen : l.length ≤ 2000) (hz : 1 ≤ z ∧ z ≤ 64) : Ok (ref37_Of.F ((l, (k, b, g, ()), (m : Int), (z : Int), ()), ())) (fun r => ∃ A Lf Rt, r = (((k, b, g, (m : Int), (z : Int), (), (), (), ()), 0, ()), (A, Lf, Rt, ())) ∧ Pf k b g l m z A Lf Rt) := by
  have hc : cnt l m ≤ 2001 := by unfold cnt; omega
  rw [ref37_Of.F_eq, ref37_Of.f, rcheck_ok hm]
  simp only [Option.bind_some]
  rw [nt rfl, rwindows_ok hl hlen hM]
  simp only [cond_false, Option.bind_some]
  rw [nt rfl, show ref37_Of.L0 _ = _ from ref37_Of.L0_eq .., ref37_Of.f0, df (by omega : ¬ (z : Int) < 1), df (by omega : ¬ (z : Int) > 64)]
  simp only [cond_false, Option.bind_some, Sum.elim_inl]
  refine .bind (rof_outer hm hl hM hc hz (cnt l m) 0 [] [] [] (by omega) ⟨rfl, rfl, rfl, fun a h => by omega, fun a h => by omega, fun a h => by omega⟩) ?_
  rintro _ ⟨A, Lf, Rt, rfl, hp⟩
  exact .some ⟨A, Lf, Rt, rfl, hp⟩
theorem Pf.unique (hm : Mv k b g) (hl : Sv l) (hM : 2 ≤ m ∧ m ≤ 32) {A Lf Rt A' Lf' Rt' : List Nb} (h : Pf k b g l m z A Lf Rt) (h' : Pf k b g l m z A' Lf' Rt') : A = A' ∧ Lf = Lf' ∧ Rt = Rt' := by
  have e1 : ∀ a, a < cnt l m → Lf.getD a (0, 0, 0) = Lf'.getD a (0, 0, 0) := fun a ha => (h.left a ha).unique (h'.left a ha) (fun _ => Iff.rfl) (fun _ _ => rfl) fun x hx => SLR_vr (z := z) hm hl hM ha x (.inl hx)
  have e2 : ∀ a, a < cnt l m → Rt.getD a (0, 0, 0) = Rt'.getD a (0, 0, 0) := fun a ha => (h.right a ha).unique (h'.right a ha) (fun _ => Iff.rfl) (fun _ _ => rfl) fun x hx => SLR_vr (z := z) hm hl hM ha x (.inr hx)
  refine ⟨list_ext_getD (0, 0, 0) (by rw [h.lA, h'.lA]) fun a ha => ?_, list_ext_getD (0, 0, 0) (by rw [h.lL, h'.lL]) fun a ha => e1 a (by rw [← h.lL]; exact ha), list_ext_getD (0, 0, 0) (by rw [h.lR, h'.lR]) fun a ha => e2 a (by rw [← h.lR]; exact ha)⟩
  have ha : a < cnt l m := by rw [← h.lA]; exact ha
  rw [h.all a ha, h'.all a ha, e1 a ha, e2 a ha]
end
end Go.Proofs.Ytefcciajemkicaa.V
