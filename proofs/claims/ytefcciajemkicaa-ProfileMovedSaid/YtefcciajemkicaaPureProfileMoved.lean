/- The law ProfileMoved, as plain mathematics. -/
import Derived.Test.YtefcciajemkicaaVg6
import Derived.Test.YtefcciajemkicaaVBase
import Derived.Test.YtefcciajemkicaaVEuc
import Derived.Test.YtefcciajemkicaaVGcd
import Derived.Test.YtefcciajemkicaaVWarp
import Derived.Test.YtefcciajemkicaaVWarp2
import Derived.Test.YtefcciajemkicaaVGap
import Derived.Test.YtefcciajemkicaaVMv
import Derived.Test.YtefcciajemkicaaVMD
import Derived.Test.YtefcciajemkicaaVSym
import Derived.Test.YtefcciajemkicaaVCmp
import Derived.Test.YtefcciajemkicaaVBst
import Derived.Test.YtefcciajemkicaaVDeck
import Derived.Test.YtefcciajemkicaaVWins
import Derived.Test.YtefcciajemkicaaVProf
import Derived.Test.YtefcciajemkicaaVProf2
set_option linter.unusedVariables false
set_option linter.unusedSimpArgs false
namespace Go.Proofs.Ytefcciajemkicaa.V
open Go.VI
/-! ### what adding a number does -/
theorem sq_move (t : Int) (x y : List Int) : sq (x.map (· + t)) (y.map (· + t)) = sq x y := by
  induction x generalizing y with
  | nil => rfl
  | cons a x ih => cases y with | nil => rfl | cons c y => simp only [List.map_cons, sq]; rw [ih, show a + t - (c + t) = a - c by omega]
theorem dif_move (t : Int) (x y : List Int) : dif (x.map (· + t)) (y.map (· + t)) = dif x y := by
  induction x generalizing y with
  | nil => rfl
  | cons a x ih => cases y with | nil => rfl | cons c y => simp only [List.map_cons, dif]; rw [ih]; omega
theorem sm_move (t : Int) (x : List Int) : sm (x.map (· + t)) = sm x + (x.length : Int) * t := by
  induction x with
  | nil => simp [sm]
  | cons a x ih => simp only [List.map_cons, sm, List.length_cons]; rw [ih]; grind
theorem pr_move (t : Int) (x y : List Int) (h : y.length = x.length) : pr (x.map (· + t)) (y.map (· + t)) = pr x y + t * (sm x + sm y) + (x.length : Int) * (t * t) := by
  induction x generalizing y with
  | nil => cases y with | nil => simp [pr, sm] | cons => simp at h
  | cons a x ih =>
    cases y with
    | nil => simp at h
    | cons c y => simp only [List.map_cons, pr, sm, List.length_cons]; rw [ih y (by simpa using h)]; grind
theorem cv_move (t : Int) {x y : List Int} (h : y.length = x.length) : cv (x.map (· + t)) (y.map (· + t)) = cv x y := by
  unfold cv
  rw [pr_move t x y h, sm_move, sm_move, List.length_map, h]
  grind
theorem vr_move (t : Int) (x : List Int) : vr (x.map (· + t)) = vr x := cv_move t (x := x) (y := x) rfl
theorem Wp_congr {x y x' y' : List Int} {b : Int} {X Y : Nat} (h : ∀ i j, i < X → j < Y → cst x y i j = cst x' y' i j) : ∀ (n i j : Nat), i + j < n → i < X → j < Y → Wp x y b i j = Wp x' y' b i j := by
  intro n
  induction n with
  | zero => intro i j h; omega
  | succ n ih =>
    intro i j hs hi hj
    rw [Wp_eq, Wp_eq x' y', lst_congr (V := Wp x' y' b) fun a c h1 h2 h3 => ih a c (by omega) (by omega) (by omega), h i j hi hj]
theorem map_get {f : Int → Int} {x : List Int} {i : Nat} (h : i < x.length) : (x.map f).getD i 0 = f (x.getD i 0) := by
  rw [List.getD_eq_getElem?_getD, List.getD_eq_getElem?_getD, List.getElem?_map, List.getElem?_eq_getElem h]; rfl
theorem MD_move (t : Int) {k b g : Int} (hk : k ≠ 5) (hm : Mv k b g) {x y : List Int} (hx : 1 ≤ x.length) (h : y.length = x.length) : MD k b g (x.map (· + t)) (y.map (· + t)) = MD k b g x y := by
  have hg : Gp (x.map (· + t)) (y.map (· + t)) = Gp x y := by unfold Gp; rw [vr_move, vr_move, cv_move t h]
  have hw : Wp (x.map (· + t)) (y.map (· + t)) b (x.length - 1) (y.length - 1) = Wp x y b (x.length - 1) (y.length - 1) := by
    refine Wp_congr (X := x.length) (Y := y.length) (fun i j hi hj => ?_) _ _ _ (Nat.lt_succ_self _) (by omega) (by omega)
    unfold cst
    rw [map_get hi, map_get hj, show x.getD i 0 + t - (y.getD j 0 + t) = x.getD i 0 - y.getD j 0 by omega]
  unfold MD
  rw [sq_move, dif_move, List.length_map, List.length_map, hg, hw]
  by_cases k1 : k = 1
  · rw [if_pos k1, if_pos k1]
  rw [if_neg k1, if_neg k1]
  by_cases k2 : k = 2
  · rw [if_pos k2, if_pos k2]
  rw [if_neg k2, if_neg k2]
  by_cases k3 : k = 3
  · rw [if_pos k3, if_pos k3]
  rw [if_neg k3, if_neg k3]
  have k4 : k = 4 := by have := hm.1; omega
  rw [if_pos k4, if_pos k4]
/-! ### what multiplying does -/
theorem sm_mul (s : Int) (x : List Int) : sm (x.map (· * s)) = s * sm x := by
  induction x with
  | nil => simp [sm]
  | cons a x ih => simp only [List.map_cons, sm]; rw [ih]; grind
theorem pr_mul (s : Int) (x y : List Int) : pr (x.map (· * s)) (y.map (· * s)) = s * s * pr x y := by
  induction x generalizing y with
  | nil => simp [pr]
  | cons a x ih => cases y with | nil => simp [pr] | cons c y => simp only [List.map_cons, pr]; rw [ih]; grind
theorem cv_mul (s : Int) (x y : List Int) : cv (x.map (· * s)) (y.map (· * s)) = s * s * cv x y := by
  unfold cv
  rw [pr_mul, sm_mul, sm_mul, List.length_map]
  grind
theorem vr_mul (s : Int) (x : List Int) : vr (x.map (· * s)) = s * s * vr x := cv_mul s x x
theorem mkr_mul {t n d : Int} (ht : 0 < t) (hn : 0 ≤ n) (hd : 0 < d) : mkr (t * n) (t * d) = mkr n d := by
  obtain ⟨t, rfl⟩ : ∃ m : Nat, t = m := ⟨t.toNat, by omega⟩
  obtain ⟨n, rfl⟩ : ∃ m : Nat, n = m := ⟨n.toNat, by omega⟩
  obtain ⟨d, rfl⟩ : ∃ m : Nat, d = m := ⟨d.toNat, by omega⟩
  unfold mkr
  rw [← Int.natCast_mul, ← Int.natCast_mul]
  simp only [Int.toNat_natCast]
  rw [Nat.gcd_mul_left, Int.natCast_mul, Int.natCast_mul, Int.natCast_mul, Int.mul_ediv_mul_of_pos _ _ ht, Int.mul_ediv_mul_of_pos _ _ ht]
theorem Gp_mul {s : Int} (hs : 1 ≤ s) {x y : List Int} (h : y.length = x.length) : Gp (x.map (· * s)) (y.map (· * s)) = Gp x y := by
  have h2 : 0 < s * s := Int.mul_pos (by omega) (by omega)
  have h4 : 0 < s * s * (s * s) := Int.mul_pos h2 h2
  unfold Gp
  rw [vr_mul, vr_mul, cv_mul]
  have z : ∀ v : Int, s * s * v = 0 ↔ v = 0 := fun v => ⟨fun e => by
    rcases Int.mul_eq_zero.1 e with e | e
    · omega
    · exact e, fun e => by rw [e, Int.mul_zero]⟩
  simp only [z]
  by_cases c1 : vr x = 0 ∧ vr y = 0
  · rw [if_pos c1, if_pos c1]
  rw [if_neg c1, if_neg c1]
  by_cases c2 : vr x = 0 ∨ vr y = 0
  · rw [if_pos c2, if_pos c2]
  rw [if_neg c2, if_neg c2]
  have p1 := vr_nonneg x
  have p2 := vr_nonneg y
  have p3 : 0 < vr x * vr y := Int.mul_pos (by omega) (by omega)
  have p4 := cv_le h (fun e => c2 (.inr e))
  have p5 := sq_nonneg (cv x y)
  have e1 : s * s * vr x * (s * s * vr y) = s * s * (s * s) * (vr x * vr y) := by grind
  have e2 : s * s * cv x y * (s * s * cv x y) = s * s * (s * s) * (cv x y * cv x y) := by grind
  rw [e1, e2, ← Int.mul_add, ← Int.mul_sub]
  by_cases c3 : cv x y < 0
  · have : s * s * cv x y < 0 := Int.mul_neg_of_pos_of_neg h2 c3
    rw [if_pos c3, if_pos this, mkr_mul h4 (by omega) p3]
  · have : ¬ s * s * cv x y < 0 := by have := Int.mul_nonneg (show 0 ≤ s * s by omega) (show 0 ≤ cv x y by omega); omega
    rw [if_neg c3, if_neg this, mkr_mul h4 (by omega) p3]
/-! ### profiles of series of which one is made of the other -/
theorem wn_map (f : Int → Int) (l : List Int) (m i : Nat) : wn (l.map f) m i = (wn l m i).map f := by unfold wn; rw [← List.map_take, ← List.map_drop]
theorem cnt_map (f : Int → Int) (l : List Int) (m : Nat) : cnt (l.map f) m = cnt l m := by unfold cnt; rw [List.length_map]
theorem okw_map {f : Int → Int} (h0 : f (1073741824 : Int) = (1073741824 : Int)) {l : List Int} (h1 : ∀ v ∈ l, f v = (1073741824 : Int) → v = (1073741824 : Int)) (m i : Nat) : okw (l.map f) m i = okw l m i := by
  unfold okw
  rw [wn_map]
  congr 1
  refine decide_eq_decide.2 ⟨fun h => ?_, fun h => List.mem_map.2 ⟨_, h, h0⟩⟩
  obtain ⟨v, hv, e⟩ := List.mem_map.1 h
  have := h1 v (List.mem_of_mem_take (List.mem_of_mem_drop hv)) e
  rw [← this]; exact hv
theorem prof_same {k b g : Int} {l : List Int} {m z : Nat} {f : Int → Int} (h0 : f (1073741824 : Int) = (1073741824 : Int)) (h1 : ∀ v ∈ l, f v = (1073741824 : Int) → v = (1073741824 : Int)) (hm : Mv k b g) (hl : Sv l) (hl' : Sv (l.map f)) (hM : 2 ≤ m ∧ m ≤ 32)
    (hD : ∀ i j, i < cnt l m → j < cnt l m → okw l m i = true → okw l m j = true → MD k b g ((wn l m i).map f) ((wn l m j).map f) = MD k b g (wn l m i) (wn l m j))
    {A Lf Rt A' Lf' Rt' : List Nb} (h : Pf k b g l m z A Lf Rt) (h' : Pf k b g (l.map f) m z A' Lf' Rt') : A' = A ∧ Lf' = Lf ∧ Rt' = Rt := by
  have hc := cnt_map f l m
  have hsl : ∀ a x, SL l m z a x ↔ SL (l.map f) m z a x := fun a x => by unfold SL; rw [okw_map h0 h1, okw_map h0 h1]
  have hsr : ∀ a x, SR l m z a x ↔ SR (l.map f) m z a x := fun a x => by unfold SR; rw [hc, hsl]
  have hd : ∀ a, a < cnt l m → ∀ x, SL l m z a x ∨ SR l m z a x → Dd k b g l m a x = Dd k b g (l.map f) m a x := fun a ha x hx => by
    have w : okw l m a = true ∧ okw l m x = true ∧ x < cnt l m := by
      rcases hx with hx | hx
      · exact ⟨hx.1, hx.2.1, by have := hx.2.2; omega⟩
      · exact ⟨hx.2.2.1, hx.2.1, hx.1⟩
    rw [Dd_symm hm hl hM ha w.2.2 w.1 w.2.1, Dd_symm hm hl' hM (by omega) (by omega) (by rw [okw_map h0 h1]; exact w.1) (by rw [okw_map h0 h1]; exact w.2.1), wn_map, wn_map]
    exact (hD a x ha w.2.2 w.1 w.2.1).symm
  have eL : Lf' = Lf := list_ext_getD (0, 0, 0) (by rw [h.lL, h'.lL, hc]) fun a ha => by
    rw [h'.lL, hc] at ha
    exact ((h.left a ha).unique (h'.left a (by omega)) (hsl a) (fun x hx => hd a ha x (.inl hx)) (fun x hx => SLR_vr hm hl hM ha x (.inl hx))).symm
  have eR : Rt' = Rt := list_ext_getD (0, 0, 0) (by rw [h.lR, h'.lR, hc]) fun a ha => by
    rw [h'.lR, hc] at ha
    exact ((h.right a ha).unique (h'.right a (by omega)) (hsr a) (fun x hx => hd a ha x (.inr hx)) (fun x hx => SLR_vr hm hl hM ha x (.inr hx))).symm
  refine ⟨list_ext_getD (0, 0, 0) (by rw [h.lA, h'.lA, hc]) fun a ha => ?_, eL, eR⟩
  rw [h'.lA, hc] at ha
  rw [h.all a ha, h'.all a (by omega), eL, eR]
theorem same_loop (A : List Nb) (hA : A.length ≤ 10000) : ∀ (n i : Nat), i + n = A.length → ref37_SameNeighbours.L0 ((A, A, (i : Int), ()), ()) = some (Sum.inl ((), ())) := by
  intro n
  induction n with
  | zero => intro i h; rw [ref37_SameNeighbours.L0_eq, ref37_SameNeighbours.f0, df (by omega)]; rfl
  | succ n ih =>
    intro i h
    rw [ref37_SameNeighbours.L0_eq, ref37_SameNeighbours.f0, dt (by omega), dt (by omega), same3, w64 (by omega), show (i : Int) + 1 = ((i + 1 : Nat) : Int) by omega]
    simp only [cond_true, cond_false, Bool.not_true]
    rw [show ref37_SameNeighbours.L0 ((A, (A, (((i + 1 : Nat) : Int), ()))), ()) = _ from ih (i + 1) (by omega)]
    rfl
theorem sameN_ok (A : List Nb) (hA : A.length ≤ 10000) : ref37_SameNeighbours.F ((A, A, ()), ()) = some ((true, ()), ()) := by
  rw [ref37_SameNeighbours.F_eq, ref37_SameNeighbours.f, nt rfl, show ref37_SameNeighbours.L0 ((A, (A, ((0 : Int), ()))), ()) = _ from same_loop A hA A.length 0 (by omega)]
  rfl
theorem same_ok (k b g m z : Int) (A Lf Rt : List Nb) (h1 : A.length ≤ 10000) (h2 : Lf.length ≤ 10000) (h3 : Rt.length ≤ 10000) : ref37_Same.F (((k, b, g, m, z, A, Lf, Rt, ()), (k, b, g, m, z, A, Lf, Rt, ()), ()), ()) = some ((true, ()), ()) := by
  rw [ref37_Same.F_eq, ref37_Same.f, ref37_Same.L0_eq, ref37_Same.f0, bt rfl, bt rfl, bt rfl, bt rfl, bt rfl, show ref37_SameNeighbours.F ((A, (A, ())), ()) = _ from sameN_ok A h1, show ref37_SameNeighbours.F ((Lf, (Lf, ())), ()) = _ from sameN_ok Lf h2, show ref37_SameNeighbours.F ((Rt, (Rt, ())), ()) = _ from sameN_ok Rt h3]
  rfl
/-! ### the law -/
def clp (v : Int) : Int := if v = (1073741824 : Int) then v else mx (-400) (mn 400 v)
def mv (t v : Int) : Int := if v = (1073741824 : Int) then v else v + t
def sc (s v : Int) : Int := if v = (1073741824 : Int) then v else v * s
theorem clp_bd {v : Int} (h : v ≠ (1073741824 : Int)) : -400 ≤ clp v ∧ clp v ≤ 400 := by
  have h1 := mn_le 400 v
  have h2 := mx_ge (-400) (mn 400 v)
  unfold clp; rw [if_neg h]; omega
theorem take_snoc {x : List Int} {i : Nat} (h : i < x.length) : x.take i ++ [x.getD i 0] = x.take (i + 1) := by
  rw [List.take_add_one, List.getD_eq_getElem?_getD, List.getElem?_eq_getElem h]; rfl
theorem move_loop (a : List Int) (ha : a.length ≤ 2000) (add times k b g m z : Int) (hadd : 0 ≤ add ∧ add ≤ 255) (hv : Sv a) : ∀ (n i : Nat) (o : List Int), i + n = a.length → o.length = a.length → (∀ c, c < i → o.getD c 0 = clp (a.getD c 0)) → (∀ c, i ≤ c → o.getD c 0 = a.getD c 0) →
    law37_ProfileMoved.L0 ((add, times, (), (), m, z, (), (i : Int), ()), (o, (k, b, g, ()), ((a.map clp).map (mv add)).take i, ())) = some (Sum.inl ((times, (), (), m, z, (), ()), (a.map clp, (k, b, g, ()), (a.map clp).map (mv add), ()))) := by
  intro n
  induction n with
  | zero =>
    intro i o h ho h1 h2
    have e : o = a.map clp := list_ext_getD 0 (by rw [ho, List.length_map]) fun c hc => by rw [h1 c (by omega), map_get (by omega)]
    rw [law37_ProfileMoved.L0_eq, law37_ProfileMoved.f0, df (by omega), e, List.take_of_length_le (by rw [List.length_map, List.length_map]; omega)]; rfl
  | succ n ih =>
    intro i o h ho h1 h2
    have e1 : ((a.map clp).map (mv add)).getD i 0 = mv add (clp (a.getD i 0)) := by rw [map_get (by rw [List.length_map]; omega), map_get (by omega)]
    have e2 := take_snoc (x := (a.map clp).map (mv add)) (i := i) (by rw [List.length_map, List.length_map]; omega)
    rw [e1] at e2
    have el : (((a.map clp).map (mv add)).take i).length = i := by rw [List.length_take, List.length_map, List.length_map]; omega
    have step : ∀ w, w = clp (a.getD i 0) → law37_ProfileMoved.L0 ((add, times, (), (), m, z, (), ((i + 1 : Nat) : Int), ()), (o.set i w, (k, b, g, ()), ((a.map clp).map (mv add)).take (i + 1), ())) = some (Sum.inl ((times, (), (), m, z, (), ()), (a.map clp, (k, b, g, ()), (a.map clp).map (mv add), ()))) := fun w hw =>
      ih (i + 1) (o.set i w) (by omega) (by rw [List.length_set, ho]) (fun c hc => by
        rw [getD_set (by omega)]
        by_cases e : c = i
        · rw [if_pos e, e, hw]
        · rw [if_neg e, h1 c (by omega)]) (fun c hc => by rw [getD_set (by omega), if_neg (by omega), h2 c (by omega)])
    rw [law37_ProfileMoved.L0_eq, law37_ProfileMoved.f0, dt (by omega), dt (by omega : (0 : Int) ≤ (i : Int)), Int.toNat_natCast, h2 i (Nat.le_refl _)]
    simp only [cond_true]
    rw [w64 (n := (i : Int) + 1) (by omega), show (i : Int) + 1 = ((i + 1 : Nat) : Int) by omega, w64 (n := add) (by omega)]
    by_cases c : a.getD i 0 = (1073741824 : Int)
    · have ec : clp (a.getD i 0) = a.getD i 0 := by unfold clp; rw [if_pos c]
      have em : mv add (clp (a.getD i 0)) = a.getD i 0 := by rw [ec]; unfold mv; rw [if_pos c]
      rw [em] at e2
      rw [nt c]
      simp only [cond_false]
      rw [dt (by rw [el, List.length_singleton]; omega), e2]
      simp only [cond_true]
      rw [show law37_ProfileMoved.L0 ((add, (times, ((), ((), (m, (z, ((), (((i + 1 : Nat) : Int), ())))))))), (o.set i (a.getD i 0), ((k, (b, (g, ()))), (((a.map clp).map (mv add)).take (i + 1), ())))) = _ from step _ ec.symm]
      rfl
    · have hb := clp_bd c
      have ec : mx (-400) (mn 400 (a.getD i 0)) = clp (a.getD i 0) := by unfold clp; rw [if_neg c]
      have em : mv add (clp (a.getD i 0)) = clp (a.getD i 0) + add := by unfold mv; rw [if_neg (by omega)]
      rw [em] at e2
      rw [nf c]
      simp only [cond_true]
      rw [ec, nf (by omega : clp (a.getD i 0) ≠ (1073741824 : Int)), w64 (n := clp (a.getD i 0) + add) (by omega)]
      simp only [cond_true]
      rw [dt (by rw [el, List.length_singleton]; omega), e2]
      simp only [cond_true]
      rw [show law37_ProfileMoved.L0 ((add, (times, ((), ((), (m, (z, ((), (((i + 1 : Nat) : Int), ())))))))), (o.set i (clp (a.getD i 0)), ((k, (b, (g, ()))), (((a.map clp).map (mv add)).take (i + 1), ())))) = _ from step _ rfl]
      rfl
theorem scale_loop (a : List Int) (ha : a.length ≤ 2000) (s k b g m z : Int) (hs : 1 ≤ s ∧ s ≤ 2) (hv : Sv a) : ∀ (n i : Nat), i + n = a.length →
    law37_ProfileMoved.L2 (((), m, z, s, (), (), (i : Int), ()), (a, (k, b, g, ()), (a.map (sc s)).take i, ())) = some (Sum.inl (((), m, z, (), (), ()), (a, (k, b, g, ()), a.map (sc s), ()))) := by
  intro n
  induction n with
  | zero =>
    intro i h
    rw [law37_ProfileMoved.L2_eq, law37_ProfileMoved.f2, df (by omega), List.take_of_length_le (by rw [List.length_map]; omega)]; rfl
  | succ n ih =>
    intro i h
    have e1 : (a.map (sc s)).getD i 0 = sc s (a.getD i 0) := map_get (by omega)
    have e2 := take_snoc (x := a.map (sc s)) (i := i) (by rw [List.length_map]; omega)
    rw [e1] at e2
    have el : ((a.map (sc s)).take i).length = i := by rw [List.length_take, List.length_map]; omega
    rw [law37_ProfileMoved.L2_eq, law37_ProfileMoved.f2, dt (by omega), dt (by omega : (0 : Int) ≤ (i : Int)), Int.toNat_natCast]
    simp only [cond_true]
    rw [w64 (n := (i : Int) + 1) (by omega), show (i : Int) + 1 = ((i + 1 : Nat) : Int) by omega]
    by_cases c : a.getD i 0 = (1073741824 : Int)
    · have em : sc s (a.getD i 0) = a.getD i 0 := by unfold sc; rw [if_pos c]
      rw [em] at e2
      rw [nt c]
      simp only [cond_false]
      rw [dt (by rw [el, List.length_singleton]; omega), e2]
      simp only [cond_true]
      rw [show law37_ProfileMoved.L2 (((), (m, (z, (s, ((), ((), (((i + 1 : Nat) : Int), ()))))))), (a, ((k, (b, (g, ()))), ((a.map (sc s)).take (i + 1), ())))) = _ from ih (i + 1) (by omega)]
      rfl
    · have hb : -1000 ≤ a.getD i 0 ∧ a.getD i 0 ≤ 1000 := (hv _ (getD_mem (by omega))).elim (fun h => absurd h c) id
      have em : sc s (a.getD i 0) = a.getD i 0 * s := by unfold sc; rw [if_neg c]
      have hp := mul_abs (a := a.getD i 0) (A := 1000) (b := s) (B := 2) hb.1 hb.2 (by omega) hs.2 (by omega)
      rw [em] at e2
      rw [nf c, w64 (n := a.getD i 0 * s) (by omega)]
      simp only [cond_true]
      rw [dt (by rw [el, List.length_singleton]; omega), e2]
      simp only [cond_true]
      rw [show law37_ProfileMoved.L2 (((), (m, (z, (s, ((), ((), (((i + 1 : Nat) : Int), ()))))))), (a, ((k, (b, (g, ()))), ((a.map (sc s)).take (i + 1), ())))) = _ from ih (i + 1) (by omega)]
      rfl
theorem win_miss {l : List Int} {m i : Nat} (w : okw l m i = true) : ∀ v ∈ wn l m i, v ≠ (1073741824 : Int) := by
  rintro v hv rfl
  unfold okw at w
  rw [dt hv] at w; cases w
theorem ProfileMoved_pure (l : List Int) (h : ∀ x ∈ l, I64 x) (add times : Int) (hadd : 0 ≤ add ∧ add ≤ 255) (htimes : 0 ≤ times ∧ times ≤ 255) : law37_ProfileMoved.F ((l, add, times, ()), ()) = some ((true, ()), ()) := by
  refine Ok.eq ?_
  rw [law37_ProfileMoved.F_eq, law37_ProfileMoved.f, few_ok]
  simp only [Option.bind_some]
  by_cases c : (l.length : Int) ≤ 400
  · rw [dt c]
    obtain ⟨e0, s0⟩ := dnew_ok h (by omega)
    simp only [Bool.not_true, cond_false]
    rw [e0]
    simp only [Option.bind_some]
    refine .bind (next_ok s0 _ (by omega)) fun y3 h3 => ?_
    obtain ⟨n, hn⟩ : ∃ n : Nat, y3.1.1 = n := ⟨y3.1.1.toNat, by omega⟩
    rw [hn]
    refine .bind (values_ok h3.1 n (by omega)) ?_
    rintro ⟨⟨_, _⟩, ⟨L1, i1, _⟩, a, _⟩ ⟨s1, hv, hlen⟩
    dsimp only at s1 hv hlen ⊢
    refine .bind (next_ok s1 _ (by omega)) fun y5 h5 => ?_
    rw [w64 (n := 1 + y5.1.1) (by omega)]
    refine .bind (kmeasure_ok h5.1 (1 + y5.1.1) (by omega)) ?_
    rintro ⟨⟨⟨k, b, g, _⟩, _⟩, ⟨L2, i2, _⟩, _⟩ ⟨s2, hm, hk⟩
    dsimp only at s2 hm hk ⊢
    have hk5 : k ≠ 5 := by have := hk (by omega); omega
    refine .bind (klength_ok s2) ?_
    rintro ⟨⟨m, _⟩, ⟨L3, i3, _⟩, _⟩ ⟨s3, m1, m2⟩
    dsimp only at s3 m1 m2 ⊢
    obtain ⟨m, rfl⟩ : ∃ q : Nat, m = q := ⟨m.toNat, by omega⟩
    refine .bind (next_ok s3 _ (by omega)) ?_
    rintro ⟨⟨z, _⟩, ⟨L4, i4, _⟩, _⟩ ⟨s4, z1, z2⟩
    dsimp only at s4 z1 z2 ⊢
    rw [w64 (n := 1 + z) (by omega)]
    obtain ⟨z, hz⟩ : ∃ q : Nat, 1 + z = q := ⟨(1 + z).toNat, by omega⟩
    rw [hz]
    have hM : 2 ≤ m ∧ m ≤ 32 := by omega
    have hloop := move_loop a (by omega) add times k b g m z hadd hv a.length 0 a (by omega) rfl (fun c hc => by omega) (fun c _ => rfl)
    rw [List.take_zero] at hloop
    rw [show law37_ProfileMoved.L0 ((add, (times, ((), ((), ((m : Int), ((z : Int), ((), ((0 : Int), ())))))))), (a, ((k, (b, (g, ()))), (([] : List Int), ())))) = _ from hloop]
    simp only [Option.bind_some, Sum.elim_inl]
    have hc1 : ∀ v ∈ a.map clp, v = (1073741824 : Int) ∨ (-400 ≤ v ∧ v ≤ 400) := fun v hx => by
      obtain ⟨u, hu, rfl⟩ := List.mem_map.1 hx
      by_cases e : u = (1073741824 : Int)
      · exact .inl (by unfold clp; rw [if_pos e]; exact e)
      · exact .inr (clp_bd e)
    generalize hq : a.map clp = q at hc1
    have hql : q.length = a.length := by rw [← hq, List.length_map]
    have hv1 : Sv q := fun v hx => (hc1 v hx).imp id fun h => by omega
    have hv2 : Sv (q.map (mv add)) := fun v hx => by
      obtain ⟨u, hu, rfl⟩ := List.mem_map.1 hx
      unfold mv
      rcases hc1 u hu with e | e
      · rw [if_pos e]; exact .inl e
      · rw [if_neg (by omega)]; exact .inr (by omega)
    obtain ⟨r, e1, A, Lf, Rt, rfl, hp⟩ := prof_ok (z := z) hm hv1 hM (by omega) (by omega)
    obtain ⟨r, e2, A', Lf', Rt', rfl, hp'⟩ := prof_ok (z := z) hm hv2 hM (by rw [List.length_map]; omega) (by omega)
    obtain ⟨q1, q2, q3⟩ := prof_same (f := mv add) (by unfold mv; rw [if_pos rfl]) (fun v hx e => by
      unfold mv at e
      rcases hc1 v hx with h | h
      · exact h
      · rw [if_neg (by omega)] at e; omega) hm hv1 hv2 hM (fun i j hi hj wi wj => by
        have ei : (wn q m i).map (mv add) = (wn q m i).map (· + add) := List.map_congr_left fun v hx => by unfold mv; rw [if_neg (win_miss wi v hx)]
        have ej : (wn q m j).map (mv add) = (wn q m j).map (· + add) := List.map_congr_left fun v hx => by unfold mv; rw [if_neg (win_miss wj v hx)]
        rw [ei, ej]
        exact MD_move add hk5 hm (by rw [wn_len (by omega) hi]; omega) (by rw [wn_len (by omega) hi, wn_len (by omega) hj])) hp hp'
    subst q1 q2 q3
    rw [show profile_Of.F ((q, ((k, (b, (g, ()))), ((m : Int), ((z : Int), ())))), ()) = _ from e1, show profile_Of.F ((q.map (mv add), ((k, (b, (g, ()))), ((m : Int), ((z : Int), ())))), ()) = _ from e2]
    simp only [Option.bind_some]
    have hcn : cnt q m ≤ 2001 := by unfold cnt; omega
    have lA := hp.lA
    have lL := hp.lL
    have lR := hp.lR
    rw [show law37_ProfileMoved.L1 _ = _ from law37_ProfileMoved.L1_eq .., law37_ProfileMoved.f1, nt rfl]
    simp only [cond_false]
    rw [show ref37_Same.F (((k, (b, (g, ((m : Int), ((z : Int), (A', (Lf', (Rt', ())))))))), ((k, (b, (g, ((m : Int), ((z : Int), (A', (Lf', (Rt', ())))))))), ())), ()) = _ from same_ok k b g m z A' Lf' Rt' (by omega) (by omega) (by omega)]
    simp only [Option.bind_some, Sum.elim_inl, Bool.not_true, cond_false]
    have hmod := tmod_nonneg' (a := times) (b := 2) (by omega) (by omega)
    rw [w64 (n := times) (by omega), w64 (n := 1 + Int.tmod times 2) (by omega)]
    generalize hs : 1 + Int.tmod times 2 = s
    have hs2 : 1 ≤ s ∧ s ≤ 2 := by omega
    have hloop2 := scale_loop q (by omega) s 3 0 0 m z hs2 hv1 q.length 0 (by omega)
    rw [List.take_zero] at hloop2
    rw [show law37_ProfileMoved.L2 (((), ((m : Int), ((z : Int), (s, ((), ((), ((0 : Int), ()))))))), (q, (((3 : Int), ((0 : Int), ((0 : Int), ()))), (([] : List Int), ())))) = _ from hloop2]
    simp only [Option.bind_some, Sum.elim_inl]
    have hm3 : Mv 3 0 0 := ⟨by omega, by omega, by omega⟩
    have hsc : ∀ v, v ≠ (1073741824 : Int) → -400 ≤ v → v ≤ 400 → sc s v = v * s ∧ -800 ≤ v * s ∧ v * s ≤ 800 := fun v hne h1 h2 => by
      have hp := mul_abs (a := v) (A := 400) (b := s) (B := 2) h1 h2 (by omega) hs2.2 (by omega)
      exact ⟨by unfold sc; rw [if_neg hne], by omega, by omega⟩
    have hv3 : Sv (q.map (sc s)) := fun v hx => by
      obtain ⟨u, hu, rfl⟩ := List.mem_map.1 hx
      rcases hc1 u hu with e | e
      · exact .inl (by unfold sc; rw [if_pos e]; exact e)
      · obtain ⟨t1, t2, t3⟩ := hsc u (by omega) e.1 e.2
        rw [t1]; exact .inr (by omega)
    obtain ⟨r, e3, B, Lg, Rg', rfl, hu⟩ := prof_ok (z := z) hm3 hv1 hM (by omega) (by omega)
    obtain ⟨r, e4, B', Lg', Rg'', rfl, hu'⟩ := prof_ok (z := z) hm3 hv3 hM (by rw [List.length_map]; omega) (by omega)
    obtain ⟨q1, q2, q3⟩ := prof_same (f := sc s) (by unfold sc; rw [if_pos rfl]) (fun v hx e => by
      rcases hc1 v hx with h | h
      · exact h
      · obtain ⟨t1, t2, t3⟩ := hsc v (by omega) h.1 h.2
        rw [t1] at e; omega) hm3 hv1 hv3 hM (fun i j hi hj wi wj => by
        have ei : (wn q m i).map (sc s) = (wn q m i).map (· * s) := List.map_congr_left fun v hx => by unfold sc; rw [if_neg (win_miss wi v hx)]
        have ej : (wn q m j).map (sc s) = (wn q m j).map (· * s) := List.map_congr_left fun v hx => by unfold sc; rw [if_neg (win_miss wj v hx)]
        rw [ei, ej]
        show Gp _ _ = Gp _ _
        exact Gp_mul hs2.1 (by rw [wn_len (by omega) hi, wn_len (by omega) hj])) hu hu'
    subst q1 q2 q3
    rw [show profile_Of.F ((q, (((3 : Int), ((0 : Int), ((0 : Int), ()))), ((m : Int), ((z : Int), ())))), ()) = _ from e3, show profile_Of.F ((q.map (sc s), (((3 : Int), ((0 : Int), ((0 : Int), ()))), ((m : Int), ((z : Int), ())))), ()) = _ from e4]
    simp only [Option.bind_some]
    have lA := hu.lA
    have lL := hu.lL
    have lR := hu.lR
    rw [bt rfl]
    simp only [cond_true]
    rw [show ref37_Same.F ((((3 : Int), ((0 : Int), ((0 : Int), ((m : Int), ((z : Int), (B', (Lg', (Rg'', ())))))))), (((3 : Int), ((0 : Int), ((0 : Int), ((m : Int), ((z : Int), (B', (Lg', (Rg'', ())))))))), ())), ()) = _ from same_ok 3 0 0 m z B' Lg' Rg'' (by omega) (by omega) (by omega)]
    simp only [Option.bind_some, cond_true]
    rw [awake_ok]
    exact .some rfl
  · rw [df c]
    simp only [Bool.not_false, cond_true]
    rw [awake_ok]
    exact .some rfl
theorem ProfileMoved_true (x : law37_ProfileMoved.sh.X) (h : dsWf law37_ProfileMoved.sh.ds x.1) : law37_ProfileMoved.F x = some ((true, ()), ()) := by
  obtain ⟨⟨l, add, times, _⟩, _⟩ := x
  exact ProfileMoved_pure l (wf_ints h.1) add times (wf_u8 h.2.1) (wf_u8 h.2.2.1)
end Go.Proofs.Ytefcciajemkicaa.V
