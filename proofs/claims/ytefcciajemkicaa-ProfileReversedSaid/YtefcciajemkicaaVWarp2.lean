/- The warping distance answers with the recursion; what holds of it. -/
import Derived.Test.YtefcciajemkicaaVg1
import Derived.Test.YtefcciajemkicaaVBase
import Derived.Test.YtefcciajemkicaaVEuc
import Derived.Test.YtefcciajemkicaaVWarp
import Derived.Test.YtefcciajemkicaaVGcd
set_option linter.unusedVariables false
set_option linter.unusedSimpArgs false
namespace Go.Proofs.Ytefcciajemkicaa.V
open Go.VI
def Row (x y : List Int) (b : Int) (i : Nat) : List Int := (List.range y.length).map (Wp x y b i)
theorem Row_len (x y : List Int) (b : Int) (i : Nat) : (Row x y b i).length = y.length := by simp [Row]
theorem Row_get (x y : List Int) (b : Int) (i : Nat) {c : Nat} (h : c < y.length) : (Row x y b i).getD c 0 = Wp x y b i c := by
  rw [List.getD_eq_getElem?_getD, Row, List.getElem?_map, List.getElem?_range h]; rfl
theorem fill_loop {x y : List Int} (hx : Wn x) (hy : Wn y) (b : Int) {before : List Int} {i : Nat} (hi : i < x.length) (hb : before.length = y.length)
    (h1 : i = 0 ∨ ∃ i', i = i' + 1 ∧ ∀ c, c < y.length → before.getD c 0 = Wp x y b i' c) : ∀ (k j : Nat) (o : List Int), j + k = y.length → o.length = y.length → (∀ c, c < j → o.getD c 0 = Wp x y b i c) →
    warp_fill.L0 (((), before, x, y, b, (i : Int), (y.length : Int), (j : Int), ()), (o, ())) = some (Sum.inl ((), (Row x y b i, ()))) := by
  intro k
  induction k with
  | zero =>
    intro j o hj ho h2
    have : o = Row x y b i := list_ext_getD 0 (by rw [ho, Row_len]) fun c hc => by rw [h2 c (by omega), Row_get _ _ _ _ (by omega)]
    rw [warp_fill.L0_eq, warp_fill.f0, df (by omega), this]; rfl
  | succ k ih =>
    intro j o hj ho h2
    rw [fill_round hx hy b hi (by omega) ho hb h1 h2]
    refine ih (j + 1) _ (by omega) (by rw [List.length_set, ho]) fun c hc => ?_
    rw [getD_set (by omega)]
    by_cases e : c = j
    · rw [if_pos e, e]
    · rw [if_neg e, h2 c (by omega)]
theorem fill_ok {x y : List Int} (hx : Wn x) (hy : Wn y) (b : Int) {before o : List Int} {i : Nat} (hi : i < x.length) (hb : before.length = y.length) (ho : o.length = y.length)
    (h1 : i = 0 ∨ ∃ i', i = i' + 1 ∧ before = Row x y b i') : warp_fill.F (((), before, x, y, b, (i : Int), ()), (o, ())) = some ((), (Row x y b i, ())) := by
  rw [warp_fill.F_eq, warp_fill.f, show warp_fill.L0 (((), (before, (x, (y, (b, ((i : Int), ((y.length : Int), ((0 : Int), ())))))))), (o, ())) = _ from
    fill_loop hx hy b hi hb (h1.elim .inl fun ⟨i', e, h⟩ => .inr ⟨i', e, fun c hc => by rw [h, Row_get _ _ _ _ hc]⟩) y.length 0 o (by omega) ho (fun c hc => by omega)]
  rfl
theorem min_loop (l : List Int) (hl : l.length ≤ 100000) : ∀ (k i : Nat) (m : Int), i + k = l.length → Ok (slices_Min.L0 ((l, m, (i : Int), ()), ())) (fun r => ∃ m', r = Sum.inl ((m', ()), ()) ∧ m' ≤ m) := by
  intro k
  induction k with
  | zero => intro i m h; rw [slices_Min.L0_eq, slices_Min.f0, df (by omega)]; exact .some ⟨m, rfl, Int.le_refl _⟩
  | succ k ih =>
    intro i m h
    have := mn_le m (l.getD i 0)
    rw [slices_Min.L0_eq, slices_Min.f0, dt (by omega), dt (by omega), Int.toNat_natCast, w64 (by omega), show (i : Int) + 1 = ((i + 1 : Nat) : Int) by omega]
    refine .bind (ih (i + 1) (mn m (l.getD i 0)) (by omega)) fun r hr => ?_
    obtain ⟨m', rfl, h'⟩ := hr
    exact .some ⟨m', rfl, by omega⟩
theorem min_ok (l : List Int) (h : 1 ≤ l.length ∧ l.length ≤ 100000) : Ok (slices_Min.F ((l, ()), ())) (fun r => r.1.1 ≤ l.getD 0 0) := by
  rw [slices_Min.F_eq, slices_Min.f, df (by omega), dt (by omega)]
  refine .bind (min_loop l h.2 (l.length - 1) 1 (l.getD 0 0) (by omega)) fun r hr => ?_
  obtain ⟨m', rfl, h'⟩ := hr
  exact .some h'
theorem distance_loop {x y : List Int} (hx : Wn x) (hy : Wn y) (b : Int) : ∀ (k i : Nat) (o0 o1 : List Int), i + k = x.length → o0.length = y.length → o1.length = y.length → (i = 0 ∨ ∃ i', i = i' + 1 ∧ o1 = Row x y b i') →
    warp_distance.L0 ((x, y, b, (4611686018427387904 : Int), (), (), (x.length : Int), (i : Int), ()), (o0, o1, ())) = some (Sum.inl ((y, (), ()), (Row x y b (x.length - 1), ()))) := by
  have h1 := hx.1
  have h2 := hy.1
  have h3 := hx.2.1
  have h4 := hy.2.1
  intro k
  induction k with
  | zero =>
    intro i o0 o1 h l0 l1 hr
    rcases hr with hr | ⟨i', rfl, rfl⟩
    · omega
    · rw [warp_distance.L0_eq, warp_distance.f0, df (by omega), show x.length - 1 = i' by omega]; rfl
  | succ k ih =>
    intro i o0 o1 h l0 l1 hr
    rw [warp_distance.L0_eq, warp_distance.f0, dt (by omega), show warp_fill.F (((), (o1, (x, (y, (b, ((i : Int), ())))))), (o0, ())) = _ from fill_ok hx hy b (by omega) l1 l0 hr]
    simp only [cond_true, Option.bind_some]
    obtain ⟨m, hm, hm'⟩ := min_ok (Row x y b i) (by rw [Row_len]; omega)
    rw [hm]
    rw [Row_get _ _ _ _ (by omega)] at hm'
    have := (Wp_bound x y b (i + 1) i 0 (by omega)).2
    simp only [Option.bind_some]
    rw [df (by omega), w64 (by omega), show (i : Int) + 1 = ((i + 1 : Nat) : Int) by omega]
    simp only [cond_false]
    rw [show warp_distance.L0 ((x, (y, (b, ((4611686018427387904 : Int), ((), ((), ((x.length : Int), (((i + 1 : Nat) : Int), ())))))))), (o1, (Row x y b i, ()))) = _ from ih (i + 1) o1 (Row x y b i) (by omega) l1 (Row_len ..) (.inr ⟨i, rfl, rfl⟩)]
    rfl
theorem wdistance_ok {x y : List Int} (hx : Wn x) (hy : Wn y) (b : Int) : warp_distance.F ((x, y, b, (4611686018427387904 : Int), ()), ()) = some ((Wp x y b (x.length - 1) (y.length - 1), ()), ()) := by
  have h1 := hx.1
  have h2 := hy.1
  have h3 := hx.2.1
  have h4 := hy.2.1
  rw [warp_distance.F_eq, warp_distance.f, dt (rfl : (y.length : Int) = y.length), dt (by omega : (((8:Nat) : Nat) : Int) * (y.length : Int) ≤ 281474976710656)]
  simp only [cond_true, Bool.and_self]
  rw [show warp_distance.L0 ((x, (y, (b, ((4611686018427387904 : Int), ((), ((), ((x.length : Int), ((0 : Int), ())))))))), (List.replicate (Int.toNat (y.length : Int)) 0, (List.replicate (Int.toNat (y.length : Int)) 0, ()))) = _ from
    distance_loop hx hy b x.length 0 _ _ (by omega) (by simp) (by simp) (.inl rfl)]
  simp only [Option.bind_some, Sum.elim_inl]
  rw [w64 (by omega), dt (by omega), Row_len, dt (by omega), show ((y.length : Int) - 1).toNat = y.length - 1 by omega, Row_get _ _ _ _ (by omega)]
  rfl
theorem wcheck_ok {x y : List Int} (hx : Wn x) (hy : Wn y) {b : Int} (hb : 0 ≤ b ∧ b ≤ 32) (h : (x.length : Int) - y.length ≤ b ∧ (y.length : Int) - x.length ≤ b) : warp_check.F ((x, y, b, ()), ()) = some ((0, ()), ()) := by
  have h3 := hx.2.1
  have h4 := hy.2.1
  rw [warp_check.F_eq, warp_check.f, warp_check.L0_eq, warp_check.f0, df (by omega), df (by omega)]
  simp only [cond_false, Option.bind_some, Sum.elim_inl]
  rw [eDistance_ok hx hx rfl, eDistance_ok hy hy rfl]
  simp only [cond_false, Option.bind_some, Sum.elim_inl]
  rw [warp_check.L1_eq, warp_check.f1, bf (by omega)]
  simp only [cond_false, Option.bind_some, Sum.elim_inl]
  rw [nt rfl, w64 (by omega), w64 (by omega), df (by omega), df (by omega)]
  rfl
theorem wDistance_ok {x y : List Int} (hx : Wn x) (hy : Wn y) {b : Int} (hb : 0 ≤ b ∧ b ≤ 32) (h : (x.length : Int) - y.length ≤ b ∧ (y.length : Int) - x.length ≤ b) : warp_Distance.F ((x, y, b, ()), ()) = some ((Wp x y b (x.length - 1) (y.length - 1), 0, ()), ()) := by
  rw [warp_Distance.F_eq, warp_Distance.f, wcheck_ok hx hy hb h]
  simp only [Option.bind_some]
  rw [nt rfl, wdistance_ok hx hy b]; rfl
theorem cst_le {x y : List Int} (hx : Wn x) (hy : Wn y) {i j : Nat} (hi : i < x.length) (hj : j < y.length) : cst x y i j ≤ 4000000 := by
  have := hx.get hi
  have := hy.get hj
  exact (sq_bounds (x := x.getD i 0 - y.getD j 0) (b := 2000) (by omega) (by omega)).2
theorem mn_mono {a b c d : Int} (h : a ≤ c) (h' : b ≤ d) : mn a b ≤ mn c d := by
  have := mn_le a b
  have := mn_le c d
  omega
theorem lst_mono {W V : Nat → Nat → Int} {i j : Nat} (h : ∀ a c, a + c < i + j → W a c ≤ V a c) : lst W i j ≤ lst V i j := by
  match i, j with
  | 0, 0 => exact Int.le_refl _
  | 0, j + 1 => exact mn_mono (Int.le_refl _) (h 0 j (by omega))
  | i + 1, 0 => exact mn_mono (Int.le_refl _) (h i 0 (by omega))
  | i + 1, j + 1 => exact mn_mono (mn_mono (mn_mono (Int.le_refl _) (h (i + 1) j (by omega))) (h i (j + 1) (by omega))) (h i j (by omega))
/-- A wider band costs no more. -/
theorem Wp_band (x y : List Int) {b c : Int} (h : b ≤ c) : ∀ (n i j : Nat), i + j < n → Wp x y c i j ≤ Wp x y b i j := by
  intro n
  induction n with
  | zero => intro i j h; omega
  | succ n ih =>
    intro i j hn
    have h1 := (Wp_bound x y c _ i j hn).2
    by_cases k : Near b i j
    · have k' : Near c i j := ⟨by have := k.1; omega, by have := k.2; omega⟩
      rw [Wp_eq x y b, if_pos k, Wp_eq x y c, if_pos k']
      exact mn_mono (Int.le_refl _) (Int.add_le_add_right (lst_mono fun a e he => ih a e (by omega)) _)
    · rw [Wp_eq x y b, if_neg k]; exact h1
/-- The way along the diagonal. -/
theorem Wp_diag {x y : List Int} (hl : y.length = x.length) {b : Int} (hb : 0 ≤ b) : ∀ i, i < x.length → Wp x y b i i + sq (x.drop (i + 1)) (y.drop (i + 1)) ≤ sq x y := by
  intro i
  induction i with
  | zero =>
    intro h
    have e := sq_drop (x := x) (y := y) (i := 0) h (by omega)
    rw [List.drop_zero, List.drop_zero] at e
    rw [Wp_eq, if_pos ⟨by omega, by omega⟩]
    have := mn_le (4611686018427387904 : Int) (lst (Wp x y b) 0 0 + cst x y 0 0)
    have : cst x y 0 0 = (x.getD 0 0 - y.getD 0 0) * (x.getD 0 0 - y.getD 0 0) := rfl
    have : lst (Wp x y b) 0 0 = 0 := rfl
    rw [Nat.zero_add] at *
    omega
  | succ i ih =>
    intro h
    have := ih (by omega)
    have e := sq_drop (x := x) (y := y) (i := i + 1) h (by omega)
    rw [Wp_eq, if_pos ⟨by omega, by omega⟩]
    have := mn_le (4611686018427387904 : Int) (lst (Wp x y b) (i + 1) (i + 1) + cst x y (i + 1) (i + 1))
    have : cst x y (i + 1) (i + 1) = (x.getD (i + 1) 0 - y.getD (i + 1) 0) * (x.getD (i + 1) 0 - y.getD (i + 1) 0) := rfl
    have : lst (Wp x y b) (i + 1) (i + 1) = mn (mn (mn (4611686018427387904 : Int) (Wp x y b (i + 1) i)) (Wp x y b i (i + 1))) (Wp x y b i i) := rfl
    have := mn_le (mn (mn (4611686018427387904 : Int) (Wp x y b (i + 1) i)) (Wp x y b i (i + 1))) (Wp x y b i i)
    omega
theorem Wp_euclid {x y : List Int} (h0 : 1 ≤ x.length) (hl : y.length = x.length) {b : Int} (hb : 0 ≤ b) : Wp x y b (x.length - 1) (y.length - 1) ≤ sq x y := by
  have h := Wp_diag hl hb (x.length - 1) (by omega)
  rw [hl]
  rw [show x.length - 1 + 1 = x.length by omega, drop_nil' (Nat.le_refl _)] at h
  simpa [sq] using h
/-- Within the band there is a way. -/
theorem Wp_way {x y : List Int} (hx : Wn x) (hy : Wn y) {b : Int} (hb : 0 ≤ b) : ∀ (n i j : Nat), i + j < n → i < x.length → j < y.length → Near b i j → Wp x y b i j ≤ 4000000 * ((i : Int) + j + 1) := by
  intro n
  induction n with
  | zero => intro i j h; omega
  | succ n ih =>
    intro i j h hi hj hn
    have hc := cst_le hx hy hi hj
    have := mn_le (4611686018427387904 : Int) (lst (Wp x y b) i j + cst x y i j)
    rw [Wp_eq, if_pos hn]
    obtain ⟨n1, n2⟩ := hn
    match i, j with
    | 0, 0 => have : lst (Wp x y b) 0 0 = 0 := rfl; omega
    | 0, j + 1 =>
      have := ih 0 j (by omega) hi (by omega) ⟨by omega, by omega⟩
      have : lst (Wp x y b) 0 (j + 1) = mn (4611686018427387904 : Int) (Wp x y b 0 j) := rfl
      have := mn_le (4611686018427387904 : Int) (Wp x y b 0 j)
      omega
    | i + 1, 0 =>
      have := ih i 0 (by omega) (by omega) hj ⟨by omega, by omega⟩
      have : lst (Wp x y b) (i + 1) 0 = mn (4611686018427387904 : Int) (Wp x y b i 0) := rfl
      have := mn_le (4611686018427387904 : Int) (Wp x y b i 0)
      omega
    | i + 1, j + 1 =>
      have := ih i j (by omega) (by omega) (by omega) ⟨by omega, by omega⟩
      have : lst (Wp x y b) (i + 1) (j + 1) = mn (mn (mn (4611686018427387904 : Int) (Wp x y b (i + 1) j)) (Wp x y b i (j + 1))) (Wp x y b i j) := rfl
      have := mn_le (mn (mn (4611686018427387904 : Int) (Wp x y b (i + 1) j)) (Wp x y b i (j + 1))) (Wp x y b i j)
      omega
end Go.Proofs.Ytefcciajemkicaa.V
