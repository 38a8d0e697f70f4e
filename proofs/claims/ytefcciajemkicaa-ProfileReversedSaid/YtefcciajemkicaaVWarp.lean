/- The warping distance as a recursion. -/
import Derived.Test.YtefcciajemkicaaVg1
import Derived.Test.YtefcciajemkicaaVBase
import Derived.Test.YtefcciajemkicaaVEuc
set_option linter.unusedVariables false
set_option linter.unusedSimpArgs false
namespace Go.Proofs.Ytefcciajemkicaa.V
open Go.VI
def Near (b : Int) (i j : Nat) : Prop := (i : Int) - j ≤ b ∧ (j : Int) - i ≤ b
instance (b : Int) (i j : Nat) : Decidable (Near b i j) := by unfold Near; infer_instance
def cst (x y : List Int) (i j : Nat) : Int := (x.getD i 0 - y.getD j 0) * (x.getD i 0 - y.getD j 0)
/-- The least of what was there ahead of a pair. -/
def lst (W : Nat → Nat → Int) : Nat → Nat → Int
  | 0, 0 => 0
  | 0, j + 1 => mn (4611686018427387904 : Int) (W 0 j)
  | i + 1, 0 => mn (4611686018427387904 : Int) (W i 0)
  | i + 1, j + 1 => mn (mn (mn (4611686018427387904 : Int) (W (i + 1) j)) (W i (j + 1))) (W i j)
/-- The least cost of a path to a pair, by rounds. -/
def Wn' (x y : List Int) (b : Int) : Nat → Nat → Nat → Int
  | 0, _, _ => 0
  | n + 1, i, j => if Near b i j then mn (4611686018427387904 : Int) (lst (Wn' x y b n) i j + cst x y i j) else (4611686018427387904 : Int)
def Wp (x y : List Int) (b : Int) (i j : Nat) : Int := Wn' x y b (i + j + 1) i j
theorem lst_congr {W V : Nat → Nat → Int} {i j : Nat} (h : ∀ a c, a ≤ i → c ≤ j → a + c < i + j → W a c = V a c) : lst W i j = lst V i j := by
  match i, j with
  | 0, 0 => rfl
  | 0, j + 1 => simp only [lst]; rw [h 0 j (by omega) (by omega) (by omega)]
  | i + 1, 0 => simp only [lst]; rw [h i 0 (by omega) (by omega) (by omega)]
  | i + 1, j + 1 => simp only [lst]; rw [h i (j + 1) (by omega) (by omega) (by omega), h (i + 1) j (by omega) (by omega) (by omega), h i j (by omega) (by omega) (by omega)]
theorem Wn'_enough (x y : List Int) (b : Int) : ∀ (n m i j : Nat), i + j < n → i + j < m → Wn' x y b n i j = Wn' x y b m i j := by
  intro n
  induction n with
  | zero => intro m i j h; omega
  | succ n ih =>
    intro m i j h h'
    cases m with
    | zero => omega
    | succ m =>
      simp only [Wn']
      rw [lst_congr fun a c _ _ hs => ih m a c (by omega) (by omega)]
theorem Wp_eq (x y : List Int) (b : Int) (i j : Nat) : Wp x y b i j = if Near b i j then mn (4611686018427387904 : Int) (lst (Wp x y b) i j + cst x y i j) else (4611686018427387904 : Int) := by
  show Wn' x y b (i + j + 1) i j = _
  simp only [Wn']
  rw [lst_congr (V := Wp x y b) fun a c _ _ hs => Wn'_enough x y b _ _ a c (by omega) (by omega)]
theorem cst_nonneg (x y : List Int) (i j : Nat) : 0 ≤ cst x y i j := sq_nonneg _
theorem lst_bound {W : Nat → Nat → Int} {i j : Nat} (h : ∀ a c, a + c < i + j → 0 ≤ W a c) : 0 ≤ lst W i j ∧ lst W i j ≤ (4611686018427387904 : Int) := by
  match i, j with
  | 0, 0 => simp only [lst]; omega
  | 0, j + 1 =>
    have := h 0 j (by omega)
    have := mn_le (4611686018427387904 : Int) (W 0 j)
    simp only [lst]; omega
  | i + 1, 0 =>
    have := h i 0 (by omega)
    have := mn_le (4611686018427387904 : Int) (W i 0)
    simp only [lst]; omega
  | i + 1, j + 1 =>
    have := h i (j + 1) (by omega)
    have := h (i + 1) j (by omega)
    have := h i j (by omega)
    have := mn_le (4611686018427387904 : Int) (W (i + 1) j)
    have := mn_le (mn (4611686018427387904 : Int) (W (i + 1) j)) (W i (j + 1))
    have := mn_le (mn (mn (4611686018427387904 : Int) (W (i + 1) j)) (W i (j + 1))) (W i j)
    simp only [lst]; omega
theorem Wp_bound (x y : List Int) (b : Int) : ∀ (n i j : Nat), i + j < n → 0 ≤ Wp x y b i j ∧ Wp x y b i j ≤ (4611686018427387904 : Int) := by
  intro n
  induction n with
  | zero => intro i j h; omega
  | succ n ih =>
    intro i j h
    have h1 := lst_bound (W := Wp x y b) (i := i) (j := j) fun a c hs => (ih a c (by omega)).1
    have h2 := cst_nonneg x y i j
    rw [Wp_eq]
    split
    · have := mn_le (4611686018427387904 : Int) (lst (Wp x y b) i j + cst x y i j); omega
    · omega
theorem near_ok (i j : Nat) (b : Int) (h : i ≤ 1000 ∧ j ≤ 1000) : warp_near.F (((i : Int), (j : Int), b, ()), ()) = some ((decide (Near b i j), ()), ()) := by
  rw [warp_near.F_eq, warp_near.f, w64 (by omega), w64 (by omega)]
  by_cases c : (i : Int) - j ≤ b
  · rw [dt c]
    have : decide (Near b i j) = decide ((j : Int) - i ≤ b) := decide_eq_decide.2 ⟨fun h => h.2, fun h => ⟨c, h⟩⟩
    rw [this]; rfl
  · rw [df c, df (fun k : Near b i j => c k.1)]; rfl
section
variable (before x y : List Int) (b i j least n : Int) (o : List Int)
theorem fl1 : warp_fill.L1 (((), before, x, y, b, i, j, least, n, j, ()), (o, ())) = some (Sum.inl (((), before, x, y, b, i, j, least, n, j, (i == 0 && j == 0), ()), (o, ()))) := by
  rw [warp_fill.L1_eq, warp_fill.f1]; cases (i == 0) <;> rfl
theorem fl2 (v : Bool) : warp_fill.L2 (((), before, x, y, b, i, j, least, n, j, v, ()), (o, ())) = some (Sum.inl (((), before, x, y, b, i, j, (bif v then 0 else least), n, j, ()), (o, ()))) := by
  rw [warp_fill.L2_eq, warp_fill.f2]; cases v <;> rfl
theorem fl3 (v : Bool) (h : v = true → 1 ≤ j ∧ j ≤ (o.length : Int) ∧ o.length ≤ 1000) : warp_fill.L3 (((), before, x, y, b, i, j, least, n, j, v, ()), (o, ())) = some (Sum.inl (((), before, x, y, b, i, j, (bif v then mn least (o.getD (j - 1).toNat 0) else least), n, j, ()), (o, ()))) := by
  rw [warp_fill.L3_eq, warp_fill.f3]
  cases v with
  | false => rfl
  | true => have := h rfl; rw [w64 (by omega), dt (by omega), dt (by omega)]; rfl
theorem fl4 (v : Bool) (h : v = true → 0 ≤ j ∧ j < (before.length : Int)) : warp_fill.L4 (((), before, x, y, b, i, j, least, n, j, v, ()), (o, ())) = some (Sum.inl (((), before, x, y, b, i, j, (bif v then mn least (before.getD j.toNat 0) else least), n, j, ()), (o, ()))) := by
  rw [warp_fill.L4_eq, warp_fill.f4]
  cases v with
  | false => rfl
  | true => have := h rfl; rw [dt (by omega), dt (by omega)]; rfl
theorem fl5 : warp_fill.L5 (((), before, x, y, b, i, j, least, n, j, ()), (o, ())) = some (Sum.inl (((), before, x, y, b, i, j, least, n, j, (decide (i > 0) && decide (j > 0)), ()), (o, ()))) := by
  rw [warp_fill.L5_eq, warp_fill.f5]; cases (decide (i > 0)) <;> rfl
end
theorem mn_twice (a u : Int) : mn (mn a u) u = mn a u := by
  have h1 := mn_le a u
  have h2 := mn_le (mn a u) u
  omega
theorem fill_round {x y : List Int} (hx : Wn x) (hy : Wn y) (b : Int) {before o : List Int} {i j : Nat} (hi : i < x.length) (hj : j < y.length) (ho : o.length = y.length) (hb : before.length = y.length)
    (h1 : i = 0 ∨ ∃ i', i = i' + 1 ∧ ∀ c, c < y.length → before.getD c 0 = Wp x y b i' c) (h2 : ∀ c, c < j → o.getD c 0 = Wp x y b i c) :
    warp_fill.L0 (((), before, x, y, b, (i : Int), (y.length : Int), (j : Int), ()), (o, ())) = warp_fill.L0 (((), before, x, y, b, (i : Int), (y.length : Int), ((j + 1 : Nat) : Int), ()), (o.set j (Wp x y b i j), ())) := by
  have hx2 := hx.2.1
  have hy2 := hy.2.1
  have gx := hx.get hi
  have gy := hy.get hj
  rw [warp_fill.L0_eq, warp_fill.f0, dt (by omega), dt (by omega), dt (by omega), near_ok i j b (by omega), w64 (n := (j : Int) + 1) (by omega), Int.toNat_natCast]
  simp only [cond_true, Option.bind_some]
  have ej : (j : Int) + 1 = ((j + 1 : Nat) : Int) := by omega
  have bs : ∀ {α : Type} (o : Option α), (o.bind fun y => some y) = o := fun o => by cases o <;> rfl
  by_cases c : Near b i j
  · rw [dt c]
    simp only [Bool.not_true, cond_false]
    have hlen : (o.set j (4611686018427387904 : Int)).length = y.length := by rw [List.length_set, ho]
    have key : ∀ l, l = lst (Wp x y b) i j → (mn (4611686018427387904 : Int) (Go.IntKind.wrap .i64 (l + Go.IntKind.wrap .i64 (Go.IntKind.wrap .i64 (x.getD i 0 - y.getD j 0) * Go.IntKind.wrap .i64 (x.getD i 0 - y.getD j 0))))) = Wp x y b i j := by
      rintro l rfl
      have lb := lst_bound (W := Wp x y b) (i := i) (j := j) fun a c _ => (Wp_bound x y b _ a c (Nat.lt_succ_self _)).1
      have hs := sq_bounds (x := x.getD i 0 - y.getD j 0) (b := 2000) (by omega) (by omega)
      rw [w64 (n := x.getD i 0 - y.getD j 0) (by omega), w64 (n := (x.getD i 0 - y.getD j 0) * (x.getD i 0 - y.getD j 0)) (by omega), w64 (by omega), Wp_eq, if_pos c]
      rfl
    have hset : ∀ v, (o.set j (4611686018427387904 : Int)).set j v = o.set j v := fun v => List.set_set ..
    have hlt : ∀ c, c < j → (o.set j (4611686018427387904 : Int)).getD c 0 = Wp x y b i c := fun c hc => by rw [getD_set (by omega), if_neg (by omega), h2 c hc]
    rw [show warp_fill.L1 (((), (before, (x, (y, (b, ((i : Int), ((j : Int), ((4611686018427387904 : Int), ((y.length : Int), ((j : Int), ())))))))))), ((o.set j (4611686018427387904 : Int)), ())) = _ from fl1 ..]
    simp only [Option.bind_some, Sum.elim_inl]
    rw [show warp_fill.L2 (((), (before, (x, (y, (b, ((i : Int), ((j : Int), ((4611686018427387904 : Int), ((y.length : Int), ((j : Int), (_, ()))))))))))), ((o.set j (4611686018427387904 : Int)), ())) = _ from fl2 ..]
    simp only [Option.bind_some, Sum.elim_inl]
    rw [show warp_fill.L3 (((), (before, (x, (y, (b, ((i : Int), ((j : Int), (_, ((y.length : Int), ((j : Int), (_, ()))))))))))), ((o.set j (4611686018427387904 : Int)), ())) = _ from fl3 _ _ _ _ _ _ _ _ _ _ (fun h => by have := of_decide_eq_true h; omega)]
    simp only [Option.bind_some, Sum.elim_inl]
    rw [show warp_fill.L4 (((), (before, (x, (y, (b, ((i : Int), ((j : Int), (_, ((y.length : Int), ((j : Int), (_, ()))))))))))), ((o.set j (4611686018427387904 : Int)), ())) = _ from fl4 _ _ _ _ _ _ _ _ _ _ (fun h => by omega)]
    simp only [Option.bind_some, Sum.elim_inl]
    rw [show warp_fill.L5 (((), (before, (x, (y, (b, ((i : Int), ((j : Int), (_, ((y.length : Int), ((j : Int), ())))))))))), ((o.set j (4611686018427387904 : Int)), ())) = _ from fl5 ..]
    simp only [Option.bind_some, Sum.elim_inl, Int.toNat_natCast]
    rcases h1 with rfl | ⟨i', rfl, h1⟩
    · rw [df (by omega : ¬ ((0 : Nat) : Int) > 0)]
      simp only [Bool.false_and, cond_false]
      rw [dt (by omega : (0 : Int) ≤ ((0 : Nat) : Int)), dt (by omega : (0 : Int) ≤ (j : Int)), dt (by omega), dt (by omega), dt (by omega), bs, hset]
      simp only [cond_true]
      rw [w64 (n := (j : Int) + 1) (by omega), ej, key]
      cases j with
      | zero => rfl
      | succ j =>
        rw [dt (by omega), bf (by omega : ((j + 1 : Nat) : Int) ≠ 0)]
        simp only [Bool.and_false, cond_false, cond_true]
        rw [show (((j + 1 : Nat) : Int) - 1).toNat = j by omega, hlt j (by omega)]; rfl
    · rw [dt (by omega : ((i' + 1 : Nat) : Int) > 0), bf (by omega : ((i' + 1 : Nat) : Int) ≠ 0), h1 j hj]
      cases j with
      | zero =>
        rw [df (by omega : ¬ ((0 : Nat) : Int) > 0)]
        simp only [Bool.false_and, Bool.and_false, cond_false, cond_true]
        rw [dt (by omega : (0 : Int) ≤ ((0 : Nat) : Int)), dt (by omega), dt (by omega), dt (by omega), dt (by omega), bs, hset]
        simp only [cond_true]
        rw [w64 (n := ((0 : Nat) : Int) + 1) (by omega), ej, key]; rfl
      | succ j =>
        rw [dt (by omega : ((j + 1 : Nat) : Int) > 0)]
        simp only [Bool.false_and, Bool.and_self, cond_false, cond_true]
        rw [w64 (n := ((j + 1 : Nat) : Int) - 1) (by omega), dt (by omega), dt (by omega), dt (by omega), dt (by omega), dt (by omega), dt (by omega), dt (by omega), dt (by omega), show (((j + 1 : Nat) : Int) - 1).toNat = j by omega, bs, hset]
        simp only [cond_true]
        rw [w64 (n := ((j + 1 : Nat) : Int) + 1) (by omega), ej, key]
        rw [hlt j (by omega), h1 j (by omega), mn_twice]; rfl
  · rw [df c]
    simp only [Bool.not_false, cond_true]
    rw [bs, ej, Wp_eq, if_neg c]
end Go.Proofs.Ytefcciajemkicaa.V
