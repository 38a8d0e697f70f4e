/- The distance by squares, and what is asked of windows. -/
import Derived.Test.YtefcciajemkicaaVg1
import Derived.Test.YtefcciajemkicaaVBase
set_option linter.unusedVariables false
namespace Go.Proofs.Ytefcciajemkicaa.V
open Go.VI
/-- A window. -/
def Wn (x : List Int) : Prop := 2 ≤ x.length ∧ x.length ≤ 32 ∧ ∀ v ∈ x, -1000 ≤ v ∧ v ≤ 1000
theorem Wn.get {x : List Int} (h : Wn x) {i : Nat} (hi : i < x.length) : -1000 ≤ x.getD i 0 ∧ x.getD i 0 ≤ 1000 := h.2.2 _ (getD_mem hi)
theorem drop_cons {x : List Int} {i : Nat} (h : i < x.length) : x.drop i = x.getD i 0 :: x.drop (i + 1) := by
  rw [List.getD_eq_getElem?_getD, List.getElem?_eq_getElem h]; exact List.drop_eq_getElem_cons h
theorem drop_nil' {x : List Int} {i : Nat} (h : x.length ≤ i) : x.drop i = [] := List.drop_eq_nil_of_le h
/-- The sum of the squares of the differences. -/
def sq : List Int → List Int → Int
  | a :: x, b :: y => (a - b) * (a - b) + sq x y
  | _, _ => 0
/-- The sum of the differences. -/
def dif : List Int → List Int → Int
  | a :: x, b :: y => (a - b) + dif x y
  | _, _ => 0
theorem sq_nonneg' (x y : List Int) : 0 ≤ sq x y := by
  induction x generalizing y with
  | nil => simp [sq]
  | cons a x ih =>
    cases y with
    | nil => simp [sq]
    | cons b y => have := ih y; have := sq_nonneg (a - b); simp only [sq]; omega
theorem sq_le (x y : List Int) (hx : ∀ v ∈ x, -1000 ≤ v ∧ v ≤ 1000) (hy : ∀ v ∈ y, -1000 ≤ v ∧ v ≤ 1000) : sq x y ≤ 4000000 * (x.length : Int) := by
  induction x generalizing y with
  | nil => simp [sq]
  | cons a x ih =>
    cases y with
    | nil => simp only [sq, List.length_cons]; omega
    | cons b y =>
      have := ih y (fun v h => hx v (List.mem_cons_of_mem _ h)) fun v h => hy v (List.mem_cons_of_mem _ h)
      have h1 := hx a (List.mem_cons_self ..)
      have h2 := hy b (List.mem_cons_self ..)
      have := (sq_bounds (x := a - b) (b := 2000) (by omega) (by omega)).2
      simp only [sq, List.length_cons]; omega
theorem dif_le (x y : List Int) (hx : ∀ v ∈ x, -1000 ≤ v ∧ v ≤ 1000) (hy : ∀ v ∈ y, -1000 ≤ v ∧ v ≤ 1000) : -2000 * (x.length : Int) ≤ dif x y ∧ dif x y ≤ 2000 * (x.length : Int) := by
  induction x generalizing y with
  | nil => simp [dif]
  | cons a x ih =>
    cases y with
    | nil => simp only [dif, List.length_cons]; omega
    | cons b y =>
      have := ih y (fun v h => hx v (List.mem_cons_of_mem _ h)) fun v h => hy v (List.mem_cons_of_mem _ h)
      have h1 := hx a (List.mem_cons_self ..)
      have h2 := hy b (List.mem_cons_self ..)
      simp only [dif, List.length_cons]; omega
theorem sq_drop {x y : List Int} {i : Nat} (h : i < x.length) (h' : i < y.length) : sq (x.drop i) (y.drop i) = (x.getD i 0 - y.getD i 0) * (x.getD i 0 - y.getD i 0) + sq (x.drop (i + 1)) (y.drop (i + 1)) := by
  rw [drop_cons h, drop_cons h']; rfl
theorem dif_drop {x y : List Int} {i : Nat} (h : i < x.length) (h' : i < y.length) : dif (x.drop i) (y.drop i) = (x.getD i 0 - y.getD i 0) + dif (x.drop (i + 1)) (y.drop (i + 1)) := by
  rw [drop_cons h, drop_cons h']; rfl
/-- n times the sum of the squares is at least the square of the sum, and both are those of the differences from any number. -/
theorem sq_dif (x y : List Int) (h : y.length = x.length) (t : Int) : 0 ≤ sq x y - 2 * (dif x y * t) + (x.length : Int) * (t * t) := by
  induction x generalizing y with
  | nil => simp [sq, dif]
  | cons a x ih =>
    cases y with
    | nil => simp at h
    | cons b y =>
      have h1 := ih y (by simpa using h)
      have h2 := sq_nonneg (a - b - t)
      simp only [sq, dif, List.length_cons]
      have e1 : (a - b - t) * (a - b - t) = (a - b) * (a - b) - 2 * ((a - b) * t) + t * t := by
        generalize a - b = d
        rw [Int.sub_mul, Int.mul_sub, Int.mul_sub, Int.mul_comm t d]; omega
      have e2 : ((a - b) + dif x y) * t = (a - b) * t + dif x y * t := Int.add_mul ..
      have e3 : ((x.length + 1 : Nat) : Int) * (t * t) = (x.length : Int) * (t * t) + t * t := by rw [Int.natCast_add, Int.add_mul]; omega
      rw [e2, e3]; omega
theorem sq_dif2 (x y : List Int) (h : y.length = x.length) : dif x y * dif x y ≤ (x.length : Int) * sq x y := by
  induction x generalizing y with
  | nil => simp [sq, dif]
  | cons a x ih =>
    cases y with
    | nil => simp at h
    | cons b y =>
      have h1 := ih y (by simpa using h)
      have h2 := sq_dif x y (by simpa using h) (a - b)
      simp only [sq, dif, List.length_cons]
      generalize a - b = d at *
      generalize dif x y = D at *
      generalize sq x y = S at *
      have e1 : (d + D) * (d + D) = d * d + 2 * (D * d) + D * D := by rw [Int.add_mul, Int.mul_add, Int.mul_add, Int.mul_comm d D]; omega
      have e3 : ((x.length + 1 : Nat) : Int) * (d * d + S) = (x.length : Int) * (d * d) + (x.length : Int) * S + d * d + S := by rw [Int.natCast_add, Int.add_mul, Int.mul_add]; omega
      rw [e1, e3]; omega
theorem samples_loop (x : List Int) (hl : x.length ≤ 100000) (hx : ∀ v ∈ x, -1000 ≤ v ∧ v ≤ 1000) : ∀ (k i : Nat), i + k = x.length → euclid_samples.L0 ((x, (x.length : Int), (i : Int), ()), ()) = some (Sum.inl ((), ())) := by
  intro k
  induction k with
  | zero => intro i h; rw [euclid_samples.L0_eq, euclid_samples.f0, df (by omega)]; rfl
  | succ k ih =>
    intro i h
    have hg := hx _ (getD_mem (l := x) (i := i) (d := 0) (by omega))
    rw [euclid_samples.L0_eq, euclid_samples.f0, dt (by omega), dt (by omega), Int.toNat_natCast, df (by omega), df (by omega), w64 (by omega)]
    simp only [cond_true, cond_false]
    rw [show (i : Int) + 1 = ((i + 1 : Nat) : Int) by omega, show euclid_samples.L0 ((x, ((x.length : Int), (((i + 1 : Nat) : Int), ()))), ()) = _ from ih (i + 1) (by omega)]
    rfl
theorem samples_ok {x : List Int} (h : Wn x) : euclid_samples.F ((x, ()), ()) = some ((true, ()), ()) := by
  rw [euclid_samples.F_eq, euclid_samples.f, show euclid_samples.L0 ((x, ((x.length : Int), ((0 : Int), ()))), ()) = _ from samples_loop x (by have := h.2.1; omega) h.2.2 x.length 0 (by omega)]; rfl
theorem elength_ok {x : List Int} (h : Wn x) : euclid_length.F ((x, ()), ()) = some ((true, ()), ()) := by
  rw [euclid_length.F_eq, euclid_length.f, dt (by have := h.1; omega), dt (by have := h.2.1; omega)]; rfl
theorem echeck_ok {x y : List Int} (hx : Wn x) (hy : Wn y) : euclid_check.F ((x, y, ()), ()) = some (((if x.length = y.length then 0 else 8), ()), ()) := by
  rw [euclid_check.F_eq, euclid_check.f, euclid_check.L0_eq, euclid_check.f0, elength_ok hx, elength_ok hy]
  simp only [Option.bind_some, Bool.not_true, cond_false, Sum.elim_inl]
  rw [euclid_check.L1_eq, euclid_check.f1, samples_ok hx, samples_ok hy]
  simp only [Option.bind_some, Bool.not_true, cond_false, Sum.elim_inl]
  by_cases c : x.length = y.length
  · rw [if_pos c, nt (by omega)]; rfl
  · rw [if_neg c, nf (by omega)]; rfl
theorem square_loop {x y : List Int} (hx : Wn x) (hy : Wn y) (hl : y.length = x.length) : ∀ (k i : Nat) (s : Int), i + k = x.length → 0 ≤ s → s ≤ 4000000 * (i : Int) → euclid_square.L0 ((y, s, x, (x.length : Int), (i : Int), ()), ()) = some (Sum.inl ((s + sq (x.drop i) (y.drop i), ()), ())) := by
  have h32 := hx.2.1
  intro k
  induction k with
  | zero => intro i s h h0 h1; rw [euclid_square.L0_eq, euclid_square.f0, df (by omega), drop_nil' (by omega)]; simp [sq]
  | succ k ih =>
    intro i s h h0 h1
    have g1 := hx.get (i := i) (by omega)
    have g2 := hy.get (i := i) (by omega)
    rw [euclid_square.L0_eq, euclid_square.f0, dt (by omega), dt (by omega), dt (by omega), Int.toNat_natCast, sq_drop (by omega) (by omega)]
    generalize x.getD i 0 = a at *
    generalize y.getD i 0 = b at *
    have hb := sq_bounds (x := a - b) (b := 2000) (by omega) (by omega)
    rw [w64 (n := a - b) (by omega), w64 (n := (a - b) * (a - b)) (by omega), w64 (n := s + (a - b) * (a - b)) (by omega), w64 (n := (i : Int) + 1) (by omega)]
    simp only [cond_true]
    rw [show (i : Int) + 1 = ((i + 1 : Nat) : Int) by omega, show euclid_square.L0 ((y, (s + (a - b) * (a - b), (x, ((x.length : Int), (((i + 1 : Nat) : Int), ()))))), ()) = _ from ih (i + 1) (s + (a - b) * (a - b)) (by omega) (by omega) (by omega)]
    simp only [Option.bind_some, Int.add_assoc]
theorem square_ok {x y : List Int} (hx : Wn x) (hy : Wn y) (hl : y.length = x.length) : euclid_square.F ((x, y, ()), ()) = some ((sq x y, ()), ()) := by
  rw [euclid_square.F_eq, euclid_square.f, show euclid_square.L0 ((y, ((0 : Int), (x, ((x.length : Int), ((0 : Int), ()))))), ()) = _ from square_loop hx hy hl x.length 0 0 (by omega) (by omega) (by omega)]
  simp
theorem eDistance_ok {x y : List Int} (hx : Wn x) (hy : Wn y) (hl : y.length = x.length) : euclid_Distance.F ((x, y, ()), ()) = some ((sq x y, 0, ()), ()) := by
  rw [euclid_Distance.F_eq, euclid_Distance.f, echeck_ok hx hy, if_pos hl.symm]
  simp only [Option.bind_some]
  rw [nt rfl, square_ok hx hy hl]; rfl
theorem sq_self (x : List Int) : sq x x = 0 := by
  induction x with
  | nil => rfl
  | cons a x ih => simp [sq, ih]
theorem shifted_loop {x y : List Int} (hx : Wn x) (hy : Wn y) (hl : y.length = x.length) (p q m : Int) : ∀ (k i : Nat) (s : Int), i + k = x.length → -2000 * (i : Int) ≤ s → s ≤ 2000 * (i : Int) →
    euclid_Shifted.L0 ((x, y, (), s, m, x, (x.length : Int), (i : Int), ()), ((p, q, ()), ())) = some (Sum.inl ((x, y, (), s + dif (x.drop i) (y.drop i), m, ()), ((p, q, ()), ()))) := by
  have h32 := hx.2.1
  intro k
  induction k with
  | zero => intro i s h h0 h1; rw [euclid_Shifted.L0_eq, euclid_Shifted.f0, df (by omega), drop_nil' (by omega)]; simp [dif]
  | succ k ih =>
    intro i s h h0 h1
    have g1 := hx.get (i := i) (by omega)
    have g2 := hy.get (i := i) (by omega)
    rw [euclid_Shifted.L0_eq, euclid_Shifted.f0, dt (by omega), dt (by omega), dt (by omega), Int.toNat_natCast, dif_drop (by omega) (by omega)]
    generalize x.getD i 0 = a at *
    generalize y.getD i 0 = b at *
    rw [w64 (n := a - b) (by omega), w64 (n := s + (a - b)) (by omega), w64 (n := (i : Int) + 1) (by omega)]
    simp only [cond_true]
    rw [show (i : Int) + 1 = ((i + 1 : Nat) : Int) by omega, show euclid_Shifted.L0 ((x, (y, ((), (s + (a - b), (m, (x, ((x.length : Int), (((i + 1 : Nat) : Int), ())))))))), ((p, (q, ())), ())) = _ from ih (i + 1) (s + (a - b)) (by omega) (by omega) (by omega)]
    simp only [Option.bind_some, Int.add_assoc]
theorem shifted_made {x y : List Int} (hx : Wn x) (hy : Wn y) (hl : y.length = x.length) : euclid_Shifted.F ((x, y, ()), ()) = (ratio_Make.F (((x.length : Int) * sq x y - dif x y * dif x y, (x.length : Int), ()), ())).bind fun r => some (((r.1.1.1, r.1.1.2.1, ()), r.1.2.1, ()), ()) := by
  have h32 := hx.2.1
  have b1 := dif_le x y hx.2.2 hy.2.2
  have b2 := sq_le x y hx.2.2 hy.2.2
  have b3 := sq_nonneg' x y
  have b4 := sq_bounds (x := dif x y) (b := 64000) (by omega) (by omega)
  have b5 := mul_bd (a := (x.length : Int)) (A := 32) (b := sq x y) (B := 128000000) (by omega) (by omega) b3 (by omega)
  rw [euclid_Shifted.F_eq, euclid_Shifted.f, echeck_ok hx hy, if_pos hl.symm]
  simp only [Option.bind_some]
  rw [nt rfl, show euclid_Shifted.L0 ((x, (y, ((), ((0 : Int), ((x.length : Int), (x, ((x.length : Int), ((0 : Int), ())))))))), (((0 : Int), ((0 : Int), ())), ())) = _ from shifted_loop hx hy hl 0 0 _ x.length 0 0 (by omega) (by omega) (by omega)]
  simp only [cond_false, Option.bind_some, Sum.elim_inl, List.drop_zero, Int.zero_add]
  rw [square_ok hx hy hl]
  simp only [Option.bind_some]
  rw [w64 (n := (x.length : Int) * sq x y) (by omega), w64 (n := dif x y * dif x y) (by omega), w64 (by omega)]
end Go.Proofs.Ytefcciajemkicaa.V
