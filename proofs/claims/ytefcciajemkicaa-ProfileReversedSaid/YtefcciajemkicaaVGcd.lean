/- Ratios: the divisor, validity, making; and the reference's order. -/
import Derived.Test.YtefcciajemkicaaVg5
import Derived.Test.YtefcciajemkicaaVBase
set_option linter.unusedVariables false
set_option linter.unusedSimpArgs false
namespace Go.Proofs.Ytefcciajemkicaa.V
open Go.VI
@[local simp] theorem bindSelf {α : Type} (o : Option α) : (o.bind fun y => some y) = o := by cases o <;> rfl
theorem gcd_loop : ∀ (N n m : Nat), n ≤ N → ratio_divisor.L0 (((m : Int), (n : Int), ()), ()) = some (Sum.inl ((((Nat.gcd m n : Nat) : Int), ()), ())) := by
  intro N
  induction N with
  | zero =>
    intro n m h
    obtain rfl : n = 0 := by omega
    rw [ratio_divisor.L0_eq, ratio_divisor.f0, nt (by rfl), Nat.gcd_zero_right]; rfl
  | succ N ih =>
    intro n m h
    by_cases c : n = 0
    · subst c
      rw [ratio_divisor.L0_eq, ratio_divisor.f0, nt (by rfl), Nat.gcd_zero_right]; rfl
    · have hlt : m % n < n := Nat.mod_lt _ (by omega)
      have ht : Int.tmod (m : Int) (n : Int) = ((m % n : Nat) : Int) := by rw [Int.tmod_eq_emod_of_nonneg (by omega)]; rfl
      rw [ratio_divisor.L0_eq, ratio_divisor.f0, nf (by omega : (n : Int) ≠ 0), df (by omega : ¬ (n : Int) = 0), bindSelf, ht]
      simp only [cond_true, Bool.not_false]
      rw [ih (m % n) n (by omega), Nat.gcd_comm m n, Nat.gcd_rec n m, Nat.gcd_comm (m % n) n]
theorem divisor_ok (m n : Nat) : ratio_divisor.F (((m : Int), (n : Int), ()), ()) = some ((((Nat.gcd m n : Nat) : Int), ()), ()) := by
  rw [ratio_divisor.F_eq, ratio_divisor.f, gcd_loop n n m (Nat.le_refl _)]; rfl
/-- In range. -/
@[reducible] def InR (n d : Int) : Prop := 0 ≤ n ∧ n ≤ 2305843009213693952 ∧ 1 ≤ d ∧ d ≤ 1152921504606846976
/-- A valid ratio. -/
def VR (n d : Int) : Prop := InR n d ∧ Nat.gcd n.toNat d.toNat = 1
theorem within_ok (n d : Int) : ∃ b, ratio_within.F (((n, d, ()), ()), ()) = some ((b, ()), ()) ∧ (b = true ↔ InR n d) := by
  rw [ratio_within.F_eq, ratio_within.f]
  unfold InR
  by_cases c1 : n ≥ 0
  · rw [dt c1]
    by_cases c2 : n ≤ 2305843009213693952
    · rw [dt c2]
      by_cases c3 : d ≥ 1
      · rw [dt c3]
        by_cases c4 : d ≤ 1152921504606846976
        · rw [dt c4]; exact ⟨true, rfl, ⟨fun _ => by omega, fun _ => rfl⟩⟩
        · rw [df c4]; exact ⟨false, rfl, ⟨fun h => (by cases h), fun h => by omega⟩⟩
      · rw [df c3]; exact ⟨false, rfl, ⟨fun h => (by cases h), fun h => by omega⟩⟩
    · rw [df c2]; exact ⟨false, rfl, ⟨fun h => (by cases h), fun h => by omega⟩⟩
  · rw [df c1]; exact ⟨false, rfl, ⟨fun h => (by cases h), fun h => by omega⟩⟩
theorem valid_ok (n d : Int) : ∃ b, ratio_Valid.F (((n, d, ()), ()), ()) = some ((b, ()), ()) ∧ (b = true ↔ VR n d) := by
  obtain ⟨b, h1, h2⟩ := within_ok n d
  rw [ratio_Valid.F_eq, ratio_Valid.f, h1]
  simp only [Option.bind_some]
  cases b with
  | false => exact ⟨false, rfl, ⟨fun h => (by cases h), fun h => absurd (h2.2 h.1) (by simp)⟩⟩
  | true =>
    have hin := h2.1 rfl
    have hd := divisor_ok n.toNat d.toNat
    rw [Int.toNat_of_nonneg hin.1, Int.toNat_of_nonneg (by have := hin.2.2.1; omega)] at hd
    rw [hd]
    simp only [cond_true, Option.bind_some]
    refine ⟨_, rfl, ?_⟩
    constructor
    · intro h
      have := of_decide_eq_true h
      exact ⟨hin, by omega⟩
    · intro h
      have := h.2
      exact beq_iff_eq.2 (by omega)
theorem valid_true {n d : Int} (h : VR n d) : ratio_Valid.F (((n, d, ()), ()), ()) = some ((true, ()), ()) := by
  obtain ⟨b, h1, h2⟩ := valid_ok n d
  rw [h1, h2.2 h]

/-- A ratio in lowest terms. -/
def mkr (n d : Int) : Int × Int := (n / ((Nat.gcd n.toNat d.toNat : Nat) : Int), d / ((Nat.gcd n.toNat d.toNat : Nat) : Int))
theorem mkr_vr {n d : Int} (h : InR n d) : VR (mkr n d).1 (mkr n d).2 ∧ (mkr n d).1 * d = n * (mkr n d).2 := by
  obtain ⟨h1, h2, h3, h4⟩ := h
  obtain ⟨a, rfl⟩ : ∃ a : Nat, n = a := ⟨n.toNat, by omega⟩
  obtain ⟨b, rfl⟩ : ∃ b : Nat, d = b := ⟨d.toNat, by omega⟩
  have hg : 0 < Nat.gcd a b := Nat.gcd_pos_of_pos_right a (by omega)
  unfold mkr
  simp only [Int.toNat_natCast]
  have e1 : ((a : Int) / ((Nat.gcd a b : Nat) : Int)) = ((a / Nat.gcd a b : Nat) : Int) := rfl
  have e2 : ((b : Int) / ((Nat.gcd a b : Nat) : Int)) = ((b / Nat.gcd a b : Nat) : Int) := rfl
  rw [e1, e2]
  have l1 := Nat.div_le_self a (Nat.gcd a b)
  have l2 := Nat.div_le_self b (Nat.gcd a b)
  have l3 : 0 < b / Nat.gcd a b := Nat.div_pos (Nat.gcd_le_right a (by omega)) hg
  refine ⟨⟨?_, ?_⟩, ?_⟩
  · generalize a / Nat.gcd a b = q at *
    generalize b / Nat.gcd a b = r at *
    exact ⟨by omega, by omega, by omega, by omega⟩
  · simp only [Int.toNat_natCast]
    rw [Nat.gcd_div (Nat.gcd_dvd_left a b) (Nat.gcd_dvd_right a b), Nat.div_self hg]
  · have d1 := Nat.div_mul_cancel (Nat.gcd_dvd_left a b)
    have d2 := Nat.div_mul_cancel (Nat.gcd_dvd_right a b)
    have : a / Nat.gcd a b * b = a * (b / Nat.gcd a b) := by
      generalize hq : a / Nat.gcd a b = q at *
      generalize hr : b / Nat.gcd a b = r at *
      generalize hgg : Nat.gcd a b = g at *
      rw [← d1, ← d2, Nat.mul_assoc, Nat.mul_comm g r]
    exact_mod_cast this
theorem make_ok {n d : Int} (h : InR n d) : ratio_Make.F ((n, d, ()), ()) = some ((((mkr n d).1, (mkr n d).2, ()), 0, ()), ()) := by
  have hv := (mkr_vr h).1.1
  obtain ⟨h1, h2, h3, h4⟩ := h
  have hd := divisor_ok n.toNat d.toNat
  rw [Int.toNat_of_nonneg h1, Int.toNat_of_nonneg (by omega)] at hd
  have hg : 0 < Nat.gcd n.toNat d.toNat := Nat.gcd_pos_of_pos_right _ (by omega)
  rw [ratio_Make.F_eq, ratio_Make.f, ratio_Make.L0_eq, ratio_Make.f0, df (by omega), df (by omega)]
  simp only [cond_false, Option.bind_some, Sum.elim_inl]
  rw [hd]
  simp only [Option.bind_some]
  rw [df (by omega)]
  simp only [Bool.not_false, cond_true]
  have e1 : Int.tdiv n ((Nat.gcd n.toNat d.toNat : Nat) : Int) = (mkr n d).1 := by rw [Int.tdiv_eq_ediv_of_nonneg h1]; rfl
  have e2 : Int.tdiv d ((Nat.gcd n.toNat d.toNat : Nat) : Int) = (mkr n d).2 := by rw [Int.tdiv_eq_ediv_of_nonneg (by omega)]; rfl
  obtain ⟨b, w1, w2⟩ := within_ok (mkr n d).1 (mkr n d).2
  obtain ⟨v1, v2, v3, v4⟩ := hv
  rw [e1, e2, w64 (by omega), w64 (by omega), w1, w2.2 ⟨v1, v2, v3, v4⟩]
  rfl
theorem mkr_one {n : Int} (h : 0 ≤ n) : mkr n 1 = (n, 1) := by
  unfold mkr
  rw [show Nat.gcd n.toNat (Int.toNat 1) = 1 from Nat.gcd_one_right _]
  simp
theorem whole_ok {n : Int} (h : 0 ≤ n ∧ n ≤ 2305843009213693952) : measure_whole.F ((n, 0, ()), ()) = some (((n, 1, ()), 0, ()), ()) := by
  rw [measure_whole.F_eq, measure_whole.f, nt rfl, make_ok ⟨h.1, h.2, by omega, by omega⟩, mkr_one h.1]; rfl
theorem common_loop : ∀ (N n m : Nat), n ≤ N → ref01_common.L0 (((m : Int), (n : Int), ()), ()) = some (Sum.inl ((((Nat.gcd m n : Nat) : Int), ()), ())) := by
  intro N
  induction N with
  | zero =>
    intro n m h
    obtain rfl : n = 0 := by omega
    rw [ref01_common.L0_eq, ref01_common.f0, df (by omega), Nat.gcd_zero_right]; rfl
  | succ N ih =>
    intro n m h
    by_cases c : n = 0
    · subst c
      rw [ref01_common.L0_eq, ref01_common.f0, df (by omega), Nat.gcd_zero_right]; rfl
    · have hlt : m % n < n := Nat.mod_lt _ (by omega)
      have ht : Int.tmod (m : Int) (n : Int) = ((m % n : Nat) : Int) := by rw [Int.tmod_eq_emod_of_nonneg (by omega)]; rfl
      rw [ref01_common.L0_eq, ref01_common.f0, dt (by omega : (n : Int) > 0), df (by omega : ¬ (n : Int) = 0), bindSelf, ht]
      simp only [cond_true, Bool.not_false]
      rw [ih (m % n) n (by omega), Nat.gcd_comm m n, Nat.gcd_rec n m, Nat.gcd_comm (m % n) n]
theorem common_ok (m n : Nat) : ref01_common.F (((m : Int), (n : Int), ()), ()) = some ((((Nat.gcd m n : Nat) : Int), ()), ()) := by
  rw [ref01_common.F_eq, ref01_common.f, common_loop n n m (Nat.le_refl _)]; rfl
theorem rvalid_ok (n d : Int) : ∃ b, ref01_Valid.F (((n, d, ()), ()), ()) = some ((b, ()), ()) ∧ (b = true ↔ VR n d) := by
  have key : ∃ b, ref01_Valid.L0 (((), ()), ((n, d, ()), ())) = some (Sum.inl ((b, ()), ())) ∧ (b = true ↔ VR n d) := by
    rw [ref01_Valid.L0_eq, ref01_Valid.f0]
    unfold VR InR
    by_cases c1 : n ≥ 0
    · rw [dt c1]
      by_cases c2 : n ≤ 2305843009213693952
      · rw [dt c2]
        by_cases c3 : d ≥ 1
        · rw [dt c3]
          by_cases c4 : d ≤ 1152921504606846976
          · rw [dt c4]
            have hd := common_ok n.toNat d.toNat
            rw [Int.toNat_of_nonneg c1, Int.toNat_of_nonneg (by omega)] at hd
            rw [hd]
            refine ⟨_, rfl, ?_⟩
            constructor
            · intro h
              have := beq_iff_eq.1 h
              dsimp only at this
              exact ⟨⟨by omega, by omega, by omega, by omega⟩, by omega⟩
            · intro h
              have := h.2
              exact beq_iff_eq.2 (by dsimp only; omega)
          · rw [df c4]; exact ⟨false, rfl, ⟨fun h => (by cases h), fun h => by omega⟩⟩
        · rw [df c3]; exact ⟨false, rfl, ⟨fun h => (by cases h), fun h => by omega⟩⟩
      · rw [df c2]; exact ⟨false, rfl, ⟨fun h => (by cases h), fun h => by omega⟩⟩
    · rw [df c1]; exact ⟨false, rfl, ⟨fun h => (by cases h), fun h => by omega⟩⟩
  obtain ⟨b, h1, h2⟩ := key
  exact ⟨b, by rw [ref01_Valid.F_eq, ref01_Valid.f, show ref01_Valid.L0 (((), ()), ((n, (d, ())), ())) = _ from h1]; rfl, h2⟩
theorem rvalid_true {n d : Int} (h : VR n d) : ref01_Valid.F (((n, d, ()), ()), ()) = some ((true, ()), ()) := by
  obtain ⟨b, h1, h2⟩ := rvalid_ok n d
  rw [h1, h2.2 h]
/-- The order of two numbers, as -1, 0, 1. -/
def sg (u v : Int) : Int := if u < v then -1 else if u = v then 0 else 1
theorem order_round (n : Nat) {a b c d : Int} (ha : 0 ≤ a ∧ a ≤ 4611686018427387904) (hb : 1 ≤ b) (hc : 0 ≤ c ∧ c ≤ 4611686018427387904) (hd : 1 ≤ d) :
    recR ref01_order.S (n + 1) ((a, b, c, d, ()), ()) = if a / b = c / d then (if a % b = 0 then (if c % d = 0 then some ((0, ()), ()) else some ((-1, ()), ())) else if c % d = 0 then some ((1, ()), ()) else recR ref01_order.S n ((d, c % d, b, a % b, ()), ())) else if a / b < c / d then some ((-1, ()), ()) else some ((1, ()), ()) := by
  have p1 := Int.ediv_nonneg ha.1 (show 0 ≤ b by omega)
  have p2 := Int.ediv_le_self b ha.1
  have q1 := Int.ediv_nonneg hc.1 (show 0 ≤ d by omega)
  have q2 := Int.ediv_le_self d hc.1
  rw [ref01_order.R_eq]
  dsimp only
  rw [ref01_order.f]
  rw [df (by omega), df (by omega), Int.tdiv_eq_ediv_of_nonneg ha.1, Int.tdiv_eq_ediv_of_nonneg hc.1, Int.tmod_eq_emod_of_nonneg ha.1, Int.tmod_eq_emod_of_nonneg hc.1, w64 (n := a / b) (by omega), w64 (n := c / d) (by omega)]
  simp only [Bool.not_false, cond_true]
  by_cases e : a / b = c / d
  · rw [nt e, if_pos e, ref01_order.L0_eq, ref01_order.f0]
    by_cases r0 : a % b = 0
    · rw [bt r0, if_pos r0]
      by_cases s0 : c % d = 0
      · rw [bt s0, if_pos s0]; rfl
      · rw [bf s0, if_neg s0]
        simp only [cond_true, cond_false, Option.bind_some, Sum.elim_inl]
        first
          | (rw [bt r0]; rfl)
          | rfl
    · rw [bf r0, if_neg r0]
      by_cases s0 : c % d = 0
      · rw [if_pos s0]
        simp only [cond_true, cond_false, Option.bind_some, Sum.elim_inl]
        first
          | (rw [bf r0, bt s0]; rfl)
          | (rw [bt s0]; rfl)
      · rw [if_neg s0]
        simp only [cond_true, cond_false, Option.bind_some, Sum.elim_inl]
        first
          | rw [bf r0, bf s0]
          | rw [bf s0]
        simp only [cond_false]
        exact bindSelf _
  · rw [nf e, if_neg e]
    by_cases l : a / b < c / d
    · rw [dt l, if_pos l]; rfl
    · rw [df l, if_neg l]; rfl
theorem order_cmp {a b c d : Int} (ha : 0 ≤ a) (hb : 1 ≤ b) (hc : 0 ≤ c) (hd : 1 ≤ d) :
    (a / b < c / d → a * d < c * b) ∧ (a / b = c / d → a * d - c * b = d * (a % b) - b * (c % d)) := by
  have e1 := Int.emod_add_mul_ediv a b
  have e2 := Int.emod_add_mul_ediv c d
  have r1 := Int.emod_lt_of_pos a (show 0 < b by omega)
  have r2 := Int.emod_nonneg c (show d ≠ 0 by omega)
  generalize a % b = r at *
  generalize c % d = s at *
  generalize a / b = p at *
  generalize c / d = q at *
  constructor
  · intro h
    have h1 : a < b * q := by
      have : b * (p + 1) ≤ b * q := Int.mul_le_mul_of_nonneg_left (by omega) (by omega)
      rw [Int.mul_add, Int.mul_one] at this; omega
    have h2 : a * d < b * q * d := Int.mul_lt_mul_of_pos_right h1 (by omega)
    have h3 : d * q * b ≤ c * b := Int.mul_le_mul_of_nonneg_right (by omega) (by omega)
    have h4 : b * q * d = d * q * b := by rw [Int.mul_comm d q, Int.mul_comm b q, Int.mul_assoc, Int.mul_assoc, Int.mul_comm b d]
    omega
  · rintro rfl
    subst e1 e2
    rw [Int.add_mul, Int.add_mul, Int.mul_comm r d, Int.mul_comm s b, show b * p * d = d * p * b by rw [Int.mul_comm d p, Int.mul_comm b p, Int.mul_assoc, Int.mul_assoc, Int.mul_comm b d]]
    omega
theorem sg_eq {u v u' v' : Int} (h : u - v = u' - v') : sg u v = sg u' v' := by
  unfold sg
  by_cases c1 : u < v
  · have : u' < v' := by omega
    simp [c1, this]
  · have : ¬ u' < v' := by omega
    by_cases c2 : u = v
    · have : u' = v' := by omega
      subst c2 this; simp
    · have : ¬ u' = v' := by omega
      simp [*]
theorem order_step (n : Nat) {a b c d : Int} (ha : 0 ≤ a ∧ a ≤ 4611686018427387904) (hb : 1 ≤ b) (hc : 0 ≤ c ∧ c ≤ 4611686018427387904) (hd : 1 ≤ d)
    (H : 1 ≤ c % d → 1 ≤ a % b → recR ref01_order.S n ((d, c % d, b, a % b, ()), ()) = some ((sg (d * (a % b)) (b * (c % d)), ()), ())) :
    recR ref01_order.S (n + 1) ((a, b, c, d, ()), ()) = some ((sg (a * d) (c * b), ()), ()) := by
  have h1 := order_cmp ha.1 hb hc.1 hd
  have h2 := order_cmp hc.1 hd ha.1 hb
  have m1 := Int.emod_nonneg a (show b ≠ 0 by omega)
  have m2 := Int.emod_nonneg c (show d ≠ 0 by omega)
  rw [order_round n ha hb hc hd]
  by_cases e : a / b = c / d
  · rw [if_pos e, sg_eq (h1.2 e)]
    by_cases r0 : a % b = 0
    · rw [if_pos r0, r0, Int.mul_zero]
      by_cases s0 : c % d = 0
      · rw [if_pos s0, s0, Int.mul_zero]; rfl
      · have := Int.mul_pos (show 0 < b by omega) (show 0 < c % d by omega)
        rw [if_neg s0]; unfold sg; rw [if_pos (by omega)]
    · rw [if_neg r0]
      have := Int.mul_pos (show 0 < d by omega) (show 0 < a % b by omega)
      by_cases s0 : c % d = 0
      · rw [if_pos s0, s0, Int.mul_zero]; unfold sg; rw [if_neg (by omega), if_neg (by omega)]
      · rw [if_neg s0]; exact H (by omega) (by omega)
  · rw [if_neg e]
    by_cases l : a / b < c / d
    · have := h1.1 l
      rw [if_pos l]; unfold sg; rw [if_pos (by omega)]
    · have := h2.1 (by omega)
      rw [if_neg l]; unfold sg; rw [if_neg (by omega), if_neg (by omega)]
theorem half_mod {b r : Int} (hr : 1 ≤ r) (hb : r ≤ b) : 2 * (b % r) < b := by
  have e1 := Int.emod_add_mul_ediv b r
  have r1 := Int.emod_lt_of_pos b (show 0 < r by omega)
  have : 1 ≤ b / r := Int.le_ediv_of_mul_le (by omega) (by omega)
  have : r * 1 ≤ r * (b / r) := Int.mul_le_mul_of_nonneg_left this (by omega)
  omega
theorem order_ok : ∀ (k n : Nat) (a b c d : Int), 2 * k ≤ n → 0 ≤ a ∧ a ≤ 4611686018427387904 → 1 ≤ b ∧ b ≤ 4611686018427387904 → 0 ≤ c ∧ c ≤ 4611686018427387904 → 1 ≤ d ∧ d ≤ 4611686018427387904 → b < 2 ^ k → recR ref01_order.S n ((a, b, c, d, ()), ()) = some ((sg (a * d) (c * b), ()), ()) := by
  intro k
  induction k with
  | zero => intro n a b c d hn ha hb hc hd hk; simp at hk; omega
  | succ k ih =>
    intro n a b c d hn ha hb hc hd hk
    obtain ⟨m, rfl⟩ : ∃ m, n = m + 2 := ⟨n - 2, by omega⟩
    refine order_step (m + 1) ha hb.1 hc hd.1 fun p1 p2 => ?_
    have r1 := Int.emod_lt_of_pos a (show 0 < b by omega)
    have r2 := Int.emod_lt_of_pos c (show 0 < d by omega)
    have := half_mod p2 (show a % b ≤ b by omega)
    have := half_mod p1 (show c % d ≤ d by omega)
    have hp : (2 : Int) ^ (k + 1) = 2 ^ k * 2 := Int.pow_succ ..
    refine order_step m (by omega) p1 (by omega) p2 fun q1 q2 => ?_
    exact ih m _ _ _ _ (by omega) (by omega) (by omega) (by omega) (by omega) (by omega)
theorem rcmp_ok {a b c d : Int} (h : VR a b) (h' : VR c d) : ref01_Cmp.F (((a, b, ()), (c, d, ()), ()), ()) = some ((sg (a * d) (c * b), ()), ()) := by
  have v1 := rvalid_true h
  have v2 := rvalid_true h'
  obtain ⟨⟨h1, h2, h3, h4⟩, _⟩ := h
  obtain ⟨⟨k1, k2, k3, k4⟩, _⟩ := h'
  rw [ref01_Cmp.F_eq, ref01_Cmp.f, ref01_Cmp.L0_eq, ref01_Cmp.f0, v1, v2]
  simp only [Option.bind_some, Bool.not_true, cond_false, Sum.elim_inl]
  rw [show ref01_order.F ((a, (b, (c, (d, ())))), ()) = _ from order_ok 62 200 a b c d (by omega) (by omega) (by omega) (by omega) (by omega) (by omega)]
  rfl
theorem rless_ok {a b c d : Int} (h : VR a b) (h' : VR c d) : ref01_Less.F (((a, b, ()), (c, d, ()), ()), ()) = some ((decide (a * d < c * b), ()), ()) := by
  rw [ref01_Less.F_eq, ref01_Less.f, rcmp_ok h h']
  have : decide (sg (a * d) (c * b) < 0) = decide (a * d < c * b) := by
    unfold sg
    by_cases e : a * d < c * b
    · rw [if_pos e, dt e]; rfl
    · rw [if_neg e, df e]; split <;> rfl
  show some ((decide (sg (a * d) (c * b) < 0), ()), ()) = _
  rw [this]
end Go.Proofs.Ytefcciajemkicaa.V
