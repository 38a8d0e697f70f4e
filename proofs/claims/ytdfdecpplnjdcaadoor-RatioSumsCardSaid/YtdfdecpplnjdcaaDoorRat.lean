/- Ratios: what the ratio package computes, for valid ratios: the divisor, Make, Cmp, Less, Floor, Ceil, Least. -/
import Derived.Laws.BitsLemmas
import Derived.Test.YtdfdecpplnjdcaaDoorHx2
import Derived.Test.YtdfdecpplnjdcaaDoorHx3
import Derived.Test.YtdfdecpplnjdcaaDoorHx4
import Derived.Test.YtdfdecpplnjdcaaDoorHx11
import Derived.Test.YtdfdecpplnjdcaaDoorHx12
import Derived.Test.YtdfdecpplnjdcaaDoorHx13
import Derived.Test.YtdfdecpplnjdcaaDoorBase
import Derived.Test.YtdfdecpplnjdcaaDoorKeep
namespace Go.Proofs.YtdfdecpplnjdcaaDoor.Rat
open Go.RowKit Go.Proofs.YtdfdecpplnjdcaaDoor.Hp Go.Proofs.YtdfdecpplnjdcaaDoorW.PrintWords Go.Proofs.YtdfdecpplnjdcaaDoorW.PrintLast Go.Proofs.YtdfdecpplnjdcaaDoorW.PrintMore
open Go.Proofs.YtdfdecpplnjdcaaDoor.Base Go.Proofs.YtdfdecpplnjdcaaDoor.Keep

theorem gcd_loop : ∀ (N : Nat) (n m : Nat), n ≤ N → ∃ K, ∀ k, K ≤ k → ratio_divisor.l0 k (m : Int) (n : Int) = some ((Nat.gcd m n : Nat) : Int) := by
  intro N
  induction N with
  | zero =>
    intro n m h
    obtain rfl : n = 0 := by omega
    refine ⟨1, fun k hk => ?_⟩
    obtain ⟨k, rfl, hk'⟩ := succ_of hk
    simp only [ratio_divisor.l0]; rw [if_pos (by rfl), Nat.gcd_zero_right]
  | succ N ih =>
    intro n m h
    by_cases c : n = 0
    · subst c
      refine ⟨1, fun k hk => ?_⟩
      obtain ⟨k, rfl, hk'⟩ := succ_of hk
      simp only [ratio_divisor.l0]; rw [if_pos (by rfl), Nat.gcd_zero_right]
    · have hlt : m % n < n := Nat.mod_lt _ (by omega)
      obtain ⟨K, hK⟩ := ih (m % n) n (by omega)
      refine ⟨K + 1, fun k hk => ?_⟩
      obtain ⟨k, rfl, hk'⟩ := succ_of hk
      simp only [ratio_divisor.l0]
      rw [if_neg (by omega), Int.tmod_eq_emod_of_nonneg (by omega), ← Int.natCast_emod, hK k hk', Nat.gcd_comm m n, Nat.gcd_rec n m, Nat.gcd_comm (m % n) n]
theorem divisor_ok {a b : Int} (ha : 0 ≤ a) (hb : 0 ≤ b) : ∃ K, ∀ k, K ≤ k → ratio_divisor.f k a b = some ((Nat.gcd a.toNat b.toNat : Nat) : Int) := by
  obtain ⟨K, hK⟩ := gcd_loop b.toNat b.toNat a.toNat (Nat.le_refl _)
  rw [Int.toNat_of_nonneg ha, Int.toNat_of_nonneg hb] at hK
  exact ⟨K, fun k hk => by unfold ratio_divisor.f; exact hK k hk⟩

/-- In range. -/
@[reducible] def In (n d : Int) : Prop := 0 ≤ n ∧ n ≤ 2305843009213693952 ∧ 1 ≤ d ∧ d ≤ 1152921504606846976
/-- A valid ratio. -/
def VR (n d : Int) : Prop := In n d ∧ Nat.gcd n.toNat d.toNat = 1

theorem within_ok {n d : Int} : ratio_within.f n d = some (decide (In n d)) := by
  unfold ratio_within.f In
  by_cases c1 : n ≥ 0
  · rw [if_pos c1]
    by_cases c2 : n ≤ 2305843009213693952
    · rw [if_pos c2]
      by_cases c3 : d ≥ 1
      · rw [if_pos c3]; exact congrArg some (decide_eq_decide.mpr (by omega))
      · rw [if_neg c3]; congr 1; simp; omega
    · rw [if_neg c2]; congr 1; simp; omega
  · rw [if_neg c1]; congr 1; simp; omega

theorem valid_ok {n d : Int} (h : VR n d) : ∃ K, ∀ k, K ≤ k → ratio_Valid.f k n d = some true := by
  obtain ⟨hin, hg⟩ := h
  obtain ⟨K, hK⟩ := divisor_ok (a := n) (b := d) hin.1 (by have := hin.2.2.1; omega)
  refine ⟨K, fun k hk => ?_⟩
  unfold ratio_Valid.f
  rw [within_ok]; simp only [Option.bind_some]
  rw [if_pos (decide_eq_true hin), hK k hk, hg]; rfl

theorem tdiv_nat {a : Int} {g : Nat} (ha : 0 ≤ a) : Int.tdiv a (g : Int) = ((a.toNat / g : Nat) : Int) := by
  obtain ⟨m, rfl⟩ := Int.eq_ofNat_of_zero_le ha
  rw [Int.tdiv_eq_ediv_of_nonneg ha, Int.toNat_natCast]; rfl

/-- Make: both numbers divided by their divisor. -/
theorem make_ok {n d : Int} (hn : 0 ≤ n) (hd : 1 ≤ d) (hn2 : n ≤ 9223372036854775807) (hd2 : d ≤ 9223372036854775807)
    (h : In ((n.toNat / Nat.gcd n.toNat d.toNat : Nat) : Int) ((d.toNat / Nat.gcd n.toNat d.toNat : Nat) : Int)) :
    ∃ K, ∀ k, K ≤ k → ratio_Make.f k n d = some (((n.toNat / Nat.gcd n.toNat d.toNat : Nat) : Int), ((d.toNat / Nat.gcd n.toNat d.toNat : Nat) : Int), 0) := by
  obtain ⟨K, hK⟩ := divisor_ok (a := n) (b := d) hn (by omega)
  have hg : 0 < Nat.gcd n.toNat d.toNat := Nat.gcd_pos_of_pos_right _ (by omega)
  refine ⟨K + 1, fun k hk => ?_⟩
  obtain ⟨k, rfl, hk'⟩ := succ_of hk
  have b1 := h.1; have b2 := h.2.1; have b3 := h.2.2.1; have b4 := h.2.2.2
  unfold ratio_Make.f
  rw [if_neg (by omega), decide_eq_false (by omega)]
  simp only [ratio_Make.j0]
  rw [if_neg (by simp), hK k hk']; simp only [Option.bind_some]
  rw [if_neg (by omega), tdiv_nat hn, tdiv_nat (by omega), w64 (by omega) (by omega), w64 (by omega) (by omega), within_ok]; simp only [Option.bind_some]
  rw [if_pos (decide_eq_true h)]

theorem u64_id {n : Int} (h0 : 0 ≤ n) (h1 : n < 18446744073709551616) : IntKind.u64.wrap n = n := by rw [IntKind.wrap_u64]; omega
theorem u64_and32 {x : Int} (h0 : 0 ≤ x) (h1 : x < 18446744073709551616) : Go.bits .and .u64 x 4294967295 = x % 4294967296 :=
  bits_mask .u64 64 (by decide) (fun n a b => u64_id a b) 32 (by decide) x h0 h1

theorem mul64_ok {x y : Int} (x0 : 0 ≤ x) (x1 : x < 18446744073709551616) (y0 : 0 ≤ y) (y1 : y < 18446744073709551616) : bits_Mul64.f x y = some (x * y / 18446744073709551616, x * y % 18446744073709551616) := by
  obtain ⟨a, ha⟩ : ∃ a, a = x / 4294967296 := ⟨_, rfl⟩
  obtain ⟨b, hb⟩ : ∃ b, b = x % 4294967296 := ⟨_, rfl⟩
  obtain ⟨c, hc⟩ : ∃ c, c = y / 4294967296 := ⟨_, rfl⟩
  obtain ⟨d, hd⟩ : ∃ d, d = y % 4294967296 := ⟨_, rfl⟩
  have hx : x = a * 4294967296 + b := by omega
  have hy : y = c * 4294967296 + d := by omega
  have ba : 0 ≤ a ∧ a ≤ 4294967295 := by omega
  have bb : 0 ≤ b ∧ b ≤ 4294967295 := by omega
  have bc : 0 ≤ c ∧ c ≤ 4294967295 := by omega
  have bd : 0 ≤ d ∧ d ≤ 4294967295 := by omega
  have pac := mul_bd' (a := a) (b := c) (A := 4294967295) (B := 4294967295) ba.1 ba.2 bc.1 bc.2
  have pad := mul_bd' (a := a) (b := d) (A := 4294967295) (B := 4294967295) ba.1 ba.2 bd.1 bd.2
  have pbc := mul_bd' (a := b) (b := c) (A := 4294967295) (B := 4294967295) bb.1 bb.2 bc.1 bc.2
  have pbd := mul_bd' (a := b) (b := d) (A := 4294967295) (B := 4294967295) bb.1 bb.2 bd.1 bd.2
  have hxy : x * y = a * c * 18446744073709551616 + (a * d + b * c) * 4294967296 + b * d := by rw [hx, hy]; grind
  unfold bits_Mul64.f
  rw [u64_and32 x0 x1, u64_and32 y0 y1, ← ha, ← hb, ← hc, ← hd, hxy]
  clear hxy hx hy ha hb hc hd
  generalize a * c = A at *
  generalize a * d = B at *
  generalize b * c = C at *
  generalize b * d = D at *
  rw [u64_id (n := A) (by omega) (by omega), u64_id (n := B) (by omega) (by omega), u64_id (n := C) (by omega) (by omega), u64_id (n := D) (by omega) (by omega), u64_id (n := B + D / 4294967296) (by omega) (by omega)]
  rw [u64_and32 (x := B + D / 4294967296) (by omega) (by omega), u64_id (n := (B + D / 4294967296) % 4294967296 + C) (by omega) (by omega), u64_id (n := A + (B + D / 4294967296) / 4294967296) (by omega) (by omega), u64_id (by omega) (by omega), IntKind.wrap_u64]
  congr 1
  refine Prod.ext ?_ rfl
  show A + (B + D / 4294967296) / 4294967296 + ((B + D / 4294967296) % 4294967296 + C) / 4294967296 = _
  omega

/-- How two whole numbers are ordered. -/
def sgn (p q : Int) : Int := if p < q then -1 else if p = q then 0 else 1

theorem cmp_ok {a b c d : Int} (h : VR a b) (h' : VR c d) : ∃ K, ∀ k, K ≤ k → ratio_Cmp.f k a b c d = some (sgn (a * d) (c * b)) := by
  obtain ⟨K1, hK1⟩ := valid_ok h
  obtain ⟨K2, hK2⟩ := valid_ok h'
  obtain ⟨⟨a0, a1, b0, b1⟩, _⟩ := h
  obtain ⟨⟨c0, c1, d0, d1⟩, _⟩ := h'
  have p1 := mul_bd' (a := a) (b := d) (A := 2305843009213693952) (B := 1152921504606846976) a0 a1 (by omega) d1
  have p2 := mul_bd' (a := c) (b := b) (A := 2305843009213693952) (B := 1152921504606846976) c0 c1 (by omega) b1
  refine ⟨K1 + K2 + 2, fun k hk => ?_⟩
  obtain ⟨k, rfl⟩ : ∃ m, k = m + 2 := ⟨k - 2, by omega⟩
  unfold ratio_Cmp.f
  rw [hK1 _ (by omega)]; simp only [Option.bind_some]
  rw [if_pos (by trivial), hK2 _ (by omega)]; simp only [Option.bind_some]
  simp only [ratio_Cmp.j0]
  rw [if_neg (by simp), u64_id (n := a) (by omega) (by omega), u64_id (n := b) (by omega) (by omega), u64_id (n := c) (by omega) (by omega), u64_id (n := d) (by omega) (by omega)]
  rw [mul64_ok (by omega) (by omega) (by omega) (by omega), mul64_ok (by omega) (by omega) (by omega) (by omega)]; simp only [Option.bind_some]
  generalize a * d = p at *
  generalize c * b = q at *
  simp only [ratio_Cmp.j1]
  unfold sgn
  by_cases e1 : p / 18446744073709551616 < q / 18446744073709551616
  · rw [if_pos e1, if_pos (by trivial), if_pos (by omega)]
  · rw [if_neg e1]
    by_cases e2 : p / 18446744073709551616 = q / 18446744073709551616
    · rw [if_pos e2]
      by_cases e3 : p % 18446744073709551616 < q % 18446744073709551616
      · rw [if_pos (decide_eq_true e3), if_pos (by omega)]
      · rw [if_neg (by simpa using e3), if_pos e2]
        by_cases e4 : p % 18446744073709551616 = q % 18446744073709551616
        · rw [if_pos e4, if_neg (by omega), if_pos (by omega)]
        · rw [if_neg e4, if_neg (by omega), if_neg (by omega)]
    · rw [if_neg e2, if_neg (by simp), if_neg e2, if_neg (by omega), if_neg (by omega)]

theorem less_ok {a b c d : Int} (h : VR a b) (h' : VR c d) : ∃ K, ∀ k, K ≤ k → ratio_Less.f k a b c d = some (decide (a * d < c * b)) := by
  obtain ⟨K, hK⟩ := cmp_ok h h'
  refine ⟨K, fun k hk => ?_⟩
  unfold ratio_Less.f
  rw [hK k hk]; simp only [Option.bind_some]
  unfold sgn
  by_cases c1 : a * d < c * b
  · rw [if_pos c1, decide_eq_true c1]; rfl
  · rw [if_neg c1, decide_eq_false c1]; split <;> rfl

/-- Valid ratios whose products crosswise are equal are one. -/
theorem VR.ext {a b c d : Int} (h : VR a b) (h' : VR c d) (e : a * d = c * b) : a = c ∧ b = d := by
  obtain ⟨⟨a0, _, b0, _⟩, g⟩ := h
  obtain ⟨⟨c0, _, d0, _⟩, g'⟩ := h'
  obtain ⟨a, rfl⟩ := Int.eq_ofNat_of_zero_le a0
  obtain ⟨b, rfl⟩ := Int.eq_ofNat_of_zero_le (show 0 ≤ b by omega)
  obtain ⟨c, rfl⟩ := Int.eq_ofNat_of_zero_le c0
  obtain ⟨d, rfl⟩ := Int.eq_ofNat_of_zero_le (show 0 ≤ d by omega)
  rw [Int.toNat_natCast, Int.toNat_natCast] at g g'
  have e' : a * d = c * b := by exact_mod_cast e
  have h1 : b ∣ d := (Nat.Coprime.symm g : Nat.Coprime b a).dvd_of_dvd_mul_left (by rw [e']; exact Nat.dvd_mul_left _ _)
  have h2 : d ∣ b := (Nat.Coprime.symm g' : Nat.Coprime d c).dvd_of_dvd_mul_left (by rw [← e']; exact Nat.dvd_mul_left _ _)
  have hbd : b = d := Nat.dvd_antisymm h1 h2
  subst hbd
  have : a = c := Nat.eq_of_mul_eq_mul_right (show 0 < b by omega) e'
  subst this
  exact ⟨rfl, rfl⟩

/-- What divides nothing but 1 is left of two numbers by their divisor. -/
theorem VR.of_div {n d : Int} (hd : 1 ≤ d)
    (h : In ((n.toNat / Nat.gcd n.toNat d.toNat : Nat) : Int) ((d.toNat / Nat.gcd n.toNat d.toNat : Nat) : Int)) : VR ((n.toNat / Nat.gcd n.toNat d.toNat : Nat) : Int) ((d.toNat / Nat.gcd n.toNat d.toNat : Nat) : Int) := by
  refine ⟨h, ?_⟩
  rw [Int.toNat_natCast, Int.toNat_natCast]
  exact Nat.gcd_div_gcd_div_gcd_of_pos_right (by omega)

theorem ratio_loop (n d : Int) (L : List Int) (j : Int) (hn : 0 ≤ n) (hd : 1 ≤ d) (hn2 : n ≤ 9223372036854775807) (hd2 : d ≤ 9223372036854775807) : ∀ (N : Nat) (y x : Nat), y ≤ N → Nat.gcd x y = Nat.gcd n.toNat d.toNat →
    ∃ K, ∀ k, K ≤ k → shapesearchkeep_Src_Ratio.l0 k n d (x : Int) (y : Int) L j = some (((n.toNat / Nat.gcd n.toNat d.toNat : Nat) : Int), ((d.toNat / Nat.gcd n.toNat d.toNat : Nat) : Int), j) := by
  have hg : 0 < Nat.gcd n.toNat d.toNat := Nat.gcd_pos_of_pos_right _ (by omega)
  have e1 : n.toNat / Nat.gcd n.toNat d.toNat ≤ n.toNat := Nat.div_le_self _ _
  have e2 : d.toNat / Nat.gcd n.toNat d.toNat ≤ d.toNat := Nat.div_le_self _ _
  have e3 : (0 : Int) ≤ ((n.toNat / Nat.gcd n.toNat d.toNat : Nat) : Int) := Int.natCast_nonneg _
  have e4 : (0 : Int) ≤ ((d.toNat / Nat.gcd n.toNat d.toNat : Nat) : Int) := Int.natCast_nonneg _
  intro N
  induction N with
  | zero =>
    intro y x hy h
    obtain rfl : y = 0 := by omega
    rw [Nat.gcd_zero_right] at h
    subst h
    refine ⟨1, fun k hk => ?_⟩
    obtain ⟨k, rfl, hk'⟩ := succ_of hk
    simp only [shapesearchkeep_Src_Ratio.l0]
    rw [if_neg (by omega), if_neg (by omega), tdiv_nat hn, tdiv_nat (by omega), w64 (by omega) (by omega), w64 (by omega) (by omega)]
  | succ N ih =>
    intro y x hy h
    by_cases c : y = 0
    · exact ih y x (by omega) h
    · have hlt : x % y < y := Nat.mod_lt _ (by omega)
      obtain ⟨K, hK⟩ := ih (x % y) y (by omega) (by rw [← h, Nat.gcd_comm x y, Nat.gcd_rec y x, Nat.gcd_comm (x % y) y])
      refine ⟨K + 1, fun k hk => ?_⟩
      obtain ⟨k, rfl, hk'⟩ := succ_of hk
      simp only [shapesearchkeep_Src_Ratio.l0]
      rw [if_pos (by omega), if_neg (by omega), Int.tmod_eq_emod_of_nonneg (by omega), ← Int.natCast_emod, hK k hk']

/-- A valid ratio out of the reader of numbers. -/
theorem src_ratio {L : List Int} {i : Int} (h : Src L i) : ∃ a b j, (∃ K, ∀ k, K ≤ k → shapesearchkeep_Src_Ratio.f k L i = some (a, b, j)) ∧ Src L j ∧ VR a b := by
  obtain ⟨p, j1, e1, hj1, hp⟩ := pick_ok h [0, 1, 3, 7, 50, 1000, 1099511627776, 2305843009213693952, 2305843009213693951] (by simp) (by simp)
  have hp' : 0 ≤ p ∧ p ≤ 2305843009213693952 := by simp at hp; omega
  obtain ⟨q, j2, e2, hj2, q0, q1⟩ := n_ok hj1 5 (by omega) (by omega)
  obtain ⟨d, j3, e3, hj3, hd⟩ := pick_ok hj2 [1, 1, 2, 3, 8, 60, 1099511627776, 1152921504606846976, 1152921504606846975] (by simp) (by simp)
  have hd' : 1 ≤ d ∧ d ≤ 1152921504606846976 := by simp at hd; omega
  obtain ⟨n, hn⟩ : ∃ n, n = mn (p + q) 2305843009213693952 := ⟨_, rfl⟩
  have hn' : 0 ≤ n ∧ n ≤ 2305843009213693952 := by rw [hn]; unfold mn; split <;> omega
  obtain ⟨K, hK⟩ := ratio_loop n d L j3 hn'.1 hd'.1 (by omega) (by omega) d.toNat d.toNat n.toNat (Nat.le_refl _) rfl
  rw [Int.toNat_of_nonneg hn'.1, Int.toNat_of_nonneg (show 0 ≤ d by omega)] at hK
  have hin : In ((n.toNat / Nat.gcd n.toNat d.toNat : Nat) : Int) ((d.toNat / Nat.gcd n.toNat d.toNat : Nat) : Int) := by
    have g1 := Nat.div_le_self n.toNat (Nat.gcd n.toNat d.toNat)
    have g2 := Nat.div_le_self d.toNat (Nat.gcd n.toNat d.toNat)
    have g4 : (0 : Int) ≤ ((n.toNat / Nat.gcd n.toNat d.toNat : Nat) : Int) := Int.natCast_nonneg _
    have g3 : 0 < d.toNat / Nat.gcd n.toNat d.toNat := Nat.div_pos (Nat.gcd_le_right _ (by omega)) (Nat.gcd_pos_of_pos_right _ (by omega))
    exact ⟨by omega, by omega, by omega, by omega⟩
  refine ⟨_, _, j3, ⟨K, fun k hk => ?_⟩, hj3, VR.of_div hd'.1 hin⟩
  unfold shapesearchkeep_Src_Ratio.f
  rw [e1]; simp only [Option.bind_some]
  rw [e2]; simp only [Option.bind_some]
  rw [e3]; simp only [Option.bind_some]
  rw [w64 (n := p + q) (by omega) (by omega), ← hn]
  exact hK k hk

end Go.Proofs.YtdfdecpplnjdcaaDoor.Rat
