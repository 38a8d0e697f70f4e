/- Two ratios are compared by products of 128 bits. -/
import Derived.Test.YtefcciajemkicaaVg2
import Derived.Test.YtefcciajemkicaaVBase
import Derived.Test.YtefcciajemkicaaVGcd
set_option linter.unusedVariables false
set_option linter.unusedSimpArgs false
namespace Go.Proofs.Ytefcciajemkicaa.V
open Go.VI
theorem u64_id {n : Int} (h0 : 0 ≤ n) (h1 : n < 18446744073709551616) : Go.IntKind.wrap .u64 n = n := by rw [Go.IntKind.wrap_u64]; omega
theorem hi32 (x : Int) : Int.fdiv x ((2 : Int) ^ (Min.min (Int.toNat (32 : Int)) (64 : Nat))) = x / 4294967296 := by
  rw [show (2 : Int) ^ (Min.min (Int.toNat (32 : Int)) (64 : Nat)) = 4294967296 from rfl]
  exact Int.fdiv_eq_ediv_of_nonneg _ (by omega)
theorem lo32 {x : Int} (h0 : 0 ≤ x) (h1 : x < 18446744073709551616) : ((BitVec.toNat (HAnd.hAnd (BitVec.ofInt (64 : Nat) x) (BitVec.ofInt (64 : Nat) (4294967295 : Int))) : Nat) : Int) = x % 4294967296 := by
  rw [BitVec.toNat_and, BitVec.toNat_ofInt, BitVec.toNat_ofInt]
  have e1 : ((4294967295 : Int) % ((2 ^ 64 : Nat) : Int)).toNat = 2 ^ 32 - 1 := by decide
  have e2 : (x % ((2 ^ 64 : Nat) : Int)).toNat = x.toNat := by
    have : ((2 ^ 64 : Nat) : Int) = 18446744073709551616 := by decide
    rw [this]; omega
  rw [e1, e2, Nat.and_two_pow_sub_one_eq_mod]
  omega
theorem mul_hi (A B C D : Int) (hA : 0 ≤ A) (hB : 0 ≤ B) (hC : 0 ≤ C) (hD : 0 ≤ D) : A + (B + D / 4294967296) / 4294967296 + ((B + D / 4294967296) % 4294967296 + C) / 4294967296 = (A * 18446744073709551616 + (B + C) * 4294967296 + D) / 18446744073709551616 := by
  obtain ⟨r, hr⟩ : ∃ r, r = D / 4294967296 := ⟨_, rfl⟩
  rw [← hr]
  obtain ⟨p, hp⟩ : ∃ p, p = (B + r) / 4294967296 := ⟨_, rfl⟩
  obtain ⟨q, hq⟩ : ∃ q, q = (B + r) % 4294967296 := ⟨_, rfl⟩
  rw [← hp, ← hq]
  obtain ⟨m, hm⟩ : ∃ m, m = (q + C) / 4294967296 := ⟨_, rfl⟩
  rw [← hm]
  refine ((Int.ediv_emod_unique (a := A * 18446744073709551616 + (B + C) * 4294967296 + D) (b := 18446744073709551616) (r := (q + C - 4294967296 * m) * 4294967296 + (D - 4294967296 * r)) (q := A + p + m) (by omega)).2 ⟨by omega, by omega, by omega⟩).1.symm
theorem mul64_ok {x y : Int} (x0 : 0 ≤ x) (x1 : x < 18446744073709551616) (y0 : 0 ≤ y) (y1 : y < 18446744073709551616) : bits_Mul64.F ((x, y, ()), ()) = some ((x * y / 18446744073709551616, x * y % 18446744073709551616, ()), ()) := by
  obtain ⟨a, ha⟩ : ∃ a, a = x / 4294967296 := ⟨_, rfl⟩
  obtain ⟨b, hb⟩ : ∃ b, b = x % 4294967296 := ⟨_, rfl⟩
  obtain ⟨c, hc⟩ : ∃ c, c = y / 4294967296 := ⟨_, rfl⟩
  obtain ⟨d, hd⟩ : ∃ d, d = y % 4294967296 := ⟨_, rfl⟩
  have hx : x = a * 4294967296 + b := by omega
  have hy : y = c * 4294967296 + d := by omega
  have ba : 0 ≤ a ∧ a ≤ 4294967295 := by omega
  have bb : 0 ≤ b ∧ b ≤ 4294967295 := by omega
  have bc : 0 ≤ c ∧ c ≤ 4294967295 := by omega
  have bd : 0 ≤ d ∧ d ≤ 4294967295 := by omega
  have pac := mul_bd (a := a) (b := c) (A := 4294967295) (B := 4294967295) ba.1 ba.2 bc.1 bc.2
  have pad := mul_bd (a := a) (b := d) (A := 4294967295) (B := 4294967295) ba.1 ba.2 bd.1 bd.2
  have pbc := mul_bd (a := b) (b := c) (A := 4294967295) (B := 4294967295) bb.1 bb.2 bc.1 bc.2
  have pbd := mul_bd (a := b) (b := d) (A := 4294967295) (B := 4294967295) bb.1 bb.2 bd.1 bd.2
  have hxy : x * y = a * c * 18446744073709551616 + (a * d + b * c) * 4294967296 + b * d := by rw [hx, hy]; grind
  rw [bits_Mul64.F_eq, bits_Mul64.f]
  simp only [hi32]
  rw [lo32 x0 x1, lo32 y0 y1, ← ha, ← hb, ← hc, ← hd, hxy]
  clear hxy hx hy ha hb hc hd
  rw [u64_id (n := b) (by omega) (by omega), u64_id (n := d) (by omega) (by omega)]
  generalize a * c = A at *
  generalize a * d = B at *
  generalize b * c = C at *
  generalize b * d = D at *
  rw [u64_id (n := A) (by omega) (by omega), u64_id (n := B) (by omega) (by omega), u64_id (n := C) (by omega) (by omega), u64_id (n := D) (by omega) (by omega), u64_id (n := B + D / 4294967296) (by omega) (by omega)]
  rw [lo32 (x := B + D / 4294967296) (by omega) (by omega), u64_id (n := (B + D / 4294967296) % 4294967296) (by omega) (by omega), u64_id (n := (B + D / 4294967296) % 4294967296 + C) (by omega) (by omega), u64_id (n := A + (B + D / 4294967296) / 4294967296) (by omega) (by omega), u64_id (by omega) (by omega), Go.IntKind.wrap_u64]
  congr 1
  refine Prod.ext (Prod.ext ?_ rfl) rfl
  exact mul_hi A B C D pac.1 pad.1 pbc.1 pbd.1
theorem cmp_ok {a b c d : Int} (h : VR a b) (h' : VR c d) : ratio_Cmp.F (((a, b, ()), (c, d, ()), ()), ()) = some ((sg (a * d) (c * b), ()), ()) := by
  have v1 := valid_true h
  have v2 := valid_true h'
  obtain ⟨⟨a0, a1, b0, b1⟩, _⟩ := h
  obtain ⟨⟨c0, c1, d0, d1⟩, _⟩ := h'
  have p1 := mul_bd (a := a) (b := d) (A := 2305843009213693952) (B := 1152921504606846976) a0 a1 (by omega) d1
  have p2 := mul_bd (a := c) (b := b) (A := 2305843009213693952) (B := 1152921504606846976) c0 c1 (by omega) b1
  rw [ratio_Cmp.F_eq, ratio_Cmp.f, ratio_Cmp.L0_eq, ratio_Cmp.f0, v1]
  simp only [Option.bind_some, Bool.not_true, cond_false]
  rw [v2]
  simp only [Option.bind_some, Bool.not_true, cond_false, Sum.elim_inl]
  rw [u64_id (n := a) (by omega) (by omega), u64_id (n := b) (by omega) (by omega), u64_id (n := c) (by omega) (by omega), u64_id (n := d) (by omega) (by omega)]
  rw [mul64_ok (by omega) (by omega) (by omega) (by omega), mul64_ok (by omega) (by omega) (by omega) (by omega)]
  simp only [Option.bind_some]
  generalize a * d = p at *
  generalize c * b = q at *
  rw [ratio_Cmp.L1_eq, ratio_Cmp.f1]
  unfold sg
  by_cases e1 : p / 18446744073709551616 < q / 18446744073709551616
  · rw [dt e1, if_pos (by omega)]; rfl
  · rw [df e1]
    by_cases e2 : p / 18446744073709551616 = q / 18446744073709551616
    · simp only [cond_false, cond_true, bt e2]
      by_cases e3 : p % 18446744073709551616 < q % 18446744073709551616
      · rw [dt e3, if_pos (by omega)]; rfl
      · rw [df e3, if_neg (by omega)]
        simp only [Option.bind_some, Sum.elim_inl, cond_false, cond_true, bt e2]
        by_cases e4 : p % 18446744073709551616 = q % 18446744073709551616
        · rw [bt e4, if_pos (by omega)]; rfl
        · rw [bf e4, if_neg (by omega)]; rfl
    · simp only [Option.bind_some, Sum.elim_inl, cond_false, bf e2]
      rw [if_neg (by omega), if_neg (by omega)]
theorem less_ok {a b c d : Int} (h : VR a b) (h' : VR c d) : ratio_Less.F (((a, b, ()), (c, d, ()), ()), ()) = some ((decide (a * d < c * b), ()), ()) := by
  rw [ratio_Less.F_eq, ratio_Less.f, cmp_ok h h']
  have : decide (sg (a * d) (c * b) < 0) = decide (a * d < c * b) := by
    unfold sg
    by_cases e : a * d < c * b
    · rw [if_pos e, dt e]; rfl
    · rw [if_neg e, df e]; split <;> rfl
  show some ((decide (sg (a * d) (c * b) < 0), ()), ()) = _
  rw [this]
end Go.Proofs.Ytefcciajemkicaa.V
