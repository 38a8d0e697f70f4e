/- math/bits' division of 128 bits by 64: what it computes. -/
import Derived.Laws.BitsLemmas
import Derived.Laws.Bits64b
import Derived.Lib.ItoaNum
import Derived.Test.YtdfdecpplnjdcaaDoorHx4
import Derived.Test.YtdfdecpplnjdcaaDoorHx5
import Derived.Test.YtdfdecpplnjdcaaDoorBase
import Derived.Test.YtdfdecpplnjdcaaDoorRat
namespace Go.Proofs.YtdfdecpplnjdcaaDoor.Div
open Go.RowKit Go.Proofs.YtdfdecpplnjdcaaDoor.Hp Go.Proofs.YtdfdecpplnjdcaaDoorW.PrintWords Go.Proofs.YtdfdecpplnjdcaaDoorW.PrintLast Go.Proofs.YtdfdecpplnjdcaaDoorW.PrintMore
open Go.Proofs.YtdfdecpplnjdcaaDoor.Base Go.Proofs.YtdfdecpplnjdcaaDoor.Rat

/-- A guess at a digit, with what is left of it. -/
structure Guess (y y1 y0 u c q r : Int) : Prop where
  hy : y = y1 * 4294967296 + y0
  y1a : 2147483648 ≤ y1
  y1b : y1 < 4294967296
  y0a : 0 ≤ y0
  y0b : y0 < 4294967296
  u0 : 0 ≤ u
  u1 : u < y
  c0 : 0 ≤ c
  c1 : c < 4294967296
  q0 : 0 ≤ q
  q1 : q ≤ 4294967297
  r0 : 0 ≤ r
  r1 : r < 4294967296
  eq : q * y1 + r = u
  big : u * 4294967296 + c < q * y + y

/-- A digit. -/
def Dig (y u c q : Int) : Prop := 0 ≤ q ∧ q < 4294967296 ∧ q * y ≤ u * 4294967296 + c ∧ u * 4294967296 + c < q * y + y

theorem Guess.split {y y1 y0 u c q r : Int} (g : Guess y y1 y0 u c q r) : q * y = q * y1 * 4294967296 + q * y0 := by rw [g.hy]; grind
theorem Guess.small {y y1 y0 u c q r : Int} (g : Guess y y1 y0 u c q r) (h : q < 4294967296) : 0 ≤ q * y0 ∧ q * y0 < 18446744073709551616 := by
  have := mul_bd' (a := q) (b := y0) (A := 4294967295) (B := 4294967295) g.q0 (by omega) g.y0a (by have := g.y0b; omega)
  omega
theorem small_of {y u c q : Int} (hu : u < y) (hc : c < 4294967296) (hy : 0 < y) (h : q * y ≤ u * 4294967296 + c) : q < 4294967296 := by
  rcases (show q < 4294967296 ∨ 4294967296 ≤ q by omega) with z | z
  · exact z
  · have := Int.mul_le_mul_of_nonneg_right z (show 0 ≤ y by omega)
    omega
theorem Guess.stop {y y1 y0 u c q r : Int} (g : Guess y y1 y0 u c q r) (h2 : ¬ q * y0 > 4294967296 * r + c) : Dig y u c q := by
  have s := g.split
  have e := g.eq
  have a1 := g.hy; have a2 := g.y1a; have a3 := g.y0a; have a4 := g.u1; have a5 := g.c1
  have le : q * y ≤ u * 4294967296 + c := by omega
  exact ⟨g.q0, small_of a4 a5 (by omega) le, le, g.big⟩
theorem Guess.over {y y1 y0 u c q r : Int} (g : Guess y y1 y0 u c q r) (h : q ≥ 4294967296 ∨ q * y0 > 4294967296 * r + c) : u * 4294967296 + c < q * y ∧ 1 ≤ q := by
  have s := g.split
  have e := g.eq
  have a1 := g.hy; have a2 := g.y1a; have a3 := g.y0a; have a4 := g.u1; have a5 := g.c1; have a6 := g.c0; have a7 := g.r0; have a8 := g.q0
  rcases h with h | h
  · have := Int.mul_le_mul_of_nonneg_right h (show 0 ≤ y by omega)
    omega
  · refine ⟨by omega, ?_⟩
    rcases (show 0 < q ∨ q ≤ 0 by omega) with z | z
    · omega
    · obtain rfl : q = 0 := by omega
      omega
theorem Guess.next {y y1 y0 u c q r : Int} (g : Guess y y1 y0 u c q r) (h : q ≥ 4294967296 ∨ q * y0 > 4294967296 * r + c) (hr : r + y1 < 4294967296) : Guess y y1 y0 u c (q - 1) (r + y1) := by
  obtain ⟨o1, o2⟩ := g.over h
  have a2 := g.y1a; have a7 := g.r0; have a9 := g.q1; have e := g.eq
  have e1 : (q - 1) * y1 = q * y1 - y1 := by rw [Int.sub_mul, Int.one_mul]
  have e2 : (q - 1) * y = q * y - y := by rw [Int.sub_mul, Int.one_mul]
  exact ⟨g.hy, g.y1a, g.y1b, g.y0a, g.y0b, g.u0, g.u1, g.c0, g.c1, by omega, by omega, by omega, hr, by omega, by omega⟩
theorem Guess.last {y y1 y0 u c q r : Int} (g : Guess y y1 y0 u c q r) (h : q ≥ 4294967296 ∨ q * y0 > 4294967296 * r + c) (hr : r + y1 ≥ 4294967296) : Dig y u c (q - 1) := by
  obtain ⟨o1, o2⟩ := g.over h
  have s := g.split
  have a1 := g.hy; have a2 := g.y1a; have a3 := g.y0a; have a4 := g.u1; have a5 := g.c1; have a6 := g.c0; have a7 := g.r0; have a9 := g.q1; have e := g.eq; have a10 := g.y0b
  have e2 : (q - 1) * y = q * y - y := by rw [Int.sub_mul, Int.one_mul]
  have e3 : (q - 1) * y0 = q * y0 - y0 := by rw [Int.sub_mul, Int.one_mul]
  have b := mul_bd' (a := q - 1) (b := y0) (A := 4294967296) (B := 4294967295) (by omega) (by omega) a3 (by omega)
  have le : (q - 1) * y ≤ u * 4294967296 + c := by omega
  exact ⟨by omega, small_of a4 a5 (by omega) le, le, by omega⟩

theorem dig1 {y y1 y0 u c v s : Int} {res : Int × Int} (fin : ∀ q, Dig y u c q → ∃ K, ∀ k, K ≤ k → bits_Div64.j2 k y s y1 y0 u c v q = some res) :
    ∀ (m : Nat) (q r : Int), Guess y y1 y0 u c q r → 4294967296 ≤ r + 2147483648 * m → ∃ K, ∀ k, K ≤ k → bits_Div64.l0 k y s y1 y0 u c v q r = some res := by
  intro m
  induction m with
  | zero => intro q r g h; have := g.r1; omega
  | succ m ih =>
    intro q r g h
    have a2 := g.y1a; have a6 := g.c0; have a5 := g.c1; have a7 := g.r0; have a8 := g.q0; have a9 := g.q1; have a11 := g.r1; have a12 := g.y1b
    have key : ∀ b : Bool, (b = true → (q ≥ 4294967296 ∨ q * y0 > 4294967296 * r + c)) → (b = false → Dig y u c q) → ∃ K, ∀ k, K ≤ k → bits_Div64.j1 k y s y1 y0 u c v q r b = some res := by
      intro b hb hb'
      cases b with
      | false =>
        obtain ⟨K, hK⟩ := fin q (hb' rfl)
        refine ⟨K + 1, fun k hk => ?_⟩
        obtain ⟨k, rfl, hk'⟩ := succ_of hk
        simp only [bits_Div64.j1]
        rw [if_neg (by simp), hK _ hk']
      | true =>
        have t := hb rfl
        obtain ⟨o1, o2⟩ := g.over t
        by_cases d : r + y1 ≥ 4294967296
        · obtain ⟨K, hK⟩ := fin (q - 1) (g.last t d)
          refine ⟨K + 1, fun k hk => ?_⟩
          obtain ⟨k, rfl, hk'⟩ := succ_of hk
          simp only [bits_Div64.j1]
          rw [if_pos (by trivial), u64_id (n := r + y1) (by omega) (by omega), if_pos d, u64_id (n := q - 1) (by omega) (by omega), hK _ hk']
        · obtain ⟨K, hK⟩ := ih (q - 1) (r + y1) (g.next t (by omega)) (by omega)
          refine ⟨K + 1, fun k hk => ?_⟩
          obtain ⟨k, rfl, hk'⟩ := succ_of hk
          simp only [bits_Div64.j1]
          rw [if_pos (by trivial), u64_id (n := r + y1) (by omega) (by omega), if_neg d, u64_id (n := q - 1) (by omega) (by omega), hK _ hk']
    by_cases e : q ≥ 4294967296
    · obtain ⟨K, hK⟩ := key true (fun _ => Or.inl e) (fun z => by cases z)
      refine ⟨K + 1, fun k hk => ?_⟩
      obtain ⟨k, rfl, hk'⟩ := succ_of hk
      simp only [bits_Div64.l0]
      rw [if_pos e, hK _ hk']
    · have sm := g.small (by omega)
      obtain ⟨K, hK⟩ := key (decide (q * y0 > 4294967296 * r + c)) (fun z => Or.inr (of_decide_eq_true z)) (fun z => g.stop (of_decide_eq_false z))
      refine ⟨K + 1, fun k hk => ?_⟩
      obtain ⟨k, rfl, hk'⟩ := succ_of hk
      simp only [bits_Div64.l0]
      rw [if_neg e, u64_id (n := q * y0) sm.1 sm.2, u64_id (n := 4294967296 * r) (by omega) (by omega), u64_id (n := 4294967296 * r + c) (by omega) (by omega), hK _ hk']

theorem dig2 {y y1 y0 u c p s : Int} {res : Int × Int}
    (fin : ∀ q, Dig y u c q → (if 0 ≤ s then (some (IntKind.u64.wrap ((IntKind.u64.wrap (p * 4294967296)) + q), shr .u64 (IntKind.u64.wrap ((IntKind.u64.wrap ((IntKind.u64.wrap (u * 4294967296)) + c)) - (IntKind.u64.wrap (q * y)))) s)) else (none)) = some res) :
    ∀ (m : Nat) (q r : Int), Guess y y1 y0 u c q r → 4294967296 ≤ r + 2147483648 * m → ∃ K, ∀ k, K ≤ k → bits_Div64.l1 k y s y1 y0 c p r u q = some res := by
  intro m
  induction m with
  | zero => intro q r g h; have := g.r1; omega
  | succ m ih =>
    intro q r g h
    have a2 := g.y1a; have a6 := g.c0; have a5 := g.c1; have a7 := g.r0; have a8 := g.q0; have a9 := g.q1; have a11 := g.r1; have a12 := g.y1b
    have key : ∀ b : Bool, (b = true → (q ≥ 4294967296 ∨ q * y0 > 4294967296 * r + c)) → (b = false → Dig y u c q) → ∃ K, ∀ k, K ≤ k → bits_Div64.j4 k y s y1 y0 c p r u q b = some res := by
      intro b hb hb'
      cases b with
      | false =>
        refine ⟨1, fun k hk => ?_⟩
        obtain ⟨k, rfl, hk'⟩ := succ_of hk
        simp only [bits_Div64.j4]
        rw [if_neg (by simp)]
        exact fin q (hb' rfl)
      | true =>
        have t := hb rfl
        obtain ⟨o1, o2⟩ := g.over t
        by_cases d : r + y1 ≥ 4294967296
        · refine ⟨1, fun k hk => ?_⟩
          obtain ⟨k, rfl, hk'⟩ := succ_of hk
          simp only [bits_Div64.j4]
          rw [if_pos (by trivial), u64_id (n := r + y1) (by omega) (by omega), if_pos d, u64_id (n := q - 1) (by omega) (by omega)]
          exact fin (q - 1) (g.last t d)
        · obtain ⟨K, hK⟩ := ih (q - 1) (r + y1) (g.next t (by omega)) (by omega)
          refine ⟨K + 1, fun k hk => ?_⟩
          obtain ⟨k, rfl, hk'⟩ := succ_of hk
          simp only [bits_Div64.j4]
          rw [if_pos (by trivial), u64_id (n := r + y1) (by omega) (by omega), if_neg d, u64_id (n := q - 1) (by omega) (by omega), hK _ hk']
    by_cases e : q ≥ 4294967296
    · obtain ⟨K, hK⟩ := key true (fun _ => Or.inl e) (fun z => by cases z)
      refine ⟨K + 1, fun k hk => ?_⟩
      obtain ⟨k, rfl, hk'⟩ := succ_of hk
      simp only [bits_Div64.l1]
      rw [if_pos e, hK _ hk']
    · have sm := g.small (by omega)
      obtain ⟨K, hK⟩ := key (decide (q * y0 > 4294967296 * r + c)) (fun z => Or.inr (of_decide_eq_true z)) (fun z => g.stop (of_decide_eq_false z))
      refine ⟨K + 1, fun k hk => ?_⟩
      obtain ⟨k, rfl, hk'⟩ := succ_of hk
      simp only [bits_Div64.l1]
      rw [if_neg e, u64_id (n := q * y0) sm.1 sm.2, u64_id (n := 4294967296 * r) (by omega) (by omega), u64_id (n := 4294967296 * r + c) (by omega) (by omega), hK _ hk']

/-- The first guess. -/
theorem Guess.first {y y1 y0 u c : Int} (hy : y = y1 * 4294967296 + y0) (y1a : 2147483648 ≤ y1) (y1b : y1 < 4294967296) (y0a : 0 ≤ y0) (y0b : y0 < 4294967296) (u0 : 0 ≤ u) (u1 : u < y) (c0 : 0 ≤ c) (c1 : c < 4294967296) :
    Guess y y1 y0 u c (u / y1) (u % y1) := by
  have m1 := Int.emod_nonneg u (show y1 ≠ 0 by omega)
  have m2 := Int.emod_lt_of_pos u (show 0 < y1 by omega)
  have e := Int.mul_ediv_add_emod u y1
  have e' : u / y1 * y1 = y1 * (u / y1) := Int.mul_comm _ _
  have q0 := Int.ediv_nonneg u0 (show 0 ≤ y1 by omega)
  have q1 : u / y1 ≤ 4294967297 := by
    rcases (show 4294967297 < u / y1 ∨ u / y1 ≤ 4294967297 by omega) with z | z
    · have := Int.mul_le_mul_of_nonneg_right (show 4294967298 ≤ u / y1 by omega) (show 0 ≤ y1 by omega)
      omega
    · exact z
  have s : u / y1 * y = u / y1 * y1 * 4294967296 + u / y1 * y0 := by rw [hy]; grind
  have p := Int.mul_nonneg q0 y0a
  exact ⟨hy, y1a, y1b, y0a, y0b, u0, u1, c0, c1, q0, q1, m1, by omega, by omega, by omega⟩

theorem emod_sub_mul {a b c : Int} (h0 : 0 ≤ a - b * c) (h1 : a - b * c < c) : a / c = b ∧ a % c = a - b * c := by
  have e : a = (a - b * c) + b * c := by omega
  have q : a / c = b := by
    rw [e, Int.add_mul_ediv_right _ _ (by omega), Int.ediv_eq_zero_of_lt h0 h1]; omega
  refine ⟨q, ?_⟩
  have := Int.mul_ediv_add_emod a c
  rw [q, Int.mul_comm c b] at this
  omega

/-- The second half: the low digit, and what is left, shifted back. -/
theorem half2 {y y1 y0 N u c v p P : Int} {S : Nat} {a2 A : Int} (hy : y = y1 * 4294967296 + y0) (y1a : 2147483648 ≤ y1) (y1b : y1 < 4294967296) (y0a : 0 ≤ y0) (y0b : y0 < 4294967296)
    (v0 : 0 ≤ v) (v1 : v < 4294967296) (hN : N = u * 4294967296 + c) (hP : P = 2 ^ S) (hS : S ≤ 64) (ha : y = a2 * P) (hA : A * P = N * 4294967296 + v)
    (hd : Dig y u c p) : ∃ K, ∀ k, K ≤ k → bits_Div64.j2 k y (S : Int) y1 y0 u c v p = some (A / a2, A % a2) := by
  obtain ⟨p0, p1, d1, d2⟩ := hd
  have P0 : 0 < P := by rw [hP]; exact Int.pow_pos (by decide)
  obtain ⟨w, hw⟩ : ∃ w, w = N - p * y := ⟨_, rfl⟩
  have w0 : 0 ≤ w := by omega
  have w1 : w < y := by omega
  have wr : IntKind.u64.wrap ((IntKind.u64.wrap ((IntKind.u64.wrap (u * 4294967296)) + c)) - (IntKind.u64.wrap (p * y))) = w := by
    rw [IntKind.wrap_u64, IntKind.wrap_u64, IntKind.wrap_u64, IntKind.wrap_u64]
    generalize p * y = z at *
    omega
  have g := Guess.first hy y1a y1b y0a y0b w0 w1 v0 v1
  have dv : Int.tdiv w y1 = w / y1 := Int.tdiv_eq_ediv_of_nonneg w0
  have em : w - w / y1 * y1 = w % y1 := by have := g.eq; omega
  have qb := g.q0; have qb1 := g.q1; have rb := g.r0; have rb1 := g.r1
  have wm := Int.mul_nonneg qb (show 0 ≤ y1 by omega)
  have fin : ∀ q, Dig y w v q → (if 0 ≤ (S : Int) then (some (IntKind.u64.wrap ((IntKind.u64.wrap (p * 4294967296)) + q), shr .u64 (IntKind.u64.wrap ((IntKind.u64.wrap ((IntKind.u64.wrap (w * 4294967296)) + v)) - (IntKind.u64.wrap (q * y)))) (S : Int))) else (none)) = some (A / a2, A % a2) := by
    intro q hq
    obtain ⟨q0, q1, f1, f2⟩ := hq
    rw [if_pos (by omega), u64_id (n := p * 4294967296) (by omega) (by omega), u64_id (n := p * 4294967296 + q) (by omega) (by omega)]
    have r0 : 0 ≤ w * 4294967296 + v - q * y := by omega
    have r1 : w * 4294967296 + v - q * y < y := by omega
    have wr2 : IntKind.u64.wrap ((IntKind.u64.wrap ((IntKind.u64.wrap (w * 4294967296)) + v)) - (IntKind.u64.wrap (q * y))) = w * 4294967296 + v - q * y := by
      rw [IntKind.wrap_u64, IntKind.wrap_u64, IntKind.wrap_u64, IntKind.wrap_u64]
      generalize q * y = z at *
      omega
    rw [wr2]
    have rest : w * 4294967296 + v - q * y = (A - (p * 4294967296 + q) * a2) * P := by
      have e1 : (A - (p * 4294967296 + q) * a2) * P = A * P - (p * 4294967296 + q) * (a2 * P) := by grind
      rw [e1, ← ha, hA]
      have e2 : (p * 4294967296 + q) * y = p * y * 4294967296 + q * y := by grind
      rw [e2, hw]
      generalize p * y = z1 at *
      generalize q * y = z2 at *
      omega
    rw [rest] at r0 r1 ⊢
    have s0 : 0 ≤ A - (p * 4294967296 + q) * a2 := by
      rcases (show 0 ≤ A - (p * 4294967296 + q) * a2 ∨ A - (p * 4294967296 + q) * a2 < 0 by omega) with z | z
      · exact z
      · have := Int.mul_neg_of_neg_of_pos z P0
        omega
    have s1 : A - (p * 4294967296 + q) * a2 < a2 := by
      rw [ha] at r1
      exact Int.lt_of_mul_lt_mul_right r1 (by omega)
    obtain ⟨t1, t2⟩ := emod_sub_mul s0 s1
    have sh : shr .u64 ((A - (p * 4294967296 + q) * a2) * P) (S : Int) = A - (p * 4294967296 + q) * a2 := by
      unfold shr
      rw [Int.toNat_natCast, show min S IntKind.u64.bits = S from Nat.min_eq_left hS, ← hP, Int.mul_ediv_cancel _ (by omega)]
    rw [sh, t1, t2]
  obtain ⟨K, hK⟩ := dig2 (s := (S : Int)) (p := p) fin 2 (w / y1) (w % y1) g (by omega)
  refine ⟨K + 1, fun k hk => ?_⟩
  obtain ⟨k, rfl, hk'⟩ := succ_of hk
  simp only [bits_Div64.j2]
  rw [if_neg (by omega), wr, dv, u64_id (n := w / y1) (by omega) (by omega), u64_id (n := w / y1 * y1) (by omega) (by omega), em, u64_id (n := w % y1) (by omega) (by omega)]
  exact hK _ hk'

theorem or_add {x r P : Int} {S : Nat} (hP : P = 2 ^ S) (x0 : 0 ≤ x) (r0 : 0 ≤ r) (r1 : r < P) (hb : x * P + r < 18446744073709551616) : Go.bits .or .u64 (x * P) r = x * P + r := by
  have P0 : 0 < P := by omega
  have xp := Int.mul_nonneg x0 (show 0 ≤ P by omega)
  obtain ⟨n, rfl⟩ := Int.eq_ofNat_of_zero_le x0
  obtain ⟨m, rfl⟩ := Int.eq_ofNat_of_zero_le r0
  obtain ⟨q, hq⟩ := Int.eq_ofNat_of_zero_le (show 0 ≤ P by omega)
  have hq2 : q = 2 ^ S := by have : ((q : Nat) : Int) = ((2 ^ S : Nat) : Int) := by rw [← hq, hP]; norm_cast
                             exact Int.ofNat.inj this
  subst hq
  rw [← Int.natCast_mul] at hb xp ⊢
  rw [bits_or_u64_nat (n * q) m (by omega) (by omega), ← Int.natCast_add]
  congr 1
  rw [hq2, Nat.mul_comm n, Nat.two_pow_add_eq_or_of_lt (by omega)]

/-- 128 bits by 64. -/
theorem div64_ok {a0 a1 a2 : Int} (h0 : 0 ≤ a0) (h1 : a0 < a2) (h2 : a2 < 18446744073709551616) (h3 : 0 ≤ a1) (h4 : a1 < 18446744073709551616) :
    ∃ K, ∀ k, K ≤ k → bits_Div64.f k a0 a1 a2 = some ((a0 * 18446744073709551616 + a1) / a2, (a0 * 18446744073709551616 + a1) % a2) := by
  by_cases z : a0 = 0
  · refine ⟨0, fun k _ => ?_⟩
    subst z
    have d := Int.ediv_le_self a2 h3
    have d0 := Int.ediv_nonneg h3 (show 0 ≤ a2 by omega)
    unfold bits_Div64.f
    rw [if_neg (by omega), if_neg (by omega), if_pos (by trivial), Int.tdiv_eq_ediv_of_nonneg h3, Int.tmod_eq_emod_of_nonneg h3, show (0 : Int) * 18446744073709551616 + a1 = a1 by omega]
    rw [u64_id (n := a1 / a2) d0 ?_]
    have := Int.ediv_le_self a2 h3
    exact Int.lt_of_le_of_lt (Int.ediv_le_self a2 h3) h4
  · obtain ⟨x, hx⟩ := Int.eq_ofNat_of_zero_le (show 0 ≤ a2 by omega)
    have lb := Lib.bitLenAux_bounds 64 x (by omega) (by omega)
    have lb2 := Lib.bitLen_le x 64 (by omega) (by omega)
    obtain ⟨L, hL⟩ : ∃ L, L = Lib.bitLen x := ⟨_, rfl⟩
    have lb' : 1 ≤ L ∧ 2 ^ (L - 1) ≤ x ∧ x < 2 ^ L := by rw [hL]; exact lb
    rw [← hL] at lb2
    obtain ⟨S, hS⟩ : ∃ S, S = 64 - L := ⟨_, rfl⟩
    obtain ⟨P, hP⟩ : ∃ P : Int, P = 2 ^ S := ⟨_, rfl⟩
    obtain ⟨Q, hQ⟩ : ∃ Q : Int, Q = 2 ^ L := ⟨_, rfl⟩
    have P0 : 0 < P := by rw [hP]; exact Int.pow_pos (by decide)
    have Q0 : 0 < Q := by rw [hQ]; exact Int.pow_pos (by decide)
    have hPQ : P * Q = 18446744073709551616 := by rw [hP, hQ, ← Int.pow_add, show S + L = 64 by omega]; rfl
    have aQ : a2 < Q := by rw [hx, hQ]; exact_mod_cast lb'.2.2
    have aQ2 : Q ≤ 2 * a2 := by
      have e : Q = 2 * 2 ^ (L - 1) := by rw [hQ, ← Int.pow_succ', show L - 1 + 1 = L by omega]
      have : (2 : Int) ^ (L - 1) ≤ a2 := by rw [hx]; exact_mod_cast lb'.2.1
      omega
    have f1 : bits_LeadingZeros64.f a2 = some (S : Int) := by
      unfold bits_LeadingZeros64.f
      rw [if_pos (by omega), if_pos (by omega), hx, Int.toNat_natCast, ← hL]
      congr 1; omega
    have s0 : IntKind.u64.wrap (S : Int) = (S : Int) := u64_id (by omega) (by omega)
    have s1 : IntKind.u64.wrap (64 - (S : Int)) = (L : Int) := by rw [u64_id (by omega) (by omega)]; omega
    obtain ⟨y, hy⟩ : ∃ y, y = a2 * P := ⟨_, rfl⟩
    have hQP : Q * P = 18446744073709551616 := by rw [Int.mul_comm]; exact hPQ
    have y63 : 9223372036854775808 ≤ y := by
      have := Int.mul_le_mul_of_nonneg_right aQ2 (show 0 ≤ P by omega)
      rw [hQP, Int.mul_assoc, ← hy] at this
      omega
    have y64 : y < 18446744073709551616 := by
      have := Int.mul_lt_mul_of_pos_right aQ P0
      rw [hQP, ← hy] at this
      exact this
    have ap0 := Int.mul_nonneg h0 (show 0 ≤ P by omega)
    have ap1 : a0 * P + P ≤ y := by
      have := Int.mul_le_mul_of_nonneg_right (show a0 + 1 ≤ a2 by omega) (show 0 ≤ P by omega)
      rw [Int.add_mul, Int.one_mul, ← hy] at this
      exact this
    have mn1 : min S IntKind.u64.bits = S := Nat.min_eq_left (show S ≤ 64 by omega)
    have mn2 : min L IntKind.u64.bits = L := Nat.min_eq_left (show L ≤ 64 by omega)
    have sh2 : shl .u64 a2 (S : Int) = y := by
      unfold shl; rw [Int.toNat_natCast, mn1, ← hP, ← hy]; exact u64_id (by omega) y64
    have sh0 : shl .u64 a0 (S : Int) = a0 * P := by
      unfold shl; rw [Int.toNat_natCast, mn1, ← hP]; exact u64_id ap0 (by omega)
    obtain ⟨t, ht⟩ : ∃ t, t = a1 / Q := ⟨_, rfl⟩
    obtain ⟨e, he⟩ : ∃ e, e = a1 % Q := ⟨_, rfl⟩
    have t0 : 0 ≤ t := by rw [ht]; exact Int.ediv_nonneg h3 (by omega)
    have t1 : t < P := by rw [ht]; exact Int.ediv_lt_of_lt_mul Q0 (by rw [hPQ]; exact h4)
    have e0 : 0 ≤ e := by rw [he]; exact Int.emod_nonneg _ (by omega)
    have e1 : e < Q := by rw [he]; exact Int.emod_lt_of_pos _ Q0
    have ha1 : a1 = Q * t + e := by rw [ht, he]; exact (Int.mul_ediv_add_emod a1 Q).symm
    have sr : shr .u64 a1 (L : Int) = t := by unfold shr; rw [Int.toNat_natCast, mn2, ← hQ, ← ht]
    obtain ⟨u, hu⟩ : ∃ u, u = a0 * P + t := ⟨_, rfl⟩
    have hor : Go.bits .or .u64 (a0 * P) t = u := by rw [hu]; exact or_add hP h0 t0 t1 (by omega)
    obtain ⟨n, hn⟩ : ∃ n, n = e * P := ⟨_, rfl⟩
    have n0 : 0 ≤ n := by rw [hn]; exact Int.mul_nonneg e0 (by omega)
    have n1 : n < 18446744073709551616 := by
      have := Int.mul_lt_mul_of_pos_right e1 P0
      rw [hQP, ← hn] at this
      exact this
    have a1P : a1 * P = t * 18446744073709551616 + n := by
      rw [ha1, hn, ← hQP]; grind
    have sh1 : shl .u64 a1 (S : Int) = n := by
      unfold shl; rw [Int.toNat_natCast, mn1, ← hP, a1P, IntKind.wrap_u64]; omega
    have AP : (a0 * 18446744073709551616 + a1) * P = u * 18446744073709551616 + n := by
      rw [Int.add_mul, a1P, hu]; grind
    have u0 : 0 ≤ u := by omega
    have u1 : u < y := by omega
    have Y1 : 2147483648 ≤ y / 4294967296 ∧ y / 4294967296 < 4294967296 := by omega
    have Y0 : 0 ≤ y % 4294967296 ∧ y % 4294967296 < 4294967296 := by omega
    have hY : y = y / 4294967296 * 4294967296 + y % 4294967296 := by omega
    have N1 : 0 ≤ n / 4294967296 ∧ n / 4294967296 < 4294967296 := by omega
    have N0 : 0 ≤ n % 4294967296 ∧ n % 4294967296 < 4294967296 := by omega
    have g := Guess.first hY Y1.1 Y1.2 Y0.1 Y0.2 u0 u1 N1.1 N1.2
    obtain ⟨K, hK⟩ := dig1 (v := n % 4294967296) (s := (S : Int)) (res := ((a0 * 18446744073709551616 + a1) / a2, (a0 * 18446744073709551616 + a1) % a2))
      (fun q hq => half2 hY Y1.1 Y1.2 Y0.1 Y0.2 N0.1 N0.2 rfl hP (by omega) hy (by rw [AP]; omega) hq) 2 (u / (y / 4294967296)) (u % (y / 4294967296)) g (by have := g.r0; omega)
    refine ⟨K, fun k hk => ?_⟩
    have qb := g.q0; have qb1 := g.q1; have rb := g.r0; have rb1 := g.r1; have ge := g.eq
    have wm := Int.mul_nonneg qb (show 0 ≤ y / 4294967296 by omega)
    unfold bits_Div64.f
    rw [if_neg (by omega), if_neg (by omega), if_neg z, f1]; simp only [Option.bind_some]
    rw [s0, if_pos (by omega), s1, if_pos (by omega), sh2, sh0, sr, hor, sh1, u64_and32 (x := y) (by omega) (by omega), u64_and32 (x := n) (by omega) (by omega), if_neg (by omega), Int.tdiv_eq_ediv_of_nonneg u0]
    rw [u64_id (n := u / (y / 4294967296)) (by omega) (by omega), u64_id (n := u / (y / 4294967296) * (y / 4294967296)) (by omega) (by omega), show u - u / (y / 4294967296) * (y / 4294967296) = u % (y / 4294967296) by omega, u64_id (n := u % (y / 4294967296)) (by omega) (by omega)]
    exact hK k hk

end Go.Proofs.YtdfdecpplnjdcaaDoor.Div
