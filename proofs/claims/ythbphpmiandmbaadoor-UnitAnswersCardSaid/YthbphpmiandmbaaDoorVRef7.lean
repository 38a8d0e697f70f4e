/- Units and numbers: the program and the reference alike. -/
import Derived.Test.YthbphpmiandmbaaDoorVg3
import Derived.Test.YthbphpmiandmbaaDoorVBase
import Derived.Test.YthbphpmiandmbaaDoorVKeep
import Derived.Test.YthbphpmiandmbaaDoorVUnit
import Derived.Test.YthbphpmiandmbaaDoorVDec
import Derived.Test.YthbphpmiandmbaaDoorVParse
import Derived.Test.YthbphpmiandmbaaDoorVParse2
import Derived.Test.YthbphpmiandmbaaDoorVParse3
import Derived.Test.YthbphpmiandmbaaDoorVParse4
import Derived.Test.YthbphpmiandmbaaDoorVFmt
import Derived.Test.YthbphpmiandmbaaDoorVRound
import Derived.Test.YthbphpmiandmbaaDoorVRound2
import Derived.Test.YthbphpmiandmbaaDoorVRound3
import Derived.Test.YthbphpmiandmbaaDoorVRound4
import Derived.Test.YthbphpmiandmbaaDoorVRef4
set_option linter.unusedVariables false
set_option maxRecDepth 100000
namespace Go.Proofs.YthbphpmiandmbaaDoor.V
open Go.VI Go.Lib
/-! Units. -/
def Let (s : ByteArray) (i : Nat) : Prop := ∀ j, i ≤ j → j < s.size → 97 ≤ (s.data.getD j 0).toNat ∧ (s.data.getD j 0).toNat ≤ 122
theorem valid_loops (s : ByteArray) (m a d : Int) (hs : s.size ≤ 1000) : ∀ (k i : Nat), i + k = s.size →
    (Let s i ∧ unit_Valid.L1 (((), (s.size : Int), (i : Int), ()), ((s, m, a, d, ()), ())) = some (Sum.inl (((), ()), ((s, m, a, d, ()), ()))) ∧ ref04_Valid.L0 (((), (i : Int), ()), ((s, m, a, d, ()), ())) = some (Sum.inl (((), ()), ((s, m, a, d, ()), ())))) ∨
    (¬ Let s i ∧ unit_Valid.L1 (((), (s.size : Int), (i : Int), ()), ((s, m, a, d, ()), ())) = some (Sum.inr (Sum.inl ((false, ()), ()))) ∧ ref04_Valid.L0 (((), (i : Int), ()), ((s, m, a, d, ()), ())) = some (Sum.inr (Sum.inl ((false, ()), ()))))
  | 0, i, h => by
    refine .inl ⟨fun j h1 h2 => absurd h2 (by omega), ?_, ?_⟩
    · rw [unit_Valid.L1_eq, unit_Valid.f1, df (by omega)]; rfl
    · rw [ref04_Valid.L0_eq, ref04_Valid.f0, df (by omega)]; rfl
  | k + 1, i, h => by
    have ih := valid_loops s m a d hs k (i + 1) (by omega)
    have n1 : ((i : Int)).toNat = i := by omega
    rw [unit_Valid.L1_eq, unit_Valid.f1, ref04_Valid.L0_eq, ref04_Valid.f0, dt (by omega : (i : Int) < (s.size : Int)), dt (by omega : (0 : Int) ≤ (i : Int)), n1, w64 (n := (i : Int) + 1) (by omega), show (i : Int) + 1 = ((i + 1 : Nat) : Int) by omega, bind_self, bind_self]
    simp only [cond_true]
    by_cases c1 : ((s.data.getD i 0).toNat : Int) < 97
    · rw [dt c1]
      exact .inr ⟨fun hp => by have := hp i (Nat.le_refl i) (by omega); omega, rfl, rfl⟩
    · rw [df c1]
      by_cases c2 : ((s.data.getD i 0).toNat : Int) > 122
      · rw [dt c2]
        exact .inr ⟨fun hp => by have := hp i (Nat.le_refl i) (by omega); omega, rfl, rfl⟩
      · rw [df c2]
        rcases ih with ⟨h1, h2, h3⟩ | ⟨h1, h2, h3⟩
        · refine .inl ⟨fun j hj hk => ?_, h2, h3⟩
          by_cases e : j = i
          · subst e; omega
          · exact h1 j (by omega) hk
        · exact .inr ⟨fun hp => h1 fun j hj hk => hp j (by omega) hk, h2, h3⟩
theorem range_ok4 (s : ByteArray) (m a d : Int) : ∃ b, unit_Valid.L2 (((), ()), ((s, m, a, d, ()), ())) = some (Sum.inl ((b, ()), ())) ∧ (b = true → (1 ≤ m ∧ m ≤ 1000000) ∧ (-1000000000 ≤ a ∧ a ≤ 1000000000) ∧ (1 ≤ d ∧ d ≤ 1000000)) := by
  rw [unit_Valid.L2_eq, unit_Valid.f2]
  by_cases c1 : m ≥ 1
  · rw [dt c1]
    by_cases c2 : m ≤ 1000000
    · rw [dt c2]
      by_cases c3 : a ≥ -1000000000
      · rw [dt c3]
        by_cases c4 : a ≤ 1000000000
        · rw [dt c4]
          by_cases c5 : d ≥ 1
          · rw [dt c5]
            by_cases c6 : d ≤ 1000000
            · rw [dt c6]; exact ⟨true, rfl, fun _ => by omega⟩
            · rw [df c6]; exact ⟨false, rfl, fun h => by cases h⟩
          · rw [df c5]; exact ⟨false, rfl, fun h => by cases h⟩
        · rw [df c4]; exact ⟨false, rfl, fun h => by cases h⟩
      · rw [df c3]; exact ⟨false, rfl, fun h => by cases h⟩
    · rw [df c2]; exact ⟨false, rfl, fun h => by cases h⟩
  · rw [df c1]; exact ⟨false, rfl, fun h => by cases h⟩
theorem range_same (s : ByteArray) (m a d : Int) (h : 1 ≤ (s.size : Int) ∧ (s.size : Int) ≤ 12) : ref04_Valid.L1 (((), ()), ((s, m, a, d, ()), ())) = unit_Valid.L2 (((), ()), ((s, m, a, d, ()), ())) := by
  rw [ref04_Valid.L1_eq, ref04_Valid.f1, dt (by omega : (s.size : Int) ≥ 1), dt h.2]; rfl
theorem range_not (s : ByteArray) (m a d : Int) (h : ¬ (1 ≤ (s.size : Int) ∧ (s.size : Int) ≤ 12)) : ref04_Valid.L1 (((), ()), ((s, m, a, d, ()), ())) = some (Sum.inl ((false, ()), ())) := by
  rw [ref04_Valid.L1_eq, ref04_Valid.f1]
  by_cases c : (s.size : Int) ≥ 1
  · rw [dt c, df (by omega : ¬ (s.size : Int) ≤ 12)]; rfl
  · rw [df c]; rfl
theorem valid_same (s : ByteArray) (m a d : Int) (hs : s.size ≤ 1000) : ∃ b, unit_Valid.F (((s, m, a, d, ()), ()), ()) = some ((b, ()), ()) ∧ ref04_Valid.F (((s, m, a, d, ()), ()), ()) = some ((b, ()), ()) ∧
    (b = true → (1 ≤ m ∧ m ≤ 1000000) ∧ (-1000000000 ≤ a ∧ a ≤ 1000000000) ∧ (1 ≤ d ∧ d ≤ 1000000)) := by
  have hl := valid_loops s m a d hs s.size 0 (by omega)
  rw [show ((0 : Nat) : Int) = 0 from rfl] at hl
  rw [unit_Valid.F_eq, unit_Valid.f, ref04_Valid.F_eq, ref04_Valid.f, unit_Valid.L0_eq, unit_Valid.f0]
  by_cases c : 1 ≤ (s.size : Int) ∧ (s.size : Int) ≤ 12
  · rw [df (by omega : ¬ (s.size : Int) < 1), df (by omega : ¬ (s.size : Int) > 12)]
    simp only [cond_false, Option.bind_some, Sum.elim_inl]
    rcases hl with ⟨_, h2, h3⟩ | ⟨_, h2, h3⟩
    · rw [h2, h3]
      simp only [Option.bind_some, Sum.elim_inl]
      rw [range_same s m a d c]
      obtain ⟨b, hb, hr⟩ := range_ok4 s m a d
      rw [hb]
      exact ⟨b, rfl, rfl, hr⟩
    · rw [h2, h3]
      exact ⟨false, rfl, rfl, fun h => by cases h⟩
  · have hu : (bif decide ((s.size : Int) < 1) then (some (Sum.inl (((), (Bool.true, ())), ((s, (m, (a, (d, ())))), ()))) : Option (((Unit × Bool × Unit) × ((ByteArray × Int × Int × Int × Unit) × Unit)) ⊕ Empty)) else some (Sum.inl (((), ((decide ((s.size : Int) > 12)), ())), ((s, (m, (a, (d, ())))), ())))) = some (Sum.inl (((), (Bool.true, ())), ((s, (m, (a, (d, ())))), ()))) := by
      by_cases c1 : (s.size : Int) < 1
      · rw [dt c1]; rfl
      · rw [df c1, dt (by omega : (s.size : Int) > 12)]; rfl
    rw [hu]
    simp only [Option.bind_some, Sum.elim_inl, cond_true]
    rcases hl with ⟨_, h2, h3⟩ | ⟨_, h2, h3⟩
    · rw [h3]
      simp only [Option.bind_some, Sum.elim_inl]
      rw [range_not s m a d c]
      exact ⟨false, rfl, rfl, fun h => by cases h⟩
    · rw [h3]
      exact ⟨false, rfl, rfl, fun h => by cases h⟩
/-! Conversion. -/
theorem half_same (a b : Int) : ref04_Half.F ((a, b, ()), ()) = unit_half.F ((a, b, ()), ()) := by
  rw [ref04_Half.F_eq, ref04_Half.f, ref04_Down.F_eq, ref04_Down.f, unit_half.F_eq, unit_half.f]
  generalize Go.IntKind.wrap Go.IntKind.i64 ((2:Int) * b) = d
  generalize Go.IntKind.wrap Go.IntKind.i64 ((Go.IntKind.wrap Go.IntKind.i64 ((2:Int) * a)) + b) = n
  cases decide (d = 0) <;> simp only [Bool.not_true, Bool.not_false, cond_true, cond_false, Option.bind_none]
  cases decide (Int.tmod n d < 0) <;> simp only [cond_true, cond_false, Option.bind_some]
theorem power_ok {p : Int} (hp : 0 ≤ p ∧ p ≤ 6) : ref04_Power.F ((p, ()), ()) = some ((List.getD [(1:Int), 10, 100, 1000, 10000, 100000, 1000000] (Int.toNat p) 0, ()), ()) := by
  have key : ∀ n : Nat, n ≤ 6 → ref04_Power.L0 (((n : Int), (1, (0, ()))), ()) = some (Sum.inl ((List.getD [(1:Int), 10, 100, 1000, 10000, 100000, 1000000] n 0, ()), ())) := by
    intro n h
    match n, h with
    | 0, _ | 1, _ | 2, _ | 3, _ | 4, _ | 5, _ | 6, _ => exact loop_it (E := (ref04_Power.E ref04_Power.L0)) (sh := ref04_Power.s0) (es := ref04_Power.x0) (lp := true) (H := fun L x => ref04_Power.eq0 ref04_Power.L0 L x) 8 (by kernel_rfl)
    | n + 7, h => omega
  obtain ⟨n, rfl⟩ := Int.eq_ofNat_of_zero_le hp.1
  rw [ref04_Power.F_eq, ref04_Power.f, key n (by omega)]
  rfl
theorem proper_same (d p : Int) : ∃ b, unit_proper.F (((d, p, ()), ()), ()) = some ((b, ()), ()) ∧ ref04_proper.F (((d, p, ()), ()), ()) = some ((b, ()), ()) ∧ (b = true → (-1000000000 ≤ d ∧ d ≤ 1000000000) ∧ (0 ≤ p ∧ p ≤ 6)) := by
  rw [unit_proper.F_eq, unit_proper.f, ref04_proper.F_eq, ref04_proper.f]
  by_cases c1 : d ≥ -1000000000
  · rw [dt c1]
    by_cases c2 : d ≤ 1000000000
    · rw [dt c2]
      by_cases c3 : p ≥ 0
      · rw [dt c3]
        by_cases c4 : p ≤ 6
        · rw [dt c4]; exact ⟨true, rfl, rfl, fun _ => by omega⟩
        · rw [df c4]; exact ⟨false, rfl, rfl, fun h => by cases h⟩
      · rw [df c3]; exact ⟨false, rfl, rfl, fun h => by cases h⟩
    · rw [df c2]; exact ⟨false, rfl, rfl, fun h => by cases h⟩
  · rw [df c1]; exact ⟨false, rfl, rfl, fun h => by cases h⟩
theorem convert_same (d p : Int) (s : ByteArray) (m a v : Int) (hs : s.size ≤ 1000) : ∃ n e, unit_Convert.F (((d, p, ()), (s, m, a, v, ()), ()), ()) = some ((n, e, ()), ()) ∧ ref04_Convert.F (((d, p, ()), (s, m, a, v, ()), ()), ()) = some ((n, e, ()), ()) := by
  obtain ⟨b1, h1, h2, h3⟩ := proper_same d p
  obtain ⟨b2, k1, k2, k3⟩ := valid_same s m a v hs
  rw [unit_Convert.F_eq, unit_Convert.f, ref04_Convert.F_eq, ref04_Convert.f, h1, h2]
  simp only [Option.bind_some]
  cases b1 with
  | false => exact ⟨0, 3, rfl, rfl⟩
  | true =>
    simp only [Bool.not_true, cond_false]
    rw [k1, k2]
    simp only [Option.bind_some]
    cases b2 with
    | false => exact ⟨0, 7, rfl, rfl⟩
    | true =>
      obtain ⟨hd, hp⟩ := h3 rfl
      obtain ⟨hm, ha, hv⟩ := k3 rfl
      simp only [Bool.not_true, cond_false]
      rw [power_ok hp]
      have hT1 : 1 ≤ List.getD [(1:Int), 10, 100, 1000, 10000, 100000, 1000000] (Int.toNat p) 0 ∧ List.getD [(1:Int), 10, 100, 1000, 10000, 100000, 1000000] (Int.toNat p) 0 ≤ 1000000 := by
        obtain ⟨n, rfl⟩ := Int.eq_ofNat_of_zero_le hp.1
        have : n ≤ 6 := by omega
        match n, this with
        | 0, _ | 1, _ | 2, _ | 3, _ | 4, _ | 5, _ | 6, _ => decide
        | n + 7, h => omega
      simp only [Option.bind_some]
      generalize List.getD [(1:Int), 10, 100, 1000, 10000, 100000, 1000000] (Int.toNat p) 0 = T at hT1 ⊢
      have b1 := mul_abs (a := d) (b := m) (A := 1000000000) (B := 1000000) hd.1 hd.2 (by omega) hm.2 (by omega)
      have b2 := mul_abs (a := a) (b := T) (A := 1000000000) (B := 1000000) ha.1 ha.2 (by omega) hT1.2 (by omega)
      have b3 := mul_bd (a := v) (b := T) (A := 1000000) (B := 1000000) (by omega) hv.2 (by omega) hT1.2
      have b4 : 1 ≤ v * T := by have := Int.mul_le_mul (a := 1) (b := 1) (c := v) (d := T) hv.1 hT1.1 (by omega) (by omega); omega
      rw [w64 (n := d * m) (by omega), w64 (n := a * T) (by omega), w64 (n := v * T) (by omega), w64 (n := d * m + a * T) (by omega), half_same, half_ok (by omega) (by omega)]
      rw [dt (by omega : 0 ≤ p), dt (by omega : p < (((7:Nat) : Nat) : Int))]
      simp only [Option.bind_some, cond_true]
      rw [ref04_Sample.F_eq, ref04_Sample.f]
      generalize (2 * (d * m + a * T) + v * T) / (2 * (v * T)) = y
      by_cases c1 : y < -1000
      · rw [dt c1, df (by omega : ¬ y ≥ -1000)]; exact ⟨0, 12, rfl, rfl⟩
      · rw [df c1, dt (by omega : y ≥ -1000)]
        by_cases c2 : y > 1000
        · rw [dt c2, df (by omega : ¬ y ≤ 1000)]; exact ⟨0, 12, rfl, rfl⟩
        · rw [df c2, dt (by omega : y ≤ 1000)]; exact ⟨y, 0, rfl, rfl⟩
/-! Numerals. -/
def ch (n : Int) : UInt8 := UInt8.ofNat (Int.toNat (Go.IntKind.wrap Go.IntKind.u8 (Go.IntKind.wrap Go.IntKind.i64 ((48:Int) + (Int.tmod n (10:Int))))))
theorem dec_step (L : ((Int × ByteArray × Unit) × (Unit)) → Option (((ByteArray × Unit) × (Unit)) ⊕ Empty)) (n : Int) (s : ByteArray) : ref01_Decimal.f0 L n s =
    bif decide ((bs [ch n]).size + s.size ≤ 9223372036854775807) then (bif Go.IntKind.wrap Go.IntKind.i64 (Int.tdiv n 10) == 0 then some (Sum.inl ((bs [ch n] ++ s, ()), ())) else Option.bind (L ((Go.IntKind.wrap Go.IntKind.i64 (Int.tdiv n 10), (bs [ch n] ++ s, ())), ())) (fun y => some y)) else none := rfl
theorem ch_ok {n : Nat} : ch (n : Int) = UInt8.ofNat (48 + n % 10) := by
  have h1 : Int.tmod (n : Int) 10 = ((n % 10 : Nat) : Int) := by rw [Int.tmod_eq_emod_of_nonneg (by omega)]; omega
  unfold ch
  rw [h1, w64 (n := 48 + ((n % 10 : Nat) : Int)) (by omega), wrap_u8 (by omega)]
  congr 1
theorem decimal_loop : ∀ (n : Nat) (r : List UInt8), n ≤ 4000000000000000000 → r.length ≤ 1000 - (decDigits n).length → (decDigits n).length ≤ 100 → ref01_Decimal.L0 (((n : Int), (bs r, ())), ()) = some (Sum.inl ((bs (decDigits n ++ r), ()), ())) := by
  intro n
  induction n using Nat.strongRecOn with
  | ind n ih =>
    intro r hn hr hd
    have h1 : Int.tdiv (n : Int) 10 = ((n / 10 : Nat) : Int) := by rw [Int.tdiv_eq_ediv_of_nonneg (by omega)]; omega
    have hlen : (bs [ch (n : Int)]).size = 1 := rfl
    refine (ref01_Decimal.L0_eq (n : Int) (bs r)).trans ?_
    rw [dec_step, hlen, size_mk, dt (by omega), h1, w64 (n := ((n / 10 : Nat) : Int)) (by omega), ch_ok, append_mk2]
    simp only [cond_true]
    by_cases c : n < 10
    · rw [bt (by omega : ((n / 10 : Nat) : Int) = 0), decDigits_one c, show n % 10 = n by omega]; rfl
    · rw [bf (by omega : ((n / 10 : Nat) : Int) ≠ 0), bind_self]
      have hu := dec_unfold c
      have hul : (decDigits n).length = (decDigits (n / 10)).length + 1 := by rw [hu]; simp
      simp only [cond_false]
      rw [ih (n / 10) (by omega) ([UInt8.ofNat (48 + n % 10)] ++ r) (by omega) (by simp; omega) (by omega), hu, List.append_assoc]
theorem dec_len2 (u : Nat) (h : u ≤ 4000000000000000000) : (decDigits u).length ≤ 21 := by
  have := itoa_length_le (u : Int) (by omega) (by omega)
  rw [itoa_nonneg] at this; exact this
theorem decimal_ok (n : Nat) (h : n ≤ 4000000000000000000) : ref01_Decimal.F (((n : Int), ()), ()) = some ((bs (decDigits n), ()), ()) := by
  have hl := dec_len2 n h
  rw [ref01_Decimal.F_eq, ref01_Decimal.f, show (ByteArray.mk #[]) = bs [] from rfl, decimal_loop n [] h (by simp) (by omega), List.append_nil]; rfl
def low (p u : Nat) : List UInt8 := (decDigits (10 ^ p + u % 10 ^ p)).drop 1
theorem padded_step (u p : Nat) : padded u ((p + 1 : Nat) : Int) = padded (u / 10) (p : Int) ++ [UInt8.ofNat (48 + u % 10)] := by
  unfold padded
  rw [Int.toNat_natCast, Int.toNat_natCast]
  by_cases c : u < 10
  · rw [decDigits_one c, show u / 10 = 0 by omega, decDigits_one (by omega), show u % 10 = u by omega]
    simp only [List.length_cons, List.length_nil, Nat.zero_add, Nat.add_sub_cancel]
    rw [List.replicate_succ', show UInt8.ofNat (48 + 0) = 48 from rfl]
  · rw [dec_unfold c, List.length_append]
    simp only [List.length_cons, List.length_nil, Nat.zero_add]
    rw [show p + 1 + 1 - ((decDigits (u / 10)).length + 1) = p + 1 - (decDigits (u / 10)).length by omega, List.append_assoc]
theorem padded_split : ∀ (p u : Nat), padded u (p : Int) = decDigits (u / 10 ^ p) ++ low p u ∧ (low p u).length = p
  | 0, u => by
    have h1 := dec_pos u
    unfold low padded
    rw [show ((0 : Nat) : Int).toNat + 1 - (decDigits u).length = 0 by omega, Nat.pow_zero, Nat.div_one, Nat.mod_one, decDigits_one (by omega : 1 + 0 < 10)]
    exact ⟨by simp, rfl⟩
  | p + 1, u => by
    obtain ⟨i1, i2⟩ := padded_split p (u / 10)
    have hpow : 1 ≤ 10 ^ p := Nat.one_le_pow _ _ (by omega)
    have hp1 : 10 ^ (p + 1) = 10 * 10 ^ p := by rw [Nat.pow_succ, Nat.mul_comm]
    have e1 : (10 ^ (p + 1) + u % 10 ^ (p + 1)) / 10 = 10 ^ p + u / 10 % 10 ^ p := by
      rw [hp1, Nat.mod_mul]; omega
    have e2 : (10 ^ (p + 1) + u % 10 ^ (p + 1)) % 10 = u % 10 := by
      rw [hp1, Nat.mod_mul]; omega
    have e3 : low (p + 1) u = low p (u / 10) ++ [UInt8.ofNat (48 + u % 10)] := by
      unfold low
      have hne := dec_pos (10 ^ p + u / 10 % 10 ^ p)
      rw [dec_unfold (by omega : ¬ 10 ^ (p + 1) + u % 10 ^ (p + 1) < 10), e1, e2, List.drop_append_of_le_length (by omega)]
    rw [padded_step, e3, i1, List.append_assoc, show u / 10 ^ (p + 1) = u / 10 / 10 ^ p by rw [hp1, Nat.div_div_eq_div_mul]]
    exact ⟨rfl, by rw [List.length_append, i2]; rfl⟩
theorem pointed_split (p u : Nat) (hp : 0 < p) : pointed (padded u (p : Int)) (p : Int) = decDigits (u / 10 ^ p) ++ [46] ++ low p u := by
  obtain ⟨h1, h2⟩ := padded_split p u
  unfold pointed
  have hl : (padded u (p : Int)).length = (decDigits (u / 10 ^ p)).length + p := by rw [h1, List.length_append, h2]
  rw [if_pos (by omega), Int.toNat_natCast, hl, Nat.add_sub_cancel, h1, List.take_left' rfl, List.drop_left' rfl]
end Go.Proofs.YthbphpmiandmbaaDoor.V
