/- Both write decimals alike. -/
import Derived.Test.YthbphpmiandmbaaDoorVg2
import Derived.Test.YthbphpmiandmbaaDoorVBase
import Derived.Test.YthbphpmiandmbaaDoorVKeep
import Derived.Test.YthbphpmiandmbaaDoorVUnit
import Derived.Test.YthbphpmiandmbaaDoorVDec
import Derived.Test.YthbphpmiandmbaaDoorVParse
import Derived.Test.YthbphpmiandmbaaDoorVParse2
import Derived.Test.YthbphpmiandmbaaDoorVParse3
import Derived.Test.YthbphpmiandmbaaDoorVParse4
import Derived.Test.YthbphpmiandmbaaDoorVFmt
import Derived.Test.YthbphpmiandmbaaDoorVRound
import Derived.Test.YthbphpmiandmbaaDoorVRound2
import Derived.Test.YthbphpmiandmbaaDoorVRound3
import Derived.Test.YthbphpmiandmbaaDoorVRound4
import Derived.Test.YthbphpmiandmbaaDoorVRef4
import Derived.Test.YthbphpmiandmbaaDoorVRef7
set_option linter.unusedVariables false
set_option maxRecDepth 100000
namespace Go.Proofs.YthbphpmiandmbaaDoor.V
open Go.VI Go.Lib
theorem table_pow {p : Int} (hp : 0 ≤ p ∧ p ≤ 6) : List.getD [(1:Int), 10, 100, 1000, 10000, 100000, 1000000] (Int.toNat p) 0 = ((10 ^ p.toNat : Nat) : Int) := by
  obtain ⟨n, rfl⟩ := Int.eq_ofNat_of_zero_le hp.1
  have : n ≤ 6 := by omega
  match n, this with
  | 0, _ | 1, _ | 2, _ | 3, _ | 4, _ | 5, _ | 6, _ => rfl
  | n + 7, h => omega
theorem pow_bd {p : Int} (hp : 0 ≤ p ∧ p ≤ 6) : 1 ≤ 10 ^ p.toNat ∧ 10 ^ p.toNat ≤ 1000000 := by
  obtain ⟨n, rfl⟩ := Int.eq_ofNat_of_zero_le hp.1
  have : n ≤ 6 := by omega
  match n, this with
  | 0, _ | 1, _ | 2, _ | 3, _ | 4, _ | 5, _ | 6, _ => decide
  | n + 7, h => omega
theorem drop1_mk (l : List UInt8) : (bs l).extract (Int.toNat 1) (Int.toNat ((l.length : Nat) : Int)) = bs (l.drop 1) := by
  rw [show Int.toNat 1 = 1 from rfl, Int.toNat_natCast, extract_mk, List.take_length]
/-- What stands behind the sign, by the reference. -/
theorem ref_text (sg : List UInt8) (hsg : sg.length ≤ 1) (u : Nat) (hu : u ≤ 1000000000) (p : Int) (hp : 0 ≤ p ∧ p ≤ 6) :
    (bif (p == (0:Int)) then
     (Option.bind (ref01_Decimal.F (((u : Int), ()), ())) (fun y5 =>
     (bif (decide (((ByteArray.size (bs sg)) + (ByteArray.size y5.1.1)) ≤ (9223372036854775807:Nat))) then
      (some ((((bs sg) ++ y5.1.1), ()), ()))
     else
      none)))
    else
     (bif (!(decide (((10 ^ p.toNat : Nat) : Int) = (0:Int)))) then
      (Option.bind (ref01_Decimal.F (((Go.IntKind.wrap Go.IntKind.i64 (Int.tdiv (u : Int) ((10 ^ p.toNat : Nat) : Int))), ()), ())) (fun y6 =>
      (bif (decide (((ByteArray.size (bs sg)) + (ByteArray.size y6.1.1)) ≤ (9223372036854775807:Nat))) then
       (bif (decide (((ByteArray.size ((bs sg) ++ y6.1.1)) + (ByteArray.size (ByteArray.mk #[(46:UInt8)]))) ≤ (9223372036854775807:Nat))) then
        (bif (!(decide (((10 ^ p.toNat : Nat) : Int) = (0:Int)))) then
         (Option.bind (ref01_Decimal.F (((Go.IntKind.wrap Go.IntKind.i64 (((10 ^ p.toNat : Nat) : Int) + (Int.tmod (u : Int) ((10 ^ p.toNat : Nat) : Int)))), ()), ())) (fun y10 =>
         (bif (decide ((1:Int) ≤ (((ByteArray.size y10.1.1) : Nat) : Int))) then
          (bif (decide (((ByteArray.size (((bs sg) ++ y6.1.1) ++ (ByteArray.mk #[(46:UInt8)]))) + (ByteArray.size (ByteArray.extract y10.1.1 (Int.toNat (1:Int)) (Int.toNat (((ByteArray.size y10.1.1) : Nat) : Int))))) ≤ (9223372036854775807:Nat))) then
           (some ((((((bs sg) ++ y6.1.1) ++ (ByteArray.mk #[(46:UInt8)])) ++ (ByteArray.extract y10.1.1 (Int.toNat (1:Int)) (Int.toNat (((ByteArray.size y10.1.1) : Nat) : Int)))), ()), ()))
          else
           none)
         else
          none)))
        else
         none)
       else
        none)
      else
       none)))
     else
      none) : Option ((ByteArray × Unit) × Unit)) = some ((bs (sg ++ pointed (padded u p) p), ()), ()) := by
  obtain ⟨hP1, hP2⟩ := pow_bd hp
  by_cases c : p = 0
  · subst c
    have hl := dec_len2 u (by omega)
    have h1 := dec_pos u
    rw [show ((0 : Int) == 0) = true from rfl, decimal_ok u (by omega)]
    simp only [cond_true, Option.bind_some]
    rw [size_mk, size_mk, dt (by omega), append_mk2]
    have : pointed (padded u 0) 0 = decDigits u := by
      unfold pointed padded
      rw [if_neg (by omega), show (0 : Int).toNat + 1 - (decDigits u).length = 0 by omega]; rfl
    rw [this]; rfl
  · have hpp : pointed (padded u p) p = decDigits (u / 10 ^ p.toNat) ++ [46] ++ low p.toNat u := by
      have := pointed_split p.toNat u (by omega)
      rwa [show ((p.toNat : Nat) : Int) = p by omega] at this
    rw [hpp, bf c]
    unfold low
    generalize 10 ^ p.toNat = T at hP1 hP2 ⊢
    have h1 : Int.tdiv (u : Int) (T : Int) = ((u / T : Nat) : Int) := by rw [Int.tdiv_eq_ediv_of_nonneg (by omega)]; rfl
    have h2 : Int.tmod (u : Int) (T : Int) = ((u % T : Nat) : Int) := by rw [Int.tmod_eq_emod_of_nonneg (by omega)]; rfl
    have h3 : u % T < T := Nat.mod_lt _ (by omega)
    have h4 : u / T ≤ u := Nat.div_le_self _ _
    rw [h1, h2]
    generalize u / T = a at h4 ⊢
    generalize u % T = b at h3 ⊢
    rw [w64 (n := ((a : Nat) : Int)) (by omega), w64 (n := (T : Int) + ((b : Nat) : Int)) (by omega), show (T : Int) + ((b : Nat) : Int) = ((T + b : Nat) : Int) by omega]
    rw [df (by omega : ¬ (T : Int) = 0), decimal_ok (a) (by omega), decimal_ok (T + b) (by omega)]
    have l1 := dec_len2 (a) (by omega)
    have l2 := dec_len2 (T + b) (by omega)
    have l3 := dec_pos (T + b)
    simp only [cond_false, Bool.not_false, cond_true, Option.bind_some]
    rw [show (ByteArray.mk #[(46:UInt8)]) = bs [46] from rfl, append_mk2, append_mk2]
    simp only [size_mk]
    rw [drop1_mk, append_mk2]
    simp only [size_mk]
    have e1 : (sg ++ decDigits (a)).length ≤ 100 := by rw [List.length_append]; omega
    have e2 : (sg ++ decDigits (a) ++ [46]).length ≤ 101 := by rw [List.length_append]; simp only [List.length_cons, List.length_nil]; omega
    have e3 : ((decDigits (T + b)).drop 1).length ≤ 100 := by rw [List.length_drop]; omega
    have e4 : ([46] : List UInt8).length = 1 := rfl
    rw [dt (by omega), dt (by omega), dt (by omega), dt (by omega)]
    simp only [cond_true, List.append_assoc]
theorem padded_len2 (u : Nat) (h : u ≤ 1000000000) (p : Int) (hp : 0 ≤ p ∧ p ≤ 6) : (padded u p).length ≤ 30 := by
  have := padded_len u p
  have := dec_len u h
  omega
theorem pointed_len (T : List UInt8) (p : Int) (hT : T.length ≤ 30) : (pointed T p).length ≤ 31 := by
  unfold pointed
  split
  · rw [List.length_append, List.length_append, List.length_take, List.length_drop]
    simp only [List.length_cons, List.length_nil]
    omega
  · omega
/-- Both write alike. -/
theorem format_same (d p : Int) : ∃ t : List UInt8, t.length ≤ 40 ∧ unit_Format.F (((d, p, ()), ()), ()) = some ((bs t, ()), ()) ∧ ref04_Format.F (((d, p, ()), ()), ()) = some ((bs t, ()), ()) := by
  obtain ⟨b, h1, h2, h3⟩ := proper_same d p
  cases b with
  | false =>
    refine ⟨[], by simp, ?_, ?_⟩
    · rw [unit_Format.F_eq, unit_Format.f, h1]; rfl
    · rw [ref04_Format.F_eq, ref04_Format.f, h2]; rfl
  | true =>
    obtain ⟨hd, hp⟩ := h3 rfl
    have hl := pointed_len _ p (padded_len2 d.natAbs (by omega) p hp)
    refine ⟨signed (decide (d < 0)) (pointed (padded d.natAbs p) p), ?_, format_ok d p hd hp, ?_⟩
    · unfold signed
      split
      · rw [List.length_cons]; omega
      · omega
    · rw [ref04_Format.F_eq, ref04_Format.f, h2]
      simp only [Option.bind_some, Bool.not_true, cond_false]
      rw [power_ok hp, table_pow hp]
      simp only [Option.bind_some]
      by_cases c : d < 0
      · rw [dt c, w64 (n := 0 - d) (by omega), show 0 - d = ((d.natAbs : Nat) : Int) by omega]
        exact ref_text [45] (by simp) d.natAbs (by omega) p hp
      · rw [df c, show d = ((d.natAbs : Nat) : Int) by omega]
        exact ref_text [] (by simp) d.natAbs (by omega) p hp
end Go.Proofs.YthbphpmiandmbaaDoor.V
