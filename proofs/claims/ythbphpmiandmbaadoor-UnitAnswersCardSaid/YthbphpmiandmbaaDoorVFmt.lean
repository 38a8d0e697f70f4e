/- Writing decimals. -/
import Derived.Test.YthbphpmiandmbaaDoorVg1
import Derived.Test.YthbphpmiandmbaaDoorVBase
import Derived.Test.YthbphpmiandmbaaDoorVDec
import Derived.Test.YthbphpmiandmbaaDoorVParse
import Derived.Test.YthbphpmiandmbaaDoorVParse2
import Derived.Test.YthbphpmiandmbaaDoorVParse3
import Derived.Lib.ItoaLen
set_option linter.unusedVariables false
namespace Go.Proofs.YthbphpmiandmbaaDoor.V
open Go.VI Go.Lib
theorem append_mk2 (w p : List UInt8) : ByteArray.mk w.toArray ++ ByteArray.mk p.toArray = ByteArray.mk (w ++ p).toArray := by
  apply ByteArray.ext
  rw [ByteArray.data_append]
  simp
/-- A text with the point p digits from its end. -/
def pointed (T : List UInt8) (p : Int) : List UInt8 := if 0 < p then T.take (T.length - p.toNat) ++ [46] ++ T.drop (T.length - p.toNat) else T
def signed (mi : Bool) (T : List UInt8) : List UInt8 := if mi then 45 :: T else T
theorem signed_mk (T : List UInt8) : ByteArray.mk #[45] ++ ByteArray.mk T.toArray = ByteArray.mk (45 :: T).toArray := append_mk2 [45] T
theorem tail_ok (T : List UInt8) (p : Int) (mi : Bool) (hp : 0 ≤ p ∧ p ≤ 6) (hT : p + 1 ≤ (T.length : Int)) (hl : T.length ≤ 1000) : ((bif (decide (p > (0:Int))) then
     (bif (decide ((0:Int) ≤ (Go.IntKind.wrap Go.IntKind.i64 ((((ByteArray.size (ByteArray.mk T.toArray)) : Nat) : Int) - p)))) then
      (bif (decide ((Go.IntKind.wrap Go.IntKind.i64 ((((ByteArray.size (ByteArray.mk T.toArray)) : Nat) : Int) - p)) ≤ (((ByteArray.size (ByteArray.mk T.toArray)) : Nat) : Int))) then
       (bif (decide (((ByteArray.size (ByteArray.extract (ByteArray.mk T.toArray) (Int.toNat (0:Int)) (Int.toNat (Go.IntKind.wrap Go.IntKind.i64 ((((ByteArray.size (ByteArray.mk T.toArray)) : Nat) : Int) - p))))) + (ByteArray.size (ByteArray.mk #[(46:UInt8)]))) ≤ (9223372036854775807:Nat))) then
        (bif (decide ((0:Int) ≤ (Go.IntKind.wrap Go.IntKind.i64 ((((ByteArray.size (ByteArray.mk T.toArray)) : Nat) : Int) - p)))) then
         (bif (decide ((Go.IntKind.wrap Go.IntKind.i64 ((((ByteArray.size (ByteArray.mk T.toArray)) : Nat) : Int) - p)) ≤ (((ByteArray.size (ByteArray.mk T.toArray)) : Nat) : Int))) then
          (bif (decide (((ByteArray.size ((ByteArray.extract (ByteArray.mk T.toArray) (Int.toNat (0:Int)) (Int.toNat (Go.IntKind.wrap Go.IntKind.i64 ((((ByteArray.size (ByteArray.mk T.toArray)) : Nat) : Int) - p)))) ++ (ByteArray.mk #[(46:UInt8)]))) + (ByteArray.size (ByteArray.extract (ByteArray.mk T.toArray) (Int.toNat (Go.IntKind.wrap Go.IntKind.i64 ((((ByteArray.size (ByteArray.mk T.toArray)) : Nat) : Int) - p))) (Int.toNat (((ByteArray.size (ByteArray.mk T.toArray)) : Nat) : Int))))) ≤ (9223372036854775807:Nat))) then
           (bif mi then
            (bif (decide (((ByteArray.size (ByteArray.mk #[(45:UInt8)])) + (ByteArray.size (((ByteArray.extract (ByteArray.mk T.toArray) (Int.toNat (0:Int)) (Int.toNat (Go.IntKind.wrap Go.IntKind.i64 ((((ByteArray.size (ByteArray.mk T.toArray)) : Nat) : Int) - p)))) ++ (ByteArray.mk #[(46:UInt8)])) ++ (ByteArray.extract (ByteArray.mk T.toArray) (Int.toNat (Go.IntKind.wrap Go.IntKind.i64 ((((ByteArray.size (ByteArray.mk T.toArray)) : Nat) : Int) - p))) (Int.toNat (((ByteArray.size (ByteArray.mk T.toArray)) : Nat) : Int)))))) ≤ (9223372036854775807:Nat))) then
             (some ((((ByteArray.mk #[(45:UInt8)]) ++ (((ByteArray.extract (ByteArray.mk T.toArray) (Int.toNat (0:Int)) (Int.toNat (Go.IntKind.wrap Go.IntKind.i64 ((((ByteArray.size (ByteArray.mk T.toArray)) : Nat) : Int) - p)))) ++ (ByteArray.mk #[(46:UInt8)])) ++ (ByteArray.extract (ByteArray.mk T.toArray) (Int.toNat (Go.IntKind.wrap Go.IntKind.i64 ((((ByteArray.size (ByteArray.mk T.toArray)) : Nat) : Int) - p))) (Int.toNat (((ByteArray.size (ByteArray.mk T.toArray)) : Nat) : Int))))), ()), ()))
            else
             none)
           else
            (some (((((ByteArray.extract (ByteArray.mk T.toArray) (Int.toNat (0:Int)) (Int.toNat (Go.IntKind.wrap Go.IntKind.i64 ((((ByteArray.size (ByteArray.mk T.toArray)) : Nat) : Int) - p)))) ++ (ByteArray.mk #[(46:UInt8)])) ++ (ByteArray.extract (ByteArray.mk T.toArray) (Int.toNat (Go.IntKind.wrap Go.IntKind.i64 ((((ByteArray.size (ByteArray.mk T.toArray)) : Nat) : Int) - p))) (Int.toNat (((ByteArray.size (ByteArray.mk T.toArray)) : Nat) : Int)))), ()), ())))
          else
           none)
         else
          none)
        else
         none)
       else
        none)
      else
       none)
     else
      none)
    else
     (bif mi then
      (bif (decide (((ByteArray.size (ByteArray.mk #[(45:UInt8)])) + (ByteArray.size (ByteArray.mk T.toArray))) ≤ (9223372036854775807:Nat))) then
       (some ((((ByteArray.mk #[(45:UInt8)]) ++ (ByteArray.mk T.toArray)), ()), ()))
      else
       none)
     else
      (some (((ByteArray.mk T.toArray), ()), ())))) : Option ((ByteArray × Unit) × Unit)) = some ((ByteArray.mk (signed mi (pointed T p)).toArray, ()), ()) := by
  have h1 : (ByteArray.mk #[(46:UInt8)]).size = 1 := rfl
  have h2 : (ByteArray.mk #[(45:UInt8)]).size = 1 := rfl
  rw [size_mk, w64 (n := (T.length : Int) - p) (by omega), show ((T.length : Int) - p).toNat = T.length - p.toNat by omega, show (0 : Int).toNat = 0 from rfl, Int.toNat_natCast, extract_mk, extract_mk, List.take_length, List.drop_zero]
  unfold pointed
  by_cases c : p > 0
  · rw [dt c, if_pos c, dt (by omega : (0 : Int) ≤ (T.length : Int) - p), dt (by omega : (T.length : Int) - p ≤ (T.length : Int)), show ByteArray.mk #[(46:UInt8)] = ByteArray.mk [46].toArray from rfl, append_mk2, append_mk2, size_mk, size_mk, size_mk, size_mk, size_mk]
    have a1 : (T.take (T.length - p.toNat)).length ≤ 1000 := by rw [List.length_take]; omega
    have a2 : (T.drop (T.length - p.toNat)).length ≤ 1000 := by rw [List.length_drop]; omega
    have a3 : (T.take (T.length - p.toNat) ++ [46]).length ≤ 1001 := by rw [List.length_append]; simp only [List.length_cons, List.length_nil]; omega
    have a4 : (T.take (T.length - p.toNat) ++ [46] ++ T.drop (T.length - p.toNat)).length ≤ 2001 := by rw [List.length_append]; omega
    have a5 : ([46] : List UInt8).length = 1 := rfl
    rw [dt (by omega), dt (by omega)]
    simp only [cond_true]
    cases mi with
    | false => rfl
    | true =>
      simp only [cond_true]
      have a6 : ([45] : List UInt8).length = 1 := rfl
      rw [size_mk, dt (by omega), signed_mk]; rfl
  · rw [df c, if_neg c]
    cases mi with
    | false => rfl
    | true => 
      simp only [cond_true, cond_false]
      rw [h2, dt (by omega), signed_mk]; rfl
theorem repeat_48 : ∀ n, repeatL [48] n = List.replicate n 48
  | 0 => rfl
  | n + 1 => by rw [repeatL, repeat_48 n, List.replicate_succ]; rfl
theorem dec_len (u : Nat) (h : u ≤ 1000000000) : (decDigits u).length ≤ 21 := by
  have := itoa_length_le (u : Int) (by omega) (by omega)
  rw [itoa_nonneg] at this; exact this
/-- The digits with zeros ahead. -/
def padded (u : Nat) (p : Int) : List UInt8 := List.replicate (p.toNat + 1 - (decDigits u).length) 48 ++ decDigits u
theorem format_ok (d p : Int) (hd : -1000000000 ≤ d ∧ d ≤ 1000000000) (hp : 0 ≤ p ∧ p ≤ 6) :
    unit_Format.F (((d, p, ()), ()), ()) = some ((ByteArray.mk (signed (decide (d < 0)) (pointed (padded d.natAbs p) p)).toArray, ()), ()) := by
  have hpr : unit_proper.F (((d, p, ()), ()), ()) = some ((true, ()), ()) := by
    rw [unit_proper.F_eq, unit_proper.f, dt (by omega : d ≥ -1000000000), dt (by omega : d ≤ 1000000000), dt (by omega : p ≥ 0), dt (by omega : p ≤ 6)]; rfl
  have hlen := dec_len d.natAbs (by omega)
  have hcut : strings_CutPrefix.F ((ByteArray.mk (itoa d).toArray, (ByteArray.mk #[45], ())), ()) = some ((ByteArray.mk (decDigits d.natAbs).toArray, decide (d < 0), ()), ()) := by
    unfold itoa
    by_cases c : d < 0
    · rw [if_pos c, dt c]; exact cutminus_yes _ (by omega)
    · rw [if_neg c, df c, show d.toNat = d.natAbs by omega]
      refine cutminus_no _ (by omega) fun h => ?_
      have := dec_digits d.natAbs 45 (List.mem_of_mem_head? (by simpa using h))
      unfold IsD at this
      have h45 : (45 : UInt8).toNat = 45 := rfl
      omega
  have hpad : (padded d.natAbs p).length = (p.toNat + 1 - (decDigits d.natAbs).length) + (decDigits d.natAbs).length := by unfold padded; rw [List.length_append, List.length_replicate]
  have ht := tail_ok (padded d.natAbs p) p (decide (d < 0)) hp (by omega) (by omega)
  rw [unit_Format.F_eq, unit_Format.f, hpr]
  simp only [Option.bind_some, Bool.not_true, cond_false]
  rw [strconv_Itoa.F_eq, dt (⟨by omega, by omega⟩ : -9223372036854775808 ≤ d ∧ d ≤ 9223372036854775807)]
  simp only [cond_true, Option.bind_some]
  rw [hcut]
  simp only [Option.bind_some]
  rw [size_mk, w64 (n := p + 1) (by omega), w64 (n := p + 1 - ((decDigits d.natAbs).length : Int)) (by omega)]
  by_cases c : p + 1 - ((decDigits d.natAbs).length : Int) > 0
  · rw [dt c]
    simp only [cond_true]
    have h1 : (ByteArray.mk #[(48:UInt8)]).size = 1 := rfl
    rw [strings_Repeat.F_eq, h1, dt (⟨by omega, by omega, by omega⟩ : 0 ≤ p + 1 - ((decDigits d.natAbs).length : Int) ∧ p + 1 - ((decDigits d.natAbs).length : Int) ≤ 9223372036854775807 ∧ 1 * (p + 1 - ((decDigits d.natAbs).length : Int)).toNat ≤ 140737488355328)]
    simp only [cond_true, Option.bind_some]
    rw [show repeatL [48] (p + 1 - ((decDigits d.natAbs).length : Int)).toNat = List.replicate (p.toNat + 1 - (decDigits d.natAbs).length) 48 by rw [repeat_48]; congr 1; omega, size_mk, List.length_replicate, dt (by omega), append_mk2]
    simp only [cond_true]
    exact ht
  · rw [df c]
    simp only [cond_false]
    have e : padded d.natAbs p = decDigits d.natAbs := by
      unfold padded
      rw [show p.toNat + 1 - (decDigits d.natAbs).length = 0 by omega]; rfl
    rw [e] at ht
    rw [e]
    exact ht
end Go.Proofs.YthbphpmiandmbaaDoor.V
