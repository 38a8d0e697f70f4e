/- Numerals are read as their numbers. -/
import Derived.Test.YtadniiehehiblaaDoorVgEnv
import Derived.Test.YtadniiehehiblaaDoorVBase
import Derived.Test.YtadniiehehiblaaDoorVDec
import Derived.Test.YtadniiehehiblaaDoorVText
import Derived.Lib.AtoiAll
set_option linter.unusedVariables false
namespace Go.Proofs.YtadniiehehiblaaDoor.V
open Go.VI Go.Lib
def valFrom (acc : Nat) (l : List UInt8) : Nat := l.foldl (fun n c => 10 * n + (c.toNat - 48)) acc
theorem valFrom_cons (acc : Nat) (c : UInt8) (l : List UInt8) : valFrom acc (c :: l) = valFrom (10 * acc + (c.toNat - 48)) l := by
  unfold valFrom; rw [List.foldl_cons]
theorem valFrom_ge : ∀ (l : List UInt8) (acc : Nat), acc ≤ valFrom acc l
  | [], acc => Nat.le_refl _
  | c :: l, acc => by
    rw [valFrom_cons]
    have := valFrom_ge l (10 * acc + (c.toNat - 48))
    omega
theorem parse10 (l : List UInt8) : ∀ (acc M : Nat), M = 18446744073709551616 → (∀ c ∈ l, IsD c) → valFrom acc l < M → parseUint10 acc l = .ok (valFrom acc l) := by
  induction l with
  | nil => intro acc M _ _ _; rfl
  | cons c l ih =>
    intro acc M hM hd hv
    have hc := hd c (by simp)
    unfold IsD at hc
    rw [valFrom_cons] at hv ⊢
    have h1 := valFrom_ge l (10 * acc + (c.toNat - 48))
    have h2 : ¬ 1844674407370955162 ≤ acc := by omega
    have h3 : ¬ 18446744073709551616 ≤ acc * 10 + (c.toNat - 48) := by omega
    rw [parseUint10, if_pos hc, if_neg h2, if_neg h3, show acc * 10 + (c.toNat - 48) = 10 * acc + (c.toNat - 48) by omega]
    exact ih _ M hM (fun d h => hd d (by simp [h])) hv
theorem atoi_dec (n : Nat) (h : n < 9223372036854775808) : atoiAll (decDigits n) = .ok (n : Int) := by
  have hd := dec_digits n
  have hv : valFrom 0 (decDigits n) = n := dec_val n
  cases e : decDigits n with
  | nil => exact absurd e (dec_ne n)
  | cons c r =>
    rw [e] at hd hv
    have hc := hd c (by simp)
    unfold IsD at hc
    have hp : parseMag (c :: r) = .ok n := by
      unfold parseMag
      rw [if_neg (by simp), parse10 (c :: r) 0 _ rfl hd (by omega), hv]
    unfold atoiAll
    simp only
    rw [if_neg (by omega : ¬ (c.toNat = 43 ∨ c.toNat = 45)), hp]
    simp only
    rw [if_neg (by omega), if_neg (by omega), if_neg (by omega)]
theorem atoi_neg (n : Nat) (h : n < 9223372036854775808) : atoiAll (45 :: decDigits n) = .ok (-(n : Int)) := by
  have hd := dec_digits n
  have hv : valFrom 0 (decDigits n) = n := dec_val n
  have hne := dec_ne n
  have hp : parseMag (decDigits n) = .ok n := by
    unfold parseMag
    rw [if_neg hne, parse10 (decDigits n) 0 _ rfl hd (by omega), hv]
  have h45 : (45 : UInt8).toNat = 45 := rfl
  unfold atoiAll
  simp only
  rw [if_pos (.inr h45), hp]
  simp only
  rw [if_neg (by omega), if_neg (by omega), if_pos h45]
end Go.Proofs.YtadniiehehiblaaDoor.V
