/- What is written is read: facts on lists. -/
import Derived.Test.YthbphpmiandmbaaDoorVgEnv
import Derived.Test.YthbphpmiandmbaaDoorVBase
import Derived.Test.YthbphpmiandmbaaDoorVDec
import Derived.Test.YthbphpmiandmbaaDoorVParse
import Derived.Test.YthbphpmiandmbaaDoorVParse2
import Derived.Test.YthbphpmiandmbaaDoorVParse3
import Derived.Test.YthbphpmiandmbaaDoorVParse4
import Derived.Test.YthbphpmiandmbaaDoorVFmt
set_option linter.unusedVariables false
namespace Go.Proofs.YthbphpmiandmbaaDoor.V
open Go.VI Go.Lib
theorem index_no : ∀ (l : List UInt8), (∀ c ∈ l, c ≠ 46) → indexByte l 46 = -1
  | [], _ => rfl
  | a :: l, h => by
    have ih := index_no l fun c hc => h c (by simp [hc])
    have ha : (a == 46) = false := beq_false_of_ne (h a (by simp))
    rw [indexByte, ha, ih]; rfl
theorem index_at (q : List UInt8) : ∀ (w : List UInt8), (∀ c ∈ w, c ≠ 46) → indexByte (w ++ 46 :: q) 46 = (w.length : Int)
  | [], _ => rfl
  | a :: l, h => by
    have ih := index_at q l fun c hc => h c (by simp [hc])
    have ha : (a == 46) = false := beq_false_of_ne (h a (by simp))
    have hn : ((l.length : Int) == -1) = false := by simp
    show (if a == 46 then 0 else if indexByte (l ++ 46 :: q) 46 == -1 then -1 else indexByte (l ++ 46 :: q) 46 + 1) = _
    rw [ha, ih, hn]
    simp
theorem isD_ne {c : UInt8} (h : IsD c) : c ≠ 46 ∧ c ≠ 45 := by
  unfold IsD at h
  constructor
  · rintro rfl
    have : (46 : UInt8).toNat = 46 := rfl
    omega
  · rintro rfl
    have : (45 : UInt8).toNat = 45 := rfl
    omega
theorem drop_zeros (t : List UInt8) : ∀ n, (List.replicate n 48 ++ t).dropWhile (· == 48) = t.dropWhile (· == 48)
  | 0 => rfl
  | n + 1 => by
    rw [List.replicate_succ, List.cons_append, List.dropWhile_cons_of_pos (by rfl)]
    exact drop_zeros t n
theorem drop_head {t : List UInt8} (h : t.head? ≠ some 48) : t.dropWhile (· == 48) = t := by
  cases t with
  | nil => rfl
  | cons a t =>
    have : a ≠ 48 := fun e => h (by rw [e]; rfl)
    rw [List.dropWhile_cons_of_neg (by simpa using this)]
theorem drop_padded (u : Nat) (p : Int) : (padded u p).dropWhile (· == 48) = if u = 0 then [] else decDigits u := by
  unfold padded
  rw [drop_zeros]
  by_cases c : u = 0
  · subst c
    rw [if_pos rfl, decDigits_one (by omega)]; rfl
  · rw [if_neg c, drop_head (dec_head u (by omega))]
end Go.Proofs.YthbphpmiandmbaaDoor.V
