/- Reading decimals: the sign, and the point. -/
import Derived.Test.YthbphpmiandmbaaDoorVg0
import Derived.Test.YthbphpmiandmbaaDoorVBase
import Derived.Test.YthbphpmiandmbaaDoorVDec
import Derived.Test.YthbphpmiandmbaaDoorVParse
import Derived.Test.YthbphpmiandmbaaDoorVParse2
set_option linter.unusedVariables false
namespace Go.Proofs.YthbphpmiandmbaaDoor.V
open Go.VI Go.Lib
theorem cutminus_yes (r : List UInt8) (h : r.length ≤ 1000000) : strings_CutPrefix.F ((ByteArray.mk (45 :: r).toArray, (ByteArray.mk #[45], ())), ()) = some ((ByteArray.mk r.toArray, true, ()), ()) := by
  show (Option.bind (Option.bind (stringslite_HasPrefix.f (ByteArray.mk (45 :: r).toArray) (ByteArray.mk #[45])) _) _) = _
  rw [stringslite_HasPrefix.f, size_mk, show (ByteArray.mk #[45]).size = 1 from rfl, dt (by simp only [List.length_cons]; omega : (((45 :: r).length : Nat) : Int) ≥ ((1 : Nat) : Int)),
    show (0 : Int).toNat = 0 from rfl, Int.toNat_natCast, extract_mk, toList_eq, toList_eq]
  simp only [cond_true]
  rw [show ((ByteArray.mk (((45 :: r).take 1).drop 0).toArray).data.toList == (ByteArray.mk #[45]).data.toList) = true from rfl]
  simp only [Option.bind_some, Bool.not_true, cond_false]
  rw [Int.toNat_natCast, extract_mk, List.take_length]
  rfl
theorem cutminus_no (l : List UInt8) (h : l.length ≤ 1000000) (hn : l.head? ≠ some 45) : strings_CutPrefix.F ((ByteArray.mk l.toArray, (ByteArray.mk #[45], ())), ()) = some ((ByteArray.mk l.toArray, false, ()), ()) := by
  show (Option.bind (Option.bind (stringslite_HasPrefix.f (ByteArray.mk l.toArray) (ByteArray.mk #[45])) _) _) = _
  rw [stringslite_HasPrefix.f, size_mk, show (ByteArray.mk #[45]).size = 1 from rfl]
  cases l with
  | nil => rw [df (by simp)]; rfl
  | cons a r =>
    rw [dt (by simp only [List.length_cons]; omega : (((a :: r).length : Nat) : Int) ≥ ((1 : Nat) : Int)),
      show (0 : Int).toNat = 0 from rfl, Int.toNat_natCast, extract_mk, toList_eq, toList_eq]
    simp only [cond_true]
    have ha : a ≠ 45 := fun e => hn (by rw [e]; rfl)
    rw [show ((ByteArray.mk (((a :: r).take 1).drop 0).toArray).data.toList == (ByteArray.mk #[45]).data.toList) = (a == 45) by simp, beq_false_of_ne ha]
    rfl
/-- What lies ahead of the first point, and behind it. -/
theorem index_eq (l : List UInt8) (h : l.length ≤ 1000000) : ∃ v, stringslite_Index.F ((ByteArray.mk l.toArray, (ByteArray.mk #[46], ())), ()) = some ((v, ()), ()) ∧ v = indexByte l 46 := by
  rw [stringslite_Index.F_eq, stringslite_Index.f, stringslite_Index.L0_eq, stringslite_Index.f0, stringslite_Index.L1_eq, stringslite_Index.f1, toList_eq, toList_eq]
  rw [show ((((ByteArray.size (ByteArray.mk #[46])) : Nat) : Int) == 0) = false from rfl]
  simp only [cond_false, Option.bind_some, Sum.elim_inl]
  by_cases e : (ByteArray.mk #[46]).data.toList = (ByteArray.mk l.toArray).data.toList
  · rw [show ((ByteArray.mk #[46]).data.toList == (ByteArray.mk l.toArray).data.toList) = true from beq_iff_eq.2 e]
    have : l = [46] := by simpa using e.symm
    subst this
    exact ⟨0, rfl, by decide⟩
  · rw [show ((ByteArray.mk #[46]).data.toList == (ByteArray.mk l.toArray).data.toList) = false from beq_false_of_ne e]
    refine ⟨_, rfl, ?_⟩
    show indexByte (ByteArray.mk l.toArray).data.toList _ = _
    simp
theorem cut_none (l : List UInt8) (h : l.length ≤ 1000000) (hn : indexByte l 46 = -1) : strings_Cut.F ((ByteArray.mk l.toArray, (ByteArray.mk #[46], ())), ()) = some ((ByteArray.mk l.toArray, ByteArray.mk #[], false, ()), ()) := by
  obtain ⟨v, e, rfl⟩ := index_eq l h
  have : stringslite_Cut.F ((ByteArray.mk l.toArray, (ByteArray.mk #[46], ())), ()) = some ((ByteArray.mk l.toArray, ByteArray.mk #[], false, ()), ()) := by
    rw [stringslite_Cut.F_eq, stringslite_Cut.f, e]
    simp only [Option.bind_some]
    rw [hn]; rfl
  rw [strings_Cut.F_eq, strings_Cut.f, this]; rfl
theorem cut_some (l : List UInt8) (h : l.length ≤ 1000000) (i : Nat) (hi : indexByte l 46 = i) (hl : i + 1 ≤ l.length) : strings_Cut.F ((ByteArray.mk l.toArray, (ByteArray.mk #[46], ())), ()) = some ((ByteArray.mk (l.take i).toArray, ByteArray.mk (l.drop (i + 1)).toArray, true, ()), ()) := by
  obtain ⟨v, e, rfl⟩ := index_eq l h
  have : stringslite_Cut.F ((ByteArray.mk l.toArray, (ByteArray.mk #[46], ())), ()) = some ((ByteArray.mk (l.take i).toArray, ByteArray.mk (l.drop (i + 1)).toArray, true, ()), ()) := by
    rw [stringslite_Cut.F_eq, stringslite_Cut.f, e]
    simp only [Option.bind_some]
    rw [hi, size_mk, show (ByteArray.mk #[46]).size = 1 from rfl, w64 (n := (i : Int) + ((1 : Nat) : Int)) (by omega), dt (by omega : (i : Int) ≥ 0), dt (by omega : (i : Int) ≤ (l.length : Int)), dt (by omega : (0 : Int) ≤ (i : Int) + ((1 : Nat) : Int)), dt (by omega : (i : Int) + ((1 : Nat) : Int) ≤ (l.length : Int)),
      show ((i : Int) + ((1 : Nat) : Int)).toNat = i + 1 by omega, Int.toNat_natCast, Int.toNat_natCast, extract_mk, extract_mk, List.take_length]
    rfl
  rw [strings_Cut.F_eq, strings_Cut.f, this]; rfl
end Go.Proofs.YthbphpmiandmbaaDoor.V
