/- A cut at a space. -/
import Derived.Test.YtadniiehehiblaaDoorVg5
import Derived.Test.YtadniiehehiblaaDoorVBase
import Derived.Test.YtadniiehehiblaaDoorVDec
import Derived.Test.YtadniiehehiblaaDoorVText
set_option linter.unusedVariables false
namespace Go.Proofs.YtadniiehehiblaaDoor.V
open Go.VI Go.Lib
theorem index_eq (l : List UInt8) (h : l.length ≤ 1000000) : ∃ v, stringslite_Index.F ((ByteArray.mk l.toArray, (ByteArray.mk #[32], ())), ()) = some ((v, ()), ()) ∧ v = indexByte l 32 := by
  rw [stringslite_Index.F_eq, stringslite_Index.f, stringslite_Index.L0_eq, stringslite_Index.f0, stringslite_Index.L1_eq, stringslite_Index.f1, toList_eq, toList_eq]
  rw [show ((((ByteArray.size (ByteArray.mk #[32])) : Nat) : Int) == 0) = false from rfl]
  simp only [cond_false, Option.bind_some, Sum.elim_inl]
  by_cases e : (ByteArray.mk #[32]).data.toList = (ByteArray.mk l.toArray).data.toList
  · rw [show ((ByteArray.mk #[32]).data.toList == (ByteArray.mk l.toArray).data.toList) = true from beq_iff_eq.2 e]
    have : l = [32] := by simpa using e.symm
    subst this
    exact ⟨0, rfl, by decide⟩
  · rw [show ((ByteArray.mk #[32]).data.toList == (ByteArray.mk l.toArray).data.toList) = false from beq_false_of_ne e]
    refine ⟨_, rfl, ?_⟩
    show indexByte (ByteArray.mk l.toArray).data.toList _ = _
    simp
theorem cut_none (l : List UInt8) (h : l.length ≤ 1000000) (hn : indexByte l 32 = -1) : strings_Cut.F ((ByteArray.mk l.toArray, (ByteArray.mk #[32], ())), ()) = some ((ByteArray.mk l.toArray, ByteArray.mk #[], false, ()), ()) := by
  obtain ⟨v, e, rfl⟩ := index_eq l h
  have : stringslite_Cut.F ((ByteArray.mk l.toArray, (ByteArray.mk #[32], ())), ()) = some ((ByteArray.mk l.toArray, ByteArray.mk #[], false, ()), ()) := by
    rw [stringslite_Cut.F_eq, stringslite_Cut.f, e]
    simp only [Option.bind_some]
    rw [hn]; rfl
  rw [strings_Cut.F_eq, strings_Cut.f, this]; rfl
theorem cut_some (l : List UInt8) (h : l.length ≤ 1000000) (i : Nat) (hi : indexByte l 32 = i) (hl : i + 1 ≤ l.length) : strings_Cut.F ((ByteArray.mk l.toArray, (ByteArray.mk #[32], ())), ()) = some ((ByteArray.mk (l.take i).toArray, ByteArray.mk (l.drop (i + 1)).toArray, true, ()), ()) := by
  obtain ⟨v, e, rfl⟩ := index_eq l h
  have : stringslite_Cut.F ((ByteArray.mk l.toArray, (ByteArray.mk #[32], ())), ()) = some ((ByteArray.mk (l.take i).toArray, ByteArray.mk (l.drop (i + 1)).toArray, true, ()), ()) := by
    rw [stringslite_Cut.F_eq, stringslite_Cut.f, e]
    simp only [Option.bind_some]
    rw [hi, size_mk, show (ByteArray.mk #[32]).size = 1 from rfl, w64 (n := (i : Int) + ((1 : Nat) : Int)) (by omega), dt (by omega : (i : Int) ≥ 0), dt (by omega : (i : Int) ≤ (l.length : Int)), dt (by omega : (0 : Int) ≤ (i : Int) + ((1 : Nat) : Int)), dt (by omega : (i : Int) + ((1 : Nat) : Int) ≤ (l.length : Int)),
      show ((i : Int) + ((1 : Nat) : Int)).toNat = i + 1 by omega, Int.toNat_natCast, Int.toNat_natCast, extract_mk, extract_mk, List.take_length]
    rfl
  rw [strings_Cut.F_eq, strings_Cut.f, this]; rfl
theorem index_no : ∀ (l : List UInt8), (∀ c ∈ l, c ≠ 32) → indexByte l 32 = -1
  | [], _ => rfl
  | a :: l, h => by
    have ih := index_no l fun c hc => h c (by simp [hc])
    have ha : (a == 32) = false := beq_false_of_ne (h a (by simp))
    rw [indexByte, ha, ih]; rfl
theorem index_at (q : List UInt8) : ∀ (w : List UInt8), (∀ c ∈ w, c ≠ 32) → indexByte (w ++ 32 :: q) 32 = (w.length : Int)
  | [], _ => rfl
  | a :: l, h => by
    have ih := index_at q l fun c hc => h c (by simp [hc])
    have ha : (a == 32) = false := beq_false_of_ne (h a (by simp))
    have hn : ((l.length : Int) == -1) = false := by simp
    show (if a == 32 then 0 else if indexByte (l ++ 32 :: q) 32 == -1 then -1 else indexByte (l ++ 32 :: q) 32 + 1) = _
    rw [ha, ih, hn]
    simp
end Go.Proofs.YtadniiehehiblaaDoor.V
