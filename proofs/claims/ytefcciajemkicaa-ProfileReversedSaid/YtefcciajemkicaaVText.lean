/- Texts as lists of bytes. -/
import Derived.Test.YtefcciajemkicaaVg0
import Derived.Test.YtefcciajemkicaaVBase
import Derived.Test.YtefcciajemkicaaVDec
set_option linter.unusedVariables false
namespace Go.Proofs.Ytefcciajemkicaa.V
open Go.VI Go.Lib
theorem toList_eq (s : ByteArray) : s.toList = s.data.toList := by
  have : ∀ (n i : Nat) (acc : List UInt8), s.size - i = n → ByteArray.toList.loop s i acc = acc.reverse ++ s.data.toList.drop i := by
    intro n
    induction n with
    | zero =>
      intro i acc h
      rw [ByteArray.toList.loop, if_neg (by omega), List.drop_eq_nil_of_le (by show s.data.size ≤ i; have : s.size = s.data.size := rfl; omega)]; simp
    | succ n ih =>
      intro i acc h
      rw [ByteArray.toList.loop, if_pos (by omega), ih (i + 1) _ (by omega)]
      have hlt : i < s.data.toList.length := by have : s.size = s.data.size := rfl; simp; omega
      rw [List.drop_eq_getElem_cons hlt]
      have hget : s.get! i = s.data.toList[i] := by
        have hi : i < s.data.size := by simpa using hlt
        show s.data[i]! = _
        rw [getElem!_pos s.data i hi]; simp
      rw [hget]
      simp
  have := this s.size 0 [] (by omega)
  simpa [ByteArray.toList] using this
theorem size_mk (l : List UInt8) : (ByteArray.mk l.toArray).size = l.length := by show l.toArray.size = _; simp
theorem getD_mk (l : List UInt8) (i : Nat) : (ByteArray.mk l.toArray).data.getD i 0 = l.getD i 0 := by
  show l.toArray.getD i 0 = _
  simp [Array.getD, List.getD_eq_getElem?_getD]
  split <;> simp_all
theorem extract_mk (l : List UInt8) (a b : Nat) : (ByteArray.mk l.toArray).extract a b = ByteArray.mk ((l.take b).drop a).toArray := by
  apply ByteArray.ext
  rw [ByteArray.data_extract]
  apply Array.ext'
  rw [Array.toList_extract]
  simp [List.extract, List.drop_take]
theorem append_mk2 (w p : List UInt8) : ByteArray.mk w.toArray ++ ByteArray.mk p.toArray = ByteArray.mk (w ++ p).toArray := by
  apply ByteArray.ext
  rw [ByteArray.data_append]
  simp
@[reducible] def bs (X : List UInt8) : ByteArray := ByteArray.mk X.toArray
theorem bind_self {A : Type} (o : Option A) : (o.bind fun y => some y) = o := by cases o <;> rfl
theorem isD_ne {c : UInt8} (h : IsD c) : c ≠ 46 ∧ c ≠ 45 := by
  unfold IsD at h
  constructor
  · rintro rfl
    have : (46 : UInt8).toNat = 46 := rfl
    omega
  · rintro rfl
    have : (45 : UInt8).toNat = 45 := rfl
    omega
end Go.Proofs.Ytefcciajemkicaa.V
