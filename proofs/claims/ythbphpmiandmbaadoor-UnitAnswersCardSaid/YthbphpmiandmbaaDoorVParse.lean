/- Reading decimals: the loops over a text. -/
import Derived.Test.YthbphpmiandmbaaDoorVg0
import Derived.Test.YthbphpmiandmbaaDoorVBase
import Derived.Test.YthbphpmiandmbaaDoorVDec
set_option linter.unusedVariables false
namespace Go.Proofs.YthbphpmiandmbaaDoor.V
open Go.VI Go.Lib
theorem class_eq (c : UInt8) : (IsD c ∧ unit_class.F (((c.toNat : Int), ()), ()) = some ((0, ()), ())) ∨ (¬ IsD c ∧ unit_class.F (((c.toNat : Int), ()), ()) = some ((1, ()), ())) := by
  rw [unit_class.F_eq, unit_class.f]
  unfold IsD
  by_cases h : (c.toNat : Int) < 48
  · rw [dt h]; exact .inr ⟨by omega, rfl⟩
  · rw [df h]
    by_cases k : (c.toNat : Int) > 57
    · rw [dt k]; exact .inr ⟨by omega, rfl⟩
    · rw [df k]; exact .inl ⟨by omega, rfl⟩
def DigFrom (s : ByteArray) (i : Nat) : Prop := ∀ j, i ≤ j → j < s.size → IsD (s.data.getD j 0)
theorem digits_loop (s : ByteArray) (hs : s.size ≤ 1000000) : ∀ (k i : Nat), i + k = s.size →
    (DigFrom s i ∧ unit_digits.L0 ((s, (s.size : Int), (i : Int), ()), ()) = some (Sum.inl ((s, ()), ()))) ∨ (¬ DigFrom s i ∧ unit_digits.L0 ((s, (s.size : Int), (i : Int), ()), ()) = some (Sum.inr (Sum.inl ((false, ()), ()))))
  | 0, i, h => by
    refine .inl ⟨fun j h1 h2 => absurd h2 (by omega), ?_⟩
    rw [unit_digits.L0_eq, unit_digits.f0, df (by omega)]; rfl
  | k + 1, i, h => by
    have ih := digits_loop s hs k (i + 1) (by omega)
    rw [unit_digits.L0_eq, unit_digits.f0, dt (by omega : (i : Int) < (s.size : Int)), dt (by omega : (0 : Int) ≤ (i : Int)), show ((i : Int)).toNat = i by omega, w64 (n := (i : Int) + 1) (by omega)]
    simp only [cond_true]
    rcases class_eq (s.data.getD i 0) with ⟨c1, c2⟩ | ⟨c1, c2⟩
    · rw [c2]
      simp only [Option.bind_some]
      rw [show ((0 : Int) != 0) = false from rfl, show (i : Int) + 1 = ((i + 1 : Nat) : Int) by omega]
      simp only [cond_false]
      rcases ih with ⟨h1, h2⟩ | ⟨h1, h2⟩
      · refine .inl ⟨fun j hj hk => ?_, by rw [h2]; rfl⟩
        by_cases e : j = i
        · subst e; exact c1
        · exact h1 j (by omega) hk
      · exact .inr ⟨fun hp => h1 fun j hj hk => hp j (by omega) hk, by rw [h2]; rfl⟩
    · rw [c2]
      exact .inr ⟨fun hp => c1 (hp i (Nat.le_refl i) (by omega)), rfl⟩
theorem toList_eq (s : ByteArray) : s.toList = s.data.toList := by
  have : ∀ (n i : Nat) (acc : List UInt8), s.size - i = n → ByteArray.toList.loop s i acc = acc.reverse ++ s.data.toList.drop i := by
    intro n
    induction n with
    | zero =>
      intro i acc h
      rw [ByteArray.toList.loop, if_neg (by omega), List.drop_eq_nil_of_le (by show s.data.size ≤ i; have : s.size = s.data.size := rfl; omega)]; simp
    | succ n ih =>
      intro i acc h
      rw [ByteArray.toList.loop, if_pos (by omega), ih (i + 1) _ (by omega)]
      have hlt : i < s.data.toList.length := by have : s.size = s.data.size := rfl; simp; omega
      rw [List.drop_eq_getElem_cons hlt]
      have hget : s.get! i = s.data.toList[i] := by
        have hi : i < s.data.size := by simpa using hlt
        show s.data[i]! = _
        rw [getElem!_pos s.data i hi]; simp
      rw [hget]
      simp
  have := this s.size 0 [] (by omega)
  simpa [ByteArray.toList] using this
/-- One or more digits. -/
theorem digits_eq (s : ByteArray) (hs : s.size ≤ 1000000) : ∃ b, unit_digits.F ((s, ()), ()) = some ((b, ()), ()) ∧ (b = true ↔ s.data.toList ≠ [] ∧ ∀ c ∈ s.data.toList, IsD c) := by
  rw [unit_digits.F_eq, unit_digits.f]
  have hL := digits_loop s hs s.size 0 (by omega)
  rw [show ((0 : Nat) : Int) = 0 from rfl] at hL
  have hsz : s.size = s.data.toList.length := by show s.data.size = _; simp
  have hall : DigFrom s 0 ↔ ∀ c ∈ s.data.toList, IsD c := by
    constructor
    · intro h c hc
      obtain ⟨i, hi, rfl⟩ := List.getElem_of_mem hc
      have := h i (Nat.zero_le i) (by omega)
      have hi' : i < s.data.size := by simpa using hi
      have hi2 : i < s.size := hi'
      simpa [Array.getD, hi', hi2] using this
    · intro h j _ hj
      have hj' : j < s.data.size := hj
      have := h s.data[j] (by simp)
      have hj2 : j < s.size := hj
      simpa [Array.getD, hj', hj2] using this
  rcases hL with ⟨h1, h2⟩ | ⟨h1, h2⟩
  · rw [h2]
    simp only [Option.bind_some, Sum.elim_inl]
    rw [toList_eq, toList_eq]
    refine ⟨_, rfl, ?_⟩
    simp only [Bool.not_eq_true', beq_eq_false_iff_ne, ne_eq]
    exact ⟨fun h => ⟨h, hall.1 h1⟩, fun h => h.1⟩
  · rw [h2]
    exact ⟨false, rfl, fun h => (by cases h), fun h => absurd (hall.2 h.2) h1⟩
end Go.Proofs.YthbphpmiandmbaaDoor.V
