/- Decimal numerals as lists of bytes. -/
import Derived.Test.YtefcciajemkicaaVg0
import Derived.Test.YtefcciajemkicaaVBase
import Derived.Lib.ItoaMem
set_option linter.unusedVariables false
namespace Go.Proofs.Ytefcciajemkicaa.V
open Go.VI Go.Lib
def IsD (c : UInt8) : Prop := 48 ≤ c.toNat ∧ c.toNat ≤ 57
/-- The number that digits stand for. -/
def val (l : List UInt8) : Nat := l.foldl (fun n c => 10 * n + (c.toNat - 48)) 0
theorem val_snoc (l : List UInt8) (c : UInt8) : val (l ++ [c]) = 10 * val l + (c.toNat - 48) := by simp [val, List.foldl_append]
theorem ofNat_toNat {n : Nat} (h : n < 10) : (UInt8.ofNat (48 + n)).toNat = 48 + n := by
  rw [UInt8.toNat_ofNat']; omega
theorem dec_unfold {u : Nat} (h : ¬ u < 10) : decDigits u = decDigits (u / 10) ++ [UInt8.ofNat (48 + u % 10)] := by
  rw [decDigits, dif_neg h]
theorem dec_digits (u : Nat) : ∀ c ∈ decDigits u, IsD c := by
  induction u using Nat.strongRecOn with
  | ind u ih =>
    intro c hc
    by_cases h : u < 10
    · rw [decDigits_one h] at hc
      obtain rfl := List.mem_singleton.1 hc
      unfold IsD; rw [ofNat_toNat h]; omega
    · rw [dec_unfold h] at hc
      rcases List.mem_append.1 hc with hc | hc
      · exact ih (u / 10) (by omega) c hc
      · obtain rfl := List.mem_singleton.1 hc
        unfold IsD; rw [ofNat_toNat (by omega)]; omega
theorem dec_val (u : Nat) : val (decDigits u) = u := by
  induction u using Nat.strongRecOn with
  | ind u ih =>
    by_cases h : u < 10
    · rw [decDigits_one h]
      simp only [val, List.foldl_cons, List.foldl_nil]
      rw [ofNat_toNat h]; omega
    · rw [dec_unfold h, val_snoc, ih (u / 10) (by omega), ofNat_toNat (by omega)]; omega
theorem dec_ne (u : Nat) : decDigits u ≠ [] := by
  by_cases h : u < 10
  · rw [decDigits_one h]; simp
  · rw [dec_unfold h]; simp
theorem head_app {l r : List UInt8} (h : l ≠ []) : (l ++ r).head? = l.head? := by
  cases l with
  | nil => exact absurd rfl h
  | cons => rfl
theorem dec_head (u : Nat) (h1 : 1 ≤ u) : (decDigits u).head? ≠ some 48 := by
  induction u using Nat.strongRecOn with
  | ind u ih =>
    by_cases h : u < 10
    · rw [decDigits_one h]
      simp only [List.head?_cons, ne_eq, Option.some.injEq]
      intro e
      have := congrArg UInt8.toNat e
      rw [ofNat_toNat h] at this
      have h48 : (48 : UInt8).toNat = 48 := rfl
      omega
    · rw [dec_unfold h, head_app (dec_ne _)]
      exact ih (u / 10) (by omega) (by omega)
theorem snoc_of {l : List UInt8} (h : l ≠ []) : ∃ r c, l = r ++ [c] := ⟨l.dropLast, l.getLast h, (List.dropLast_concat_getLast h).symm⟩
theorem dec_of_val : ∀ (n : Nat) (l : List UInt8), l.length = n → l ≠ [] → (∀ c ∈ l, IsD c) → l.head? ≠ some 48 → 1 ≤ val l ∧ decDigits (val l) = l
  | 0, l, h, hne, _, _ => absurd (List.length_eq_zero_iff.1 h) hne
  | n + 1, l, h, hne, hd, hh => by
    obtain ⟨r, c, rfl⟩ := snoc_of hne
    have hc := hd c (by simp)
    unfold IsD at hc
    have hb : UInt8.ofNat (48 + (c.toNat - 48)) = c := by
      apply UInt8.toNat_inj.1
      rw [UInt8.toNat_ofNat']
      have := c.toNat_lt
      omega
    rw [val_snoc]
    by_cases hr : r = []
    · subst hr
      have h0 : val [] = 0 := rfl
      rw [h0]
      have hc48 : c.toNat ≠ 48 := fun e => hh (by
        have : c = 48 := UInt8.toNat_inj.1 e
        simp [this])
      refine ⟨by omega, ?_⟩
      rw [decDigits_one (by omega), show 48 + (10 * 0 + (c.toNat - 48)) = 48 + (c.toNat - 48) by omega, hb]; rfl
    · have hrh : r.head? ≠ some 48 := by rw [head_app hr] at hh; exact hh
      obtain ⟨i1, i2⟩ := dec_of_val n r (by simpa using h) hr (fun d hd' => hd d (by simp [hd'])) hrh
      refine ⟨by omega, ?_⟩
      rw [dec_unfold (by omega), show (10 * val r + (c.toNat - 48)) / 10 = val r by omega, show (10 * val r + (c.toNat - 48)) % 10 = c.toNat - 48 by omega, i2, hb]
end Go.Proofs.Ytefcciajemkicaa.V
