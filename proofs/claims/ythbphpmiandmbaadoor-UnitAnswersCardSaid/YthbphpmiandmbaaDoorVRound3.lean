/- What is written is read back. -/
import Derived.Test.YthbphpmiandmbaaDoorVg0
import Derived.Test.YthbphpmiandmbaaDoorVBase
import Derived.Test.YthbphpmiandmbaaDoorVDec
import Derived.Test.YthbphpmiandmbaaDoorVParse
import Derived.Test.YthbphpmiandmbaaDoorVParse2
import Derived.Test.YthbphpmiandmbaaDoorVParse3
import Derived.Test.YthbphpmiandmbaaDoorVParse4
import Derived.Test.YthbphpmiandmbaaDoorVFmt
import Derived.Test.YthbphpmiandmbaaDoorVRound
import Derived.Test.YthbphpmiandmbaaDoorVRound2
set_option linter.unusedVariables false
namespace Go.Proofs.YthbphpmiandmbaaDoor.V
open Go.VI Go.Lib
theorem padded_len (u : Nat) (p : Int) : (padded u p).length = (p.toNat + 1 - (decDigits u).length) + (decDigits u).length := by unfold padded; rw [List.length_append, List.length_replicate]
theorem dec_pos (u : Nat) : 1 ≤ (decDigits u).length := by
  have := dec_ne u
  cases h : decDigits u with
  | nil => exact absurd h this
  | cons => simp
theorem dec_zero_len {u : Nat} (h : 1 < (decDigits u).length) : 1 ≤ u := by
  rcases Nat.eq_zero_or_pos u with rfl | h'
  · rw [decDigits_one (by omega)] at h; simp at h
  · exact h'
theorem getD_head {l : List UInt8} (h : l ≠ []) : l.head? = some (l.getD 0 0) := by
  cases l with
  | nil => exact absurd rfl h
  | cons => rfl
/-- The part of a padded numeral ahead of the point has no zero in front, unless it is one digit. -/
theorem padded_front (u : Nat) (p : Int) (k : Nat) (hk : k ≤ (padded u p).length) (hp : p.toNat + k = (padded u p).length) : ¬ (1 < ((padded u p).take k).length ∧ ((padded u p).take k).getD 0 0 = 48) := by
  rintro ⟨h1, h2⟩
  rw [List.length_take] at h1
  have hl := padded_len u p
  have hz : padded u p = decDigits u := by
    unfold padded
    rw [show p.toNat + 1 - (decDigits u).length = 0 by omega]; rfl
  have hu := dec_zero_len (u := u) (by omega)
  have hh := dec_head u hu
  rw [hz] at h2 hp h1 hk
  have hne : (decDigits u).take k ≠ [] := by
    intro e
    have := congrArg List.length e
    rw [List.length_take] at this
    simp only [List.length_nil] at this
    omega
  have := getD_head hne
  rw [h2, List.head?_take] at this
  split at this
  · cases this
  · exact hh this
theorem head_minus {X : List UInt8} (h : ∀ c, X.head? = some c → IsD c ∨ c = 46) : X.head? ≠ some 45 := by
  intro e
  rcases h 45 e with h | h
  · exact (isD_ne h).2 rfl
  · exact absurd h (by decide)
theorem num_back (d : Int) (p : Int) (w q : List UInt8) (h : w ++ q = padded d.natAbs p) : num (decide (d < 0)) w q = d := by
  rw [num_padded _ _ _ _ _ h]
  by_cases c : d < 0
  · rw [dt c, if_pos rfl]; omega
  · rw [df c, if_neg (by simp)]; omega
theorem minus_back (d : Int) (p : Int) : decide (d < 0) = true → (padded d.natAbs p).dropWhile (· == 48) ≠ [] := by
  intro h
  have := of_decide_eq_true h
  rw [drop_padded, if_neg (by omega)]
  exact dec_ne _
theorem val_back (d : Int) (p : Int) (hd : -1000000000 ≤ d ∧ d ≤ 1000000000) : val ((padded d.natAbs p).dropWhile (· == 48)) ≤ 1000000000 := by
  rw [drop_padded]
  by_cases c : d.natAbs = 0
  · rw [if_pos c]; exact (by decide : (0 : Nat) ≤ 1000000000)
  · rw [if_neg c, dec_val]; omega
theorem parse_format (d p : Int) (hd : -1000000000 ≤ d ∧ d ≤ 1000000000) (hp : 0 ≤ p ∧ p ≤ 6) :
    unit_Parse.F ((ByteArray.mk (signed (decide (d < 0)) (pointed (padded d.natAbs p) p)).toArray, ()), ()) = some (((d, p, ()), 0, ()), ()) := by
  have hlen := dec_len d.natAbs (by omega)
  have hpos := dec_pos d.natAbs
  have hl := padded_len d.natAbs p
  have hdig := padded_digits d.natAbs p
  have hval := val_back d p hd
  have hmin := minus_back d p
  by_cases c : 0 < p
  · have hX : pointed (padded d.natAbs p) p = (padded d.natAbs p).take ((padded d.natAbs p).length - p.toNat) ++ 46 :: (padded d.natAbs p).drop ((padded d.natAbs p).length - p.toNat) := by
      unfold pointed; rw [if_pos c, List.append_assoc]; rfl
    have hfr := padded_front d.natAbs p ((padded d.natAbs p).length - p.toNat) (by omega) (by omega)
    have hj : (padded d.natAbs p).take ((padded d.natAbs p).length - p.toNat) ++ (padded d.natAbs p).drop ((padded d.natAbs p).length - p.toNat) = padded d.natAbs p := List.take_append_drop _ _
    have hwl : ((padded d.natAbs p).take ((padded d.natAbs p).length - p.toNat)).length = (padded d.natAbs p).length - p.toNat := by rw [List.length_take]; omega
    have hql : ((padded d.natAbs p).drop ((padded d.natAbs p).length - p.toNat)).length = p.toNat := by rw [List.length_drop]; omega
    have hN : (padded d.natAbs p).length ≤ 100 := by omega
    have hwpos : 1 ≤ (padded d.natAbs p).length - p.toNat := by omega
    rw [hX]
    generalize (padded d.natAbs p).take ((padded d.natAbs p).length - p.toNat) = w at hfr hj hwl
    generalize (padded d.natAbs p).drop ((padded d.natAbs p).length - p.toNat) = q at hj hql
    have hnum := num_back d p w q hj
    rw [← hj] at hdig hval hmin
    have hwd : ∀ c ∈ w, IsD c := fun c hc => hdig c (List.mem_append_left _ hc)
    have hqd : ∀ c ∈ q, IsD c := fun c hc => hdig c (List.mem_append_right _ hc)
    have hwne : w ≠ [] := by rintro rfl; simp at hwl; omega
    have hqne : q ≠ [] := by rintro rfl; simp at hql; omega
    have hXl : (w ++ 46 :: q).length = w.length + 1 + q.length := by rw [List.length_append, List.length_cons]; omega
    have c1 := cut_signed (decide (d < 0)) (w ++ 46 :: q) (by omega) (by
      rw [head_app hwne]
      exact head_minus fun c hc => .inl (hwd c (List.mem_of_mem_head? hc)))
    have c2 := cut_some (w ++ 46 :: q) (by omega) w.length (index_at q w fun c hc => (isD_ne (hwd c hc)).1) (by omega)
    rw [List.take_left', show w.length + 1 = (w ++ [46]).length by simp, show w ++ 46 :: q = (w ++ [46]) ++ q by simp, List.drop_left' rfl] at c2
    rw [show (w ++ [46]) ++ q = w ++ 46 :: q by simp] at c2
    obtain ⟨d1, d2, e, hF, he, hv⟩ := parse_core (by omega) (by omega) (fun h => by cases h) c1 c2
    have he0 := he.2 ⟨⟨⟨hwne, hwd⟩, hfr, fun _ => ⟨⟨hqne, hqd⟩, by omega⟩⟩, hmin, hval⟩
    obtain ⟨v1, v2⟩ := hv he0
    rw [hF, he0, v1, v2, hnum, hql, show ((p.toNat : Nat) : Int) = p by omega]
    · rfl
  · obtain rfl : p = 0 := by omega
    have hT : padded d.natAbs 0 = decDigits d.natAbs := by
      unfold padded
      rw [show (0 : Int).toNat + 1 - (decDigits d.natAbs).length = 0 by omega]; rfl
    have hX : pointed (padded d.natAbs 0) 0 = padded d.natAbs 0 := by unfold pointed; rw [if_neg (by omega)]
    have hfr := padded_front d.natAbs 0 (padded d.natAbs 0).length (by omega) (by omega)
    rw [List.take_length] at hfr
    have hN : (padded d.natAbs 0).length ≤ 100 := by omega
    have hnum := num_back d 0 (padded d.natAbs 0) [] (List.append_nil _)
    have hwne : padded d.natAbs 0 ≠ [] := by rw [hT]; exact dec_ne _
    rw [hX]
    generalize padded d.natAbs 0 = w at hfr hnum hwne hN hdig hval hmin
    have c1 := cut_signed (decide (d < 0)) w (by omega) (head_minus fun c hc => .inl (hdig c (List.mem_of_mem_head? hc)))
    have c2 := cut_none w (by omega) (index_no w fun c hc => (isD_ne (hdig c hc)).1)
    obtain ⟨d1, d2, e, hF, he, hv⟩ := parse_core (p := []) (pt := false) (by omega) (by simp) (fun _ => rfl) c1 c2
    have he0 := he.2 ⟨⟨⟨hwne, hdig⟩, hfr, fun h => by cases h⟩, by rw [List.append_nil]; exact hmin, by rw [List.append_nil]; exact hval⟩
    obtain ⟨v1, v2⟩ := hv he0
    rw [hF, he0, v1, v2, hnum]; rfl
end Go.Proofs.YthbphpmiandmbaaDoor.V
