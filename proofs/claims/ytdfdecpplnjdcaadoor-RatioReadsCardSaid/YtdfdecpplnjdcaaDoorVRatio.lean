/- Ratios: the divisor, validity, and their texts. -/
import Derived.Test.YtdfdecpplnjdcaaDoorVg1
import Derived.Test.YtdfdecpplnjdcaaDoorVBase
import Derived.Test.YtdfdecpplnjdcaaDoorVKeep
import Derived.Test.YtdfdecpplnjdcaaDoorVDec
import Derived.Test.YtdfdecpplnjdcaaDoorVText
import Derived.Test.YtdfdecpplnjdcaaDoorVCut47
import Derived.Test.YtdfdecpplnjdcaaDoorVAtoi
import Derived.Lib.ItoaLen
set_option linter.unusedVariables false
namespace Go.Proofs.YtdfdecpplnjdcaaDoor.V
open Go.VI Go.Lib
theorem gcd_loop : ∀ (N n m : Nat), n ≤ N → ratio_divisor.L0 (((m : Int), (n : Int), ()), ()) = some (Sum.inl ((((Nat.gcd m n : Nat) : Int), ()), ())) := by
  intro N
  induction N with
  | zero =>
    intro n m h
    obtain rfl : n = 0 := by omega
    rw [ratio_divisor.L0_eq, ratio_divisor.f0, nt (by rfl), Nat.gcd_zero_right]; rfl
  | succ N ih =>
    intro n m h
    by_cases c : n = 0
    · subst c
      rw [ratio_divisor.L0_eq, ratio_divisor.f0, nt (by rfl), Nat.gcd_zero_right]; rfl
    · have hlt : m % n < n := Nat.mod_lt _ (by omega)
      have ht : Int.tmod (m : Int) (n : Int) = ((m % n : Nat) : Int) := by rw [Int.tmod_eq_emod_of_nonneg (by omega)]; rfl
      rw [ratio_divisor.L0_eq, ratio_divisor.f0, nf (by omega : (n : Int) ≠ 0), df (by omega : ¬ (n : Int) = 0), bind_self, ht]
      simp only [cond_true, Bool.not_false]
      rw [ih (m % n) n (by omega), Nat.gcd_comm m n, Nat.gcd_rec n m, Nat.gcd_comm (m % n) n]
theorem divisor_ok (m n : Nat) : ratio_divisor.F (((m : Int), (n : Int), ()), ()) = some ((((Nat.gcd m n : Nat) : Int), ()), ()) := by
  rw [ratio_divisor.F_eq, ratio_divisor.f, gcd_loop n n m (Nat.le_refl _)]; rfl
/-- In range. -/
@[reducible] def InR (n d : Int) : Prop := 0 ≤ n ∧ n ≤ 2305843009213693952 ∧ 1 ≤ d ∧ d ≤ 1152921504606846976
/-- A valid ratio. -/
def VR (n d : Int) : Prop := InR n d ∧ Nat.gcd n.toNat d.toNat = 1
theorem within_ok (n d : Int) : ∃ b, ratio_within.F (((n, d, ()), ()), ()) = some ((b, ()), ()) ∧ (b = true ↔ InR n d) := by
  rw [ratio_within.F_eq, ratio_within.f]
  unfold InR
  by_cases c1 : n ≥ 0
  · rw [dt c1]
    by_cases c2 : n ≤ 2305843009213693952
    · rw [dt c2]
      by_cases c3 : d ≥ 1
      · rw [dt c3]
        by_cases c4 : d ≤ 1152921504606846976
        · rw [dt c4]; exact ⟨true, rfl, ⟨fun _ => by omega, fun _ => rfl⟩⟩
        · rw [df c4]; exact ⟨false, rfl, ⟨fun h => (by cases h), fun h => by omega⟩⟩
      · rw [df c3]; exact ⟨false, rfl, ⟨fun h => (by cases h), fun h => by omega⟩⟩
    · rw [df c2]; exact ⟨false, rfl, ⟨fun h => (by cases h), fun h => by omega⟩⟩
  · rw [df c1]; exact ⟨false, rfl, ⟨fun h => (by cases h), fun h => by omega⟩⟩
theorem valid_ok (n d : Int) : ∃ b, ratio_Valid.F (((n, d, ()), ()), ()) = some ((b, ()), ()) ∧ (b = true ↔ VR n d) := by
  obtain ⟨b, h1, h2⟩ := within_ok n d
  rw [ratio_Valid.F_eq, ratio_Valid.f, h1]
  simp only [Option.bind_some]
  cases b with
  | false => exact ⟨false, rfl, ⟨fun h => (by cases h), fun h => absurd (h2.2 h.1) (by simp)⟩⟩
  | true =>
    have hin := h2.1 rfl
    have hd := divisor_ok n.toNat d.toNat
    rw [Int.toNat_of_nonneg hin.1, Int.toNat_of_nonneg (by have := hin.2.2.1; omega)] at hd
    rw [hd]
    simp only [cond_true, Option.bind_some]
    refine ⟨_, rfl, ?_⟩
    constructor
    · intro h
      have := of_decide_eq_true h
      exact ⟨hin, by omega⟩
    · intro h
      have := h.2
      exact beq_iff_eq.2 (by omega)
theorem valid_true {n d : Int} (h : VR n d) : ratio_Valid.F (((n, d, ()), ()), ()) = some ((true, ()), ()) := by
  obtain ⟨b, h1, h2⟩ := valid_ok n d
  rw [h1, h2.2 h]
/-- The text of a ratio. -/
def txt (n d : Int) : List UInt8 := if d = 1 then decDigits n.toNat else decDigits n.toNat ++ 47 :: decDigits d.toNat
theorem dec_len3 (u : Nat) (h : u ≤ 4000000000000000000) : (decDigits u).length ≤ 21 := by
  have := itoa_length_le (u : Int) (by omega) (by omega)
  rw [itoa_nonneg] at this; exact this
theorem itoa_F {n : Int} (h : 0 ≤ n ∧ n ≤ 4000000000000000000) : strconv_Itoa.F ((n, ()), ()) = some ((bs (decDigits n.toNat), ()), ()) := by
  rw [strconv_Itoa.F_eq, dt (⟨by omega, by omega⟩ : -9223372036854775808 ≤ n ∧ n ≤ 9223372036854775807)]
  have : itoa n = decDigits n.toNat := by unfold itoa; rw [if_neg (by omega)]
  rw [this]; rfl
theorem format_ok {n d : Int} (h : VR n d) : ratio_Format.F (((n, d, ()), ()), ()) = some ((bs (txt n d), ()), ()) := by
  have hv := valid_true h
  obtain ⟨⟨h1, h2, h3, h4⟩, _⟩ := h
  rw [ratio_Format.F_eq, ratio_Format.f, hv]
  simp only [Option.bind_some, Bool.not_true, cond_false]
  unfold txt
  by_cases c : d = 1
  · rw [bt c, if_pos c, itoa_F (by omega)]; rfl
  · have l1 := dec_len3 n.toNat (by omega)
    have l2 := dec_len3 d.toNat (by omega)
    rw [bf c, if_neg c, itoa_F (by omega), itoa_F (by omega)]
    simp only [cond_false, Option.bind_some]
    have e1 : ([47] : List UInt8).length = 1 := rfl
    have e2 : (decDigits n.toNat ++ [47]).length ≤ 22 := by rw [List.length_append]; omega
    rw [show (ByteArray.mk #[(47:UInt8)]) = bs [47] from rfl, append_mk2, append_mk2]
    simp only [size_mk]
    rw [dt (by omega), dt (by omega), List.append_assoc]; rfl
theorem isD_ne47 {c : UInt8} (h : IsD c) : c ≠ 47 := by
  unfold IsD at h
  rintro rfl
  have : (47 : UInt8).toNat = 47 := rfl
  omega
theorem atoi_F (n : Nat) (h : n ≤ 4000000000000000000) : strconv_Atoi.F ((bs (decDigits n), ()), ()) = some (((n : Int), false, ()), ()) := by
  have hl := dec_len3 n h
  rw [strconv_Atoi.F_eq, size_mk, dt (by omega)]
  have : strconv_Atoi.end (bs (decDigits n)).data.toList = ((n : Int), false) := by
    unfold strconv_Atoi.end
    rw [show (bs (decDigits n)).data.toList = decDigits n by simp, atoi_dec n (by omega)]
  rw [this]; rfl
/-- The text of a ratio is read as this ratio. -/
theorem parse_txt {n d : Int} (h : VR n d) : ratio_Parse.F ((bs (txt n d), ()), ()) = some (((n, d, ()), 0, ()), ()) := by
  have hf := format_ok h
  have hv := valid_true h
  obtain ⟨⟨h1, h2, h3, h4⟩, _⟩ := h
  have l1 := dec_len3 n.toNat (by omega)
  have l2 := dec_len3 d.toNat (by omega)
  have hno : ∀ c ∈ decDigits n.toNat, c ≠ 47 := fun c hc => isD_ne47 (dec_digits _ c hc)
  rw [ratio_Parse.F_eq, ratio_Parse.f]
  by_cases c : d = 1
  · have ht : txt n d = decDigits n.toNat := by unfold txt; rw [if_pos c]
    rw [ht] at hf ⊢
    rw [cut_none _ (by omega) (index_no _ hno)]
    simp only [Option.bind_some]
    rw [atoi_F _ (by omega)]
    simp only [Option.bind_some, cond_false]
    rw [Int.toNat_of_nonneg h1, ← c, hv]
    simp only [Option.bind_some, Bool.not_true, cond_false]
    rw [hf]
    simp only [Option.bind_some]
    rw [show ((bs (decDigits n.toNat)).toList == (bs (decDigits n.toNat)).toList) = true from beq_self_eq_true _]; rfl
  · have ht : txt n d = decDigits n.toNat ++ 47 :: decDigits d.toNat := by unfold txt; rw [if_neg c]
    rw [ht] at hf ⊢
    have hXl : (decDigits n.toNat ++ 47 :: decDigits d.toNat).length = (decDigits n.toNat).length + 1 + (decDigits d.toNat).length := by rw [List.length_append, List.length_cons]; omega
    have c2 := cut_some (decDigits n.toNat ++ 47 :: decDigits d.toNat) (by omega) (decDigits n.toNat).length (index_at _ _ hno) (by omega)
    rw [List.take_left' rfl, show decDigits n.toNat ++ 47 :: decDigits d.toNat = (decDigits n.toNat ++ [47]) ++ decDigits d.toNat by simp, List.drop_left' (by simp)] at c2
    rw [show (decDigits n.toNat ++ [47]) ++ decDigits d.toNat = decDigits n.toNat ++ 47 :: decDigits d.toNat by simp] at c2
    rw [c2]
    simp only [Option.bind_some]
    rw [atoi_F _ (by omega), atoi_F _ (by omega)]
    simp only [Option.bind_some, cond_false, cond_true]
    rw [Int.toNat_of_nonneg h1, Int.toNat_of_nonneg (by omega : 0 ≤ d), hv]
    simp only [Option.bind_some, Bool.not_true, cond_false]
    rw [hf]
    simp only [Option.bind_some]
    rw [show ((bs (decDigits n.toNat ++ 47 :: decDigits d.toNat)).toList == (bs (decDigits n.toNat ++ 47 :: decDigits d.toNat)).toList) = true from beq_self_eq_true _]; rfl
/-- Parse answers, whatever it is handed; and what it accepts is valid, with this text. -/
theorem cut_any (l : List UInt8) (h : l.length ≤ 1000) : ∃ a b f, a.length ≤ 1000 ∧ b.length ≤ 1000 ∧ strings_Cut.F ((bs l, (ByteArray.mk #[47], ())), ()) = some ((bs a, bs b, f, ()), ()) := by
  have split : ∀ l : List UInt8, (∀ c ∈ l, c ≠ 47) ∨ ∃ w q, l = w ++ 47 :: q ∧ ∀ c ∈ w, c ≠ 47 := by
    intro l
    induction l with
    | nil => exact .inl (by simp)
    | cons a l ih =>
      by_cases c : a = 47
      · subst c; exact .inr ⟨[], l, rfl, by simp⟩
      · rcases ih with h | ⟨w, q, rfl, h⟩
        · exact .inl fun x hx => by
            rcases List.mem_cons.1 hx with rfl | hx
            · exact c
            · exact h x hx
        · exact .inr ⟨a :: w, q, rfl, fun x hx => by
            rcases List.mem_cons.1 hx with rfl | hx
            · exact c
            · exact h x hx⟩
  rcases split l with h1 | ⟨w, q, rfl, h1⟩
  · exact ⟨l, [], false, h, by simp, cut_none l (by omega) (index_no l h1)⟩
  · have hXl : (w ++ 47 :: q).length = w.length + 1 + q.length := by rw [List.length_append, List.length_cons]; omega
    refine ⟨w, q, true, by omega, by omega, ?_⟩
    have c2 := cut_some (w ++ 47 :: q) (by omega) w.length (index_at q w h1) (by omega)
    rw [List.take_left' rfl, show w ++ 47 :: q = (w ++ [47]) ++ q by simp, List.drop_left' (by simp)] at c2
    rw [show (w ++ [47]) ++ q = w ++ 47 :: q by simp] at c2
    exact c2
theorem atoi_any (l : List UInt8) (h : l.length ≤ 1000) : ∃ n e, strconv_Atoi.F ((bs l, ()), ()) = some ((n, e, ()), ()) := by
  rw [strconv_Atoi.F_eq, size_mk, dt (by omega)]
  exact ⟨_, _, rfl⟩
theorem parse_tail (n d : Int) (s : ByteArray) : ∃ a b e, (Option.bind (ratio_Valid.F (((n, (d, ())), ()), ())) (fun y6 =>
     (bif (!y6.1.1) then
      (some ((((0:Int), ((0:Int), ())), ((3:Int), ())), ()))
     else
      (Option.bind (ratio_Format.F (((n, (d, ())), ()), ())) (fun y8 =>
      (bif (!((ByteArray.toList y8.1.1) == (ByteArray.toList s))) then
       (some ((((0:Int), ((0:Int), ())), ((3:Int), ())), ()))
      else
       (some (((n, (d, ())), ((0:Int), ())), ()))))))) : Option (((Int × Int × Unit) × Int × Unit) × Unit)) = some (((a, b, ()), e, ()), ()) ∧ (e = 0 → VR a b ∧ (bs (txt a b)).toList = s.toList) := by
  obtain ⟨v, h1, h2⟩ := valid_ok n d
  rw [h1]
  simp only [Option.bind_some]
  cases v with
  | false => exact ⟨0, 0, 3, rfl, fun h => by omega⟩
  | true =>
    have hv := h2.1 rfl
    simp only [Bool.not_true, cond_false]
    rw [format_ok hv]
    simp only [Option.bind_some]
    by_cases c : (bs (txt n d)).toList = s.toList
    · rw [show ((bs (txt n d)).toList == s.toList) = true from beq_iff_eq.2 c]
      exact ⟨n, d, 0, rfl, fun _ => ⟨hv, c⟩⟩
    · rw [show ((bs (txt n d)).toList == s.toList) = false from beq_false_of_ne c]
      exact ⟨0, 0, 3, rfl, fun h => by omega⟩
theorem parse_any (s : ByteArray) (hs : s.size ≤ 1000) : ∃ a b e, ratio_Parse.F ((s, ()), ()) = some (((a, b, ()), e, ()), ()) ∧ (e = 0 → VR a b ∧ (bs (txt a b)).toList = s.toList) := by
  have he : s = bs s.data.toList := by
    apply ByteArray.ext; simp
  have hl : s.data.toList.length ≤ 1000 := by
    have : s.size = s.data.size := rfl
    simp; omega
  obtain ⟨a, b, f, ha, hb, hc⟩ := cut_any s.data.toList hl
  rw [← he] at hc
  obtain ⟨n, e1, h1⟩ := atoi_any a ha
  obtain ⟨d, e2, h2⟩ := atoi_any b hb
  rw [ratio_Parse.F_eq, ratio_Parse.f, hc]
  simp only [Option.bind_some]
  rw [h1]
  simp only [Option.bind_some]
  cases e1 with
  | true => exact ⟨0, 0, 3, rfl, fun h => by omega⟩
  | false =>
    simp only [cond_false]
    cases f with
    | true =>
      simp only [cond_true]
      rw [h2]
      simp only [Option.bind_some]
      cases e2 with
      | true => exact ⟨0, 0, 3, rfl, fun h => by omega⟩
      | false => exact parse_tail n d s
    | false => exact parse_tail n 1 s
end Go.Proofs.YtdfdecpplnjdcaaDoor.V
