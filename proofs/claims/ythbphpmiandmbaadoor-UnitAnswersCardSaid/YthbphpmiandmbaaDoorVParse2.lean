/- Reading decimals: leading zeros, and the number. -/
import Derived.Test.YthbphpmiandmbaaDoorVg0
import Derived.Test.YthbphpmiandmbaaDoorVBase
import Derived.Test.YthbphpmiandmbaaDoorVDec
import Derived.Test.YthbphpmiandmbaaDoorVParse
set_option linter.unusedVariables false
namespace Go.Proofs.YthbphpmiandmbaaDoor.V
open Go.VI Go.Lib
theorem size_mk (l : List UInt8) : (ByteArray.mk l.toArray).size = l.length := by show l.toArray.size = _; simp
theorem getD_mk (l : List UInt8) (i : Nat) : (ByteArray.mk l.toArray).data.getD i 0 = l.getD i 0 := by
  show l.toArray.getD i 0 = _
  simp [Array.getD, List.getD_eq_getElem?_getD]
  split <;> simp_all
theorem extract_mk (l : List UInt8) (a b : Nat) : (ByteArray.mk l.toArray).extract a b = ByteArray.mk ((l.take b).drop a).toArray := by
  apply ByteArray.ext
  rw [ByteArray.data_extract]
  apply Array.ext'
  rw [Array.toList_extract]
  simp [List.extract, List.drop_take]
theorem trim_loop : ∀ (l : List UInt8), l.length ≤ 1000000 → strings_trimLeftByte.L0 ((ByteArray.mk l.toArray, 48, ()), ()) = some (Sum.inl ((ByteArray.mk (l.dropWhile (· == 48)).toArray, ()), ()))
  | [], _ => by
    rw [strings_trimLeftByte.L0_eq, strings_trimLeftByte.f0, size_mk, df (by simp)]; rfl
  | a :: l, h => by
    have ih := trim_loop l (by simp at h; omega)
    rw [strings_trimLeftByte.L0_eq, strings_trimLeftByte.f0, size_mk, dt (by simp only [List.length_cons]; omega : (((a :: l).length : Nat) : Int) > 0), dt (by simp only [List.length_cons]; omega : (1 : Int) ≤ (((a :: l).length : Nat) : Int)),
      show (0 : Int).toNat = 0 from rfl, show (1 : Int).toNat = 1 from rfl, getD_mk, Int.toNat_natCast, extract_mk, List.take_length]
    simp only [cond_true]
    show (bif ((a.toNat : Int) == 48) then _ else _) = _
    by_cases c : a = 48
    · subst c
      rw [show (((48 : UInt8).toNat : Int) == 48) = true from rfl, List.dropWhile_cons_of_pos (by rfl)]
      simp only [cond_true, List.drop_succ_cons, List.drop_zero]
      rw [ih]; rfl
    · have hn : (a.toNat : Int) ≠ 48 := fun e => c (UInt8.toNat_inj.1 (by show a.toNat = 48; omega))
      rw [bf hn, List.dropWhile_cons_of_neg (by simpa using c)]; rfl
theorem trim_eq (l : List UInt8) (h : l.length ≤ 1000000) : strings_TrimLeft.F ((ByteArray.mk l.toArray, (ByteArray.mk #[48], ())), ()) = some ((ByteArray.mk (l.dropWhile (· == 48)).toArray, ()), ()) := by
  have h1 : strings_trimLeftByte.F ((ByteArray.mk l.toArray, (48, ())), ()) = some ((ByteArray.mk (l.dropWhile (· == 48)).toArray, ()), ()) := by
    rw [strings_trimLeftByte.F_eq, strings_trimLeftByte.f, trim_loop l h]; rfl
  rw [strings_TrimLeft.F_eq, strings_TrimLeft.f, strings_TrimLeft.L0_eq, strings_TrimLeft.f0, toList_eq (ByteArray.mk l.toArray), toList_eq (ByteArray.mk #[])]
  cases l with
  | nil => rfl
  | cons a l =>
    rw [show ((ByteArray.mk (a :: l).toArray).data.toList == (ByteArray.mk #[]).data.toList) = false from rfl, toList_eq (ByteArray.mk #[48]), show ((ByteArray.mk #[48]).data.toList == (ByteArray.mk #[]).data.toList) = false from rfl]
    simp only [cond_false, Option.bind_some, Sum.elim_inl]
    rw [strings_TrimLeft.L1_eq, show strings_TrimLeft.f1 (ByteArray.mk (a :: l).toArray) (ByteArray.mk #[48]) = some (Sum.inl ((ByteArray.mk (a :: l).toArray, (ByteArray.mk #[48], (true, ()))), ())) from (by show _ = (_ : Option _); kernel_rfl)]
    simp only [Option.bind_some, Sum.elim_inl, cond_true]
    rw [show decide ((0:Int) < (((ByteArray.size (ByteArray.mk #[48])) : Nat) : Int)) = true from rfl, show ((((UInt8.toNat (Array.getD (ByteArray.data (ByteArray.mk #[48])) (Int.toNat (0:Int)) (0:UInt8))) : Nat) : Int)) = 48 from rfl]
    simp only [cond_true]
    rw [h1]; rfl
theorem wrap_u8 {x : Int} (h : 0 ≤ x ∧ x ≤ 255) : Go.IntKind.wrap .u8 x = x := by
  simp [Go.IntKind.wrap, Go.IntKind.bits, Go.IntKind.signed]
  omega
theorem val_take {l : List UInt8} {i : Nat} (h : i < l.length) : val (l.take (i + 1)) = 10 * val (l.take i) + ((l.getD i 0).toNat - 48) := by
  rw [List.take_succ_eq_append_getElem h, val_snoc, List.getD_eq_getElem?_getD, List.getElem?_eq_getElem h]; rfl
theorem val_mono {l : List UInt8} : ∀ (k i : Nat), i + k = l.length → val (l.take i) ≤ val l
  | 0, i, h => by rw [List.take_of_length_le (by omega)]; exact Nat.le_refl _
  | k + 1, i, h => by
    have := val_mono (l := l) k (i + 1) (by omega)
    rw [val_take (by omega)] at this
    omega
theorem value_loop (l part : List UInt8) (minus : Bool) (a b : Int) (hl : l.length ≤ 1000000) (hd : ∀ c ∈ l, IsD c) (P : ByteArray) : ∀ (k i : Nat), i + k = l.length → val (l.take i) ≤ 1000000000 →
    (val l ≤ 1000000000 ∧ unit_Parse.L2 (((), minus, P, ByteArray.mk l.toArray, (val (l.take i) : Int), (l.length : Int), (i : Int), ()), ((a, b, ()), ())) = some (Sum.inl (((), minus, P, (val l : Int), ()), ((a, b, ()), ())))) ∨
    (1000000000 < val l ∧ unit_Parse.L2 (((), minus, P, ByteArray.mk l.toArray, (val (l.take i) : Int), (l.length : Int), (i : Int), ()), ((a, b, ()), ())) = some (Sum.inr (Sum.inl (((), 1, ()), ((0, 0, ()), ())))))
  | 0, i, h, hv => by
    rw [List.take_of_length_le (by omega)] at hv ⊢
    refine .inl ⟨hv, ?_⟩
    rw [unit_Parse.L2_eq, unit_Parse.f2, df (by omega)]; rfl
  | k + 1, i, h, hv => by
    have hi : i < l.length := by omega
    have hm : l.getD i 0 ∈ l := getD_mem hi
    have hc := hd _ hm
    unfold IsD at hc
    have hs := val_take hi
    rw [unit_Parse.L2_eq, unit_Parse.f2, size_mk, dt (by omega : (i : Int) < (l.length : Int)), dt (by omega : (0 : Int) ≤ (i : Int)), show ((i : Int)).toNat = i by omega, getD_mk, wrap_u8 (by omega), w64 (n := 10 * (val (l.take i) : Int)) (by omega), w64 (n := ((l.getD i 0).toNat : Int) - 48) (by omega),
      w64 (n := 10 * (val (l.take i) : Int) + (((l.getD i 0).toNat : Int) - 48)) (by omega), show 10 * (val (l.take i) : Int) + (((l.getD i 0).toNat : Int) - 48) = (val (l.take (i + 1)) : Int) by omega, w64 (n := (i : Int) + 1) (by omega)]
    simp only [cond_true]
    by_cases c : val (l.take (i + 1)) ≤ 1000000000
    · rw [df (by omega)]
      simp only [cond_false]
      rw [show (i : Int) + 1 = ((i + 1 : Nat) : Int) by omega]
      rcases value_loop l part minus a b hl hd P k (i + 1) (by omega) c with ⟨h1, h2⟩ | ⟨h1, h2⟩
      · exact .inl ⟨h1, by rw [h2]; rfl⟩
      · exact .inr ⟨h1, by rw [h2]; rfl⟩
    · rw [dt (by omega)]
      have := val_mono (l := l) k (i + 1) (by omega)
      exact .inr ⟨by omega, rfl⟩
end Go.Proofs.YthbphpmiandmbaaDoor.V
