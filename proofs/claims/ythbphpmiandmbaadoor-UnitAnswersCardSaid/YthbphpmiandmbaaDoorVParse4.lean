/- Reading decimals: the whole of it, behind the cuts. -/
import Derived.Test.YthbphpmiandmbaaDoorVg0
import Derived.Test.YthbphpmiandmbaaDoorVBase
import Derived.Test.YthbphpmiandmbaaDoorVDec
import Derived.Test.YthbphpmiandmbaaDoorVParse
import Derived.Test.YthbphpmiandmbaaDoorVParse2
import Derived.Test.YthbphpmiandmbaaDoorVParse3
set_option linter.unusedVariables false
namespace Go.Proofs.YthbphpmiandmbaaDoor.V
open Go.VI Go.Lib
def Digs (w : List UInt8) : Prop := w ≠ [] ∧ ∀ c ∈ w, IsD c
def Shape (pt : Bool) (w p : List UInt8) : Prop := Digs w ∧ ¬ (1 < w.length ∧ w.getD 0 0 = 48) ∧ (pt = true → Digs p ∧ p.length ≤ 6)
theorem form_ok (minus pt : Bool) (w p : List UInt8) (hw : w.length ≤ 1000000) (hp : p.length ≤ 1000000) (a b : Int) :
    ∃ t, unit_Parse.L0 (((), minus, ByteArray.mk w.toArray, ByteArray.mk p.toArray, pt, ()), ((a, b, ()), ())) = some (Sum.inl (((), minus, ByteArray.mk w.toArray, ByteArray.mk p.toArray, t, ()), ((a, b, ()), ()))) ∧ (t = false ↔ Shape pt w p) := by
  obtain ⟨b1, e1, k1⟩ := digits_eq (ByteArray.mk w.toArray) (by rw [size_mk]; exact hw)
  obtain ⟨b2, e2, k2⟩ := digits_eq (ByteArray.mk p.toArray) (by rw [size_mk]; exact hp)
  simp only at k1 k2
  rw [unit_Parse.L0_eq, unit_Parse.f0, e1]
  simp only [Option.bind_some]
  have no : ∀ P : Prop, ¬ P → ((true = false) ↔ P) := fun P h => ⟨fun e => (by cases e), fun q => absurd q h⟩
  have point : (¬ (1 < w.length ∧ w.getD 0 0 = 48)) → Digs w → ∃ t, (bif pt then (Option.bind (unit_digits.F ((ByteArray.mk p.toArray, ()), ())) fun y4 => bif !y4.1.1 then some (Sum.inl (((), (minus, (ByteArray.mk w.toArray, (ByteArray.mk p.toArray, (Bool.true, ()))))), ((a, (b, ())), ()))) else some (Sum.inl (((), (minus, (ByteArray.mk w.toArray, (ByteArray.mk p.toArray, (decide ((((ByteArray.size (ByteArray.mk p.toArray)) : Nat) : Int) > 6), ()))))), ((a, (b, ())), ())))) else some (Sum.inl (((), (minus, (ByteArray.mk w.toArray, (ByteArray.mk p.toArray, (Bool.false, ()))))), ((a, (b, ())), ())))) = (some (Sum.inl (((), minus, ByteArray.mk w.toArray, ByteArray.mk p.toArray, t, ()), ((a, b, ()), ()))) : Option (((Unit × Bool × ByteArray × ByteArray × Bool × Unit) × ((Int × Int × Unit) × Unit)) ⊕ Empty)) ∧ (t = false ↔ Shape pt w p) := by
    intro hz hw'
    cases pt with
    | false => exact ⟨false, rfl, fun _ => ⟨hw', hz, fun h => by cases h⟩, fun _ => rfl⟩
    | true =>
      rw [e2]
      simp only [cond_true, Option.bind_some]
      cases b2 with
      | false => exact ⟨true, rfl, no _ fun h => by have := k2.2 (h.2.2 rfl).1; cases this⟩
      | true =>
        simp only [Bool.not_true, cond_false]
        rw [size_mk]
        by_cases c : (p.length : Int) > 6
        · rw [dt c]; exact ⟨true, rfl, no _ fun h => by have := (h.2.2 rfl).2; omega⟩
        · rw [df c]; exact ⟨false, rfl, fun _ => ⟨hw', hz, fun _ => ⟨k2.1 rfl, by omega⟩⟩, fun _ => rfl⟩
  cases b1 with
  | false => exact ⟨true, rfl, no _ fun h => by have := k1.2 h.1; cases this⟩
  | true =>
    have hD := k1.1 rfl
    simp only [Bool.not_true, cond_false]
    rw [size_mk]
    by_cases c : (w.length : Int) > 1
    · rw [dt c, dt (by omega : (0 : Int) < (w.length : Int)), show (0 : Int).toNat = 0 from rfl, getD_mk]
      simp only [cond_true]
      by_cases d : w.getD 0 0 = 48
      · rw [d]
        exact ⟨true, rfl, no _ fun h => h.2.1 ⟨by omega, d⟩⟩
      · have hn : ((w.getD 0 0).toNat : Int) ≠ 48 := fun e => d (UInt8.toNat_inj.1 (by show (w.getD 0 0).toNat = 48; omega))
        rw [bf hn]
        exact point (fun h => d h.2) hD
    · rw [df c]
      exact point (fun h => c (by omega)) hD
/-- The number that is read. -/
def num (minus : Bool) (w p : List UInt8) : Int := if minus then -(val ((w ++ p).dropWhile (· == 48)) : Int) else (val ((w ++ p).dropWhile (· == 48)) : Int)
def Read (minus pt : Bool) (w p : List UInt8) : Prop := Shape pt w p ∧ (minus = true → (w ++ p).dropWhile (· == 48) ≠ []) ∧ val ((w ++ p).dropWhile (· == 48)) ≤ 1000000000
theorem append_mk (w p : List UInt8) : ByteArray.mk w.toArray ++ ByteArray.mk p.toArray = ByteArray.mk (w ++ p).toArray := by
  apply ByteArray.ext
  rw [ByteArray.data_append]
  simp
theorem drop_len (l : List UInt8) : (l.dropWhile (· == 48)).length ≤ l.length := (List.dropWhile_suffix _).length_le
theorem parse_core {s t : ByteArray} {minus pt : Bool} {w p : List UInt8} (hw : w.length ≤ 100000) (hp : p.length ≤ 100000) (hpt : pt = false → p = [])
    (c1 : strings_CutPrefix.F ((s, (ByteArray.mk #[45], ())), ()) = some ((t, minus, ()), ())) (c2 : strings_Cut.F ((t, (ByteArray.mk #[46], ())), ()) = some ((ByteArray.mk w.toArray, ByteArray.mk p.toArray, pt, ()), ())) :
    ∃ d1 d2 e : Int, unit_Parse.F ((s, ()), ()) = some (((d1, d2, ()), e, ()), ()) ∧ (e = 0 ↔ Read minus pt w p) ∧ (e = 0 → d1 = num minus w p ∧ d2 = p.length) := by
  obtain ⟨b, e0, k0⟩ := form_ok minus pt w p (by omega) (by omega) 0 0
  rw [unit_Parse.F_eq, unit_Parse.f, c1]
  simp only [Option.bind_some]
  rw [c2]
  simp only [Option.bind_some]
  rw [e0]
  simp only [Option.bind_some, Sum.elim_inl]
  cases b with
  | true => exact ⟨0, 0, 3, rfl, ⟨fun h => by omega, fun h => by have := k0.2 h.1; cases this⟩, fun h => by omega⟩
  | false =>
    have hS := k0.1 rfl
    have hdl := drop_len (w ++ p)
    have hlen : (w ++ p).length = w.length + p.length := List.length_append
    have hdig : ∀ c ∈ (w ++ p).dropWhile (· == 48), IsD c := fun c hc => by
      have := (List.dropWhile_suffix (· == 48)).subset hc
      rcases List.mem_append.1 this with h | h
      · exact hS.1.2 c h
      · cases hb : pt with
        | false => rw [hpt hb] at h; cases h
        | true => exact (hS.2.2 hb).1.2 c h
    simp only [cond_false]
    rw [size_mk, size_mk, dt (by omega : w.length + p.length ≤ 9223372036854775807), append_mk]
    simp only [cond_true]
    rw [trim_eq (w ++ p) (by omega)]
    simp only [Option.bind_some]
    unfold Read num
    generalize (w ++ p).dropWhile (· == 48) = al at hdl hdig ⊢
    rw [unit_Parse.L1_eq, unit_Parse.f1]
    have hv := value_loop al p minus 0 0 (by omega) hdig (ByteArray.mk p.toArray) al.length 0 (by omega) (by simp [val])
    rw [show ((val (al.take 0) : Nat) : Int) = 0 from rfl, show ((0 : Nat) : Int) = 0 from rfl] at hv
    have tail : ((minus = true → al ≠ []) → ∃ d1 d2 e : Int, (Option.bind (unit_Parse.L2 (((), (minus, (ByteArray.mk p.toArray, (ByteArray.mk al.toArray, ((0:Int), ((((ByteArray.size (ByteArray.mk al.toArray)) : Nat) : Int), ((0:Int), ()))))))), ((0, (0, ())), ()))) fun y10 => Sum.elim (fun a11 => bif a11.1.2.1 then some (((Go.IntKind.wrap Go.IntKind.i64 ((0:Int) - a11.1.2.2.2.1), ((((ByteArray.size a11.1.2.2.1) : Nat) : Int), ())), ((0:Int), ())), ()) else some ((((a11.1.2.2.2.1), ((((ByteArray.size a11.1.2.2.1) : Nat) : Int), ())), ((0:Int), ())), ())) (fun b11 => Sum.elim (fun a12 => some (((a12.2.1.1, (a12.2.1.2.1, ())), (a12.1.2.1, ())), ())) (fun b12 => Empty.elim b12) b11) y10) = (some (((d1, d2, ()), e, ()), ()) : Option (((Int × Int × Unit) × Int × Unit) × Unit)) ∧ (e = 0 ↔ Shape pt w p ∧ (minus = true → al ≠ []) ∧ val al ≤ 1000000000) ∧ (e = 0 → d1 = (if minus then -(val al : Int) else (val al : Int)) ∧ d2 = p.length)) := by
      intro hm
      rw [size_mk]
      rcases hv with ⟨h1, h2⟩ | ⟨h1, h2⟩
      · rw [h2]
        simp only [Option.bind_some, Sum.elim_inl]
        cases minus with
        | true =>
          simp only [cond_true]
          rw [size_mk, w64 (by omega)]
          exact ⟨_, _, 0, rfl, ⟨fun _ => ⟨hS, fun _ => hm (by first | rfl | assumption), h1⟩, fun _ => rfl⟩, fun _ => ⟨by simp, rfl⟩⟩
        | false =>
          simp only [cond_false]
          rw [size_mk]
          exact ⟨_, _, 0, rfl, ⟨fun _ => ⟨hS, hm, h1⟩, fun _ => rfl⟩, fun _ => ⟨by simp, rfl⟩⟩
      · rw [h2]
        exact ⟨0, 0, 1, rfl, ⟨fun h => by omega, fun h => by omega⟩, fun h => by omega⟩
    cases minus with
    | false => exact tail (fun h => by cases h)
    | true =>
      rw [toList_eq, toList_eq]
      by_cases c : al = []
      · subst c
        exact ⟨0, 0, 3, rfl, ⟨fun h => by omega, fun h => absurd rfl (h.2.1 rfl)⟩, fun h => by omega⟩
      · rw [show ((ByteArray.mk al.toArray).data.toList == (ByteArray.mk #[]).data.toList) = false from beq_false_of_ne (by simpa using c)]
        exact tail (fun _ => c)
end Go.Proofs.YthbphpmiandmbaaDoor.V
