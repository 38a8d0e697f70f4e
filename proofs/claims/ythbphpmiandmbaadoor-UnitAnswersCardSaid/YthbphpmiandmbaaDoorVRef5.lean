/- Both readings of decimals answer alike. -/
import Derived.Test.YthbphpmiandmbaaDoorVg0
import Derived.Test.YthbphpmiandmbaaDoorVBase
import Derived.Test.YthbphpmiandmbaaDoorVDec
import Derived.Test.YthbphpmiandmbaaDoorVParse
import Derived.Test.YthbphpmiandmbaaDoorVParse2
import Derived.Test.YthbphpmiandmbaaDoorVParse3
import Derived.Test.YthbphpmiandmbaaDoorVParse4
import Derived.Test.YthbphpmiandmbaaDoorVFmt
import Derived.Test.YthbphpmiandmbaaDoorVRound
import Derived.Test.YthbphpmiandmbaaDoorVRound2
import Derived.Test.YthbphpmiandmbaaDoorVRound3
import Derived.Test.YthbphpmiandmbaaDoorVRound4
import Derived.Test.YthbphpmiandmbaaDoorVRef4
set_option linter.unusedVariables false
namespace Go.Proofs.YthbphpmiandmbaaDoor.V
open Go.VI Go.Lib
@[reducible] def core (w p : List UInt8) : List UInt8 := (w ++ p).dropWhile (· == 48)
def Good (mi pt : Bool) (w p : List UInt8) : Prop := Shape pt w p ∧ (mi = true → core w p ≠ [])
structure Ans (mi pt : Bool) (w p : List UInt8) (a b e : Int) : Prop where
  bad : ¬ Good mi pt w p → a = 0 ∧ b = 0 ∧ e = 3
  over : Good mi pt w p → 1000000000 < val (core w p) → a = 0 ∧ b = 0 ∧ e = 1
  fine : Good mi pt w p → val (core w p) ≤ 1000000000 → a = num mi w p ∧ b = (p.length : Int) ∧ e = 0
theorem Ans.unique {mi pt : Bool} {w p : List UInt8} {a b e a' b' e' : Int} (h : Ans mi pt w p a b e) (k : Ans mi pt w p a' b' e') : a = a' ∧ b = b' ∧ e = e' := by
  by_cases g : Good mi pt w p
  · by_cases v : val (core w p) ≤ 1000000000
    · obtain ⟨rfl, rfl, rfl⟩ := h.fine g v
      obtain ⟨rfl, rfl, rfl⟩ := k.fine g v
      exact ⟨rfl, rfl, rfl⟩
    · obtain ⟨rfl, rfl, rfl⟩ := h.over g (by omega)
      obtain ⟨rfl, rfl, rfl⟩ := k.over g (by omega)
      exact ⟨rfl, rfl, rfl⟩
  · obtain ⟨rfl, rfl, rfl⟩ := h.bad g
    obtain ⟨rfl, rfl, rfl⟩ := k.bad g
    exact ⟨rfl, rfl, rfl⟩
theorem Ans.bad3 {mi pt : Bool} {w p : List UInt8} (h : ¬ Good mi pt w p) : Ans mi pt w p 0 0 3 := ⟨fun _ => ⟨rfl, rfl, rfl⟩, fun g => absurd g h, fun g => absurd g h⟩
theorem Ans.over1 {mi pt : Bool} {w p : List UInt8} (h : Good mi pt w p) (v : 1000000000 < val (core w p)) : Ans mi pt w p 0 0 1 := ⟨fun g => absurd h g, fun _ _ => ⟨rfl, rfl, rfl⟩, fun _ k => by omega⟩
theorem Ans.fine0 {mi pt : Bool} {w p : List UInt8} (h : Good mi pt w p) (v : val (core w p) ≤ 1000000000) : Ans mi pt w p (num mi w p) (p.length : Int) 0 := ⟨fun g => absurd h g, fun _ k => by omega, fun _ _ => ⟨rfl, rfl, rfl⟩⟩
/-! The program's reading. -/
theorem parse_exact {s t : ByteArray} {minus pt : Bool} {w p : List UInt8} (hw : w.length ≤ 100000) (hp : p.length ≤ 100000) (hpt : pt = false → p = [])
    (c1 : strings_CutPrefix.F ((s, (ByteArray.mk #[45], ())), ()) = some ((t, minus, ()), ())) (c2 : strings_Cut.F ((t, (ByteArray.mk #[46], ())), ()) = some ((ByteArray.mk w.toArray, ByteArray.mk p.toArray, pt, ()), ())) :
    ∃ d1 d2 e : Int, unit_Parse.F ((s, ()), ()) = some (((d1, d2, ()), e, ()), ()) ∧ Ans minus pt w p d1 d2 e := by
  obtain ⟨b, e0, k0⟩ := form_ok minus pt w p (by omega) (by omega) 0 0
  rw [unit_Parse.F_eq, unit_Parse.f, c1]
  simp only [Option.bind_some]
  rw [c2]
  simp only [Option.bind_some]
  rw [e0]
  simp only [Option.bind_some, Sum.elim_inl]
  cases b with
  | true => exact ⟨0, 0, 3, rfl, .bad3 fun h => by have := k0.2 h.1; cases this⟩
  | false =>
    have hS := k0.1 rfl
    have hdl := drop_len (w ++ p)
    have hlen : (w ++ p).length = w.length + p.length := List.length_append
    have hdig : ∀ c ∈ (w ++ p).dropWhile (· == 48), IsD c := fun c hc => by
      have := (List.dropWhile_suffix (· == 48)).subset hc
      rcases List.mem_append.1 this with h | h
      · exact hS.1.2 c h
      · cases hb : pt with
        | false => rw [hpt hb] at h; cases h
        | true => exact (hS.2.2 hb).1.2 c h
    simp only [cond_false]
    rw [size_mk, size_mk, dt (by omega), append_mk]
    simp only [cond_true]
    rw [trim_eq (w ++ p) (by omega)]
    simp only [Option.bind_some]
    have hnum : num minus w p = if minus then -(val (core w p) : Int) else (val (core w p) : Int) := rfl
    have hgood : Good minus pt w p ↔ (minus = true → core w p ≠ []) := ⟨fun h => h.2, fun h => ⟨hS, h⟩⟩
    have hA : ∀ {a b e : Int}, Ans minus pt w p a b e ↔ Ans minus pt w p a b e := Iff.rfl
    show ∃ d1 d2 e : Int, (unit_Parse.L1 _).bind _ = _ ∧ _
    unfold core at hnum hgood
    have mk0 : (minus = true → (w ++ p).dropWhile (· == 48) ≠ []) → val ((w ++ p).dropWhile (· == 48)) ≤ 1000000000 → Ans minus pt w p (if minus then -(val ((w ++ p).dropWhile (· == 48)) : Int) else (val ((w ++ p).dropWhile (· == 48)) : Int)) (p.length : Int) 0 := fun h v => hnum ▸ Ans.fine0 (hgood.2 h) v
    have mk1 : (minus = true → (w ++ p).dropWhile (· == 48) ≠ []) → 1000000000 < val ((w ++ p).dropWhile (· == 48)) → Ans minus pt w p 0 0 1 := fun h v => Ans.over1 (hgood.2 h) v
    have mk3 : ¬ (minus = true → (w ++ p).dropWhile (· == 48) ≠ []) → Ans minus pt w p 0 0 3 := fun h => Ans.bad3 fun g => h (hgood.1 g)
    generalize (w ++ p).dropWhile (· == 48) = al at hdl hdig mk0 mk1 mk3 ⊢
    rw [unit_Parse.L1_eq, unit_Parse.f1]
    have hv := value_loop al p minus 0 0 (by omega) hdig (ByteArray.mk p.toArray) al.length 0 (by omega) (by simp [val])
    rw [show ((val (al.take 0) : Nat) : Int) = 0 from rfl, show ((0 : Nat) : Int) = 0 from rfl] at hv
    have tail : (minus = true → al ≠ []) → ∃ d1 d2 e : Int, (Option.bind (unit_Parse.L2 (((), (minus, (ByteArray.mk p.toArray, (ByteArray.mk al.toArray, ((0:Int), ((((ByteArray.size (ByteArray.mk al.toArray)) : Nat) : Int), ((0:Int), ()))))))), ((0, (0, ())), ()))) fun y10 => Sum.elim (fun a11 => bif a11.1.2.1 then some (((Go.IntKind.wrap Go.IntKind.i64 ((0:Int) - a11.1.2.2.2.1), ((((ByteArray.size a11.1.2.2.1) : Nat) : Int), ())), ((0:Int), ())), ()) else some ((((a11.1.2.2.2.1), ((((ByteArray.size a11.1.2.2.1) : Nat) : Int), ())), ((0:Int), ())), ())) (fun b11 => Sum.elim (fun a12 => some (((a12.2.1.1, (a12.2.1.2.1, ())), (a12.1.2.1, ())), ())) (fun b12 => Empty.elim b12) b11) y10) = (some (((d1, d2, ()), e, ()), ()) : Option (((Int × Int × Unit) × Int × Unit) × Unit)) ∧ Ans minus pt w p d1 d2 e := by
      intro hm
      have mk0 := mk0 hm
      have mk1 := mk1 hm
      rw [size_mk]
      rcases hv with ⟨h1, h2⟩ | ⟨h1, h2⟩
      · rw [h2]
        simp only [Option.bind_some, Sum.elim_inl]
        cases minus with
        | true =>
          simp only [cond_true]
          rw [size_mk, w64 (by omega)]
          refine ⟨_, _, 0, rfl, ?_⟩
          have := mk0 h1
          rw [if_pos rfl] at this
          rw [Int.zero_sub]; exact this
        | false =>
          simp only [cond_false]
          rw [size_mk]
          refine ⟨_, _, 0, rfl, ?_⟩
          have := mk0 h1
          rw [if_neg (by simp)] at this
          exact this
      · rw [h2]
        exact ⟨0, 0, 1, rfl, mk1 h1⟩
    cases minus with
    | false => exact tail (fun h => by cases h)
    | true =>
      rw [toList_eq, toList_eq]
      by_cases c : al = []
      · subst c
        exact ⟨0, 0, 3, rfl, mk3 fun h => h rfl rfl⟩
      · rw [show ((ByteArray.mk al.toArray).data.toList == (ByteArray.mk #[]).data.toList) = false from beq_false_of_ne (by simpa using c)]
        exact tail (fun _ => c)
end Go.Proofs.YthbphpmiandmbaaDoor.V
