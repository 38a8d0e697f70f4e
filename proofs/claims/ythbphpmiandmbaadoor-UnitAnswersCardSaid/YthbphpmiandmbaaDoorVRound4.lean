/- What is read has the text that it was read from. -/
import Derived.Test.YthbphpmiandmbaaDoorVg0
import Derived.Test.YthbphpmiandmbaaDoorVBase
import Derived.Test.YthbphpmiandmbaaDoorVDec
import Derived.Test.YthbphpmiandmbaaDoorVParse
import Derived.Test.YthbphpmiandmbaaDoorVParse2
import Derived.Test.YthbphpmiandmbaaDoorVParse3
import Derived.Test.YthbphpmiandmbaaDoorVParse4
import Derived.Test.YthbphpmiandmbaaDoorVFmt
import Derived.Test.YthbphpmiandmbaaDoorVRound
import Derived.Test.YthbphpmiandmbaaDoorVRound2
import Derived.Test.YthbphpmiandmbaaDoorVRound3
set_option linter.unusedVariables false
namespace Go.Proofs.YthbphpmiandmbaaDoor.V
open Go.VI Go.Lib
theorem zeros_front : ∀ (l : List UInt8), l = List.replicate (l.length - (l.dropWhile (· == 48)).length) 48 ++ l.dropWhile (· == 48)
  | [] => rfl
  | a :: l => by
    by_cases c : a = 48
    · subst c
      rw [List.dropWhile_cons_of_pos (by rfl)]
      have ih := zeros_front l
      have hl := drop_len l
      rw [List.length_cons, show l.length + 1 - (l.dropWhile (· == 48)).length = (l.length - (l.dropWhile (· == 48)).length) + 1 by omega, List.replicate_succ, List.cons_append, ← ih]
    · rw [List.dropWhile_cons_of_neg (by simpa using c), Nat.sub_self]; rfl
theorem drop_head_ne : ∀ (l : List UInt8), (l.dropWhile (· == 48)).head? ≠ some 48
  | [] => by simp
  | a :: l => by
    by_cases c : a = 48
    · subst c
      rw [List.dropWhile_cons_of_pos (by rfl)]
      exact drop_head_ne l
    · rw [List.dropWhile_cons_of_neg (by simpa using c)]
      simpa using c
theorem read_val {w p : List UInt8} (hd : ∀ c ∈ w ++ p, IsD c) (hne : (w ++ p).dropWhile (· == 48) ≠ []) : 1 ≤ val ((w ++ p).dropWhile (· == 48)) ∧ decDigits (val ((w ++ p).dropWhile (· == 48))) = (w ++ p).dropWhile (· == 48) :=
  dec_of_val _ _ rfl hne (fun c hc => hd c ((List.dropWhile_suffix (· == 48)).subset hc)) (drop_head_ne _)
/-- The digits of what was read, padded, are the digits of the text. -/
theorem padded_read {w p : List UInt8} (hw : w ≠ []) (hd : ∀ c ∈ w ++ p, IsD c) (hz : ¬ (1 < w.length ∧ w.getD 0 0 = 48)) : padded (val ((w ++ p).dropWhile (· == 48))) (p.length : Int) = w ++ p := by
  have hwl : 1 ≤ w.length := by
    cases w with
    | nil => exact absurd rfl hw
    | cons => simp
  have hlen : (w ++ p).length = w.length + p.length := List.length_append
  have hf := zeros_front (w ++ p)
  have hdl := drop_len (w ++ p)
  have hid : 1 < w.length → (w ++ p).dropWhile (· == 48) = w ++ p := by
    intro h
    refine drop_head ?_
    rw [head_app hw, getD_head hw]
    intro e
    exact hz ⟨h, by simpa using e⟩
  by_cases c : (w ++ p).dropWhile (· == 48) = []
  · rw [c] at hf ⊢
    have h1 : w.length = 1 := by
      by_cases h : 1 < w.length
      · have := hid h
        rw [c] at this
        have := congrArg List.length this
        simp only [List.length_nil] at this
        omega
      · omega
    unfold padded
    rw [show val [] = 0 from rfl, decDigits_one (by omega), show UInt8.ofNat (48 + 0) = 48 from rfl, hf]
    simp only [List.length_nil, List.append_nil, List.length_cons, Nat.sub_zero]
    rw [show [(48 : UInt8)] = List.replicate 1 48 from rfl, List.replicate_append_replicate]
    congr 1
    omega
  · obtain ⟨h1, h2⟩ := read_val hd c
    unfold padded
    rw [h2]
    conv => rhs; rw [hf]
    congr 2
    by_cases h : 1 < w.length
    · have := congrArg List.length (hid h); omega
    · omega
theorem split_at : ∀ (l : List UInt8), (∀ c ∈ l, c ≠ 46) ∨ ∃ w q, l = w ++ 46 :: q ∧ ∀ c ∈ w, c ≠ 46
  | [] => .inl (by simp)
  | a :: l => by
    by_cases c : a = 46
    · subst c; exact .inr ⟨[], l, rfl, by simp⟩
    · rcases split_at l with h | ⟨w, q, rfl, h⟩
      · exact .inl fun x hx => by
          rcases List.mem_cons.1 hx with rfl | hx
          · exact c
          · exact h x hx
      · exact .inr ⟨a :: w, q, rfl, fun x hx => by
          rcases List.mem_cons.1 hx with rfl | hx
          · exact c
          · exact h x hx⟩
/-- What Parse hands back where it accepts. -/
def Back (l : List UInt8) (d p : Int) : Prop := (-1000000000 ≤ d ∧ d ≤ 1000000000) ∧ (0 ≤ p ∧ p ≤ 6) ∧ signed (decide (d < 0)) (pointed (padded d.natAbs p) p) = l
theorem back_of {mi pt : Bool} {w q : List UInt8} (hpt : pt = false → q = []) (h : Read mi pt w q) : Back (signed mi (if pt then w ++ 46 :: q else w)) (num mi w q) (q.length : Int) := by
  obtain ⟨⟨⟨hw, hwd⟩, hz, hq⟩, hm, hv⟩ := h
  have hqd : ∀ c ∈ q, IsD c := by
    cases pt with
    | false => rw [hpt rfl]; simp
    | true => exact (hq rfl).1.2
  have hq6 : q.length ≤ 6 := by
    cases pt with
    | false => rw [hpt rfl]; simp
    | true => exact (hq rfl).2
  have hd : ∀ c ∈ w ++ q, IsD c := fun c hc => by
    rcases List.mem_append.1 hc with h | h
    · exact hwd c h
    · exact hqd c h
  have hp := padded_read hw hd hz
  have hu : (num mi w q).natAbs = val ((w ++ q).dropWhile (· == 48)) := by
    unfold num
    cases mi with
    | false => simp
    | true => simp
  have hs : decide (num mi w q < 0) = mi := by
    unfold num
    cases mi with
    | false => exact df (by rw [if_neg (by simp)]; omega)
    | true =>
      have := (read_val hd (hm rfl)).1
      exact dt (by rw [if_pos rfl]; omega)
  refine ⟨by omega, by omega, ?_⟩
  rw [hs, hu, hp]
  congr 1
  unfold pointed
  have hlen : (w ++ q).length = w.length + q.length := List.length_append
  cases pt with
  | false => rw [hpt rfl]; simp
  | true =>
    have hq0 : q ≠ [] := (hq rfl).1.1
    have hq1 : 0 < q.length := List.length_pos_iff.2 hq0
    rw [if_pos (by omega), if_pos rfl, Int.toNat_natCast, hlen, show w.length + q.length - q.length = w.length by omega, List.take_left' rfl, List.drop_left' rfl]
    simp
theorem parse_cut {l X : List UInt8} {mi : Bool} (hX : X.length ≤ 1000) (hl : l = signed mi X)
    (c1 : strings_CutPrefix.F ((ByteArray.mk l.toArray, (ByteArray.mk #[45], ())), ()) = some ((ByteArray.mk X.toArray, mi, ()), ())) :
    ∃ d p e : Int, unit_Parse.F ((ByteArray.mk l.toArray, ()), ()) = some (((d, p, ()), e, ()), ()) ∧ (e = 0 → Back l d p) := by
  rcases split_at X with h | ⟨w, q, rfl, h⟩
  · have c2 := cut_none X (by omega) (index_no X h)
    obtain ⟨d1, d2, e, hF, he, hv⟩ := parse_core (p := []) (pt := false) (by omega) (by simp) (fun _ => rfl) c1 c2
    refine ⟨d1, d2, e, hF, fun h0 => ?_⟩
    obtain ⟨rfl, rfl⟩ := hv h0
    rw [hl]
    exact back_of (pt := false) (fun _ => rfl) (he.1 h0)
  · have hXl : (w ++ 46 :: q).length = w.length + 1 + q.length := by rw [List.length_append, List.length_cons]; omega
    have c2 := cut_some (w ++ 46 :: q) (by omega) w.length (index_at q w h) (by omega)
    rw [List.take_left', show w.length + 1 = (w ++ [46]).length by simp, show w ++ 46 :: q = (w ++ [46]) ++ q by simp, List.drop_left' rfl] at c2
    rw [show (w ++ [46]) ++ q = w ++ 46 :: q by simp] at c2
    obtain ⟨d1, d2, e, hF, he, hv⟩ := parse_core (by omega) (by omega) (fun h => by cases h) c1 c2
    refine ⟨d1, d2, e, hF, fun h0 => ?_⟩
    obtain ⟨rfl, rfl⟩ := hv h0
    rw [hl]
    exact back_of (pt := true) (fun h => by cases h) (he.1 h0)
    · rfl
theorem parse_back (s : ByteArray) (hs : s.size ≤ 100) : ∃ d p e : Int, unit_Parse.F ((s, ()), ()) = some (((d, p, ()), e, ()), ()) ∧ (e = 0 → Back s.data.toList d p) := by
  have he : s = ByteArray.mk s.data.toList.toArray := by
    apply ByteArray.ext; simp
  have hl : s.data.toList.length ≤ 100 := by
    have : s.size = s.data.size := rfl
    simp; omega
  generalize s.data.toList = l at he hl
  subst he
  by_cases c : l.head? = some 45
  · cases l with
    | nil => cases c
    | cons a r =>
      obtain rfl : a = 45 := by simpa using c
      have hr : (45 :: r).length = r.length + 1 := rfl
      exact parse_cut (X := r) (mi := true) (by omega) rfl (cutminus_yes r (by omega))
  · exact parse_cut (X := l) (mi := false) (by omega) rfl (cutminus_no l (by omega) c)
end Go.Proofs.YthbphpmiandmbaaDoor.V
