/- The reference's reading of decimals: its loops. -/
import Derived.Test.YthbphpmiandmbaaDoorVg2
import Derived.Test.YthbphpmiandmbaaDoorVBase
import Derived.Test.YthbphpmiandmbaaDoorVDec
import Derived.Test.YthbphpmiandmbaaDoorVParse
import Derived.Test.YthbphpmiandmbaaDoorVParse2
import Derived.Test.YthbphpmiandmbaaDoorVParse3
import Derived.Test.YthbphpmiandmbaaDoorVParse4
import Derived.Test.YthbphpmiandmbaaDoorVFmt
import Derived.Test.YthbphpmiandmbaaDoorVRound
import Derived.Test.YthbphpmiandmbaaDoorVRound2
import Derived.Test.YthbphpmiandmbaaDoorVRound3
import Derived.Test.YthbphpmiandmbaaDoorVRound4
set_option linter.unusedVariables false
namespace Go.Proofs.YthbphpmiandmbaaDoor.V
open Go.VI Go.Lib
theorem bind_self {A : Type} (o : Option A) : (o.bind fun y => some y) = o := by cases o <;> rfl
@[reducible] def bs (X : List UInt8) : ByteArray := ByteArray.mk X.toArray
@[reducible] def st2 (X : List UInt8) (mi : Bool) (pt : Int) (z : Bool) (i : Nat) : ((ByteArray × Unit × Bool × Int × Bool × Int × Unit) × ((Int × Int × Unit) × Unit)) := ((bs X, (), mi, pt, z, (i : Int), ()), ((0, 0, ()), ()))
@[reducible] def er2 : Option (((ByteArray × Unit × Bool × Int × Bool × Unit) × ((Int × Int × Unit) × Unit)) ⊕ ((Unit × Int × Unit) × ((Int × Int × Unit) × Unit)) ⊕ Empty) := some (Sum.inr (Sum.inl (((), 3, ()), ((0, 0, ()), ()))))
theorem ref_step {X : List UInt8} {mi z : Bool} {pt : Int} {i : Nat} (hi : i < X.length) (hl : X.length ≤ 1000) :
    (X.getD i 0 = 46 → pt < 0 → ref04_Parse.L2 (st2 X mi pt z i) = ref04_Parse.L2 (st2 X mi (i : Int) z (i + 1))) ∧
    (X.getD i 0 = 46 → ¬ pt < 0 → ref04_Parse.L2 (st2 X mi pt z i) = er2) ∧
    (X.getD i 0 ≠ 46 → ¬ IsD (X.getD i 0) → ref04_Parse.L2 (st2 X mi pt z i) = er2) ∧
    (X.getD i 0 ≠ 46 → IsD (X.getD i 0) → ref04_Parse.L2 (st2 X mi pt z i) = ref04_Parse.L2 (st2 X mi pt (z && (X.getD i 0 == 48)) (i + 1))) := by
  have n1 : ((i : Int)).toNat = i := by omega
  have hz : ∀ c : UInt8, (c.toNat : Int) = 46 ↔ c = 46 := fun c => ⟨fun h => UInt8.toNat_inj.1 (by show c.toNat = 46; omega), fun h => by subst h; rfl⟩
  have h8 : ∀ c : UInt8, (c.toNat : Int) = 48 ↔ c = 48 := fun c => ⟨fun h => UInt8.toNat_inj.1 (by show c.toNat = 48; omega), fun h => by subst h; rfl⟩
  have e3 : ∀ (p : Int) (z : Bool), ref04_Parse.L3 ((bs X, (), mi, p, z, (i : Int), ()), ((0, 0, ()), ())) = some (Sum.inl ((bs X, (), mi, p, z, (i : Int), (X.getD i 0 == 46) && decide (p < 0), ()), ((0, 0, ()), ()))) := fun p z => by
    rw [ref04_Parse.L3_eq, ref04_Parse.f3, size_mk, dt (by omega : (0 : Int) ≤ (i : Int)), dt (by omega : (i : Int) < (X.length : Int)), n1, getD_mk]
    simp only [cond_true]
    by_cases c : X.getD i 0 = 46
    · rw [c]; rfl
    · rw [bf (fun e => c ((hz _).1 e)), show (X.getD i 0 == 46) = false from beq_false_of_ne c]; rfl
  have e4 : ∀ (p : Int) (z : Bool), ref04_Parse.L4 ((bs X, (), mi, p, z, (i : Int), ()), ((0, 0, ()), ())) = some (Sum.inl ((bs X, (), mi, p, z, (i : Int), (decide (((X.getD i 0).toNat : Int) < 48) || decide (((X.getD i 0).toNat : Int) > 57)), ()), ((0, 0, ()), ()))) := fun p z => by
    rw [ref04_Parse.L4_eq, ref04_Parse.f4, size_mk, dt (by omega : (0 : Int) ≤ (i : Int)), dt (by omega : (i : Int) < (X.length : Int)), n1, getD_mk]
    simp only [cond_true]
    by_cases c : ((X.getD i 0).toNat : Int) < 48
    · rw [dt c]; rfl
    · rw [df c]; rfl
  have head : ref04_Parse.L2 (st2 X mi pt z i) = _ := (ref04_Parse.L2_eq (bs X) mi pt z (i : Int) 0 0).trans (by rw [ref04_Parse.f2, size_mk, dt (by omega : (i : Int) < (X.length : Int)), cond_true, e3, Option.bind_some, Sum.elim_inl])
  simp only at head
  rw [head, e4]
  simp only [Option.bind_some, Sum.elim_inl]
  rw [w64 (n := (i : Int) + 1) (by omega), show (i : Int) + 1 = ((i + 1 : Nat) : Int) by omega, bind_self, bind_self, bind_self, size_mk, dt (by omega : (0 : Int) ≤ (i : Int)), dt (by omega : (i : Int) < (X.length : Int)), n1, getD_mk]
  simp only [cond_true]
  refine ⟨fun c p => ?_, fun c p => ?_, fun c p => ?_, fun c p => ?_⟩
  · rw [c, dt p]; rfl
  · rw [c, df p]; rfl
  · rw [show (X.getD i 0 == 46) = false from beq_false_of_ne c]
    unfold IsD at p
    by_cases d : ((X.getD i 0).toNat : Int) < 48
    · rw [dt d]; rfl
    · rw [df d, dt (by omega : ((X.getD i 0).toNat : Int) > 57)]; rfl
  · unfold IsD at p
    rw [show (X.getD i 0 == 46) = false from beq_false_of_ne c, df (by omega : ¬ ((X.getD i 0).toNat : Int) < 48), df (by omega : ¬ ((X.getD i 0).toNat : Int) > 57)]
    simp only [Bool.false_and, Bool.or_self, cond_false]
    by_cases d : X.getD i 0 = 48
    · rw [d]; simp only [beq_self_eq_true, Bool.and_true]; rfl
    · rw [show (((X.getD i 0).toNat : Int) != 48) = true from by simpa using fun e => d ((h8 _).1 e), show (X.getD i 0 == 48) = false from beq_false_of_ne d, Bool.and_false]; rfl
theorem drop_getD {X : List UInt8} {i : Nat} (hi : i < X.length) : X.drop i = X.getD i 0 :: X.drop (i + 1) := by
  rw [List.drop_eq_getElem_cons hi, List.getD_eq_getElem?_getD, List.getElem?_eq_getElem hi]; rfl
/-- Digits up to the end. -/
theorem ref_tail {X : List UInt8} {mi : Bool} {pt : Int} (hl : X.length ≤ 1000) : ∀ (k i : Nat) (z : Bool), i + k = X.length → (0 ≤ pt ∨ ∀ c ∈ X.drop i, c ≠ 46) →
    ((∀ c ∈ X.drop i, IsD c) ∧ ref04_Parse.L2 (st2 X mi pt z i) = some (Sum.inl ((bs X, (), mi, pt, z && (X.drop i).all (· == 48), ()), ((0, 0, ()), ())))) ∨
    (¬ (∀ c ∈ X.drop i, IsD c) ∧ ref04_Parse.L2 (st2 X mi pt z i) = er2)
  | 0, i, z, h, _ => by
    have hd : X.drop i = [] := List.drop_eq_nil_of_le (by omega)
    refine .inl ⟨by rw [hd]; simp, ?_⟩
    rw [hd]
    refine (ref04_Parse.L2_eq (bs X) mi pt z (i : Int) 0 0).trans ?_
    rw [ref04_Parse.f2, size_mk, df (by omega)]
    simp
  | k + 1, i, z, h, hp => by
    have hi : i < X.length := by omega
    have hd := drop_getD hi
    obtain ⟨_, s2, s3, s4⟩ := ref_step (mi := mi) (z := z) (pt := pt) hi hl
    rw [hd] at hp ⊢
    by_cases c : X.getD i 0 = 46
    · have hp0 : 0 ≤ pt := by
        rcases hp with hp | hp
        · exact hp
        · exact absurd c (hp _ (by simp))
      refine .inr ⟨fun H => (isD_ne (H _ (by simp))).1 c, s2 c (by omega)⟩
    · by_cases d : IsD (X.getD i 0)
      · have ih := ref_tail (mi := mi) (pt := pt) hl k (i + 1) (z && (X.getD i 0 == 48)) (by omega) (hp.imp id fun H x hx => H x (by simp [hx]))
        rw [s4 c d]
        rcases ih with ⟨h1, h2⟩ | ⟨h1, h2⟩
        · refine .inl ⟨fun x hx => ?_, ?_⟩
          · rcases List.mem_cons.1 hx with rfl | hx
            · exact d
            · exact h1 x hx
          · rw [h2, List.all_cons, Bool.and_assoc]
        · exact .inr ⟨fun H => h1 fun x hx => H x (by simp [hx]), h2⟩
      · exact .inr ⟨fun H => d (H _ (by simp)), s3 c d⟩
/-- Digits up to the point. -/
theorem ref_head {w q : List UInt8} {mi : Bool} (hl : (w ++ 46 :: q).length ≤ 1000) (hw : ∀ c ∈ w, c ≠ 46) : ∀ (k i : Nat) (z : Bool), i + k = w.length →
    ((∀ c ∈ w.drop i, IsD c) ∧ ref04_Parse.L2 (st2 (w ++ 46 :: q) mi (-1) z i) = ref04_Parse.L2 (st2 (w ++ 46 :: q) mi (w.length : Int) (z && (w.drop i).all (· == 48)) (w.length + 1))) ∨
    (¬ (∀ c ∈ w.drop i, IsD c) ∧ ref04_Parse.L2 (st2 (w ++ 46 :: q) mi (-1) z i) = er2)
  | 0, i, z, h => by
    obtain rfl : i = w.length := by omega
    have hX : (w ++ 46 :: q).length = w.length + 1 + q.length := by rw [List.length_append, List.length_cons]; omega
    have hg : (w ++ 46 :: q).getD w.length 0 = 46 := by simp [List.getD_eq_getElem?_getD]
    obtain ⟨s1, _, _, _⟩ := ref_step (X := w ++ 46 :: q) (i := w.length) (mi := mi) (z := z) (pt := -1) (by omega) hl
    refine .inl ⟨by simp, ?_⟩
    rw [s1 hg (by omega)]
    simp
  | k + 1, i, z, h => by
    have hX : (w ++ 46 :: q).length = w.length + 1 + q.length := by rw [List.length_append, List.length_cons]; omega
    have hi : i < w.length := by omega
    have hg : (w ++ 46 :: q).getD i 0 = w.getD i 0 := by
      rw [List.getD_eq_getElem?_getD, List.getD_eq_getElem?_getD, List.getElem?_append_left hi]
    have hd := drop_getD hi
    obtain ⟨_, _, s3, s4⟩ := ref_step (X := w ++ 46 :: q) (i := i) (mi := mi) (z := z) (pt := -1) (by omega) hl
    rw [hg] at s3 s4
    have hm : w.getD i 0 ∈ w := getD_mem hi
    rw [hd]
    by_cases d : IsD (w.getD i 0)
    · rw [s4 (hw _ hm) d]
      rcases ref_head hl hw k (i + 1) (z && (w.getD i 0 == 48)) (by omega) with ⟨h1, h2⟩ | ⟨h1, h2⟩
      · refine .inl ⟨fun x hx => ?_, ?_⟩
        · rcases List.mem_cons.1 hx with rfl | hx
          · exact d
          · exact h1 x hx
        · rw [h2, List.all_cons, Bool.and_assoc]
      · exact .inr ⟨fun H => h1 fun x hx => H x (by simp [hx]), h2⟩
    · exact .inr ⟨fun H => d (H _ (by simp)), s3 (hw _ hm) d⟩
/-- The number that digits stand for, points left out. -/
def vs (n : Nat) (l : List UInt8) : Nat := l.foldl (fun n c => if c = 46 then n else 10 * n + (c.toNat - 48)) n
theorem vs_cons (n : Nat) (c : UInt8) (l : List UInt8) : vs n (c :: l) = vs (if c = 46 then n else 10 * n + (c.toNat - 48)) l := rfl
theorem vs_ge : ∀ (l : List UInt8) (n : Nat), n ≤ vs n l
  | [], n => Nat.le_refl n
  | c :: l, n => by
    rw [vs_cons]
    have := vs_ge l (if c = 46 then n else 10 * n + (c.toNat - 48))
    split at this
    · rw [if_pos (by assumption)]; exact this
    · rw [if_neg (by assumption)]; omega
@[reducible] def st7 (X : List UInt8) (mi : Bool) (i : Nat) (n : Nat) (p : Int) : ((ByteArray × Unit × Bool × Unit × Int × Unit) × ((Int × Int × Unit) × (Int × Int × Unit) × Unit)) := ((bs X, (), mi, (), (i : Int), ()), ((0, 0, ()), ((n : Int), p, ()), ()))
theorem ref_value {X : List UInt8} {mi : Bool} {p : Int} (hl : X.length ≤ 1000) : ∀ (k i : Nat) (n : Nat), i + k = X.length → (∀ c ∈ X.drop i, IsD c ∨ c = 46) → n ≤ 1000000000 →
    (vs n (X.drop i) ≤ 1000000000 ∧ ref04_Parse.L7 (st7 X mi i n p) = some (Sum.inl (((), mi, (), ()), ((0, 0, ()), (((vs n (X.drop i) : Nat) : Int), p, ()), ())))) ∨
    (1000000000 < vs n (X.drop i) ∧ ref04_Parse.L7 (st7 X mi i n p) = some (Sum.inr (Sum.inl (((), 1, ()), ((0, 0, ()), ())))))
  | 0, i, n, h, _, hn => by
    have hd : X.drop i = [] := List.drop_eq_nil_of_le (by omega)
    rw [hd]
    refine .inl ⟨hn, ?_⟩
    refine (ref04_Parse.L7_eq (bs X) mi (i : Int) 0 0 (n : Int) p).trans ?_
    rw [ref04_Parse.f7, size_mk, df (by omega)]; rfl
  | k + 1, i, n, h, hc, hn => by
    have hi : i < X.length := by omega
    have hd := drop_getD hi
    have n1 : ((i : Int)).toNat = i := by omega
    have head := ref04_Parse.L7_eq (bs X) mi (i : Int) 0 0 (n : Int) p
    rw [ref04_Parse.f7, size_mk, dt (by omega : (i : Int) < (X.length : Int)), dt (by omega : (0 : Int) ≤ (i : Int)), n1, getD_mk, bind_self, bind_self, w64 (n := (i : Int) + 1) (by omega), show (i : Int) + 1 = ((i + 1 : Nat) : Int) by omega] at head
    simp only [cond_true] at head
    rw [hd] at hc
    have hc0 := hc (X.getD i 0) (by simp)
    show (_ ∧ ref04_Parse.L7 ((bs X, (), mi, (), (i : Int), ()), ((0, 0, ()), ((n : Int), p, ()), ())) = _) ∨ (_ ∧ ref04_Parse.L7 ((bs X, (), mi, (), (i : Int), ()), ((0, 0, ()), ((n : Int), p, ()), ())) = _)
    rw [head, hd, vs_cons]
    by_cases c : X.getD i 0 = 46
    · rw [c, if_pos rfl]
      exact ref_value hl k (i + 1) n (by omega) (fun x hx => hc x (by simp [hx])) hn
    · have hD : IsD (X.getD i 0) := hc0.resolve_right c
      unfold IsD at hD
      rw [if_neg c, bf (fun e => c (UInt8.toNat_inj.1 (by show (X.getD i 0).toNat = 46; omega)))]
      simp only [cond_false]
      rw [wrap_u8 (by omega), w64 (n := (n : Int) * 10) (by omega), w64 (n := ((X.getD i 0).toNat : Int) - 48) (by omega), w64 (n := (n : Int) * 10 + (((X.getD i 0).toNat : Int) - 48)) (by omega), show (n : Int) * 10 + (((X.getD i 0).toNat : Int) - 48) = ((10 * n + ((X.getD i 0).toNat - 48) : Nat) : Int) by omega]
      by_cases d : 10 * n + ((X.getD i 0).toNat - 48) ≤ 1000000000
      · rw [df (by omega)]
        exact ref_value hl k (i + 1) _ (by omega) (fun x hx => hc x (by simp [hx])) d
      · rw [dt (by omega)]
        have := vs_ge (X.drop (i + 1)) (10 * n + ((X.getD i 0).toNat - 48))
        exact .inr ⟨by omega, rfl⟩
end Go.Proofs.YthbphpmiandmbaaDoor.V
