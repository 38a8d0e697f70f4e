/- The reference's reading of decimals, whole. -/
import Derived.Test.YthbphpmiandmbaaDoorVg2
import Derived.Test.YthbphpmiandmbaaDoorVBase
import Derived.Test.YthbphpmiandmbaaDoorVDec
import Derived.Test.YthbphpmiandmbaaDoorVParse
import Derived.Test.YthbphpmiandmbaaDoorVParse2
import Derived.Test.YthbphpmiandmbaaDoorVParse3
import Derived.Test.YthbphpmiandmbaaDoorVParse4
import Derived.Test.YthbphpmiandmbaaDoorVFmt
import Derived.Test.YthbphpmiandmbaaDoorVRound
import Derived.Test.YthbphpmiandmbaaDoorVRound2
import Derived.Test.YthbphpmiandmbaaDoorVRound3
import Derived.Test.YthbphpmiandmbaaDoorVRound4
import Derived.Test.YthbphpmiandmbaaDoorVRef4
import Derived.Test.YthbphpmiandmbaaDoorVRef5
set_option linter.unusedVariables false
namespace Go.Proofs.YthbphpmiandmbaaDoor.V
open Go.VI Go.Lib
theorem all_drop (l : List UInt8) : l.all (· == 48) = true ↔ l.dropWhile (· == 48) = [] := by
  rw [List.all_eq_true]
  induction l with
  | nil => simp
  | cons a l ih =>
    by_cases c : a = 48
    · subst c
      rw [List.dropWhile_cons_of_pos (by rfl), ← ih]; simp
    · rw [List.dropWhile_cons_of_neg (by simpa using c)]
      simp [c]
theorem val_drop : ∀ l : List UInt8, val (l.dropWhile (· == 48)) = val l
  | [] => rfl
  | a :: l => by
    by_cases c : a = 48
    · subst c
      rw [List.dropWhile_cons_of_pos (by rfl), val_drop l]; rfl
    · rw [List.dropWhile_cons_of_neg (by simpa using c)]
theorem vs_append (n : Nat) (l r : List UInt8) : vs n (l ++ r) = vs (vs n l) r := by unfold vs; rw [List.foldl_append]
theorem vs_no : ∀ (l : List UInt8) (n : Nat), (∀ c ∈ l, c ≠ 46) → vs n l = l.foldl (fun n c => 10 * n + (c.toNat - 48)) n
  | [], n, _ => rfl
  | c :: l, n, h => by
    rw [vs_cons, if_neg (h c (by simp)), vs_no l _ (fun d hd => h d (by simp [hd]))]; rfl
theorem vs_val {l : List UInt8} (h : ∀ c ∈ l, c ≠ 46) : vs 0 l = val l := vs_no l 0 h
theorem vs_point {w q : List UInt8} (hw : ∀ c ∈ w, c ≠ 46) (hq : ∀ c ∈ q, c ≠ 46) : vs 0 (w ++ 46 :: q) = val (w ++ q) := by
  have h : ∀ c ∈ w ++ q, c ≠ 46 := fun c hc => by
    rcases List.mem_append.1 hc with h | h
    · exact hw c h
    · exact hq c h
  rw [← vs_val h, vs_append, vs_append, vs_cons, if_pos rfl]
/-- Whether the digits are wrong. -/
theorem ref_flag (X W : List UInt8) (mi z : Bool) (p : Int) (hW : W.length ≤ 1000) : ∃ b, ref04_Parse.L6 ((bs X, (), mi, z, bs W, (), ()), ((0, 0, ()), (0, p, ()), ())) = some (Sum.inl ((bs X, (), mi, (), b, ()), ((0, 0, ()), (0, p, ()), ()))) ∧
    (b = true ↔ W = [] ∨ (1 < W.length ∧ W.getD 0 0 = 48) ∨ (mi = true ∧ z = true)) := by
  rw [ref04_Parse.L6_eq, ref04_Parse.f6, toList_eq, toList_eq, size_mk, show (0 : Int).toNat = 0 from rfl, getD_mk]
  by_cases c : W = []
  · subst c; exact ⟨true, rfl, by simp⟩
  · rw [show ((bs W).data.toList == (ByteArray.mk #[]).data.toList) = false from beq_false_of_ne (by simpa using c)]
    have hm : ∃ b, (bif mi then (some (Sum.inl ((bs X, ((), (mi, ((), (z, ()))))), ((0, (0, ())), ((0, (p, ())), ())))) : Option (((ByteArray × Unit × Bool × Unit × Bool × Unit) × ((Int × Int × Unit) × (Int × Int × Unit) × Unit)) ⊕ Empty)) else some (Sum.inl ((bs X, ((), (mi, ((), (Bool.false, ()))))), ((0, (0, ())), ((0, (p, ())), ()))))) = some (Sum.inl ((bs X, (), mi, (), b, ()), ((0, 0, ()), (0, p, ()), ()))) ∧ (b = true ↔ (mi = true ∧ z = true)) := by
      cases mi with
      | true => exact ⟨z, rfl, by simp⟩
      | false => exact ⟨false, rfl, by simp⟩
    obtain ⟨b, hb, hi⟩ := hm
    simp only [cond_false]
    by_cases d : (W.length : Int) > 1
    · rw [dt d, dt (by omega : (0 : Int) < (W.length : Int))]
      simp only [cond_true]
      by_cases e : W.getD 0 0 = 48
      · rw [e]
        exact ⟨true, rfl, ⟨fun _ => .inr (.inl ⟨by omega, rfl⟩), fun _ => rfl⟩⟩
      · have hn : ((W.getD 0 0).toNat : Int) ≠ 48 := fun h => e (UInt8.toNat_inj.1 (by show (W.getD 0 0).toNat = 48; omega))
        rw [bf hn]
        exact ⟨b, hb, by rw [hi]; simp only [c, e, and_false, false_or]⟩
    · rw [df d]
      exact ⟨b, hb, by rw [hi]; simp only [c, show ¬ 1 < W.length from by omega, false_and, false_or]⟩
theorem ref_end (X W : List UInt8) (mi z : Bool) (p : Int) (hW : W.length ≤ 1000) (hX : X.length ≤ 1000) (hc : ∀ c ∈ X, IsD c ∨ c = 46) :
    ∃ a b e, (Option.bind (ref04_Parse.L6 ((bs X, (), mi, z, bs W, (), ()), ((0, 0, ()), (0, p, ()), ()))) (fun y9 =>
       Sum.elim (fun a10 =>
        (bif a10.1.2.2.2.2.1 then
         (some ((((0:Int), ((0:Int), ())), ((3:Int), ())), ()))
        else
         (Option.bind (ref04_Parse.L7 ((a10.1.1, ((), (a10.1.2.2.1, ((), ((0:Int), ()))))), ((a10.2.1.1, (a10.2.1.2.1, ())), ((a10.2.2.1.1, (a10.2.2.1.2.1, ())), ())))) (fun y12 =>
         (Sum.elim (fun a13 =>
          (bif a13.1.2.1 then
           (some ((((Go.IntKind.wrap Go.IntKind.i64 ((0:Int) - a13.2.2.1.1)), (a13.2.2.1.2.1, ())), ((0:Int), ())), ()))
          else
           (some (((a13.2.2.1.1, (a13.2.2.1.2.1, ())), ((0:Int), ())), ())))) (fun b13 =>
          (Sum.elim (fun a14 =>
           (some (((a14.2.1.1, (a14.2.1.2.1, ())), (a14.1.2.1, ())), ()))) (fun b14 =>
           (Empty.elim b14)) b13)) y12))))) (fun b10 =>
        (Empty.elim b10)) y9)) = (some (((a, b, ()), e, ()), ()) : Option (((Int × Int × Unit) × Int × Unit) × Unit)) ∧
    ((W = [] ∨ (1 < W.length ∧ W.getD 0 0 = 48) ∨ (mi = true ∧ z = true)) → a = 0 ∧ b = 0 ∧ e = 3) ∧
    (¬ (W = [] ∨ (1 < W.length ∧ W.getD 0 0 = 48) ∨ (mi = true ∧ z = true)) → 1000000000 < vs 0 X → a = 0 ∧ b = 0 ∧ e = 1) ∧
    (¬ (W = [] ∨ (1 < W.length ∧ W.getD 0 0 = 48) ∨ (mi = true ∧ z = true)) → vs 0 X ≤ 1000000000 → a = (if mi then -(vs 0 X : Int) else (vs 0 X : Int)) ∧ b = p ∧ e = 0) := by
  obtain ⟨f, hf, hi⟩ := ref_flag X W mi z p hW
  rw [hf]
  simp only [Option.bind_some, Sum.elim_inl]
  cases f with
  | true =>
    have := hi.1 rfl
    exact ⟨0, 0, 3, rfl, fun _ => ⟨rfl, rfl, rfl⟩, fun h => absurd this h, fun h => absurd this h⟩
  | false =>
    have hn : ¬ (W = [] ∨ (1 < W.length ∧ W.getD 0 0 = 48) ∨ (mi = true ∧ z = true)) := fun h => by have := hi.2 h; cases this
    simp only [cond_false]
    rcases ref_value (X := X) (mi := mi) (p := p) hX X.length 0 0 (by omega) (by simpa using hc) (by omega) with ⟨h1, h2⟩ | ⟨h1, h2⟩
    · rw [List.drop_zero] at h1 h2
      refine ⟨if mi then -(vs 0 X : Int) else (vs 0 X : Int), p, 0, ?_, fun h => absurd h hn, fun _ h => by omega, fun _ _ => ⟨rfl, rfl, rfl⟩⟩
      rw [show ref04_Parse.L7 ((bs X, ((), (mi, ((), ((0:Int), ()))))), (((0 : Int), ((0 : Int), ())), (((0 : Int), (p, ())), ()))) = _ from h2]
      simp only [Option.bind_some, Sum.elim_inl]
      cases mi with
      | true =>
        simp only [cond_true, if_true]
        rw [w64 (by omega), Int.zero_sub]
      | false => simp
    · rw [List.drop_zero] at h1
      refine ⟨0, 0, 1, ?_, fun h => absurd h hn, fun _ _ => ⟨rfl, rfl, rfl⟩, fun _ h => by omega⟩
      rw [show ref04_Parse.L7 ((bs X, ((), (mi, ((), ((0:Int), ()))))), (((0 : Int), ((0 : Int), ())), (((0 : Int), (p, ())), ()))) = _ from h2]
      rfl
theorem ref_core {s : ByteArray} {mi : Bool} {X : List UInt8} (hX : X.length ≤ 1000)
    (h0 : ref04_Parse.L0 ((s, (), ()), ((0, 0, ()), ())) = some (Sum.inl ((s, (), mi, ()), ((0, 0, ()), ()))))
    (h1 : ref04_Parse.L1 ((s, (), mi, mi, ()), ((0, 0, ()), ())) = some (Sum.inl ((bs X, (), mi, ()), ((0, 0, ()), ())))) :
    ((∀ c ∈ X, c ≠ 46) → ∃ a b e, ref04_Parse.F ((s, ()), ()) = some (((a, b, ()), e, ()), ()) ∧ Ans mi false X [] a b e) ∧
    (∀ w q, X = w ++ 46 :: q → (∀ c ∈ w, c ≠ 46) → ∃ a b e, ref04_Parse.F ((s, ()), ()) = some (((a, b, ()), e, ()), ()) ∧ Ans mi true w q a b e) := by
  rw [ref04_Parse.F_eq, ref04_Parse.f, h0]
  simp only [Option.bind_some, Sum.elim_inl]
  rw [h1]
  simp only [Option.bind_some, Sum.elim_inl]
  constructor
  · intro hno
    rcases ref_tail (X := X) (mi := mi) (pt := -1) hX X.length 0 true (by omega) (.inr (by simpa using hno)) with ⟨k1, k2⟩ | ⟨k1, k2⟩
    · rw [List.drop_zero] at k1 k2
      rw [show ref04_Parse.L2 ((bs X, ((), (mi, ((-1 : Int), (Bool.true, ((0:Int), ())))))), (((0 : Int), ((0 : Int), ())), ())) = _ from k2]
      simp only [Option.bind_some, Sum.elim_inl, Bool.true_and]
      rw [df (by omega : ¬ (-1 : Int) ≥ 0), ref04_Parse.L5_eq, ref04_Parse.f5]
      simp only [cond_false, Option.bind_some, Sum.elim_inr, Sum.elim_inl]
      obtain ⟨a, b, e, hE, e3, e1, e0⟩ := ref_end X X mi (X.all (· == 48)) 0 hX hX (fun c hc => .inl (k1 c hc))
      refine ⟨a, b, e, hE, ?_⟩
      have hcore : core X [] = X.dropWhile (· == 48) := by unfold core; rw [List.append_nil]
      have hv : val (core X []) = vs 0 X := by rw [hcore, val_drop, vs_val hno]
      have hg : Good mi false X [] ↔ ¬ (X = [] ∨ (1 < X.length ∧ X.getD 0 0 = 48) ∨ (mi = true ∧ X.all (· == 48) = true)) := by
        unfold Good Shape Digs
        rw [hcore, all_drop]
        constructor
        · rintro ⟨⟨⟨g1, g2⟩, g3, g4⟩, g5⟩ (g | g | g)
          · exact g1 g
          · exact g3 g
          · exact g5 g.1 g.2
        · intro g
          exact ⟨⟨⟨fun h => g (.inl h), k1⟩, fun h => g (.inr (.inl h)), fun h => by cases h⟩, fun h h' => g (.inr (.inr ⟨h, h'⟩))⟩
      refine ⟨fun g => e3 (Classical.byContradiction fun n => g (hg.2 n)), fun g v => e1 (hg.1 g) (by omega), fun g v => ?_⟩
      obtain ⟨rfl, rfl, rfl⟩ := e0 (hg.1 g) (by omega)
      refine ⟨?_, rfl, rfl⟩
      show _ = (if mi then -(val (core X []) : Int) else (val (core X []) : Int))
      rw [hv]
    · rw [List.drop_zero] at k1
      rw [show ref04_Parse.L2 ((bs X, ((), (mi, ((-1 : Int), (Bool.true, ((0:Int), ())))))), (((0 : Int), ((0 : Int), ())), ())) = _ from k2]
      exact ⟨0, 0, 3, rfl, .bad3 fun g => k1 g.1.1.2⟩
  · rintro w q rfl hw
    have hXl : (w ++ 46 :: q).length = w.length + 1 + q.length := by rw [List.length_append, List.length_cons]; omega
    rcases ref_head (w := w) (q := q) (mi := mi) hX hw w.length 0 true (by omega) with ⟨k1, k2⟩ | ⟨k1, k2⟩
    · rw [List.drop_zero] at k1 k2
      have hdr : (w ++ 46 :: q).drop (w.length + 1) = q := by
        rw [show w ++ 46 :: q = (w ++ [46]) ++ q by simp, List.drop_left' (by simp)]
      have k3 := ref_tail (X := w ++ 46 :: q) (mi := mi) (pt := (w.length : Int)) hX q.length (w.length + 1) (true && w.all (· == 48)) (by omega) (.inl (by omega))
      rw [hdr] at k3
      rcases k3 with ⟨k3, k4⟩ | ⟨k3, k4⟩
      · rw [show ref04_Parse.L2 ((bs (w ++ 46 :: q), ((), (mi, ((-1 : Int), (Bool.true, ((0:Int), ())))))), (((0 : Int), ((0 : Int), ())), ())) = _ from k2.trans k4]
        simp only [Option.bind_some, Sum.elim_inl, Bool.true_and]
        rw [dt (by omega : (w.length : Int) ≥ 0), ref04_Parse.L5_eq, ref04_Parse.f5, size_mk, dt (by omega : (0 : Int) ≤ (w.length : Int)), dt (by omega : (w.length : Int) ≤ ((w ++ 46 :: q).length : Int)), w64 (n := ((w ++ 46 :: q).length : Int) - (w.length : Int)) (by omega),
          w64 (n := ((w ++ 46 :: q).length : Int) - (w.length : Int) - 1) (by omega), show ((w ++ 46 :: q).length : Int) - (w.length : Int) - 1 = (q.length : Int) by omega, show (0 : Int).toNat = 0 from rfl, Int.toNat_natCast, extract_mk, List.drop_zero, List.take_left' rfl]
        simp only [cond_true]
        have hq46 : ∀ c ∈ q, c ≠ 46 := fun c hc => (isD_ne (k3 c hc)).1
        by_cases c1 : (q.length : Int) < 1
        · rw [dt c1]
          refine ⟨0, 0, 3, rfl, .bad3 fun g => ?_⟩
          have := (g.1.2.2 rfl).1.1
          exact this (List.length_eq_zero_iff.1 (by omega))
        · rw [df c1]
          by_cases c2 : (q.length : Int) > 6
          · rw [dt c2]
            exact ⟨0, 0, 3, rfl, .bad3 fun g => by have := (g.1.2.2 rfl).2; omega⟩
          · rw [df c2]
            simp only [cond_false, Option.bind_some, Sum.elim_inr, Sum.elim_inl]
            obtain ⟨a, b, e, hE, e3, e1, e0⟩ := ref_end (w ++ 46 :: q) w mi (w.all (· == 48) && q.all (· == 48)) (q.length : Int) (by omega) hX (fun c hc => by
              rcases List.mem_append.1 hc with h | h
              · exact .inl (k1 c h)
              · rcases List.mem_cons.1 h with h | h
                · exact .inr h
                · exact .inl (k3 c h))
            refine ⟨a, b, e, hE, ?_⟩
            have hv : val (core w q) = vs 0 (w ++ 46 :: q) := by unfold core; rw [val_drop, vs_point hw hq46]
            have hz : (w.all (· == 48) && q.all (· == 48)) = true ↔ core w q = [] := by
              unfold core; rw [← List.all_append, all_drop]
            have hg : Good mi true w q ↔ ¬ (w = [] ∨ (1 < w.length ∧ w.getD 0 0 = 48) ∨ (mi = true ∧ (w.all (· == 48) && q.all (· == 48)) = true)) := by
              unfold Good Shape Digs
              rw [hz]
              constructor
              · rintro ⟨⟨⟨g1, g2⟩, g3, g4⟩, g5⟩ (g | g | g)
                · exact g1 g
                · exact g3 g
                · exact g5 g.1 g.2
              · intro g
                exact ⟨⟨⟨fun h => g (.inl h), k1⟩, fun h => g (.inr (.inl h)), fun _ => ⟨⟨fun h => c1 (by rw [h]; simp), k3⟩, by omega⟩⟩, fun h h' => g (.inr (.inr ⟨h, h'⟩))⟩
            refine ⟨fun g => e3 (Classical.byContradiction fun n => g (hg.2 n)), fun g v => e1 (hg.1 g) (by omega), fun g v => ?_⟩
            obtain ⟨rfl, rfl, rfl⟩ := e0 (hg.1 g) (by omega)
            refine ⟨?_, rfl, rfl⟩
            show _ = (if mi then -(val (core w q) : Int) else (val (core w q) : Int))
            rw [hv]
      · rw [show ref04_Parse.L2 ((bs (w ++ 46 :: q), ((), (mi, ((-1 : Int), (Bool.true, ((0:Int), ())))))), (((0 : Int), ((0 : Int), ())), ())) = _ from k2.trans k4]
        exact ⟨0, 0, 3, rfl, .bad3 fun g => k3 (g.1.2.2 rfl).1.2⟩
    · rw [List.drop_zero] at k1
      rw [show ref04_Parse.L2 ((bs (w ++ 46 :: q), ((), (mi, ((-1 : Int), (Bool.true, ((0:Int), ())))))), (((0 : Int), ((0 : Int), ())), ())) = _ from k2]
      exact ⟨0, 0, 3, rfl, .bad3 fun g => k1 g.1.1.2⟩
/-- Both read alike. -/
theorem parse_same (s : ByteArray) (hs : s.size ≤ 1000) : ∃ a b e : Int, unit_Parse.F ((s, ()), ()) = some (((a, b, ()), e, ()), ()) ∧ ref04_Parse.F ((s, ()), ()) = some (((a, b, ()), e, ()), ()) := by
  have he : s = ByteArray.mk s.data.toList.toArray := by
    apply ByteArray.ext; simp
  have hl : s.data.toList.length ≤ 1000 := by
    have : s.size = s.data.size := rfl
    simp; omega
  generalize s.data.toList = l at he hl
  subst he
  have main : ∀ (mi : Bool) (X : List UInt8), X.length ≤ 1000 → strings_CutPrefix.F ((bs l, (ByteArray.mk #[45], ())), ()) = some ((bs X, mi, ()), ()) →
      ref04_Parse.L0 ((bs l, (), ()), ((0, 0, ()), ())) = some (Sum.inl ((bs l, (), mi, ()), ((0, 0, ()), ()))) → ref04_Parse.L1 ((bs l, (), mi, mi, ()), ((0, 0, ()), ())) = some (Sum.inl ((bs X, (), mi, ()), ((0, 0, ()), ()))) →
      ∃ a b e : Int, unit_Parse.F ((bs l, ()), ()) = some (((a, b, ()), e, ()), ()) ∧ ref04_Parse.F ((bs l, ()), ()) = some (((a, b, ()), e, ()), ()) := by
    intro mi X hX c1 h0 h1
    obtain ⟨r1, r2⟩ := ref_core hX h0 h1
    rcases split_at X with h | ⟨w, q, rfl, h⟩
    · have c2 := cut_none X (by omega) (index_no X h)
      obtain ⟨a, b, e, k1, k2⟩ := parse_exact (w := X) (p := []) (pt := false) (by omega) (by simp) (fun _ => rfl) c1 c2
      obtain ⟨a', b', e', k3, k4⟩ := r1 h
      obtain ⟨rfl, rfl, rfl⟩ := k2.unique k4
      exact ⟨a, b, e, k1, k3⟩
    · have hXl : (w ++ 46 :: q).length = w.length + 1 + q.length := by rw [List.length_append, List.length_cons]; omega
      have c2 := cut_some (w ++ 46 :: q) (by omega) w.length (index_at q w h) (by omega)
      rw [List.take_left', show w.length + 1 = (w ++ [46]).length by simp, show w ++ 46 :: q = (w ++ [46]) ++ q by simp, List.drop_left' rfl] at c2
      · rw [show (w ++ [46]) ++ q = w ++ 46 :: q by simp] at c2
        obtain ⟨a, b, e, k1, k2⟩ := parse_exact (by omega) (by omega) (fun h => by cases h) c1 c2
        obtain ⟨a', b', e', k3, k4⟩ := r2 w q rfl h
        obtain ⟨rfl, rfl, rfl⟩ := k2.unique k4
        exact ⟨a, b, e, k1, k3⟩
      · rfl
  by_cases c : l.head? = some 45
  · cases l with
    | nil => cases c
    | cons a r =>
      obtain rfl : a = 45 := by simpa using c
      have hr : (45 :: r).length = r.length + 1 := rfl
      refine main true r (by omega) (cutminus_yes r (by omega)) ?_ ?_
      · rw [ref04_Parse.L0_eq, ref04_Parse.f0, size_mk, dt (by omega : ((45 :: r).length : Int) > 0)]; rfl
      · rw [ref04_Parse.L1_eq, ref04_Parse.f1, size_mk, dt (by omega : (1 : Int) ≤ ((45 :: r).length : Int)), show (1 : Int).toNat = 1 from rfl, Int.toNat_natCast, extract_mk, List.take_length]; rfl
  · refine main false l (by omega) (cutminus_no l (by omega) c) ?_ rfl
    rw [ref04_Parse.L0_eq, ref04_Parse.f0, size_mk]
    cases l with
    | nil => rfl
    | cons a r =>
      have hr : (a :: r).length = r.length + 1 := rfl
      rw [dt (by omega : ((a :: r).length : Int) > 0), show (0 : Int).toNat = 0 from rfl, getD_mk]
      have ha : (a.toNat : Int) ≠ 45 := fun e => c (by rw [show a = 45 from UInt8.toNat_inj.1 (by show a.toNat = 45; omega)]; rfl)
      show some _ = _
      rw [show ((((a :: r).getD 0 0).toNat : Int) == 45) = false from beq_false_of_ne ha]
end Go.Proofs.YthbphpmiandmbaaDoor.V
