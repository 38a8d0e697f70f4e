/- Measures and their texts. -/
import Derived.Test.YtadniiehehiblaaDoorVg5
import Derived.Test.YtadniiehehiblaaDoorVBase
import Derived.Test.YtadniiehehiblaaDoorVKeep
import Derived.Test.YtadniiehehiblaaDoorVLoop
import Derived.Test.YtadniiehehiblaaDoorVDist
import Derived.Test.YtadniiehehiblaaDoorVDec
import Derived.Test.YtadniiehehiblaaDoorVText
import Derived.Test.YtadniiehehiblaaDoorVCut32
import Derived.Test.YtadniiehehiblaaDoorVAtoi
import Derived.Lib.ItoaLen
set_option linter.unusedVariables false
set_option maxRecDepth 100000
namespace Go.Proofs.YtadniiehehiblaaDoor.V
open Go.VI Go.Lib
/-- The name of a kind. -/
def nm (k : Int) : List UInt8 := if k = 1 then [101, 117, 99, 108, 105, 100] else if k = 2 then [115, 104, 105, 102, 116, 101, 100] else if k = 3 then [110, 111, 114, 109, 97, 108] else if k = 4 then [119, 97, 114, 112] else if k = 5 then [101, 100, 105, 116] else []
theorem name_ok (k : Int) : measure_name.F ((k, ()), ()) = some ((bs (nm k), ()), ()) := by
  rw [measure_name.F_eq, measure_name.f]
  unfold nm
  by_cases c1 : k = 1
  · rw [bt c1, if_pos c1]; rfl
  · rw [bf c1, if_neg c1]
    by_cases c2 : k = 2
    · rw [bt c2, if_pos c2]; rfl
    · rw [bf c2, if_neg c2]
      by_cases c3 : k = 3
      · rw [bt c3, if_pos c3]; rfl
      · rw [bf c3, if_neg c3]
        by_cases c4 : k = 4
        · rw [bt c4, if_pos c4]; rfl
        · rw [bf c4, if_neg c4]
          by_cases c5 : k = 5
          · rw [bt c5, if_pos c5]; rfl
          · rw [bf c5, if_neg c5]; rfl
theorem nm_cases {k : Int} (h : 1 ≤ k ∧ k ≤ 5) : k = 1 ∨ k = 2 ∨ k = 3 ∨ k = 4 ∨ k = 5 := by omega
theorem nm_ne {k : Int} : nm k = [] ↔ ¬ (1 ≤ k ∧ k ≤ 5) := by
  unfold nm
  constructor
  · intro h c
    rcases nm_cases c with rfl | rfl | rfl | rfl | rfl <;> revert h <;> decide
  · intro h
    rw [if_neg (by omega), if_neg (by omega), if_neg (by omega), if_neg (by omega), if_neg (by omega)]
theorem nm_len (k : Int) : (nm k).length ≤ 7 := by
  unfold nm
  split; · decide
  split; · decide
  split; · decide
  split; · decide
  split; · decide
  decide
theorem nm_inj {j k : Int} (hj : 1 ≤ j ∧ j ≤ 5) (hk : 1 ≤ k ∧ k ≤ 5) (h : nm j = nm k) : j = k := by
  rcases nm_cases hj with rfl | rfl | rfl | rfl | rfl <;> rcases nm_cases hk with rfl | rfl | rfl | rfl | rfl <;> first | rfl | (exfalso; revert h; decide)
theorem nm_no32 {k : Int} : ∀ c ∈ nm k, c ≠ 32 := by
  intro c hc
  by_cases h : 1 ≤ k ∧ k ≤ 5
  · rcases nm_cases h with rfl | rfl | rfl | rfl | rfl <;> (revert c; decide)
  · rw [nm_ne.2 h] at hc; cases hc
/-- A valid measure. -/
def Mv (k b g : Int) : Prop := (1 ≤ k ∧ k ≤ 5) ∧ (0 ≤ b ∧ b ≤ 32 ∧ (b ≠ 0 → k = 4)) ∧ (-1000 ≤ g ∧ g ≤ 1000 ∧ (g ≠ 0 → k = 5))
theorem check_ok (k b g : Int) : ∃ e, measure_Check.F (((k, b, g, ()), ()), ()) = some ((e, ()), ()) ∧ (e = 0 ∨ e = 9) ∧ (e = 0 ↔ Mv k b g) := by
  have no : ∀ {P : Prop}, ¬ P → ((9 : Int) = 0 ↔ P) := fun h => ⟨fun e => absurd e (by decide), fun p => absurd p h⟩
  unfold Mv
  rw [measure_Check.F_eq, measure_Check.f, name_ok]
  simp only [Option.bind_some]
  rw [toList_eq, toList_eq, measure_Check.L0_eq, measure_Check.f0]
  by_cases c0 : nm k = []
  · rw [show ((bs (nm k)).data.toList == (ByteArray.mk #[]).data.toList) = true from beq_iff_eq.2 (by simpa using c0)]
    exact ⟨9, rfl, .inr rfl, no fun h => nm_ne.1 c0 h.1⟩
  · have hk : 1 ≤ k ∧ k ≤ 5 := Classical.byContradiction fun h => c0 (nm_ne.2 h)
    rw [show ((bs (nm k)).data.toList == (ByteArray.mk #[]).data.toList) = false from beq_false_of_ne (by simpa using c0)]
    simp only [cond_false]
    have bad : measure_Check.L2 (((), true, ()), ((k, b, g, ()), ())) = some (Sum.inl ((true, ()), ())) := by rw [measure_Check.L2_eq, measure_Check.f2]; rfl
    rw [measure_Check.L1_eq, measure_Check.f1]
    by_cases c1 : b < 0
    · rw [dt c1]
      simp only [cond_true, Option.bind_some, Sum.elim_inl]
      rw [show measure_Check.L2 (((), (true, ())), ((k, (b, (g, ()))), ())) = _ from bad]
      exact ⟨9, rfl, .inr rfl, no fun h => by omega⟩
    · rw [df c1]
      by_cases c2 : b > 32
      · rw [dt c2]
        simp only [cond_true, cond_false, Option.bind_some, Sum.elim_inl]
        rw [show measure_Check.L2 (((), (true, ())), ((k, (b, (g, ()))), ())) = _ from bad]
        exact ⟨9, rfl, .inr rfl, no fun h => by omega⟩
      · rw [df c2]
        have good : ∃ e, ((measure_Check.L2 (((), (false, ())), ((k, (b, (g, ()))), ()))).bind fun y3 => Sum.elim (fun a4 => some (Sum.inl ((a4.1.1, ()), ()))) (fun b4 => Empty.elim b4) y3 : Option (((Bool × Unit) × Unit) ⊕ Empty)) = some (Sum.inl ((e, ()), ())) ∧ (e = false ↔ (-1000 ≤ g ∧ g ≤ 1000 ∧ (g ≠ 0 → k = 5))) := by
          have no' : ∀ {P : Prop}, ¬ P → (true = false ↔ P) := fun h => ⟨fun e => (by cases e), fun p => absurd p h⟩
          rw [show measure_Check.L2 (((), (false, ())), ((k, (b, (g, ()))), ())) = measure_Check.f2 false k b g from rfl, measure_Check.f2]
          by_cases d1 : g < -1000
          · rw [dt d1]; exact ⟨true, rfl, no' fun h => by omega⟩
          · rw [df d1]
            by_cases d2 : g > 1000
            · rw [dt d2]; exact ⟨true, rfl, no' fun h => by omega⟩
            · rw [df d2]
              by_cases d3 : g = 0
              · rw [nt d3]; exact ⟨false, rfl, ⟨fun _ => by omega, fun _ => rfl⟩⟩
              · rw [nf d3]
                by_cases d4 : k = 5
                · rw [nt d4]; exact ⟨false, rfl, ⟨fun _ => by omega, fun _ => rfl⟩⟩
                · rw [nf d4]; exact ⟨true, rfl, no' fun h => d4 (h.2.2 d3)⟩
        obtain ⟨e, he, hi⟩ := good
        have fin : (b ≠ 0 → k = 4) → ∃ r, (((measure_Check.L2 (((), (false, ())), ((k, (b, (g, ()))), ()))).bind fun y3 => Sum.elim (fun a4 => some (Sum.inl ((a4.1.1, ()), ()))) (fun b4 => Empty.elim b4) y3 : Option (((Bool × Unit) × Unit) ⊕ Empty)).bind fun y1 => Sum.elim (fun a2 => bif a2.1.1 then some (((9:Int), ()), ()) else some (((0:Int), ()), ())) (fun b2 => Empty.elim b2) y1) = some ((r, ()), ()) ∧ (r = 0 ∨ r = 9) ∧
            (r = 0 ↔ (1 ≤ k ∧ k ≤ 5) ∧ (0 ≤ b ∧ b ≤ 32 ∧ (b ≠ 0 → k = 4)) ∧ (-1000 ≤ g ∧ g ≤ 1000 ∧ (g ≠ 0 → k = 5))) := by
          intro hb
          rw [he]
          cases e with
          | true => exact ⟨9, rfl, .inr rfl, no fun h => by have := hi.2 h.2.2; cases this⟩
          | false => exact ⟨0, rfl, .inl rfl, ⟨fun _ => ⟨hk, ⟨by omega, by omega, hb⟩, hi.1 rfl⟩, fun _ => rfl⟩⟩
        by_cases c3 : b = 0
        · rw [nt c3]
          exact fin (fun h => absurd c3 h)
        · rw [nf c3]
          by_cases c4 : k = 4
          · rw [nt c4]
            exact fin (fun _ => c4)
          · rw [nf c4]
            simp only [cond_true, cond_false, Option.bind_some, Sum.elim_inl]
            rw [show measure_Check.L2 (((), (true, ())), ((k, (b, (g, ()))), ())) = _ from bad]
            exact ⟨9, rfl, .inr rfl, no fun h => c4 (h.2.1.2.2 c3)⟩
/-- The text of a valid measure. -/
def vtxt (k b g : Int) : List UInt8 := if k = 4 then nm 4 ++ 32 :: itoa b else if k = 5 then nm 5 ++ 32 :: itoa g else nm k
theorem dec_len3 (u : Nat) (h : u ≤ 4000000000000000000) : (decDigits u).length ≤ 21 := by
  have := itoa_length_le (u : Int) (by omega) (by omega)
  rw [itoa_nonneg] at this; exact this
theorem itoa_len {n : Int} (h : -1000000 ≤ n ∧ n ≤ 1000000) : (itoa n).length ≤ 22 := by
  unfold itoa
  split
  · have := dec_len3 n.natAbs (by omega)
    rw [List.length_cons]; omega
  · have := dec_len3 n.toNat (by omega)
    omega
theorem itoa_F {n : Int} (h : -1000000 ≤ n ∧ n ≤ 1000000) : strconv_Itoa.F ((n, ()), ()) = some ((bs (itoa n), ()), ()) := by
  rw [strconv_Itoa.F_eq, dt (⟨by omega, by omega⟩ : -9223372036854775808 ≤ n ∧ n ≤ 9223372036854775807)]; rfl
theorem format_ok (k b g : Int) : ∃ t : List UInt8, measure_Format.F (((k, b, g, ()), ()), ()) = some ((bs t, ()), ()) ∧ (Mv k b g → t = vtxt k b g) ∧ (¬ Mv k b g → t = []) := by
  obtain ⟨e, h1, h2, h3⟩ := check_ok k b g
  rw [measure_Format.F_eq, measure_Format.f, h1]
  simp only [Option.bind_some]
  by_cases c : e = 0
  · have hv := h3.1 c
    rw [nt c]
    simp only [cond_false]
    have e1 : ([32] : List UInt8).length = 1 := rfl
    unfold vtxt
    obtain ⟨hk, hb, hg⟩ := hv
    by_cases c4 : k = 4
    · subst c4
      have l1 := itoa_len (n := b) (by omega)
      have l2 := nm_len 4
      refine ⟨nm 4 ++ 32 :: itoa b, ?_, fun _ => by rw [if_pos rfl], fun h => absurd (h3.1 c) h⟩
      have e2 : (nm 4 ++ [32]).length ≤ 8 := by rw [List.length_append]; omega
      rw [bt rfl, name_ok, itoa_F (by omega)]
      simp only [cond_true, Option.bind_some]
      rw [show (ByteArray.mk #[(32:UInt8)]) = bs [32] from rfl, append_mk2, append_mk2]
      simp only [size_mk]
      rw [dt (by omega), dt (by omega), List.append_assoc]; rfl
    · rw [bf c4]
      by_cases c5 : k = 5
      · subst c5
        have l1 := itoa_len (n := g) (by omega)
        have l2 := nm_len 5
        refine ⟨nm 5 ++ 32 :: itoa g, ?_, fun _ => by rw [if_neg (by omega), if_pos rfl], fun h => absurd (h3.1 c) h⟩
        have e2 : (nm 5 ++ [32]).length ≤ 8 := by rw [List.length_append]; omega
        rw [bt rfl, name_ok, itoa_F (n := g) (by omega)]
        simp only [cond_true, cond_false, Option.bind_some]
        rw [show (ByteArray.mk #[(32:UInt8)]) = bs [32] from rfl, append_mk2, append_mk2]
        simp only [size_mk]
        rw [dt (by omega), dt (by omega), List.append_assoc]; rfl
      · rw [bf c5, name_ok]
        exact ⟨nm k, rfl, fun _ => by rw [if_neg c4, if_neg c5], fun h => absurd (h3.1 c) h⟩
  · rw [nf c]
    exact ⟨[], rfl, fun h => absurd (h3.2 h) c, fun _ => rfl⟩
theorem format_valid {k b g : Int} (h : Mv k b g) : measure_Format.F (((k, b, g, ()), ()), ()) = some ((bs (vtxt k b g), ()), ()) := by
  obtain ⟨t, h1, h2, _⟩ := format_ok k b g
  rw [h1, h2 h]
theorem check_valid {k b g : Int} (h : Mv k b g) : measure_Check.F (((k, b, g, ()), ()), ()) = some ((0, ()), ()) := by
  obtain ⟨e, h1, _, h3⟩ := check_ok k b g
  rw [h1, h3.2 h]
/-- The measure that a number makes of a kind. -/
def mkB (k n : Int) : Int := if k = 4 then n else 0
def mkG (k n : Int) : Int := if k = 5 then n else 0
abbrev PR := Option (((Unit × Unit) × ((Int × Int × Int × Unit) × Unit)) ⊕ ((Unit × Int × Unit) × ((Int × Int × Int × Unit) × Unit)) ⊕ Empty)
/-- One kind's turn. -/
theorem turn (s w : ByteArray) (n k : Int) (hk : 1 ≤ k ∧ k ≤ 5) : ∃ t : List UInt8, measure_Format.F (((k, mkB k n, mkG k n, ()), ()), ()) = some ((bs t, ()), ()) ∧
    measure_Parse.L0 ((s, (), w, n, k, ()), ((0, 0, 0, ()), ())) = (bif (bs (nm k)).toList == w.toList then (bif (bs t).toList == s.toList then (some (Sum.inr (Sum.inl (((), 0, ()), ((k, mkB k n, mkG k n, ()), ())))) : PR) else measure_Parse.L0 ((s, (), w, n, k + 1, ()), ((0, 0, 0, ()), ()))) else measure_Parse.L0 ((s, (), w, n, k + 1, ()), ((0, 0, 0, ()), ()))) := by
  obtain ⟨t, ht, _⟩ := format_ok k (mkB k n) (mkG k n)
  refine ⟨t, ht, ?_⟩
  rw [measure_Parse.L0_eq, measure_Parse.f0, dt (by omega : k ≤ 5), name_ok, w64 (n := k + 1) (by omega)]
  simp only [cond_true, Option.bind_some]
  cases hw : ((bs (nm k)).toList == w.toList) with
  | false => simp only [Bool.not_false, cond_true, cond_false]; exact bind_self _
  | true =>
    simp only [Bool.not_true, cond_false, cond_true]
    unfold mkB mkG at ht ⊢
    by_cases c4 : k = 4
    · subst c4
      rw [if_pos rfl, if_neg (by omega)] at ht ⊢
      rw [bt rfl, ht]
      simp only [cond_true, Option.bind_some]
      rw [bind_self]
    · rw [bf c4]
      rw [if_neg c4] at ht ⊢
      by_cases c5 : k = 5
      · subst c5
        rw [if_pos rfl] at ht ⊢
        rw [bt rfl, ht]
        simp only [cond_true, cond_false, Option.bind_some]
        rw [bind_self]
      · rw [if_neg c5] at ht ⊢
        rw [bf c5, ht]
        simp only [cond_false, Option.bind_some]
        rw [bind_self]
theorem past (s w : ByteArray) (n : Int) : measure_Parse.L0 ((s, (), w, n, 6, ()), ((0, 0, 0, ()), ())) = some (Sum.inl (((), ()), ((0, 0, 0, ()), ()))) := by
  rw [measure_Parse.L0_eq, measure_Parse.f0, df (by omega)]; rfl
theorem toList_bs (l : List UInt8) : (bs l).toList = l := by rw [toList_eq]
/-- The turns, whatever is read. -/
theorem loop_any (s w : ByteArray) (n : Int) : ∀ (j : Nat) (k : Int), k + j = 6 → 1 ≤ k → measure_Parse.L0 ((s, (), w, n, k, ()), ((0, 0, 0, ()), ())) = some (Sum.inl (((), ()), ((0, 0, 0, ()), ()))) ∨
    ∃ (k' b g : Int) (t : List UInt8), (1 ≤ k' ∧ k' ≤ 5) ∧ measure_Parse.L0 ((s, (), w, n, k, ()), ((0, 0, 0, ()), ())) = some (Sum.inr (Sum.inl (((), 0, ()), ((k', b, g, ()), ())))) ∧
      measure_Format.F (((k', b, g, ()), ()), ()) = some ((bs t, ()), ()) ∧ t = s.toList ∧ nm k' = w.toList
  | 0, k, h, _ => by
    obtain rfl : k = 6 := by omega
    exact .inl (past s w n)
  | j + 1, k, h, h1 => by
    have ih := loop_any s w n j (k + 1) (by omega) (by omega)
    obtain ⟨t, ht, e⟩ := turn s w n k (by omega)
    rw [e]
    cases hw : ((bs (nm k)).toList == w.toList) with
    | false => exact ih
    | true =>
      cases hs : ((bs t).toList == s.toList) with
      | false => exact ih
      | true =>
        have hw' := beq_iff_eq.1 hw
        have hs' := beq_iff_eq.1 hs
        rw [toList_bs] at hw' hs'
        exact .inr ⟨k, _, _, t, by omega, rfl, ht, hs', hw'⟩
/-- The turns, for a measure's own text. -/
theorem loop_find {K b g n : Int} (hm : Mv K b g) (hB : mkB K n = b) (hG : mkG K n = g) : ∀ (j : Nat) (k : Int), k + j = K → 1 ≤ k → measure_Parse.L0 ((bs (vtxt K b g), (), bs (nm K), n, k, ()), ((0, 0, 0, ()), ())) = some (Sum.inr (Sum.inl (((), 0, ()), ((K, b, g, ()), ()))))
  | 0, k, h, h1 => by
    obtain rfl : k = K := by omega
    obtain ⟨t, ht, e⟩ := turn (bs (vtxt k b g)) (bs (nm k)) n k hm.1
    rw [hB, hG, format_valid hm] at ht
    simp only [Option.some.injEq, Prod.mk.injEq, and_true] at ht
    rw [e, ← ht, hB, hG, show ((bs (nm k)).toList == (bs (nm k)).toList) = true from beq_self_eq_true _, show ((bs (vtxt k b g)).toList == (bs (vtxt k b g)).toList) = true from beq_self_eq_true _]
    rfl
  | j + 1, k, h, h1 => by
    have ih := loop_find hm hB hG j (k + 1) (by omega) (by omega)
    have hK := hm.1
    obtain ⟨t, _, e⟩ := turn (bs (vtxt K b g)) (bs (nm K)) n k (by omega)
    rw [e, show ((bs (nm k)).toList == (bs (nm K)).toList) = false from beq_false_of_ne fun h => by
      rw [toList_bs, toList_bs] at h
      have := nm_inj (by omega) hK h
      omega]
    exact ih
theorem cut_any (l : List UInt8) (h : l.length ≤ 1000) : ∃ a b f, a.length ≤ 1000 ∧ b.length ≤ 1000 ∧ (l = [] → a = []) ∧ strings_Cut.F ((bs l, (ByteArray.mk #[32], ())), ()) = some ((bs a, bs b, f, ()), ()) := by
  have split : ∀ l : List UInt8, (∀ c ∈ l, c ≠ 32) ∨ ∃ w q, l = w ++ 32 :: q ∧ ∀ c ∈ w, c ≠ 32 := by
    intro l
    induction l with
    | nil => exact .inl (by simp)
    | cons a l ih =>
      by_cases c : a = 32
      · subst c; exact .inr ⟨[], l, rfl, by simp⟩
      · rcases ih with h | ⟨w, q, rfl, h⟩
        · exact .inl fun x hx => by
            rcases List.mem_cons.1 hx with rfl | hx
            · exact c
            · exact h x hx
        · exact .inr ⟨a :: w, q, rfl, fun x hx => by
            rcases List.mem_cons.1 hx with rfl | hx
            · exact c
            · exact h x hx⟩
  rcases split l with h1 | ⟨w, q, rfl, h1⟩
  · exact ⟨l, [], false, h, by simp, fun h => h, cut_none l (by omega) (index_no l h1)⟩
  · have hXl : (w ++ 32 :: q).length = w.length + 1 + q.length := by rw [List.length_append, List.length_cons]; omega
    refine ⟨w, q, true, by omega, by omega, fun h => by simp at h, ?_⟩
    have c2 := cut_some (w ++ 32 :: q) (by omega) w.length (index_at q w h1) (by omega)
    rw [List.take_left' rfl, show w ++ 32 :: q = (w ++ [32]) ++ q by simp, List.drop_left' (by simp)] at c2
    rw [show (w ++ [32]) ++ q = w ++ 32 :: q by simp] at c2
    exact c2
theorem atoi_any (l : List UInt8) (h : l.length ≤ 1000) : strconv_Atoi.F ((bs l, ()), ()) = some (((strconv_Atoi.end l).1, (strconv_Atoi.end l).2, ()), ()) := by
  rw [strconv_Atoi.F_eq, size_mk, dt (by omega)]; simp
theorem parse_any (s : ByteArray) (hs : s.size ≤ 1000) : ∃ k b g e, measure_Parse.F ((s, ()), ()) = some (((k, b, g, ()), e, ()), ()) ∧ (e = 0 → Mv k b g ∧ vtxt k b g = s.toList) := by
  have he : s = bs s.data.toList := by
    apply ByteArray.ext; simp
  have hl : s.data.toList.length ≤ 1000 := by
    have : s.size = s.data.size := rfl
    simp; omega
  obtain ⟨a, c, f, ha, hb, hn, hc⟩ := cut_any s.data.toList hl
  rw [← he] at hc
  rw [measure_Parse.F_eq, measure_Parse.f, hc]
  simp only [Option.bind_some]
  rw [atoi_any c hb]
  simp only [Option.bind_some]
  rcases loop_any s (bs a) (strconv_Atoi.end c).1 5 1 (by omega) (by omega) with h | ⟨k, b, g, t, hk, h, ht, h1, h2⟩
  · rw [show measure_Parse.L0 ((s, ((), (bs a, ((strconv_Atoi.end c).1, (1, ()))))), ((0, (0, (0, ()))), ())) = _ from h]
    exact ⟨0, 0, 0, 3, rfl, fun h => by omega⟩
  · rw [show measure_Parse.L0 ((s, ((), (bs a, ((strconv_Atoi.end c).1, (1, ()))))), ((0, (0, (0, ()))), ())) = _ from h]
    refine ⟨k, b, g, 0, rfl, fun _ => ?_⟩
    obtain ⟨t', ht', hv, hno⟩ := format_ok k b g
    rw [ht] at ht'
    obtain rfl : t = t' := by simpa using ht'
    by_cases hm : Mv k b g
    · exact ⟨hm, by rw [← hv hm, h1]⟩
    · exfalso
      rw [hno hm, toList_eq] at h1
      rw [hn h1.symm, toList_bs] at h2
      exact nm_ne.1 h2 hk
theorem atoi_itoa {n : Int} (h : -1000000 ≤ n ∧ n ≤ 1000000) : strconv_Atoi.end (itoa n) = (n, false) := by
  unfold strconv_Atoi.end itoa
  by_cases c : n < 0
  · rw [if_pos c, atoi_neg n.natAbs (by omega)]
    simp only [Prod.mk.injEq, and_true]; omega
  · rw [if_neg c, atoi_dec n.toNat (by omega)]
    simp only [Prod.mk.injEq, and_true]; omega
theorem parse_txt {k b g : Int} (h : Mv k b g) : measure_Parse.F ((bs (vtxt k b g), ()), ()) = some (((k, b, g, ()), 0, ()), ()) := by
  have key : ∀ (num : List UInt8) (f : Bool), num.length ≤ 1000 → strings_Cut.F ((bs (vtxt k b g), (ByteArray.mk #[32], ())), ()) = some ((bs (nm k), bs num, f, ()), ()) → mkB k (strconv_Atoi.end num).1 = b → mkG k (strconv_Atoi.end num).1 = g →
      measure_Parse.F ((bs (vtxt k b g), ()), ()) = some (((k, b, g, ()), 0, ()), ()) := by
    intro num f hn hc hB hG
    have hk := h.1
    have hl := loop_find h hB hG (k - 1).toNat 1 (by omega) (by omega)
    rw [measure_Parse.F_eq, measure_Parse.f, hc]
    simp only [Option.bind_some]
    rw [atoi_any num hn]
    simp only [Option.bind_some]
    rw [show measure_Parse.L0 ((bs (vtxt k b g), ((), (bs (nm k), ((strconv_Atoi.end num).1, (1, ()))))), ((0, (0, (0, ()))), ())) = _ from hl]
    rfl
  have cut : ∀ z : Int, -1000000 ≤ z ∧ z ≤ 1000000 → strings_Cut.F ((bs (nm k ++ 32 :: itoa z), (ByteArray.mk #[32], ())), ()) = some ((bs (nm k), bs (itoa z), true, ()), ()) := by
    intro z hz
    have l1 := itoa_len hz
    have l2 := nm_len k
    have hXl : (nm k ++ 32 :: itoa z).length = (nm k).length + 1 + (itoa z).length := by rw [List.length_append, List.length_cons]; omega
    have c2 := cut_some (nm k ++ 32 :: itoa z) (by omega) (nm k).length (index_at _ _ nm_no32) (by omega)
    rw [List.take_left' rfl, show nm k ++ 32 :: itoa z = (nm k ++ [32]) ++ itoa z by simp, List.drop_left' (by simp)] at c2
    rw [show (nm k ++ [32]) ++ itoa z = nm k ++ 32 :: itoa z by simp] at c2
    exact c2
  obtain ⟨hk, hb, hg⟩ := h
  by_cases c4 : k = 4
  · subst c4
    have l1 := itoa_len (n := b) (by omega)
    refine key (itoa b) true (by omega) ?_ ?_ ?_
    · rw [show vtxt 4 b g = nm 4 ++ 32 :: itoa b from if_pos rfl]; exact cut b (by omega)
    · rw [atoi_itoa (by omega)]; exact if_pos rfl
    · rw [show mkG 4 _ = 0 from if_neg (by omega)]; omega
  · by_cases c5 : k = 5
    · subst c5
      have l1 := itoa_len (n := g) (by omega)
      refine key (itoa g) true (by omega) ?_ ?_ ?_
      · rw [show vtxt 5 b g = nm 5 ++ 32 :: itoa g from by unfold vtxt; rw [if_neg (by omega), if_pos rfl]]; exact cut g (by omega)
      · rw [show mkB 5 _ = 0 from if_neg (by omega)]; omega
      · rw [atoi_itoa (by omega)]; exact if_pos rfl
    · have l2 := nm_len k
      refine key [] false (by simp) ?_ ?_ ?_
      · rw [show vtxt k b g = nm k from by unfold vtxt; rw [if_neg c4, if_neg c5]]
        exact cut_none (nm k) (by omega) (index_no _ nm_no32)
      · rw [show mkB k _ = 0 from if_neg c4]; omega
      · rw [show mkG k _ = 0 from if_neg c5]; omega
theorem distance_ex : measure_Distance.F (((4, 1, 0, ()), X3, Y3, ()), ()) = some (((0, 1, ()), 0, ()), ()) := by
  rw [measure_Distance.F_eq, measure_Distance.f, check_valid (⟨by omega, by omega, by omega⟩ : Mv 4 1 0)]
  simp only [Option.bind_some]
  rw [nt rfl, measure_distances.F_eq]
  simp only [cond_false, Option.bind_some]
  rw [bf (by omega : (4 : Int) ≠ 1), bf (by omega : (4 : Int) ≠ 2), bf (by omega : (4 : Int) ≠ 3), bt rfl]
  simp only [cond_false, cond_true]
  rw [show measure_distances_2.F ((X3, (Y3, ((), ()))), ((4, (1, (0, ()))), ())) = _ from closure2]; rfl
theorem awake_ok : law17_awake.F ((), ()) = some ((true, ()), ()) := by
  have h5 : itoa (-5) = [45, 53] := by
    unfold itoa
    rw [if_pos (by omega), show (-5 : Int).natAbs = 5 from rfl, decDigits_one (by omega)]; rfl
  have ht : (ByteArray.mk #[(101:UInt8), (100:UInt8), (105:UInt8), (116:UInt8), (32:UInt8), (45:UInt8), (53:UInt8)]) = bs (vtxt 5 0 (-5)) := by
    unfold vtxt
    rw [if_neg (by omega), if_pos rfl, h5]; rfl
  obtain ⟨e, h1, h2, h3⟩ := check_ok 0 1 0
  have he : e = 9 := h2.resolve_left fun h => by have := (h3.1 h).1; omega
  rw [he] at h1
  rw [law17_awake.F_eq, law17_awake.f, ht, parse_txt (⟨by omega, by omega, by omega⟩ : Mv 5 0 (-5))]
  simp only [Option.bind_some]
  rw [show measure_Distance.F ((((4:Int), ((1:Int), ((0:Int), ()))), ([(0:Int), (0:Int), (5:Int)], ([(0:Int), (5:Int), (5:Int)], ()))), ()) = _ from distance_ex]
  simp only [Option.bind_some]
  rw [law17_awake.L0_eq, law17_awake.f0, show measure_Check.F (((0, (1, (0, ()))), ()), ()) = _ from h1]
  rfl
end Go.Proofs.YtadniiehehiblaaDoor.V
