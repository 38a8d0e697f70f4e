/- Valid measures. -/
import Derived.Test.YtefcciajemkicaaVg0
import Derived.Test.YtefcciajemkicaaVBase
import Derived.Test.YtefcciajemkicaaVDec
import Derived.Test.YtefcciajemkicaaVText
import Derived.Lib.ItoaLen
set_option linter.unusedVariables false
set_option maxRecDepth 100000
namespace Go.Proofs.Ytefcciajemkicaa.V
open Go.VI Go.Lib
/-- The name of a kind. -/
def nm (k : Int) : List UInt8 := if k = 1 then [101, 117, 99, 108, 105, 100] else if k = 2 then [115, 104, 105, 102, 116, 101, 100] else if k = 3 then [110, 111, 114, 109, 97, 108] else if k = 4 then [119, 97, 114, 112] else if k = 5 then [101, 100, 105, 116] else []
theorem name_ok (k : Int) : measure_name.F ((k, ()), ()) = some ((bs (nm k), ()), ()) := by
  rw [measure_name.F_eq, measure_name.f]
  unfold nm
  by_cases c1 : k = 1
  · rw [bt c1, if_pos c1]; rfl
  · rw [bf c1, if_neg c1]
    by_cases c2 : k = 2
    · rw [bt c2, if_pos c2]; rfl
    · rw [bf c2, if_neg c2]
      by_cases c3 : k = 3
      · rw [bt c3, if_pos c3]; rfl
      · rw [bf c3, if_neg c3]
        by_cases c4 : k = 4
        · rw [bt c4, if_pos c4]; rfl
        · rw [bf c4, if_neg c4]
          by_cases c5 : k = 5
          · rw [bt c5, if_pos c5]; rfl
          · rw [bf c5, if_neg c5]; rfl
theorem nm_cases {k : Int} (h : 1 ≤ k ∧ k ≤ 5) : k = 1 ∨ k = 2 ∨ k = 3 ∨ k = 4 ∨ k = 5 := by omega
theorem nm_ne {k : Int} : nm k = [] ↔ ¬ (1 ≤ k ∧ k ≤ 5) := by
  unfold nm
  constructor
  · intro h c
    rcases nm_cases c with rfl | rfl | rfl | rfl | rfl <;> revert h <;> decide
  · intro h
    rw [if_neg (by omega), if_neg (by omega), if_neg (by omega), if_neg (by omega), if_neg (by omega)]
theorem nm_len (k : Int) : (nm k).length ≤ 7 := by
  unfold nm
  split; · decide
  split; · decide
  split; · decide
  split; · decide
  split; · decide
  decide
theorem nm_inj {j k : Int} (hj : 1 ≤ j ∧ j ≤ 5) (hk : 1 ≤ k ∧ k ≤ 5) (h : nm j = nm k) : j = k := by
  rcases nm_cases hj with rfl | rfl | rfl | rfl | rfl <;> rcases nm_cases hk with rfl | rfl | rfl | rfl | rfl <;> first | rfl | (exfalso; revert h; decide)
theorem nm_no32 {k : Int} : ∀ c ∈ nm k, c ≠ 32 := by
  intro c hc
  by_cases h : 1 ≤ k ∧ k ≤ 5
  · rcases nm_cases h with rfl | rfl | rfl | rfl | rfl <;> (revert c; decide)
  · rw [nm_ne.2 h] at hc; cases hc
/-- A valid measure. -/
def Mv (k b g : Int) : Prop := (1 ≤ k ∧ k ≤ 5) ∧ (0 ≤ b ∧ b ≤ 32 ∧ (b ≠ 0 → k = 4)) ∧ (-1000 ≤ g ∧ g ≤ 1000 ∧ (g ≠ 0 → k = 5))
theorem check_ok (k b g : Int) : ∃ e, measure_Check.F (((k, b, g, ()), ()), ()) = some ((e, ()), ()) ∧ (e = 0 ∨ e = 9) ∧ (e = 0 ↔ Mv k b g) := by
  have no : ∀ {P : Prop}, ¬ P → ((9 : Int) = 0 ↔ P) := fun h => ⟨fun e => absurd e (by decide), fun p => absurd p h⟩
  unfold Mv
  rw [measure_Check.F_eq, measure_Check.f, name_ok]
  simp only [Option.bind_some]
  rw [toList_eq, toList_eq, measure_Check.L0_eq, measure_Check.f0]
  by_cases c0 : nm k = []
  · rw [show ((bs (nm k)).data.toList == (ByteArray.mk #[]).data.toList) = true from beq_iff_eq.2 (by simpa using c0)]
    exact ⟨9, rfl, .inr rfl, no fun h => nm_ne.1 c0 h.1⟩
  · have hk : 1 ≤ k ∧ k ≤ 5 := Classical.byContradiction fun h => c0 (nm_ne.2 h)
    rw [show ((bs (nm k)).data.toList == (ByteArray.mk #[]).data.toList) = false from beq_false_of_ne (by simpa using c0)]
    simp only [cond_false]
    have bad : measure_Check.L2 (((), true, ()), ((k, b, g, ()), ())) = some (Sum.inl ((true, ()), ())) := by rw [measure_Check.L2_eq, measure_Check.f2]; rfl
    rw [measure_Check.L1_eq, measure_Check.f1]
    by_cases c1 : b < 0
    · rw [dt c1]
      simp only [cond_true, Option.bind_some, Sum.elim_inl]
      rw [show measure_Check.L2 (((), (true, ())), ((k, (b, (g, ()))), ())) = _ from bad]
      exact ⟨9, rfl, .inr rfl, no fun h => by omega⟩
    · rw [df c1]
      by_cases c2 : b > 32
      · rw [dt c2]
        simp only [cond_true, cond_false, Option.bind_some, Sum.elim_inl]
        rw [show measure_Check.L2 (((), (true, ())), ((k, (b, (g, ()))), ())) = _ from bad]
        exact ⟨9, rfl, .inr rfl, no fun h => by omega⟩
      · rw [df c2]
        have good : ∃ e, ((measure_Check.L2 (((), (false, ())), ((k, (b, (g, ()))), ()))).bind fun y3 => Sum.elim (fun a4 => some (Sum.inl ((a4.1.1, ()), ()))) (fun b4 => Empty.elim b4) y3 : Option (((Bool × Unit) × Unit) ⊕ Empty)) = some (Sum.inl ((e, ()), ())) ∧ (e = false ↔ (-1000 ≤ g ∧ g ≤ 1000 ∧ (g ≠ 0 → k = 5))) := by
          have no' : ∀ {P : Prop}, ¬ P → (true = false ↔ P) := fun h => ⟨fun e => (by cases e), fun p => absurd p h⟩
          rw [show measure_Check.L2 (((), (false, ())), ((k, (b, (g, ()))), ())) = measure_Check.f2 false k b g from rfl, measure_Check.f2]
          by_cases d1 : g < -1000
          · rw [dt d1]; exact ⟨true, rfl, no' fun h => by omega⟩
          · rw [df d1]
            by_cases d2 : g > 1000
            · rw [dt d2]; exact ⟨true, rfl, no' fun h => by omega⟩
            · rw [df d2]
              by_cases d3 : g = 0
              · rw [nt d3]; exact ⟨false, rfl, ⟨fun _ => by omega, fun _ => rfl⟩⟩
              · rw [nf d3]
                by_cases d4 : k = 5
                · rw [nt d4]; exact ⟨false, rfl, ⟨fun _ => by omega, fun _ => rfl⟩⟩
                · rw [nf d4]; exact ⟨true, rfl, no' fun h => d4 (h.2.2 d3)⟩
        obtain ⟨e, he, hi⟩ := good
        have fin : (b ≠ 0 → k = 4) → ∃ r, (((measure_Check.L2 (((), (false, ())), ((k, (b, (g, ()))), ()))).bind fun y3 => Sum.elim (fun a4 => some (Sum.inl ((a4.1.1, ()), ()))) (fun b4 => Empty.elim b4) y3 : Option (((Bool × Unit) × Unit) ⊕ Empty)).bind fun y1 => Sum.elim (fun a2 => bif a2.1.1 then some (((9:Int), ()), ()) else some (((0:Int), ()), ())) (fun b2 => Empty.elim b2) y1) = some ((r, ()), ()) ∧ (r = 0 ∨ r = 9) ∧
            (r = 0 ↔ (1 ≤ k ∧ k ≤ 5) ∧ (0 ≤ b ∧ b ≤ 32 ∧ (b ≠ 0 → k = 4)) ∧ (-1000 ≤ g ∧ g ≤ 1000 ∧ (g ≠ 0 → k = 5))) := by
          intro hb
          rw [he]
          cases e with
          | true => exact ⟨9, rfl, .inr rfl, no fun h => by have := hi.2 h.2.2; cases this⟩
          | false => exact ⟨0, rfl, .inl rfl, ⟨fun _ => ⟨hk, ⟨by omega, by omega, hb⟩, hi.1 rfl⟩, fun _ => rfl⟩⟩
        by_cases c3 : b = 0
        · rw [nt c3]
          exact fin (fun h => absurd c3 h)
        · rw [nf c3]
          by_cases c4 : k = 4
          · rw [nt c4]
            exact fin (fun _ => c4)
          · rw [nf c4]
            simp only [cond_true, cond_false, Option.bind_some, Sum.elim_inl]
            rw [show measure_Check.L2 (((), (true, ())), ((k, (b, (g, ()))), ())) = _ from bad]
            exact ⟨9, rfl, .inr rfl, no fun h => c4 (h.2.1.2.2 c3)⟩
/-- The text of a valid measure. -/
def vtxt (k b g : Int) : List UInt8 := if k = 4 then nm 4 ++ 32 :: itoa b else if k = 5 then nm 5 ++ 32 :: itoa g else nm k
theorem check_valid {k b g : Int} (h : Mv k b g) : measure_Check.F (((k, b, g, ()), ()), ()) = some ((0, ()), ()) := by
  obtain ⟨e, h1, _, h3⟩ := check_ok k b g
  rw [h1, h3.2 h]
end Go.Proofs.Ytefcciajemkicaa.V
