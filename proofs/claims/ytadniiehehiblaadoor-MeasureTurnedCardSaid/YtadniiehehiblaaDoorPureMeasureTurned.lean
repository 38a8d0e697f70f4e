/- The law MeasureTurned, as plain mathematics. -/
import Derived.Test.YtadniiehehiblaaDoorVg5
import Derived.Test.YtadniiehehiblaaDoorVBase
import Derived.Test.YtadniiehehiblaaDoorVKeep
import Derived.Test.YtadniiehehiblaaDoorVEuc
import Derived.Test.YtadniiehehiblaaDoorVWarp
import Derived.Test.YtadniiehehiblaaDoorVGcd
import Derived.Test.YtadniiehehiblaaDoorVWarp2
import Derived.Test.YtadniiehehiblaaDoorVLoop
import Derived.Test.YtadniiehehiblaaDoorVDist
import Derived.Test.YtadniiehehiblaaDoorVDec
import Derived.Test.YtadniiehehiblaaDoorVText
import Derived.Test.YtadniiehehiblaaDoorVCut32
import Derived.Test.YtadniiehehiblaaDoorVAtoi
import Derived.Test.YtadniiehehiblaaDoorVMeas
import Derived.Test.YtadniiehehiblaaDoorVDisk
import Derived.Test.YtadniiehehiblaaDoorVList
import Derived.Test.YtadniiehehiblaaDoorVEdit
import Derived.Test.YtadniiehehiblaaDoorVGap
import Derived.Test.YtadniiehehiblaaDoorVMD
import Derived.Test.YtadniiehehiblaaDoorVTurn
set_option linter.unusedVariables false
set_option linter.unusedSimpArgs false
namespace Go.Proofs.YtadniiehehiblaaDoor.V
open Go.VI
theorem take_rev {x : List Int} {i : Nat} (h : i < x.length) : x.reverse.take i ++ [x.getD (x.length - 1 - i) 0] = x.reverse.take (i + 1) := by
  have hr : i < x.reverse.length := by rw [List.length_reverse]; exact h
  rw [List.take_add_one, ← rev_get h, List.getD_eq_getElem?_getD, List.getElem?_eq_getElem hr]; rfl
theorem turn_loop {x y : List Int} (hx : Wn x) (hl : y.length = x.length) (k b g : Int) : ∀ (n i : Nat), i + n = x.length →
    law17_MeasureTurned.L0 (((), x, (), (), (), (x.length : Int), (i : Int), ()), ((k, b, g, ()), y, x.reverse.take i, y.reverse.take i, ())) = some (Sum.inl (((), x, (), (), (), ()), ((k, b, g, ()), y, x.reverse, y.reverse, ()))) := by
  have h32 := hx.2.1
  intro n
  induction n with
  | zero =>
    intro i h
    rw [law17_MeasureTurned.L0_eq, law17_MeasureTurned.f0, df (by omega), List.take_of_length_le (by rw [List.length_reverse]; omega), List.take_of_length_le (by rw [List.length_reverse]; omega)]; rfl
  | succ n ih =>
    intro i h
    rw [law17_MeasureTurned.L0_eq, law17_MeasureTurned.f0, dt (by omega), w64 (n := (x.length : Int) - 1) (by omega), w64 (n := (x.length : Int) - 1 - i) (by omega), dt (by omega : (0 : Int) ≤ (x.length : Int) - 1 - i), dt (by omega : (x.length : Int) - 1 - i < (x.length : Int)), dt (by omega : (x.length : Int) - 1 - i < (y.length : Int)),
      show ((x.length : Int) - 1 - i).toNat = x.length - 1 - i by omega, take_rev (by omega)]
    have ht := take_rev (x := y) (i := i) (by omega)
    rw [hl] at ht
    rw [ht, dt (by rw [List.length_take, List.length_reverse, List.length_singleton]; omega), dt (by rw [List.length_take, List.length_reverse, List.length_singleton]; omega), w64 (n := (i : Int) + 1) (by omega), show (i : Int) + 1 = ((i + 1 : Nat) : Int) by omega]
    simp only [cond_true]
    rw [show law17_MeasureTurned.L0 (((), (x, ((), ((), ((), ((x.length : Int), (((i + 1 : Nat) : Int), ()))))))), ((k, (b, (g, ()))), (y, (x.reverse.take (i + 1), (y.reverse.take (i + 1), ()))))) = _ from ih (i + 1) (by omega)]
    rfl
theorem MeasureTurned_pure (l : List Int) (h : ∀ x ∈ l, I64 x) : law17_MeasureTurned.F ((l, ()), ()) = some ((true, ()), ()) := by
  refine Ok.eq ?_
  rw [law17_MeasureTurned.F_eq, law17_MeasureTurned.f]
  refine .bind (new_ok l h) fun y0 s0 => .bind (dmeasure_ok s0) ?_
  rintro ⟨⟨⟨k, b, g, _⟩, _⟩, ⟨L1, i1, _⟩, _⟩ ⟨s1, hm⟩
  dsimp only at s1 hm ⊢
  refine .bind (pair_ok s1) ?_
  rintro ⟨⟨x, _, _⟩, ⟨L2, i2, _⟩, y, _⟩ ⟨s2, hx, hy, hl⟩
  dsimp only at s2 hx hy hl ⊢
  have hb := hm.2.1
  have hf : Fit k b x y := ⟨hx, hy, fun _ => by omega, fun _ _ => hl⟩
  have hr : Fit k b x.reverse y.reverse := ⟨hx.rev, hy.rev, fun _ => by simp only [List.length_reverse]; omega, fun _ _ => by simp [hl]⟩
  obtain ⟨e, v⟩ := mdist_ok hm hf
  obtain ⟨e2, _⟩ := mdist_ok hm hr
  have hloop := turn_loop hx hl k b g x.length 0 (by omega)
  rw [List.take_zero, List.take_zero] at hloop
  rw [show law17_MeasureTurned.L0 (((), (x, ((), ((), ((), ((x.length : Int), ((0 : Int), ()))))))), ((k, (b, (g, ()))), (y, (([] : List Int), (([] : List Int), ()))))) = _ from hloop]
  simp only [Option.bind_some, Sum.elim_inl]
  rw [show measure_Distance.F (((k, (b, (g, ()))), (x, (y, ()))), ()) = _ from e, show measure_Distance.F (((k, (b, (g, ()))), (x.reverse, (y.reverse, ()))), ()) = _ from e2, MD_rev hm hx hy hl]
  generalize MD k b g x y = r at *
  simp only [Option.bind_some]
  rw [awake_ok]
  simp
  exact .some rfl
theorem MeasureTurned_true (x : law17_MeasureTurned.sh.X) (h : dsWf law17_MeasureTurned.sh.ds x.1) : law17_MeasureTurned.F x = some ((true, ()), ()) := by
  obtain ⟨⟨l, _⟩, _⟩ := x
  exact MeasureTurned_pure l (wf_ints h.1)
end Go.Proofs.YtadniiehehiblaaDoor.V
