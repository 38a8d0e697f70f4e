/- What the generator makes. -/
import Derived.Test.YthbphpmiandmbaaDoorVg1
import Derived.Test.YthbphpmiandmbaaDoorVBase
import Derived.Test.YthbphpmiandmbaaDoorVKeep
import Derived.Test.YthbphpmiandmbaaDoorVUnit
set_option linter.unusedVariables false
namespace Go.Proofs.YthbphpmiandmbaaDoor.V
open Go.VI
def Made (nm : ByteArray) (m a v : Int) : Prop := nm ∈ Names ∧ (1 ≤ m ∧ m ≤ 1000000) ∧ (-1000000000 ≤ a ∧ a ≤ 1000000000) ∧ (1 ≤ v ∧ v ≤ 1000000)
theorem in3 {x a b c : Int} (h : x ∈ [a, b, c]) : x = a ∨ x = b ∨ x = c := by simpa using h
theorem made_ok (l : List Int) (hl : ∀ x ∈ l, I64 x) : Ok (law04_made.F ((l, ()), ())) (fun r => Made r.1.2.1.1 r.1.2.1.2.1 r.1.2.1.2.2.1 r.1.2.1.2.2.2.1 ∧ (-1000000000 ≤ r.1.1.1 ∧ r.1.1.1 ≤ 1000000000) ∧ (0 ≤ r.1.1.2.1 ∧ r.1.1.2.1 ≤ 6)) := by
  rw [law04_made.F_eq, law04_made.f]
  refine .bind (new_ok l hl) fun y0 s0 => ?_
  refine .bind (pick_ok s0 _ (by decide)) fun y1 ⟨s1, m1⟩ => ?_
  refine .bind (pick_ok s1 _ (by decide)) fun y2 ⟨s2, m2⟩ => ?_
  have i1 := in3 m1
  have i2 := in3 m2
  rw [w64 (n := 0 - y1.1.1) (by omega)]
  refine .bind (range_ok s2 _ _ (by omega)) fun y3 ⟨s3, a3, b3⟩ => ?_
  refine .bind (n_ok s3 7 (by omega)) fun y4 ⟨s4, a4, b4⟩ => ?_
  refine .bind (text_ok s4 _ (by decide)) fun y5 ⟨s5, m5⟩ => ?_
  refine .bind (pick_ok s5 _ (by decide)) fun y6 ⟨s6, m6⟩ => ?_
  have i6 := in3 m6
  refine .bind (range_ok s6 _ _ (by omega)) fun y7 ⟨s7, a7, b7⟩ => ?_
  refine .bind (pick_ok s7 _ (by decide)) fun y8 ⟨s8, m8⟩ => ?_
  have i8 := in3 m8
  refine .bind (range_ok s8 _ _ (by omega)) fun y9 ⟨s9, a9, b9⟩ => ?_
  refine .bind (pick_ok s9 _ (by decide)) fun y10 ⟨s10, m10⟩ => ?_
  have i10 := in3 m10
  refine .bind (range_ok s10 _ _ (by omega)) fun y11 ⟨s11, a11, b11⟩ => ?_
  refine .some ⟨⟨?_, ?_, ?_, ?_⟩, ?_, ?_⟩
  · have : y5.1.1 ∈ [NmC, NmRaw, NmAl] := m5
    have hs : ∀ z ∈ [NmC, NmRaw, NmAl], z ∈ Names := by intro z hz; unfold Names; simp only [List.mem_cons, List.not_mem_nil, or_false] at hz ⊢; rcases hz with h | h | h <;> simp [h]
    exact hs _ this
  all_goals (dsimp only; omega)

end Go.Proofs.YthbphpmiandmbaaDoor.V
