/- The law UnitReads, as plain mathematics. -/
import Derived.Test.YthbphpmiandmbaaDoorVg2
import Derived.Test.YthbphpmiandmbaaDoorVBase
import Derived.Test.YthbphpmiandmbaaDoorVKeep
import Derived.Test.YthbphpmiandmbaaDoorVUnit
import Derived.Test.YthbphpmiandmbaaDoorVMade
import Derived.Test.YthbphpmiandmbaaDoorVDec
import Derived.Test.YthbphpmiandmbaaDoorVParse
import Derived.Test.YthbphpmiandmbaaDoorVParse2
import Derived.Test.YthbphpmiandmbaaDoorVParse3
import Derived.Test.YthbphpmiandmbaaDoorVParse4
import Derived.Test.YthbphpmiandmbaaDoorVFmt
import Derived.Test.YthbphpmiandmbaaDoorVRound
import Derived.Test.YthbphpmiandmbaaDoorVRound2
import Derived.Test.YthbphpmiandmbaaDoorVRound3
import Derived.Test.YthbphpmiandmbaaDoorVRound4
set_option linter.unusedVariables false
namespace Go.Proofs.YthbphpmiandmbaaDoor.V
open Go.VI Go.Lib
theorem UnitReads_pure (s : ByteArray) (l : List Int) (h : ∀ x ∈ l, I64 x) : law04_UnitReads.F ((s, l, ()), ()) = some ((true, ()), ()) := by
  refine Ok.eq ?_
  rw [law04_UnitReads.F_eq, law04_UnitReads.f]
  by_cases c : (s.size : Int) > 60
  · rw [dt c, awake_ok]
    exact .some rfl
  · rw [df c]
    refine .bind (made_ok l h) ?_
    rintro ⟨⟨⟨d, p, _⟩, _, _⟩, _⟩ ⟨_, hd, hp⟩
    dsimp only at hd hp ⊢
    obtain ⟨d2, p2, e, hF, hB⟩ := parse_back s (by omega)
    rw [format_ok d p hd hp, Option.bind_some, parse_format d p hd hp, Option.bind_some, hF, Option.bind_some, law04_UnitReads.L0_eq, law04_UnitReads.f0, show ((0 : Int) == 0) = true from rfl, show (d == d) = true from beq_iff_eq.2 rfl, show (p == p) = true from beq_iff_eq.2 rfl]
    simp only [cond_true, Bool.and_self]
    by_cases k : e = 0
    · subst k
      obtain ⟨b1, b2, b3⟩ := hB rfl
      rw [show ((0 : Int) != 0) = false from rfl, format_ok d2 p2 b1 b2, b3]
      simp only [cond_false, Option.bind_some]
      rw [toList_eq (ByteArray.mk s.data.toList.toArray), show ((ByteArray.mk s.data.toList.toArray).data.toList == (ByteArray.mk s.data.toList.toArray).data.toList) = true from beq_iff_eq.2 rfl, awake_ok]
      exact .some rfl
    · rw [show (e != 0) = true from by simpa using k, awake_ok]
      exact .some rfl
theorem UnitReads_true (x : law04_UnitReads.sh.X) (h : dsWf law04_UnitReads.sh.ds x.1) : law04_UnitReads.F x = some ((true, ()), ()) := by
  obtain ⟨⟨s, l, _⟩, _⟩ := x
  obtain ⟨_, h1, _⟩ := h
  exact UnitReads_pure s l (wf_ints h1)
end Go.Proofs.YthbphpmiandmbaaDoor.V
