/- What is written is read. -/
import Derived.Test.YthbphpmiandmbaaDoorVg0
import Derived.Test.YthbphpmiandmbaaDoorVBase
import Derived.Test.YthbphpmiandmbaaDoorVDec
import Derived.Test.YthbphpmiandmbaaDoorVParse
import Derived.Test.YthbphpmiandmbaaDoorVParse2
import Derived.Test.YthbphpmiandmbaaDoorVParse3
import Derived.Test.YthbphpmiandmbaaDoorVParse4
import Derived.Test.YthbphpmiandmbaaDoorVFmt
import Derived.Test.YthbphpmiandmbaaDoorVRound
set_option linter.unusedVariables false
namespace Go.Proofs.YthbphpmiandmbaaDoor.V
open Go.VI Go.Lib
theorem cut_signed (mi : Bool) (X : List UInt8) (h : X.length ≤ 100000) (hX : X.head? ≠ some 45) : strings_CutPrefix.F ((ByteArray.mk (signed mi X).toArray, (ByteArray.mk #[45], ())), ()) = some ((ByteArray.mk X.toArray, mi, ()), ()) := by
  cases mi with
  | false => exact cutminus_no X (by omega) hX
  | true => exact cutminus_yes X (by omega)
theorem padded_digits (u : Nat) (p : Int) : ∀ c ∈ padded u p, IsD c := by
  intro c hc
  rcases List.mem_append.1 hc with h | h
  · have := List.eq_of_mem_replicate h
    subst this; unfold IsD; decide
  · exact dec_digits u c h
theorem num_padded (mi : Bool) (u : Nat) (p : Int) (w q : List UInt8) (h : w ++ q = padded u p) : num mi w q = if mi then -(u : Int) else (u : Int) := by
  unfold num
  rw [h, drop_padded]
  by_cases c : u = 0
  · subst c; rfl
  · rw [if_neg c, dec_val]
end Go.Proofs.YthbphpmiandmbaaDoor.V
