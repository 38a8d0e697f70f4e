/- Loops on closed numbers. -/
import Derived.Test.YtadniiehehiblaaDoorVgEnv
import Derived.Test.YtadniiehehiblaaDoorVBase
set_option linter.unusedVariables false
set_option maxRecDepth 100000
namespace Go.Proofs.YtadniiehehiblaaDoor.V
open Go Go.VI

/-- A loop that the kernel runs. -/
theorem loop_it {E : Env} {live : List Nat} {outs : List (Nat × List Nat)} {lp : Bool} {body : IR} {sh : Sh} {es : List (Ex × Sh)} {step : (sh.X → Option (sumX es)) → sh.X → Option (sumX es)}
    (H : ∀ L x, (roundK E sh live outs lp body es L x).run _ some = step L x) (k : Nat) {x : sh.X} {y : sumX es} (h : iter step k x = some y) : loop step x = some y := by
  have he : step = fun L x => (roundK E sh live outs lp body es L x).run _ some := funext fun L => funext fun x => (H L x).symm
  subst he
  exact (loop_iff (round_tail E sh live outs lp body es)).2 ⟨k, h⟩

end Go.Proofs.YtadniiehehiblaaDoor.V
