/- Part 34 of the proof. -/
import Derived.Test.YtgopfcmbofkmmaaGreatM21
set_option linter.unusedVariables false
set_option linter.unusedSimpArgs false
set_option linter.unusedSectionVars false
namespace Go.Proofs.YtgopfcmbofkmmaaGreat.AI
section
open Go
theorem w1c:n0y (G1q.args.flatMap c0d) G1q.rows=true:=by kernel_rfl
theorem w1h:q0x (l0a []) 3000 G1q=true:=by kernel_rfl
