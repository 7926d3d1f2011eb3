/- Part 37 of the proof. -/
import Derived.Test.YtgopfcmbofkmmaaGreatM21
set_option linter.unusedVariables false
set_option linter.unusedSimpArgs false
set_option linter.unusedSectionVars false
namespace Go.Proofs.YtgopfcmbofkmmaaGreat.AI
section
open Go
theorem w1f:n0y (G1t.args.flatMap c0d) G1t.rows=true:=by kernel_rfl
theorem w1k:q0x (l0a []) 3000 G1t=true:=by kernel_rfl
