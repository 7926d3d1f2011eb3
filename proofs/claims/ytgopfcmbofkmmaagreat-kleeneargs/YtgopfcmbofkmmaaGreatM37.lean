/- Part 38 of the proof. -/
import Derived.Test.YtgopfcmbofkmmaaGreatM21
set_option linter.unusedVariables false
set_option linter.unusedSimpArgs false
set_option linter.unusedSectionVars false
namespace Go.Proofs.YtgopfcmbofkmmaaGreat.AI
section
open Go
theorem w1g:n0y (G1u.args.flatMap c0d) G1u.rows=true:=by kernel_rfl
theorem w1l:q0x (l0a []) 3000 G1u=true:=by kernel_rfl
