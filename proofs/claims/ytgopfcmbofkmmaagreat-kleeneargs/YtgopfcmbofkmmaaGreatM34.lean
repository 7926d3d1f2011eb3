/- Part 35 of the proof. -/
import Derived.Test.YtgopfcmbofkmmaaGreatM21
set_option linter.unusedVariables false
set_option linter.unusedSimpArgs false
set_option linter.unusedSectionVars false
namespace Go.Proofs.YtgopfcmbofkmmaaGreat.AI
section
open Go
theorem w1d:n0y (G1r.args.flatMap c0d) G1r.rows=true:=by kernel_rfl
theorem w1i:q0x (l0a []) 3000 G1r=true:=by kernel_rfl
