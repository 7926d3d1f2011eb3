/- Part 36 of the proof. -/
import Derived.Test.YtgopfcmbofkmmaaGreatM21
set_option linter.unusedVariables false
set_option linter.unusedSimpArgs false
set_option linter.unusedSectionVars false
namespace Go.Proofs.YtgopfcmbofkmmaaGreat.AI
section
open Go
theorem w1e:n0y (G1s.args.flatMap c0d) G1s.rows=true:=by kernel_rfl
theorem w1j:q0x (l0a []) 3000 G1s=true:=by kernel_rfl
