/- Part 31 of the proof. -/
import Derived.Test.YtgopfcmbofkmmaaGreatM21
set_option linter.unusedVariables false
set_option linter.unusedSimpArgs false
set_option linter.unusedSectionVars false
namespace Go.Proofs.YtgopfcmbofkmmaaGreat.AI
section
open Go
theorem J1V:n0y (mm7.args.flatMap c0d) mm7.rows=true:=by kernel_rfl
theorem K1f:q0x (l0a []) 3000 mm7=true:=by kernel_rfl
