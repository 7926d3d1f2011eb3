/- Part 28 of the proof. -/
import Derived.Test.YtgopfcmbofkmmaaGreatM21
set_option linter.unusedVariables false
set_option linter.unusedSimpArgs false
set_option linter.unusedSectionVars false
namespace Go.Proofs.YtgopfcmbofkmmaaGreat.AI
section
open Go
theorem J1S:n0y (mm4.args.flatMap c0d) mm4.rows=true:=by kernel_rfl
theorem K1c:q0x (l0a []) 3000 mm4=true:=by kernel_rfl
