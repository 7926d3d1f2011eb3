/- Part 33 of the proof. -/
import Derived.Test.YtgopfcmbofkmmaaGreatM21
set_option linter.unusedVariables false
set_option linter.unusedSimpArgs false
set_option linter.unusedSectionVars false
namespace Go.Proofs.YtgopfcmbofkmmaaGreat.AI
section
open Go
theorem J1X:n0y (mm9.args.flatMap c0d) mm9.rows=true:=by kernel_rfl
theorem K1h:q0x (l0a []) 3000 mm9=true:=by kernel_rfl
