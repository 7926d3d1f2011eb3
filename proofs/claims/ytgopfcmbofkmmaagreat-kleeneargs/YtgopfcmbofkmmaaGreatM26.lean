/- Part 27 of the proof. -/
import Derived.Test.YtgopfcmbofkmmaaGreatM21
set_option linter.unusedVariables false
set_option linter.unusedSimpArgs false
set_option linter.unusedSectionVars false
namespace Go.Proofs.YtgopfcmbofkmmaaGreat.AI
section
open Go
theorem J1R:n0y (mm3.args.flatMap c0d) mm3.rows=true:=by kernel_rfl
theorem K1b:q0x (l0a []) 3000 mm3=true:=by kernel_rfl
