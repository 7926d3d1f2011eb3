/- Part 24 of the proof. -/
import Derived.Test.YtgopfcmbofkmmaaGreatM21
set_option linter.unusedVariables false
set_option linter.unusedSimpArgs false
set_option linter.unusedSectionVars false
namespace Go.Proofs.YtgopfcmbofkmmaaGreat.AI
section
open Go
theorem J1O:n0y (mm0.args.flatMap c0d) mm0.rows=true:=by kernel_rfl
theorem J1Y:q0x (l0a []) 3000 mm0=true:=by kernel_rfl
