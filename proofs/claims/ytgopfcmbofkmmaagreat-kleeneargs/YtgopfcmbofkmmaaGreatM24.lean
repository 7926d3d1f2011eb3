/- Part 25 of the proof. -/
import Derived.Test.YtgopfcmbofkmmaaGreatM21
set_option linter.unusedVariables false
set_option linter.unusedSimpArgs false
set_option linter.unusedSectionVars false
namespace Go.Proofs.YtgopfcmbofkmmaaGreat.AI
section
open Go
theorem J1P:n0y (mm1.args.flatMap c0d) mm1.rows=true:=by kernel_rfl
theorem J1Z:q0x (l0a []) 3000 mm1=true:=by kernel_rfl
