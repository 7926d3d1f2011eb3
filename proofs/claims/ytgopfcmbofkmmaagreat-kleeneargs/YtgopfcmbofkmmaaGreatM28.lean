/- Part 29 of the proof. -/
import Derived.Test.YtgopfcmbofkmmaaGreatM21
set_option linter.unusedVariables false
set_option linter.unusedSimpArgs false
set_option linter.unusedSectionVars false
namespace Go.Proofs.YtgopfcmbofkmmaaGreat.AI
section
open Go
theorem J1T:n0y (mm5.args.flatMap c0d) mm5.rows=true:=by kernel_rfl
theorem K1d:q0x (l0a []) 3000 mm5=true:=by kernel_rfl
