/- Part 32 of the proof. -/
import Derived.Test.YtgopfcmbofkmmaaGreatM21
set_option linter.unusedVariables false
set_option linter.unusedSimpArgs false
set_option linter.unusedSectionVars false
namespace Go.Proofs.YtgopfcmbofkmmaaGreat.AI
section
open Go
theorem J1W:n0y (mm8.args.flatMap c0d) mm8.rows=true:=by kernel_rfl
theorem K1g:q0x (l0a []) 3000 mm8=true:=by kernel_rfl
