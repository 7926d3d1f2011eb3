/- Part 26 of the proof. -/
import Derived.Test.YtgopfcmbofkmmaaGreatM21
set_option linter.unusedVariables false
set_option linter.unusedSimpArgs false
set_option linter.unusedSectionVars false
namespace Go.Proofs.YtgopfcmbofkmmaaGreat.AI
section
open Go
theorem J1Q:n0y (mm2.args.flatMap c0d) mm2.rows=true:=by kernel_rfl
theorem K1a:q0x (l0a []) 3000 mm2=true:=by kernel_rfl
