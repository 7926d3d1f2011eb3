/- Part 30 of the proof. -/
import Derived.Test.YtgopfcmbofkmmaaGreatM21
set_option linter.unusedVariables false
set_option linter.unusedSimpArgs false
set_option linter.unusedSectionVars false
namespace Go.Proofs.YtgopfcmbofkmmaaGreat.AI
section
open Go
theorem J1U:n0y (mm6.args.flatMap c0d) mm6.rows=true:=by kernel_rfl
theorem K1e:q0x (l0a []) 3000 mm6=true:=by kernel_rfl
