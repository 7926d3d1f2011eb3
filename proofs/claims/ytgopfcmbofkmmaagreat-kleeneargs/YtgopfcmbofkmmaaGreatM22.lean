/- Part 23 of the proof. -/
import Derived.Test.YtgopfcmbofkmmaaGreatM21
set_option linter.unusedVariables false
set_option linter.unusedSimpArgs false
set_option linter.unusedSectionVars false
namespace Go.Proofs.YtgopfcmbofkmmaaGreat.AI
section
open Go
theorem q0E:isB true (k0x (F0y [f_7,o0W] r0t).code (F0y [f_7,o0W] r0t).quick (F0y [f_7,o0W] r0t).prim 3000 0 x0R [] .emp 0)=true:=by kernel_rfl
theorem s0A:∃ H1,a0M (F0y [f_7,o0W] r0t) 3000 0 x0R [] #[]=.ok (.bool true,H1):=u0E (F0y [f_7,o0W] r0t) q0E
