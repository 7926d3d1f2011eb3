/- Part 13 of the proof: AiTab0. -/
import Derived.Test.YtjlohmnnldbjoaaGreatChecked
import Derived.Test.YtjlohmnnldbjoaaGreatM03
set_option linter.unusedVariables false
set_option linter.unusedSimpArgs false
set_option linter.unusedSectionVars false
/- The small code is the program's: printed. -/
namespace Go.Proofs.YtjlohmnnldbjoaaGreat.AI
section
open Go
theorem e0z:b0s Tryz.prog f_6=some s_6:=by kernel_rfl
theorem f0I:b0s Tryz.prog F0D=some S0Q:=by kernel_rfl
theorem p0t:b0s Tryz.prog P0p=some S0R:=by kernel_rfl
theorem g0w:b0s Tryz.prog P0q=some S0S:=by kernel_rfl
theorem m0r:b0s Tryz.prog Q0G=some S0U:=by kernel_rfl
theorem w0O:b0s Tryz.prog Q0H=some S0V:=by kernel_rfl
theorem e0A:b0s Tryz.prog P0r=some S0W:=by kernel_rfl
theorem p0u:b0s Tryz.prog P0s=some S0X:=by kernel_rfl
theorem f0t:b0s Tryz.prog Q0I=some S0Y:=by kernel_rfl
theorem g0a:b0s Tryz.prog P0t=some S0Z:=by kernel_rfl
theorem f0Z:b0s Tryz.prog Q0J=some T0a:=by kernel_rfl
theorem g0V:b0s Tryz.prog P0u=some T0b:=by kernel_rfl
theorem k0b:b0s Tryz.prog Q0K=some T0c:=by kernel_rfl
theorem u0J:b0s Tryz.prog Q0L=some T0d:=by kernel_rfl
theorem w0P:b0s Tryz.prog P0v=some T0e:=by kernel_rfl
theorem x0c:b0s Tryz.prog n0R=some T0f:=by kernel_rfl
theorem x0k:b0s Tryz.prog P0w=some R0W:=by kernel_rfl
theorem w0Q:b0s Tryz.prog Q0M=some T0g:=by kernel_rfl
theorem G0p:b0s Tryz.prog N0n=some T0h:=by kernel_rfl
theorem m0x:b0s Tryz.prog Q0N=some T0i:=by kernel_rfl
theorem c0J:b0s Tryz.prog P0x=some T0j:=by kernel_rfl
theorem m0s:b0s Tryz.prog Q0O=some T0k:=by kernel_rfl
theorem w0R:b0s Tryz.prog P0y=some T0l:=by kernel_rfl
end
end Go.Proofs.YtjlohmnnldbjoaaGreat.AI
