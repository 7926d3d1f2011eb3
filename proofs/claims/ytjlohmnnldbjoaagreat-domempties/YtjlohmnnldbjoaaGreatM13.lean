/- Part 14 of the proof: AiTab0. -/
import Derived.Test.YtjlohmnnldbjoaaGreatChecked
import Derived.Test.YtjlohmnnldbjoaaGreatM04
set_option linter.unusedVariables false
set_option linter.unusedSimpArgs false
set_option linter.unusedSectionVars false
namespace Go.Proofs.YtjlohmnnldbjoaaGreat.AI
section
open Go
theorem e0G:b0f Tryz.prog f_5=some s_5:=by kernel_rfl
theorem h0k:b0f Tryz.prog A0g=some b1s:=by kernel_rfl
theorem g0H:b0f Tryz.prog N0K=some b1t:=by kernel_rfl
theorem t0L:b0f Tryz.prog W0U=some b1u:=by kernel_rfl
theorem f0s:b0f Tryz.prog Y0C=some b1v:=by kernel_rfl
theorem i0b:b0f Tryz.prog N0L=some b1w:=by kernel_rfl
theorem g0G:b0f Tryz.prog Y0D=some b1x:=by kernel_rfl
theorem g0D:b0f Tryz.prog Y0E=some b1z:=by kernel_rfl
theorem f0X:b0f Tryz.prog Y0F=some a1w:=by kernel_rfl
theorem q0e:b0f Tryz.prog Y0G=some b1A:=by kernel_rfl
theorem B0b:b0f Tryz.prog Y0H=some b1B:=by kernel_rfl
theorem f0E:b0f Tryz.prog W0V=some b1C:=by kernel_rfl
theorem g0E:b0f Tryz.prog W0W=some b1D:=by kernel_rfl
theorem e0Z:b0f Tryz.prog W0X=some b1E:=by kernel_rfl
theorem t0M:b0f Tryz.prog W0Y=some b1F:=by kernel_rfl
theorem g0a:b0f Tryz.prog Y0I=some b1G:=by kernel_rfl
theorem h0g:b0f Tryz.prog W0Z=some b1H:=by kernel_rfl
theorem h0f:b0f Tryz.prog Y0J=some b1I:=by kernel_rfl
theorem g0c:b0f Tryz.prog K0Z=some b1J:=by kernel_rfl
theorem i0U:b0f Tryz.prog V0j=some b1K:=by kernel_rfl
theorem m0u:b0f Tryz.prog Y0K=some b1L:=by kernel_rfl
theorem g0F:b0f Tryz.prog Y0L=some b1M:=by kernel_rfl
theorem g0I:b0f Tryz.prog X0a=some b1N:=by kernel_rfl
theorem g0K:b0f Tryz.prog X0b=some b1O:=by kernel_rfl
theorem g0g:b0f Tryz.prog X0c=some b1P:=by kernel_rfl
theorem i0f:b0f Tryz.prog L0a=some b1Q:=by kernel_rfl
theorem h0j:b0f Tryz.prog Y0M=some b1R:=by kernel_rfl
theorem g0J:b0f Tryz.prog X0d=some b1S:=by kernel_rfl
theorem g0C:b0f Tryz.prog X0e=some b1T:=by kernel_rfl
theorem y0D:b0f Tryz.prog Y0N=some b1U:=by kernel_rfl
theorem B0c:b0f Tryz.prog X0f=some b1V:=by kernel_rfl
theorem B0p:b0f Tryz.prog v0X=some b1W:=by kernel_rfl
theorem B0x:b0f Tryz.prog X0g=some a1x:=by kernel_rfl
theorem B0d:b0f Tryz.prog Y0O=some b1X:=by kernel_rfl
theorem L0w:b0f Tryz.prog V0k=some b1Y:=by kernel_rfl
theorem f0Z:b0f Tryz.prog Y0P=some b1Z:=by kernel_rfl
theorem g0d:b0f Tryz.prog X0h=some c1a:=by kernel_rfl
theorem f0F:b0f Tryz.prog X0i=some c1b:=by kernel_rfl
theorem q0k:b0f Tryz.prog Y0Q=some c1c:=by kernel_rfl
theorem c0S:b0f Tryz.prog X0j=some c1d:=by kernel_rfl
theorem q0f:b0f Tryz.prog Y0R=some c1e:=by kernel_rfl
theorem B0e:b0f Tryz.prog X0k=some c1f:=by kernel_rfl
end
end Go.Proofs.YtjlohmnnldbjoaaGreat.AI
