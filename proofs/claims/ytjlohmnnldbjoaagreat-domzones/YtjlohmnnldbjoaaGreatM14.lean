/- Part 15 of the proof: AiTab1. -/
import Derived.Test.YtjlohmnnldbjoaaGreatChecked
import Derived.Test.YtjlohmnnldbjoaaGreatM04
set_option linter.unusedVariables false
set_option linter.unusedSimpArgs false
set_option linter.unusedSectionVars false
namespace Go.Proofs.YtjlohmnnldbjoaaGreat.AI
section
open Go
theorem f0w:b0j Tryz.prog v0J=some a1x:=by kernel_rfl
theorem h0M:b0j Tryz.prog X0y=some a1y:=by kernel_rfl
theorem h0R:b0j Tryz.prog A0e=some a1z:=by kernel_rfl
theorem i0z:b0j Tryz.prog t0r=some a1A:=by kernel_rfl
theorem y0r:b0j Tryz.prog X0z=some a1B:=by kernel_rfl
theorem p0Y:b0j Tryz.prog X0A=some a1C:=by kernel_rfl
theorem f0i:b0j Tryz.prog V0N=some a1D:=by kernel_rfl
theorem g0U:b0j Tryz.prog X0B=some a1E:=by kernel_rfl
theorem f0W:b0j Tryz.prog M0V=some a1F:=by kernel_rfl
theorem f0P:b0j Tryz.prog V0O=some a1G:=by kernel_rfl
theorem f0T:b0j Tryz.prog V0P=some a1H:=by kernel_rfl
theorem s0b:b0j Tryz.prog X0C=some a1I:=by kernel_rfl
theorem t0D:b0j Tryz.prog A0f=some a1J:=by kernel_rfl
theorem t0C:b0j Tryz.prog V0Q=some a1K:=by kernel_rfl
theorem j0i:b0j Tryz.prog X0D=some a1L:=by kernel_rfl
theorem A0K:b0j Tryz.prog J0G=some a1M:=by kernel_rfl
theorem A0P:b0j Tryz.prog r0G=some a1N:=by kernel_rfl
theorem K0I:b0j Tryz.prog A0g=some a1O:=by kernel_rfl
theorem A0X:b0j Tryz.prog V0R=some a1P:=by kernel_rfl
theorem f0S:b0j Tryz.prog T0V=some a1Q:=by kernel_rfl
theorem h0b:b0j Tryz.prog X0E=some a1R:=by kernel_rfl
theorem A0W:b0j Tryz.prog T0W=some a1S:=by kernel_rfl
theorem d0g:b0j Tryz.prog X0F=some a1T:=by kernel_rfl
theorem y0q:b0j Tryz.prog X0G=some a1U:=by kernel_rfl
theorem h0U:b0j Tryz.prog z0I=some L0h:=by kernel_rfl
theorem g0Y:b0j Tryz.prog i0t=some L0i:=by kernel_rfl
theorem h0X:b0j Tryz.prog z0J=some L0j:=by kernel_rfl
theorem g0Z:b0j Tryz.prog l0S=some L0k:=by kernel_rfl
theorem c0k:b0j Tryz.prog z0K=some L0l:=by kernel_rfl
theorem s0c:b0j Tryz.prog z0L=some L0m:=by kernel_rfl
theorem m0j:b0j Tryz.prog z0M=some L0n:=by kernel_rfl
theorem d0m:b0j Tryz.prog K0l=some (f0z .all):=by kernel_rfl
theorem g0V:b0j Tryz.prog z0N=some L0o:=by kernel_rfl
theorem h0T:b0j Tryz.prog x0P=some L0p:=by kernel_rfl
theorem h0L:b0j Tryz.prog x0Q=some L0q:=by kernel_rfl
theorem y0y:b0j Tryz.prog x0R=some L0r:=by kernel_rfl
theorem B0a:b0j Tryz.prog t0k=some L0s:=by kernel_rfl
theorem A0Y:b0j Tryz.prog p0z=some L0t:=by kernel_rfl
theorem t0z:b0j Tryz.prog f0E=some L0u:=by kernel_rfl
theorem A0T:b0j Tryz.prog e0f=some L0v:=by kernel_rfl
theorem y0u:b0j Tryz.prog g0p=some L0w:=by kernel_rfl
theorem y0v:b0j Tryz.prog z0O=some L0x:=by kernel_rfl
theorem A0S:b0j Tryz.prog r0w=some L0y:=by kernel_rfl
theorem t0A:b0j Tryz.prog x0S=some L0z:=by kernel_rfl
end
end Go.Proofs.YtjlohmnnldbjoaaGreat.AI
