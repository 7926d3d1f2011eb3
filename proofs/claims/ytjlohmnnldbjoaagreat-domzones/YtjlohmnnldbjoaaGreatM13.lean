/- Part 14 of the proof: AiTab0. -/
import Derived.Test.YtjlohmnnldbjoaaGreatChecked
import Derived.Test.YtjlohmnnldbjoaaGreatM04
set_option linter.unusedVariables false
set_option linter.unusedSimpArgs false
set_option linter.unusedSectionVars false
namespace Go.Proofs.YtjlohmnnldbjoaaGreat.AI
section
open Go
theorem e0P:b0j Tryz.prog f_3=some s_3:=by kernel_rfl
theorem g0s:b0j Tryz.prog X0j=some Z0N:=by kernel_rfl
theorem g0X:b0j Tryz.prog x0O=some Z0O:=by kernel_rfl
theorem g0v:b0j Tryz.prog K0m=some Z0P:=by kernel_rfl
theorem t0x:b0j Tryz.prog V0A=some Z0Q:=by kernel_rfl
theorem f0h:b0j Tryz.prog X0k=some Z0R:=by kernel_rfl
theorem h0K:b0j Tryz.prog V0B=some Z0S:=by kernel_rfl
theorem g0u:b0j Tryz.prog X0l=some Z0T:=by kernel_rfl
theorem p0U:b0j Tryz.prog X0n=some Z0V:=by kernel_rfl
theorem f0u:b0j Tryz.prog X0o=some Z0W:=by kernel_rfl
theorem g0r:b0j Tryz.prog X0p=some Z0X:=by kernel_rfl
theorem e0Q:b0j Tryz.prog T0S=some Z0Y:=by kernel_rfl
theorem t0y:b0j Tryz.prog V0C=some Z0Z:=by kernel_rfl
theorem f0O:b0j Tryz.prog V0D=some a1a:=by kernel_rfl
theorem g0T:b0j Tryz.prog T0T=some a1b:=by kernel_rfl
theorem g0S:b0j Tryz.prog V0E=some a1c:=by kernel_rfl
theorem f0Q:b0j Tryz.prog K0n=some a1d:=by kernel_rfl
theorem i0y:b0j Tryz.prog T0U=some a1e:=by kernel_rfl
theorem m0g:b0j Tryz.prog X0q=some a1f:=by kernel_rfl
theorem g0t:b0j Tryz.prog X0r=some a1g:=by kernel_rfl
theorem g0w:b0j Tryz.prog V0F=some a1h:=by kernel_rfl
theorem g0y:b0j Tryz.prog V0G=some a1i:=by kernel_rfl
theorem f0U:b0j Tryz.prog V0H=some a1j:=by kernel_rfl
theorem h0O:b0j Tryz.prog K0o=some a1k:=by kernel_rfl
theorem g0W:b0j Tryz.prog X0s=some a1l:=by kernel_rfl
theorem g0x:b0j Tryz.prog V0I=some a1m:=by kernel_rfl
theorem y0p:b0j Tryz.prog X0t=some a1n:=by kernel_rfl
theorem A0I:b0j Tryz.prog V0J=some a1o:=by kernel_rfl
theorem A0U:b0j Tryz.prog z0a=some a1p:=by kernel_rfl
theorem f0N:b0j Tryz.prog X0u=some a1q:=by kernel_rfl
theorem f0R:b0j Tryz.prog V0K=some a1r:=by kernel_rfl
theorem f0v:b0j Tryz.prog V0L=some a1s:=by kernel_rfl
theorem q0a:b0j Tryz.prog X0v=some a1t:=by kernel_rfl
theorem c0O:b0j Tryz.prog V0M=some a1u:=by kernel_rfl
theorem p0V:b0j Tryz.prog X0w=some a1v:=by kernel_rfl
theorem A0J:b0j Tryz.prog X0x=some a1w:=by kernel_rfl
end
end Go.Proofs.YtjlohmnnldbjoaaGreat.AI
