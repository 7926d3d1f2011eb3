/- Part 15 of the proof: AiTab1. -/
import Derived.Test.YtjlohmnnldbjoaaGreatChecked
import Derived.Test.YtjlohmnnldbjoaaGreatM04
set_option linter.unusedVariables false
set_option linter.unusedSimpArgs false
set_option linter.unusedSectionVars false
namespace Go.Proofs.YtjlohmnnldbjoaaGreat.AI
section
open Go
theorem f0G:b0f Tryz.prog v0Y=some c1g:=by kernel_rfl
theorem i0d:b0f Tryz.prog Y0S=some c1h:=by kernel_rfl
theorem i0i:b0f Tryz.prog A0z=some c1i:=by kernel_rfl
theorem i0V:b0f Tryz.prog t0C=some c1j:=by kernel_rfl
theorem y0F:b0f Tryz.prog Y0T=some c1k:=by kernel_rfl
theorem q0i:b0f Tryz.prog Y0U=some c1l:=by kernel_rfl
theorem f0t:b0f Tryz.prog X0l=some c1m:=by kernel_rfl
theorem h0h:b0f Tryz.prog Y0V=some c1n:=by kernel_rfl
theorem g0i:b0f Tryz.prog N0N=some c1o:=by kernel_rfl
theorem g0b:b0f Tryz.prog X0m=some c1p:=by kernel_rfl
theorem g0f:b0f Tryz.prog X0n=some c1q:=by kernel_rfl
theorem s0h:b0f Tryz.prog Y0W=some c1r:=by kernel_rfl
theorem t0S:b0f Tryz.prog y0u=some c1s:=by kernel_rfl
theorem t0R:b0f Tryz.prog X0o=some c1t:=by kernel_rfl
theorem j0z:b0f Tryz.prog Y0X=some c1u:=by kernel_rfl
theorem B0f:b0f Tryz.prog K0s=some c1v:=by kernel_rfl
theorem B0k:b0f Tryz.prog p0M=some c1w:=by kernel_rfl
theorem L0z:b0f Tryz.prog z0u=some c1x:=by kernel_rfl
theorem B0t:b0f Tryz.prog V0l=some c1y:=by kernel_rfl
theorem t0N:b0f Tryz.prog X0p=some c1z:=by kernel_rfl
theorem B0q:b0f Tryz.prog Y0Y=some c1A:=by kernel_rfl
theorem g0e:b0f Tryz.prog V0m=some c1B:=by kernel_rfl
theorem h0n:b0f Tryz.prog Y0Z=some c1C:=by kernel_rfl
theorem B0s:b0f Tryz.prog V0n=some c1D:=by kernel_rfl
theorem d0j:b0f Tryz.prog Z0a=some c1E:=by kernel_rfl
theorem y0E:b0f Tryz.prog Z0b=some c1F:=by kernel_rfl
theorem i0l:b0f Tryz.prog A0c=some L0Z:=by kernel_rfl
theorem h0l:b0f Tryz.prog i0Q=some M0a:=by kernel_rfl
theorem i0o:b0f Tryz.prog A0d=some M0b:=by kernel_rfl
theorem h0m:b0f Tryz.prog m0e=some M0c:=by kernel_rfl
theorem c0m:b0f Tryz.prog A0e=some M0d:=by kernel_rfl
theorem s0i:b0f Tryz.prog A0f=some M0e:=by kernel_rfl
theorem m0x:b0f Tryz.prog A0h=some M0f:=by kernel_rfl
theorem d0s:b0f Tryz.prog K0Y=some (f0J .all):=by kernel_rfl
theorem h0i:b0f Tryz.prog A0i=some M0g:=by kernel_rfl
theorem i0k:b0f Tryz.prog y0d=some M0h:=by kernel_rfl
theorem i0c:b0f Tryz.prog y0e=some M0i:=by kernel_rfl
theorem y0M:b0f Tryz.prog y0f=some M0j:=by kernel_rfl
theorem B0w:b0f Tryz.prog t0v=some M0k:=by kernel_rfl
theorem B0u:b0f Tryz.prog p0J=some M0l:=by kernel_rfl
theorem t0O:b0f Tryz.prog f0O=some M0m:=by kernel_rfl
theorem B0o:b0f Tryz.prog e0j=some M0n:=by kernel_rfl
theorem y0I:b0f Tryz.prog g0z=some M0o:=by kernel_rfl
theorem y0J:b0f Tryz.prog A0j=some M0p:=by kernel_rfl
theorem B0n:b0f Tryz.prog r0D=some M0q:=by kernel_rfl
theorem t0P:b0f Tryz.prog y0g=some M0r:=by kernel_rfl
end
end Go.Proofs.YtjlohmnnldbjoaaGreat.AI
