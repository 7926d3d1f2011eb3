/- Part 18 of the proof. -/
import Derived.Test.YtgopfcmbofkmmaaGreatM12
set_option linter.unusedVariables false
set_option linter.unusedSimpArgs false
set_option linter.unusedSectionVars false
namespace Go.Proofs.YtgopfcmbofkmmaaGreat.AI
section
open Go
theorem c0p:a0o Tryz.prog G0Y=some E1I:=by kernel_rfl
theorem p0z:a0o Tryz.prog G0P=some E1m:=by kernel_rfl
theorem d0m:a0o Tryz.prog W0M=some E1u:=by kernel_rfl
theorem c0D:a0o Tryz.prog G0U=some E1v:=by kernel_rfl
theorem d0a:a0o Tryz.prog W0R=some E1F:=by kernel_rfl
theorem f0p:a0o Tryz.prog h0R=some D1r:=by kernel_rfl
theorem l0C:a0o Tryz.prog H0c=some E1U:=by kernel_rfl
theorem k0e:a0o Tryz.prog H0a=some E1S:=by kernel_rfl
theorem c0J:a0o Tryz.prog W0j=some D1k:=by kernel_rfl
theorem m0K:a0o Tryz.prog H0b=some E1T:=by kernel_rfl
theorem l0B:a0o Tryz.prog r0f=some E1Q:=by kernel_rfl
theorem g0F:a0o Tryz.prog W0g=some C1Y:=by kernel_rfl
theorem r0M:a0o Tryz.prog W0v=some D1G:=by kernel_rfl
theorem m0M:a0o Tryz.prog W0G=some E1b:=by kernel_rfl
theorem A0a:a0o Tryz.prog w0Y=some D1X:=by kernel_rfl
theorem d0c:a0o Tryz.prog G0N=some D1V:=by kernel_rfl
theorem d0b:a0o Tryz.prog G0R=some E1o:=by kernel_rfl
theorem r0K:a0o Tryz.prog W0t=some D1E:=by kernel_rfl
theorem p0A:a0o Tryz.prog G0D=some D1l:=by kernel_rfl
theorem t0n:a0o Tryz.prog G1g=some L1z:=by kernel_rfl
theorem c0o:a0o Tryz.prog G0V=some E1w:=by kernel_rfl
theorem c0q:a0o Tryz.prog G0W=some E1y:=by kernel_rfl
theorem i0P:a0o Tryz.prog V0O=some C1g:=by kernel_rfl
theorem m0L:a0o Tryz.prog G0Q=some E1n:=by kernel_rfl
theorem i0e:a0o Tryz.prog r0d=some D1v:=by kernel_rfl
theorem c0i:a0o Tryz.prog W0T=some E1H:=by kernel_rfl
theorem k0d:a0o Tryz.prog s0X=some E1R:=by kernel_rfl
theorem c0s:a0o Tryz.prog y0W=some E1J:=by kernel_rfl
theorem t0v:a0o Tryz.prog V0Z=some C1H:=by kernel_rfl
theorem m0N:a0o Tryz.prog W0k=some D1n:=by kernel_rfl
theorem f0F:a0o Tryz.prog G0t=some C1I:=by kernel_rfl
theorem p0s:a0o Tryz.prog V0X=some C1F:=by kernel_rfl
theorem c0B:a0o Tryz.prog W0N=some E1x:=by kernel_rfl
theorem i0L:a0o Tryz.prog J1t=some L1A:=by kernel_rfl
theorem n0L:a0o Tryz.prog W0C=some D1T:=by kernel_rfl
theorem p0B:a0o Tryz.prog W0s=some D1D:=by kernel_rfl
theorem g0B:a0o Tryz.prog o0Y=some C1N:=by kernel_rfl
theorem g0D:a0o Tryz.prog y0x=some C1q:=by kernel_rfl
theorem z0Y:a0o Tryz.prog W0Q=some E1B:=by kernel_rfl
theorem x0r:a0o Tryz.prog W0w=some D1H:=by kernel_rfl
theorem r0A:a0o Tryz.prog F1Z=some L1b:=by kernel_rfl
theorem d0n:a0o Tryz.prog W0J=some E1k:=by kernel_rfl
theorem c0w:a0o Tryz.prog G0s=some C1E:=by kernel_rfl
theorem i0O:a0o Tryz.prog y0B=some C1P:=by kernel_rfl
theorem t0u:a0o Tryz.prog J1x=some L1E:=by kernel_rfl
theorem n0K:a0o Tryz.prog W0u=some D1F:=by kernel_rfl
theorem r0L:a0o Tryz.prog G0J=some D1B:=by kernel_rfl
theorem c0v:a0o Tryz.prog W0S=some E1G:=by kernel_rfl
theorem e0O:a0o Tryz.prog f0k=some C1U:=by kernel_rfl
theorem z0K:a0o Tryz.prog J1g=some L1i:=by kernel_rfl
theorem i0k:a0o Tryz.prog J1j=some L1l:=by kernel_rfl
theorem c0f:a0o Tryz.prog V0W=some C1D:=by kernel_rfl
theorem t0p:a0o Tryz.prog J1w=some L1D:=by kernel_rfl
theorem c0g:a0o Tryz.prog W0K=some E1l:=by kernel_rfl
theorem p0C:a0o Tryz.prog w0X=some D1W:=by kernel_rfl
theorem n0M:a0o Tryz.prog W0r=some D1C:=by kernel_rfl
theorem H0D:a0o Tryz.prog l0x=some D1U:=by kernel_rfl
theorem k0F:a0o Tryz.prog s0W=some E1O:=by kernel_rfl
theorem k0G:a0o Tryz.prog G0Z=some E1P:=by kernel_rfl
theorem p0y:a0o Tryz.prog W0x=some D1I:=by kernel_rfl
