/- Part 19 of the proof. -/
import Derived.Test.YtgopfcmbofkmmaaGreatM12
set_option linter.unusedVariables false
set_option linter.unusedSimpArgs false
set_option linter.unusedSectionVars false
namespace Go.Proofs.YtgopfcmbofkmmaaGreat.AI
section
open Go
theorem e0n:a0o Tryz.prog y0V=some E1D:=by kernel_rfl
theorem r0B:a0o Tryz.prog J1u=some L1B:=by kernel_rfl
theorem p0w:a0o Tryz.prog J1i=some L1k:=by kernel_rfl
theorem m0J:a0o Tryz.prog W0l=some D1o:=by kernel_rfl
theorem g0Y:a0o Tryz.prog W0c=some C1L:=by kernel_rfl
theorem h0y:a0o Tryz.prog p0a=some C1W:=by kernel_rfl
theorem H0A:a0o Tryz.prog o0W=some C1d:=by kernel_rfl
theorem i0g:a0o Tryz.prog W0e=some C1Q:=by kernel_rfl
theorem t0q:a0o Tryz.prog J1e=some L1g:=by kernel_rfl
theorem h0w:a0o Tryz.prog s0O=some C1O:=by kernel_rfl
theorem p0u:a0o Tryz.prog J1s=some L1y:=by kernel_rfl
theorem e0K:a0o Tryz.prog o0Z=some C1S:=by kernel_rfl
theorem z0L:a0o Tryz.prog W0m=some D1p:=by kernel_rfl
theorem h0z:a0o Tryz.prog W0p=some D1t:=by kernel_rfl
theorem r0F:a0o Tryz.prog W0F=some E1a:=by kernel_rfl
theorem i0i:a0o Tryz.prog x0a=some E1g:=by kernel_rfl
theorem e0P:a0o Tryz.prog G0S=some E1p:=by kernel_rfl
theorem e0J:a0o Tryz.prog w0Z=some E1c:=by kernel_rfl
theorem g0C:a0o Tryz.prog y0C=some C1X:=by kernel_rfl
theorem e0N:a0o Tryz.prog W0o=some D1s:=by kernel_rfl
theorem e0k:a0o Tryz.prog W0y=some D1J:=by kernel_rfl
theorem c0M:a0o Tryz.prog W0O=some E1z:=by kernel_rfl
theorem h0m:a0o Tryz.prog u1m=some L1r:=by kernel_rfl
theorem h0p:a0o Tryz.prog G1e=some L1o:=by kernel_rfl
theorem h0x:a0o Tryz.prog G0y=some D1a:=by kernel_rfl
theorem i0Q:a0o Tryz.prog W0W=some E1M:=by kernel_rfl
theorem d0R:a0o Tryz.prog J1n=some L1s:=by kernel_rfl
theorem g0q:a0o Tryz.prog J1b=some L1e:=by kernel_rfl
theorem f0f:a0o Tryz.prog W0n=some D1q:=by kernel_rfl
theorem f0l:a0o Tryz.prog G0p=some C1p:=by kernel_rfl
theorem r0N:a0o Tryz.prog G0E=some D1m:=by kernel_rfl
theorem e0h:a0o Tryz.prog q0Y=some D1d:=by kernel_rfl
theorem f0e:a0o Tryz.prog y0S=some E1q:=by kernel_rfl
theorem h0k:a0o Tryz.prog G0L=some D1N:=by kernel_rfl
theorem h0Y:a0o Tryz.prog G0A=some D1c:=by kernel_rfl
theorem e0m:a0o Tryz.prog G0x=some C1V:=by kernel_rfl
theorem h0t:a0o Tryz.prog V0P=some C1i:=by kernel_rfl
theorem h0q:a0o Tryz.prog r0e=some D1x:=by kernel_rfl
theorem h0Z:a0o Tryz.prog n0D=some D1O:=by kernel_rfl
theorem t0o:a0o Tryz.prog J1v=some L1C:=by kernel_rfl
theorem H0z:a0o Tryz.prog V0M=some C1e:=by kernel_rfl
theorem x0n:a0o Tryz.prog W0a=some C1J:=by kernel_rfl
theorem d0A:a0o Tryz.prog G0q=some C1r:=by kernel_rfl
theorem g0E:a0o Tryz.prog V0Q=some C1m:=by kernel_rfl
theorem h0C:a0o Tryz.prog J1k=some L1m:=by kernel_rfl
theorem b0V:a0o Tryz.prog W0D=some D1Y:=by kernel_rfl
theorem i0h:a0o Tryz.prog W0z=some D1M:=by kernel_rfl
theorem h0r:a0o Tryz.prog q0U=some C1j:=by kernel_rfl
theorem i0f:a0o Tryz.prog s0V=some E1E:=by kernel_rfl
theorem h0B:a0o Tryz.prog G0G=some D1u:=by kernel_rfl
theorem f0b:a0o Tryz.prog s0J=some C1t:=by kernel_rfl
theorem i0j:a0o Tryz.prog W0h=some C1Z:=by kernel_rfl
theorem e0G:a0o Tryz.prog G0M=some D1Q:=by kernel_rfl
theorem e0g:a0o Tryz.prog G0I=some D1A:=by kernel_rfl
theorem x0m:a0o Tryz.prog G1h=some L1F:=by kernel_rfl
theorem j0y:a0o Tryz.prog y0w=some C1l:=by kernel_rfl
theorem d0B:a0o Tryz.prog n0C=some C1w:=by kernel_rfl
theorem d0S:a0o Tryz.prog W0q=some D1y:=by kernel_rfl
theorem e0Q:a0o Tryz.prog g0W=some C1R:=by kernel_rfl
theorem h0v:a0o Tryz.prog G0o=some C1n:=by kernel_rfl
