/- Part 20 of the proof. -/
import Derived.Test.YtgopfcmbofkmmaaGreatM12
set_option linter.unusedVariables false
set_option linter.unusedSimpArgs false
set_option linter.unusedSectionVars false
namespace Go.Proofs.YtgopfcmbofkmmaaGreat.AI
section
open Go
theorem e0i:a0o Tryz.prog G0H=some D1w:=by kernel_rfl
theorem h0i:a0o Tryz.prog y0D=some D1e:=by kernel_rfl
theorem f0m:a0o Tryz.prog G0z=some D1b:=by kernel_rfl
theorem h0X:a0o Tryz.prog q0V=some C1z:=by kernel_rfl
theorem e0M:a0o Tryz.prog G0n=some C1h:=by kernel_rfl
theorem x0p:a0o Tryz.prog J1f=some L1h:=by kernel_rfl
theorem b0U:a0o Tryz.prog J1r=some L1x:=by kernel_rfl
theorem h0j:a0o Tryz.prog G0C=some D1g:=by kernel_rfl
theorem d0Q:a0o Tryz.prog o0X=some C1y:=by kernel_rfl
theorem h0A:a0o Tryz.prog y0T=some E1s:=by kernel_rfl
theorem d0l:a0o Tryz.prog V0U=some C1B:=by kernel_rfl
theorem h0f:a0o Tryz.prog W0i=some D1i:=by kernel_rfl
theorem g0A:a0o Tryz.prog G0T=some E1r:=by kernel_rfl
theorem g0s:a0o Tryz.prog y0M=some D1z:=by kernel_rfl
theorem g0z:a0o Tryz.prog x0S=some L1q:=by kernel_rfl
theorem h0s:a0o Tryz.prog J1l=some L1n:=by kernel_rfl
theorem d0W:a0o Tryz.prog W0b=some C1K:=by kernel_rfl
theorem h0g:a0o Tryz.prog V0S=some C1s:=by kernel_rfl
theorem i0R:a0o Tryz.prog s0S=some E1e:=by kernel_rfl
theorem A0b:a0o Tryz.prog G0X=some E1C:=by kernel_rfl
theorem e0L:a0o Tryz.prog s0T=some E1f:=by kernel_rfl
theorem p0x:a0o Tryz.prog W0V=some E1L:=by kernel_rfl
theorem j0A:a0o Tryz.prog W0X=some E1N:=by kernel_rfl
theorem i0c:a0o Tryz.prog G1f=some L1v:=by kernel_rfl
theorem g0n:a0o Tryz.prog x0R=some L1c:=by kernel_rfl
theorem f0g:a0o Tryz.prog V0L=some C1c:=by kernel_rfl
theorem p0t:a0o Tryz.prog V0Y=some C1G:=by kernel_rfl
theorem e0f:a0o Tryz.prog J1o=some L1t:=by kernel_rfl
theorem e0j:a0o Tryz.prog s0R=some D1L:=by kernel_rfl
theorem d0y:a0o Tryz.prog q0Z=some D1j:=by kernel_rfl
theorem d0D:a0o Tryz.prog W0B=some D1S:=by kernel_rfl
theorem g0t:a0o Tryz.prog W0A=some D1R:=by kernel_rfl
theorem c0C:a0o Tryz.prog W0P=some E1A:=by kernel_rfl
theorem f0R:a0o Tryz.prog V0V=some C1C:=by kernel_rfl
theorem h0W:a0o Tryz.prog f_7=some s_7:=by kernel_rfl
theorem h0l:a0o Tryz.prog y0R=some D1P:=by kernel_rfl
theorem g0o:a0o Tryz.prog V0R=some C1o:=by kernel_rfl
theorem i0d:a0o Tryz.prog s0I=some C1k:=by kernel_rfl
theorem f0S:a0o Tryz.prog w0Q=some D1h:=by kernel_rfl
theorem c0r:a0o Tryz.prog W0U=some E1K:=by kernel_rfl
theorem g0p:a0o Tryz.prog J1m=some L1p:=by kernel_rfl
theorem g0Z:a0o Tryz.prog J1a=some L1d:=by kernel_rfl
theorem f0o:a0o Tryz.prog J1c=some L1f:=by kernel_rfl
theorem g0r:a0o Tryz.prog w0M=some C1x:=by kernel_rfl
theorem e0I:a0o Tryz.prog G0O=some E1d:=by kernel_rfl
theorem e0H:a0o Tryz.prog s0Q=some D1K:=by kernel_rfl
theorem j0z:a0o Tryz.prog y0U=some E1t:=by kernel_rfl
theorem f0n:a0o Tryz.prog i0J=some E1j:=by kernel_rfl
theorem f0Q:a0o Tryz.prog G0B=some D1f:=by kernel_rfl
theorem x0o:a0o Tryz.prog V0N=some C1f:=by kernel_rfl
theorem d0C:a0o Tryz.prog G0r=some C1v:=by kernel_rfl
theorem e0l:a0o Tryz.prog W0f=some C1T:=by kernel_rfl
theorem d0z:a0o Tryz.prog s0K=some C1A:=by kernel_rfl
theorem h0u:a0o Tryz.prog s0U=some E1h:=by kernel_rfl
theorem h0h:a0o Tryz.prog W0I=some E1i:=by kernel_rfl
theorem i0b:a0o Tryz.prog J1q=some L1w:=by kernel_rfl
theorem g0w:a0o Tryz.prog J1p=some L1u:=by kernel_rfl
