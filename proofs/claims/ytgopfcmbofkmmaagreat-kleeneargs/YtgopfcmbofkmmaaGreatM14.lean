/- Part 15 of the proof. -/
import Derived.Test.YtgopfcmbofkmmaaGreatChecked
import Derived.Test.YtgopfcmbofkmmaaGreatM06
set_option linter.unusedVariables false
set_option linter.unusedSimpArgs false
set_option linter.unusedSectionVars false
namespace Go.Proofs.YtgopfcmbofkmmaaGreat.AI
section
open Go
theorem t0t:a0o Tryz.prog y0H=some R0E:=by kernel_rfl
theorem r0G:a0o Tryz.prog y0I=some R0F:=by kernel_rfl
theorem z0R:a0o Tryz.prog z0a=some G1L:=by kernel_rfl
theorem r0J:a0o Tryz.prog S0n=some E1X:=by kernel_rfl
theorem z0O:a0o Tryz.prog F0z=some G1N:=by kernel_rfl
theorem m0I:a0o Tryz.prog j0Q=some E0Q:=by kernel_rfl
theorem h0d:a0o Tryz.prog v1H=some G1F:=by kernel_rfl
theorem g0Q:a0o Tryz.prog G1c=some K1z:=by kernel_rfl
theorem b0q:a0o Tryz.prog v1I=some K1A:=by kernel_rfl
theorem l0z:a0o Tryz.prog J1h=some L1j:=by kernel_rfl
theorem g0x:a0o Tryz.prog v1J=some G1H:=by kernel_rfl
theorem g0R:a0o Tryz.prog G1d=some K1B:=by kernel_rfl
theorem c0Y:a0o Tryz.prog v1G=some K1y:=by kernel_rfl
theorem h0b:a0o Tryz.prog W0Y=some G1I:=by kernel_rfl
theorem h0n:a0o Tryz.prog W0Z=some G1J:=by kernel_rfl
theorem k0b:a0o Tryz.prog S0l=some E1V:=by kernel_rfl
theorem k0f:a0o Tryz.prog S0m=some E1W:=by kernel_rfl
theorem f0c:a0o Tryz.prog s0Y=some K1C:=by kernel_rfl
theorem d0E:a0o Tryz.prog y0G=some R0D:=by kernel_rfl
theorem m0G:a0o Tryz.prog y0E=some R0B:=by kernel_rfl
theorem k0c:a0o Tryz.prog y0F=some R0C:=by kernel_rfl
theorem p0v:a0o Tryz.prog w0V=some R0J:=by kernel_rfl
theorem x0w:a0o Tryz.prog y0N=some R0K:=by kernel_rfl
theorem x0t:a0o Tryz.prog y0O=some R0L:=by kernel_rfl
theorem x0s:a0o Tryz.prog y0P=some R0M:=by kernel_rfl
theorem b0B:a0o Tryz.prog G1j=some K1E:=by kernel_rfl
theorem i0M:a0o Tryz.prog v1K=some G1P:=by kernel_rfl
theorem e0s:a0o Tryz.prog F0B=some E1Y:=by kernel_rfl
theorem r0C:a0o Tryz.prog z0b=some K1F:=by kernel_rfl
theorem r0D:a0o Tryz.prog v1L=some K1G:=by kernel_rfl
theorem v0w:a0o Tryz.prog H0e=some K1H:=by kernel_rfl
theorem r0E:a0o Tryz.prog v1M=some K1I:=by kernel_rfl
theorem f0d:a0o Tryz.prog x0T=some E1Z:=by kernel_rfl
theorem c0Z:a0o Tryz.prog G1i=some K1D:=by kernel_rfl
theorem h0c:a0o Tryz.prog X0c=some G1Q:=by kernel_rfl
