/- Part 16 of the proof. -/
import Derived.Test.YtgopfcmbofkmmaaGreatChecked
import Derived.Test.YtgopfcmbofkmmaaGreatM06
set_option linter.unusedVariables false
set_option linter.unusedSimpArgs false
set_option linter.unusedSectionVars false
namespace Go.Proofs.YtgopfcmbofkmmaaGreat.AI
section
open Go
theorem i0a:a0o Tryz.prog u1n=some G1R:=by kernel_rfl
theorem i0l:a0o Tryz.prog S0o=some u1v:=by kernel_rfl
theorem i0m:a0o Tryz.prog S0p=some u1w:=by kernel_rfl
theorem l0i:a0o Tryz.prog S0q=some F1a:=by kernel_rfl
theorem e0t:a0o Tryz.prog q0T=some t1p:=by kernel_rfl
theorem d0U:a0o Tryz.prog l0v=some E0K:=by kernel_rfl
theorem g0y:a0o Tryz.prog y0z=some R0y:=by kernel_rfl
theorem m0F:a0o Tryz.prog q0X=some t1r:=by kernel_rfl
theorem f0A:a0o Tryz.prog y0A=some t1s:=by kernel_rfl
theorem m0D:a0o Tryz.prog G0u=some t1t:=by kernel_rfl
theorem r0H:a0o Tryz.prog j0t=some t1u:=by kernel_rfl
theorem m0E:a0o Tryz.prog G0v=some t1v:=by kernel_rfl
theorem d0V:a0o Tryz.prog l0w=some E0L:=by kernel_rfl
theorem d0T:a0o Tryz.prog y0y=some t1q:=by kernel_rfl
theorem j0f:a0o Tryz.prog m0p=some x0E:=by kernel_rfl
theorem j0g:a0o Tryz.prog w0P=some E0P:=by kernel_rfl
theorem b0o:a0o Tryz.prog s0N=some E0O:=by kernel_rfl
theorem e0x:a0o Tryz.prog G0w=some t1w:=by kernel_rfl
theorem i0N:a0o Tryz.prog W0d=some C1M:=by kernel_rfl
theorem e0w:a0o Tryz.prog r0a=some u0F:=by kernel_rfl
theorem h0o:a0o Tryz.prog y0J=some R0H:=by kernel_rfl
theorem e0y:a0o Tryz.prog r0b=some E0R:=by kernel_rfl
theorem f0B:a0o Tryz.prog G0F=some t1y:=by kernel_rfl
theorem m0H:a0o Tryz.prog y0K=some t1x:=by kernel_rfl
theorem b0p:a0o Tryz.prog w0N=some E0M:=by kernel_rfl
theorem g0S:a0o Tryz.prog w0O=some E0N:=by kernel_rfl
theorem b0z:a0o Tryz.prog w0T=some E0T:=by kernel_rfl
theorem e0u:a0o Tryz.prog y0L=some t1A:=by kernel_rfl
theorem e0r:a0o Tryz.prog r0c=some t1z:=by kernel_rfl
theorem r0I:a0o Tryz.prog s0P=some t1B:=by kernel_rfl
theorem b0A:a0o Tryz.prog w0S=some E0S:=by kernel_rfl
theorem e0v:a0o Tryz.prog G0K=some t1C:=by kernel_rfl
