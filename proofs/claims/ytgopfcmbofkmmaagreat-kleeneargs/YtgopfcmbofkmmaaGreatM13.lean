/- Part 14 of the proof. -/
import Derived.Test.YtgopfcmbofkmmaaGreatChecked
import Derived.Test.YtgopfcmbofkmmaaGreatM06
set_option linter.unusedVariables false
set_option linter.unusedSimpArgs false
set_option linter.unusedSectionVars false
namespace Go.Proofs.YtgopfcmbofkmmaaGreat.AI
section
open Go
theorem e0F:a0o Tryz.prog f_5=some s_5:=by kernel_rfl
theorem z0N:a0o Tryz.prog m0q=some R0I:=by kernel_rfl
theorem z0U:a0o Tryz.prog y0Z=some R0Q:=by kernel_rfl
theorem z0T:a0o Tryz.prog n0E=some R0P:=by kernel_rfl
theorem H0B:a0o Tryz.prog j0P=some R0x:=by kernel_rfl
theorem H0C:a0o Tryz.prog x0c=some R0R:=by kernel_rfl
theorem z0Q:a0o Tryz.prog F0A=some G1O:=by kernel_rfl
theorem z0P:a0o Tryz.prog m0o=some R0w:=by kernel_rfl
theorem z0S:a0o Tryz.prog h0Q=some R0A:=by kernel_rfl
theorem x0y:a0o Tryz.prog X0a=some G1K:=by kernel_rfl
theorem z0Z:a0o Tryz.prog H0d=some G1G:=by kernel_rfl
theorem x0x:a0o Tryz.prog X0b=some G1M:=by kernel_rfl
theorem z0X:a0o Tryz.prog s0M=some R0r:=by kernel_rfl
theorem z0M:a0o Tryz.prog s0L=some R0q:=by kernel_rfl
theorem x0q:a0o Tryz.prog w0R=some R0z:=by kernel_rfl
theorem h0e:a0o Tryz.prog u1k=some G1A:=by kernel_rfl
theorem j0c:a0o Tryz.prog G1a=some K1v:=by kernel_rfl
theorem j0e:a0o Tryz.prog G1b=some K1w:=by kernel_rfl
theorem g0l:a0o Tryz.prog v1y=some G1B:=by kernel_rfl
theorem g0m:a0o Tryz.prog v1z=some G1C:=by kernel_rfl
theorem g0u:a0o Tryz.prog v1A=some G1D:=by kernel_rfl
theorem g0v:a0o Tryz.prog v1C=some G1E:=by kernel_rfl
theorem j0d:a0o Tryz.prog W0E=some D1Z:=by kernel_rfl
theorem e0q:a0o Tryz.prog V0T=some C1u:=by kernel_rfl
theorem d0r:a0o Tryz.prog u1l=some K1x:=by kernel_rfl
theorem t0r:a0o Tryz.prog g0b=some R0u:=by kernel_rfl
theorem z0W:a0o Tryz.prog d0x=some R0s:=by kernel_rfl
theorem x0v:a0o Tryz.prog y0Q=some R0N:=by kernel_rfl
theorem x0u:a0o Tryz.prog g0c=some R0v:=by kernel_rfl
theorem z0V:a0o Tryz.prog q0W=some R0t:=by kernel_rfl
theorem t0s:a0o Tryz.prog w0W=some R0O:=by kernel_rfl
theorem l0A:a0o Tryz.prog g0d=some R0G:=by kernel_rfl
