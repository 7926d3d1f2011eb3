/- Part 11 of the proof. -/
import Derived.Test.YtacninhfdfhgjaaGreatChecked
import Derived.Test.YtacninhfdfhgjaaGreatM03
set_option linter.unusedVariables false
set_option linter.unusedSimpArgs false
set_option linter.unusedSectionVars false
namespace Go.Proofs.YtacninhfdfhgjaaGreat.AI
section
open Go
theorem m0I:a0W Tryz.prog I0a=some L0U:=by kernel_rfl
theorem b0I:a0W Tryz.prog I0n=some M0n:=by kernel_rfl
theorem e0I:a0W Tryz.prog F0E=some M0r:=by kernel_rfl
theorem e0t:a0W Tryz.prog F0F=some M0s:=by kernel_rfl
theorem e0s:a0W Tryz.prog I0r=some M0t:=by kernel_rfl
theorem r0w:a0W Tryz.prog I0s=some M0u:=by kernel_rfl
theorem c0g:a0W Tryz.prog I0t=some M0v:=by kernel_rfl
theorem r0x:a0W Tryz.prog I0g=some M0b:=by kernel_rfl
theorem g0g:a0W Tryz.prog F0G=some M0z:=by kernel_rfl
theorem e0r:a0W Tryz.prog I0u=some M0A:=by kernel_rfl
theorem e0Z:a0W Tryz.prog G0X=some M0B:=by kernel_rfl
theorem f0y:a0W Tryz.prog I0v=some M0C:=by kernel_rfl
theorem l0V:a0W Tryz.prog O0B=some O0T:=by kernel_rfl
theorem m0K:a0W Tryz.prog O0C=some O0U:=by kernel_rfl
theorem j0B:a0W Tryz.prog v0X=some K0V:=by kernel_rfl
theorem j0C:a0W Tryz.prog I0z=some M0H:=by kernel_rfl
theorem b0M:a0W Tryz.prog I0y=some M0G:=by kernel_rfl
theorem p0J:a0W Tryz.prog G0Y=some M0I:=by kernel_rfl
theorem r0r:a0W Tryz.prog v0Y=some M0F:=by kernel_rfl
theorem p0I:a0W Tryz.prog G0Z=some M0J:=by kernel_rfl
theorem r0q:a0W Tryz.prog H0a=some M0K:=by kernel_rfl
theorem r0A:a0W Tryz.prog H0b=some M0L:=by kernel_rfl
theorem r0o:a0W Tryz.prog x0V=some M0x:=by kernel_rfl
theorem b0N:a0W Tryz.prog I0o=some M0o:=by kernel_rfl
theorem k0F:a0W Tryz.prog I0p=some M0p:=by kernel_rfl
theorem f0D:a0W Tryz.prog w0A=some M0O:=by kernel_rfl
theorem e0V:a0W Tryz.prog H0c=some M0P:=by kernel_rfl
theorem f0C:a0W Tryz.prog I0C=some M0Q:=by kernel_rfl
theorem f0d:a0W Tryz.prog I0D=some M0R:=by kernel_rfl
theorem m0Q:a0W Tryz.prog x0U=some M0w:=by kernel_rfl
theorem r0s:a0W Tryz.prog w0z=some M0y:=by kernel_rfl
theorem g0G:a0W Tryz.prog I0F=some M0T:=by kernel_rfl
theorem r0n:a0W Tryz.prog w0B=some M0U:=by kernel_rfl
theorem m0P:a0W Tryz.prog I0E=some M0S:=by kernel_rfl
theorem g0h:a0W Tryz.prog p0w=some N0a:=by kernel_rfl
theorem d0R:a0W Tryz.prog H0d=some N0b:=by kernel_rfl
theorem f0E:a0W Tryz.prog H0e=some N0d:=by kernel_rfl
theorem f0B:a0W Tryz.prog I0G=some N0c:=by kernel_rfl
theorem b0O:a0W Tryz.prog I0w=some M0D:=by kernel_rfl
theorem h0Z:a0W Tryz.prog I0x=some M0E:=by kernel_rfl
end
end Go.Proofs.YtacninhfdfhgjaaGreat.AI
