/- Part 12 of the proof. -/
import Derived.Test.YtacninhfdfhgjaaGreatChecked
import Derived.Test.YtacninhfdfhgjaaGreatM03
set_option linter.unusedVariables false
set_option linter.unusedSimpArgs false
set_option linter.unusedSectionVars false
namespace Go.Proofs.YtacninhfdfhgjaaGreat.AI
section
open Go
theorem c0d:a0W Tryz.prog I0I=some N0f:=by kernel_rfl
theorem m0M:a0W Tryz.prog l0s=some M0X:=by kernel_rfl
theorem p0F:a0W Tryz.prog l0t=some M0Z:=by kernel_rfl
theorem r0p:a0W Tryz.prog F0H=some N0g:=by kernel_rfl
theorem w0S:a0W Tryz.prog I0J=some N0h:=by kernel_rfl
theorem r0v:a0W Tryz.prog h0X=some M0V:=by kernel_rfl
theorem r0u:a0W Tryz.prog x0W=some M0W:=by kernel_rfl
theorem c0e:a0W Tryz.prog I0A=some M0M:=by kernel_rfl
theorem r0m:a0W Tryz.prog I0q=some M0q:=by kernel_rfl
theorem f0b:a0W Tryz.prog i0C=some x0d:=by kernel_rfl
theorem e0u:a0W Tryz.prog q0v=some x0e:=by kernel_rfl
theorem i0a:a0W Tryz.prog k0p=some M0Y:=by kernel_rfl
theorem p0G:a0W Tryz.prog q0x=some x0g:=by kernel_rfl
theorem m0N:a0W Tryz.prog p0u=some x0h:=by kernel_rfl
theorem r0z:a0W Tryz.prog q0w=some x0f:=by kernel_rfl
theorem f0c:a0W Tryz.prog i0D=some x0l:=by kernel_rfl
theorem e0v:a0W Tryz.prog q0B=some x0m:=by kernel_rfl
theorem f0J:a0W Tryz.prog q0D=some x0o:=by kernel_rfl
theorem f0G:a0W Tryz.prog q0C=some x0n:=by kernel_rfl
theorem c0f:a0W Tryz.prog I0H=some N0e:=by kernel_rfl
theorem c0I:a0W Tryz.prog q0A=some x0k:=by kernel_rfl
theorem m0O:a0W Tryz.prog q0E=some x0p:=by kernel_rfl
theorem l0X:a0W Tryz.prog q0F=some x0q:=by kernel_rfl
theorem i0S:a0W Tryz.prog q0y=some x0i:=by kernel_rfl
theorem g0F:a0W Tryz.prog q0z=some x0j:=by kernel_rfl
theorem p0C:a0W Tryz.prog I0B=some M0N:=by kernel_rfl
theorem f0I:a0W Tryz.prog m0C=some p0Q:=by kernel_rfl
theorem e0K:a0W Tryz.prog q0G=some x0r:=by kernel_rfl
theorem f0K:a0W Tryz.prog l0J=some x0s:=by kernel_rfl
theorem r0t:a0W Tryz.prog q0H=some x0t:=by kernel_rfl
theorem f0F:a0W Tryz.prog q0J=some x0v:=by kernel_rfl
theorem f0A:a0W Tryz.prog q0I=some x0u:=by kernel_rfl
theorem k0J:a0W Tryz.prog p0v=some x0w:=by kernel_rfl
theorem p0H:a0W Tryz.prog q0K=some x0x:=by kernel_rfl
theorem p0E:a0W Tryz.prog q0L=some x0y:=by kernel_rfl
theorem p0D:a0W Tryz.prog q0M=some x0z:=by kernel_rfl
theorem f0H:a0W Tryz.prog q0N=some x0A:=by kernel_rfl
end
end Go.Proofs.YtacninhfdfhgjaaGreat.AI
