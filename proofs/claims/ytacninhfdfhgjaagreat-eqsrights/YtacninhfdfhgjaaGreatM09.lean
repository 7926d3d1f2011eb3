/- Part 10 of the proof. -/
import Derived.Test.YtacninhfdfhgjaaGreatChecked
import Derived.Test.YtacninhfdfhgjaaGreatM03
set_option linter.unusedVariables false
set_option linter.unusedSimpArgs false
set_option linter.unusedSectionVars false
namespace Go.Proofs.YtacninhfdfhgjaaGreat.AI
section
open Go
theorem d0s:a0W Tryz.prog f_3=some s_3:=by kernel_rfl
theorem e0k:a0W Tryz.prog f_4=some s_4:=by kernel_rfl
theorem e0H:a0W Tryz.prog f_5=some s_5:=by kernel_rfl
theorem e0m:a0W Tryz.prog f_6=some s_6:=by kernel_rfl
theorem e0l:a0W Tryz.prog f_7=some s_7:=by kernel_rfl
theorem m0L:a0W Tryz.prog f_8=some s_8:=by kernel_rfl
theorem e0W:a0W Tryz.prog f_9=some s_9:=by kernel_rfl
theorem m0J:a0W Tryz.prog G0P=some L0H:=by kernel_rfl
theorem e0o:a0W Tryz.prog H0U=some L0I:=by kernel_rfl
theorem d0G:a0W Tryz.prog H0T=some K0S:=by kernel_rfl
theorem l0U:a0W Tryz.prog F0x=some L0J:=by kernel_rfl
theorem d0S:a0W Tryz.prog G0Q=some L0K:=by kernel_rfl
theorem e0E:a0W Tryz.prog F0y=some L0L:=by kernel_rfl
theorem e0G:a0W Tryz.prog G0R=some L0M:=by kernel_rfl
theorem d0u:a0W Tryz.prog G0S=some L0N:=by kernel_rfl
theorem F0O:a0W Tryz.prog H0V=some L0O:=by kernel_rfl
theorem f0z:a0W Tryz.prog H0W=some L0P:=by kernel_rfl
theorem k0I:a0W Tryz.prog H0X=some L0Q:=by kernel_rfl
theorem k0K:a0W Tryz.prog G0T=some L0R:=by kernel_rfl
theorem k0H:a0W Tryz.prog H0Z=some L0T:=by kernel_rfl
theorem b0C:a0W Tryz.prog H0Y=some L0S:=by kernel_rfl
theorem e0n:a0W Tryz.prog I0b=some L0V:=by kernel_rfl
theorem e0p:a0W Tryz.prog G0U=some L0W:=by kernel_rfl
theorem d0Q:a0W Tryz.prog I0c=some L0X:=by kernel_rfl
theorem w0R:a0W Tryz.prog I0d=some L0Y:=by kernel_rfl
theorem b0P:a0W Tryz.prog I0e=some L0Z:=by kernel_rfl
theorem k0G:a0W Tryz.prog I0f=some M0a:=by kernel_rfl
theorem e0J:a0W Tryz.prog G0V=some M0c:=by kernel_rfl
theorem f0a:a0W Tryz.prog I0h=some M0d:=by kernel_rfl
theorem d0T:a0W Tryz.prog I0i=some M0e:=by kernel_rfl
theorem e0F:a0W Tryz.prog F0z=some M0f:=by kernel_rfl
theorem e0q:a0W Tryz.prog I0j=some M0g:=by kernel_rfl
theorem e0Y:a0W Tryz.prog G0W=some M0h:=by kernel_rfl
theorem e0X:a0W Tryz.prog I0k=some M0i:=by kernel_rfl
theorem p0B:a0W Tryz.prog I0l=some M0j:=by kernel_rfl
theorem r0l:a0W Tryz.prog I0m=some M0k:=by kernel_rfl
theorem i0Q:a0W Tryz.prog F0A=some K0T:=by kernel_rfl
theorem i0R:a0W Tryz.prog F0B=some K0U:=by kernel_rfl
theorem l0W:a0W Tryz.prog F0C=some M0l:=by kernel_rfl
theorem r0y:a0W Tryz.prog F0D=some M0m:=by kernel_rfl
end
end Go.Proofs.YtacninhfdfhgjaaGreat.AI
