/- Part 14 of the proof: AiTab1. -/
import Derived.Test.YtjlohmnnldbjoaaGreatChecked
import Derived.Test.YtjlohmnnldbjoaaGreatM03
set_option linter.unusedVariables false
set_option linter.unusedSimpArgs false
set_option linter.unusedSectionVars false
/- The small code is the program's: printed. -/
namespace Go.Proofs.YtjlohmnnldbjoaaGreat.AI
section
open Go
theorem g0W:b0s Tryz.prog Q0P=some T0m:=by kernel_rfl
theorem u0L:b0s Tryz.prog Q0Q=some T0n:=by kernel_rfl
theorem m0v:b0s Tryz.prog Q0R=some T0o:=by kernel_rfl
theorem o0n:b0s Tryz.prog Q0S=some T0p:=by kernel_rfl
theorem p0A:b0s Tryz.prog u0y=some T0q:=by kernel_rfl
theorem p0z:b0s Tryz.prog P0z=some T0r:=by kernel_rfl
theorem h0z:b0s Tryz.prog Q0T=some T0s:=by kernel_rfl
theorem w0S:b0s Tryz.prog F0E=some T0t:=by kernel_rfl
theorem w0X:b0s Tryz.prog l0X=some T0u:=by kernel_rfl
theorem G0s:b0s Tryz.prog l0Y=some T0v:=by kernel_rfl
theorem x0g:b0s Tryz.prog G0a=some T0w:=by kernel_rfl
theorem p0v:b0s Tryz.prog P0A=some T0x:=by kernel_rfl
theorem x0d:b0s Tryz.prog Q0U=some T0y:=by kernel_rfl
theorem x0f:b0s Tryz.prog N0o=some T0z:=by kernel_rfl
theorem c0Y:b0s Tryz.prog Q0V=some T0A:=by kernel_rfl
theorem u0K:b0s Tryz.prog Q0W=some T0B:=by kernel_rfl
theorem g0b:b0s Tryz.prog u0e=some H0p:=by kernel_rfl
theorem c0a:b0s Tryz.prog v0R=some H0q:=by kernel_rfl
theorem o0o:b0s Tryz.prog v0S=some H0r:=by kernel_rfl
theorem k0e:b0s Tryz.prog v0T=some H0s:=by kernel_rfl
theorem d0f:b0s Tryz.prog u0f=some H0t:=by kernel_rfl
theorem u0S:b0s Tryz.prog u0g=some H0u:=by kernel_rfl
theorem x0j:b0s Tryz.prog p0h=some H0v:=by kernel_rfl
theorem x0h:b0s Tryz.prog l0T=some H0w:=by kernel_rfl
theorem p0w:b0s Tryz.prog f0k=some H0x:=by kernel_rfl
theorem x0b:b0s Tryz.prog d0M=some H0y:=by kernel_rfl
theorem u0O:b0s Tryz.prog f0F=some H0z:=by kernel_rfl
theorem u0P:b0s Tryz.prog v0U=some H0A:=by kernel_rfl
theorem x0a:b0s Tryz.prog n0I=some H0B:=by kernel_rfl
theorem p0x:b0s Tryz.prog u0h=some H0C:=by kernel_rfl
end
end Go.Proofs.YtjlohmnnldbjoaaGreat.AI
