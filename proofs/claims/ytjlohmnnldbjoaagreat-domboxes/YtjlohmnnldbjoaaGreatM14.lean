/- Part 15 of the proof: AiTab2. -/
import Derived.Test.YtjlohmnnldbjoaaGreatChecked
import Derived.Test.YtjlohmnnldbjoaaGreatM03
set_option linter.unusedVariables false
set_option linter.unusedSimpArgs false
set_option linter.unusedSectionVars false
/- The small code is the program's: printed. -/
namespace Go.Proofs.YtjlohmnnldbjoaaGreat.AI
section
open Go
theorem i0U:b0s Tryz.prog f0l=some H0D:=by kernel_rfl
theorem G0q:b0s Tryz.prog i0f=some H0E:=by kernel_rfl
theorem w0T:b0s Tryz.prog j0I=some H0F:=by kernel_rfl
theorem w0W:b0s Tryz.prog n0J=some H0G:=by kernel_rfl
theorem u0R:b0s Tryz.prog u0i=some H0H:=by kernel_rfl
theorem w0V:b0s Tryz.prog n0K=some H0I:=by kernel_rfl
theorem c0o:b0s Tryz.prog v0V=some H0J:=by kernel_rfl
theorem m0w:b0s Tryz.prog u0j=some H0K:=by kernel_rfl
theorem k0d:b0s Tryz.prog u0k=some H0L:=by kernel_rfl
theorem d0t:b0s Tryz.prog l0U=some H0M:=by kernel_rfl
theorem d0r:b0s Tryz.prog v0W=some H0N:=by kernel_rfl
theorem c0y:b0s Tryz.prog u0l=some H0O:=by kernel_rfl
theorem c0j:b0s Tryz.prog u0m=some H0P:=by kernel_rfl
theorem c0w:b0s Tryz.prog v0X=some H0Q:=by kernel_rfl
theorem c0l:b0s Tryz.prog u0n=some H0R:=by kernel_rfl
theorem c0T:b0s Tryz.prog v0Y=some H0S:=by kernel_rfl
theorem c0x:b0s Tryz.prog N0j=some R0S:=by kernel_rfl
theorem w0Y:b0s Tryz.prog n0L=some H0T:=by kernel_rfl
theorem w0U:b0s Tryz.prog j0J=some H0U:=by kernel_rfl
theorem d0O:b0s Tryz.prog v0Z=some H0V:=by kernel_rfl
theorem k0a:b0s Tryz.prog w0a=some H0W:=by kernel_rfl
theorem h0y:b0s Tryz.prog w0b=some H0X:=by kernel_rfl
theorem d0A:b0s Tryz.prog w0c=some H0Y:=by kernel_rfl
theorem c0P:b0s Tryz.prog u0o=some H0Z:=by kernel_rfl
theorem c0z:b0s Tryz.prog u0p=some I0a:=by kernel_rfl
theorem c0N:b0s Tryz.prog w0d=some I0b:=by kernel_rfl
theorem c0B:b0s Tryz.prog u0q=some I0c:=by kernel_rfl
theorem d0g:b0s Tryz.prog w0e=some I0d:=by kernel_rfl
theorem c0O:b0s Tryz.prog N0k=some R0T:=by kernel_rfl
theorem d0e:b0s Tryz.prog k0J=some I0e:=by kernel_rfl
theorem c0r:b0s Tryz.prog u0r=some I0f:=by kernel_rfl
theorem c0d:b0s Tryz.prog w0f=some I0g:=by kernel_rfl
theorem c0k:b0s Tryz.prog u0s=some I0h:=by kernel_rfl
theorem x0e:b0s Tryz.prog u0t=some I0i:=by kernel_rfl
theorem c0n:b0s Tryz.prog n0M=some I0j:=by kernel_rfl
theorem x0i:b0s Tryz.prog n0N=some I0k:=by kernel_rfl
theorem c0m:b0s Tryz.prog N0l=some R0U:=by kernel_rfl
theorem p0y:b0s Tryz.prog w0g=some I0l:=by kernel_rfl
theorem o0p:b0s Tryz.prog w0h=some I0m:=by kernel_rfl
theorem d0s:b0s Tryz.prog k0K=some I0n:=by kernel_rfl
theorem c0I:b0s Tryz.prog u0u=some I0o:=by kernel_rfl
theorem c0s:b0s Tryz.prog w0i=some I0p:=by kernel_rfl
theorem c0A:b0s Tryz.prog u0v=some I0q:=by kernel_rfl
theorem c0D:b0s Tryz.prog n0O=some I0r:=by kernel_rfl
theorem c0C:b0s Tryz.prog N0m=some R0V:=by kernel_rfl
theorem m0u:b0s Tryz.prog w0j=some I0s:=by kernel_rfl
theorem m0t:b0s Tryz.prog u0w=some I0t:=by kernel_rfl
theorem u0Q:b0s Tryz.prog w0k=some I0u:=by kernel_rfl
theorem u0N:b0s Tryz.prog w0l=some I0v:=by kernel_rfl
theorem u0M:b0s Tryz.prog w0m=some I0w:=by kernel_rfl
end
end Go.Proofs.YtjlohmnnldbjoaaGreat.AI
