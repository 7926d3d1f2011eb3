/- Part 16 of the proof: AiTab2. -/
import Derived.Test.YtilekhkgobmolaaGreatChecked
import Derived.Test.YtilekhkgobmolaaGreatM04
set_option linter.unusedVariables false
set_option linter.unusedSimpArgs false
set_option linter.unusedSectionVars false
namespace Go.Proofs.YtilekhkgobmolaaGreat.AI
section
open Go
theorem k0b:b0k Tryz.prog f0E=some I0z:=by kernel_rfl
theorem z0C:b0k Tryz.prog q0H=some I0A:=by kernel_rfl
theorem x0e:b0k Tryz.prog w0F=some I0B:=by kernel_rfl
theorem z0z:b0k Tryz.prog m0y=some I0C:=by kernel_rfl
theorem z0B:b0k Tryz.prog q0I=some I0D:=by kernel_rfl
theorem d0W:b0k Tryz.prog y0I=some I0E:=by kernel_rfl
theorem z0A:b0k Tryz.prog k0U=some I0F:=by kernel_rfl
theorem d0P:b0k Tryz.prog P0T=some (j0u .few):=by kernel_rfl
theorem c0Q:b0k Tryz.prog P0U=some (o0e .few):=by kernel_rfl
theorem c0C:b0k Tryz.prog P0V=some (h0m .few):=by kernel_rfl
theorem c0O:b0k Tryz.prog P0W=some (o0c .few):=by kernel_rfl
theorem c0E:b0k Tryz.prog P0X=some (h0n .few):=by kernel_rfl
theorem d0m:b0k Tryz.prog P0Y=some (d0Y .few):=by kernel_rfl
theorem c0P:b0k Tryz.prog P0Z=some (o0d .few):=by kernel_rfl
theorem d0k:b0k Tryz.prog m0z=some I0G:=by kernel_rfl
theorem c0q:b0k Tryz.prog w0G=some I0H:=by kernel_rfl
theorem c0d:b0k Tryz.prog Q0a=some (f0v .all):=by kernel_rfl
theorem c0h:b0k Tryz.prog s0s=some I0I:=by kernel_rfl
theorem z0J:b0k Tryz.prog y0J=some I0J:=by kernel_rfl
theorem c0k:b0k Tryz.prog q0J=some I0K:=by kernel_rfl
theorem z0N:b0k Tryz.prog w0H=some I0L:=by kernel_rfl
theorem c0j:b0k Tryz.prog Q0b=some (h0V .all):=by kernel_rfl
theorem l0j:b0k Tryz.prog y0K=some I0M:=by kernel_rfl
theorem i0y:b0k Tryz.prog y0L=some I0N:=by kernel_rfl
theorem s0J:b0k Tryz.prog y0M=some I0O:=by kernel_rfl
theorem r0h:b0k Tryz.prog y0N=some I0P:=by kernel_rfl
theorem d0B:b0k Tryz.prog m0A=some I0Q:=by kernel_rfl
theorem c0J:b0k Tryz.prog w0I=some I0R:=by kernel_rfl
theorem c0r:b0k Tryz.prog Q0c=some (f0v .few):=by kernel_rfl
theorem c0D:b0k Tryz.prog s0t=some I0S:=by kernel_rfl
theorem c0G:b0k Tryz.prog q0K=some I0T:=by kernel_rfl
theorem c0F:b0k Tryz.prog Q0d=some (h0V .few):=by kernel_rfl
theorem p0a:b0k Tryz.prog y0O=some I0U:=by kernel_rfl
theorem o0Z:b0k Tryz.prog w0J=some I0V:=by kernel_rfl
theorem x0d:b0k Tryz.prog y0P=some I0W:=by kernel_rfl
theorem x0a:b0k Tryz.prog y0Q=some I0X:=by kernel_rfl
theorem w0Z:b0k Tryz.prog y0R=some I0Y:=by kernel_rfl
theorem h0R:b0k Tryz.prog w0K=some I0Z:=by kernel_rfl
theorem j0h:b0k Tryz.prog k0V=some J0a:=by kernel_rfl
theorem j0i:b0k Tryz.prog q0L=some J0b:=by kernel_rfl
theorem k0c:b0k Tryz.prog j0c=some J0c:=by kernel_rfl
theorem i0A:b0k Tryz.prog m0B=some J0d:=by kernel_rfl
theorem i0B:b0k Tryz.prog o0D=some J0e:=by kernel_rfl
theorem z0F:b0k Tryz.prog y0S=some J0f:=by kernel_rfl
theorem h0S:b0k Tryz.prog w0L=some J0g:=by kernel_rfl
theorem j0j:b0k Tryz.prog k0W=some J0h:=by kernel_rfl
theorem j0k:b0k Tryz.prog q0M=some J0i:=by kernel_rfl
theorem k0d:b0k Tryz.prog i0n=some G0h:=by kernel_rfl
theorem i0C:b0k Tryz.prog m0C=some J0j:=by kernel_rfl
theorem i0D:b0k Tryz.prog o0E=some J0k:=by kernel_rfl
theorem l0l:b0k Tryz.prog w0M=some J0l:=by kernel_rfl
theorem H0L:b0k Tryz.prog y0T=some J0m:=by kernel_rfl
theorem k0e:b0k Tryz.prog s0u=some G0i:=by kernel_rfl
theorem f0N:b0k Tryz.prog f_9=some s_9:=by kernel_rfl
end
end Go.Proofs.YtilekhkgobmolaaGreat.AI
