/- Part 15 of the proof: AiTab1. -/
import Derived.Test.YtilekhkgobmolaaGreatChecked
import Derived.Test.YtilekhkgobmolaaGreatM04
set_option linter.unusedVariables false
set_option linter.unusedSimpArgs false
set_option linter.unusedSectionVars false
namespace Go.Proofs.YtilekhkgobmolaaGreat.AI
section
open Go
theorem g0H:b0k Tryz.prog S0a=some W0V:=by kernel_rfl
theorem p0d:b0k Tryz.prog T0M=some W0W:=by kernel_rfl
theorem o0Y:b0k Tryz.prog T0N=some W0X:=by kernel_rfl
theorem z0x:b0k Tryz.prog S0b=some W0Y:=by kernel_rfl
theorem c0K:b0k Tryz.prog T0O=some W0Z:=by kernel_rfl
theorem m0N:b0k Tryz.prog T0P=some X0a:=by kernel_rfl
theorem d0f:b0k Tryz.prog T0Q=some X0b:=by kernel_rfl
theorem H0M:b0k Tryz.prog u0A=some X0c:=by kernel_rfl
theorem d0D:b0k Tryz.prog S0c=some X0d:=by kernel_rfl
theorem p0g:b0k Tryz.prog J0O=some X0e:=by kernel_rfl
theorem z0E:b0k Tryz.prog H0n=some X0f:=by kernel_rfl
theorem z0L:b0k Tryz.prog J0P=some X0g:=by kernel_rfl
theorem b0Y:b0k Tryz.prog T0R=some X0h:=by kernel_rfl
theorem r0g:b0k Tryz.prog T0S=some X0i:=by kernel_rfl
theorem l0n:b0k Tryz.prog T0T=some X0j:=by kernel_rfl
theorem d0l:b0k Tryz.prog V0Y=some (f0w .all):=by kernel_rfl
theorem s0L:b0k Tryz.prog y0U=some X0k:=by kernel_rfl
theorem s0K:b0k Tryz.prog S0d=some X0l:=by kernel_rfl
theorem i0z:b0k Tryz.prog T0U=some X0m:=by kernel_rfl
theorem z0y:b0k Tryz.prog y0V=some X0n:=by kernel_rfl
theorem z0D:b0k Tryz.prog q0N=some X0o:=by kernel_rfl
theorem z0K:b0k Tryz.prog s0q=some I0i:=by kernel_rfl
theorem w0X:b0k Tryz.prog y0D=some I0j:=by kernel_rfl
theorem d0e:b0k Tryz.prog y0E=some I0k:=by kernel_rfl
theorem H0K:b0k Tryz.prog j0b=some I0l:=by kernel_rfl
theorem z0O:b0k Tryz.prog s0r=some I0m:=by kernel_rfl
theorem d0Q:b0k Tryz.prog y0F=some I0n:=by kernel_rfl
theorem x0b:b0k Tryz.prog g0f=some I0o:=by kernel_rfl
theorem z0H:b0k Tryz.prog d0V=some I0p:=by kernel_rfl
theorem s0H:b0k Tryz.prog f0D=some I0q:=by kernel_rfl
theorem c0l:b0k Tryz.prog y0G=some I0r:=by kernel_rfl
theorem p0c:b0k Tryz.prog w0B=some I0s:=by kernel_rfl
theorem l0m:b0k Tryz.prog w0C=some I0t:=by kernel_rfl
theorem d0C:b0k Tryz.prog q0F=some (f0w .few):=by kernel_rfl
theorem d0A:b0k Tryz.prog P0M=some (j0u .all):=by kernel_rfl
theorem c0B:b0k Tryz.prog P0N=some (o0e .all):=by kernel_rfl
theorem c0g:b0k Tryz.prog P0O=some (h0m .all):=by kernel_rfl
theorem c0z:b0k Tryz.prog P0P=some (o0c .all):=by kernel_rfl
theorem c0i:b0k Tryz.prog P0Q=some (h0n .all):=by kernel_rfl
theorem c0X:b0k Tryz.prog P0R=some (d0Y .all):=by kernel_rfl
theorem c0A:b0k Tryz.prog P0S=some (o0d .all):=by kernel_rfl
theorem x0f:b0k Tryz.prog w0D=some I0u:=by kernel_rfl
theorem z0M:b0k Tryz.prog o0C=some I0v:=by kernel_rfl
theorem x0c:b0k Tryz.prog y0H=some I0w:=by kernel_rfl
theorem z0G:b0k Tryz.prog q0G=some I0x:=by kernel_rfl
theorem s0I:b0k Tryz.prog w0E=some I0y:=by kernel_rfl
end
end Go.Proofs.YtilekhkgobmolaaGreat.AI
