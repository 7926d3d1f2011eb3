/- Part 14 of the proof: AiTab0. -/
import Derived.Test.YtilekhkgobmolaaGreatChecked
import Derived.Test.YtilekhkgobmolaaGreatM04
set_option linter.unusedVariables false
set_option linter.unusedSimpArgs false
set_option linter.unusedSectionVars false
namespace Go.Proofs.YtilekhkgobmolaaGreat.AI
section
open Go
theorem e0D:b0k Tryz.prog f_3=some s_3:=by kernel_rfl
theorem f0M:b0k Tryz.prog f_7=some s_7:=by kernel_rfl
theorem g0D:b0k Tryz.prog f_8=some s_8:=by kernel_rfl
theorem s0M:b0k Tryz.prog T0s=some W0l:=by kernel_rfl
theorem s0N:b0k Tryz.prog P0L=some W0m:=by kernel_rfl
theorem h0u:b0k Tryz.prog H0m=some W0n:=by kernel_rfl
theorem f0s:b0k Tryz.prog T0t=some W0o:=by kernel_rfl
theorem f0L:b0k Tryz.prog T0u=some V0l:=by kernel_rfl
theorem g0j:b0k Tryz.prog Q0e=some W0p:=by kernel_rfl
theorem h0P:b0k Tryz.prog J0M=some W0q:=by kernel_rfl
theorem e0J:b0k Tryz.prog R0R=some W0r:=by kernel_rfl
theorem g0m:b0k Tryz.prog Q0f=some W0s:=by kernel_rfl
theorem g0l:b0k Tryz.prog T0v=some W0t:=by kernel_rfl
theorem f0K:b0k Tryz.prog T0w=some W0u:=by kernel_rfl
theorem f0t:b0k Tryz.prog R0S=some W0v:=by kernel_rfl
theorem p0e:b0k Tryz.prog R0T=some W0w:=by kernel_rfl
theorem r0l:b0k Tryz.prog R0U=some W0x:=by kernel_rfl
theorem l0o:b0k Tryz.prog T0x=some W0y:=by kernel_rfl
theorem l0k:b0k Tryz.prog T0y=some W0z:=by kernel_rfl
theorem z0w:b0k Tryz.prog T0z=some W0A:=by kernel_rfl
theorem H0J:b0k Tryz.prog J0N=some W0B:=by kernel_rfl
theorem g0k:b0k Tryz.prog R0V=some W0C:=by kernel_rfl
theorem h0Q:b0k Tryz.prog T0A=some W0D:=by kernel_rfl
theorem f0O:b0k Tryz.prog T0B=some W0E:=by kernel_rfl
theorem g0F:b0k Tryz.prog R0W=some W0F:=by kernel_rfl
theorem g0E:b0k Tryz.prog T0C=some W0G:=by kernel_rfl
theorem g0i:b0k Tryz.prog Q0g=some W0H:=by kernel_rfl
theorem g0G:b0k Tryz.prog R0X=some W0I:=by kernel_rfl
theorem s0F:b0k Tryz.prog T0D=some W0J:=by kernel_rfl
theorem r0j:b0k Tryz.prog R0Y=some W0K:=by kernel_rfl
theorem c0L:b0k Tryz.prog R0Z=some W0L:=by kernel_rfl
theorem m0O:b0k Tryz.prog T0E=some W0M:=by kernel_rfl
theorem p0f:b0k Tryz.prog T0F=some W0N:=by kernel_rfl
theorem r0i:b0k Tryz.prog T0G=some W0O:=by kernel_rfl
theorem m0M:b0k Tryz.prog T0H=some W0P:=by kernel_rfl
theorem r0k:b0k Tryz.prog T0I=some W0Q:=by kernel_rfl
theorem w0Y:b0k Tryz.prog T0J=some W0R:=by kernel_rfl
theorem p0b:b0k Tryz.prog T0K=some W0S:=by kernel_rfl
theorem s0G:b0k Tryz.prog T0L=some W0T:=by kernel_rfl
theorem z0I:b0k Tryz.prog r0U=some W0U:=by kernel_rfl
end
end Go.Proofs.YtilekhkgobmolaaGreat.AI
