/- Part 14 of the proof: AiTab0. -/
import Derived.Test.YtilekhkgobmolaaGreatChecked
import Derived.Test.YtilekhkgobmolaaGreatM04
set_option linter.unusedVariables false
set_option linter.unusedSimpArgs false
set_option linter.unusedSectionVars false
namespace Go.Proofs.YtilekhkgobmolaaGreat.AI
section
open Go
theorem e0j:b0l Tryz.prog f_6=some s_6:=by kernel_rfl
theorem s0j:b0l Tryz.prog R0L=some U0o:=by kernel_rfl
theorem s0k:b0l Tryz.prog Q0i=some U0p:=by kernel_rfl
theorem h0a:b0l Tryz.prog Q0j=some U0q:=by kernel_rfl
theorem f0n:b0l Tryz.prog Q0k=some U0r:=by kernel_rfl
theorem h0w:b0l Tryz.prog F0N=some U0s:=by kernel_rfl
theorem e0H:b0l Tryz.prog O0s=some U0t:=by kernel_rfl
theorem g0a:b0l Tryz.prog y0l=some U0u:=by kernel_rfl
theorem f0o:b0l Tryz.prog Q0l=some U0v:=by kernel_rfl
theorem o0P:b0l Tryz.prog Q0m=some U0w:=by kernel_rfl
theorem q0N:b0l Tryz.prog Q0n=some U0x:=by kernel_rfl
theorem k0T:b0l Tryz.prog R0M=some U0y:=by kernel_rfl
theorem k0P:b0l Tryz.prog R0N=some U0z:=by kernel_rfl
theorem y0N:b0l Tryz.prog R0O=some U0A:=by kernel_rfl
theorem G0M:b0l Tryz.prog I0O=some U0B:=by kernel_rfl
theorem h0y:b0l Tryz.prog R0P=some U0C:=by kernel_rfl
theorem f0G:b0l Tryz.prog R0Q=some U0D:=by kernel_rfl
theorem g0r:b0l Tryz.prog Q0o=some U0E:=by kernel_rfl
theorem g0q:b0l Tryz.prog R0R=some U0F:=by kernel_rfl
theorem g0s:b0l Tryz.prog Q0p=some U0G:=by kernel_rfl
theorem s0c:b0l Tryz.prog R0S=some U0H:=by kernel_rfl
theorem q0L:b0l Tryz.prog Q0q=some U0I:=by kernel_rfl
theorem c0I:b0l Tryz.prog Q0r=some U0J:=by kernel_rfl
theorem m0v:b0l Tryz.prog R0T=some U0K:=by kernel_rfl
theorem o0Q:b0l Tryz.prog R0U=some U0L:=by kernel_rfl
theorem q0K:b0l Tryz.prog R0V=some U0M:=by kernel_rfl
theorem m0t:b0l Tryz.prog R0W=some U0N:=by kernel_rfl
theorem q0M:b0l Tryz.prog R0X=some U0O:=by kernel_rfl
theorem w0r:b0l Tryz.prog R0Y=some U0P:=by kernel_rfl
theorem o0M:b0l Tryz.prog R0Z=some U0Q:=by kernel_rfl
theorem s0d:b0l Tryz.prog S0a=some U0R:=by kernel_rfl
theorem y0Z:b0l Tryz.prog r0w=some U0S:=by kernel_rfl
end
end Go.Proofs.YtilekhkgobmolaaGreat.AI
