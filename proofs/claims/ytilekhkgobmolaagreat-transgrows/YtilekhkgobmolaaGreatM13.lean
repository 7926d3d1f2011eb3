/- Part 14 of the proof. -/
import Derived.Test.YtilekhkgobmolaaGreatChecked
import Derived.Test.YtilekhkgobmolaaGreatM04
set_option linter.unusedVariables false
set_option linter.unusedSimpArgs false
set_option linter.unusedSectionVars false
namespace Go.Proofs.YtilekhkgobmolaaGreat.AI
section
open Go
theorem e0R:b0g Tryz.prog f_4=some s_4:=by kernel_rfl
theorem g0p:b0g Tryz.prog f_7=some s_7:=by kernel_rfl
theorem h0o:b0g Tryz.prog f_8=some s_8:=by kernel_rfl
theorem u0m:b0g Tryz.prog W0X=some b1K:=by kernel_rfl
theorem u0n:b0g Tryz.prog W0Y=some b1L:=by kernel_rfl
theorem i0h:b0g Tryz.prog U0V=some b1M:=by kernel_rfl
theorem g0o:b0g Tryz.prog W0Z=some a1I:=by kernel_rfl
theorem g0W:b0g Tryz.prog Y0G=some b1N:=by kernel_rfl
theorem i0i:b0g Tryz.prog Y0H=some a1J:=by kernel_rfl
theorem g0T:b0g Tryz.prog V0i=some b1O:=by kernel_rfl
theorem i0S:b0g Tryz.prog K0n=some b1P:=by kernel_rfl
theorem f0k:b0g Tryz.prog X0a=some b1Q:=by kernel_rfl
theorem g0X:b0g Tryz.prog V0j=some b1R:=by kernel_rfl
theorem g0V:b0g Tryz.prog Y0I=some b1S:=by kernel_rfl
theorem g0n:b0g Tryz.prog Y0J=some b1T:=by kernel_rfl
theorem f0T:b0g Tryz.prog Y0K=some b1U:=by kernel_rfl
theorem q0u:b0g Tryz.prog X0b=some b1V:=by kernel_rfl
theorem s0H:b0g Tryz.prog X0c=some b1W:=by kernel_rfl
theorem m0u:b0g Tryz.prog Y0L=some b1X:=by kernel_rfl
theorem m0q:b0g Tryz.prog Y0M=some b1Y:=by kernel_rfl
theorem B0C:b0g Tryz.prog Y0N=some b1Z:=by kernel_rfl
theorem K0M:b0g Tryz.prog M0R=some c1a:=by kernel_rfl
theorem g0U:b0g Tryz.prog X0d=some c1b:=by kernel_rfl
theorem g0u:b0g Tryz.prog Y0O=some c1c:=by kernel_rfl
theorem g0s:b0g Tryz.prog X0e=some c1d:=by kernel_rfl
theorem i0T:b0g Tryz.prog y0L=some c1e:=by kernel_rfl
theorem g0r:b0g Tryz.prog Y0P=some c1f:=by kernel_rfl
theorem h0q:b0g Tryz.prog X0f=some c1g:=by kernel_rfl
theorem h0p:b0g Tryz.prog Y0Q=some c1h:=by kernel_rfl
theorem g0S:b0g Tryz.prog V0k=some c1i:=by kernel_rfl
theorem h0r:b0g Tryz.prog X0g=some c1j:=by kernel_rfl
theorem u0f:b0g Tryz.prog Y0R=some c1k:=by kernel_rfl
theorem s0F:b0g Tryz.prog X0h=some c1l:=by kernel_rfl
theorem c0Z:b0g Tryz.prog X0i=some c1m:=by kernel_rfl
theorem o0e:b0g Tryz.prog Y0S=some c1n:=by kernel_rfl
theorem q0v:b0g Tryz.prog Y0T=some c1o:=by kernel_rfl
theorem s0E:b0g Tryz.prog Y0U=some c1p:=by kernel_rfl
theorem o0c:b0g Tryz.prog Y0V=some c1q:=by kernel_rfl
theorem s0G:b0g Tryz.prog Y0W=some c1r:=by kernel_rfl
theorem y0W:b0g Tryz.prog Y0X=some c1s:=by kernel_rfl
theorem q0r:b0g Tryz.prog Y0Y=some c1t:=by kernel_rfl
theorem u0g:b0g Tryz.prog Y0Z=some c1u:=by kernel_rfl
theorem B0O:b0g Tryz.prog t0x=some c1v:=by kernel_rfl
theorem f0R:b0g Tryz.prog M0S=some c1w:=by kernel_rfl
theorem g0t:b0g Tryz.prog Z0a=some c1x:=by kernel_rfl
theorem i0j:b0g Tryz.prog Z0b=some c1y:=by kernel_rfl
theorem i0n:b0g Tryz.prog X0j=some c1z:=by kernel_rfl
theorem g0y:b0g Tryz.prog X0k=some c1A:=by kernel_rfl
theorem f0S:b0g Tryz.prog V0l=some c1B:=by kernel_rfl
end
end Go.Proofs.YtilekhkgobmolaaGreat.AI
