/- Part 15 of the proof. -/
import Derived.Test.YtilekhkgobmolaaGreatChecked
import Derived.Test.YtilekhkgobmolaaGreatM04
set_option linter.unusedVariables false
set_option linter.unusedSimpArgs false
set_option linter.unusedSectionVars false
namespace Go.Proofs.YtilekhkgobmolaaGreat.AI
section
open Go
theorem e0X:b0e Tryz.prog f_5=some s_5:=by kernel_rfl
theorem g0v:b0e Tryz.prog f_7=some s_7:=by kernel_rfl
theorem h0u:b0e Tryz.prog f_8=some s_8:=by kernel_rfl
theorem u0Z:b0e Tryz.prog a1H=some d1M:=by kernel_rfl
theorem v0a:b0e Tryz.prog Y0W=some d1N:=by kernel_rfl
theorem i0o:b0e Tryz.prog Y0X=some d1O:=by kernel_rfl
theorem g0u:b0e Tryz.prog a1I=some c1L:=by kernel_rfl
theorem h0c:b0e Tryz.prog L0s=some d1P:=by kernel_rfl
theorem i0p:b0e Tryz.prog a1J=some d1Q:=by kernel_rfl
theorem h0v:b0e Tryz.prog Y0Y=some d1R:=by kernel_rfl
theorem h0b:b0e Tryz.prog Y0Z=some d1S:=by kernel_rfl
theorem j0c:b0e Tryz.prog K0I=some d1T:=by kernel_rfl
theorem f0r:b0e Tryz.prog Z0a=some d1U:=by kernel_rfl
theorem h0g:b0e Tryz.prog X0e=some d1V:=by kernel_rfl
theorem h0e:b0e Tryz.prog a1K=some d1W:=by kernel_rfl
theorem g0t:b0e Tryz.prog a1L=some d1X:=by kernel_rfl
theorem f0X:b0e Tryz.prog a1M=some d1Y:=by kernel_rfl
theorem q0W:b0e Tryz.prog Z0b=some d1Z:=by kernel_rfl
theorem t0j:b0e Tryz.prog Z0c=some e1a:=by kernel_rfl
theorem m0T:b0e Tryz.prog a1N=some e1b:=by kernel_rfl
theorem m0P:b0e Tryz.prog a1O=some e1c:=by kernel_rfl
theorem C0q:b0e Tryz.prog a1P=some e1d:=by kernel_rfl
theorem L0T:b0e Tryz.prog N0Z=some e1e:=by kernel_rfl
theorem h0d:b0e Tryz.prog Z0d=some e1f:=by kernel_rfl
theorem g0A:b0e Tryz.prog a1Q=some e1g:=by kernel_rfl
theorem g0x:b0e Tryz.prog Z0e=some e1h:=by kernel_rfl
theorem i0t:b0e Tryz.prog Z0f=some c1M:=by kernel_rfl
theorem i0y:b0e Tryz.prog X0f=some e1i:=by kernel_rfl
theorem j0d:b0e Tryz.prog u0H=some e1j:=by kernel_rfl
theorem g0y:b0e Tryz.prog a1R=some e1k:=by kernel_rfl
theorem h0y:b0e Tryz.prog Z0g=some e1l:=by kernel_rfl
theorem h0w:b0e Tryz.prog a1S=some e1m:=by kernel_rfl
theorem g0Z:b0e Tryz.prog X0g=some e1n:=by kernel_rfl
theorem h0A:b0e Tryz.prog Z0h=some e1o:=by kernel_rfl
theorem u0S:b0e Tryz.prog a1T=some e1p:=by kernel_rfl
theorem t0h:b0e Tryz.prog Z0i=some e1q:=by kernel_rfl
theorem d0e:b0e Tryz.prog Z0j=some e1r:=by kernel_rfl
theorem o0y:b0e Tryz.prog a1U=some e1s:=by kernel_rfl
theorem q0X:b0e Tryz.prog a1V=some e1t:=by kernel_rfl
theorem t0g:b0e Tryz.prog a1W=some e1u:=by kernel_rfl
theorem o0w:b0e Tryz.prog a1X=some e1v:=by kernel_rfl
theorem t0i:b0e Tryz.prog a1Y=some e1w:=by kernel_rfl
theorem z0L:b0e Tryz.prog a1Z=some e1x:=by kernel_rfl
theorem q0T:b0e Tryz.prog b1a=some e1y:=by kernel_rfl
theorem u0T:b0e Tryz.prog b1b=some e1z:=by kernel_rfl
theorem C0C:b0e Tryz.prog u0c=some e1A:=by kernel_rfl
theorem f0V:b0e Tryz.prog Z0k=some e1B:=by kernel_rfl
theorem g0B:b0e Tryz.prog b1c=some e1C:=by kernel_rfl
theorem i0q:b0e Tryz.prog L0t=some e1D:=by kernel_rfl
theorem i0w:b0e Tryz.prog z0y=some e1E:=by kernel_rfl
theorem g0G:b0e Tryz.prog X0h=some e1F:=by kernel_rfl
theorem f0W:b0e Tryz.prog z0z=some e1G:=by kernel_rfl
theorem g0z:b0e Tryz.prog b1d=some e1H:=by kernel_rfl
