/- Part 15 of the proof. -/
import Derived.Test.YtilekhkgobmolaaGreatChecked
import Derived.Test.YtilekhkgobmolaaGreatM04
set_option linter.unusedVariables false
set_option linter.unusedSimpArgs false
set_option linter.unusedSectionVars false
namespace Go.Proofs.YtilekhkgobmolaaGreat.AI
section
open Go
theorem h0s:b0g Tryz.prog A0X=some c1C:=by kernel_rfl
theorem i0l:b0g Tryz.prog Z0c=some c1D:=by kernel_rfl
theorem i0o:b0g Tryz.prog Z0d=some c1E:=by kernel_rfl
theorem h0t:b0g Tryz.prog A0Y=some c1F:=by kernel_rfl
theorem q0t:b0g Tryz.prog Z0e=some c1G:=by kernel_rfl
theorem q0o:b0g Tryz.prog Z0f=some c1H:=by kernel_rfl
theorem B0D:b0g Tryz.prog X0l=some c1I:=by kernel_rfl
theorem c0Y:b0g Tryz.prog Z0g=some c1J:=by kernel_rfl
theorem o0d:b0g Tryz.prog Z0h=some c1K:=by kernel_rfl
theorem d0u:b0g Tryz.prog Z0i=some c1L:=by kernel_rfl
theorem K0P:b0g Tryz.prog w0r=some c1M:=by kernel_rfl
theorem d0W:b0g Tryz.prog X0m=some c1N:=by kernel_rfl
theorem q0w:b0g Tryz.prog M0T=some c1O:=by kernel_rfl
theorem B0K:b0g Tryz.prog K0o=some c1P:=by kernel_rfl
theorem B0R:b0g Tryz.prog M0U=some c1Q:=by kernel_rfl
theorem c0j:b0g Tryz.prog Z0j=some c1R:=by kernel_rfl
theorem s0C:b0g Tryz.prog Z0k=some c1S:=by kernel_rfl
theorem m0t:b0g Tryz.prog Z0l=some c1T:=by kernel_rfl
theorem d0C:b0g Tryz.prog b1z=some (f0X .all):=by kernel_rfl
theorem u0l:b0g Tryz.prog A0Z=some c1U:=by kernel_rfl
theorem u0k:b0g Tryz.prog X0n=some c1V:=by kernel_rfl
theorem j0B:b0g Tryz.prog Z0m=some c1W:=by kernel_rfl
theorem B0E:b0g Tryz.prog B0a=some c1X:=by kernel_rfl
theorem B0J:b0g Tryz.prog s0f=some c1Y:=by kernel_rfl
theorem g0v:b0g Tryz.prog Z0n=some c1Z:=by kernel_rfl
theorem i0k:b0g Tryz.prog Z0o=some d1a:=by kernel_rfl
theorem i0q:b0g Tryz.prog Z0p=some d1b:=by kernel_rfl
theorem i0r:b0g Tryz.prog V0m=some X0A:=by kernel_rfl
theorem i0t:b0g Tryz.prog M0V=some d1c:=by kernel_rfl
theorem i0s:b0g Tryz.prog Z0q=some d1d:=by kernel_rfl
theorem g0w:b0g Tryz.prog X0o=some d1e:=by kernel_rfl
theorem i0m:b0g Tryz.prog V0n=some d1f:=by kernel_rfl
theorem g0x:b0g Tryz.prog Z0r=some d1g:=by kernel_rfl
theorem B0Q:b0g Tryz.prog t0R=some L0k:=by kernel_rfl
theorem y0V:b0g Tryz.prog A0D=some L0l:=by kernel_rfl
theorem d0t:b0g Tryz.prog A0E=some L0m:=by kernel_rfl
theorem K0N:b0g Tryz.prog k0d=some L0n:=by kernel_rfl
theorem B0U:b0g Tryz.prog t0S=some L0o:=by kernel_rfl
theorem e0f:b0g Tryz.prog A0F=some L0p:=by kernel_rfl
theorem y0Z:b0g Tryz.prog g0O=some L0q:=by kernel_rfl
theorem B0N:b0g Tryz.prog e0o=some L0r:=by kernel_rfl
theorem u0h:b0g Tryz.prog g0c=some L0s:=by kernel_rfl
theorem c0x:b0g Tryz.prog A0G=some L0t:=by kernel_rfl
theorem q0s:b0g Tryz.prog y0z=some L0u:=by kernel_rfl
theorem m0s:b0g Tryz.prog y0A=some L0v:=by kernel_rfl
theorem d0V:b0g Tryz.prog r0X=some (f0X .few):=by kernel_rfl
theorem d0T:b0g Tryz.prog U0P=some (k0y .all):=by kernel_rfl
theorem c0O:b0g Tryz.prog U0Q=some (p0x .all):=by kernel_rfl
theorem c0s:b0g Tryz.prog U0R=some (h0X .all):=by kernel_rfl
theorem c0M:b0g Tryz.prog U0S=some (p0v .all):=by kernel_rfl
theorem c0u:b0g Tryz.prog U0T=some (h0Y .all):=by kernel_rfl
theorem d0p:b0g Tryz.prog U0U=some (e0s .all):=by kernel_rfl
theorem c0N:b0g Tryz.prog U0W=some (p0w .all):=by kernel_rfl
theorem z0d:b0g Tryz.prog y0B=some L0w:=by kernel_rfl
theorem B0S:b0g Tryz.prog p0T=some L0x:=by kernel_rfl
theorem z0a:b0g Tryz.prog A0H=some L0y:=by kernel_rfl
theorem B0M:b0g Tryz.prog r0Y=some L0z:=by kernel_rfl
theorem u0i:b0g Tryz.prog y0C=some L0A:=by kernel_rfl
end
end Go.Proofs.YtilekhkgobmolaaGreat.AI
