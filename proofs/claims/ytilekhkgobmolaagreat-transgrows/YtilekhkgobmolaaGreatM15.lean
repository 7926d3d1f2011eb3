/- Part 16 of the proof. -/
import Derived.Test.YtilekhkgobmolaaGreatChecked
import Derived.Test.YtilekhkgobmolaaGreatM04
set_option linter.unusedVariables false
set_option linter.unusedSimpArgs false
set_option linter.unusedSectionVars false
namespace Go.Proofs.YtilekhkgobmolaaGreat.AI
section
open Go
theorem l0i:b0g Tryz.prog g0d=some L0B:=by kernel_rfl
theorem h0u:b0g Tryz.prog A0I=some L0C:=by kernel_rfl
theorem i0p:b0g Tryz.prog A0J=some L0D:=by kernel_rfl
theorem g0Y:b0g Tryz.prog A0K=some L0E:=by kernel_rfl
theorem B0I:b0g Tryz.prog r0Z=some L0F:=by kernel_rfl
theorem z0c:b0g Tryz.prog y0D=some L0G:=by kernel_rfl
theorem B0F:b0g Tryz.prog n0O=some L0H:=by kernel_rfl
theorem B0H:b0g Tryz.prog s0a=some L0I:=by kernel_rfl
theorem e0q:b0g Tryz.prog A0L=some L0J:=by kernel_rfl
theorem B0G:b0g Tryz.prog m0c=some L0K:=by kernel_rfl
theorem e0e:b0g Tryz.prog U0X=some (k0y .few):=by kernel_rfl
theorem d0e:b0g Tryz.prog U0Y=some (p0x .few):=by kernel_rfl
theorem c0P:b0g Tryz.prog U0Z=some (h0X .few):=by kernel_rfl
theorem d0c:b0g Tryz.prog V0a=some (p0v .few):=by kernel_rfl
theorem c0R:b0g Tryz.prog V0b=some (h0Y .few):=by kernel_rfl
theorem d0D:b0g Tryz.prog V0c=some (e0s .few):=by kernel_rfl
theorem d0d:b0g Tryz.prog V0d=some (p0w .few):=by kernel_rfl
theorem d0B:b0g Tryz.prog n0P=some L0L:=by kernel_rfl
theorem c0C:b0g Tryz.prog y0E=some L0M:=by kernel_rfl
theorem c0p:b0g Tryz.prog V0e=some (f0W .all):=by kernel_rfl
theorem c0t:b0g Tryz.prog t0T=some L0N:=by kernel_rfl
theorem B0P:b0g Tryz.prog A0M=some L0O:=by kernel_rfl
theorem c0w:b0g Tryz.prog s0b=some L0P:=by kernel_rfl
theorem B0T:b0g Tryz.prog y0F=some L0Q:=by kernel_rfl
theorem c0v:b0g Tryz.prog V0f=some (i0Z .all):=by kernel_rfl
theorem m0p:b0g Tryz.prog A0N=some L0R:=by kernel_rfl
theorem j0A:b0g Tryz.prog A0O=some L0S:=by kernel_rfl
theorem u0j:b0g Tryz.prog A0P=some L0T:=by kernel_rfl
theorem s0D:b0g Tryz.prog A0Q=some L0U:=by kernel_rfl
theorem d0U:b0g Tryz.prog n0Q=some L0V:=by kernel_rfl
theorem c0X:b0g Tryz.prog y0G=some L0W:=by kernel_rfl
theorem c0D:b0g Tryz.prog V0g=some (f0W .few):=by kernel_rfl
theorem c0Q:b0g Tryz.prog t0U=some L0X:=by kernel_rfl
theorem c0T:b0g Tryz.prog s0c=some L0Y:=by kernel_rfl
theorem c0S:b0g Tryz.prog V0h=some (i0Z .few):=by kernel_rfl
theorem q0q:b0g Tryz.prog A0R=some L0Z:=by kernel_rfl
theorem q0p:b0g Tryz.prog y0H=some M0a:=by kernel_rfl
theorem z0b:b0g Tryz.prog A0S=some M0b:=by kernel_rfl
theorem y0Y:b0g Tryz.prog A0T=some M0c:=by kernel_rfl
theorem y0X:b0g Tryz.prog A0U=some M0d:=by kernel_rfl
theorem i0U:b0g Tryz.prog y0I=some M0e:=by kernel_rfl
theorem k0k:b0g Tryz.prog m0d=some M0f:=by kernel_rfl
theorem k0l:b0g Tryz.prog s0d=some M0g:=by kernel_rfl
theorem l0j:b0g Tryz.prog k0e=some M0h:=by kernel_rfl
theorem j0C:b0g Tryz.prog n0R=some M0i:=by kernel_rfl
theorem j0D:b0g Tryz.prog p0U=some M0j:=by kernel_rfl
theorem B0L:b0g Tryz.prog A0V=some M0k:=by kernel_rfl
theorem i0V:b0g Tryz.prog y0J=some M0l:=by kernel_rfl
theorem k0m:b0g Tryz.prog m0e=some M0m:=by kernel_rfl
theorem k0n:b0g Tryz.prog s0e=some M0n:=by kernel_rfl
theorem l0k:b0g Tryz.prog j0q=some J0d:=by kernel_rfl
theorem j0E:b0g Tryz.prog n0S=some M0o:=by kernel_rfl
theorem j0F:b0g Tryz.prog p0V=some M0p:=by kernel_rfl
theorem m0r:b0g Tryz.prog y0K=some M0q:=by kernel_rfl
theorem K0O:b0g Tryz.prog A0W=some M0r:=by kernel_rfl
theorem l0l:b0g Tryz.prog t0V=some J0e:=by kernel_rfl
theorem g0q:b0g Tryz.prog f_9=some s_9:=by kernel_rfl
end
end Go.Proofs.YtilekhkgobmolaaGreat.AI
