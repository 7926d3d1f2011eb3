/- Part 17 of the proof. -/
import Derived.Test.YtilekhkgobmolaaGreatChecked
import Derived.Test.YtilekhkgobmolaaGreatM04
set_option linter.unusedVariables false
set_option linter.unusedSimpArgs false
set_option linter.unusedSectionVars false
namespace Go.Proofs.YtilekhkgobmolaaGreat.AI
section
open Go
theorem l0C:b0e Tryz.prog g0j=some M0J:=by kernel_rfl
theorem h0D:b0e Tryz.prog B0u=some M0K:=by kernel_rfl
theorem i0z:b0e Tryz.prog B0v=some M0L:=by kernel_rfl
theorem h0h:b0e Tryz.prog B0w=some M0M:=by kernel_rfl
theorem C0w:b0e Tryz.prog s0A=some M0N:=by kernel_rfl
theorem z0R:b0e Tryz.prog z0q=some M0O:=by kernel_rfl
theorem C0t:b0e Tryz.prog o0k=some M0P:=by kernel_rfl
theorem C0v:b0e Tryz.prog s0B=some M0Q:=by kernel_rfl
theorem e0v:b0e Tryz.prog B0x=some M0R:=by kernel_rfl
theorem C0u:b0e Tryz.prog m0x=some M0S:=by kernel_rfl
theorem e0j:b0e Tryz.prog W0T=some (k0S .few):=by kernel_rfl
theorem d0j:b0e Tryz.prog W0U=some (p0U .few):=by kernel_rfl
theorem c0V:b0e Tryz.prog W0V=some (i0g .few):=by kernel_rfl
theorem d0h:b0e Tryz.prog W0W=some (p0S .few):=by kernel_rfl
theorem c0X:b0e Tryz.prog W0X=some (i0h .few):=by kernel_rfl
theorem d0G:b0e Tryz.prog W0Y=some (e0x .few):=by kernel_rfl
theorem d0i:b0e Tryz.prog W0Z=some (p0T .few):=by kernel_rfl
theorem d0E:b0e Tryz.prog o0l=some M0T:=by kernel_rfl
theorem c0N:b0e Tryz.prog z0r=some M0U:=by kernel_rfl
theorem c0x:b0e Tryz.prog X0a=some (f0Z .all):=by kernel_rfl
theorem c0E:b0e Tryz.prog u0E=some M0V:=by kernel_rfl
theorem C0D:b0e Tryz.prog B0y=some M0W:=by kernel_rfl
theorem c0H:b0e Tryz.prog s0C=some M0X:=by kernel_rfl
theorem C0H:b0e Tryz.prog z0s=some M0Y:=by kernel_rfl
theorem c0G:b0e Tryz.prog X0b=some (j0n .all):=by kernel_rfl
theorem m0O:b0e Tryz.prog B0z=some M0Z:=by kernel_rfl
theorem j0P:b0e Tryz.prog B0A=some N0a:=by kernel_rfl
theorem u0W:b0e Tryz.prog B0B=some N0b:=by kernel_rfl
theorem t0f:b0e Tryz.prog B0C=some N0c:=by kernel_rfl
theorem d0Z:b0e Tryz.prog o0m=some N0d:=by kernel_rfl
theorem d0c:b0e Tryz.prog z0t=some N0e:=by kernel_rfl
theorem c0O:b0e Tryz.prog X0c=some (f0Z .few):=by kernel_rfl
theorem c0W:b0e Tryz.prog u0F=some N0f:=by kernel_rfl
theorem c0Z:b0e Tryz.prog s0D=some N0g:=by kernel_rfl
theorem c0Y:b0e Tryz.prog X0d=some (j0n .few):=by kernel_rfl
theorem q0S:b0e Tryz.prog B0D=some N0h:=by kernel_rfl
theorem q0R:b0e Tryz.prog z0u=some N0i:=by kernel_rfl
theorem z0Q:b0e Tryz.prog B0E=some N0j:=by kernel_rfl
theorem z0N:b0e Tryz.prog B0F=some N0k:=by kernel_rfl
theorem z0M:b0e Tryz.prog B0G=some N0l:=by kernel_rfl
theorem j0e:b0e Tryz.prog z0v=some N0m:=by kernel_rfl
theorem k0E:b0e Tryz.prog m0y=some N0n:=by kernel_rfl
theorem k0F:b0e Tryz.prog s0E=some N0o:=by kernel_rfl
theorem l0D:b0e Tryz.prog k0x=some N0p:=by kernel_rfl
theorem j0R:b0e Tryz.prog o0n=some N0q:=by kernel_rfl
theorem j0S:b0e Tryz.prog q0u=some N0r:=by kernel_rfl
theorem C0z:b0e Tryz.prog B0H=some N0s:=by kernel_rfl
theorem j0f:b0e Tryz.prog z0w=some N0t:=by kernel_rfl
theorem k0G:b0e Tryz.prog m0z=some N0u:=by kernel_rfl
theorem k0H:b0e Tryz.prog s0F=some N0v:=by kernel_rfl
theorem l0E:b0e Tryz.prog j0D=some K0k:=by kernel_rfl
theorem j0T:b0e Tryz.prog o0o=some N0w:=by kernel_rfl
theorem j0U:b0e Tryz.prog q0v=some N0x:=by kernel_rfl
theorem m0Q:b0e Tryz.prog z0x=some N0y:=by kernel_rfl
theorem L0V:b0e Tryz.prog B0I=some N0z:=by kernel_rfl
theorem l0F:b0e Tryz.prog u0G=some K0l:=by kernel_rfl
theorem g0w:b0e Tryz.prog f_9=some s_9:=by kernel_rfl
