/- Part 16 of the proof: AiTab2. -/
import Derived.Test.YtjlohmnnldbjoaaGreatChecked
import Derived.Test.YtjlohmnnldbjoaaGreatM04
set_option linter.unusedVariables false
set_option linter.unusedSimpArgs false
set_option linter.unusedSectionVars false
namespace Go.Proofs.YtjlohmnnldbjoaaGreat.AI
section
open Go
theorem l0n:b0f Tryz.prog f0P=some M0s:=by kernel_rfl
theorem L0x:b0f Tryz.prog l0m=some M0t:=by kernel_rfl
theorem B0g:b0f Tryz.prog m0f=some M0u:=by kernel_rfl
theorem i0g:b0f Tryz.prog y0h=some M0v:=by kernel_rfl
theorem i0h:b0f Tryz.prog t0w=some M0w:=by kernel_rfl
theorem B0j:b0f Tryz.prog r0E=some M0x:=by kernel_rfl
theorem y0L:b0f Tryz.prog y0i=some M0y:=by kernel_rfl
theorem B0i:b0f Tryz.prog r0F=some M0z:=by kernel_rfl
theorem i0j:b0f Tryz.prog t0x=some M0A:=by kernel_rfl
theorem c0w:b0f Tryz.prog A0k=some M0B:=by kernel_rfl
theorem q0j:b0f Tryz.prog y0j=some M0C:=by kernel_rfl
theorem m0w:b0f Tryz.prog y0k=some M0D:=by kernel_rfl
theorem d0O:b0f Tryz.prog r0G=some (f0J .few):=by kernel_rfl
theorem d0M:b0f Tryz.prog U0R=some (k0H .all):=by kernel_rfl
theorem c0H:b0f Tryz.prog U0S=some (p0i .all):=by kernel_rfl
theorem c0r:b0f Tryz.prog U0T=some (h0T .all):=by kernel_rfl
theorem c0F:b0f Tryz.prog U0U=some (p0h .all):=by kernel_rfl
theorem c0t:b0f Tryz.prog U0V=some (h0U .all):=by kernel_rfl
theorem d0g:b0f Tryz.prog U0W=some (e0n .all):=by kernel_rfl
theorem c0G:b0f Tryz.prog U0X=some (x0E .all):=by kernel_rfl
theorem i0e:b0f Tryz.prog y0l=some M0E:=by kernel_rfl
theorem i0m:b0f Tryz.prog A0l=some M0F:=by kernel_rfl
theorem i0n:b0f Tryz.prog t0y=some z0k:=by kernel_rfl
theorem i0p:b0f Tryz.prog r0H=some M0G:=by kernel_rfl
theorem B0l:b0f Tryz.prog r0I=some M0H:=by kernel_rfl
theorem B0h:b0f Tryz.prog m0g=some M0I:=by kernel_rfl
theorem e0m:b0f Tryz.prog A0m=some M0J:=by kernel_rfl
theorem m0t:b0f Tryz.prog A0n=some M0K:=by kernel_rfl
theorem j0y:b0f Tryz.prog A0o=some M0L:=by kernel_rfl
theorem g0h:b0f Tryz.prog y0m=some M0M:=by kernel_rfl
theorem d0Y:b0f Tryz.prog U0Y=some (k0H .few):=by kernel_rfl
theorem c0Z:b0f Tryz.prog U0Z=some (p0i .few):=by kernel_rfl
theorem c0I:b0f Tryz.prog V0a=some (h0T .few):=by kernel_rfl
theorem c0X:b0f Tryz.prog V0b=some (p0h .few):=by kernel_rfl
theorem c0K:b0f Tryz.prog V0c=some (h0U .few):=by kernel_rfl
theorem d0t:b0f Tryz.prog V0d=some (e0n .few):=by kernel_rfl
theorem c0Y:b0f Tryz.prog V0e=some (x0E .few):=by kernel_rfl
theorem d0r:b0f Tryz.prog n0I=some M0N:=by kernel_rfl
theorem c0A:b0f Tryz.prog y0n=some M0O:=by kernel_rfl
theorem c0p:b0f Tryz.prog V0f=some (f0I .all):=by kernel_rfl
theorem c0s:b0f Tryz.prog t0z=some M0P:=by kernel_rfl
theorem B0r:b0f Tryz.prog A0p=some M0Q:=by kernel_rfl
theorem c0v:b0f Tryz.prog r0J=some M0R:=by kernel_rfl
theorem B0v:b0f Tryz.prog y0o=some M0S:=by kernel_rfl
theorem c0u:b0f Tryz.prog V0g=some (r0e .all):=by kernel_rfl
theorem t0Q:b0f Tryz.prog A0q=some M0T:=by kernel_rfl
theorem s0j:b0f Tryz.prog A0r=some M0U:=by kernel_rfl
theorem g0L:b0f Tryz.prog A0s=some M0V:=by kernel_rfl
theorem d0N:b0f Tryz.prog n0J=some M0W:=by kernel_rfl
theorem c0R:b0f Tryz.prog y0p=some M0X:=by kernel_rfl
theorem c0B:b0f Tryz.prog V0h=some (f0I .few):=by kernel_rfl
theorem c0J:b0f Tryz.prog t0A=some M0Y:=by kernel_rfl
theorem c0M:b0f Tryz.prog r0K=some M0Z:=by kernel_rfl
theorem c0L:b0f Tryz.prog V0i=some (r0e .few):=by kernel_rfl
theorem q0h:b0f Tryz.prog A0t=some N0a:=by kernel_rfl
theorem q0g:b0f Tryz.prog y0q=some N0b:=by kernel_rfl
theorem y0K:b0f Tryz.prog A0u=some N0c:=by kernel_rfl
theorem y0H:b0f Tryz.prog A0v=some N0d:=by kernel_rfl
theorem y0G:b0f Tryz.prog A0w=some N0e:=by kernel_rfl
end
end Go.Proofs.YtjlohmnnldbjoaaGreat.AI
