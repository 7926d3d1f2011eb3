/- Part 16 of the proof: AiTab2. -/
import Derived.Test.YtjlohmnnldbjoaaGreatChecked
import Derived.Test.YtjlohmnnldbjoaaGreatM04
set_option linter.unusedVariables false
set_option linter.unusedSimpArgs false
set_option linter.unusedSectionVars false
namespace Go.Proofs.YtjlohmnnldbjoaaGreat.AI
section
open Go
theorem l0a:b0j Tryz.prog f0F=some L0A:=by kernel_rfl
theorem K0G:b0j Tryz.prog k0Z=some L0B:=by kernel_rfl
theorem A0L:b0j Tryz.prog n0y=some L0C:=by kernel_rfl
theorem h0P:b0j Tryz.prog x0T=some L0D:=by kernel_rfl
theorem h0Q:b0j Tryz.prog t0l=some L0E:=by kernel_rfl
theorem A0O:b0j Tryz.prog r0x=some L0F:=by kernel_rfl
theorem y0x:b0j Tryz.prog x0U=some L0G:=by kernel_rfl
theorem A0N:b0j Tryz.prog r0y=some L0H:=by kernel_rfl
theorem h0S:b0j Tryz.prog t0m=some L0I:=by kernel_rfl
theorem c0u:b0j Tryz.prog z0P=some L0J:=by kernel_rfl
theorem p0Z:b0j Tryz.prog x0V=some L0K:=by kernel_rfl
theorem m0i:b0j Tryz.prog x0W=some L0L:=by kernel_rfl
theorem d0J:b0j Tryz.prog r0z=some (f0z .few):=by kernel_rfl
theorem d0H:b0j Tryz.prog T0A=some (k0s .all):=by kernel_rfl
theorem c0F:b0j Tryz.prog T0B=some (o0W .all):=by kernel_rfl
theorem c0p:b0j Tryz.prog T0C=some (h0E .all):=by kernel_rfl
theorem c0D:b0j Tryz.prog T0D=some (o0V .all):=by kernel_rfl
theorem c0r:b0j Tryz.prog T0E=some (h0F .all):=by kernel_rfl
theorem d0d:b0j Tryz.prog T0F=some (e0j .all):=by kernel_rfl
theorem c0E:b0j Tryz.prog T0G=some (x0m .all):=by kernel_rfl
theorem h0N:b0j Tryz.prog x0X=some L0M:=by kernel_rfl
theorem h0V:b0j Tryz.prog z0Q=some L0N:=by kernel_rfl
theorem h0W:b0j Tryz.prog t0n=some y0T:=by kernel_rfl
theorem h0Y:b0j Tryz.prog r0A=some L0O:=by kernel_rfl
theorem A0Q:b0j Tryz.prog r0B=some L0P:=by kernel_rfl
theorem A0M:b0j Tryz.prog l0T=some L0Q:=by kernel_rfl
theorem e0i:b0j Tryz.prog z0R=some L0R:=by kernel_rfl
theorem m0f:b0j Tryz.prog z0S=some L0S:=by kernel_rfl
theorem j0h:b0j Tryz.prog z0T=some L0T:=by kernel_rfl
theorem f0V:b0j Tryz.prog x0Y=some L0U:=by kernel_rfl
theorem d0S:b0j Tryz.prog T0H=some (k0s .few):=by kernel_rfl
theorem c0V:b0j Tryz.prog T0I=some (o0W .few):=by kernel_rfl
theorem c0G:b0j Tryz.prog T0J=some (h0E .few):=by kernel_rfl
theorem c0T:b0j Tryz.prog T0K=some (o0V .few):=by kernel_rfl
theorem c0I:b0j Tryz.prog T0L=some (h0F .few):=by kernel_rfl
theorem d0n:b0j Tryz.prog T0M=some (e0j .few):=by kernel_rfl
theorem c0U:b0j Tryz.prog T0N=some (x0m .few):=by kernel_rfl
theorem d0l:b0j Tryz.prog n0z=some L0V:=by kernel_rfl
theorem c0y:b0j Tryz.prog x0Z=some L0W:=by kernel_rfl
theorem c0o:b0j Tryz.prog T0O=some (f0y .all):=by kernel_rfl
theorem c0q:b0j Tryz.prog t0o=some L0X:=by kernel_rfl
theorem A0V:b0j Tryz.prog z0U=some L0Y:=by kernel_rfl
theorem c0t:b0j Tryz.prog r0C=some L0Z:=by kernel_rfl
theorem A0Z:b0j Tryz.prog y0a=some M0a:=by kernel_rfl
theorem c0s:b0j Tryz.prog T0P=some (q0W .all):=by kernel_rfl
theorem t0B:b0j Tryz.prog z0V=some M0b:=by kernel_rfl
theorem s0d:b0j Tryz.prog z0W=some M0c:=by kernel_rfl
theorem g0z:b0j Tryz.prog z0X=some M0d:=by kernel_rfl
theorem d0I:b0j Tryz.prog n0A=some M0e:=by kernel_rfl
theorem c0N:b0j Tryz.prog y0b=some M0f:=by kernel_rfl
theorem c0z:b0j Tryz.prog T0Q=some (f0y .few):=by kernel_rfl
theorem c0H:b0j Tryz.prog t0p=some M0g:=by kernel_rfl
theorem c0K:b0j Tryz.prog r0D=some M0h:=by kernel_rfl
theorem c0J:b0j Tryz.prog T0R=some (q0W .few):=by kernel_rfl
theorem p0X:b0j Tryz.prog z0Y=some M0i:=by kernel_rfl
theorem p0W:b0j Tryz.prog y0c=some M0j:=by kernel_rfl
theorem y0w:b0j Tryz.prog z0Z=some M0k:=by kernel_rfl
theorem y0t:b0j Tryz.prog A0a=some M0l:=by kernel_rfl
theorem y0s:b0j Tryz.prog A0b=some M0m:=by kernel_rfl
end
end Go.Proofs.YtjlohmnnldbjoaaGreat.AI
