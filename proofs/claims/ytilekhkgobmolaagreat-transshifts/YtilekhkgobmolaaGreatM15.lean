/- Part 16 of the proof: AiTab2. -/
import Derived.Test.YtilekhkgobmolaaGreatChecked
import Derived.Test.YtilekhkgobmolaaGreatM04
set_option linter.unusedVariables false
set_option linter.unusedSimpArgs false
set_option linter.unusedSectionVars false
namespace Go.Proofs.YtilekhkgobmolaaGreat.AI
section
open Go
theorem j0J:b0l Tryz.prog f0z=some H0B:=by kernel_rfl
theorem y0T:b0l Tryz.prog q0k=some H0C:=by kernel_rfl
theorem w0x:b0l Tryz.prog w0b=some H0D:=by kernel_rfl
theorem y0Q:b0l Tryz.prog m0g=some H0E:=by kernel_rfl
theorem y0S:b0l Tryz.prog q0l=some H0F:=by kernel_rfl
theorem d0T:b0l Tryz.prog x0Z=some H0G:=by kernel_rfl
theorem y0R:b0l Tryz.prog k0B=some H0H:=by kernel_rfl
theorem d0L:b0l Tryz.prog O0h=some (i0Z .few):=by kernel_rfl
theorem c0M:b0l Tryz.prog O0i=some (n0J .few):=by kernel_rfl
theorem c0z:b0l Tryz.prog O0j=some (g0T .few):=by kernel_rfl
theorem c0K:b0l Tryz.prog O0k=some (n0H .few):=by kernel_rfl
theorem c0B:b0l Tryz.prog O0l=some (g0U .few):=by kernel_rfl
theorem d0k:b0l Tryz.prog O0m=some (d0W .few):=by kernel_rfl
theorem c0L:b0l Tryz.prog O0n=some (n0I .few):=by kernel_rfl
theorem d0i:b0l Tryz.prog m0h=some H0I:=by kernel_rfl
theorem c0o:b0l Tryz.prog w0c=some H0J:=by kernel_rfl
theorem c0b:b0l Tryz.prog O0o=some (f0q .all):=by kernel_rfl
theorem c0g:b0l Tryz.prog r0R=some H0K:=by kernel_rfl
theorem z0a:b0l Tryz.prog y0a=some H0L:=by kernel_rfl
theorem c0j:b0l Tryz.prog q0m=some H0M:=by kernel_rfl
theorem z0e:b0l Tryz.prog w0d=some H0N:=by kernel_rfl
theorem c0i:b0l Tryz.prog O0p=some (h0E .all):=by kernel_rfl
theorem k0O:b0l Tryz.prog y0b=some H0O:=by kernel_rfl
theorem i0f:b0l Tryz.prog y0c=some H0P:=by kernel_rfl
theorem s0g:b0l Tryz.prog y0d=some H0Q:=by kernel_rfl
theorem q0J:b0l Tryz.prog y0e=some H0R:=by kernel_rfl
theorem d0z:b0l Tryz.prog m0i=some H0S:=by kernel_rfl
theorem c0G:b0l Tryz.prog w0e=some H0T:=by kernel_rfl
theorem c0p:b0l Tryz.prog O0q=some (f0q .few):=by kernel_rfl
theorem c0A:b0l Tryz.prog r0S=some H0U:=by kernel_rfl
theorem c0D:b0l Tryz.prog q0n=some H0V:=by kernel_rfl
theorem c0C:b0l Tryz.prog O0r=some (h0E .few):=by kernel_rfl
theorem o0L:b0l Tryz.prog y0f=some H0W:=by kernel_rfl
theorem o0K:b0l Tryz.prog w0f=some H0X:=by kernel_rfl
theorem w0w:b0l Tryz.prog y0g=some H0Y:=by kernel_rfl
theorem w0t:b0l Tryz.prog y0h=some H0Z:=by kernel_rfl
theorem w0s:b0l Tryz.prog y0i=some I0a:=by kernel_rfl
theorem h0A:b0l Tryz.prog w0g=some I0b:=by kernel_rfl
theorem i0N:b0l Tryz.prog k0C=some I0c:=by kernel_rfl
theorem i0O:b0l Tryz.prog q0o=some I0d:=by kernel_rfl
theorem j0K:b0l Tryz.prog i0I=some I0e:=by kernel_rfl
theorem i0h:b0l Tryz.prog m0j=some I0f:=by kernel_rfl
theorem i0i:b0l Tryz.prog o0m=some I0g:=by kernel_rfl
theorem y0W:b0l Tryz.prog y0j=some I0h:=by kernel_rfl
theorem h0B:b0l Tryz.prog w0h=some I0i:=by kernel_rfl
theorem i0P:b0l Tryz.prog k0D=some I0j:=by kernel_rfl
theorem i0Q:b0l Tryz.prog q0p=some I0k:=by kernel_rfl
theorem j0L:b0l Tryz.prog h0V=some F0o:=by kernel_rfl
theorem i0j:b0l Tryz.prog m0k=some I0l:=by kernel_rfl
theorem i0k:b0l Tryz.prog o0n=some I0m:=by kernel_rfl
theorem k0Q:b0l Tryz.prog w0i=some I0n:=by kernel_rfl
theorem G0O:b0l Tryz.prog y0k=some I0o:=by kernel_rfl
theorem j0M:b0l Tryz.prog r0T=some F0p:=by kernel_rfl
theorem f0F:b0l Tryz.prog f_9=some s_9:=by kernel_rfl
end
end Go.Proofs.YtilekhkgobmolaaGreat.AI
