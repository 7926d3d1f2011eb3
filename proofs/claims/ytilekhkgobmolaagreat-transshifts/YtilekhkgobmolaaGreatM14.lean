/- Part 15 of the proof: AiTab1. -/
import Derived.Test.YtilekhkgobmolaaGreatChecked
import Derived.Test.YtilekhkgobmolaaGreatM04
set_option linter.unusedVariables false
set_option linter.unusedSimpArgs false
set_option linter.unusedSectionVars false
namespace Go.Proofs.YtilekhkgobmolaaGreat.AI
section
open Go
theorem g0t:b0l Tryz.prog Q0s=some U0T:=by kernel_rfl
theorem o0O:b0l Tryz.prog S0b=some U0U:=by kernel_rfl
theorem o0J:b0l Tryz.prog S0c=some U0V:=by kernel_rfl
theorem y0O:b0l Tryz.prog Q0t=some U0W:=by kernel_rfl
theorem c0H:b0l Tryz.prog S0d=some U0X:=by kernel_rfl
theorem m0u:b0l Tryz.prog S0e=some U0Y:=by kernel_rfl
theorem d0b:b0l Tryz.prog S0f=some U0Z:=by kernel_rfl
theorem G0P:b0l Tryz.prog t0Z=some V0a:=by kernel_rfl
theorem d0B:b0l Tryz.prog Q0u=some V0b:=by kernel_rfl
theorem o0R:b0l Tryz.prog I0P=some V0c:=by kernel_rfl
theorem y0V:b0l Tryz.prog G0t=some V0d:=by kernel_rfl
theorem z0c:b0l Tryz.prog I0Q=some V0e:=by kernel_rfl
theorem b0X:b0l Tryz.prog S0g=some V0f:=by kernel_rfl
theorem q0I:b0l Tryz.prog S0h=some V0g:=by kernel_rfl
theorem k0S:b0l Tryz.prog S0i=some V0h:=by kernel_rfl
theorem d0j:b0l Tryz.prog U0a=some (f0r .all):=by kernel_rfl
theorem s0i:b0l Tryz.prog y0m=some V0i:=by kernel_rfl
theorem s0h:b0l Tryz.prog Q0v=some V0j:=by kernel_rfl
theorem i0g:b0l Tryz.prog S0j=some V0k:=by kernel_rfl
theorem y0P:b0l Tryz.prog y0n=some V0l:=by kernel_rfl
theorem y0U:b0l Tryz.prog q0q=some V0m:=by kernel_rfl
theorem z0b:b0l Tryz.prog r0P=some H0k:=by kernel_rfl
theorem w0q:b0l Tryz.prog x0U=some H0l:=by kernel_rfl
theorem d0a:b0l Tryz.prog x0V=some H0m:=by kernel_rfl
theorem G0N:b0l Tryz.prog i0H=some H0n:=by kernel_rfl
theorem z0f:b0l Tryz.prog r0Q=some H0o:=by kernel_rfl
theorem d0M:b0l Tryz.prog x0W=some H0p:=by kernel_rfl
theorem w0u:b0l Tryz.prog f0Y=some H0q:=by kernel_rfl
theorem y0Y:b0l Tryz.prog d0S=some H0r:=by kernel_rfl
theorem s0e:b0l Tryz.prog f0y=some H0s:=by kernel_rfl
theorem c0k:b0l Tryz.prog x0X=some H0t:=by kernel_rfl
theorem o0N:b0l Tryz.prog v0X=some H0u:=by kernel_rfl
theorem k0R:b0l Tryz.prog v0Y=some H0v:=by kernel_rfl
theorem d0A:b0l Tryz.prog q0i=some (f0r .few):=by kernel_rfl
theorem d0y:b0l Tryz.prog O0a=some (i0Z .all):=by kernel_rfl
theorem c0y:b0l Tryz.prog O0b=some (n0J .all):=by kernel_rfl
theorem c0f:b0l Tryz.prog O0c=some (g0T .all):=by kernel_rfl
theorem c0w:b0l Tryz.prog O0d=some (n0H .all):=by kernel_rfl
theorem c0h:b0l Tryz.prog O0e=some (g0U .all):=by kernel_rfl
theorem c0U:b0l Tryz.prog O0f=some (d0W .all):=by kernel_rfl
theorem c0x:b0l Tryz.prog O0g=some (n0I .all):=by kernel_rfl
theorem w0y:b0l Tryz.prog v0Z=some H0w:=by kernel_rfl
theorem z0d:b0l Tryz.prog o0l=some H0x:=by kernel_rfl
theorem w0v:b0l Tryz.prog x0Y=some H0y:=by kernel_rfl
theorem y0X:b0l Tryz.prog q0j=some H0z:=by kernel_rfl
theorem s0f:b0l Tryz.prog w0a=some H0A:=by kernel_rfl
end
end Go.Proofs.YtilekhkgobmolaaGreat.AI
