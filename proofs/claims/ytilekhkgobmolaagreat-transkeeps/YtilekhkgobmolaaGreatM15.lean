/- Part 16 of the proof. -/
import Derived.Test.YtilekhkgobmolaaGreatChecked
import Derived.Test.YtilekhkgobmolaaGreatM04
set_option linter.unusedVariables false
set_option linter.unusedSimpArgs false
set_option linter.unusedSectionVars false
namespace Go.Proofs.YtilekhkgobmolaaGreat.AI
section
open Go
theorem g0E:b0e Tryz.prog b1e=some e1I:=by kernel_rfl
theorem h0B:b0e Tryz.prog u0I=some e1J:=by kernel_rfl
theorem i0u:b0e Tryz.prog Z0l=some e1K:=by kernel_rfl
theorem i0s:b0e Tryz.prog Z0m=some e1L:=by kernel_rfl
theorem i0x:b0e Tryz.prog X0i=some e1M:=by kernel_rfl
theorem h0C:b0e Tryz.prog B0J=some e1N:=by kernel_rfl
theorem q0V:b0e Tryz.prog b1f=some e1O:=by kernel_rfl
theorem q0Q:b0e Tryz.prog b1g=some e1P:=by kernel_rfl
theorem C0r:b0e Tryz.prog Z0n=some e1Q:=by kernel_rfl
theorem d0d:b0e Tryz.prog b1h=some e1R:=by kernel_rfl
theorem o0x:b0e Tryz.prog b1i=some e1S:=by kernel_rfl
theorem d0x:b0e Tryz.prog b1j=some e1T:=by kernel_rfl
theorem L0W:b0e Tryz.prog x0e=some e1U:=by kernel_rfl
theorem e0b:b0e Tryz.prog Z0o=some e1V:=by kernel_rfl
theorem q0Y:b0e Tryz.prog O0a=some e1W:=by kernel_rfl
theorem C0y:b0e Tryz.prog L0u=some e1X:=by kernel_rfl
theorem C0F:b0e Tryz.prog O0b=some e1Y:=by kernel_rfl
theorem c0r:b0e Tryz.prog b1k=some e1Z:=by kernel_rfl
theorem t0e:b0e Tryz.prog b1l=some f1a:=by kernel_rfl
theorem m0S:b0e Tryz.prog b1m=some f1b:=by kernel_rfl
theorem d0F:b0e Tryz.prog d1B=some (g0a .all):=by kernel_rfl
theorem u0Y:b0e Tryz.prog B0K=some f1c:=by kernel_rfl
theorem u0X:b0e Tryz.prog Z0p=some f1d:=by kernel_rfl
theorem j0Q:b0e Tryz.prog b1n=some f1e:=by kernel_rfl
theorem C0s:b0e Tryz.prog B0L=some f1f:=by kernel_rfl
theorem C0x:b0e Tryz.prog s0G=some f1g:=by kernel_rfl
theorem g0C:b0e Tryz.prog b1o=some f1h:=by kernel_rfl
theorem i0r:b0e Tryz.prog b1p=some f1i:=by kernel_rfl
theorem i0A:b0e Tryz.prog b1q=some f1j:=by kernel_rfl
theorem i0B:b0e Tryz.prog X0j=some Z0C:=by kernel_rfl
theorem i0D:b0e Tryz.prog O0c=some f1k:=by kernel_rfl
theorem i0C:b0e Tryz.prog b1r=some f1l:=by kernel_rfl
theorem g0D:b0e Tryz.prog Z0q=some f1m:=by kernel_rfl
theorem i0v:b0e Tryz.prog X0k=some f1n:=by kernel_rfl
theorem g0F:b0e Tryz.prog Z0r=some f1o:=by kernel_rfl
theorem C0E:b0e Tryz.prog u0C=some M0s:=by kernel_rfl
theorem z0K:b0e Tryz.prog B0p=some M0t:=by kernel_rfl
theorem d0w:b0e Tryz.prog B0q=some M0u:=by kernel_rfl
theorem L0U:b0e Tryz.prog k0w=some M0v:=by kernel_rfl
theorem C0I:b0e Tryz.prog u0D=some M0w:=by kernel_rfl
theorem e0k:b0e Tryz.prog B0r=some M0x:=by kernel_rfl
theorem z0O:b0e Tryz.prog g0W=some M0y:=by kernel_rfl
theorem C0B:b0e Tryz.prog e0t=some M0z:=by kernel_rfl
theorem u0U:b0e Tryz.prog g0i=some M0A:=by kernel_rfl
theorem c0I:b0e Tryz.prog B0s=some M0B:=by kernel_rfl
theorem q0U:b0e Tryz.prog z0m=some M0C:=by kernel_rfl
theorem m0R:b0e Tryz.prog z0n=some M0D:=by kernel_rfl
theorem e0a:b0e Tryz.prog s0y=some (g0a .few):=by kernel_rfl
theorem d0Y:b0e Tryz.prog W0M=some (k0S .all):=by kernel_rfl
theorem c0U:b0e Tryz.prog W0N=some (p0U .all):=by kernel_rfl
theorem c0D:b0e Tryz.prog W0O=some (i0g .all):=by kernel_rfl
theorem c0S:b0e Tryz.prog W0P=some (p0S .all):=by kernel_rfl
theorem c0F:b0e Tryz.prog W0Q=some (i0h .all):=by kernel_rfl
theorem d0s:b0e Tryz.prog W0R=some (e0x .all):=by kernel_rfl
theorem c0T:b0e Tryz.prog W0S=some (p0T .all):=by kernel_rfl
theorem z0S:b0e Tryz.prog z0o=some M0E:=by kernel_rfl
theorem C0G:b0e Tryz.prog q0t=some M0F:=by kernel_rfl
theorem z0P:b0e Tryz.prog B0t=some M0G:=by kernel_rfl
theorem C0A:b0e Tryz.prog s0z=some M0H:=by kernel_rfl
theorem u0V:b0e Tryz.prog z0p=some M0I:=by kernel_rfl
