/- Part 16 of the proof: AiTab3. -/
import Derived.Test.YtjlohmnnldbjoaaGreatChecked
import Derived.Test.YtjlohmnnldbjoaaGreatM03
set_option linter.unusedVariables false
set_option linter.unusedSimpArgs false
set_option linter.unusedSectionVars false
/- The small code is the program's: printed. -/
namespace Go.Proofs.YtjlohmnnldbjoaaGreat.AI
section
open Go
theorem g0X:b0s Tryz.prog p0i=some I0x:=by kernel_rfl
theorem i0l:b0s Tryz.prog g0Q=some I0y:=by kernel_rfl
theorem i0m:b0s Tryz.prog n0P=some I0z:=by kernel_rfl
theorem i0V:b0s Tryz.prog f0G=some I0A:=by kernel_rfl
theorem h0A:b0s Tryz.prog g0R=some I0B:=by kernel_rfl
theorem h0B:b0s Tryz.prog l0V=some I0C:=by kernel_rfl
theorem w0Z:b0s Tryz.prog w0n=some I0D:=by kernel_rfl
theorem g0Y:b0s Tryz.prog p0j=some I0E:=by kernel_rfl
theorem i0n:b0s Tryz.prog g0S=some I0F:=by kernel_rfl
theorem i0o:b0s Tryz.prog n0Q=some I0G:=by kernel_rfl
theorem i0W:b0s Tryz.prog f0m=some F0h:=by kernel_rfl
theorem h0C:b0s Tryz.prog g0T=some I0H:=by kernel_rfl
theorem h0D:b0s Tryz.prog l0W=some I0I:=by kernel_rfl
theorem k0c:b0s Tryz.prog u0x=some I0J:=by kernel_rfl
theorem G0r:b0s Tryz.prog w0o=some I0K:=by kernel_rfl
theorem i0X:b0s Tryz.prog p0k=some F0i:=by kernel_rfl
theorem f0s:b0s Tryz.prog Q0F=some S0T:=by kernel_rfl
end
end Go.Proofs.YtjlohmnnldbjoaaGreat.AI
