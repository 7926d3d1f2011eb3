/- Part 17 of the proof: AiTab3. -/
import Derived.Test.YtjlohmnnldbjoaaGreatChecked
import Derived.Test.YtjlohmnnldbjoaaGreatM04
set_option linter.unusedVariables false
set_option linter.unusedSimpArgs false
set_option linter.unusedSectionVars false
namespace Go.Proofs.YtjlohmnnldbjoaaGreat.AI
section
open Go
theorem i0A:b0j Tryz.prog y0d=some M0n:=by kernel_rfl
theorem k0d:b0j Tryz.prog n0B=some M0o:=by kernel_rfl
theorem k0e:b0j Tryz.prog r0E=some M0p:=by kernel_rfl
theorem l0b:b0j Tryz.prog j0Z=some M0q:=by kernel_rfl
theorem j0j:b0j Tryz.prog n0C=some M0r:=by kernel_rfl
theorem j0k:b0j Tryz.prog p0A=some M0s:=by kernel_rfl
theorem A0R:b0j Tryz.prog A0c=some M0t:=by kernel_rfl
theorem i0B:b0j Tryz.prog y0e=some M0u:=by kernel_rfl
theorem k0f:b0j Tryz.prog n0D=some M0v:=by kernel_rfl
theorem k0g:b0j Tryz.prog r0F=some M0w:=by kernel_rfl
theorem l0c:b0j Tryz.prog i0X=some J0i:=by kernel_rfl
theorem j0l:b0j Tryz.prog n0E=some M0x:=by kernel_rfl
theorem j0m:b0j Tryz.prog p0B=some M0y:=by kernel_rfl
theorem m0h:b0j Tryz.prog y0f=some M0z:=by kernel_rfl
theorem K0H:b0j Tryz.prog A0d=some M0A:=by kernel_rfl
theorem l0d:b0j Tryz.prog t0q=some J0j:=by kernel_rfl
theorem f0M:b0j Tryz.prog X0m=some Z0U:=by kernel_rfl
end
end Go.Proofs.YtjlohmnnldbjoaaGreat.AI
