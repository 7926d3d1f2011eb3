/- Part 17 of the proof: AiTab3. -/
import Derived.Test.YtjlohmnnldbjoaaGreatChecked
import Derived.Test.YtjlohmnnldbjoaaGreatM04
set_option linter.unusedVariables false
set_option linter.unusedSimpArgs false
set_option linter.unusedSectionVars false
namespace Go.Proofs.YtjlohmnnldbjoaaGreat.AI
section
open Go
theorem i0W:b0f Tryz.prog y0r=some N0f:=by kernel_rfl
theorem k0r:b0f Tryz.prog n0K=some N0g:=by kernel_rfl
theorem k0s:b0f Tryz.prog r0L=some N0h:=by kernel_rfl
theorem l0o:b0f Tryz.prog k0n=some N0i:=by kernel_rfl
theorem j0A:b0f Tryz.prog n0L=some N0j:=by kernel_rfl
theorem j0B:b0f Tryz.prog p0K=some N0k:=by kernel_rfl
theorem B0m:b0f Tryz.prog A0x=some N0l:=by kernel_rfl
theorem i0X:b0f Tryz.prog y0s=some N0m:=by kernel_rfl
theorem k0t:b0f Tryz.prog n0M=some N0n:=by kernel_rfl
theorem k0u:b0f Tryz.prog r0M=some N0o:=by kernel_rfl
theorem l0p:b0f Tryz.prog j0p=some J0U:=by kernel_rfl
theorem j0C:b0f Tryz.prog n0N=some N0p:=by kernel_rfl
theorem j0D:b0f Tryz.prog p0L=some N0q:=by kernel_rfl
theorem m0v:b0f Tryz.prog y0t=some N0r:=by kernel_rfl
theorem L0y:b0f Tryz.prog A0y=some N0s:=by kernel_rfl
theorem l0q:b0f Tryz.prog t0B=some J0V:=by kernel_rfl
theorem f0Y:b0f Tryz.prog N0M=some b1y:=by kernel_rfl
end
end Go.Proofs.YtjlohmnnldbjoaaGreat.AI
