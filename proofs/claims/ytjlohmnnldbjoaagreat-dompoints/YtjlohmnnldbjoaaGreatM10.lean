/- Part 11 of the proof: AiAwake. -/
import Derived.KernelRfl
import Derived.Test.YtjlohmnnldbjoaaGreatM04
import Derived.Test.YtjlohmnnldbjoaaGreatM09
set_option linter.unusedVariables false
set_option linter.unusedSimpArgs false
set_option linter.unusedSectionVars false

/- The document's example, run by the kernel: awake answers true. -/
namespace Go.Proofs.YtjlohmnnldbjoaaGreat.AI
open Go

noncomputable def envF : Env := ⟨(tabO (awakeTab ++ codeTab)).get none, env.quick, []⟩
theorem envF_know (f : FuncId) (args : List Value) : envF.know f args = none := by
  unfold Env.know envF; split <;> rfl

theorem awake_fast : isB true (callF envF.code envF.quick 50 0 f_17 [] .emp 0) = true := by kernel_rfl
theorem awake_run : ∃ H1, callA envF 50 0 f_17 [] #[] = .ok (.bool true, H1) := run_of_fast envF envF_know awake_fast

end Go.Proofs.YtjlohmnnldbjoaaGreat.AI
