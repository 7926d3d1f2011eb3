/- Part 16 of the proof: AiTab3. -/
import Derived.Test.YtjlohmnnldbjoaaGreatChecked
import Derived.Test.YtjlohmnnldbjoaaGreatM04
set_option linter.unusedVariables false
set_option linter.unusedSimpArgs false
set_option linter.unusedSectionVars false

/- The small code is the program's: printed. -/
namespace Go.Proofs.YtjlohmnnldbjoaaGreat.AI
open Go

theorem p_simplex_all_cross : cFun Tryz.prog f_201 = some s_201 := by kernel_rfl
theorem p_simplex_all_neg : cFun Tryz.prog f_202 = some s_202 := by kernel_rfl
theorem p_simplex_all_num : cFun Tryz.prog f_203 = some s_203 := by kernel_rfl
theorem p_simplex_all_of : cFun Tryz.prog f_204 = some s_204 := by kernel_rfl
theorem p_simplex_all_sign : cFun Tryz.prog f_205 = some s_205 := by kernel_rfl
theorem p_simplex_all_step : cFun Tryz.prog f_206 = some s_206 := by kernel_rfl
theorem p_num_Sub : cFun Tryz.prog f_207 = some s_207 := by kernel_rfl
theorem p_simplex_few_cross : cFun Tryz.prog f_208 = some s_208 := by kernel_rfl
theorem p_simplex_few_neg : cFun Tryz.prog f_209 = some s_209 := by kernel_rfl
theorem p_simplex_few_num : cFun Tryz.prog f_210 = some s_210 := by kernel_rfl
theorem p_simplex_few_of : cFun Tryz.prog f_211 = some s_211 := by kernel_rfl
theorem p_simplex_few_sign : cFun Tryz.prog f_212 = some s_212 := by kernel_rfl
theorem p_simplex_few_step : cFun Tryz.prog f_213 = some s_213 := by kernel_rfl
theorem p_simplex_order : cFun Tryz.prog f_214 = some s_214 := by kernel_rfl
theorem p_num_To : cFun Tryz.prog f_215 = some s_215 := by kernel_rfl
theorem p_simplex_within : cFun Tryz.prog f_216 = some s_216 := by kernel_rfl
theorem p_escarpmentlaw18_awake : cFun Tryz.prog f_17 = some s_17 := by kernel_rfl

end Go.Proofs.YtjlohmnnldbjoaaGreat.AI
