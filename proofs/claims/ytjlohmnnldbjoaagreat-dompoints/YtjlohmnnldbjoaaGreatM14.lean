/- Part 15 of the proof: AiTab2. -/
import Derived.Test.YtjlohmnnldbjoaaGreatChecked
import Derived.Test.YtjlohmnnldbjoaaGreatM04
set_option linter.unusedVariables false
set_option linter.unusedSimpArgs false
set_option linter.unusedSectionVars false

/- The small code is the program's: printed. -/
namespace Go.Proofs.YtjlohmnnldbjoaaGreat.AI
open Go

theorem p_num_low_uint64 : cFun Tryz.prog f_125 = some s_125 := by kernel_rfl
theorem p_num_Of : cFun Tryz.prog f_126 = some s_126 := by kernel_rfl
theorem p_num_Cmp : cFun Tryz.prog f_127 = some s_127 := by kernel_rfl
theorem p_escarpmentref1_Same : cFun Tryz.prog f_128 = some s_128 := by kernel_rfl
theorem p_escarpmentref1_Gcd : cFun Tryz.prog f_129 = some s_129 := by kernel_rfl
theorem p_escarpmentref1_May : cFun Tryz.prog f_130 = some s_130 := by kernel_rfl
theorem p_num_May : cFun Tryz.prog f_131 = some s_131 := by kernel_rfl
theorem p_rat_none : cFun Tryz.prog f_132 = some s_132 := by kernel_rfl
theorem p_num_Gcd : cFun Tryz.prog f_133 = some s_133 := by kernel_rfl
theorem p_escarpmentref1_Neg : cFun Tryz.prog f_134 = some s_134 := by kernel_rfl
theorem p_slices_IndexFunc_sl_sl_api_Rat_sl_api_Rat : cFun Tryz.prog f_135 = some s_135 := by kernel_rfl
theorem p_simplex_row : cFun Tryz.prog f_136 = some s_136 := by kernel_rfl
theorem p_simplex_right : cFun Tryz.prog f_137 = some s_137 := by kernel_rfl
theorem p_simplex_solved_int64_simplex_few : cFun Tryz.prog f_139 = some s_139 := by kernel_rfl
theorem p_simplex_made_api_Int_simplex_all : cFun Tryz.prog f_140 = some s_140 := by kernel_rfl
theorem p_simplex_tableau_api_Int_simplex_all_run : cFun Tryz.prog f_141 = some s_141 := by kernel_rfl
theorem p_simplex_tableau_api_Int_simplex_all_duals : cFun Tryz.prog f_142 = some s_142 := by kernel_rfl
theorem p_simplex_tableau_api_Int_simplex_all_out : cFun Tryz.prog f_143 = some s_143 := by kernel_rfl
theorem p_simplex_tableau_api_Int_simplex_all_point : cFun Tryz.prog f_144 = some s_144 := by kernel_rfl
theorem p_simplex_solved_api_Int_simplex_all_1 : cFun Tryz.prog f_145 = some s_145 := by kernel_rfl
theorem p_simplex_tableau_api_Int_simplex_all_ray : cFun Tryz.prog f_146 = some s_146 := by kernel_rfl
theorem p_escarpmentref1_Div : cFun Tryz.prog f_147 = some s_147 := by kernel_rfl
theorem p_escarpmentref1_add : cFun Tryz.prog f_148 = some s_148 := by kernel_rfl
theorem p_escarpmentref1_cmp : cFun Tryz.prog f_149 = some s_149 := by kernel_rfl
theorem p_escarpmentref1_sub : cFun Tryz.prog f_150 = some s_150 := by kernel_rfl
theorem p_num_Neg : cFun Tryz.prog f_151 = some s_151 := by kernel_rfl
theorem p_num_Div : cFun Tryz.prog f_152 = some s_152 := by kernel_rfl
theorem p_slices_Clone_sl_uint32_uint32 : cFun Tryz.prog f_153 = some s_153 := by kernel_rfl
theorem p_num_order_int : cFun Tryz.prog f_154 = some s_154 := by kernel_rfl
theorem p_num_order_uint32 : cFun Tryz.prog f_155 = some s_155 := by kernel_rfl
theorem p_escarpmentref1_divmod : cFun Tryz.prog f_156 = some s_156 := by kernel_rfl
theorem p_simplex_made_int64_simplex_few : cFun Tryz.prog f_157 = some s_157 := by kernel_rfl
theorem p_simplex_tableau_int64_simplex_few_run : cFun Tryz.prog f_158 = some s_158 := by kernel_rfl
theorem p_simplex_tableau_int64_simplex_few_duals : cFun Tryz.prog f_159 = some s_159 := by kernel_rfl
theorem p_simplex_tableau_int64_simplex_few_out : cFun Tryz.prog f_160 = some s_160 := by kernel_rfl
theorem p_simplex_tableau_int64_simplex_few_point : cFun Tryz.prog f_161 = some s_161 := by kernel_rfl
theorem p_simplex_solved_int64_simplex_few_1 : cFun Tryz.prog f_162 = some s_162 := by kernel_rfl
theorem p_simplex_tableau_int64_simplex_few_ray : cFun Tryz.prog f_163 = some s_163 := by kernel_rfl
theorem p_simplex_made_api_Int_simplex_all_1 : cFun Tryz.prog f_164 = some s_164 := by kernel_rfl
theorem p_simplex_tableau_api_Int_simplex_all_less : cFun Tryz.prog f_165 = some s_165 := by kernel_rfl
theorem p_simplex_tableau_api_Int_simplex_all_leaves : cFun Tryz.prog f_166 = some s_166 := by kernel_rfl
theorem p_simplex_tableau_api_Int_simplex_all_pivot : cFun Tryz.prog f_167 = some s_167 := by kernel_rfl
theorem p_rat_Div : cFun Tryz.prog f_168 = some s_168 := by kernel_rfl
theorem p_simplex_tableau_api_Int_simplex_all_value : cFun Tryz.prog f_169 = some s_169 := by kernel_rfl
theorem p_rat_Sub : cFun Tryz.prog f_170 = some s_170 := by kernel_rfl
theorem p_simplex_tableau_api_Int_simplex_all_ray_1 : cFun Tryz.prog f_171 = some s_171 := by kernel_rfl
theorem p_num_small : cFun Tryz.prog f_172 = some s_172 := by kernel_rfl
theorem p_num_divide : cFun Tryz.prog f_173 = some s_173 := by kernel_rfl
theorem p_escarpmentref1_twice : cFun Tryz.prog f_174 = some s_174 := by kernel_rfl
theorem p_simplex_made_int64_simplex_few_1 : cFun Tryz.prog f_175 = some s_175 := by kernel_rfl
theorem p_simplex_tableau_int64_simplex_few_less : cFun Tryz.prog f_176 = some s_176 := by kernel_rfl
theorem p_simplex_tableau_int64_simplex_few_leaves : cFun Tryz.prog f_177 = some s_177 := by kernel_rfl
theorem p_simplex_tableau_int64_simplex_few_pivot : cFun Tryz.prog f_178 = some s_178 := by kernel_rfl
theorem p_simplex_tableau_int64_simplex_few_value : cFun Tryz.prog f_179 = some s_179 := by kernel_rfl
theorem p_simplex_tableau_int64_simplex_few_ray_1 : cFun Tryz.prog f_180 = some s_180 := by kernel_rfl
theorem p_rat_negated : cFun Tryz.prog f_181 = some s_181 := by kernel_rfl
theorem p_num_shifted : cFun Tryz.prog f_182 = some s_182 := by kernel_rfl
theorem p_num_take : cFun Tryz.prog f_183 = some s_183 := by kernel_rfl
theorem p_num_give : cFun Tryz.prog f_184 = some s_184 := by kernel_rfl
theorem p_num_back : cFun Tryz.prog f_185 = some s_185 := by kernel_rfl

end Go.Proofs.YtjlohmnnldbjoaaGreat.AI
