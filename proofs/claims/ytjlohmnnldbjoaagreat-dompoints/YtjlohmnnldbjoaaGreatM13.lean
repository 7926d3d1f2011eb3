/- Part 14 of the proof: AiTab1. -/
import Derived.Test.YtjlohmnnldbjoaaGreatChecked
import Derived.Test.YtjlohmnnldbjoaaGreatM04
set_option linter.unusedVariables false
set_option linter.unusedSimpArgs false
set_option linter.unusedSectionVars false

/- The small code is the program's: printed. -/
namespace Go.Proofs.YtjlohmnnldbjoaaGreat.AI
open Go

theorem p_escarpmentref1_NormRat : cFun Tryz.prog f_73 = some s_73 := by kernel_rfl
theorem p_escarpmentref1_Cmp : cFun Tryz.prog f_74 = some s_74 := by kernel_rfl
theorem p_escarpmentref1_Mul : cFun Tryz.prog f_75 = some s_75 := by kernel_rfl
theorem p_escarpmentref1_mk : cFun Tryz.prog f_76 = some s_76 := by kernel_rfl
theorem p_lp_Right : cFun Tryz.prog f_77 = some s_77 := by kernel_rfl
theorem p_simplex_Any : cFun Tryz.prog f_78 = some s_78 := by kernel_rfl
theorem p_escarpmentref17_noughts : cFun Tryz.prog f_79 = some s_79 := by kernel_rfl
theorem p_escarpmentref1_nought : cFun Tryz.prog f_81 = some s_81 := by kernel_rfl
theorem p_escarpmentref1_AddRat : cFun Tryz.prog f_82 = some s_82 := by kernel_rfl
theorem p_escarpmentref1_MulRat : cFun Tryz.prog f_83 = some s_83 := by kernel_rfl
theorem p_dom_none_1 : cFun Tryz.prog f_84 = some s_84 := by kernel_rfl
theorem p_rat_right : cFun Tryz.prog f_85 = some s_85 := by kernel_rfl
theorem p_rat_least : cFun Tryz.prog f_86 = some s_86 := by kernel_rfl
theorem p_rat_fold_api_Int : cFun Tryz.prog f_87 = some s_87 := by kernel_rfl
theorem p_num_Add : cFun Tryz.prog f_88 = some s_88 := by kernel_rfl
theorem p_num_Mul : cFun Tryz.prog f_89 = some s_89 := by kernel_rfl
theorem p_rat_Of : cFun Tryz.prog f_90 = some s_90 := by kernel_rfl
theorem p_rat_Mul : cFun Tryz.prog f_91 = some s_91 := by kernel_rfl
theorem p_ext_right : cFun Tryz.prog f_92 = some s_92 := by kernel_rfl
theorem p_rat_Cmp : cFun Tryz.prog f_93 = some s_93 := by kernel_rfl
theorem p_escarpmentref1_SameRat : cFun Tryz.prog f_94 = some s_94 := by kernel_rfl
theorem p_escarpmentref1_MayRat : cFun Tryz.prog f_95 = some s_95 := by kernel_rfl
theorem p_escarpmentref1_zero : cFun Tryz.prog f_96 = some s_96 := by kernel_rfl
theorem p_rat_May : cFun Tryz.prog f_97 = some s_97 := by kernel_rfl
theorem p_slices_IndexFunc_sl_api_Ext_api_Ext : cFun Tryz.prog f_98 = some s_98 := by kernel_rfl
theorem p_ext_none : cFun Tryz.prog f_99 = some s_99 := by kernel_rfl
theorem p_escarpmentref1_Sub : cFun Tryz.prog f_104 = some s_104 := by kernel_rfl
theorem p_escarpmentref1_norm : cFun Tryz.prog f_105 = some s_105 := by kernel_rfl
theorem p_escarpmentref1_mul : cFun Tryz.prog f_106 = some s_106 := by kernel_rfl
theorem p_escarpmentref1_trim : cFun Tryz.prog f_107 = some s_107 := by kernel_rfl
theorem p_slices_ContainsFunc_sl_sl_api_Rat_sl_api_Rat : cFun Tryz.prog f_108 = some s_108 := by kernel_rfl
theorem p_lp_Right_1 : cFun Tryz.prog f_109 = some s_109 := by kernel_rfl
theorem p_simplex_scale : cFun Tryz.prog f_110 = some s_110 := by kernel_rfl
theorem p_simplex_solved_api_Int_simplex_all : cFun Tryz.prog f_112 = some s_112 := by kernel_rfl
theorem p_escarpmentref1_Quo : cFun Tryz.prog f_114 = some s_114 := by kernel_rfl
theorem p_escarpmentref1_Add : cFun Tryz.prog f_115 = some s_115 := by kernel_rfl
theorem p_rat_zero : cFun Tryz.prog f_116 = some s_116 := by kernel_rfl
theorem p_rat_one : cFun Tryz.prog f_117 = some s_117 := by kernel_rfl
theorem p_rat_Quo : cFun Tryz.prog f_118 = some s_118 := by kernel_rfl
theorem p_num_limbs : cFun Tryz.prog f_119 = some s_119 := by kernel_rfl
theorem p_num_neg : cFun Tryz.prog f_120 = some s_120 := by kernel_rfl
theorem p_num_made : cFun Tryz.prog f_121 = some s_121 := by kernel_rfl
theorem p_num_plus : cFun Tryz.prog f_122 = some s_122 := by kernel_rfl
theorem p_num_cmp : cFun Tryz.prog f_123 = some s_123 := by kernel_rfl
theorem p_num_minus : cFun Tryz.prog f_124 = some s_124 := by kernel_rfl

end Go.Proofs.YtjlohmnnldbjoaaGreat.AI
