/- Part 13 of the proof: AiTab0. -/
import Derived.Test.YtjlohmnnldbjoaaGreatChecked
import Derived.Test.YtjlohmnnldbjoaaGreatM04
set_option linter.unusedVariables false
set_option linter.unusedSimpArgs false
set_option linter.unusedSectionVars false

/- The small code is the program's: printed. -/
namespace Go.Proofs.YtjlohmnnldbjoaaGreat.AI
open Go

theorem p_escarpmentlaw18_DomPoints : cFun Tryz.prog f_4 = some s_4 := by kernel_rfl
theorem p_escarpmentref1_OfRat : cFun Tryz.prog f_12 = some s_12 := by kernel_rfl
theorem p_dom_Empty : cFun Tryz.prog f_13 = some s_13 := by kernel_rfl
theorem p_escarpmentref17_Problem : cFun Tryz.prog f_14 = some s_14 := by kernel_rfl
theorem p_escarpmentlaw1_Num : cFun Tryz.prog f_15 = some s_15 := by kernel_rfl
theorem p_escarpmentlaw4_Great : cFun Tryz.prog f_18 = some s_18 := by kernel_rfl
theorem p_escarpmentlaw18_Great : cFun Tryz.prog f_19 = some s_19 := by kernel_rfl
theorem p_dom_Problem : cFun Tryz.prog f_20 = some s_20 := by kernel_rfl
theorem p_dom_Has : cFun Tryz.prog f_21 = some s_21 := by kernel_rfl
theorem p_escarpmentref17_Has : cFun Tryz.prog f_22 = some s_22 := by kernel_rfl
theorem p_escarpmentref17_SameLP : cFun Tryz.prog f_23 = some s_23 := by kernel_rfl
theorem p_escarpmentref17_Values : cFun Tryz.prog f_24 = some s_24 := by kernel_rfl
theorem p_escarpmentref17_Dead : cFun Tryz.prog f_25 = some s_25 := by kernel_rfl
theorem p_escarpmentref17_Interval : cFun Tryz.prog f_26 = some s_26 := by kernel_rfl
theorem p_dom_Right : cFun Tryz.prog f_27 = some s_27 := by kernel_rfl
theorem p_escarpmentref17_slots : cFun Tryz.prog f_35 = some s_35 := by kernel_rfl
theorem p_escarpmentref17_row : cFun Tryz.prog f_36 = some s_36 := by kernel_rfl
theorem p_escarpmentref17_few : cFun Tryz.prog f_37 = some s_37 := by kernel_rfl
theorem p_escarpmentref1_CmpRat : cFun Tryz.prog f_38 = some s_38 := by kernel_rfl
theorem p_escarpmentref1_Of : cFun Tryz.prog f_39 = some s_39 := by kernel_rfl
theorem p_simplex_Solve : cFun Tryz.prog f_40 = some s_40 := by kernel_rfl
theorem p_escarpmentref17_rows : cFun Tryz.prog f_41 = some s_41 := by kernel_rfl
theorem p_escarpmentref1_Dot : cFun Tryz.prog f_45 = some s_45 := by kernel_rfl
theorem p_escarpmentlaw2_Great : cFun Tryz.prog f_48 = some s_48 := by kernel_rfl
theorem p_dom_none : cFun Tryz.prog f_49 = some s_49 := by kernel_rfl
theorem p_dom_own : cFun Tryz.prog f_50 = some s_50 := by kernel_rfl
theorem p_rat_Add : cFun Tryz.prog f_51 = some s_51 := by kernel_rfl
theorem p_vec_Dot : cFun Tryz.prog f_52 = some s_52 := by kernel_rfl
theorem p_ext_Cmp : cFun Tryz.prog f_53 = some s_53 := by kernel_rfl
theorem p_ext_Of : cFun Tryz.prog f_54 = some s_54 := by kernel_rfl
theorem p_escarpmentref1_CmpExt : cFun Tryz.prog f_55 = some s_55 := by kernel_rfl
theorem p_escarpmentref1_SameRats : cFun Tryz.prog f_56 = some s_56 := by kernel_rfl
theorem p_escarpmentref17_Right : cFun Tryz.prog f_57 = some s_57 := by kernel_rfl
theorem p_escarpmentref1_MayExt : cFun Tryz.prog f_58 = some s_58 := by kernel_rfl
theorem p_escarpmentref1_NormExt : cFun Tryz.prog f_59 = some s_59 := by kernel_rfl
theorem p_templ_Right : cFun Tryz.prog f_60 = some s_60 := by kernel_rfl
theorem p_slices_ContainsFunc_sl_api_Ext_api_Ext : cFun Tryz.prog f_61 = some s_61 := by kernel_rfl
theorem p_dom_Right_1 : cFun Tryz.prog f_62 = some s_62 := by kernel_rfl
theorem p_ext_May : cFun Tryz.prog f_63 = some s_63 := by kernel_rfl

end Go.Proofs.YtjlohmnnldbjoaaGreat.AI
