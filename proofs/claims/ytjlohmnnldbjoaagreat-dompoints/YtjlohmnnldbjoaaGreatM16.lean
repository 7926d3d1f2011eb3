/- Part 17 of the proof: AiTabAll. -/
import Derived.Test.YtjlohmnnldbjoaaGreatM12
import Derived.Test.YtjlohmnnldbjoaaGreatM13
import Derived.Test.YtjlohmnnldbjoaaGreatM14
import Derived.Test.YtjlohmnnldbjoaaGreatM15
set_option linter.unusedVariables false
set_option linter.unusedSimpArgs false
set_option linter.unusedSectionVars false

/- Every function of the two environments is the program's. -/
namespace Go.Proofs.YtjlohmnnldbjoaaGreat.AI
open Go

theorem tabc {P : Program} {a : Nat × SFun} {l : List (Nat × SFun)} (h : cFun P a.1 = some a.2) (hl : ∀ p ∈ l, cFun P p.1 = some p.2) : ∀ p ∈ a :: l, cFun P p.1 = some p.2 := List.forall_mem_cons.2 ⟨h, hl⟩
theorem tabn {P : Program} : ∀ p ∈ ([] : List (Nat × SFun)), cFun P p.1 = some p.2 := fun _ h => by cases h

set_option maxRecDepth 20000 in
theorem codeTab_ok : ∀ p ∈ codeTab, cFun Tryz.prog p.1 = some p.2 :=
  tabc p_escarpmentlaw18_DomPoints (
  tabc p_escarpmentref1_OfRat (
  tabc p_dom_Empty (
  tabc p_escarpmentref17_Problem (
  tabc p_escarpmentlaw1_Num (
  tabc p_escarpmentlaw4_Great (
  tabc p_escarpmentlaw18_Great (
  tabc p_dom_Problem (
  tabc p_dom_Has (
  tabc p_escarpmentref17_Has (
  tabc p_escarpmentref17_SameLP (
  tabc p_escarpmentref17_Values (
  tabc p_escarpmentref17_Dead (
  tabc p_escarpmentref17_Interval (
  tabc p_dom_Right (
  tabc p_escarpmentref17_slots (
  tabc p_escarpmentref17_row (
  tabc p_escarpmentref17_few (
  tabc p_escarpmentref1_CmpRat (
  tabc p_escarpmentref1_Of (
  tabc p_simplex_Solve (
  tabc p_escarpmentref17_rows (
  tabc p_escarpmentref1_Dot (
  tabc p_escarpmentlaw2_Great (
  tabc p_dom_none (
  tabc p_dom_own (
  tabc p_rat_Add (
  tabc p_vec_Dot (
  tabc p_ext_Cmp (
  tabc p_ext_Of (
  tabc p_escarpmentref1_CmpExt (
  tabc p_escarpmentref1_SameRats (
  tabc p_escarpmentref17_Right (
  tabc p_escarpmentref1_MayExt (
  tabc p_escarpmentref1_NormExt (
  tabc p_templ_Right (
  tabc p_slices_ContainsFunc_sl_api_Ext_api_Ext (
  tabc p_dom_Right_1 (
  tabc p_ext_May (
  tabc p_escarpmentref1_NormRat (
  tabc p_escarpmentref1_Cmp (
  tabc p_escarpmentref1_Mul (
  tabc p_escarpmentref1_mk (
  tabc p_lp_Right (
  tabc p_simplex_Any (
  tabc p_escarpmentref17_noughts (
  tabc p_escarpmentref1_nought (
  tabc p_escarpmentref1_AddRat (
  tabc p_escarpmentref1_MulRat (
  tabc p_dom_none_1 (
  tabc p_rat_right (
  tabc p_rat_least (
  tabc p_rat_fold_api_Int (
  tabc p_num_Add (
  tabc p_num_Mul (
  tabc p_rat_Of (
  tabc p_rat_Mul (
  tabc p_ext_right (
  tabc p_rat_Cmp (
  tabc p_escarpmentref1_SameRat (
  tabc p_escarpmentref1_MayRat (
  tabc p_escarpmentref1_zero (
  tabc p_rat_May (
  tabc p_slices_IndexFunc_sl_api_Ext_api_Ext (
  tabc p_ext_none (
  tabc p_escarpmentref1_Sub (
  tabc p_escarpmentref1_norm (
  tabc p_escarpmentref1_mul (
  tabc p_escarpmentref1_trim (
  tabc p_slices_ContainsFunc_sl_sl_api_Rat_sl_api_Rat (
  tabc p_lp_Right_1 (
  tabc p_simplex_scale (
  tabc p_simplex_solved_api_Int_simplex_all (
  tabc p_escarpmentref1_Quo (
  tabc p_escarpmentref1_Add (
  tabc p_rat_zero (
  tabc p_rat_one (
  tabc p_rat_Quo (
  tabc p_num_limbs (
  tabc p_num_neg (
  tabc p_num_made (
  tabc p_num_plus (
  tabc p_num_cmp (
  tabc p_num_minus (
  tabc p_num_low_uint64 (
  tabc p_num_Of (
  tabc p_num_Cmp (
  tabc p_escarpmentref1_Same (
  tabc p_escarpmentref1_Gcd (
  tabc p_escarpmentref1_May (
  tabc p_num_May (
  tabc p_rat_none (
  tabc p_num_Gcd (
  tabc p_escarpmentref1_Neg (
  tabc p_slices_IndexFunc_sl_sl_api_Rat_sl_api_Rat (
  tabc p_simplex_row (
  tabc p_simplex_right (
  tabc p_simplex_solved_int64_simplex_few (
  tabc p_simplex_made_api_Int_simplex_all (
  tabc p_simplex_tableau_api_Int_simplex_all_run (
  tabc p_simplex_tableau_api_Int_simplex_all_duals (
  tabc p_simplex_tableau_api_Int_simplex_all_out (
  tabc p_simplex_tableau_api_Int_simplex_all_point (
  tabc p_simplex_solved_api_Int_simplex_all_1 (
  tabc p_simplex_tableau_api_Int_simplex_all_ray (
  tabc p_escarpmentref1_Div (
  tabc p_escarpmentref1_add (
  tabc p_escarpmentref1_cmp (
  tabc p_escarpmentref1_sub (
  tabc p_num_Neg (
  tabc p_num_Div (
  tabc p_slices_Clone_sl_uint32_uint32 (
  tabc p_num_order_int (
  tabc p_num_order_uint32 (
  tabc p_escarpmentref1_divmod (
  tabc p_simplex_made_int64_simplex_few (
  tabc p_simplex_tableau_int64_simplex_few_run (
  tabc p_simplex_tableau_int64_simplex_few_duals (
  tabc p_simplex_tableau_int64_simplex_few_out (
  tabc p_simplex_tableau_int64_simplex_few_point (
  tabc p_simplex_solved_int64_simplex_few_1 (
  tabc p_simplex_tableau_int64_simplex_few_ray (
  tabc p_simplex_made_api_Int_simplex_all_1 (
  tabc p_simplex_tableau_api_Int_simplex_all_less (
  tabc p_simplex_tableau_api_Int_simplex_all_leaves (
  tabc p_simplex_tableau_api_Int_simplex_all_pivot (
  tabc p_rat_Div (
  tabc p_simplex_tableau_api_Int_simplex_all_value (
  tabc p_rat_Sub (
  tabc p_simplex_tableau_api_Int_simplex_all_ray_1 (
  tabc p_num_small (
  tabc p_num_divide (
  tabc p_escarpmentref1_twice (
  tabc p_simplex_made_int64_simplex_few_1 (
  tabc p_simplex_tableau_int64_simplex_few_less (
  tabc p_simplex_tableau_int64_simplex_few_leaves (
  tabc p_simplex_tableau_int64_simplex_few_pivot (
  tabc p_simplex_tableau_int64_simplex_few_value (
  tabc p_simplex_tableau_int64_simplex_few_ray_1 (
  tabc p_rat_negated (
  tabc p_num_shifted (
  tabc p_num_take (
  tabc p_num_give (
  tabc p_num_back (
  tabc p_simplex_all_cross (
  tabc p_simplex_all_neg (
  tabc p_simplex_all_num (
  tabc p_simplex_all_of (
  tabc p_simplex_all_sign (
  tabc p_simplex_all_step (
  tabc p_num_Sub (
  tabc p_simplex_few_cross (
  tabc p_simplex_few_neg (
  tabc p_simplex_few_num (
  tabc p_simplex_few_of (
  tabc p_simplex_few_sign (
  tabc p_simplex_few_step (
  tabc p_simplex_order (
  tabc p_num_To (
  tabc p_simplex_within (
  tabn))))))))))))))))))))))))))))))))))))))))))))))))))))))))))))))))))))))))))))))))))))))))))))))))))))))))))))))))))))))))))))))))))))))))))))))))))))))))))))))))

set_option maxRecDepth 20000 in
theorem awakeTab_ok : ∀ p ∈ awakeTab, cFun Tryz.prog p.1 = some p.2 :=
  tabc p_escarpmentlaw18_awake (
  tabn)

end Go.Proofs.YtjlohmnnldbjoaaGreat.AI
