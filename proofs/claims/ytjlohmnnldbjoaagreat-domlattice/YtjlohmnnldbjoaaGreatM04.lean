/- Part 5 of the proof: AiCode2. -/
import Derived.Test.YtjlohmnnldbjoaaGreatM03
set_option linter.unusedVariables false
set_option linter.unusedSimpArgs false
set_option linter.unusedSectionVars false

/- The small code of the program's functions: printed. -/
namespace Go.Proofs.YtjlohmnnldbjoaaGreat.AI
open Go

def r_135_0 : List SOper := [⟨some 4, none, .mv (.const (.int .i64 0))⟩]
def r_135_1 : List SOper := [⟨some 6, none, .mv (.tmp 0)⟩,
  ⟨some 7, none, .len (.tmp 6)⟩,
  ⟨some 8, none, .mv (.const (.int .i64 0))⟩]
def r_135_2 : List SOper := [⟨some 9, none, .bin 0 .lss (.tmp 8) (.tmp 7)⟩]
def r_135_3 : List SOper := [⟨some 10, none, .mv (.tmp 8)⟩,
  ⟨some 5, none, .mv (.tmp 10)⟩]
def r_135_4 : List SOper := [⟨some 11, none, .mv (.tmp 1)⟩,
  ⟨some 12, none, .mv (.tmp 0)⟩,
  ⟨some 13, none, .mv (.tmp 5)⟩,
  ⟨some 14, none, .ia 1 (.tmp 12) (.tmp 13)⟩,
  ⟨some 15, none, .load false 1 (.tmp 14)⟩,
  ⟨some 16, none, .callv (.tmp 11) [(.tmp 15)] true⟩]
def r_135_5 : List SOper := [⟨some 17, none, .mv (.tmp 5)⟩,
  ⟨some 4, none, .mv (.tmp 17)⟩]
def r_135_6 : List SOper := [⟨some 18, none, .bin 0 .add (.tmp 8) (.const (.int .i64 1))⟩,
  ⟨some 8, none, .mv (.tmp 18)⟩]
def r_135_7 : List SOper := [⟨some 4, none, .mv (.const (.int .i64 (-1)))⟩]
def s_135 : SFun := ⟨2, 19, [.tmp 4],
  (.seq (.reg r_135_0) (.seq (.seq (.reg r_135_1) (.block 0 (.loop (.seq (.reg r_135_2) (.seq (.cond (.tmp 9) .skip (.exit 0)) (.seq (.block 1 (.seq (.reg r_135_3) (.seq (.reg r_135_4) (.cond (.tmp 16) (.seq (.reg r_135_5) .ret) .skip)))) (.reg r_135_6))))))) (.seq (.reg r_135_7) .ret)))⟩

def r_136_0 : List SOper := [⟨some 2, none, .mv (.const (.slice none 0 0))⟩,
  ⟨some 3, none, .alloc T_api_Rat [(.bool false), (.slice none 0 0), (.bool false), (.slice none 0 0)]⟩]
def r_136_1 : List SOper := [⟨some 21, none, .call f_126 [(.const (.int .i64 1))] true⟩,
  ⟨some 4, none, .alloc T_api_Int [(.bool false), (.slice none 0 0)]⟩,
  ⟨none, none, .store 2 (.tmp 4) (.tmp 21)⟩]
def r_136_2 : List SOper := [⟨some 22, none, .mv (.tmp 0)⟩,
  ⟨some 23, none, .len (.tmp 22)⟩,
  ⟨some 24, none, .mv (.const (.int .i64 0))⟩]
def r_136_3 : List SOper := [⟨some 25, none, .bin 0 .lss (.tmp 24) (.tmp 23)⟩]
def r_136_4 : List SOper := [⟨some 26, none, .ia 4 (.tmp 22) (.tmp 24)⟩,
  ⟨some 27, none, .load true 4 (.tmp 26)⟩,
  ⟨some 6, none, .alloc T_api_Rat [(.bool false), (.slice none 0 0), (.bool false), (.slice none 0 0)]⟩,
  ⟨none, none, .store 4 (.tmp 6) (.tmp 27)⟩]
def r_136_5 : List SOper := [⟨some 29, none, .fa 2 (.tmp 6)⟩,
  ⟨some 30, none, .load true 2 (.tmp 29)⟩,
  ⟨some 31, none, .load true 2 (.tmp 4)⟩,
  ⟨some 32, none, .fa 2 (.tmp 6)⟩,
  ⟨some 33, none, .load true 2 (.tmp 32)⟩,
  ⟨some 34, none, .call f_133 [(.tmp 31), (.tmp 33)] false⟩,
  ⟨some 35, none, .call f_152 [(.tmp 30), (.tmp 34)] false⟩,
  ⟨some 28, none, .mv (.tmp 35)⟩,
  ⟨some 36, none, .ext (.tmp 28) 0⟩,
  ⟨some 37, none, .ext (.tmp 28) 1⟩,
  ⟨some 38, none, .ext (.tmp 28) 2⟩,
  ⟨some 7, none, .alloc T_api_Int [(.bool false), (.slice none 0 0)]⟩,
  ⟨some 8, none, .alloc T_api_Int [(.bool false), (.slice none 0 0)]⟩,
  ⟨none, none, .store 2 (.tmp 7) (.tmp 36)⟩,
  ⟨none, none, .store 2 (.tmp 8) (.tmp 37)⟩,
  ⟨some 9, none, .mv (.tmp 38)⟩]
def r_136_6 : List SOper := [⟨some 39, none, .load true 2 (.tmp 4)⟩,
  ⟨some 40, none, .load true 2 (.tmp 7)⟩,
  ⟨some 41, none, .call f_89 [(.tmp 39), (.tmp 40)] true⟩,
  ⟨none, none, .store 2 (.tmp 4) (.tmp 41)⟩]
def r_136_7 : List SOper := [⟨some 42, none, .bin 0 .add (.tmp 24) (.const (.int .i64 1))⟩,
  ⟨some 24, none, .mv (.tmp 42)⟩]
def r_136_8 : List SOper := [⟨some 10, none, .mv (.const (.slice none 0 0))⟩]
def r_136_9 : List SOper := [⟨some 43, none, .build [(.bool false), (.slice none 0 0)] []⟩,
  ⟨some 11, none, .alloc T_api_Int [(.bool false), (.slice none 0 0)]⟩,
  ⟨none, none, .store 2 (.tmp 11) (.tmp 43)⟩]
def r_136_10 : List SOper := [⟨some 44, none, .mv (.tmp 0)⟩,
  ⟨some 45, none, .len (.tmp 44)⟩,
  ⟨some 46, none, .mv (.const (.int .i64 0))⟩]
def r_136_11 : List SOper := [⟨some 47, none, .bin 0 .lss (.tmp 46) (.tmp 45)⟩]
def r_136_12 : List SOper := [⟨some 48, none, .ia 4 (.tmp 44) (.tmp 46)⟩,
  ⟨some 49, none, .load true 4 (.tmp 48)⟩,
  ⟨some 13, none, .alloc T_api_Rat [(.bool false), (.slice none 0 0), (.bool false), (.slice none 0 0)]⟩,
  ⟨none, none, .store 4 (.tmp 13) (.tmp 49)⟩]
def r_136_13 : List SOper := [⟨some 51, none, .load true 2 (.tmp 4)⟩,
  ⟨some 52, none, .fa 2 (.tmp 13)⟩,
  ⟨some 53, none, .load true 2 (.tmp 52)⟩,
  ⟨some 54, none, .call f_152 [(.tmp 51), (.tmp 53)] true⟩,
  ⟨some 50, none, .mv (.tmp 54)⟩,
  ⟨some 55, none, .ext (.tmp 50) 0⟩,
  ⟨some 56, none, .ext (.tmp 50) 1⟩,
  ⟨some 57, none, .ext (.tmp 50) 2⟩,
  ⟨some 14, none, .alloc T_api_Int [(.bool false), (.slice none 0 0)]⟩,
  ⟨some 15, none, .alloc T_api_Int [(.bool false), (.slice none 0 0)]⟩,
  ⟨none, none, .store 2 (.tmp 14) (.tmp 55)⟩,
  ⟨none, none, .store 2 (.tmp 15) (.tmp 56)⟩,
  ⟨some 16, none, .mv (.tmp 57)⟩]
def r_136_14 : List SOper := [⟨some 58, none, .fa 0 (.tmp 13)⟩,
  ⟨some 59, none, .load true 2 (.tmp 58)⟩,
  ⟨some 60, none, .load true 2 (.tmp 14)⟩,
  ⟨some 61, none, .call f_89 [(.tmp 59), (.tmp 60)] true⟩,
  ⟨some 17, none, .alloc T_api_Int [(.bool false), (.slice none 0 0)]⟩,
  ⟨none, none, .store 2 (.tmp 17) (.tmp 61)⟩]
def r_136_15 : List SOper := [⟨some 62, none, .mv (.tmp 10)⟩,
  ⟨some 63, none, .load true 2 (.tmp 17)⟩,
  ⟨some 64, none, .lit T_api_Int [(.bool false), (.slice none 0 0)] 1 [(0, 2, (.tmp 63))]⟩,
  ⟨some 65, none, .app T_api_Int 2 32 (.tmp 62) (.tmp 64)⟩,
  ⟨some 10, none, .mv (.tmp 65)⟩]
def r_136_16 : List SOper := [⟨some 66, none, .load true 2 (.tmp 11)⟩,
  ⟨some 67, none, .load true 2 (.tmp 17)⟩,
  ⟨some 68, none, .call f_133 [(.tmp 66), (.tmp 67)] true⟩,
  ⟨none, none, .store 2 (.tmp 11) (.tmp 68)⟩]
def r_136_17 : List SOper := [⟨some 69, none, .bin 0 .add (.tmp 46) (.const (.int .i64 1))⟩,
  ⟨some 46, none, .mv (.tmp 69)⟩]
def r_136_18 : List SOper := [⟨some 70, none, .load true 2 (.tmp 11)⟩,
  ⟨some 71, none, .build [(.bool false), (.slice none 0 0)] []⟩,
  ⟨some 72, none, .call f_127 [(.tmp 70), (.tmp 71)] true⟩,
  ⟨some 73, none, .bin 0 .eql (.tmp 72) (.const (.int .i64 0))⟩]
def r_136_19 : List SOper := [⟨some 74, none, .call f_126 [(.const (.int .i64 1))] true⟩,
  ⟨none, none, .store 2 (.tmp 11) (.tmp 74)⟩]
def r_136_20 : List SOper := [⟨some 75, none, .mv (.tmp 10)⟩,
  ⟨some 76, none, .len (.tmp 75)⟩,
  ⟨some 77, none, .mv (.const (.int .i64 0))⟩]
def r_136_21 : List SOper := [⟨some 78, none, .bin 0 .lss (.tmp 77) (.tmp 76)⟩]
def r_136_22 : List SOper := [⟨some 79, none, .mv (.tmp 77)⟩,
  ⟨some 18, none, .mv (.tmp 79)⟩]
def r_136_23 : List SOper := [⟨some 81, none, .mv (.tmp 10)⟩,
  ⟨some 82, none, .mv (.tmp 18)⟩,
  ⟨some 83, none, .mv (.tmp 10)⟩,
  ⟨some 84, none, .mv (.tmp 18)⟩,
  ⟨some 85, none, .ia 2 (.tmp 83) (.tmp 84)⟩,
  ⟨some 86, none, .load true 2 (.tmp 85)⟩,
  ⟨some 87, none, .load true 2 (.tmp 11)⟩,
  ⟨some 88, none, .call f_152 [(.tmp 86), (.tmp 87)] true⟩,
  ⟨some 80, none, .mv (.tmp 88)⟩,
  ⟨some 89, none, .ext (.tmp 80) 0⟩,
  ⟨some 90, none, .ext (.tmp 80) 1⟩,
  ⟨some 91, none, .ext (.tmp 80) 2⟩,
  ⟨some 92, none, .ia 2 (.tmp 81) (.tmp 82)⟩,
  ⟨none, none, .store 2 (.tmp 92) (.tmp 89)⟩]
def r_136_24 : List SOper := [⟨some 93, none, .bin 0 .add (.tmp 77) (.const (.int .i64 1))⟩,
  ⟨some 77, none, .mv (.tmp 93)⟩]
def r_136_25 : List SOper := [⟨some 95, none, .load true 2 (.tmp 4)⟩,
  ⟨some 96, none, .load true 2 (.tmp 11)⟩,
  ⟨some 97, none, .call f_118 [(.tmp 95), (.tmp 96)] true⟩,
  ⟨some 94, none, .mv (.tmp 97)⟩,
  ⟨some 98, none, .ext (.tmp 94) 0⟩,
  ⟨some 99, none, .ext (.tmp 94) 1⟩,
  ⟨some 19, none, .alloc T_api_Rat [(.bool false), (.slice none 0 0), (.bool false), (.slice none 0 0)]⟩,
  ⟨none, none, .store 4 (.tmp 19) (.tmp 98)⟩,
  ⟨some 20, none, .mv (.tmp 99)⟩]
def r_136_26 : List SOper := [⟨some 100, none, .mv (.tmp 10)⟩,
  ⟨some 101, none, .load true 4 (.tmp 19)⟩,
  ⟨some 2, none, .mv (.tmp 100)⟩,
  ⟨none, none, .store 4 (.tmp 3) (.tmp 101)⟩]
def s_136 : SFun := ⟨1, 102, [.tmp 2, .cell 3 true 4],
  (.seq (.reg r_136_0) (.seq (.reg r_136_1) (.seq (.seq (.reg r_136_2) (.block 0 (.loop (.seq (.reg r_136_3) (.seq (.cond (.tmp 25) .skip (.exit 0)) (.seq (.block 1 (.seq (.reg r_136_4) (.seq (.draw r_136_5 [0, 1, 0, 0, 8, 28, 63, 127, 255, 255, 255, 0, 0, 6655, 15359, 32767] []) (.reg r_136_6)))) (.reg r_136_7))))))) (.seq (.reg r_136_8) (.seq (.reg r_136_9) (.seq (.seq (.reg r_136_10) (.block 2 (.loop (.seq (.reg r_136_11) (.seq (.cond (.tmp 47) .skip (.exit 2)) (.seq (.block 3 (.seq (.reg r_136_12) (.seq (.reg r_136_13) (.seq (.reg r_136_14) (.seq (.reg r_136_15) (.reg r_136_16)))))) (.reg r_136_17))))))) (.seq (.seq (.reg r_136_18) (.cond (.tmp 73) (.reg r_136_19) .skip)) (.seq (.seq (.reg r_136_20) (.block 4 (.loop (.seq (.reg r_136_21) (.seq (.cond (.tmp 78) .skip (.exit 4)) (.seq (.block 5 (.seq (.reg r_136_22) (.draw r_136_23 [0, 0, 0, 0, 12, 28, 0, 124, 252, 508, 508, 508, 1023, 5119] []))) (.reg r_136_24))))))) (.seq (.reg r_136_25) (.seq (.draw r_136_26 [0, 0, 1, 7] []) .ret))))))))))⟩

def r_137_0 : List SOper := [⟨some 2, none, .mv (.const (.slice none 0 0))⟩]
def r_137_1 : List SOper := [⟨some 6, none, .mv (.tmp 0)⟩,
  ⟨some 7, none, .len (.tmp 6)⟩,
  ⟨some 8, none, .bin 0 .add (.tmp 7) (.const (.int .i64 1))⟩,
  ⟨some 9, none, .mk T_api_Rat 64 [(.bool false), (.slice none 0 0), (.bool false), (.slice none 0 0)] (.const (.int .i64 0)) (.tmp 8)⟩,
  ⟨some 3, none, .mv (.tmp 9)⟩]
def r_137_2 : List SOper := [⟨some 10, none, .mv (.tmp 0)⟩,
  ⟨some 11, none, .len (.tmp 10)⟩,
  ⟨some 12, none, .mv (.const (.int .i64 0))⟩]
def r_137_3 : List SOper := [⟨some 13, none, .bin 0 .lss (.tmp 12) (.tmp 11)⟩]
def r_137_4 : List SOper := [⟨some 14, none, .ia 4 (.tmp 10) (.tmp 12)⟩,
  ⟨some 15, none, .load true 4 (.tmp 14)⟩,
  ⟨some 5, none, .alloc T_api_Rat [(.bool false), (.slice none 0 0), (.bool false), (.slice none 0 0)]⟩,
  ⟨none, none, .store 4 (.tmp 5) (.tmp 15)⟩]
def r_137_5 : List SOper := [⟨some 16, none, .mv (.tmp 3)⟩,
  ⟨some 17, none, .load true 4 (.tmp 5)⟩,
  ⟨some 18, none, .build [(.bool false), (.slice none 0 0), (.bool false), (.slice none 0 0)] []⟩,
  ⟨some 19, none, .call f_51 [(.tmp 17), (.tmp 18)] true⟩,
  ⟨some 20, none, .lit T_api_Rat [(.bool false), (.slice none 0 0), (.bool false), (.slice none 0 0)] 1 [(0, 4, (.tmp 19))]⟩,
  ⟨some 21, none, .app T_api_Rat 4 64 (.tmp 16) (.tmp 20)⟩,
  ⟨some 3, none, .mv (.tmp 21)⟩]
def r_137_6 : List SOper := [⟨some 22, none, .bin 0 .add (.tmp 12) (.const (.int .i64 1))⟩,
  ⟨some 12, none, .mv (.tmp 22)⟩]
def r_137_7 : List SOper := [⟨some 23, none, .mv (.tmp 3)⟩,
  ⟨some 2, none, .mv (.tmp 23)⟩]
def s_137 : SFun := ⟨1, 24, [.tmp 2],
  (.seq (.reg r_137_0) (.seq (.reg r_137_1) (.seq (.seq (.reg r_137_2) (.block 0 (.loop (.seq (.reg r_137_3) (.seq (.cond (.tmp 13) .skip (.exit 0)) (.seq (.block 1 (.seq (.reg r_137_4) (.reg r_137_5))) (.reg r_137_6))))))) (.seq (.reg r_137_7) .ret))))⟩

def r_139_0 : List SOper := [⟨some 3, none, .box T_simplex_few (.tmp 0)⟩,
  ⟨some 4, none, .box T_api_LP (.tmp 1)⟩,
  ⟨some 5, none, .box T_simplex_scaled (.tmp 2)⟩,
  ⟨some 6, none, .alloc T_api_Answer [(.int .i64 0), (.bool false), (.slice none 0 0), (.bool false), (.slice none 0 0), (.slice none 0 0), (.slice none 0 0), (.slice none 0 0)]⟩,
  ⟨some 7, none, .mv (.const (.int .i64 0))⟩]
def r_139_1 : List SOper := [⟨some 16, none, .load true 0 (.tmp 3)⟩,
  ⟨some 17, none, .load true 8 (.tmp 5)⟩,
  ⟨some 18, none, .call f_157 [(.tmp 16), (.tmp 17)] true⟩,
  ⟨some 8, none, .alloc T_simplex_tableau_int64_simplex_few [(.pointer none)]⟩,
  ⟨none, none, .store 1 (.tmp 8) (.tmp 18)⟩]
def r_139_2 : List SOper := [⟨some 19, none, .load false 1 (.tmp 8)⟩,
  ⟨some 20, none, .chk (.tmp 19)⟩,
  ⟨some 21, none, .fa 1 (.tmp 20)⟩,
  ⟨some 22, none, .load false 1 (.tmp 21)⟩,
  ⟨some 23, none, .load false 1 (.tmp 8)⟩,
  ⟨some 24, none, .chk (.tmp 23)⟩,
  ⟨some 25, none, .fa 1 (.tmp 24)⟩,
  ⟨some 26, none, .load false 1 (.tmp 25)⟩,
  ⟨some 27, none, .bin 0 .add (.tmp 26) (.const (.int .i64 1))⟩,
  ⟨some 9, none, .mv (.tmp 22)⟩,
  ⟨some 10, none, .mv (.tmp 27)⟩]
def r_139_3 : List SOper := [⟨some 28, none, .load false 1 (.tmp 8)⟩,
  ⟨some 29, none, .mv (.tmp 9)⟩,
  ⟨some 30, none, .call f_158 [(.tmp 28), (.tmp 29)] true⟩]
def r_139_4 : List SOper := [⟨some 31, none, .load false 1 (.tmp 8)⟩,
  ⟨some 32, none, .chk (.tmp 31)⟩,
  ⟨some 33, none, .fa0 T_simplex_tableau_int64_simplex_few_167 (.tmp 32)⟩,
  ⟨some 34, none, .load true 0 (.tmp 33)⟩,
  ⟨some 35, none, .iface T_simplex_few (.tmp 34)⟩,
  ⟨some 36, none, .load false 1 (.tmp 8)⟩,
  ⟨some 37, none, .chk (.tmp 36)⟩,
  ⟨some 38, none, .fa 3 (.tmp 37)⟩,
  ⟨some 39, none, .load false 1 (.tmp 38)⟩,
  ⟨some 40, none, .mv (.tmp 9)⟩,
  ⟨some 41, none, .ia 1 (.tmp 39) (.tmp 40)⟩,
  ⟨some 42, none, .load false 1 (.tmp 41)⟩,
  ⟨some 43, none, .load false 1 (.tmp 8)⟩,
  ⟨some 44, none, .chk (.tmp 43)⟩,
  ⟨some 45, none, .fa 2 (.tmp 44)⟩,
  ⟨some 46, none, .load false 1 (.tmp 45)⟩,
  ⟨some 47, none, .ia 1 (.tmp 42) (.tmp 46)⟩,
  ⟨some 48, none, .load false 1 (.tmp 47)⟩,
  ⟨some 49, none, .inv (.tmp 35) [(T_simplex_all, f_205), (T_simplex_few, f_212)] [(.tmp 48)] true⟩,
  ⟨some 50, none, .bin 0 .lss (.tmp 49) (.const (.int .i64 0))⟩]
def r_139_5 : List SOper := [⟨some 51, none, .call f_90 [(.const (.int .i64 0))] false⟩,
  ⟨some 52, none, .load false 1 (.tmp 8)⟩,
  ⟨some 53, none, .mv (.tmp 9)⟩,
  ⟨some 54, none, .load true 8 (.tmp 5)⟩,
  ⟨some 55, none, .call f_90 [(.const (.int .i64 1))] false⟩,
  ⟨some 56, none, .call f_159 [(.tmp 52), (.tmp 53), (.tmp 54), (.tmp 55)] false⟩,
  ⟨some 57, none, .build [(.int .i64 0), (.bool false), (.slice none 0 0), (.bool false), (.slice none 0 0), (.slice none 0 0), (.slice none 0 0), (.slice none 0 0)] [(0, 1, (.const (.int .i64 2))), (1, 4, (.tmp 51)), (6, 1, (.tmp 56))]⟩,
  ⟨some 58, none, .load false 1 (.tmp 8)⟩,
  ⟨some 59, none, .chk (.tmp 58)⟩,
  ⟨some 60, none, .fa 6 (.tmp 59)⟩,
  ⟨some 61, none, .load false 1 (.tmp 60)⟩,
  ⟨none, none, .store 8 (.tmp 6) (.tmp 57)⟩,
  ⟨some 7, none, .mv (.tmp 61)⟩]
def r_139_6 : List SOper := [⟨some 62, none, .load false 1 (.tmp 8)⟩,
  ⟨some 63, none, .call f_160 [(.tmp 62)] true⟩]
def r_139_7 : List SOper := [⟨some 64, none, .load false 1 (.tmp 8)⟩,
  ⟨some 65, none, .mv (.tmp 10)⟩,
  ⟨some 66, none, .call f_158 [(.tmp 64), (.tmp 65)] true⟩,
  ⟨some 11, none, .mv (.tmp 66)⟩]
def r_139_8 : List SOper := [⟨some 67, none, .load false 1 (.tmp 8)⟩,
  ⟨some 68, none, .mkfn (.func f_162) [] [(.tmp 8)]⟩,
  ⟨some 69, none, .call f_161 [(.tmp 67), (.tmp 68)] true⟩,
  ⟨some 12, none, .mv (.tmp 69)⟩]
def r_139_9 : List SOper := [⟨some 70, none, .mv (.tmp 11)⟩,
  ⟨some 71, none, .bin 0 .geq (.tmp 70) (.const (.int .i64 0))⟩]
def r_139_10 : List SOper := [⟨some 72, none, .call f_90 [(.const (.int .i64 0))] false⟩,
  ⟨some 73, none, .mv (.tmp 12)⟩,
  ⟨some 74, none, .load false 1 (.tmp 8)⟩,
  ⟨some 75, none, .mv (.tmp 11)⟩,
  ⟨some 76, none, .call f_163 [(.tmp 74), (.tmp 75)] false⟩,
  ⟨some 77, none, .build [(.int .i64 0), (.bool false), (.slice none 0 0), (.bool false), (.slice none 0 0), (.slice none 0 0), (.slice none 0 0), (.slice none 0 0)] [(0, 1, (.const (.int .i64 3))), (1, 4, (.tmp 72)), (5, 1, (.tmp 73)), (7, 1, (.tmp 76))]⟩,
  ⟨some 78, none, .load false 1 (.tmp 8)⟩,
  ⟨some 79, none, .chk (.tmp 78)⟩,
  ⟨some 80, none, .fa 6 (.tmp 79)⟩,
  ⟨some 81, none, .load false 1 (.tmp 80)⟩,
  ⟨none, none, .store 8 (.tmp 6) (.tmp 77)⟩,
  ⟨some 7, none, .mv (.tmp 81)⟩]
def r_139_11 : List SOper := [⟨some 82, none, .call f_90 [(.const (.int .i64 0))] true⟩,
  ⟨some 13, none, .alloc T_api_Rat [(.bool false), (.slice none 0 0), (.bool false), (.slice none 0 0)]⟩,
  ⟨none, none, .store 4 (.tmp 13) (.tmp 82)⟩]
def r_139_12 : List SOper := [⟨some 83, none, .fa 3 (.tmp 4)⟩,
  ⟨some 84, none, .load false 1 (.tmp 83)⟩,
  ⟨some 85, none, .len (.tmp 84)⟩,
  ⟨some 86, none, .mv (.const (.int .i64 0))⟩]
def r_139_13 : List SOper := [⟨some 87, none, .bin 0 .lss (.tmp 86) (.tmp 85)⟩]
def r_139_14 : List SOper := [⟨some 88, none, .mv (.tmp 86)⟩,
  ⟨some 89, none, .ia 4 (.tmp 84) (.tmp 86)⟩,
  ⟨some 90, none, .load true 4 (.tmp 89)⟩,
  ⟨some 15, none, .alloc T_api_Rat [(.bool false), (.slice none 0 0), (.bool false), (.slice none 0 0)]⟩,
  ⟨some 14, none, .mv (.tmp 88)⟩,
  ⟨none, none, .store 4 (.tmp 15) (.tmp 90)⟩]
def r_139_15 : List SOper := [⟨some 91, none, .load true 4 (.tmp 13)⟩,
  ⟨some 92, none, .load true 4 (.tmp 15)⟩,
  ⟨some 93, none, .mv (.tmp 12)⟩,
  ⟨some 94, none, .mv (.tmp 14)⟩,
  ⟨some 95, none, .ia 4 (.tmp 93) (.tmp 94)⟩,
  ⟨some 96, none, .load true 4 (.tmp 95)⟩,
  ⟨some 97, none, .call f_91 [(.tmp 92), (.tmp 96)] false⟩,
  ⟨some 98, none, .call f_51 [(.tmp 91), (.tmp 97)] true⟩,
  ⟨none, none, .store 4 (.tmp 13) (.tmp 98)⟩]
def r_139_16 : List SOper := [⟨some 99, none, .bin 0 .add (.tmp 86) (.const (.int .i64 1))⟩,
  ⟨some 86, none, .mv (.tmp 99)⟩]
def r_139_17 : List SOper := [⟨some 100, none, .load true 4 (.tmp 13)⟩,
  ⟨some 101, none, .mv (.tmp 12)⟩,
  ⟨some 102, none, .load false 1 (.tmp 8)⟩,
  ⟨some 103, none, .mv (.tmp 10)⟩,
  ⟨some 104, none, .load true 8 (.tmp 5)⟩,
  ⟨some 105, none, .fa 4 (.tmp 5)⟩,
  ⟨some 106, none, .load true 4 (.tmp 105)⟩,
  ⟨some 107, none, .call f_159 [(.tmp 102), (.tmp 103), (.tmp 104), (.tmp 106)] false⟩,
  ⟨some 108, none, .build [(.int .i64 0), (.bool false), (.slice none 0 0), (.bool false), (.slice none 0 0), (.slice none 0 0), (.slice none 0 0), (.slice none 0 0)] [(0, 1, (.const (.int .i64 1))), (1, 4, (.tmp 100)), (5, 1, (.tmp 101)), (6, 1, (.tmp 107))]⟩,
  ⟨some 109, none, .load false 1 (.tmp 8)⟩,
  ⟨some 110, none, .chk (.tmp 109)⟩,
  ⟨some 111, none, .fa 6 (.tmp 110)⟩,
  ⟨some 112, none, .load false 1 (.tmp 111)⟩,
  ⟨none, none, .store 8 (.tmp 6) (.tmp 108)⟩,
  ⟨some 7, none, .mv (.tmp 112)⟩]
def s_139 : SFun := ⟨3, 113, [.cell 6 true 8, .tmp 7],
  (.seq (.reg r_139_0) (.seq (.reg r_139_1) (.seq (.draw r_139_2 [0, 1, 3, 7, 0, 16, 48, 112, 240, 15, 1023] []) (.seq (.reg r_139_3) (.seq (.seq (.draw r_139_4 [0, 1, 3, 7, 15, 0, 32, 96, 224, 0, 992, 2016, 0, 4096, 12288, 28672, 65504, 131040, 262143, 524287] []) (.cond (.tmp 50) (.seq (.draw r_139_5 [0, 0, 0, 0, 1, 31, 63, 0, 128, 384, 896, 127, 4095] [(7, 11), (10, 11)]) .ret) .skip)) (.seq (.reg r_139_6) (.seq (.reg r_139_7) (.seq (.reg r_139_8) (.seq (.seq (.reg r_139_9) (.cond (.tmp 71) (.seq (.draw r_139_10 [0, 0, 0, 0, 13, 31, 0, 64, 192, 448, 63, 2047] [(6, 10), (9, 10)]) .ret) .skip)) (.seq (.reg r_139_11) (.seq (.seq (.reg r_139_12) (.block 0 (.loop (.seq (.reg r_139_13) (.seq (.cond (.tmp 87) .skip (.exit 0)) (.seq (.block 1 (.seq (.reg r_139_14) (.draw r_139_15 [0, 0, 0, 0, 12, 28, 62, 127, 255] []))) (.reg r_139_16))))))) (.seq (.draw r_139_17 [0, 0, 0, 0, 0, 0, 32, 124, 255, 0, 512, 1536, 3584, 511, 16383] [(9, 13), (12, 13)]) .ret))))))))))))⟩

def r_140_0 : List SOper := [⟨some 2, none, .box T_simplex_all (.tmp 0)⟩,
  ⟨some 3, none, .box T_simplex_scaled (.tmp 1)⟩,
  ⟨some 4, none, .mv (.const (.pointer none))⟩]
def r_140_1 : List SOper := [⟨some 22, none, .fa 1 (.tmp 3)⟩,
  ⟨some 23, none, .load false 1 (.tmp 22)⟩,
  ⟨some 24, none, .len (.tmp 23)⟩,
  ⟨some 5, none, .mv (.tmp 24)⟩]
def r_140_2 : List SOper := [⟨some 25, none, .load true 0 (.tmp 2)⟩,
  ⟨some 26, none, .fa 0 (.tmp 3)⟩,
  ⟨some 27, none, .load false 1 (.tmp 26)⟩,
  ⟨some 28, none, .mv (.tmp 5)⟩,
  ⟨some 29, none, .fa 0 (.tmp 3)⟩,
  ⟨some 30, none, .load false 1 (.tmp 29)⟩,
  ⟨some 31, none, .bin 0 .mul (.const (.int .i64 2)) (.tmp 30)⟩,
  ⟨some 32, none, .mv (.tmp 5)⟩,
  ⟨some 33, none, .bin 0 .add (.tmp 31) (.tmp 32)⟩,
  ⟨some 34, none, .load true 0 (.tmp 2)⟩,
  ⟨some 35, none, .iface T_simplex_all (.tmp 34)⟩,
  ⟨some 36, none, .call f_126 [(.const (.int .i64 1))] false⟩,
  ⟨some 37, none, .inv (.tmp 35) [(T_simplex_all, f_204), (T_simplex_few, f_211)] [(.tmp 36)] false⟩,
  ⟨some 38, none, .build [(.int .i64 0), (.int .i64 0), (.int .i64 0), (.slice none 0 0), (.bool false), (.slice none 0 0), (.slice none 0 0), (.int .i64 0)] [(0, 0, (.tmp 25)), (0, 1, (.tmp 27)), (1, 1, (.tmp 28)), (2, 1, (.tmp 33)), (4, 2, (.tmp 37))]⟩,
  ⟨some 39, none, .box T_simplex_tableau_api_Int_simplex_all_150 (.tmp 38)⟩,
  ⟨some 6, none, .alloc T_simplex_tableau_api_Int_simplex_all [(.pointer none)]⟩,
  ⟨none, none, .store 1 (.tmp 6) (.tmp 39)⟩]
def r_140_3 : List SOper := [⟨some 40, none, .load true 0 (.tmp 2)⟩,
  ⟨some 41, none, .iface T_simplex_all (.tmp 40)⟩,
  ⟨some 42, none, .build [(.bool false), (.slice none 0 0)] []⟩,
  ⟨some 43, none, .inv (.tmp 41) [(T_simplex_all, f_204), (T_simplex_few, f_211)] [(.tmp 42)] true⟩,
  ⟨some 7, none, .alloc T_api_Int [(.bool false), (.slice none 0 0)]⟩,
  ⟨none, none, .store 2 (.tmp 7) (.tmp 43)⟩]
def r_140_4 : List SOper := [⟨some 44, none, .mkfn (.func f_164) [] [(.tmp 6), (.tmp 7)]⟩,
  ⟨some 8, none, .mv (.tmp 44)⟩]
def r_140_5 : List SOper := [⟨some 45, none, .mv (.tmp 8)⟩,
  ⟨some 46, none, .callv (.tmp 45) [] true⟩,
  ⟨some 47, none, .mv (.tmp 8)⟩,
  ⟨some 48, none, .callv (.tmp 47) [] true⟩,
  ⟨some 9, none, .mv (.tmp 46)⟩,
  ⟨some 10, none, .mv (.tmp 48)⟩]
def r_140_6 : List SOper := [⟨some 49, none, .fa 3 (.tmp 3)⟩,
  ⟨some 50, none, .load false 1 (.tmp 49)⟩,
  ⟨some 51, none, .len (.tmp 50)⟩,
  ⟨some 52, none, .mv (.const (.int .i64 0))⟩]
def r_140_7 : List SOper := [⟨some 53, none, .bin 0 .lss (.tmp 52) (.tmp 51)⟩]
def r_140_8 : List SOper := [⟨some 54, none, .mv (.tmp 52)⟩,
  ⟨some 55, none, .ia 2 (.tmp 50) (.tmp 52)⟩,
  ⟨some 56, none, .load true 2 (.tmp 55)⟩,
  ⟨some 12, none, .alloc T_api_Int [(.bool false), (.slice none 0 0)]⟩,
  ⟨some 11, none, .mv (.tmp 54)⟩,
  ⟨none, none, .store 2 (.tmp 12) (.tmp 56)⟩]
def r_140_9 : List SOper := [⟨some 57, none, .load true 0 (.tmp 2)⟩,
  ⟨some 58, none, .iface T_simplex_all (.tmp 57)⟩,
  ⟨some 59, none, .load true 2 (.tmp 12)⟩,
  ⟨some 60, none, .inv (.tmp 58) [(T_simplex_all, f_204), (T_simplex_few, f_211)] [(.tmp 59)] true⟩,
  ⟨some 13, none, .alloc T_api_Int [(.bool false), (.slice none 0 0)]⟩,
  ⟨none, none, .store 2 (.tmp 13) (.tmp 60)⟩]
def r_140_10 : List SOper := [⟨some 61, none, .mv (.tmp 10)⟩,
  ⟨some 62, none, .mv (.tmp 11)⟩,
  ⟨some 63, none, .mv (.tmp 10)⟩,
  ⟨some 64, none, .fa 0 (.tmp 3)⟩,
  ⟨some 65, none, .load false 1 (.tmp 64)⟩,
  ⟨some 66, none, .mv (.tmp 11)⟩,
  ⟨some 67, none, .bin 0 .add (.tmp 65) (.tmp 66)⟩,
  ⟨some 68, none, .load true 0 (.tmp 2)⟩,
  ⟨some 69, none, .iface T_simplex_all (.tmp 68)⟩,
  ⟨some 70, none, .load true 2 (.tmp 13)⟩,
  ⟨some 71, none, .inv (.tmp 69) [(T_simplex_all, f_202), (T_simplex_few, f_209)] [(.tmp 70)] false⟩,
  ⟨some 72, none, .load true 2 (.tmp 13)⟩,
  ⟨some 73, none, .ia 2 (.tmp 61) (.tmp 62)⟩,
  ⟨none, none, .store 2 (.tmp 73) (.tmp 71)⟩,
  ⟨some 74, none, .ia 2 (.tmp 63) (.tmp 67)⟩,
  ⟨none, none, .store 2 (.tmp 74) (.tmp 72)⟩]
def r_140_11 : List SOper := [⟨some 75, none, .bin 0 .add (.tmp 52) (.const (.int .i64 1))⟩,
  ⟨some 52, none, .mv (.tmp 75)⟩]
def r_140_12 : List SOper := [⟨some 76, none, .fa 1 (.tmp 3)⟩,
  ⟨some 77, none, .load false 1 (.tmp 76)⟩,
  ⟨some 78, none, .len (.tmp 77)⟩,
  ⟨some 79, none, .mv (.const (.int .i64 0))⟩]
def r_140_13 : List SOper := [⟨some 80, none, .bin 0 .lss (.tmp 79) (.tmp 78)⟩]
def r_140_14 : List SOper := [⟨some 81, none, .mv (.tmp 79)⟩,
  ⟨some 82, none, .ia 1 (.tmp 77) (.tmp 79)⟩,
  ⟨some 83, none, .load false 1 (.tmp 82)⟩,
  ⟨some 14, none, .mv (.tmp 81)⟩,
  ⟨some 15, none, .mv (.tmp 83)⟩]
def r_140_15 : List SOper := [⟨some 84, none, .mv (.tmp 8)⟩,
  ⟨some 85, none, .callv (.tmp 84) [] true⟩,
  ⟨some 16, none, .mv (.tmp 85)⟩]
def r_140_16 : List SOper := [⟨some 86, none, .mv (.tmp 15)⟩,
  ⟨some 87, none, .fa 0 (.tmp 3)⟩,
  ⟨some 88, none, .load false 1 (.tmp 87)⟩,
  ⟨some 89, none, .sl T_api_Int 2 (.tmp 86) none (some (.tmp 88)) none⟩,
  ⟨some 90, none, .len (.tmp 89)⟩,
  ⟨some 91, none, .mv (.const (.int .i64 0))⟩]
def r_140_17 : List SOper := [⟨some 92, none, .bin 0 .lss (.tmp 91) (.tmp 90)⟩]
def r_140_18 : List SOper := [⟨some 93, none, .mv (.tmp 91)⟩,
  ⟨some 94, none, .ia 2 (.tmp 89) (.tmp 91)⟩,
  ⟨some 95, none, .load true 2 (.tmp 94)⟩,
  ⟨some 18, none, .alloc T_api_Int [(.bool false), (.slice none 0 0)]⟩,
  ⟨some 17, none, .mv (.tmp 93)⟩,
  ⟨none, none, .store 2 (.tmp 18) (.tmp 95)⟩]
def r_140_19 : List SOper := [⟨some 96, none, .load true 0 (.tmp 2)⟩,
  ⟨some 97, none, .iface T_simplex_all (.tmp 96)⟩,
  ⟨some 98, none, .load true 2 (.tmp 18)⟩,
  ⟨some 99, none, .inv (.tmp 97) [(T_simplex_all, f_204), (T_simplex_few, f_211)] [(.tmp 98)] true⟩,
  ⟨some 19, none, .alloc T_api_Int [(.bool false), (.slice none 0 0)]⟩,
  ⟨none, none, .store 2 (.tmp 19) (.tmp 99)⟩]
def r_140_20 : List SOper := [⟨some 100, none, .mv (.tmp 16)⟩,
  ⟨some 101, none, .mv (.tmp 17)⟩,
  ⟨some 102, none, .mv (.tmp 16)⟩,
  ⟨some 103, none, .fa 0 (.tmp 3)⟩,
  ⟨some 104, none, .load false 1 (.tmp 103)⟩,
  ⟨some 105, none, .mv (.tmp 17)⟩,
  ⟨some 106, none, .bin 0 .add (.tmp 104) (.tmp 105)⟩,
  ⟨some 107, none, .load true 2 (.tmp 19)⟩,
  ⟨some 108, none, .load true 0 (.tmp 2)⟩,
  ⟨some 109, none, .iface T_simplex_all (.tmp 108)⟩,
  ⟨some 110, none, .load true 2 (.tmp 19)⟩,
  ⟨some 111, none, .inv (.tmp 109) [(T_simplex_all, f_202), (T_simplex_few, f_209)] [(.tmp 110)] false⟩,
  ⟨some 112, none, .ia 2 (.tmp 100) (.tmp 101)⟩,
  ⟨none, none, .store 2 (.tmp 112) (.tmp 107)⟩,
  ⟨some 113, none, .ia 2 (.tmp 102) (.tmp 106)⟩,
  ⟨none, none, .store 2 (.tmp 113) (.tmp 111)⟩]
def r_140_21 : List SOper := [⟨some 114, none, .bin 0 .add (.tmp 91) (.const (.int .i64 1))⟩,
  ⟨some 91, none, .mv (.tmp 114)⟩]
def r_140_22 : List SOper := [⟨some 115, none, .mv (.tmp 16)⟩,
  ⟨some 116, none, .fa 0 (.tmp 3)⟩,
  ⟨some 117, none, .load false 1 (.tmp 116)⟩,
  ⟨some 118, none, .bin 0 .mul (.const (.int .i64 2)) (.tmp 117)⟩,
  ⟨some 119, none, .mv (.tmp 14)⟩,
  ⟨some 120, none, .bin 0 .add (.tmp 118) (.tmp 119)⟩,
  ⟨some 121, none, .load false 1 (.tmp 6)⟩,
  ⟨some 122, none, .chk (.tmp 121)⟩,
  ⟨some 123, none, .fa 4 (.tmp 122)⟩,
  ⟨some 124, none, .load true 2 (.tmp 123)⟩,
  ⟨some 125, none, .ia 2 (.tmp 115) (.tmp 120)⟩,
  ⟨none, none, .store 2 (.tmp 125) (.tmp 124)⟩]
def r_140_23 : List SOper := [⟨some 126, none, .mv (.tmp 16)⟩,
  ⟨some 127, none, .load false 1 (.tmp 6)⟩,
  ⟨some 128, none, .chk (.tmp 127)⟩,
  ⟨some 129, none, .fa 2 (.tmp 128)⟩,
  ⟨some 130, none, .load false 1 (.tmp 129)⟩,
  ⟨some 131, none, .load true 0 (.tmp 2)⟩,
  ⟨some 132, none, .iface T_simplex_all (.tmp 131)⟩,
  ⟨some 133, none, .mv (.tmp 15)⟩,
  ⟨some 134, none, .fa 0 (.tmp 3)⟩,
  ⟨some 135, none, .load false 1 (.tmp 134)⟩,
  ⟨some 136, none, .ia 2 (.tmp 133) (.tmp 135)⟩,
  ⟨some 137, none, .load true 2 (.tmp 136)⟩,
  ⟨some 138, none, .inv (.tmp 132) [(T_simplex_all, f_204), (T_simplex_few, f_211)] [(.tmp 137)] false⟩,
  ⟨some 139, none, .ia 2 (.tmp 126) (.tmp 130)⟩,
  ⟨none, none, .store 2 (.tmp 139) (.tmp 138)⟩]
def r_140_24 : List SOper := [⟨some 140, none, .fa 0 (.tmp 3)⟩,
  ⟨some 141, none, .load false 1 (.tmp 140)⟩,
  ⟨some 142, none, .bin 0 .mul (.const (.int .i64 2)) (.tmp 141)⟩,
  ⟨some 143, none, .mv (.tmp 14)⟩,
  ⟨some 144, none, .bin 0 .add (.tmp 142) (.tmp 143)⟩,
  ⟨some 20, none, .mv (.tmp 144)⟩]
def r_140_25 : List SOper := [⟨some 145, none, .load true 0 (.tmp 2)⟩,
  ⟨some 146, none, .iface T_simplex_all (.tmp 145)⟩,
  ⟨some 147, none, .mv (.tmp 16)⟩,
  ⟨some 148, none, .load false 1 (.tmp 6)⟩,
  ⟨some 149, none, .chk (.tmp 148)⟩,
  ⟨some 150, none, .fa 2 (.tmp 149)⟩,
  ⟨some 151, none, .load false 1 (.tmp 150)⟩,
  ⟨some 152, none, .ia 2 (.tmp 147) (.tmp 151)⟩,
  ⟨some 153, none, .load true 2 (.tmp 152)⟩,
  ⟨some 154, none, .inv (.tmp 146) [(T_simplex_all, f_205), (T_simplex_few, f_212)] [(.tmp 153)] true⟩,
  ⟨some 155, none, .bin 0 .lss (.tmp 154) (.const (.int .i64 0))⟩]
def r_140_26 : List SOper := [⟨some 156, none, .load false 1 (.tmp 6)⟩,
  ⟨some 157, none, .chk (.tmp 156)⟩,
  ⟨some 158, none, .fa 2 (.tmp 157)⟩,
  ⟨some 159, none, .load false 1 (.tmp 158)⟩,
  ⟨some 160, none, .mv (.tmp 14)⟩,
  ⟨some 161, none, .bin 0 .add (.tmp 159) (.tmp 160)⟩,
  ⟨some 20, none, .mv (.tmp 161)⟩]
def r_140_27 : List SOper := [⟨some 162, none, .mv (.tmp 16)⟩,
  ⟨some 163, none, .len (.tmp 162)⟩,
  ⟨some 164, none, .mv (.const (.int .i64 0))⟩]
def r_140_28 : List SOper := [⟨some 165, none, .bin 0 .lss (.tmp 164) (.tmp 163)⟩]
def r_140_29 : List SOper := [⟨some 166, none, .mv (.tmp 164)⟩,
  ⟨some 21, none, .mv (.tmp 166)⟩]
def r_140_30 : List SOper := [⟨some 167, none, .mv (.tmp 16)⟩,
  ⟨some 168, none, .mv (.tmp 21)⟩,
  ⟨some 169, none, .load true 0 (.tmp 2)⟩,
  ⟨some 170, none, .iface T_simplex_all (.tmp 169)⟩,
  ⟨some 171, none, .mv (.tmp 16)⟩,
  ⟨some 172, none, .mv (.tmp 21)⟩,
  ⟨some 173, none, .ia 2 (.tmp 171) (.tmp 172)⟩,
  ⟨some 174, none, .load true 2 (.tmp 173)⟩,
  ⟨some 175, none, .inv (.tmp 170) [(T_simplex_all, f_202), (T_simplex_few, f_209)] [(.tmp 174)] true⟩,
  ⟨some 176, none, .ia 2 (.tmp 167) (.tmp 168)⟩,
  ⟨none, none, .store 2 (.tmp 176) (.tmp 175)⟩]
def r_140_31 : List SOper := [⟨some 177, none, .mv (.tmp 9)⟩,
  ⟨some 178, none, .mv (.tmp 21)⟩,
  ⟨some 179, none, .load false 1 (.tmp 6)⟩,
  ⟨some 180, none, .mv (.tmp 9)⟩,
  ⟨some 181, none, .mv (.tmp 21)⟩,
  ⟨some 182, none, .ia 2 (.tmp 180) (.tmp 181)⟩,
  ⟨some 183, none, .load true 2 (.tmp 182)⟩,
  ⟨some 184, none, .mv (.tmp 16)⟩,
  ⟨some 185, none, .mv (.tmp 21)⟩,
  ⟨some 186, none, .ia 2 (.tmp 184) (.tmp 185)⟩,
  ⟨some 187, none, .load true 2 (.tmp 186)⟩,
  ⟨some 188, none, .call f_165 [(.tmp 179), (.tmp 183), (.tmp 187)] true⟩,
  ⟨some 189, none, .ia 2 (.tmp 177) (.tmp 178)⟩,
  ⟨none, none, .store 2 (.tmp 189) (.tmp 188)⟩]
def r_140_32 : List SOper := [⟨some 190, none, .bin 0 .add (.tmp 164) (.const (.int .i64 1))⟩,
  ⟨some 164, none, .mv (.tmp 190)⟩]
def r_140_33 : List SOper := [⟨some 191, none, .load false 1 (.tmp 6)⟩,
  ⟨some 192, none, .load false 1 (.tmp 6)⟩,
  ⟨some 193, none, .load false 1 (.tmp 6)⟩,
  ⟨some 194, none, .chk (.tmp 193)⟩,
  ⟨some 195, none, .fa 3 (.tmp 194)⟩,
  ⟨some 196, none, .load false 1 (.tmp 195)⟩,
  ⟨some 197, none, .mv (.tmp 16)⟩,
  ⟨some 198, none, .lit T_sl_api_Int [(.slice none 0 0)] 1 [(0, 1, (.tmp 197))]⟩,
  ⟨some 199, none, .app T_sl_api_Int 1 24 (.tmp 196) (.tmp 198)⟩,
  ⟨some 200, none, .load false 1 (.tmp 6)⟩,
  ⟨some 201, none, .chk (.tmp 200)⟩,
  ⟨some 202, none, .fa 6 (.tmp 201)⟩,
  ⟨some 203, none, .load false 1 (.tmp 202)⟩,
  ⟨some 204, none, .mv (.tmp 20)⟩,
  ⟨some 205, none, .lit T_int [(.int .i64 0)] 1 [(0, 1, (.tmp 204))]⟩,
  ⟨some 206, none, .app T_int 1 8 (.tmp 203) (.tmp 205)⟩,
  ⟨some 207, none, .chk (.tmp 191)⟩,
  ⟨some 208, none, .fa 3 (.tmp 207)⟩,
  ⟨none, none, .store 1 (.tmp 208) (.tmp 199)⟩,
  ⟨some 209, none, .chk (.tmp 192)⟩,
  ⟨some 210, none, .fa 6 (.tmp 209)⟩,
  ⟨none, none, .store 1 (.tmp 210) (.tmp 206)⟩]
def r_140_34 : List SOper := [⟨some 211, none, .bin 0 .add (.tmp 79) (.const (.int .i64 1))⟩,
  ⟨some 79, none, .mv (.tmp 211)⟩]
def r_140_35 : List SOper := [⟨some 212, none, .load false 1 (.tmp 6)⟩,
  ⟨some 213, none, .load false 1 (.tmp 6)⟩,
  ⟨some 214, none, .chk (.tmp 213)⟩,
  ⟨some 215, none, .fa 3 (.tmp 214)⟩,
  ⟨some 216, none, .load false 1 (.tmp 215)⟩,
  ⟨some 217, none, .mv (.tmp 9)⟩,
  ⟨some 218, none, .mv (.tmp 10)⟩,
  ⟨some 219, none, .lit T_sl_api_Int [(.slice none 0 0)] 2 [(0, 1, (.tmp 217)), (1, 1, (.tmp 218))]⟩,
  ⟨some 220, none, .app T_sl_api_Int 1 24 (.tmp 216) (.tmp 219)⟩,
  ⟨some 221, none, .chk (.tmp 212)⟩,
  ⟨some 222, none, .fa 3 (.tmp 221)⟩,
  ⟨none, none, .store 1 (.tmp 222) (.tmp 220)⟩]
def r_140_36 : List SOper := [⟨some 223, none, .load false 1 (.tmp 6)⟩,
  ⟨some 4, none, .mv (.tmp 223)⟩]
def s_140 : SFun := ⟨2, 224, [.tmp 4],
  (.seq (.reg r_140_0) (.seq (.reg r_140_1) (.seq (.draw r_140_2 [0, 0, 2, 0, 0, 16, 48, 0, 240, 0, 512, 0, 3584, 8191, 16383, 0, 65535] []) (.seq (.reg r_140_3) (.seq (.reg r_140_4) (.seq (.reg r_140_5) (.seq (.seq (.reg r_140_6) (.block 0 (.loop (.seq (.reg r_140_7) (.seq (.cond (.tmp 53) .skip (.exit 0)) (.seq (.block 1 (.seq (.reg r_140_8) (.seq (.reg r_140_9) (.draw r_140_10 [0, 0, 0, 0, 8, 0, 56, 0, 128, 0, 896, 0, 1923, 6019, 16383, 32767] [(4, 13), (11, 13)])))) (.reg r_140_11))))))) (.seq (.seq (.reg r_140_12) (.block 2 (.loop (.seq (.reg r_140_13) (.seq (.cond (.tmp 80) .skip (.exit 2)) (.seq (.block 3 (.seq (.reg r_140_14) (.seq (.reg r_140_15) (.seq (.seq (.reg r_140_16) (.block 4 (.loop (.seq (.reg r_140_17) (.seq (.cond (.tmp 92) .skip (.exit 4)) (.seq (.block 5 (.seq (.reg r_140_18) (.seq (.reg r_140_19) (.draw r_140_20 [0, 0, 0, 0, 8, 0, 56, 0, 0, 256, 0, 1792, 3971, 8067, 16383, 32767] [(4, 13)])))) (.reg r_140_21))))))) (.seq (.draw r_140_22 [0, 0, 2, 6, 0, 30, 0, 64, 192, 448, 1023, 2047] []) (.seq (.draw r_140_23 [0, 0, 2, 6, 14, 0, 32, 0, 0, 256, 896, 1920, 4064, 8191, 16383] []) (.seq (.reg r_140_24) (.seq (.seq (.draw r_140_25 [0, 1, 0, 0, 8, 24, 56, 124, 252, 511, 1023] []) (.cond (.tmp 155) (.seq (.reg r_140_26) (.seq (.reg r_140_27) (.block 6 (.loop (.seq (.reg r_140_28) (.seq (.cond (.tmp 165) .skip (.exit 6)) (.seq (.block 7 (.seq (.reg r_140_29) (.seq (.draw r_140_30 [0, 0, 0, 4, 0, 0, 48, 112, 252, 511, 1023] []) (.draw r_140_31 [0, 0, 0, 0, 0, 24, 56, 0, 0, 384, 896, 2044, 4095, 8191] [])))) (.reg r_140_32)))))))) .skip)) (.draw r_140_33 [0, 0, 0, 4, 12, 28, 0, 64, 252, 0, 512, 1536, 3584, 0, 8192, 32764, 65533, 131069, 262141, 524287, 1048575, 2097151] [(0, 8), (1, 8), (8, 9), (8, 12), (8, 14), (0, 15), (1, 15), (1, 18)]))))))))) (.reg r_140_34))))))) (.seq (.draw r_140_35 [0, 0, 2, 6, 14, 0, 0, 96, 254, 511, 1023, 2047] [(0, 8)]) (.seq (.reg r_140_36) .ret))))))))))⟩

def r_141_0 : List SOper := [⟨some 4, none, .mv (.const (.int .i64 0))⟩]
def r_141_1 : List SOper := [⟨some 5, none, .mv (.const (.int .i64 0))⟩]
def r_141_2 : List SOper := [⟨some 7, none, .mv (.tmp 5)⟩,
  ⟨some 8, none, .mv (.tmp 0)⟩,
  ⟨some 9, none, .chk (.tmp 8)⟩,
  ⟨some 10, none, .fa 2 (.tmp 9)⟩,
  ⟨some 11, none, .load false 1 (.tmp 10)⟩,
  ⟨some 12, none, .bin 0 .lss (.tmp 7) (.tmp 11)⟩,
  ⟨some 13, none, .mv (.tmp 12)⟩,
  ⟨some 14, some (13, true), .mv (.tmp 0)⟩,
  ⟨some 15, some (13, true), .chk (.tmp 14)⟩,
  ⟨some 16, some (13, true), .fa0 T_simplex_tableau_api_Int_simplex_all_150 (.tmp 15)⟩,
  ⟨some 17, some (13, true), .load true 0 (.tmp 16)⟩,
  ⟨some 18, some (13, true), .iface T_simplex_all (.tmp 17)⟩,
  ⟨some 19, some (13, true), .mv (.tmp 0)⟩,
  ⟨some 20, some (13, true), .chk (.tmp 19)⟩,
  ⟨some 21, some (13, true), .fa 3 (.tmp 20)⟩,
  ⟨some 22, some (13, true), .load false 1 (.tmp 21)⟩,
  ⟨some 23, some (13, true), .mv (.tmp 1)⟩,
  ⟨some 24, some (13, true), .ia 1 (.tmp 22) (.tmp 23)⟩,
  ⟨some 25, some (13, true), .load false 1 (.tmp 24)⟩,
  ⟨some 26, some (13, true), .mv (.tmp 5)⟩,
  ⟨some 27, some (13, true), .ia 2 (.tmp 25) (.tmp 26)⟩,
  ⟨some 28, some (13, true), .load true 2 (.tmp 27)⟩,
  ⟨some 29, some (13, true), .inv (.tmp 18) [(T_simplex_all, f_205), (T_simplex_few, f_212)] [(.tmp 28)] true⟩,
  ⟨some 30, some (13, true), .bin 0 .geq (.tmp 29) (.const (.int .i64 0))⟩,
  ⟨some 31, none, .pick (.tmp 13) (.tmp 30) (.const (.bool false))⟩]
def r_141_3 : List SOper := [⟨some 32, none, .mv (.tmp 5)⟩,
  ⟨some 33, none, .bin 0 .add (.tmp 32) (.const (.int .i64 1))⟩,
  ⟨some 5, none, .mv (.tmp 33)⟩]
def r_141_4 : List SOper := [⟨some 34, none, .mv (.tmp 5)⟩,
  ⟨some 35, none, .mv (.tmp 0)⟩,
  ⟨some 36, none, .chk (.tmp 35)⟩,
  ⟨some 37, none, .fa 2 (.tmp 36)⟩,
  ⟨some 38, none, .load false 1 (.tmp 37)⟩,
  ⟨some 39, none, .bin 0 .eql (.tmp 34) (.tmp 38)⟩]
def r_141_5 : List SOper := [⟨some 4, none, .mv (.const (.int .i64 (-1)))⟩]
def r_141_6 : List SOper := [⟨some 40, none, .mv (.tmp 0)⟩,
  ⟨some 41, none, .mv (.tmp 5)⟩,
  ⟨some 42, none, .call f_166 [(.tmp 40), (.tmp 41)] true⟩,
  ⟨some 6, none, .mv (.tmp 42)⟩]
def r_141_7 : List SOper := [⟨some 43, none, .mv (.tmp 6)⟩,
  ⟨some 44, none, .bin 0 .lss (.tmp 43) (.const (.int .i64 0))⟩]
def r_141_8 : List SOper := [⟨some 45, none, .mv (.tmp 5)⟩,
  ⟨some 4, none, .mv (.tmp 45)⟩]
def r_141_9 : List SOper := [⟨some 46, none, .mv (.tmp 0)⟩,
  ⟨some 47, none, .mv (.tmp 6)⟩,
  ⟨some 48, none, .mv (.tmp 5)⟩,
  ⟨some 49, none, .call f_167 [(.tmp 46), (.tmp 47), (.tmp 48)] true⟩]
def s_141 : SFun := ⟨2, 50, [.tmp 4],
  (.seq (.reg r_141_0) (.block 0 (.loop (.block 1 (.seq (.reg r_141_1) (.seq (.block 2 (.loop (.seq (.seq (.draw r_141_2 [0, 0, 2, 6, 14, 31, 63, 127, 255, 511, 1023, 2047, 127, 4223, 12415, 28799, 127, 127103, 258175, 127, 1044607, 2093183, 4194303, 8388607, 16777215] []) (.cond (.tmp 31) .skip (.exit 2))) (.block 3 (.reg r_141_3))))) (.seq (.seq (.reg r_141_4) (.cond (.tmp 39) (.seq (.reg r_141_5) .ret) .skip)) (.seq (.reg r_141_6) (.seq (.seq (.reg r_141_7) (.cond (.tmp 44) (.seq (.reg r_141_8) .ret) .skip)) (.reg r_141_9))))))))))⟩

def r_142_0 : List SOper := [⟨some 6, none, .box T_simplex_scaled (.tmp 2)⟩,
  ⟨some 7, none, .box T_api_Rat (.tmp 3)⟩,
  ⟨some 8, none, .mv (.const (.slice none 0 0))⟩]
def r_142_1 : List SOper := [⟨some 9, none, .mv (.const (.slice none 0 0))⟩]
def r_142_2 : List SOper := [⟨some 13, none, .mv (.tmp 0)⟩,
  ⟨some 14, none, .chk (.tmp 13)⟩,
  ⟨some 15, none, .fa 1 (.tmp 14)⟩,
  ⟨some 16, none, .load false 1 (.tmp 15)⟩,
  ⟨some 17, none, .mv (.const (.int .i64 0))⟩]
def r_142_3 : List SOper := [⟨some 18, none, .bin 0 .lss (.tmp 17) (.tmp 16)⟩]
def r_142_4 : List SOper := [⟨some 19, none, .mv (.tmp 17)⟩,
  ⟨some 10, none, .mv (.tmp 19)⟩]
def r_142_5 : List SOper := [⟨some 21, none, .mv (.tmp 0)⟩,
  ⟨some 22, none, .mv (.tmp 0)⟩,
  ⟨some 23, none, .chk (.tmp 22)⟩,
  ⟨some 24, none, .fa 3 (.tmp 23)⟩,
  ⟨some 25, none, .load false 1 (.tmp 24)⟩,
  ⟨some 26, none, .mv (.tmp 1)⟩,
  ⟨some 27, none, .ia 1 (.tmp 25) (.tmp 26)⟩,
  ⟨some 28, none, .load false 1 (.tmp 27)⟩,
  ⟨some 29, none, .mv (.tmp 0)⟩,
  ⟨some 30, none, .chk (.tmp 29)⟩,
  ⟨some 31, none, .fa 0 (.tmp 30)⟩,
  ⟨some 32, none, .load false 1 (.tmp 31)⟩,
  ⟨some 33, none, .bin 0 .mul (.const (.int .i64 2)) (.tmp 32)⟩,
  ⟨some 34, none, .mv (.tmp 10)⟩,
  ⟨some 35, none, .bin 0 .add (.tmp 33) (.tmp 34)⟩,
  ⟨some 36, none, .ia 2 (.tmp 28) (.tmp 35)⟩,
  ⟨some 37, none, .load true 2 (.tmp 36)⟩,
  ⟨some 38, none, .call f_169 [(.tmp 21), (.tmp 37)] false⟩,
  ⟨some 39, none, .fa 2 (.tmp 6)⟩,
  ⟨some 40, none, .load false 1 (.tmp 39)⟩,
  ⟨some 41, none, .mv (.tmp 10)⟩,
  ⟨some 42, none, .ia 4 (.tmp 40) (.tmp 41)⟩,
  ⟨some 43, none, .load true 4 (.tmp 42)⟩,
  ⟨some 44, none, .call f_91 [(.tmp 38), (.tmp 43)] false⟩,
  ⟨some 45, none, .load true 4 (.tmp 7)⟩,
  ⟨some 46, none, .call f_168 [(.tmp 44), (.tmp 45)] false⟩,
  ⟨some 20, none, .mv (.tmp 46)⟩,
  ⟨some 47, none, .ext (.tmp 20) 0⟩,
  ⟨some 48, none, .ext (.tmp 20) 1⟩,
  ⟨some 11, none, .alloc T_api_Rat [(.bool false), (.slice none 0 0), (.bool false), (.slice none 0 0)]⟩,
  ⟨none, none, .store 4 (.tmp 11) (.tmp 47)⟩,
  ⟨some 12, none, .mv (.tmp 48)⟩]
def r_142_6 : List SOper := [⟨some 49, none, .mv (.tmp 9)⟩,
  ⟨some 50, none, .load true 4 (.tmp 11)⟩,
  ⟨some 51, none, .lit T_api_Rat [(.bool false), (.slice none 0 0), (.bool false), (.slice none 0 0)] 1 [(0, 4, (.tmp 50))]⟩,
  ⟨some 52, none, .app T_api_Rat 4 64 (.tmp 49) (.tmp 51)⟩,
  ⟨some 9, none, .mv (.tmp 52)⟩]
def r_142_7 : List SOper := [⟨some 53, none, .bin 0 .add (.tmp 17) (.const (.int .i64 1))⟩,
  ⟨some 17, none, .mv (.tmp 53)⟩]
def r_142_8 : List SOper := [⟨some 54, none, .mv (.tmp 9)⟩,
  ⟨some 8, none, .mv (.tmp 54)⟩]
def s_142 : SFun := ⟨4, 55, [.tmp 8],
  (.seq (.reg r_142_0) (.seq (.reg r_142_1) (.seq (.seq (.reg r_142_2) (.block 0 (.loop (.seq (.reg r_142_3) (.seq (.cond (.tmp 18) .skip (.exit 0)) (.seq (.block 1 (.seq (.reg r_142_4) (.seq (.draw r_142_5 [0, 0, 2, 6, 14, 0, 62, 126, 0, 256, 768, 1792, 3840, 0, 16128, 32766, 65534, 131071, 0, 262144, 0, 1835008, 3932160, 8388607, 0, 33554431, 67108863, 134217727, 134217727, 0, 805306367, 2147483647] []) (.reg r_142_6)))) (.reg r_142_7))))))) (.seq (.reg r_142_8) .ret))))⟩

def r_143_0 : List SOper := [⟨some 7, none, .mv (.tmp 0)⟩,
  ⟨some 8, none, .chk (.tmp 7)⟩,
  ⟨some 9, none, .fa 1 (.tmp 8)⟩,
  ⟨some 10, none, .load false 1 (.tmp 9)⟩,
  ⟨some 11, none, .mv (.const (.int .i64 0))⟩]
def r_143_1 : List SOper := [⟨some 12, none, .bin 0 .lss (.tmp 11) (.tmp 10)⟩]
def r_143_2 : List SOper := [⟨some 13, none, .mv (.tmp 11)⟩,
  ⟨some 2, none, .mv (.tmp 13)⟩]
def r_143_3 : List SOper := [⟨some 14, none, .mv (.tmp 0)⟩,
  ⟨some 15, none, .chk (.tmp 14)⟩,
  ⟨some 16, none, .fa 6 (.tmp 15)⟩,
  ⟨some 17, none, .load false 1 (.tmp 16)⟩,
  ⟨some 18, none, .mv (.tmp 2)⟩,
  ⟨some 19, none, .ia 1 (.tmp 17) (.tmp 18)⟩,
  ⟨some 20, none, .load false 1 (.tmp 19)⟩,
  ⟨some 21, none, .mv (.tmp 0)⟩,
  ⟨some 22, none, .chk (.tmp 21)⟩,
  ⟨some 23, none, .fa 2 (.tmp 22)⟩,
  ⟨some 24, none, .load false 1 (.tmp 23)⟩,
  ⟨some 25, none, .bin 0 .lss (.tmp 20) (.tmp 24)⟩]
def r_143_4 : List SOper := [⟨some 26, none, .mv (.tmp 0)⟩,
  ⟨some 27, none, .chk (.tmp 26)⟩,
  ⟨some 28, none, .fa 2 (.tmp 27)⟩,
  ⟨some 29, none, .load false 1 (.tmp 28)⟩,
  ⟨some 30, none, .mv (.const (.int .i64 0))⟩]
def r_143_5 : List SOper := [⟨some 31, none, .bin 0 .lss (.tmp 30) (.tmp 29)⟩]
def r_143_6 : List SOper := [⟨some 32, none, .mv (.tmp 30)⟩,
  ⟨some 3, none, .mv (.tmp 32)⟩]
def r_143_7 : List SOper := [⟨some 33, none, .mv (.tmp 0)⟩,
  ⟨some 34, none, .chk (.tmp 33)⟩,
  ⟨some 35, none, .fa0 T_simplex_tableau_api_Int_simplex_all_150 (.tmp 34)⟩,
  ⟨some 36, none, .load true 0 (.tmp 35)⟩,
  ⟨some 37, none, .iface T_simplex_all (.tmp 36)⟩,
  ⟨some 38, none, .mv (.tmp 0)⟩,
  ⟨some 39, none, .chk (.tmp 38)⟩,
  ⟨some 40, none, .fa 3 (.tmp 39)⟩,
  ⟨some 41, none, .load false 1 (.tmp 40)⟩,
  ⟨some 42, none, .mv (.tmp 2)⟩,
  ⟨some 43, none, .ia 1 (.tmp 41) (.tmp 42)⟩,
  ⟨some 44, none, .load false 1 (.tmp 43)⟩,
  ⟨some 45, none, .mv (.tmp 3)⟩,
  ⟨some 46, none, .ia 2 (.tmp 44) (.tmp 45)⟩,
  ⟨some 47, none, .load true 2 (.tmp 46)⟩,
  ⟨some 48, none, .inv (.tmp 37) [(T_simplex_all, f_205), (T_simplex_few, f_212)] [(.tmp 47)] true⟩,
  ⟨some 4, none, .mv (.tmp 48)⟩]
def r_143_8 : List SOper := [⟨some 49, none, .mv (.tmp 4)⟩,
  ⟨some 50, none, .bin 0 .eql (.tmp 49) (.const (.int .i64 0))⟩]
def r_143_9 : List SOper := [⟨some 51, none, .mv (.tmp 4)⟩,
  ⟨some 52, none, .bin 0 .lss (.tmp 51) (.const (.int .i64 0))⟩]
def r_143_10 : List SOper := [⟨some 53, none, .mv (.tmp 0)⟩,
  ⟨some 54, none, .chk (.tmp 53)⟩,
  ⟨some 55, none, .fa 3 (.tmp 54)⟩,
  ⟨some 56, none, .load false 1 (.tmp 55)⟩,
  ⟨some 57, none, .mv (.tmp 2)⟩,
  ⟨some 58, none, .ia 1 (.tmp 56) (.tmp 57)⟩,
  ⟨some 59, none, .load false 1 (.tmp 58)⟩,
  ⟨some 60, none, .len (.tmp 59)⟩,
  ⟨some 61, none, .mv (.const (.int .i64 0))⟩]
def r_143_11 : List SOper := [⟨some 62, none, .bin 0 .lss (.tmp 61) (.tmp 60)⟩]
def r_143_12 : List SOper := [⟨some 63, none, .mv (.tmp 61)⟩,
  ⟨some 64, none, .ia 2 (.tmp 59) (.tmp 61)⟩,
  ⟨some 65, none, .load true 2 (.tmp 64)⟩,
  ⟨some 6, none, .alloc T_api_Int [(.bool false), (.slice none 0 0)]⟩,
  ⟨some 5, none, .mv (.tmp 63)⟩,
  ⟨none, none, .store 2 (.tmp 6) (.tmp 65)⟩]
def r_143_13 : List SOper := [⟨some 66, none, .mv (.tmp 0)⟩,
  ⟨some 67, none, .chk (.tmp 66)⟩,
  ⟨some 68, none, .fa 3 (.tmp 67)⟩,
  ⟨some 69, none, .load false 1 (.tmp 68)⟩,
  ⟨some 70, none, .mv (.tmp 2)⟩,
  ⟨some 71, none, .ia 1 (.tmp 69) (.tmp 70)⟩,
  ⟨some 72, none, .load false 1 (.tmp 71)⟩,
  ⟨some 73, none, .mv (.tmp 5)⟩,
  ⟨some 74, none, .mv (.tmp 0)⟩,
  ⟨some 75, none, .chk (.tmp 74)⟩,
  ⟨some 76, none, .fa0 T_simplex_tableau_api_Int_simplex_all_150 (.tmp 75)⟩,
  ⟨some 77, none, .load true 0 (.tmp 76)⟩,
  ⟨some 78, none, .iface T_simplex_all (.tmp 77)⟩,
  ⟨some 79, none, .load true 2 (.tmp 6)⟩,
  ⟨some 80, none, .inv (.tmp 78) [(T_simplex_all, f_202), (T_simplex_few, f_209)] [(.tmp 79)] false⟩,
  ⟨some 81, none, .ia 2 (.tmp 72) (.tmp 73)⟩,
  ⟨none, none, .store 2 (.tmp 81) (.tmp 80)⟩]
def r_143_14 : List SOper := [⟨some 82, none, .bin 0 .add (.tmp 61) (.const (.int .i64 1))⟩,
  ⟨some 61, none, .mv (.tmp 82)⟩]
def r_143_15 : List SOper := [⟨some 83, none, .mv (.tmp 0)⟩,
  ⟨some 84, none, .mv (.tmp 2)⟩,
  ⟨some 85, none, .mv (.tmp 3)⟩,
  ⟨some 86, none, .call f_167 [(.tmp 83), (.tmp 84), (.tmp 85)] true⟩]
def r_143_16 : List SOper := [⟨some 87, none, .bin 0 .add (.tmp 30) (.const (.int .i64 1))⟩,
  ⟨some 30, none, .mv (.tmp 87)⟩]
def r_143_17 : List SOper := [⟨some 88, none, .bin 0 .add (.tmp 11) (.const (.int .i64 1))⟩,
  ⟨some 11, none, .mv (.tmp 88)⟩]
def s_143 : SFun := ⟨1, 89, [],
  (.seq (.reg r_143_0) (.block 0 (.loop (.seq (.reg r_143_1) (.seq (.cond (.tmp 12) .skip (.exit 0)) (.seq (.block 1 (.seq (.reg r_143_2) (.seq (.seq (.draw r_143_3 [0, 1, 3, 7, 0, 31, 63, 0, 128, 384, 896, 2047] []) (.cond (.tmp 25) (.exit 1) .skip)) (.seq (.reg r_143_4) (.block 2 (.loop (.seq (.reg r_143_5) (.seq (.cond (.tmp 31) .skip (.exit 2)) (.seq (.block 3 (.seq (.reg r_143_6) (.seq (.draw r_143_7 [0, 1, 3, 7, 15, 0, 32, 96, 224, 0, 992, 2016, 0, 8160, 16352, 32767, 65535] []) (.seq (.seq (.reg r_143_8) (.cond (.tmp 50) (.exit 3) .skip)) (.seq (.seq (.reg r_143_9) (.cond (.tmp 52) (.seq (.reg r_143_10) (.block 4 (.loop (.seq (.reg r_143_11) (.seq (.cond (.tmp 62) .skip (.exit 4)) (.seq (.block 5 (.seq (.reg r_143_12) (.draw r_143_13 [0, 1, 3, 7, 0, 31, 63, 0, 0, 256, 768, 1792, 3840, 0, 16128, 32767, 65535] []))) (.reg r_143_14))))))) .skip)) (.seq (.reg r_143_15) (.exit 2))))))) (.reg r_143_16)))))))))) (.reg r_143_17)))))))⟩

def r_144_0 : List SOper := [⟨some 4, none, .mv (.const (.slice none 0 0))⟩]
def r_144_1 : List SOper := [⟨some 9, none, .mv (.tmp 0)⟩,
  ⟨some 10, none, .chk (.tmp 9)⟩,
  ⟨some 11, none, .fa 0 (.tmp 10)⟩,
  ⟨some 12, none, .load false 1 (.tmp 11)⟩,
  ⟨some 13, none, .mk T_api_Rat 64 [(.bool false), (.slice none 0 0), (.bool false), (.slice none 0 0)] (.tmp 12) (.tmp 12)⟩,
  ⟨some 5, none, .mv (.tmp 13)⟩]
def r_144_2 : List SOper := [⟨some 14, none, .mv (.tmp 5)⟩,
  ⟨some 15, none, .len (.tmp 14)⟩,
  ⟨some 16, none, .mv (.const (.int .i64 0))⟩]
def r_144_3 : List SOper := [⟨some 17, none, .bin 0 .lss (.tmp 16) (.tmp 15)⟩]
def r_144_4 : List SOper := [⟨some 18, none, .mv (.tmp 16)⟩,
  ⟨some 6, none, .mv (.tmp 18)⟩]
def r_144_5 : List SOper := [⟨some 19, none, .mv (.tmp 5)⟩,
  ⟨some 20, none, .mv (.tmp 6)⟩,
  ⟨some 21, none, .call f_90 [(.const (.int .i64 0))] true⟩,
  ⟨some 22, none, .ia 4 (.tmp 19) (.tmp 20)⟩,
  ⟨none, none, .store 4 (.tmp 22) (.tmp 21)⟩]
def r_144_6 : List SOper := [⟨some 23, none, .bin 0 .add (.tmp 16) (.const (.int .i64 1))⟩,
  ⟨some 16, none, .mv (.tmp 23)⟩]
def r_144_7 : List SOper := [⟨some 24, none, .mv (.tmp 0)⟩,
  ⟨some 25, none, .chk (.tmp 24)⟩,
  ⟨some 26, none, .fa 6 (.tmp 25)⟩,
  ⟨some 27, none, .load false 1 (.tmp 26)⟩,
  ⟨some 28, none, .len (.tmp 27)⟩,
  ⟨some 29, none, .mv (.const (.int .i64 0))⟩]
def r_144_8 : List SOper := [⟨some 30, none, .bin 0 .lss (.tmp 29) (.tmp 28)⟩]
def r_144_9 : List SOper := [⟨some 31, none, .mv (.tmp 29)⟩,
  ⟨some 32, none, .ia 1 (.tmp 27) (.tmp 29)⟩,
  ⟨some 33, none, .load false 1 (.tmp 32)⟩,
  ⟨some 7, none, .mv (.tmp 31)⟩,
  ⟨some 8, none, .mv (.tmp 33)⟩]
def r_144_10 : List SOper := [⟨some 35, none, .mv (.tmp 8)⟩,
  ⟨some 36, none, .mv (.tmp 0)⟩,
  ⟨some 37, none, .chk (.tmp 36)⟩,
  ⟨some 38, none, .fa 0 (.tmp 37)⟩,
  ⟨some 39, none, .load false 1 (.tmp 38)⟩,
  ⟨some 40, none, .bin 0 .lss (.tmp 35) (.tmp 39)⟩,
  ⟨some 34, none, .mv (.tmp 40)⟩]
def r_144_11 : List SOper := [⟨some 41, none, .mv (.tmp 5)⟩,
  ⟨some 42, none, .mv (.tmp 8)⟩,
  ⟨some 43, none, .mv (.tmp 5)⟩,
  ⟨some 44, none, .mv (.tmp 8)⟩,
  ⟨some 45, none, .ia 4 (.tmp 43) (.tmp 44)⟩,
  ⟨some 46, none, .load true 4 (.tmp 45)⟩,
  ⟨some 47, none, .mv (.tmp 0)⟩,
  ⟨some 48, none, .mv (.tmp 1)⟩,
  ⟨some 49, none, .mv (.tmp 7)⟩,
  ⟨some 50, none, .callv (.tmp 48) [(.tmp 49)] false⟩,
  ⟨some 51, none, .call f_169 [(.tmp 47), (.tmp 50)] false⟩,
  ⟨some 52, none, .call f_51 [(.tmp 46), (.tmp 51)] true⟩,
  ⟨some 53, none, .ia 4 (.tmp 41) (.tmp 42)⟩,
  ⟨none, none, .store 4 (.tmp 53) (.tmp 52)⟩]
def r_144_12 : List SOper := [⟨some 55, none, .mv (.tmp 8)⟩,
  ⟨some 56, none, .mv (.tmp 0)⟩,
  ⟨some 57, none, .chk (.tmp 56)⟩,
  ⟨some 58, none, .fa 0 (.tmp 57)⟩,
  ⟨some 59, none, .load false 1 (.tmp 58)⟩,
  ⟨some 60, none, .bin 0 .mul (.const (.int .i64 2)) (.tmp 59)⟩,
  ⟨some 61, none, .bin 0 .lss (.tmp 55) (.tmp 60)⟩,
  ⟨some 54, none, .mv (.tmp 61)⟩]
def r_144_13 : List SOper := [⟨some 62, none, .mv (.tmp 5)⟩,
  ⟨some 63, none, .mv (.tmp 8)⟩,
  ⟨some 64, none, .mv (.tmp 0)⟩,
  ⟨some 65, none, .chk (.tmp 64)⟩,
  ⟨some 66, none, .fa 0 (.tmp 65)⟩,
  ⟨some 67, none, .load false 1 (.tmp 66)⟩,
  ⟨some 68, none, .bin 0 .sub (.tmp 63) (.tmp 67)⟩,
  ⟨some 69, none, .mv (.tmp 5)⟩,
  ⟨some 70, none, .mv (.tmp 8)⟩,
  ⟨some 71, none, .mv (.tmp 0)⟩,
  ⟨some 72, none, .chk (.tmp 71)⟩,
  ⟨some 73, none, .fa 0 (.tmp 72)⟩,
  ⟨some 74, none, .load false 1 (.tmp 73)⟩,
  ⟨some 75, none, .bin 0 .sub (.tmp 70) (.tmp 74)⟩,
  ⟨some 76, none, .ia 4 (.tmp 69) (.tmp 75)⟩,
  ⟨some 77, none, .load true 4 (.tmp 76)⟩,
  ⟨some 78, none, .mv (.tmp 0)⟩,
  ⟨some 79, none, .mv (.tmp 1)⟩,
  ⟨some 80, none, .mv (.tmp 7)⟩,
  ⟨some 81, none, .callv (.tmp 79) [(.tmp 80)] false⟩,
  ⟨some 82, none, .call f_169 [(.tmp 78), (.tmp 81)] false⟩,
  ⟨some 83, none, .call f_170 [(.tmp 77), (.tmp 82)] false⟩,
  ⟨some 84, none, .ia 4 (.tmp 62) (.tmp 68)⟩,
  ⟨none, none, .store 4 (.tmp 84) (.tmp 83)⟩]
def r_144_14 : List SOper := [⟨some 85, none, .bin 0 .add (.tmp 29) (.const (.int .i64 1))⟩,
  ⟨some 29, none, .mv (.tmp 85)⟩]
def r_144_15 : List SOper := [⟨some 86, none, .mv (.tmp 5)⟩,
  ⟨some 4, none, .mv (.tmp 86)⟩]
def s_144 : SFun := ⟨2, 87, [.tmp 4],
  (.seq (.reg r_144_0) (.seq (.reg r_144_1) (.seq (.seq (.reg r_144_2) (.block 0 (.loop (.seq (.reg r_144_3) (.seq (.cond (.tmp 17) .skip (.exit 0)) (.seq (.block 1 (.seq (.reg r_144_4) (.reg r_144_5))) (.reg r_144_6))))))) (.seq (.seq (.reg r_144_7) (.block 2 (.loop (.seq (.reg r_144_8) (.seq (.cond (.tmp 30) .skip (.exit 2)) (.seq (.block 3 (.seq (.reg r_144_9) (.block 4 (.seq (.reg r_144_10) (.cond (.tmp 34) (.draw r_144_11 [0, 0, 0, 0, 12, 28, 0, 0, 0, 384, 960, 2044, 4095, 8191] []) (.seq (.reg r_144_12) (.cond (.tmp 54) (.draw r_144_13 [0, 0, 0, 4, 12, 28, 62, 0, 0, 0, 512, 1536, 3584, 7936, 16256, 32640, 0, 0, 0, 393216, 983040, 2097024, 4194303, 8388607] []) .skip))))))) (.reg r_144_14))))))) (.seq (.reg r_144_15) .ret)))))⟩

def r_145_0 : List SOper := [⟨some 3, none, .alloc T_api_Int [(.bool false), (.slice none 0 0)]⟩]
def r_145_1 : List SOper := [⟨some 4, none, .load false 1 (.tmp 1)⟩,
  ⟨some 5, none, .chk (.tmp 4)⟩,
  ⟨some 6, none, .fa 3 (.tmp 5)⟩,
  ⟨some 7, none, .load false 1 (.tmp 6)⟩,
  ⟨some 8, none, .mv (.tmp 0)⟩,
  ⟨some 9, none, .ia 1 (.tmp 7) (.tmp 8)⟩,
  ⟨some 10, none, .load false 1 (.tmp 9)⟩,
  ⟨some 11, none, .load false 1 (.tmp 1)⟩,
  ⟨some 12, none, .chk (.tmp 11)⟩,
  ⟨some 13, none, .fa 2 (.tmp 12)⟩,
  ⟨some 14, none, .load false 1 (.tmp 13)⟩,
  ⟨some 15, none, .ia 2 (.tmp 10) (.tmp 14)⟩,
  ⟨some 16, none, .load true 2 (.tmp 15)⟩,
  ⟨none, none, .store 2 (.tmp 3) (.tmp 16)⟩]
def s_145 : SFun := ⟨2, 17, [.cell 3 true 2],
  (.seq (.reg r_145_0) (.seq (.draw r_145_1 [0, 1, 3, 7, 0, 31, 63, 0, 128, 384, 896, 2047, 4095, 8191] []) .ret))⟩

def r_146_0 : List SOper := [⟨some 2, none, .box T_simplex_tableau_api_Int_simplex_all (.tmp 0)⟩,
  ⟨some 3, none, .box T_int (.tmp 1)⟩,
  ⟨some 4, none, .mv (.const (.slice none 0 0))⟩]
def r_146_1 : List SOper := [⟨some 6, none, .load false 1 (.tmp 2)⟩,
  ⟨some 7, none, .mkfn (.func f_171) [] [(.tmp 2), (.tmp 3)]⟩,
  ⟨some 8, none, .call f_144 [(.tmp 6), (.tmp 7)] true⟩,
  ⟨some 5, none, .mv (.tmp 8)⟩]
def r_146_2 : List SOper := [⟨some 10, none, .load false 1 (.tmp 3)⟩,
  ⟨some 11, none, .load false 1 (.tmp 2)⟩,
  ⟨some 12, none, .chk (.tmp 11)⟩,
  ⟨some 13, none, .fa 0 (.tmp 12)⟩,
  ⟨some 14, none, .load false 1 (.tmp 13)⟩,
  ⟨some 15, none, .bin 0 .lss (.tmp 10) (.tmp 14)⟩,
  ⟨some 9, none, .mv (.tmp 15)⟩]
def r_146_3 : List SOper := [⟨some 16, none, .mv (.tmp 5)⟩,
  ⟨some 17, none, .load false 1 (.tmp 3)⟩,
  ⟨some 18, none, .mv (.tmp 5)⟩,
  ⟨some 19, none, .load false 1 (.tmp 3)⟩,
  ⟨some 20, none, .ia 4 (.tmp 18) (.tmp 19)⟩,
  ⟨some 21, none, .load true 4 (.tmp 20)⟩,
  ⟨some 22, none, .call f_90 [(.const (.int .i64 1))] false⟩,
  ⟨some 23, none, .call f_51 [(.tmp 21), (.tmp 22)] false⟩,
  ⟨some 24, none, .ia 4 (.tmp 16) (.tmp 17)⟩,
  ⟨none, none, .store 4 (.tmp 24) (.tmp 23)⟩]
def r_146_4 : List SOper := [⟨some 26, none, .load false 1 (.tmp 3)⟩,
  ⟨some 27, none, .load false 1 (.tmp 2)⟩,
  ⟨some 28, none, .chk (.tmp 27)⟩,
  ⟨some 29, none, .fa 0 (.tmp 28)⟩,
  ⟨some 30, none, .load false 1 (.tmp 29)⟩,
  ⟨some 31, none, .bin 0 .mul (.const (.int .i64 2)) (.tmp 30)⟩,
  ⟨some 32, none, .bin 0 .lss (.tmp 26) (.tmp 31)⟩,
  ⟨some 25, none, .mv (.tmp 32)⟩]
def r_146_5 : List SOper := [⟨some 33, none, .mv (.tmp 5)⟩,
  ⟨some 34, none, .load false 1 (.tmp 3)⟩,
  ⟨some 35, none, .load false 1 (.tmp 2)⟩,
  ⟨some 36, none, .chk (.tmp 35)⟩,
  ⟨some 37, none, .fa 0 (.tmp 36)⟩,
  ⟨some 38, none, .load false 1 (.tmp 37)⟩,
  ⟨some 39, none, .bin 0 .sub (.tmp 34) (.tmp 38)⟩,
  ⟨some 40, none, .mv (.tmp 5)⟩,
  ⟨some 41, none, .load false 1 (.tmp 3)⟩,
  ⟨some 42, none, .load false 1 (.tmp 2)⟩,
  ⟨some 43, none, .chk (.tmp 42)⟩,
  ⟨some 44, none, .fa 0 (.tmp 43)⟩,
  ⟨some 45, none, .load false 1 (.tmp 44)⟩,
  ⟨some 46, none, .bin 0 .sub (.tmp 41) (.tmp 45)⟩,
  ⟨some 47, none, .ia 4 (.tmp 40) (.tmp 46)⟩,
  ⟨some 48, none, .load true 4 (.tmp 47)⟩,
  ⟨some 49, none, .call f_90 [(.const (.int .i64 1))] false⟩,
  ⟨some 50, none, .call f_170 [(.tmp 48), (.tmp 49)] false⟩,
  ⟨some 51, none, .ia 4 (.tmp 33) (.tmp 39)⟩,
  ⟨none, none, .store 4 (.tmp 51) (.tmp 50)⟩]
def r_146_6 : List SOper := [⟨some 52, none, .mv (.tmp 5)⟩,
  ⟨some 4, none, .mv (.tmp 52)⟩]
def s_146 : SFun := ⟨2, 53, [.tmp 4],
  (.seq (.reg r_146_0) (.seq (.reg r_146_1) (.seq (.block 0 (.seq (.draw r_146_2 [0, 0, 2, 6, 14, 31, 63] []) (.cond (.tmp 9) (.draw r_146_3 [0, 0, 0, 0, 12, 28, 0, 124, 255, 511] []) (.seq (.draw r_146_4 [0, 0, 2, 6, 14, 30, 63, 127] []) (.cond (.tmp 25) (.draw r_146_5 [0, 0, 0, 4, 12, 28, 62, 0, 0, 0, 512, 1536, 3584, 7936, 16256, 32640, 0, 130944, 262143, 524287] []) .skip))))) (.seq (.reg r_146_6) .ret))))⟩

def r_151_0 : List SOper := [⟨some 1, none, .box T_api_Int (.tmp 0)⟩,
  ⟨some 2, none, .alloc T_api_Int [(.bool false), (.slice none 0 0)]⟩]
def r_151_1 : List SOper := [⟨some 3, none, .load true 2 (.tmp 1)⟩,
  ⟨some 4, none, .call f_120 [(.tmp 3)] false⟩,
  ⟨some 5, none, .un .not (.tmp 4)⟩,
  ⟨some 6, none, .load true 2 (.tmp 1)⟩,
  ⟨some 7, none, .call f_119 [(.tmp 6)] true⟩,
  ⟨some 8, none, .call f_121 [(.tmp 5), (.tmp 7)] true⟩,
  ⟨none, none, .store 2 (.tmp 2) (.tmp 8)⟩]
def s_151 : SFun := ⟨1, 9, [.cell 2 true 2],
  (.seq (.reg r_151_0) (.seq (.draw r_151_1 [0, 1, 3, 0, 11, 31, 63] []) .ret))⟩

def r_152_0 : List SOper := [⟨some 2, none, .box T_api_Int (.tmp 0)⟩,
  ⟨some 3, none, .box T_api_Int (.tmp 1)⟩,
  ⟨some 4, none, .alloc T_api_Int [(.bool false), (.slice none 0 0)]⟩,
  ⟨some 5, none, .alloc T_api_Int [(.bool false), (.slice none 0 0)]⟩,
  ⟨some 6, none, .mv (.const (.int .i64 0))⟩]
def r_152_1 : List SOper := [⟨some 13, none, .load true 2 (.tmp 2)⟩,
  ⟨some 14, none, .call f_119 [(.tmp 13)] false⟩,
  ⟨some 15, none, .load true 2 (.tmp 3)⟩,
  ⟨some 16, none, .call f_119 [(.tmp 15)] true⟩,
  ⟨some 7, none, .mv (.tmp 14)⟩,
  ⟨some 8, none, .mv (.tmp 16)⟩]
def r_152_2 : List SOper := [⟨some 18, none, .mv (.tmp 8)⟩,
  ⟨some 19, none, .len (.tmp 18)⟩,
  ⟨some 20, none, .bin 0 .eql (.tmp 19) (.const (.int .i64 0))⟩,
  ⟨some 17, none, .mv (.tmp 20)⟩]
def r_152_3 : List SOper := [⟨some 21, none, .build [(.bool false), (.slice none 0 0)] []⟩,
  ⟨some 22, none, .build [(.bool false), (.slice none 0 0)] []⟩,
  ⟨none, none, .store 2 (.tmp 4) (.tmp 21)⟩,
  ⟨none, none, .store 2 (.tmp 5) (.tmp 22)⟩,
  ⟨some 6, none, .mv (.const (.int .i64 1))⟩]
def r_152_4 : List SOper := [⟨some 24, none, .mv (.tmp 7)⟩,
  ⟨some 25, none, .mv (.tmp 8)⟩,
  ⟨some 26, none, .call f_123 [(.tmp 24), (.tmp 25)] true⟩,
  ⟨some 27, none, .bin 0 .lss (.tmp 26) (.const (.int .i64 0))⟩,
  ⟨some 23, none, .mv (.tmp 27)⟩]
def r_152_5 : List SOper := [⟨some 28, none, .build [(.bool false), (.slice none 0 0)] []⟩,
  ⟨some 29, none, .load true 2 (.tmp 2)⟩,
  ⟨some 30, none, .call f_120 [(.tmp 29)] true⟩,
  ⟨some 31, none, .mv (.tmp 7)⟩,
  ⟨some 32, none, .call f_121 [(.tmp 30), (.tmp 31)] true⟩,
  ⟨none, none, .store 2 (.tmp 4) (.tmp 28)⟩,
  ⟨none, none, .store 2 (.tmp 5) (.tmp 32)⟩,
  ⟨some 6, none, .mv (.const (.int .i64 0))⟩]
def r_152_6 : List SOper := [⟨some 34, none, .mv (.tmp 8)⟩,
  ⟨some 35, none, .len (.tmp 34)⟩,
  ⟨some 36, none, .bin 0 .eql (.tmp 35) (.const (.int .i64 1))⟩,
  ⟨some 33, none, .mv (.tmp 36)⟩]
def r_152_7 : List SOper := [⟨some 38, none, .mv (.tmp 7)⟩,
  ⟨some 39, none, .mv (.tmp 8)⟩,
  ⟨some 40, none, .ia 1 (.tmp 39) (.const (.int .i64 0))⟩,
  ⟨some 41, none, .load false 1 (.tmp 40)⟩,
  ⟨some 42, none, .call f_172 [(.tmp 38), (.tmp 41)] true⟩,
  ⟨some 37, none, .mv (.tmp 42)⟩,
  ⟨some 43, none, .ext (.tmp 37) 0⟩,
  ⟨some 44, none, .ext (.tmp 37) 1⟩,
  ⟨some 9, none, .mv (.tmp 43)⟩,
  ⟨some 10, none, .mv (.tmp 44)⟩]
def r_152_8 : List SOper := [⟨some 45, none, .load true 2 (.tmp 2)⟩,
  ⟨some 46, none, .call f_120 [(.tmp 45)] false⟩,
  ⟨some 47, none, .load true 2 (.tmp 3)⟩,
  ⟨some 48, none, .call f_120 [(.tmp 47)] false⟩,
  ⟨some 49, none, .bin 1 .neq (.tmp 46) (.tmp 48)⟩,
  ⟨some 50, none, .mv (.tmp 9)⟩,
  ⟨some 51, none, .call f_121 [(.tmp 49), (.tmp 50)] false⟩,
  ⟨some 52, none, .load true 2 (.tmp 2)⟩,
  ⟨some 53, none, .call f_120 [(.tmp 52)] false⟩,
  ⟨some 54, none, .mv (.tmp 10)⟩,
  ⟨some 55, none, .lit T_uint32 [(.int .u32 0)] 1 [(0, 1, (.tmp 54))]⟩,
  ⟨some 56, none, .call f_121 [(.tmp 53), (.tmp 55)] true⟩,
  ⟨none, none, .store 2 (.tmp 4) (.tmp 51)⟩,
  ⟨none, none, .store 2 (.tmp 5) (.tmp 56)⟩,
  ⟨some 6, none, .mv (.const (.int .i64 0))⟩]
def r_152_9 : List SOper := [⟨some 58, none, .mv (.tmp 7)⟩,
  ⟨some 59, none, .mv (.tmp 8)⟩,
  ⟨some 60, none, .call f_173 [(.tmp 58), (.tmp 59)] true⟩,
  ⟨some 57, none, .mv (.tmp 60)⟩,
  ⟨some 61, none, .ext (.tmp 57) 0⟩,
  ⟨some 62, none, .ext (.tmp 57) 1⟩,
  ⟨some 11, none, .mv (.tmp 61)⟩,
  ⟨some 12, none, .mv (.tmp 62)⟩]
def r_152_10 : List SOper := [⟨some 63, none, .load true 2 (.tmp 2)⟩,
  ⟨some 64, none, .call f_120 [(.tmp 63)] false⟩,
  ⟨some 65, none, .load true 2 (.tmp 3)⟩,
  ⟨some 66, none, .call f_120 [(.tmp 65)] false⟩,
  ⟨some 67, none, .bin 1 .neq (.tmp 64) (.tmp 66)⟩,
  ⟨some 68, none, .mv (.tmp 11)⟩,
  ⟨some 69, none, .call f_121 [(.tmp 67), (.tmp 68)] false⟩,
  ⟨some 70, none, .load true 2 (.tmp 2)⟩,
  ⟨some 71, none, .call f_120 [(.tmp 70)] true⟩,
  ⟨some 72, none, .mv (.tmp 12)⟩,
  ⟨some 73, none, .call f_121 [(.tmp 71), (.tmp 72)] true⟩,
  ⟨none, none, .store 2 (.tmp 4) (.tmp 69)⟩,
  ⟨none, none, .store 2 (.tmp 5) (.tmp 73)⟩,
  ⟨some 6, none, .mv (.const (.int .i64 0))⟩]
def s_152 : SFun := ⟨2, 74, [.cell 4 true 2, .cell 5 true 2, .tmp 6],
  (.seq (.reg r_152_0) (.seq (.draw r_152_1 [0, 1, 0, 7, 15, 31] []) (.seq (.block 0 (.seq (.reg r_152_2) (.cond (.tmp 17) (.seq (.reg r_152_3) .ret) (.seq (.reg r_152_4) (.cond (.tmp 23) (.seq (.reg r_152_5) .ret) (.seq (.reg r_152_6) (.cond (.tmp 33) (.seq (.reg r_152_7) (.seq (.draw r_152_8 [0, 1, 0, 7, 15, 0, 63, 0, 255, 0, 512, 2047, 4095, 8191, 16383] []) .ret)) .skip))))))) (.seq (.reg r_152_9) (.seq (.draw r_152_10 [0, 1, 0, 7, 15, 0, 63, 0, 255, 0, 1023, 2047, 4095, 8191] []) .ret)))))⟩

def r_153_0 : List SOper := [⟨some 2, none, .mv (.const (.slice none 0 0))⟩]
def r_153_1 : List SOper := [⟨some 3, none, .mv (.tmp 0)⟩,
  ⟨some 4, none, .bin 2 .eql (.tmp 3) (.const (.slice none 0 0))⟩]
def r_153_2 : List SOper := [⟨some 2, none, .mv (.const (.slice none 0 0))⟩]
def r_153_3 : List SOper := [⟨some 5, none, .lit T_uint32 [(.int .u32 0)] 0 []⟩,
  ⟨some 6, none, .mv (.tmp 0)⟩,
  ⟨some 7, none, .app T_uint32 1 4 (.tmp 5) (.tmp 6)⟩,
  ⟨some 2, none, .mv (.tmp 7)⟩]
def s_153 : SFun := ⟨1, 8, [.tmp 2],
  (.seq (.reg r_153_0) (.seq (.seq (.reg r_153_1) (.cond (.tmp 4) (.seq (.reg r_153_2) .ret) .skip)) (.seq (.reg r_153_3) .ret)))⟩

def r_154_0 : List SOper := [⟨some 4, none, .mv (.const (.int .i64 0))⟩]
def r_154_1 : List SOper := [⟨some 6, none, .mv (.tmp 0)⟩,
  ⟨some 7, none, .mv (.tmp 1)⟩,
  ⟨some 8, none, .bin 0 .lss (.tmp 6) (.tmp 7)⟩,
  ⟨some 5, none, .mv (.tmp 8)⟩]
def r_154_2 : List SOper := [⟨some 4, none, .mv (.const (.int .i64 (-1)))⟩]
def r_154_3 : List SOper := [⟨some 10, none, .mv (.tmp 0)⟩,
  ⟨some 11, none, .mv (.tmp 1)⟩,
  ⟨some 12, none, .bin 0 .gtr (.tmp 10) (.tmp 11)⟩,
  ⟨some 9, none, .mv (.tmp 12)⟩]
def r_154_4 : List SOper := [⟨some 4, none, .mv (.const (.int .i64 1))⟩]
def r_154_5 : List SOper := [⟨some 4, none, .mv (.const (.int .i64 0))⟩]
def s_154 : SFun := ⟨2, 13, [.tmp 4],
  (.seq (.reg r_154_0) (.seq (.block 0 (.seq (.reg r_154_1) (.cond (.tmp 5) (.seq (.reg r_154_2) .ret) (.seq (.reg r_154_3) (.cond (.tmp 9) (.seq (.reg r_154_4) .ret) .skip))))) (.seq (.reg r_154_5) .ret)))⟩

def r_155_0 : List SOper := [⟨some 4, none, .mv (.const (.int .i64 0))⟩]
def r_155_1 : List SOper := [⟨some 6, none, .mv (.tmp 0)⟩,
  ⟨some 7, none, .mv (.tmp 1)⟩,
  ⟨some 8, none, .bin 0 .lss (.tmp 6) (.tmp 7)⟩,
  ⟨some 5, none, .mv (.tmp 8)⟩]
def r_155_2 : List SOper := [⟨some 4, none, .mv (.const (.int .i64 (-1)))⟩]
def r_155_3 : List SOper := [⟨some 10, none, .mv (.tmp 0)⟩,
  ⟨some 11, none, .mv (.tmp 1)⟩,
  ⟨some 12, none, .bin 0 .gtr (.tmp 10) (.tmp 11)⟩,
  ⟨some 9, none, .mv (.tmp 12)⟩]
def r_155_4 : List SOper := [⟨some 4, none, .mv (.const (.int .i64 1))⟩]
def r_155_5 : List SOper := [⟨some 4, none, .mv (.const (.int .i64 0))⟩]
def s_155 : SFun := ⟨2, 13, [.tmp 4],
  (.seq (.reg r_155_0) (.seq (.block 0 (.seq (.reg r_155_1) (.cond (.tmp 5) (.seq (.reg r_155_2) .ret) (.seq (.reg r_155_3) (.cond (.tmp 9) (.seq (.reg r_155_4) .ret) .skip))))) (.seq (.reg r_155_5) .ret)))⟩

def r_157_0 : List SOper := [⟨some 2, none, .box T_simplex_few (.tmp 0)⟩,
  ⟨some 3, none, .box T_simplex_scaled (.tmp 1)⟩,
  ⟨some 4, none, .mv (.const (.pointer none))⟩]
def r_157_1 : List SOper := [⟨some 22, none, .fa 1 (.tmp 3)⟩,
  ⟨some 23, none, .load false 1 (.tmp 22)⟩,
  ⟨some 24, none, .len (.tmp 23)⟩,
  ⟨some 5, none, .mv (.tmp 24)⟩]
def r_157_2 : List SOper := [⟨some 25, none, .load true 0 (.tmp 2)⟩,
  ⟨some 26, none, .fa 0 (.tmp 3)⟩,
  ⟨some 27, none, .load false 1 (.tmp 26)⟩,
  ⟨some 28, none, .mv (.tmp 5)⟩,
  ⟨some 29, none, .fa 0 (.tmp 3)⟩,
  ⟨some 30, none, .load false 1 (.tmp 29)⟩,
  ⟨some 31, none, .bin 0 .mul (.const (.int .i64 2)) (.tmp 30)⟩,
  ⟨some 32, none, .mv (.tmp 5)⟩,
  ⟨some 33, none, .bin 0 .add (.tmp 31) (.tmp 32)⟩,
  ⟨some 34, none, .load true 0 (.tmp 2)⟩,
  ⟨some 35, none, .iface T_simplex_few (.tmp 34)⟩,
  ⟨some 36, none, .call f_126 [(.const (.int .i64 1))] false⟩,
  ⟨some 37, none, .inv (.tmp 35) [(T_simplex_all, f_204), (T_simplex_few, f_211)] [(.tmp 36)] false⟩,
  ⟨some 38, none, .build [(.int .i64 0), (.int .i64 0), (.int .i64 0), (.slice none 0 0), (.int .i64 0), (.slice none 0 0), (.int .i64 0)] [(0, 0, (.tmp 25)), (0, 1, (.tmp 27)), (1, 1, (.tmp 28)), (2, 1, (.tmp 33)), (4, 1, (.tmp 37))]⟩,
  ⟨some 39, none, .box T_simplex_tableau_int64_simplex_few_167 (.tmp 38)⟩,
  ⟨some 6, none, .alloc T_simplex_tableau_int64_simplex_few [(.pointer none)]⟩,
  ⟨none, none, .store 1 (.tmp 6) (.tmp 39)⟩]
def r_157_3 : List SOper := [⟨some 40, none, .load true 0 (.tmp 2)⟩,
  ⟨some 41, none, .iface T_simplex_few (.tmp 40)⟩,
  ⟨some 42, none, .build [(.bool false), (.slice none 0 0)] []⟩,
  ⟨some 43, none, .inv (.tmp 41) [(T_simplex_all, f_204), (T_simplex_few, f_211)] [(.tmp 42)] true⟩,
  ⟨some 7, none, .alloc T_int64 [(.int .i64 0)]⟩,
  ⟨none, none, .store 1 (.tmp 7) (.tmp 43)⟩]
def r_157_4 : List SOper := [⟨some 44, none, .mkfn (.func f_175) [] [(.tmp 6), (.tmp 7)]⟩,
  ⟨some 8, none, .mv (.tmp 44)⟩]
def r_157_5 : List SOper := [⟨some 45, none, .mv (.tmp 8)⟩,
  ⟨some 46, none, .callv (.tmp 45) [] true⟩,
  ⟨some 47, none, .mv (.tmp 8)⟩,
  ⟨some 48, none, .callv (.tmp 47) [] true⟩,
  ⟨some 9, none, .mv (.tmp 46)⟩,
  ⟨some 10, none, .mv (.tmp 48)⟩]
def r_157_6 : List SOper := [⟨some 49, none, .fa 3 (.tmp 3)⟩,
  ⟨some 50, none, .load false 1 (.tmp 49)⟩,
  ⟨some 51, none, .len (.tmp 50)⟩,
  ⟨some 52, none, .mv (.const (.int .i64 0))⟩]
def r_157_7 : List SOper := [⟨some 53, none, .bin 0 .lss (.tmp 52) (.tmp 51)⟩]
def r_157_8 : List SOper := [⟨some 54, none, .mv (.tmp 52)⟩,
  ⟨some 55, none, .ia 2 (.tmp 50) (.tmp 52)⟩,
  ⟨some 56, none, .load true 2 (.tmp 55)⟩,
  ⟨some 12, none, .alloc T_api_Int [(.bool false), (.slice none 0 0)]⟩,
  ⟨some 11, none, .mv (.tmp 54)⟩,
  ⟨none, none, .store 2 (.tmp 12) (.tmp 56)⟩]
def r_157_9 : List SOper := [⟨some 57, none, .load true 0 (.tmp 2)⟩,
  ⟨some 58, none, .iface T_simplex_few (.tmp 57)⟩,
  ⟨some 59, none, .load true 2 (.tmp 12)⟩,
  ⟨some 60, none, .inv (.tmp 58) [(T_simplex_all, f_204), (T_simplex_few, f_211)] [(.tmp 59)] true⟩,
  ⟨some 13, none, .mv (.tmp 60)⟩]
def r_157_10 : List SOper := [⟨some 61, none, .mv (.tmp 10)⟩,
  ⟨some 62, none, .mv (.tmp 11)⟩,
  ⟨some 63, none, .mv (.tmp 10)⟩,
  ⟨some 64, none, .fa 0 (.tmp 3)⟩,
  ⟨some 65, none, .load false 1 (.tmp 64)⟩,
  ⟨some 66, none, .mv (.tmp 11)⟩,
  ⟨some 67, none, .bin 0 .add (.tmp 65) (.tmp 66)⟩,
  ⟨some 68, none, .load true 0 (.tmp 2)⟩,
  ⟨some 69, none, .iface T_simplex_few (.tmp 68)⟩,
  ⟨some 70, none, .mv (.tmp 13)⟩,
  ⟨some 71, none, .inv (.tmp 69) [(T_simplex_all, f_202), (T_simplex_few, f_209)] [(.tmp 70)] false⟩,
  ⟨some 72, none, .mv (.tmp 13)⟩,
  ⟨some 73, none, .ia 1 (.tmp 61) (.tmp 62)⟩,
  ⟨none, none, .store 1 (.tmp 73) (.tmp 71)⟩,
  ⟨some 74, none, .ia 1 (.tmp 63) (.tmp 67)⟩,
  ⟨none, none, .store 1 (.tmp 74) (.tmp 72)⟩]
def r_157_11 : List SOper := [⟨some 75, none, .bin 0 .add (.tmp 52) (.const (.int .i64 1))⟩,
  ⟨some 52, none, .mv (.tmp 75)⟩]
def r_157_12 : List SOper := [⟨some 76, none, .fa 1 (.tmp 3)⟩,
  ⟨some 77, none, .load false 1 (.tmp 76)⟩,
  ⟨some 78, none, .len (.tmp 77)⟩,
  ⟨some 79, none, .mv (.const (.int .i64 0))⟩]
def r_157_13 : List SOper := [⟨some 80, none, .bin 0 .lss (.tmp 79) (.tmp 78)⟩]
def r_157_14 : List SOper := [⟨some 81, none, .mv (.tmp 79)⟩,
  ⟨some 82, none, .ia 1 (.tmp 77) (.tmp 79)⟩,
  ⟨some 83, none, .load false 1 (.tmp 82)⟩,
  ⟨some 14, none, .mv (.tmp 81)⟩,
  ⟨some 15, none, .mv (.tmp 83)⟩]
def r_157_15 : List SOper := [⟨some 84, none, .mv (.tmp 8)⟩,
  ⟨some 85, none, .callv (.tmp 84) [] true⟩,
  ⟨some 16, none, .mv (.tmp 85)⟩]
def r_157_16 : List SOper := [⟨some 86, none, .mv (.tmp 15)⟩,
  ⟨some 87, none, .fa 0 (.tmp 3)⟩,
  ⟨some 88, none, .load false 1 (.tmp 87)⟩,
  ⟨some 89, none, .sl T_api_Int 2 (.tmp 86) none (some (.tmp 88)) none⟩,
  ⟨some 90, none, .len (.tmp 89)⟩,
  ⟨some 91, none, .mv (.const (.int .i64 0))⟩]
def r_157_17 : List SOper := [⟨some 92, none, .bin 0 .lss (.tmp 91) (.tmp 90)⟩]
def r_157_18 : List SOper := [⟨some 93, none, .mv (.tmp 91)⟩,
  ⟨some 94, none, .ia 2 (.tmp 89) (.tmp 91)⟩,
  ⟨some 95, none, .load true 2 (.tmp 94)⟩,
  ⟨some 18, none, .alloc T_api_Int [(.bool false), (.slice none 0 0)]⟩,
  ⟨some 17, none, .mv (.tmp 93)⟩,
  ⟨none, none, .store 2 (.tmp 18) (.tmp 95)⟩]
def r_157_19 : List SOper := [⟨some 96, none, .load true 0 (.tmp 2)⟩,
  ⟨some 97, none, .iface T_simplex_few (.tmp 96)⟩,
  ⟨some 98, none, .load true 2 (.tmp 18)⟩,
  ⟨some 99, none, .inv (.tmp 97) [(T_simplex_all, f_204), (T_simplex_few, f_211)] [(.tmp 98)] true⟩,
  ⟨some 19, none, .mv (.tmp 99)⟩]
def r_157_20 : List SOper := [⟨some 100, none, .mv (.tmp 16)⟩,
  ⟨some 101, none, .mv (.tmp 17)⟩,
  ⟨some 102, none, .mv (.tmp 16)⟩,
  ⟨some 103, none, .fa 0 (.tmp 3)⟩,
  ⟨some 104, none, .load false 1 (.tmp 103)⟩,
  ⟨some 105, none, .mv (.tmp 17)⟩,
  ⟨some 106, none, .bin 0 .add (.tmp 104) (.tmp 105)⟩,
  ⟨some 107, none, .mv (.tmp 19)⟩,
  ⟨some 108, none, .load true 0 (.tmp 2)⟩,
  ⟨some 109, none, .iface T_simplex_few (.tmp 108)⟩,
  ⟨some 110, none, .mv (.tmp 19)⟩,
  ⟨some 111, none, .inv (.tmp 109) [(T_simplex_all, f_202), (T_simplex_few, f_209)] [(.tmp 110)] false⟩,
  ⟨some 112, none, .ia 1 (.tmp 100) (.tmp 101)⟩,
  ⟨none, none, .store 1 (.tmp 112) (.tmp 107)⟩,
  ⟨some 113, none, .ia 1 (.tmp 102) (.tmp 106)⟩,
  ⟨none, none, .store 1 (.tmp 113) (.tmp 111)⟩]
def r_157_21 : List SOper := [⟨some 114, none, .bin 0 .add (.tmp 91) (.const (.int .i64 1))⟩,
  ⟨some 91, none, .mv (.tmp 114)⟩]
def r_157_22 : List SOper := [⟨some 115, none, .mv (.tmp 16)⟩,
  ⟨some 116, none, .fa 0 (.tmp 3)⟩,
  ⟨some 117, none, .load false 1 (.tmp 116)⟩,
  ⟨some 118, none, .bin 0 .mul (.const (.int .i64 2)) (.tmp 117)⟩,
  ⟨some 119, none, .mv (.tmp 14)⟩,
  ⟨some 120, none, .bin 0 .add (.tmp 118) (.tmp 119)⟩,
  ⟨some 121, none, .load false 1 (.tmp 6)⟩,
  ⟨some 122, none, .chk (.tmp 121)⟩,
  ⟨some 123, none, .fa 4 (.tmp 122)⟩,
  ⟨some 124, none, .load false 1 (.tmp 123)⟩,
  ⟨some 125, none, .ia 1 (.tmp 115) (.tmp 120)⟩,
  ⟨none, none, .store 1 (.tmp 125) (.tmp 124)⟩]
def r_157_23 : List SOper := [⟨some 126, none, .mv (.tmp 16)⟩,
  ⟨some 127, none, .load false 1 (.tmp 6)⟩,
  ⟨some 128, none, .chk (.tmp 127)⟩,
  ⟨some 129, none, .fa 2 (.tmp 128)⟩,
  ⟨some 130, none, .load false 1 (.tmp 129)⟩,
  ⟨some 131, none, .load true 0 (.tmp 2)⟩,
  ⟨some 132, none, .iface T_simplex_few (.tmp 131)⟩,
  ⟨some 133, none, .mv (.tmp 15)⟩,
  ⟨some 134, none, .fa 0 (.tmp 3)⟩,
  ⟨some 135, none, .load false 1 (.tmp 134)⟩,
  ⟨some 136, none, .ia 2 (.tmp 133) (.tmp 135)⟩,
  ⟨some 137, none, .load true 2 (.tmp 136)⟩,
  ⟨some 138, none, .inv (.tmp 132) [(T_simplex_all, f_204), (T_simplex_few, f_211)] [(.tmp 137)] false⟩,
  ⟨some 139, none, .ia 1 (.tmp 126) (.tmp 130)⟩,
  ⟨none, none, .store 1 (.tmp 139) (.tmp 138)⟩]
def r_157_24 : List SOper := [⟨some 140, none, .fa 0 (.tmp 3)⟩,
  ⟨some 141, none, .load false 1 (.tmp 140)⟩,
  ⟨some 142, none, .bin 0 .mul (.const (.int .i64 2)) (.tmp 141)⟩,
  ⟨some 143, none, .mv (.tmp 14)⟩,
  ⟨some 144, none, .bin 0 .add (.tmp 142) (.tmp 143)⟩,
  ⟨some 20, none, .mv (.tmp 144)⟩]
def r_157_25 : List SOper := [⟨some 145, none, .load true 0 (.tmp 2)⟩,
  ⟨some 146, none, .iface T_simplex_few (.tmp 145)⟩,
  ⟨some 147, none, .mv (.tmp 16)⟩,
  ⟨some 148, none, .load false 1 (.tmp 6)⟩,
  ⟨some 149, none, .chk (.tmp 148)⟩,
  ⟨some 150, none, .fa 2 (.tmp 149)⟩,
  ⟨some 151, none, .load false 1 (.tmp 150)⟩,
  ⟨some 152, none, .ia 1 (.tmp 147) (.tmp 151)⟩,
  ⟨some 153, none, .load false 1 (.tmp 152)⟩,
  ⟨some 154, none, .inv (.tmp 146) [(T_simplex_all, f_205), (T_simplex_few, f_212)] [(.tmp 153)] true⟩,
  ⟨some 155, none, .bin 0 .lss (.tmp 154) (.const (.int .i64 0))⟩]
def r_157_26 : List SOper := [⟨some 156, none, .load false 1 (.tmp 6)⟩,
  ⟨some 157, none, .chk (.tmp 156)⟩,
  ⟨some 158, none, .fa 2 (.tmp 157)⟩,
  ⟨some 159, none, .load false 1 (.tmp 158)⟩,
  ⟨some 160, none, .mv (.tmp 14)⟩,
  ⟨some 161, none, .bin 0 .add (.tmp 159) (.tmp 160)⟩,
  ⟨some 20, none, .mv (.tmp 161)⟩]
def r_157_27 : List SOper := [⟨some 162, none, .mv (.tmp 16)⟩,
  ⟨some 163, none, .len (.tmp 162)⟩,
  ⟨some 164, none, .mv (.const (.int .i64 0))⟩]
def r_157_28 : List SOper := [⟨some 165, none, .bin 0 .lss (.tmp 164) (.tmp 163)⟩]
def r_157_29 : List SOper := [⟨some 166, none, .mv (.tmp 164)⟩,
  ⟨some 21, none, .mv (.tmp 166)⟩]
def r_157_30 : List SOper := [⟨some 167, none, .mv (.tmp 16)⟩,
  ⟨some 168, none, .mv (.tmp 21)⟩,
  ⟨some 169, none, .load true 0 (.tmp 2)⟩,
  ⟨some 170, none, .iface T_simplex_few (.tmp 169)⟩,
  ⟨some 171, none, .mv (.tmp 16)⟩,
  ⟨some 172, none, .mv (.tmp 21)⟩,
  ⟨some 173, none, .ia 1 (.tmp 171) (.tmp 172)⟩,
  ⟨some 174, none, .load false 1 (.tmp 173)⟩,
  ⟨some 175, none, .inv (.tmp 170) [(T_simplex_all, f_202), (T_simplex_few, f_209)] [(.tmp 174)] true⟩,
  ⟨some 176, none, .ia 1 (.tmp 167) (.tmp 168)⟩,
  ⟨none, none, .store 1 (.tmp 176) (.tmp 175)⟩]
def r_157_31 : List SOper := [⟨some 177, none, .mv (.tmp 9)⟩,
  ⟨some 178, none, .mv (.tmp 21)⟩,
  ⟨some 179, none, .load false 1 (.tmp 6)⟩,
  ⟨some 180, none, .mv (.tmp 9)⟩,
  ⟨some 181, none, .mv (.tmp 21)⟩,
  ⟨some 182, none, .ia 1 (.tmp 180) (.tmp 181)⟩,
  ⟨some 183, none, .load false 1 (.tmp 182)⟩,
  ⟨some 184, none, .mv (.tmp 16)⟩,
  ⟨some 185, none, .mv (.tmp 21)⟩,
  ⟨some 186, none, .ia 1 (.tmp 184) (.tmp 185)⟩,
  ⟨some 187, none, .load false 1 (.tmp 186)⟩,
  ⟨some 188, none, .call f_176 [(.tmp 179), (.tmp 183), (.tmp 187)] true⟩,
  ⟨some 189, none, .ia 1 (.tmp 177) (.tmp 178)⟩,
  ⟨none, none, .store 1 (.tmp 189) (.tmp 188)⟩]
def r_157_32 : List SOper := [⟨some 190, none, .bin 0 .add (.tmp 164) (.const (.int .i64 1))⟩,
  ⟨some 164, none, .mv (.tmp 190)⟩]
def r_157_33 : List SOper := [⟨some 191, none, .load false 1 (.tmp 6)⟩,
  ⟨some 192, none, .load false 1 (.tmp 6)⟩,
  ⟨some 193, none, .load false 1 (.tmp 6)⟩,
  ⟨some 194, none, .chk (.tmp 193)⟩,
  ⟨some 195, none, .fa 3 (.tmp 194)⟩,
  ⟨some 196, none, .load false 1 (.tmp 195)⟩,
  ⟨some 197, none, .mv (.tmp 16)⟩,
  ⟨some 198, none, .lit T_sl_int64 [(.slice none 0 0)] 1 [(0, 1, (.tmp 197))]⟩,
  ⟨some 199, none, .app T_sl_int64 1 24 (.tmp 196) (.tmp 198)⟩,
  ⟨some 200, none, .load false 1 (.tmp 6)⟩,
  ⟨some 201, none, .chk (.tmp 200)⟩,
  ⟨some 202, none, .fa 5 (.tmp 201)⟩,
  ⟨some 203, none, .load false 1 (.tmp 202)⟩,
  ⟨some 204, none, .mv (.tmp 20)⟩,
  ⟨some 205, none, .lit T_int [(.int .i64 0)] 1 [(0, 1, (.tmp 204))]⟩,
  ⟨some 206, none, .app T_int 1 8 (.tmp 203) (.tmp 205)⟩,
  ⟨some 207, none, .chk (.tmp 191)⟩,
  ⟨some 208, none, .fa 3 (.tmp 207)⟩,
  ⟨none, none, .store 1 (.tmp 208) (.tmp 199)⟩,
  ⟨some 209, none, .chk (.tmp 192)⟩,
  ⟨some 210, none, .fa 5 (.tmp 209)⟩,
  ⟨none, none, .store 1 (.tmp 210) (.tmp 206)⟩]
def r_157_34 : List SOper := [⟨some 211, none, .bin 0 .add (.tmp 79) (.const (.int .i64 1))⟩,
  ⟨some 79, none, .mv (.tmp 211)⟩]
def r_157_35 : List SOper := [⟨some 212, none, .load false 1 (.tmp 6)⟩,
  ⟨some 213, none, .load false 1 (.tmp 6)⟩,
  ⟨some 214, none, .chk (.tmp 213)⟩,
  ⟨some 215, none, .fa 3 (.tmp 214)⟩,
  ⟨some 216, none, .load false 1 (.tmp 215)⟩,
  ⟨some 217, none, .mv (.tmp 9)⟩,
  ⟨some 218, none, .mv (.tmp 10)⟩,
  ⟨some 219, none, .lit T_sl_int64 [(.slice none 0 0)] 2 [(0, 1, (.tmp 217)), (1, 1, (.tmp 218))]⟩,
  ⟨some 220, none, .app T_sl_int64 1 24 (.tmp 216) (.tmp 219)⟩,
  ⟨some 221, none, .chk (.tmp 212)⟩,
  ⟨some 222, none, .fa 3 (.tmp 221)⟩,
  ⟨none, none, .store 1 (.tmp 222) (.tmp 220)⟩]
def r_157_36 : List SOper := [⟨some 223, none, .load false 1 (.tmp 6)⟩,
  ⟨some 4, none, .mv (.tmp 223)⟩]
def s_157 : SFun := ⟨2, 224, [.tmp 4],
  (.seq (.reg r_157_0) (.seq (.reg r_157_1) (.seq (.draw r_157_2 [0, 0, 2, 0, 0, 16, 48, 0, 240, 0, 512, 0, 3584, 8191, 16383, 0, 65535] []) (.seq (.reg r_157_3) (.seq (.reg r_157_4) (.seq (.reg r_157_5) (.seq (.seq (.reg r_157_6) (.block 0 (.loop (.seq (.reg r_157_7) (.seq (.cond (.tmp 53) .skip (.exit 0)) (.seq (.block 1 (.seq (.reg r_157_8) (.seq (.reg r_157_9) (.draw r_157_10 [0, 0, 0, 0, 8, 0, 56, 0, 128, 0, 896, 0, 1923, 6019, 16383, 32767] [(4, 13)])))) (.reg r_157_11))))))) (.seq (.seq (.reg r_157_12) (.block 2 (.loop (.seq (.reg r_157_13) (.seq (.cond (.tmp 80) .skip (.exit 2)) (.seq (.block 3 (.seq (.reg r_157_14) (.seq (.reg r_157_15) (.seq (.seq (.reg r_157_16) (.block 4 (.loop (.seq (.reg r_157_17) (.seq (.cond (.tmp 92) .skip (.exit 4)) (.seq (.block 5 (.seq (.reg r_157_18) (.seq (.reg r_157_19) (.draw r_157_20 [0, 0, 0, 0, 8, 0, 56, 0, 0, 256, 0, 1792, 3971, 8067, 16383, 32767] [(4, 13)])))) (.reg r_157_21))))))) (.seq (.draw r_157_22 [0, 0, 2, 6, 0, 30, 0, 64, 192, 448, 1023, 2047] []) (.seq (.draw r_157_23 [0, 0, 2, 6, 14, 0, 32, 0, 0, 256, 896, 1920, 4064, 8191, 16383] []) (.seq (.reg r_157_24) (.seq (.seq (.draw r_157_25 [0, 1, 0, 0, 8, 24, 56, 124, 252, 511, 1023] []) (.cond (.tmp 155) (.seq (.reg r_157_26) (.seq (.reg r_157_27) (.block 6 (.loop (.seq (.reg r_157_28) (.seq (.cond (.tmp 165) .skip (.exit 6)) (.seq (.block 7 (.seq (.reg r_157_29) (.seq (.draw r_157_30 [0, 0, 0, 4, 0, 0, 48, 112, 252, 511, 1023] []) (.draw r_157_31 [0, 0, 0, 0, 0, 24, 56, 0, 0, 384, 896, 2044, 4095, 8191] [])))) (.reg r_157_32)))))))) .skip)) (.draw r_157_33 [0, 0, 0, 4, 12, 28, 0, 64, 252, 0, 512, 1536, 3584, 0, 8192, 32764, 65533, 131069, 262141, 524287, 1048575, 2097151] [(0, 8), (1, 8), (8, 9), (8, 12), (8, 14), (0, 15), (1, 15), (1, 18)]))))))))) (.reg r_157_34))))))) (.seq (.draw r_157_35 [0, 0, 2, 6, 14, 0, 0, 96, 254, 511, 1023, 2047] [(0, 8)]) (.seq (.reg r_157_36) .ret))))))))))⟩

def r_158_0 : List SOper := [⟨some 4, none, .mv (.const (.int .i64 0))⟩]
def r_158_1 : List SOper := [⟨some 5, none, .mv (.const (.int .i64 0))⟩]
def r_158_2 : List SOper := [⟨some 7, none, .mv (.tmp 5)⟩,
  ⟨some 8, none, .mv (.tmp 0)⟩,
  ⟨some 9, none, .chk (.tmp 8)⟩,
  ⟨some 10, none, .fa 2 (.tmp 9)⟩,
  ⟨some 11, none, .load false 1 (.tmp 10)⟩,
  ⟨some 12, none, .bin 0 .lss (.tmp 7) (.tmp 11)⟩,
  ⟨some 13, none, .mv (.tmp 12)⟩,
  ⟨some 14, some (13, true), .mv (.tmp 0)⟩,
  ⟨some 15, some (13, true), .chk (.tmp 14)⟩,
  ⟨some 16, some (13, true), .fa0 T_simplex_tableau_int64_simplex_few_167 (.tmp 15)⟩,
  ⟨some 17, some (13, true), .load true 0 (.tmp 16)⟩,
  ⟨some 18, some (13, true), .iface T_simplex_few (.tmp 17)⟩,
  ⟨some 19, some (13, true), .mv (.tmp 0)⟩,
  ⟨some 20, some (13, true), .chk (.tmp 19)⟩,
  ⟨some 21, some (13, true), .fa 3 (.tmp 20)⟩,
  ⟨some 22, some (13, true), .load false 1 (.tmp 21)⟩,
  ⟨some 23, some (13, true), .mv (.tmp 1)⟩,
  ⟨some 24, some (13, true), .ia 1 (.tmp 22) (.tmp 23)⟩,
  ⟨some 25, some (13, true), .load false 1 (.tmp 24)⟩,
  ⟨some 26, some (13, true), .mv (.tmp 5)⟩,
  ⟨some 27, some (13, true), .ia 1 (.tmp 25) (.tmp 26)⟩,
  ⟨some 28, some (13, true), .load false 1 (.tmp 27)⟩,
  ⟨some 29, some (13, true), .inv (.tmp 18) [(T_simplex_all, f_205), (T_simplex_few, f_212)] [(.tmp 28)] true⟩,
  ⟨some 30, some (13, true), .bin 0 .geq (.tmp 29) (.const (.int .i64 0))⟩,
  ⟨some 31, none, .pick (.tmp 13) (.tmp 30) (.const (.bool false))⟩]
def r_158_3 : List SOper := [⟨some 32, none, .mv (.tmp 5)⟩,
  ⟨some 33, none, .bin 0 .add (.tmp 32) (.const (.int .i64 1))⟩,
  ⟨some 5, none, .mv (.tmp 33)⟩]
def r_158_4 : List SOper := [⟨some 34, none, .mv (.tmp 5)⟩,
  ⟨some 35, none, .mv (.tmp 0)⟩,
  ⟨some 36, none, .chk (.tmp 35)⟩,
  ⟨some 37, none, .fa 2 (.tmp 36)⟩,
  ⟨some 38, none, .load false 1 (.tmp 37)⟩,
  ⟨some 39, none, .bin 0 .eql (.tmp 34) (.tmp 38)⟩]
def r_158_5 : List SOper := [⟨some 4, none, .mv (.const (.int .i64 (-1)))⟩]
def r_158_6 : List SOper := [⟨some 40, none, .mv (.tmp 0)⟩,
  ⟨some 41, none, .mv (.tmp 5)⟩,
  ⟨some 42, none, .call f_177 [(.tmp 40), (.tmp 41)] true⟩,
  ⟨some 6, none, .mv (.tmp 42)⟩]
def r_158_7 : List SOper := [⟨some 43, none, .mv (.tmp 6)⟩,
  ⟨some 44, none, .bin 0 .lss (.tmp 43) (.const (.int .i64 0))⟩]
def r_158_8 : List SOper := [⟨some 45, none, .mv (.tmp 5)⟩,
  ⟨some 4, none, .mv (.tmp 45)⟩]
def r_158_9 : List SOper := [⟨some 46, none, .mv (.tmp 0)⟩,
  ⟨some 47, none, .mv (.tmp 6)⟩,
  ⟨some 48, none, .mv (.tmp 5)⟩,
  ⟨some 49, none, .call f_178 [(.tmp 46), (.tmp 47), (.tmp 48)] true⟩]
def s_158 : SFun := ⟨2, 50, [.tmp 4],
  (.seq (.reg r_158_0) (.block 0 (.loop (.block 1 (.seq (.reg r_158_1) (.seq (.block 2 (.loop (.seq (.seq (.draw r_158_2 [0, 0, 2, 6, 14, 31, 63, 127, 255, 511, 1023, 2047, 127, 4223, 12415, 28799, 127, 127103, 258175, 127, 1044607, 2093183, 4194303, 8388607, 16777215] []) (.cond (.tmp 31) .skip (.exit 2))) (.block 3 (.reg r_158_3))))) (.seq (.seq (.reg r_158_4) (.cond (.tmp 39) (.seq (.reg r_158_5) .ret) .skip)) (.seq (.reg r_158_6) (.seq (.seq (.reg r_158_7) (.cond (.tmp 44) (.seq (.reg r_158_8) .ret) .skip)) (.reg r_158_9))))))))))⟩

def r_159_0 : List SOper := [⟨some 6, none, .box T_simplex_scaled (.tmp 2)⟩,
  ⟨some 7, none, .box T_api_Rat (.tmp 3)⟩,
  ⟨some 8, none, .mv (.const (.slice none 0 0))⟩]
def r_159_1 : List SOper := [⟨some 9, none, .mv (.const (.slice none 0 0))⟩]
def r_159_2 : List SOper := [⟨some 13, none, .mv (.tmp 0)⟩,
  ⟨some 14, none, .chk (.tmp 13)⟩,
  ⟨some 15, none, .fa 1 (.tmp 14)⟩,
  ⟨some 16, none, .load false 1 (.tmp 15)⟩,
  ⟨some 17, none, .mv (.const (.int .i64 0))⟩]
def r_159_3 : List SOper := [⟨some 18, none, .bin 0 .lss (.tmp 17) (.tmp 16)⟩]
def r_159_4 : List SOper := [⟨some 19, none, .mv (.tmp 17)⟩,
  ⟨some 10, none, .mv (.tmp 19)⟩]
def r_159_5 : List SOper := [⟨some 21, none, .mv (.tmp 0)⟩,
  ⟨some 22, none, .mv (.tmp 0)⟩,
  ⟨some 23, none, .chk (.tmp 22)⟩,
  ⟨some 24, none, .fa 3 (.tmp 23)⟩,
  ⟨some 25, none, .load false 1 (.tmp 24)⟩,
  ⟨some 26, none, .mv (.tmp 1)⟩,
  ⟨some 27, none, .ia 1 (.tmp 25) (.tmp 26)⟩,
  ⟨some 28, none, .load false 1 (.tmp 27)⟩,
  ⟨some 29, none, .mv (.tmp 0)⟩,
  ⟨some 30, none, .chk (.tmp 29)⟩,
  ⟨some 31, none, .fa 0 (.tmp 30)⟩,
  ⟨some 32, none, .load false 1 (.tmp 31)⟩,
  ⟨some 33, none, .bin 0 .mul (.const (.int .i64 2)) (.tmp 32)⟩,
  ⟨some 34, none, .mv (.tmp 10)⟩,
  ⟨some 35, none, .bin 0 .add (.tmp 33) (.tmp 34)⟩,
  ⟨some 36, none, .ia 1 (.tmp 28) (.tmp 35)⟩,
  ⟨some 37, none, .load false 1 (.tmp 36)⟩,
  ⟨some 38, none, .call f_179 [(.tmp 21), (.tmp 37)] false⟩,
  ⟨some 39, none, .fa 2 (.tmp 6)⟩,
  ⟨some 40, none, .load false 1 (.tmp 39)⟩,
  ⟨some 41, none, .mv (.tmp 10)⟩,
  ⟨some 42, none, .ia 4 (.tmp 40) (.tmp 41)⟩,
  ⟨some 43, none, .load true 4 (.tmp 42)⟩,
  ⟨some 44, none, .call f_91 [(.tmp 38), (.tmp 43)] false⟩,
  ⟨some 45, none, .load true 4 (.tmp 7)⟩,
  ⟨some 46, none, .call f_168 [(.tmp 44), (.tmp 45)] false⟩,
  ⟨some 20, none, .mv (.tmp 46)⟩,
  ⟨some 47, none, .ext (.tmp 20) 0⟩,
  ⟨some 48, none, .ext (.tmp 20) 1⟩,
  ⟨some 11, none, .alloc T_api_Rat [(.bool false), (.slice none 0 0), (.bool false), (.slice none 0 0)]⟩,
  ⟨none, none, .store 4 (.tmp 11) (.tmp 47)⟩,
  ⟨some 12, none, .mv (.tmp 48)⟩]
def r_159_6 : List SOper := [⟨some 49, none, .mv (.tmp 9)⟩,
  ⟨some 50, none, .load true 4 (.tmp 11)⟩,
  ⟨some 51, none, .lit T_api_Rat [(.bool false), (.slice none 0 0), (.bool false), (.slice none 0 0)] 1 [(0, 4, (.tmp 50))]⟩,
  ⟨some 52, none, .app T_api_Rat 4 64 (.tmp 49) (.tmp 51)⟩,
  ⟨some 9, none, .mv (.tmp 52)⟩]
def r_159_7 : List SOper := [⟨some 53, none, .bin 0 .add (.tmp 17) (.const (.int .i64 1))⟩,
  ⟨some 17, none, .mv (.tmp 53)⟩]
def r_159_8 : List SOper := [⟨some 54, none, .mv (.tmp 9)⟩,
  ⟨some 8, none, .mv (.tmp 54)⟩]
def s_159 : SFun := ⟨4, 55, [.tmp 8],
  (.seq (.reg r_159_0) (.seq (.reg r_159_1) (.seq (.seq (.reg r_159_2) (.block 0 (.loop (.seq (.reg r_159_3) (.seq (.cond (.tmp 18) .skip (.exit 0)) (.seq (.block 1 (.seq (.reg r_159_4) (.seq (.draw r_159_5 [0, 0, 2, 6, 14, 0, 62, 126, 0, 256, 768, 1792, 3840, 0, 16128, 32766, 65534, 131071, 0, 262144, 0, 1835008, 3932160, 8388607, 0, 33554431, 67108863, 134217727, 134217727, 0, 805306367, 2147483647] []) (.reg r_159_6)))) (.reg r_159_7))))))) (.seq (.reg r_159_8) .ret))))⟩

def r_160_0 : List SOper := [⟨some 7, none, .mv (.tmp 0)⟩,
  ⟨some 8, none, .chk (.tmp 7)⟩,
  ⟨some 9, none, .fa 1 (.tmp 8)⟩,
  ⟨some 10, none, .load false 1 (.tmp 9)⟩,
  ⟨some 11, none, .mv (.const (.int .i64 0))⟩]
def r_160_1 : List SOper := [⟨some 12, none, .bin 0 .lss (.tmp 11) (.tmp 10)⟩]
def r_160_2 : List SOper := [⟨some 13, none, .mv (.tmp 11)⟩,
  ⟨some 2, none, .mv (.tmp 13)⟩]
def r_160_3 : List SOper := [⟨some 14, none, .mv (.tmp 0)⟩,
  ⟨some 15, none, .chk (.tmp 14)⟩,
  ⟨some 16, none, .fa 5 (.tmp 15)⟩,
  ⟨some 17, none, .load false 1 (.tmp 16)⟩,
  ⟨some 18, none, .mv (.tmp 2)⟩,
  ⟨some 19, none, .ia 1 (.tmp 17) (.tmp 18)⟩,
  ⟨some 20, none, .load false 1 (.tmp 19)⟩,
  ⟨some 21, none, .mv (.tmp 0)⟩,
  ⟨some 22, none, .chk (.tmp 21)⟩,
  ⟨some 23, none, .fa 2 (.tmp 22)⟩,
  ⟨some 24, none, .load false 1 (.tmp 23)⟩,
  ⟨some 25, none, .bin 0 .lss (.tmp 20) (.tmp 24)⟩]
def r_160_4 : List SOper := [⟨some 26, none, .mv (.tmp 0)⟩,
  ⟨some 27, none, .chk (.tmp 26)⟩,
  ⟨some 28, none, .fa 2 (.tmp 27)⟩,
  ⟨some 29, none, .load false 1 (.tmp 28)⟩,
  ⟨some 30, none, .mv (.const (.int .i64 0))⟩]
def r_160_5 : List SOper := [⟨some 31, none, .bin 0 .lss (.tmp 30) (.tmp 29)⟩]
def r_160_6 : List SOper := [⟨some 32, none, .mv (.tmp 30)⟩,
  ⟨some 3, none, .mv (.tmp 32)⟩]
def r_160_7 : List SOper := [⟨some 33, none, .mv (.tmp 0)⟩,
  ⟨some 34, none, .chk (.tmp 33)⟩,
  ⟨some 35, none, .fa0 T_simplex_tableau_int64_simplex_few_167 (.tmp 34)⟩,
  ⟨some 36, none, .load true 0 (.tmp 35)⟩,
  ⟨some 37, none, .iface T_simplex_few (.tmp 36)⟩,
  ⟨some 38, none, .mv (.tmp 0)⟩,
  ⟨some 39, none, .chk (.tmp 38)⟩,
  ⟨some 40, none, .fa 3 (.tmp 39)⟩,
  ⟨some 41, none, .load false 1 (.tmp 40)⟩,
  ⟨some 42, none, .mv (.tmp 2)⟩,
  ⟨some 43, none, .ia 1 (.tmp 41) (.tmp 42)⟩,
  ⟨some 44, none, .load false 1 (.tmp 43)⟩,
  ⟨some 45, none, .mv (.tmp 3)⟩,
  ⟨some 46, none, .ia 1 (.tmp 44) (.tmp 45)⟩,
  ⟨some 47, none, .load false 1 (.tmp 46)⟩,
  ⟨some 48, none, .inv (.tmp 37) [(T_simplex_all, f_205), (T_simplex_few, f_212)] [(.tmp 47)] true⟩,
  ⟨some 4, none, .mv (.tmp 48)⟩]
def r_160_8 : List SOper := [⟨some 49, none, .mv (.tmp 4)⟩,
  ⟨some 50, none, .bin 0 .eql (.tmp 49) (.const (.int .i64 0))⟩]
def r_160_9 : List SOper := [⟨some 51, none, .mv (.tmp 4)⟩,
  ⟨some 52, none, .bin 0 .lss (.tmp 51) (.const (.int .i64 0))⟩]
def r_160_10 : List SOper := [⟨some 53, none, .mv (.tmp 0)⟩,
  ⟨some 54, none, .chk (.tmp 53)⟩,
  ⟨some 55, none, .fa 3 (.tmp 54)⟩,
  ⟨some 56, none, .load false 1 (.tmp 55)⟩,
  ⟨some 57, none, .mv (.tmp 2)⟩,
  ⟨some 58, none, .ia 1 (.tmp 56) (.tmp 57)⟩,
  ⟨some 59, none, .load false 1 (.tmp 58)⟩,
  ⟨some 60, none, .len (.tmp 59)⟩,
  ⟨some 61, none, .mv (.const (.int .i64 0))⟩]
def r_160_11 : List SOper := [⟨some 62, none, .bin 0 .lss (.tmp 61) (.tmp 60)⟩]
def r_160_12 : List SOper := [⟨some 63, none, .mv (.tmp 61)⟩,
  ⟨some 64, none, .ia 1 (.tmp 59) (.tmp 61)⟩,
  ⟨some 65, none, .load false 1 (.tmp 64)⟩,
  ⟨some 5, none, .mv (.tmp 63)⟩,
  ⟨some 6, none, .mv (.tmp 65)⟩]
def r_160_13 : List SOper := [⟨some 66, none, .mv (.tmp 0)⟩,
  ⟨some 67, none, .chk (.tmp 66)⟩,
  ⟨some 68, none, .fa 3 (.tmp 67)⟩,
  ⟨some 69, none, .load false 1 (.tmp 68)⟩,
  ⟨some 70, none, .mv (.tmp 2)⟩,
  ⟨some 71, none, .ia 1 (.tmp 69) (.tmp 70)⟩,
  ⟨some 72, none, .load false 1 (.tmp 71)⟩,
  ⟨some 73, none, .mv (.tmp 5)⟩,
  ⟨some 74, none, .mv (.tmp 0)⟩,
  ⟨some 75, none, .chk (.tmp 74)⟩,
  ⟨some 76, none, .fa0 T_simplex_tableau_int64_simplex_few_167 (.tmp 75)⟩,
  ⟨some 77, none, .load true 0 (.tmp 76)⟩,
  ⟨some 78, none, .iface T_simplex_few (.tmp 77)⟩,
  ⟨some 79, none, .mv (.tmp 6)⟩,
  ⟨some 80, none, .inv (.tmp 78) [(T_simplex_all, f_202), (T_simplex_few, f_209)] [(.tmp 79)] false⟩,
  ⟨some 81, none, .ia 1 (.tmp 72) (.tmp 73)⟩,
  ⟨none, none, .store 1 (.tmp 81) (.tmp 80)⟩]
def r_160_14 : List SOper := [⟨some 82, none, .bin 0 .add (.tmp 61) (.const (.int .i64 1))⟩,
  ⟨some 61, none, .mv (.tmp 82)⟩]
def r_160_15 : List SOper := [⟨some 83, none, .mv (.tmp 0)⟩,
  ⟨some 84, none, .mv (.tmp 2)⟩,
  ⟨some 85, none, .mv (.tmp 3)⟩,
  ⟨some 86, none, .call f_178 [(.tmp 83), (.tmp 84), (.tmp 85)] true⟩]
def r_160_16 : List SOper := [⟨some 87, none, .bin 0 .add (.tmp 30) (.const (.int .i64 1))⟩,
  ⟨some 30, none, .mv (.tmp 87)⟩]
def r_160_17 : List SOper := [⟨some 88, none, .bin 0 .add (.tmp 11) (.const (.int .i64 1))⟩,
  ⟨some 11, none, .mv (.tmp 88)⟩]
def s_160 : SFun := ⟨1, 89, [],
  (.seq (.reg r_160_0) (.block 0 (.loop (.seq (.reg r_160_1) (.seq (.cond (.tmp 12) .skip (.exit 0)) (.seq (.block 1 (.seq (.reg r_160_2) (.seq (.seq (.draw r_160_3 [0, 1, 3, 7, 0, 31, 63, 0, 128, 384, 896, 2047] []) (.cond (.tmp 25) (.exit 1) .skip)) (.seq (.reg r_160_4) (.block 2 (.loop (.seq (.reg r_160_5) (.seq (.cond (.tmp 31) .skip (.exit 2)) (.seq (.block 3 (.seq (.reg r_160_6) (.seq (.draw r_160_7 [0, 1, 3, 7, 15, 0, 32, 96, 224, 0, 992, 2016, 0, 8160, 16352, 32767, 65535] []) (.seq (.seq (.reg r_160_8) (.cond (.tmp 50) (.exit 3) .skip)) (.seq (.seq (.reg r_160_9) (.cond (.tmp 52) (.seq (.reg r_160_10) (.block 4 (.loop (.seq (.reg r_160_11) (.seq (.cond (.tmp 62) .skip (.exit 4)) (.seq (.block 5 (.seq (.reg r_160_12) (.draw r_160_13 [0, 1, 3, 7, 0, 31, 63, 0, 0, 256, 768, 1792, 3840, 0, 16128, 32767, 65535] []))) (.reg r_160_14))))))) .skip)) (.seq (.reg r_160_15) (.exit 2))))))) (.reg r_160_16)))))))))) (.reg r_160_17)))))))⟩

def r_161_0 : List SOper := [⟨some 4, none, .mv (.const (.slice none 0 0))⟩]
def r_161_1 : List SOper := [⟨some 9, none, .mv (.tmp 0)⟩,
  ⟨some 10, none, .chk (.tmp 9)⟩,
  ⟨some 11, none, .fa 0 (.tmp 10)⟩,
  ⟨some 12, none, .load false 1 (.tmp 11)⟩,
  ⟨some 13, none, .mk T_api_Rat 64 [(.bool false), (.slice none 0 0), (.bool false), (.slice none 0 0)] (.tmp 12) (.tmp 12)⟩,
  ⟨some 5, none, .mv (.tmp 13)⟩]
def r_161_2 : List SOper := [⟨some 14, none, .mv (.tmp 5)⟩,
  ⟨some 15, none, .len (.tmp 14)⟩,
  ⟨some 16, none, .mv (.const (.int .i64 0))⟩]
def r_161_3 : List SOper := [⟨some 17, none, .bin 0 .lss (.tmp 16) (.tmp 15)⟩]
def r_161_4 : List SOper := [⟨some 18, none, .mv (.tmp 16)⟩,
  ⟨some 6, none, .mv (.tmp 18)⟩]
def r_161_5 : List SOper := [⟨some 19, none, .mv (.tmp 5)⟩,
  ⟨some 20, none, .mv (.tmp 6)⟩,
  ⟨some 21, none, .call f_90 [(.const (.int .i64 0))] true⟩,
  ⟨some 22, none, .ia 4 (.tmp 19) (.tmp 20)⟩,
  ⟨none, none, .store 4 (.tmp 22) (.tmp 21)⟩]
def r_161_6 : List SOper := [⟨some 23, none, .bin 0 .add (.tmp 16) (.const (.int .i64 1))⟩,
  ⟨some 16, none, .mv (.tmp 23)⟩]
def r_161_7 : List SOper := [⟨some 24, none, .mv (.tmp 0)⟩,
  ⟨some 25, none, .chk (.tmp 24)⟩,
  ⟨some 26, none, .fa 5 (.tmp 25)⟩,
  ⟨some 27, none, .load false 1 (.tmp 26)⟩,
  ⟨some 28, none, .len (.tmp 27)⟩,
  ⟨some 29, none, .mv (.const (.int .i64 0))⟩]
def r_161_8 : List SOper := [⟨some 30, none, .bin 0 .lss (.tmp 29) (.tmp 28)⟩]
def r_161_9 : List SOper := [⟨some 31, none, .mv (.tmp 29)⟩,
  ⟨some 32, none, .ia 1 (.tmp 27) (.tmp 29)⟩,
  ⟨some 33, none, .load false 1 (.tmp 32)⟩,
  ⟨some 7, none, .mv (.tmp 31)⟩,
  ⟨some 8, none, .mv (.tmp 33)⟩]
def r_161_10 : List SOper := [⟨some 35, none, .mv (.tmp 8)⟩,
  ⟨some 36, none, .mv (.tmp 0)⟩,
  ⟨some 37, none, .chk (.tmp 36)⟩,
  ⟨some 38, none, .fa 0 (.tmp 37)⟩,
  ⟨some 39, none, .load false 1 (.tmp 38)⟩,
  ⟨some 40, none, .bin 0 .lss (.tmp 35) (.tmp 39)⟩,
  ⟨some 34, none, .mv (.tmp 40)⟩]
def r_161_11 : List SOper := [⟨some 41, none, .mv (.tmp 5)⟩,
  ⟨some 42, none, .mv (.tmp 8)⟩,
  ⟨some 43, none, .mv (.tmp 5)⟩,
  ⟨some 44, none, .mv (.tmp 8)⟩,
  ⟨some 45, none, .ia 4 (.tmp 43) (.tmp 44)⟩,
  ⟨some 46, none, .load true 4 (.tmp 45)⟩,
  ⟨some 47, none, .mv (.tmp 0)⟩,
  ⟨some 48, none, .mv (.tmp 1)⟩,
  ⟨some 49, none, .mv (.tmp 7)⟩,
  ⟨some 50, none, .callv (.tmp 48) [(.tmp 49)] false⟩,
  ⟨some 51, none, .call f_179 [(.tmp 47), (.tmp 50)] false⟩,
  ⟨some 52, none, .call f_51 [(.tmp 46), (.tmp 51)] true⟩,
  ⟨some 53, none, .ia 4 (.tmp 41) (.tmp 42)⟩,
  ⟨none, none, .store 4 (.tmp 53) (.tmp 52)⟩]
def r_161_12 : List SOper := [⟨some 55, none, .mv (.tmp 8)⟩,
  ⟨some 56, none, .mv (.tmp 0)⟩,
  ⟨some 57, none, .chk (.tmp 56)⟩,
  ⟨some 58, none, .fa 0 (.tmp 57)⟩,
  ⟨some 59, none, .load false 1 (.tmp 58)⟩,
  ⟨some 60, none, .bin 0 .mul (.const (.int .i64 2)) (.tmp 59)⟩,
  ⟨some 61, none, .bin 0 .lss (.tmp 55) (.tmp 60)⟩,
  ⟨some 54, none, .mv (.tmp 61)⟩]
def r_161_13 : List SOper := [⟨some 62, none, .mv (.tmp 5)⟩,
  ⟨some 63, none, .mv (.tmp 8)⟩,
  ⟨some 64, none, .mv (.tmp 0)⟩,
  ⟨some 65, none, .chk (.tmp 64)⟩,
  ⟨some 66, none, .fa 0 (.tmp 65)⟩,
  ⟨some 67, none, .load false 1 (.tmp 66)⟩,
  ⟨some 68, none, .bin 0 .sub (.tmp 63) (.tmp 67)⟩,
  ⟨some 69, none, .mv (.tmp 5)⟩,
  ⟨some 70, none, .mv (.tmp 8)⟩,
  ⟨some 71, none, .mv (.tmp 0)⟩,
  ⟨some 72, none, .chk (.tmp 71)⟩,
  ⟨some 73, none, .fa 0 (.tmp 72)⟩,
  ⟨some 74, none, .load false 1 (.tmp 73)⟩,
  ⟨some 75, none, .bin 0 .sub (.tmp 70) (.tmp 74)⟩,
  ⟨some 76, none, .ia 4 (.tmp 69) (.tmp 75)⟩,
  ⟨some 77, none, .load true 4 (.tmp 76)⟩,
  ⟨some 78, none, .mv (.tmp 0)⟩,
  ⟨some 79, none, .mv (.tmp 1)⟩,
  ⟨some 80, none, .mv (.tmp 7)⟩,
  ⟨some 81, none, .callv (.tmp 79) [(.tmp 80)] false⟩,
  ⟨some 82, none, .call f_179 [(.tmp 78), (.tmp 81)] false⟩,
  ⟨some 83, none, .call f_170 [(.tmp 77), (.tmp 82)] false⟩,
  ⟨some 84, none, .ia 4 (.tmp 62) (.tmp 68)⟩,
  ⟨none, none, .store 4 (.tmp 84) (.tmp 83)⟩]
def r_161_14 : List SOper := [⟨some 85, none, .bin 0 .add (.tmp 29) (.const (.int .i64 1))⟩,
  ⟨some 29, none, .mv (.tmp 85)⟩]
def r_161_15 : List SOper := [⟨some 86, none, .mv (.tmp 5)⟩,
  ⟨some 4, none, .mv (.tmp 86)⟩]
def s_161 : SFun := ⟨2, 87, [.tmp 4],
  (.seq (.reg r_161_0) (.seq (.reg r_161_1) (.seq (.seq (.reg r_161_2) (.block 0 (.loop (.seq (.reg r_161_3) (.seq (.cond (.tmp 17) .skip (.exit 0)) (.seq (.block 1 (.seq (.reg r_161_4) (.reg r_161_5))) (.reg r_161_6))))))) (.seq (.seq (.reg r_161_7) (.block 2 (.loop (.seq (.reg r_161_8) (.seq (.cond (.tmp 30) .skip (.exit 2)) (.seq (.block 3 (.seq (.reg r_161_9) (.block 4 (.seq (.reg r_161_10) (.cond (.tmp 34) (.draw r_161_11 [0, 0, 0, 0, 12, 28, 0, 0, 0, 384, 960, 2044, 4095, 8191] []) (.seq (.reg r_161_12) (.cond (.tmp 54) (.draw r_161_13 [0, 0, 0, 4, 12, 28, 62, 0, 0, 0, 512, 1536, 3584, 7936, 16256, 32640, 0, 0, 0, 393216, 983040, 2097024, 4194303, 8388607] []) .skip))))))) (.reg r_161_14))))))) (.seq (.reg r_161_15) .ret)))))⟩

def r_162_0 : List SOper := [⟨some 3, none, .mv (.const (.int .i64 0))⟩]
def r_162_1 : List SOper := [⟨some 4, none, .load false 1 (.tmp 1)⟩,
  ⟨some 5, none, .chk (.tmp 4)⟩,
  ⟨some 6, none, .fa 3 (.tmp 5)⟩,
  ⟨some 7, none, .load false 1 (.tmp 6)⟩,
  ⟨some 8, none, .mv (.tmp 0)⟩,
  ⟨some 9, none, .ia 1 (.tmp 7) (.tmp 8)⟩,
  ⟨some 10, none, .load false 1 (.tmp 9)⟩,
  ⟨some 11, none, .load false 1 (.tmp 1)⟩,
  ⟨some 12, none, .chk (.tmp 11)⟩,
  ⟨some 13, none, .fa 2 (.tmp 12)⟩,
  ⟨some 14, none, .load false 1 (.tmp 13)⟩,
  ⟨some 15, none, .ia 1 (.tmp 10) (.tmp 14)⟩,
  ⟨some 16, none, .load false 1 (.tmp 15)⟩,
  ⟨some 3, none, .mv (.tmp 16)⟩]
def s_162 : SFun := ⟨2, 17, [.tmp 3],
  (.seq (.reg r_162_0) (.seq (.draw r_162_1 [0, 1, 3, 7, 0, 31, 63, 0, 128, 384, 896, 2047, 4095, 8191] []) .ret))⟩

def r_163_0 : List SOper := [⟨some 2, none, .box T_simplex_tableau_int64_simplex_few (.tmp 0)⟩,
  ⟨some 3, none, .box T_int (.tmp 1)⟩,
  ⟨some 4, none, .mv (.const (.slice none 0 0))⟩]
def r_163_1 : List SOper := [⟨some 6, none, .load false 1 (.tmp 2)⟩,
  ⟨some 7, none, .mkfn (.func f_180) [] [(.tmp 2), (.tmp 3)]⟩,
  ⟨some 8, none, .call f_161 [(.tmp 6), (.tmp 7)] true⟩,
  ⟨some 5, none, .mv (.tmp 8)⟩]
def r_163_2 : List SOper := [⟨some 10, none, .load false 1 (.tmp 3)⟩,
  ⟨some 11, none, .load false 1 (.tmp 2)⟩,
  ⟨some 12, none, .chk (.tmp 11)⟩,
  ⟨some 13, none, .fa 0 (.tmp 12)⟩,
  ⟨some 14, none, .load false 1 (.tmp 13)⟩,
  ⟨some 15, none, .bin 0 .lss (.tmp 10) (.tmp 14)⟩,
  ⟨some 9, none, .mv (.tmp 15)⟩]
def r_163_3 : List SOper := [⟨some 16, none, .mv (.tmp 5)⟩,
  ⟨some 17, none, .load false 1 (.tmp 3)⟩,
  ⟨some 18, none, .mv (.tmp 5)⟩,
  ⟨some 19, none, .load false 1 (.tmp 3)⟩,
  ⟨some 20, none, .ia 4 (.tmp 18) (.tmp 19)⟩,
  ⟨some 21, none, .load true 4 (.tmp 20)⟩,
  ⟨some 22, none, .call f_90 [(.const (.int .i64 1))] false⟩,
  ⟨some 23, none, .call f_51 [(.tmp 21), (.tmp 22)] false⟩,
  ⟨some 24, none, .ia 4 (.tmp 16) (.tmp 17)⟩,
  ⟨none, none, .store 4 (.tmp 24) (.tmp 23)⟩]
def r_163_4 : List SOper := [⟨some 26, none, .load false 1 (.tmp 3)⟩,
  ⟨some 27, none, .load false 1 (.tmp 2)⟩,
  ⟨some 28, none, .chk (.tmp 27)⟩,
  ⟨some 29, none, .fa 0 (.tmp 28)⟩,
  ⟨some 30, none, .load false 1 (.tmp 29)⟩,
  ⟨some 31, none, .bin 0 .mul (.const (.int .i64 2)) (.tmp 30)⟩,
  ⟨some 32, none, .bin 0 .lss (.tmp 26) (.tmp 31)⟩,
  ⟨some 25, none, .mv (.tmp 32)⟩]
def r_163_5 : List SOper := [⟨some 33, none, .mv (.tmp 5)⟩,
  ⟨some 34, none, .load false 1 (.tmp 3)⟩,
  ⟨some 35, none, .load false 1 (.tmp 2)⟩,
  ⟨some 36, none, .chk (.tmp 35)⟩,
  ⟨some 37, none, .fa 0 (.tmp 36)⟩,
  ⟨some 38, none, .load false 1 (.tmp 37)⟩,
  ⟨some 39, none, .bin 0 .sub (.tmp 34) (.tmp 38)⟩,
  ⟨some 40, none, .mv (.tmp 5)⟩,
  ⟨some 41, none, .load false 1 (.tmp 3)⟩,
  ⟨some 42, none, .load false 1 (.tmp 2)⟩,
  ⟨some 43, none, .chk (.tmp 42)⟩,
  ⟨some 44, none, .fa 0 (.tmp 43)⟩,
  ⟨some 45, none, .load false 1 (.tmp 44)⟩,
  ⟨some 46, none, .bin 0 .sub (.tmp 41) (.tmp 45)⟩,
  ⟨some 47, none, .ia 4 (.tmp 40) (.tmp 46)⟩,
  ⟨some 48, none, .load true 4 (.tmp 47)⟩,
  ⟨some 49, none, .call f_90 [(.const (.int .i64 1))] false⟩,
  ⟨some 50, none, .call f_170 [(.tmp 48), (.tmp 49)] false⟩,
  ⟨some 51, none, .ia 4 (.tmp 33) (.tmp 39)⟩,
  ⟨none, none, .store 4 (.tmp 51) (.tmp 50)⟩]
def r_163_6 : List SOper := [⟨some 52, none, .mv (.tmp 5)⟩,
  ⟨some 4, none, .mv (.tmp 52)⟩]
def s_163 : SFun := ⟨2, 53, [.tmp 4],
  (.seq (.reg r_163_0) (.seq (.reg r_163_1) (.seq (.block 0 (.seq (.draw r_163_2 [0, 0, 2, 6, 14, 31, 63] []) (.cond (.tmp 9) (.draw r_163_3 [0, 0, 0, 0, 12, 28, 0, 124, 255, 511] []) (.seq (.draw r_163_4 [0, 0, 2, 6, 14, 30, 63, 127] []) (.cond (.tmp 25) (.draw r_163_5 [0, 0, 0, 4, 12, 28, 62, 0, 0, 0, 512, 1536, 3584, 7936, 16256, 32640, 0, 130944, 262143, 524287] []) .skip))))) (.seq (.reg r_163_6) .ret))))⟩

def r_164_0 : List SOper := [⟨some 2, none, .mv (.const (.slice none 0 0))⟩]
def r_164_1 : List SOper := [⟨some 5, none, .load false 1 (.tmp 0)⟩,
  ⟨some 6, none, .chk (.tmp 5)⟩,
  ⟨some 7, none, .fa 2 (.tmp 6)⟩,
  ⟨some 8, none, .load false 1 (.tmp 7)⟩,
  ⟨some 9, none, .bin 0 .add (.tmp 8) (.const (.int .i64 1))⟩,
  ⟨some 10, none, .mk T_api_Int 32 [(.bool false), (.slice none 0 0)] (.tmp 9) (.tmp 9)⟩,
  ⟨some 3, none, .mv (.tmp 10)⟩]
def r_164_2 : List SOper := [⟨some 11, none, .mv (.tmp 3)⟩,
  ⟨some 12, none, .len (.tmp 11)⟩,
  ⟨some 13, none, .mv (.const (.int .i64 0))⟩]
def r_164_3 : List SOper := [⟨some 14, none, .bin 0 .lss (.tmp 13) (.tmp 12)⟩]
def r_164_4 : List SOper := [⟨some 15, none, .mv (.tmp 13)⟩,
  ⟨some 4, none, .mv (.tmp 15)⟩]
def r_164_5 : List SOper := [⟨some 16, none, .mv (.tmp 3)⟩,
  ⟨some 17, none, .mv (.tmp 4)⟩,
  ⟨some 18, none, .load true 2 (.tmp 1)⟩,
  ⟨some 19, none, .ia 2 (.tmp 16) (.tmp 17)⟩,
  ⟨none, none, .store 2 (.tmp 19) (.tmp 18)⟩]
def r_164_6 : List SOper := [⟨some 20, none, .bin 0 .add (.tmp 13) (.const (.int .i64 1))⟩,
  ⟨some 13, none, .mv (.tmp 20)⟩]
def r_164_7 : List SOper := [⟨some 21, none, .mv (.tmp 3)⟩,
  ⟨some 2, none, .mv (.tmp 21)⟩]
def s_164 : SFun := ⟨2, 22, [.tmp 2],
  (.seq (.reg r_164_0) (.seq (.reg r_164_1) (.seq (.seq (.reg r_164_2) (.block 0 (.loop (.seq (.reg r_164_3) (.seq (.cond (.tmp 14) .skip (.exit 0)) (.seq (.block 1 (.seq (.reg r_164_4) (.reg r_164_5))) (.reg r_164_6))))))) (.seq (.reg r_164_7) .ret))))⟩

def r_165_0 : List SOper := [⟨some 4, none, .box T_api_Int (.tmp 1)⟩,
  ⟨some 5, none, .box T_api_Int (.tmp 2)⟩,
  ⟨some 6, none, .alloc T_api_Int [(.bool false), (.slice none 0 0)]⟩]
def r_165_1 : List SOper := [⟨some 8, none, .mv (.tmp 0)⟩,
  ⟨some 9, none, .chk (.tmp 8)⟩,
  ⟨some 10, none, .fa0 T_simplex_tableau_api_Int_simplex_all_150 (.tmp 9)⟩,
  ⟨some 11, none, .load true 0 (.tmp 10)⟩,
  ⟨some 12, none, .iface T_simplex_all (.tmp 11)⟩,
  ⟨some 13, none, .call f_126 [(.const (.int .i64 1))] false⟩,
  ⟨some 14, none, .inv (.tmp 12) [(T_simplex_all, f_204), (T_simplex_few, f_211)] [(.tmp 13)] false⟩,
  ⟨some 7, none, .alloc T_api_Int [(.bool false), (.slice none 0 0)]⟩,
  ⟨none, none, .store 2 (.tmp 7) (.tmp 14)⟩]
def r_165_2 : List SOper := [⟨some 15, none, .mv (.tmp 0)⟩,
  ⟨some 16, none, .chk (.tmp 15)⟩,
  ⟨some 17, none, .fa0 T_simplex_tableau_api_Int_simplex_all_150 (.tmp 16)⟩,
  ⟨some 18, none, .load true 0 (.tmp 17)⟩,
  ⟨some 19, none, .iface T_simplex_all (.tmp 18)⟩,
  ⟨some 20, none, .load true 2 (.tmp 4)⟩,
  ⟨some 21, none, .load true 2 (.tmp 7)⟩,
  ⟨some 22, none, .load true 2 (.tmp 5)⟩,
  ⟨some 23, none, .load true 2 (.tmp 7)⟩,
  ⟨some 24, none, .load true 2 (.tmp 7)⟩,
  ⟨some 25, none, .inv (.tmp 19) [(T_simplex_all, f_206), (T_simplex_few, f_213)] [(.tmp 20), (.tmp 21), (.tmp 22), (.tmp 23), (.tmp 24)] true⟩,
  ⟨none, none, .store 2 (.tmp 6) (.tmp 25)⟩]
def s_165 : SFun := ⟨3, 26, [.cell 6 true 2],
  (.seq (.reg r_165_0) (.seq (.draw r_165_1 [0, 1, 3, 7, 15, 0, 63, 0, 255] []) (.seq (.draw r_165_2 [0, 1, 3, 7, 15, 0, 0, 0, 0, 0, 1023, 2047] []) .ret)))⟩

def r_166_0 : List SOper := [⟨some 4, none, .mv (.const (.int .i64 0))⟩]
def r_166_1 : List SOper := [⟨some 5, none, .mv (.const (.int .i64 (-1)))⟩]
def r_166_2 : List SOper := [⟨some 8, none, .mv (.tmp 0)⟩,
  ⟨some 9, none, .chk (.tmp 8)⟩,
  ⟨some 10, none, .fa 1 (.tmp 9)⟩,
  ⟨some 11, none, .load false 1 (.tmp 10)⟩,
  ⟨some 12, none, .mv (.const (.int .i64 0))⟩]
def r_166_3 : List SOper := [⟨some 13, none, .bin 0 .lss (.tmp 12) (.tmp 11)⟩]
def r_166_4 : List SOper := [⟨some 14, none, .mv (.tmp 12)⟩,
  ⟨some 6, none, .mv (.tmp 14)⟩]
def r_166_5 : List SOper := [⟨some 15, none, .mv (.tmp 0)⟩,
  ⟨some 16, none, .chk (.tmp 15)⟩,
  ⟨some 17, none, .fa0 T_simplex_tableau_api_Int_simplex_all_150 (.tmp 16)⟩,
  ⟨some 18, none, .load true 0 (.tmp 17)⟩,
  ⟨some 19, none, .iface T_simplex_all (.tmp 18)⟩,
  ⟨some 20, none, .mv (.tmp 0)⟩,
  ⟨some 21, none, .chk (.tmp 20)⟩,
  ⟨some 22, none, .fa 3 (.tmp 21)⟩,
  ⟨some 23, none, .load false 1 (.tmp 22)⟩,
  ⟨some 24, none, .mv (.tmp 6)⟩,
  ⟨some 25, none, .ia 1 (.tmp 23) (.tmp 24)⟩,
  ⟨some 26, none, .load false 1 (.tmp 25)⟩,
  ⟨some 27, none, .mv (.tmp 1)⟩,
  ⟨some 28, none, .ia 2 (.tmp 26) (.tmp 27)⟩,
  ⟨some 29, none, .load true 2 (.tmp 28)⟩,
  ⟨some 30, none, .inv (.tmp 19) [(T_simplex_all, f_205), (T_simplex_few, f_212)] [(.tmp 29)] true⟩,
  ⟨some 31, none, .bin 0 .leq (.tmp 30) (.const (.int .i64 0))⟩]
def r_166_6 : List SOper := [⟨some 32, none, .mv (.tmp 5)⟩,
  ⟨some 33, none, .bin 0 .lss (.tmp 32) (.const (.int .i64 0))⟩]
def r_166_7 : List SOper := [⟨some 34, none, .mv (.tmp 6)⟩,
  ⟨some 5, none, .mv (.tmp 34)⟩]
def r_166_8 : List SOper := [⟨some 35, none, .mv (.tmp 0)⟩,
  ⟨some 36, none, .chk (.tmp 35)⟩,
  ⟨some 37, none, .fa0 T_simplex_tableau_api_Int_simplex_all_150 (.tmp 36)⟩,
  ⟨some 38, none, .load true 0 (.tmp 37)⟩,
  ⟨some 39, none, .iface T_simplex_all (.tmp 38)⟩,
  ⟨some 40, none, .mv (.tmp 0)⟩,
  ⟨some 41, none, .chk (.tmp 40)⟩,
  ⟨some 42, none, .fa 3 (.tmp 41)⟩,
  ⟨some 43, none, .load false 1 (.tmp 42)⟩,
  ⟨some 44, none, .mv (.tmp 6)⟩,
  ⟨some 45, none, .ia 1 (.tmp 43) (.tmp 44)⟩,
  ⟨some 46, none, .load false 1 (.tmp 45)⟩,
  ⟨some 47, none, .mv (.tmp 0)⟩,
  ⟨some 48, none, .chk (.tmp 47)⟩,
  ⟨some 49, none, .fa 2 (.tmp 48)⟩,
  ⟨some 50, none, .load false 1 (.tmp 49)⟩,
  ⟨some 51, none, .ia 2 (.tmp 46) (.tmp 50)⟩,
  ⟨some 52, none, .load true 2 (.tmp 51)⟩,
  ⟨some 53, none, .mv (.tmp 0)⟩,
  ⟨some 54, none, .chk (.tmp 53)⟩,
  ⟨some 55, none, .fa 3 (.tmp 54)⟩,
  ⟨some 56, none, .load false 1 (.tmp 55)⟩,
  ⟨some 57, none, .mv (.tmp 5)⟩,
  ⟨some 58, none, .ia 1 (.tmp 56) (.tmp 57)⟩,
  ⟨some 59, none, .load false 1 (.tmp 58)⟩,
  ⟨some 60, none, .mv (.tmp 1)⟩,
  ⟨some 61, none, .ia 2 (.tmp 59) (.tmp 60)⟩,
  ⟨some 62, none, .load true 2 (.tmp 61)⟩,
  ⟨some 63, none, .mv (.tmp 0)⟩,
  ⟨some 64, none, .chk (.tmp 63)⟩,
  ⟨some 65, none, .fa 3 (.tmp 64)⟩,
  ⟨some 66, none, .load false 1 (.tmp 65)⟩,
  ⟨some 67, none, .mv (.tmp 5)⟩,
  ⟨some 68, none, .ia 1 (.tmp 66) (.tmp 67)⟩,
  ⟨some 69, none, .load false 1 (.tmp 68)⟩,
  ⟨some 70, none, .mv (.tmp 0)⟩,
  ⟨some 71, none, .chk (.tmp 70)⟩,
  ⟨some 72, none, .fa 2 (.tmp 71)⟩,
  ⟨some 73, none, .load false 1 (.tmp 72)⟩,
  ⟨some 74, none, .ia 2 (.tmp 69) (.tmp 73)⟩,
  ⟨some 75, none, .load true 2 (.tmp 74)⟩,
  ⟨some 76, none, .mv (.tmp 0)⟩,
  ⟨some 77, none, .chk (.tmp 76)⟩,
  ⟨some 78, none, .fa 3 (.tmp 77)⟩,
  ⟨some 79, none, .load false 1 (.tmp 78)⟩,
  ⟨some 80, none, .mv (.tmp 6)⟩,
  ⟨some 81, none, .ia 1 (.tmp 79) (.tmp 80)⟩,
  ⟨some 82, none, .load false 1 (.tmp 81)⟩,
  ⟨some 83, none, .mv (.tmp 1)⟩,
  ⟨some 84, none, .ia 2 (.tmp 82) (.tmp 83)⟩,
  ⟨some 85, none, .load true 2 (.tmp 84)⟩,
  ⟨some 86, none, .inv (.tmp 39) [(T_simplex_all, f_201), (T_simplex_few, f_208)] [(.tmp 52), (.tmp 62), (.tmp 75), (.tmp 85)] true⟩,
  ⟨some 7, none, .mv (.tmp 86)⟩]
def r_166_9 : List SOper := [⟨some 87, none, .mv (.tmp 7)⟩,
  ⟨some 88, none, .bin 0 .lss (.tmp 87) (.const (.int .i64 0))⟩,
  ⟨some 89, none, .mv (.tmp 88)⟩,
  ⟨some 90, some (89, false), .mv (.tmp 7)⟩,
  ⟨some 91, some (89, false), .bin 0 .eql (.tmp 90) (.const (.int .i64 0))⟩,
  ⟨some 92, some (89, false), .mv (.tmp 91)⟩,
  ⟨some 93, some (92, true), .mv (.tmp 0)⟩,
  ⟨some 94, some (92, true), .chk (.tmp 93)⟩,
  ⟨some 95, some (92, true), .fa 6 (.tmp 94)⟩,
  ⟨some 96, some (92, true), .load false 1 (.tmp 95)⟩,
  ⟨some 97, some (92, true), .mv (.tmp 6)⟩,
  ⟨some 98, some (92, true), .ia 1 (.tmp 96) (.tmp 97)⟩,
  ⟨some 99, some (92, true), .load false 1 (.tmp 98)⟩,
  ⟨some 100, some (92, true), .mv (.tmp 0)⟩,
  ⟨some 101, some (92, true), .chk (.tmp 100)⟩,
  ⟨some 102, some (92, true), .fa 6 (.tmp 101)⟩,
  ⟨some 103, some (92, true), .load false 1 (.tmp 102)⟩,
  ⟨some 104, some (92, true), .mv (.tmp 5)⟩,
  ⟨some 105, some (92, true), .ia 1 (.tmp 103) (.tmp 104)⟩,
  ⟨some 106, some (92, true), .load false 1 (.tmp 105)⟩,
  ⟨some 107, some (92, true), .bin 0 .lss (.tmp 99) (.tmp 106)⟩,
  ⟨some 108, some (89, false), .pick (.tmp 92) (.tmp 107) (.const (.bool false))⟩,
  ⟨some 109, none, .pick (.tmp 89) (.const (.bool true)) (.tmp 108)⟩]
def r_166_10 : List SOper := [⟨some 110, none, .mv (.tmp 6)⟩,
  ⟨some 5, none, .mv (.tmp 110)⟩]
def r_166_11 : List SOper := [⟨some 111, none, .bin 0 .add (.tmp 12) (.const (.int .i64 1))⟩,
  ⟨some 12, none, .mv (.tmp 111)⟩]
def r_166_12 : List SOper := [⟨some 112, none, .mv (.tmp 5)⟩,
  ⟨some 4, none, .mv (.tmp 112)⟩]
def s_166 : SFun := ⟨2, 113, [.tmp 4],
  (.seq (.reg r_166_0) (.seq (.reg r_166_1) (.seq (.seq (.reg r_166_2) (.block 0 (.loop (.seq (.reg r_166_3) (.seq (.cond (.tmp 13) .skip (.exit 0)) (.seq (.block 1 (.seq (.reg r_166_4) (.seq (.seq (.draw r_166_5 [0, 1, 3, 7, 15, 0, 32, 96, 224, 0, 992, 2016, 0, 8160, 16352, 32767, 65535] []) (.cond (.tmp 31) (.exit 1) .skip)) (.seq (.seq (.reg r_166_6) (.cond (.tmp 33) (.seq (.reg r_166_7) (.exit 1)) .skip)) (.seq (.draw r_166_8 [0, 1, 3, 7, 15, 0, 32, 96, 224, 0, 992, 2016, 0, 4096, 12288, 28672, 65504, 131040, 0, 262144, 786432, 1835008, 0, 8126464, 16515072, 0, 66846720, 133955584, 0, 268435456, 805306368, 1879048192, 0, 8321499136, 16911433728, 0, 34359738368, 103079215104, 240518168576, 549487378432, 1099243192320, 0, 2199023255552, 6597069766656, 15393162788864, 0, 68169720922112, 138538465099776, 0, 560750930165760, 1123700883587072, 2251799813685247, 4503599627370495] []) (.seq (.draw r_166_9 [0, 1, 3, 7, 15, 31, 63, 127, 255, 511, 63, 2047, 4095, 63, 8255, 24639, 57407, 63, 254015, 516159, 1048575, 2097151, 4194303] []) (.cond (.tmp 109) (.reg r_166_10) .skip))))))) (.reg r_166_11))))))) (.seq (.reg r_166_12) .ret))))⟩

def r_167_0 : List SOper := [⟨some 12, none, .mv (.tmp 0)⟩,
  ⟨some 13, none, .chk (.tmp 12)⟩,
  ⟨some 14, none, .fa 7 (.tmp 13)⟩,
  ⟨some 15, none, .load false 1 (.tmp 14)⟩,
  ⟨some 16, none, .bin 0 .add (.tmp 15) (.const (.int .i64 1))⟩,
  ⟨some 17, none, .chk (.tmp 12)⟩,
  ⟨some 18, none, .fa 7 (.tmp 17)⟩,
  ⟨none, none, .store 1 (.tmp 18) (.tmp 16)⟩]
def r_167_1 : List SOper := [⟨some 19, none, .mv (.tmp 0)⟩,
  ⟨some 20, none, .chk (.tmp 19)⟩,
  ⟨some 21, none, .fa 3 (.tmp 20)⟩,
  ⟨some 22, none, .load false 1 (.tmp 21)⟩,
  ⟨some 23, none, .mv (.tmp 1)⟩,
  ⟨some 24, none, .ia 1 (.tmp 22) (.tmp 23)⟩,
  ⟨some 25, none, .load false 1 (.tmp 24)⟩,
  ⟨some 26, none, .mv (.tmp 2)⟩,
  ⟨some 27, none, .ia 2 (.tmp 25) (.tmp 26)⟩,
  ⟨some 28, none, .load true 2 (.tmp 27)⟩,
  ⟨some 29, none, .mv (.tmp 0)⟩,
  ⟨some 30, none, .chk (.tmp 29)⟩,
  ⟨some 31, none, .fa 3 (.tmp 30)⟩,
  ⟨some 32, none, .load false 1 (.tmp 31)⟩,
  ⟨some 33, none, .mv (.tmp 1)⟩,
  ⟨some 34, none, .ia 1 (.tmp 32) (.tmp 33)⟩,
  ⟨some 35, none, .load false 1 (.tmp 34)⟩,
  ⟨some 6, none, .alloc T_api_Int [(.bool false), (.slice none 0 0)]⟩,
  ⟨none, none, .store 2 (.tmp 6) (.tmp 28)⟩,
  ⟨some 7, none, .mv (.tmp 35)⟩]
def r_167_2 : List SOper := [⟨some 36, none, .mv (.tmp 0)⟩,
  ⟨some 37, none, .chk (.tmp 36)⟩,
  ⟨some 38, none, .fa 3 (.tmp 37)⟩,
  ⟨some 39, none, .load false 1 (.tmp 38)⟩,
  ⟨some 40, none, .len (.tmp 39)⟩,
  ⟨some 41, none, .mv (.const (.int .i64 0))⟩]
def r_167_3 : List SOper := [⟨some 42, none, .bin 0 .lss (.tmp 41) (.tmp 40)⟩]
def r_167_4 : List SOper := [⟨some 43, none, .mv (.tmp 41)⟩,
  ⟨some 44, none, .ia 1 (.tmp 39) (.tmp 41)⟩,
  ⟨some 45, none, .load false 1 (.tmp 44)⟩,
  ⟨some 8, none, .mv (.tmp 43)⟩,
  ⟨some 9, none, .mv (.tmp 45)⟩]
def r_167_5 : List SOper := [⟨some 46, none, .mv (.tmp 8)⟩,
  ⟨some 47, none, .mv (.tmp 1)⟩,
  ⟨some 48, none, .bin 0 .eql (.tmp 46) (.tmp 47)⟩]
def r_167_6 : List SOper := [⟨some 49, none, .mv (.tmp 9)⟩,
  ⟨some 50, none, .mv (.tmp 2)⟩,
  ⟨some 51, none, .ia 2 (.tmp 49) (.tmp 50)⟩,
  ⟨some 52, none, .load true 2 (.tmp 51)⟩,
  ⟨some 10, none, .alloc T_api_Int [(.bool false), (.slice none 0 0)]⟩,
  ⟨none, none, .store 2 (.tmp 10) (.tmp 52)⟩]
def r_167_7 : List SOper := [⟨some 53, none, .mv (.tmp 9)⟩,
  ⟨some 54, none, .len (.tmp 53)⟩,
  ⟨some 55, none, .mv (.const (.int .i64 0))⟩]
def r_167_8 : List SOper := [⟨some 56, none, .bin 0 .lss (.tmp 55) (.tmp 54)⟩]
def r_167_9 : List SOper := [⟨some 57, none, .mv (.tmp 55)⟩,
  ⟨some 11, none, .mv (.tmp 57)⟩]
def r_167_10 : List SOper := [⟨some 58, none, .mv (.tmp 9)⟩,
  ⟨some 59, none, .mv (.tmp 11)⟩,
  ⟨some 60, none, .mv (.tmp 0)⟩,
  ⟨some 61, none, .chk (.tmp 60)⟩,
  ⟨some 62, none, .fa0 T_simplex_tableau_api_Int_simplex_all_150 (.tmp 61)⟩,
  ⟨some 63, none, .load true 0 (.tmp 62)⟩,
  ⟨some 64, none, .iface T_simplex_all (.tmp 63)⟩,
  ⟨some 65, none, .mv (.tmp 9)⟩,
  ⟨some 66, none, .mv (.tmp 11)⟩,
  ⟨some 67, none, .ia 2 (.tmp 65) (.tmp 66)⟩,
  ⟨some 68, none, .load true 2 (.tmp 67)⟩,
  ⟨some 69, none, .load true 2 (.tmp 6)⟩,
  ⟨some 70, none, .load true 2 (.tmp 10)⟩,
  ⟨some 71, none, .mv (.tmp 7)⟩,
  ⟨some 72, none, .mv (.tmp 11)⟩,
  ⟨some 73, none, .ia 2 (.tmp 71) (.tmp 72)⟩,
  ⟨some 74, none, .load true 2 (.tmp 73)⟩,
  ⟨some 75, none, .mv (.tmp 0)⟩,
  ⟨some 76, none, .chk (.tmp 75)⟩,
  ⟨some 77, none, .fa 4 (.tmp 76)⟩,
  ⟨some 78, none, .load true 2 (.tmp 77)⟩,
  ⟨some 79, none, .inv (.tmp 64) [(T_simplex_all, f_206), (T_simplex_few, f_213)] [(.tmp 68), (.tmp 69), (.tmp 70), (.tmp 74), (.tmp 78)] true⟩,
  ⟨some 80, none, .ia 2 (.tmp 58) (.tmp 59)⟩,
  ⟨none, none, .store 2 (.tmp 80) (.tmp 79)⟩]
def r_167_11 : List SOper := [⟨some 81, none, .bin 0 .add (.tmp 55) (.const (.int .i64 1))⟩,
  ⟨some 55, none, .mv (.tmp 81)⟩]
def r_167_12 : List SOper := [⟨some 82, none, .bin 0 .add (.tmp 41) (.const (.int .i64 1))⟩,
  ⟨some 41, none, .mv (.tmp 82)⟩]
def r_167_13 : List SOper := [⟨some 83, none, .mv (.tmp 0)⟩,
  ⟨some 84, none, .mv (.tmp 0)⟩,
  ⟨some 85, none, .chk (.tmp 84)⟩,
  ⟨some 86, none, .fa 6 (.tmp 85)⟩,
  ⟨some 87, none, .load false 1 (.tmp 86)⟩,
  ⟨some 88, none, .mv (.tmp 1)⟩,
  ⟨some 89, none, .load true 2 (.tmp 6)⟩,
  ⟨some 90, none, .mv (.tmp 2)⟩,
  ⟨some 91, none, .chk (.tmp 83)⟩,
  ⟨some 92, none, .fa 4 (.tmp 91)⟩,
  ⟨none, none, .store 2 (.tmp 92) (.tmp 89)⟩,
  ⟨some 93, none, .ia 1 (.tmp 87) (.tmp 88)⟩,
  ⟨none, none, .store 1 (.tmp 93) (.tmp 90)⟩]
def s_167 : SFun := ⟨3, 94, [],
  (.seq (.reg r_167_0) (.seq (.draw r_167_1 [0, 1, 3, 7, 0, 31, 63, 0, 255, 511, 0, 1024, 3072, 7168, 0, 31744, 64512, 0, 132095, 524287] [(13, 18), (16, 18)]) (.seq (.seq (.reg r_167_2) (.block 0 (.loop (.seq (.reg r_167_3) (.seq (.cond (.tmp 42) .skip (.exit 0)) (.seq (.block 1 (.seq (.reg r_167_4) (.seq (.seq (.reg r_167_5) (.cond (.tmp 48) (.exit 1) .skip)) (.seq (.reg r_167_6) (.seq (.reg r_167_7) (.block 2 (.loop (.seq (.reg r_167_8) (.seq (.cond (.tmp 56) .skip (.exit 2)) (.seq (.block 3 (.seq (.reg r_167_9) (.draw r_167_10 [0, 0, 0, 4, 12, 28, 60, 0, 0, 384, 896, 0, 0, 0, 0, 24576, 57344, 0, 131072, 393216, 917504, 2097148, 4194303, 8388607] []))) (.reg r_167_11))))))))))) (.reg r_167_12))))))) (.draw r_167_13 [0, 0, 2, 6, 14, 0, 0, 0, 95, 351, 863, 2047, 4095] []))))⟩


end Go.Proofs.YtjlohmnnldbjoaaGreat.AI
