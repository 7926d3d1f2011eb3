/- Part 6 of the proof: AiCode3, AiEnv, AiHeap, AiSet, AiOwn, AiNum1, AiNum2, AiMath1, AiNum3, AiNum4, AiNum5, AiMath2. -/
import Derived.Test.YtjlohmnnldbjoaaGreatM02
import Derived.Test.YtjlohmnnldbjoaaGreatM04
set_option linter.unusedVariables false
set_option linter.unusedSimpArgs false
set_option linter.unusedSectionVars false

/- The small code of the program's functions: printed. -/
namespace Go.Proofs.YtjlohmnnldbjoaaGreat.AI
open Go

def r_168_0 : List SOper := [⟨some 2, none, .box T_api_Rat (.tmp 0)⟩,
  ⟨some 3, none, .box T_api_Rat (.tmp 1)⟩,
  ⟨some 4, none, .alloc T_api_Rat [(.bool false), (.slice none 0 0), (.bool false), (.slice none 0 0)]⟩,
  ⟨some 5, none, .mv (.const (.int .i64 0))⟩]
def r_168_1 : List SOper := [⟨some 6, none, .load true 4 (.tmp 2)⟩,
  ⟨some 7, none, .call f_85 [(.tmp 6)] false⟩,
  ⟨some 8, none, .load true 4 (.tmp 3)⟩,
  ⟨some 9, none, .call f_85 [(.tmp 8)] true⟩,
  ⟨none, none, .store 4 (.tmp 2) (.tmp 7)⟩,
  ⟨none, none, .store 4 (.tmp 3) (.tmp 9)⟩]
def r_168_2 : List SOper := [⟨some 10, none, .fa 0 (.tmp 2)⟩,
  ⟨some 11, none, .load true 2 (.tmp 10)⟩,
  ⟨some 12, none, .fa 2 (.tmp 3)⟩,
  ⟨some 13, none, .load true 2 (.tmp 12)⟩,
  ⟨some 14, none, .call f_89 [(.tmp 11), (.tmp 13)] false⟩,
  ⟨some 15, none, .fa 2 (.tmp 2)⟩,
  ⟨some 16, none, .load true 2 (.tmp 15)⟩,
  ⟨some 17, none, .fa 0 (.tmp 3)⟩,
  ⟨some 18, none, .load true 2 (.tmp 17)⟩,
  ⟨some 19, none, .call f_89 [(.tmp 16), (.tmp 18)] true⟩,
  ⟨some 20, none, .call f_118 [(.tmp 14), (.tmp 19)] true⟩,
  ⟨some 21, none, .ext (.tmp 20) 0⟩,
  ⟨some 22, none, .ext (.tmp 20) 1⟩,
  ⟨none, none, .store 4 (.tmp 4) (.tmp 21)⟩,
  ⟨some 5, none, .mv (.tmp 22)⟩]
def s_168 : SFun := ⟨2, 23, [.cell 4 true 4, .tmp 5],
  (.seq (.reg r_168_0) (.seq (.draw r_168_1 [0, 1, 0, 7, 15, 31] []) (.seq (.draw r_168_2 [0, 1, 0, 4, 15, 0, 32, 0, 128, 511, 1023, 2047, 2047, 8191, 16383] []) .ret)))⟩

def r_169_0 : List SOper := [⟨some 3, none, .box T_api_Int (.tmp 1)⟩,
  ⟨some 4, none, .alloc T_api_Rat [(.bool false), (.slice none 0 0), (.bool false), (.slice none 0 0)]⟩]
def r_169_1 : List SOper := [⟨some 8, none, .mv (.tmp 0)⟩,
  ⟨some 9, none, .chk (.tmp 8)⟩,
  ⟨some 10, none, .fa0 T_simplex_tableau_api_Int_simplex_all_150 (.tmp 9)⟩,
  ⟨some 11, none, .load true 0 (.tmp 10)⟩,
  ⟨some 12, none, .iface T_simplex_all (.tmp 11)⟩,
  ⟨some 13, none, .load true 2 (.tmp 3)⟩,
  ⟨some 14, none, .inv (.tmp 12) [(T_simplex_all, f_203), (T_simplex_few, f_210)] [(.tmp 13)] false⟩,
  ⟨some 15, none, .mv (.tmp 0)⟩,
  ⟨some 16, none, .chk (.tmp 15)⟩,
  ⟨some 17, none, .fa0 T_simplex_tableau_api_Int_simplex_all_150 (.tmp 16)⟩,
  ⟨some 18, none, .load true 0 (.tmp 17)⟩,
  ⟨some 19, none, .iface T_simplex_all (.tmp 18)⟩,
  ⟨some 20, none, .mv (.tmp 0)⟩,
  ⟨some 21, none, .chk (.tmp 20)⟩,
  ⟨some 22, none, .fa 4 (.tmp 21)⟩,
  ⟨some 23, none, .load true 2 (.tmp 22)⟩,
  ⟨some 24, none, .inv (.tmp 19) [(T_simplex_all, f_203), (T_simplex_few, f_210)] [(.tmp 23)] false⟩,
  ⟨some 25, none, .call f_118 [(.tmp 14), (.tmp 24)] false⟩,
  ⟨some 7, none, .mv (.tmp 25)⟩,
  ⟨some 26, none, .ext (.tmp 7) 0⟩,
  ⟨some 27, none, .ext (.tmp 7) 1⟩,
  ⟨some 5, none, .alloc T_api_Rat [(.bool false), (.slice none 0 0), (.bool false), (.slice none 0 0)]⟩,
  ⟨none, none, .store 4 (.tmp 5) (.tmp 26)⟩,
  ⟨some 6, none, .mv (.tmp 27)⟩]
def r_169_2 : List SOper := [⟨some 28, none, .load true 4 (.tmp 5)⟩,
  ⟨none, none, .store 4 (.tmp 4) (.tmp 28)⟩]
def s_169 : SFun := ⟨2, 29, [.cell 4 true 4],
  (.seq (.reg r_169_0) (.seq (.draw r_169_1 [0, 1, 3, 7, 15, 0, 63, 0, 128, 384, 896, 1920, 0, 4096, 12288, 28672, 65535, 131071, 262143, 524287, 524287, 0, 3145727, 8388607] []) (.seq (.reg r_169_2) .ret)))⟩

def r_170_0 : List SOper := [⟨some 2, none, .box T_api_Rat (.tmp 0)⟩,
  ⟨some 3, none, .box T_api_Rat (.tmp 1)⟩,
  ⟨some 4, none, .alloc T_api_Rat [(.bool false), (.slice none 0 0), (.bool false), (.slice none 0 0)]⟩]
def r_170_1 : List SOper := [⟨some 5, none, .load true 4 (.tmp 2)⟩,
  ⟨some 6, none, .load true 4 (.tmp 3)⟩,
  ⟨some 7, none, .call f_85 [(.tmp 6)] false⟩,
  ⟨some 8, none, .call f_181 [(.tmp 7)] false⟩,
  ⟨some 9, none, .call f_51 [(.tmp 5), (.tmp 8)] true⟩,
  ⟨none, none, .store 4 (.tmp 4) (.tmp 9)⟩]
def s_170 : SFun := ⟨2, 10, [.cell 4 true 4],
  (.seq (.reg r_170_0) (.seq (.draw r_170_1 [0, 0, 2, 6, 15, 31] []) .ret))⟩

def r_171_0 : List SOper := [⟨some 4, none, .alloc T_api_Int [(.bool false), (.slice none 0 0)]⟩]
def r_171_1 : List SOper := [⟨some 5, none, .load false 1 (.tmp 1)⟩,
  ⟨some 6, none, .chk (.tmp 5)⟩,
  ⟨some 7, none, .fa0 T_simplex_tableau_api_Int_simplex_all_150 (.tmp 6)⟩,
  ⟨some 8, none, .load true 0 (.tmp 7)⟩,
  ⟨some 9, none, .iface T_simplex_all (.tmp 8)⟩,
  ⟨some 10, none, .load false 1 (.tmp 1)⟩,
  ⟨some 11, none, .chk (.tmp 10)⟩,
  ⟨some 12, none, .fa 3 (.tmp 11)⟩,
  ⟨some 13, none, .load false 1 (.tmp 12)⟩,
  ⟨some 14, none, .mv (.tmp 0)⟩,
  ⟨some 15, none, .ia 1 (.tmp 13) (.tmp 14)⟩,
  ⟨some 16, none, .load false 1 (.tmp 15)⟩,
  ⟨some 17, none, .load false 1 (.tmp 2)⟩,
  ⟨some 18, none, .ia 2 (.tmp 16) (.tmp 17)⟩,
  ⟨some 19, none, .load true 2 (.tmp 18)⟩,
  ⟨some 20, none, .inv (.tmp 9) [(T_simplex_all, f_202), (T_simplex_few, f_209)] [(.tmp 19)] true⟩,
  ⟨none, none, .store 2 (.tmp 4) (.tmp 20)⟩]
def s_171 : SFun := ⟨3, 21, [.cell 4 true 2],
  (.seq (.reg r_171_0) (.seq (.draw r_171_1 [0, 1, 3, 7, 15, 0, 32, 96, 224, 0, 992, 2016, 0, 8160, 16352, 32767, 65535] []) .ret))⟩

def r_172_0 : List SOper := [⟨some 4, none, .mv (.const (.slice none 0 0))⟩,
  ⟨some 5, none, .mv (.const (.int .u32 0))⟩]
def r_172_1 : List SOper := [⟨some 9, none, .mv (.tmp 0)⟩,
  ⟨some 10, none, .len (.tmp 9)⟩,
  ⟨some 11, none, .mk T_uint32 4 [(.int .u32 0)] (.tmp 10) (.tmp 10)⟩,
  ⟨some 6, none, .mv (.tmp 11)⟩]
def r_172_2 : List SOper := [⟨some 7, none, .mv (.const (.int .u64 0))⟩]
def r_172_3 : List SOper := [⟨some 12, none, .mv (.tmp 0)⟩,
  ⟨some 13, none, .len (.tmp 12)⟩,
  ⟨some 14, none, .bin 0 .sub (.tmp 13) (.const (.int .i64 1))⟩,
  ⟨some 8, none, .mv (.tmp 14)⟩]
def r_172_4 : List SOper := [⟨some 15, none, .mv (.tmp 8)⟩,
  ⟨some 16, none, .bin 0 .geq (.tmp 15) (.const (.int .i64 0))⟩]
def r_172_5 : List SOper := [⟨some 19, none, .mv (.tmp 7)⟩,
  ⟨some 20, none, .bin 0 .shl (.tmp 19) (.const (.int .u64 32))⟩,
  ⟨some 21, none, .mv (.tmp 0)⟩,
  ⟨some 22, none, .mv (.tmp 8)⟩,
  ⟨some 23, none, .ia 1 (.tmp 21) (.tmp 22)⟩,
  ⟨some 24, none, .load false 1 (.tmp 23)⟩,
  ⟨some 25, none, .conv .u64 (.tmp 24)⟩,
  ⟨some 26, none, .bin 0 .or (.tmp 20) (.tmp 25)⟩,
  ⟨some 7, none, .mv (.tmp 26)⟩]
def r_172_6 : List SOper := [⟨some 27, none, .mv (.tmp 6)⟩,
  ⟨some 28, none, .mv (.tmp 8)⟩,
  ⟨some 29, none, .mv (.tmp 7)⟩,
  ⟨some 30, none, .mv (.tmp 1)⟩,
  ⟨some 31, none, .conv .u64 (.tmp 30)⟩,
  ⟨some 32, none, .bin 0 .quo (.tmp 29) (.tmp 31)⟩,
  ⟨some 33, none, .call f_125 [(.tmp 32)] true⟩,
  ⟨some 34, none, .ia 1 (.tmp 27) (.tmp 28)⟩,
  ⟨none, none, .store 1 (.tmp 34) (.tmp 33)⟩]
def r_172_7 : List SOper := [⟨some 35, none, .mv (.tmp 7)⟩,
  ⟨some 36, none, .mv (.tmp 1)⟩,
  ⟨some 37, none, .conv .u64 (.tmp 36)⟩,
  ⟨some 38, none, .bin 0 .rem (.tmp 35) (.tmp 37)⟩,
  ⟨some 7, none, .mv (.tmp 38)⟩]
def r_172_8 : List SOper := [⟨some 17, none, .mv (.tmp 8)⟩,
  ⟨some 18, none, .bin 0 .sub (.tmp 17) (.const (.int .i64 1))⟩,
  ⟨some 8, none, .mv (.tmp 18)⟩]
def r_172_9 : List SOper := [⟨some 39, none, .mv (.tmp 6)⟩,
  ⟨some 40, none, .mv (.tmp 7)⟩,
  ⟨some 41, none, .call f_125 [(.tmp 40)] true⟩,
  ⟨some 4, none, .mv (.tmp 39)⟩,
  ⟨some 5, none, .mv (.tmp 41)⟩]
def s_172 : SFun := ⟨2, 42, [.tmp 4, .tmp 5],
  (.seq (.reg r_172_0) (.seq (.reg r_172_1) (.seq (.reg r_172_2) (.seq (.seq (.reg r_172_3) (.block 0 (.loop (.seq (.seq (.reg r_172_4) (.cond (.tmp 16) .skip (.exit 0))) (.seq (.block 1 (.seq (.reg r_172_5) (.seq (.reg r_172_6) (.reg r_172_7)))) (.reg r_172_8)))))) (.seq (.reg r_172_9) .ret)))))⟩

def r_173_0 : List SOper := [⟨some 4, none, .mv (.const (.slice none 0 0))⟩,
  ⟨some 5, none, .mv (.const (.slice none 0 0))⟩]
def r_173_1 : List SOper := [⟨some 6, none, .mv (.const (.int .i64 0))⟩]
def r_173_2 : List SOper := [⟨some 16, none, .mv (.tmp 1)⟩,
  ⟨some 17, none, .mv (.tmp 1)⟩,
  ⟨some 18, none, .len (.tmp 17)⟩,
  ⟨some 19, none, .bin 0 .sub (.tmp 18) (.const (.int .i64 1))⟩,
  ⟨some 20, none, .ia 1 (.tmp 16) (.tmp 19)⟩,
  ⟨some 21, none, .load false 1 (.tmp 20)⟩,
  ⟨some 22, none, .mv (.tmp 6)⟩,
  ⟨some 23, none, .bin 0 .shl (.tmp 21) (.tmp 22)⟩,
  ⟨some 24, none, .bin 0 .shr (.tmp 23) (.const (.int .u64 31))⟩,
  ⟨some 25, none, .bin 0 .eql (.tmp 24) (.const (.int .u32 0))⟩]
def r_173_3 : List SOper := [⟨some 26, none, .mv (.tmp 6)⟩,
  ⟨some 27, none, .bin 0 .add (.tmp 26) (.const (.int .i64 1))⟩,
  ⟨some 6, none, .mv (.tmp 27)⟩]
def r_173_4 : List SOper := [⟨some 28, none, .mv (.tmp 0)⟩,
  ⟨some 29, none, .mv (.tmp 6)⟩,
  ⟨some 30, none, .call f_182 [(.tmp 28), (.tmp 29)] true⟩,
  ⟨some 31, none, .mv (.tmp 1)⟩,
  ⟨some 32, none, .mv (.tmp 6)⟩,
  ⟨some 33, none, .call f_182 [(.tmp 31), (.tmp 32)] true⟩,
  ⟨some 34, none, .mv (.tmp 1)⟩,
  ⟨some 35, none, .len (.tmp 34)⟩,
  ⟨some 36, none, .sl T_uint32 1 (.tmp 33) none (some (.tmp 35)) none⟩,
  ⟨some 7, none, .mv (.tmp 30)⟩,
  ⟨some 8, none, .mv (.tmp 36)⟩]
def r_173_5 : List SOper := [⟨some 37, none, .mv (.tmp 8)⟩,
  ⟨some 38, none, .len (.tmp 37)⟩,
  ⟨some 9, none, .mv (.tmp 38)⟩]
def r_173_6 : List SOper := [⟨some 39, none, .mv (.tmp 7)⟩,
  ⟨some 40, none, .len (.tmp 39)⟩,
  ⟨some 41, none, .mv (.tmp 9)⟩,
  ⟨some 42, none, .bin 0 .sub (.tmp 40) (.tmp 41)⟩,
  ⟨some 43, none, .mnx true (.tmp 42) [(.const (.int .i64 0))]⟩,
  ⟨some 44, none, .mk T_uint32 4 [(.int .u32 0)] (.tmp 43) (.tmp 43)⟩,
  ⟨some 4, none, .mv (.tmp 44)⟩]
def r_173_7 : List SOper := [⟨some 45, none, .mv (.tmp 8)⟩,
  ⟨some 46, none, .mv (.tmp 9)⟩,
  ⟨some 47, none, .bin 0 .sub (.tmp 46) (.const (.int .i64 1))⟩,
  ⟨some 48, none, .ia 1 (.tmp 45) (.tmp 47)⟩,
  ⟨some 49, none, .load false 1 (.tmp 48)⟩,
  ⟨some 50, none, .conv .u64 (.tmp 49)⟩,
  ⟨some 51, none, .mv (.tmp 8)⟩,
  ⟨some 52, none, .mv (.tmp 9)⟩,
  ⟨some 53, none, .bin 0 .sub (.tmp 52) (.const (.int .i64 2))⟩,
  ⟨some 54, none, .ia 1 (.tmp 51) (.tmp 53)⟩,
  ⟨some 55, none, .load false 1 (.tmp 54)⟩,
  ⟨some 56, none, .conv .u64 (.tmp 55)⟩,
  ⟨some 10, none, .mv (.tmp 50)⟩,
  ⟨some 11, none, .mv (.tmp 56)⟩]
def r_173_8 : List SOper := [⟨some 57, none, .mv (.tmp 7)⟩,
  ⟨some 58, none, .len (.tmp 57)⟩,
  ⟨some 59, none, .mv (.tmp 9)⟩,
  ⟨some 60, none, .bin 0 .sub (.tmp 58) (.tmp 59)⟩,
  ⟨some 61, none, .bin 0 .sub (.tmp 60) (.const (.int .i64 1))⟩,
  ⟨some 12, none, .mv (.tmp 61)⟩]
def r_173_9 : List SOper := [⟨some 62, none, .mv (.tmp 12)⟩,
  ⟨some 63, none, .bin 0 .geq (.tmp 62) (.const (.int .i64 0))⟩]
def r_173_10 : List SOper := [⟨some 66, none, .mv (.tmp 7)⟩,
  ⟨some 67, none, .mv (.tmp 12)⟩,
  ⟨some 68, none, .mv (.tmp 9)⟩,
  ⟨some 69, none, .bin 0 .add (.tmp 67) (.tmp 68)⟩,
  ⟨some 70, none, .ia 1 (.tmp 66) (.tmp 69)⟩,
  ⟨some 71, none, .load false 1 (.tmp 70)⟩,
  ⟨some 72, none, .conv .u64 (.tmp 71)⟩,
  ⟨some 73, none, .bin 0 .shl (.tmp 72) (.const (.int .u64 32))⟩,
  ⟨some 74, none, .mv (.tmp 7)⟩,
  ⟨some 75, none, .mv (.tmp 12)⟩,
  ⟨some 76, none, .mv (.tmp 9)⟩,
  ⟨some 77, none, .bin 0 .add (.tmp 75) (.tmp 76)⟩,
  ⟨some 78, none, .bin 0 .sub (.tmp 77) (.const (.int .i64 1))⟩,
  ⟨some 79, none, .ia 1 (.tmp 74) (.tmp 78)⟩,
  ⟨some 80, none, .load false 1 (.tmp 79)⟩,
  ⟨some 81, none, .conv .u64 (.tmp 80)⟩,
  ⟨some 82, none, .bin 0 .or (.tmp 73) (.tmp 81)⟩,
  ⟨some 13, none, .mv (.tmp 82)⟩]
def r_173_11 : List SOper := [⟨some 83, none, .mv (.tmp 13)⟩,
  ⟨some 84, none, .mv (.tmp 10)⟩,
  ⟨some 85, none, .bin 0 .quo (.tmp 83) (.tmp 84)⟩,
  ⟨some 86, none, .mv (.tmp 13)⟩,
  ⟨some 87, none, .mv (.tmp 10)⟩,
  ⟨some 88, none, .bin 0 .rem (.tmp 86) (.tmp 87)⟩,
  ⟨some 14, none, .mv (.tmp 85)⟩,
  ⟨some 15, none, .mv (.tmp 88)⟩]
def r_173_12 : List SOper := [⟨some 89, none, .mv (.tmp 14)⟩,
  ⟨some 90, none, .bin 0 .geq (.tmp 89) (.const (.int .u64 4294967296))⟩,
  ⟨some 91, none, .mv (.tmp 90)⟩,
  ⟨some 92, some (91, false), .mv (.tmp 14)⟩,
  ⟨some 93, some (91, false), .mv (.tmp 11)⟩,
  ⟨some 94, some (91, false), .bin 0 .mul (.tmp 92) (.tmp 93)⟩,
  ⟨some 95, some (91, false), .mv (.tmp 15)⟩,
  ⟨some 96, some (91, false), .bin 0 .shl (.tmp 95) (.const (.int .u64 32))⟩,
  ⟨some 97, some (91, false), .mv (.tmp 7)⟩,
  ⟨some 98, some (91, false), .mv (.tmp 12)⟩,
  ⟨some 99, some (91, false), .mv (.tmp 9)⟩,
  ⟨some 100, some (91, false), .bin 0 .add (.tmp 98) (.tmp 99)⟩,
  ⟨some 101, some (91, false), .bin 0 .sub (.tmp 100) (.const (.int .i64 2))⟩,
  ⟨some 102, some (91, false), .ia 1 (.tmp 97) (.tmp 101)⟩,
  ⟨some 103, some (91, false), .load false 1 (.tmp 102)⟩,
  ⟨some 104, some (91, false), .conv .u64 (.tmp 103)⟩,
  ⟨some 105, some (91, false), .bin 0 .or (.tmp 96) (.tmp 104)⟩,
  ⟨some 106, some (91, false), .bin 0 .gtr (.tmp 94) (.tmp 105)⟩,
  ⟨some 107, none, .pick (.tmp 91) (.const (.bool true)) (.tmp 106)⟩]
def r_173_13 : List SOper := [⟨some 108, none, .mv (.tmp 14)⟩,
  ⟨some 109, none, .bin 0 .sub (.tmp 108) (.const (.int .u64 1))⟩,
  ⟨some 14, none, .mv (.tmp 109)⟩]
def r_173_14 : List SOper := [⟨some 110, none, .mv (.tmp 15)⟩,
  ⟨some 111, none, .mv (.tmp 10)⟩,
  ⟨some 112, none, .bin 0 .add (.tmp 110) (.tmp 111)⟩,
  ⟨some 15, none, .mv (.tmp 112)⟩]
def r_173_15 : List SOper := [⟨some 113, none, .mv (.tmp 15)⟩,
  ⟨some 114, none, .bin 0 .geq (.tmp 113) (.const (.int .u64 4294967296))⟩]
def r_173_16 : List SOper := [⟨some 115, none, .mv (.tmp 7)⟩,
  ⟨some 116, none, .mv (.tmp 12)⟩,
  ⟨some 117, none, .mv (.tmp 12)⟩,
  ⟨some 118, none, .mv (.tmp 9)⟩,
  ⟨some 119, none, .bin 0 .add (.tmp 117) (.tmp 118)⟩,
  ⟨some 120, none, .bin 0 .add (.tmp 119) (.const (.int .i64 1))⟩,
  ⟨some 121, none, .sl T_uint32 1 (.tmp 115) (some (.tmp 116)) (some (.tmp 120)) none⟩,
  ⟨some 122, none, .mv (.tmp 8)⟩,
  ⟨some 123, none, .mv (.tmp 14)⟩,
  ⟨some 124, none, .call f_183 [(.tmp 121), (.tmp 122), (.tmp 123)] true⟩]
def r_173_17 : List SOper := [⟨some 125, none, .mv (.tmp 14)⟩,
  ⟨some 126, none, .bin 0 .sub (.tmp 125) (.const (.int .u64 1))⟩,
  ⟨some 14, none, .mv (.tmp 126)⟩]
def r_173_18 : List SOper := [⟨some 127, none, .mv (.tmp 7)⟩,
  ⟨some 128, none, .mv (.tmp 12)⟩,
  ⟨some 129, none, .mv (.tmp 12)⟩,
  ⟨some 130, none, .mv (.tmp 9)⟩,
  ⟨some 131, none, .bin 0 .add (.tmp 129) (.tmp 130)⟩,
  ⟨some 132, none, .bin 0 .add (.tmp 131) (.const (.int .i64 1))⟩,
  ⟨some 133, none, .sl T_uint32 1 (.tmp 127) (some (.tmp 128)) (some (.tmp 132)) none⟩,
  ⟨some 134, none, .mv (.tmp 8)⟩,
  ⟨some 135, none, .call f_184 [(.tmp 133), (.tmp 134)] true⟩]
def r_173_19 : List SOper := [⟨some 136, none, .mv (.tmp 4)⟩,
  ⟨some 137, none, .mv (.tmp 12)⟩,
  ⟨some 138, none, .mv (.tmp 14)⟩,
  ⟨some 139, none, .call f_125 [(.tmp 138)] true⟩,
  ⟨some 140, none, .ia 1 (.tmp 136) (.tmp 137)⟩,
  ⟨none, none, .store 1 (.tmp 140) (.tmp 139)⟩]
def r_173_20 : List SOper := [⟨some 64, none, .mv (.tmp 12)⟩,
  ⟨some 65, none, .bin 0 .sub (.tmp 64) (.const (.int .i64 1))⟩,
  ⟨some 12, none, .mv (.tmp 65)⟩]
def r_173_21 : List SOper := [⟨some 141, none, .mv (.tmp 4)⟩,
  ⟨some 142, none, .mv (.tmp 7)⟩,
  ⟨some 143, none, .mv (.tmp 9)⟩,
  ⟨some 144, none, .sl T_uint32 1 (.tmp 142) none (some (.tmp 143)) none⟩,
  ⟨some 145, none, .mv (.tmp 6)⟩,
  ⟨some 146, none, .call f_185 [(.tmp 144), (.tmp 145)] true⟩,
  ⟨some 4, none, .mv (.tmp 141)⟩,
  ⟨some 5, none, .mv (.tmp 146)⟩]
def s_173 : SFun := ⟨2, 147, [.tmp 4, .tmp 5],
  (.seq (.reg r_173_0) (.seq (.reg r_173_1) (.seq (.block 0 (.loop (.seq (.seq (.reg r_173_2) (.cond (.tmp 25) .skip (.exit 0))) (.block 1 (.reg r_173_3))))) (.seq (.draw r_173_4 [0, 0, 3, 0, 0, 31, 0, 64, 255, 63, 1023] []) (.seq (.reg r_173_5) (.seq (.reg r_173_6) (.seq (.draw r_173_7 [0, 0, 2, 7, 15, 31, 0, 0, 128, 448, 960, 1984, 63, 8191] []) (.seq (.seq (.reg r_173_8) (.block 2 (.loop (.seq (.seq (.reg r_173_9) (.cond (.tmp 63) .skip (.exit 2))) (.seq (.block 3 (.seq (.draw r_173_10 [0, 0, 0, 6, 15, 31, 63, 127, 0, 0, 0, 1536, 3584, 7936, 16128, 32512, 65535, 131071] []) (.seq (.draw r_173_11 [0, 0, 3, 0, 0, 24, 7, 127] []) (.seq (.block 4 (.loop (.seq (.seq (.reg r_173_12) (.cond (.tmp 107) .skip (.exit 4))) (.block 5 (.seq (.reg r_173_13) (.seq (.reg r_173_14) (.seq (.reg r_173_15) (.cond (.tmp 114) (.exit 4) .skip)))))))) (.seq (.seq (.reg r_173_16) (.cond (.tmp 124) (.seq (.reg r_173_17) (.reg r_173_18)) .skip)) (.reg r_173_19)))))) (.reg r_173_20)))))) (.seq (.reg r_173_21) .ret)))))))))⟩

def r_175_0 : List SOper := [⟨some 2, none, .mv (.const (.slice none 0 0))⟩]
def r_175_1 : List SOper := [⟨some 5, none, .load false 1 (.tmp 0)⟩,
  ⟨some 6, none, .chk (.tmp 5)⟩,
  ⟨some 7, none, .fa 2 (.tmp 6)⟩,
  ⟨some 8, none, .load false 1 (.tmp 7)⟩,
  ⟨some 9, none, .bin 0 .add (.tmp 8) (.const (.int .i64 1))⟩,
  ⟨some 10, none, .mk T_int64 8 [(.int .i64 0)] (.tmp 9) (.tmp 9)⟩,
  ⟨some 3, none, .mv (.tmp 10)⟩]
def r_175_2 : List SOper := [⟨some 11, none, .mv (.tmp 3)⟩,
  ⟨some 12, none, .len (.tmp 11)⟩,
  ⟨some 13, none, .mv (.const (.int .i64 0))⟩]
def r_175_3 : List SOper := [⟨some 14, none, .bin 0 .lss (.tmp 13) (.tmp 12)⟩]
def r_175_4 : List SOper := [⟨some 15, none, .mv (.tmp 13)⟩,
  ⟨some 4, none, .mv (.tmp 15)⟩]
def r_175_5 : List SOper := [⟨some 16, none, .mv (.tmp 3)⟩,
  ⟨some 17, none, .mv (.tmp 4)⟩,
  ⟨some 18, none, .load false 1 (.tmp 1)⟩,
  ⟨some 19, none, .ia 1 (.tmp 16) (.tmp 17)⟩,
  ⟨none, none, .store 1 (.tmp 19) (.tmp 18)⟩]
def r_175_6 : List SOper := [⟨some 20, none, .bin 0 .add (.tmp 13) (.const (.int .i64 1))⟩,
  ⟨some 13, none, .mv (.tmp 20)⟩]
def r_175_7 : List SOper := [⟨some 21, none, .mv (.tmp 3)⟩,
  ⟨some 2, none, .mv (.tmp 21)⟩]
def s_175 : SFun := ⟨2, 22, [.tmp 2],
  (.seq (.reg r_175_0) (.seq (.reg r_175_1) (.seq (.seq (.reg r_175_2) (.block 0 (.loop (.seq (.reg r_175_3) (.seq (.cond (.tmp 14) .skip (.exit 0)) (.seq (.block 1 (.seq (.reg r_175_4) (.reg r_175_5))) (.reg r_175_6))))))) (.seq (.reg r_175_7) .ret))))⟩

def r_176_0 : List SOper := [⟨some 6, none, .mv (.const (.int .i64 0))⟩]
def r_176_1 : List SOper := [⟨some 8, none, .mv (.tmp 0)⟩,
  ⟨some 9, none, .chk (.tmp 8)⟩,
  ⟨some 10, none, .fa0 T_simplex_tableau_int64_simplex_few_167 (.tmp 9)⟩,
  ⟨some 11, none, .load true 0 (.tmp 10)⟩,
  ⟨some 12, none, .iface T_simplex_few (.tmp 11)⟩,
  ⟨some 13, none, .call f_126 [(.const (.int .i64 1))] false⟩,
  ⟨some 14, none, .inv (.tmp 12) [(T_simplex_all, f_204), (T_simplex_few, f_211)] [(.tmp 13)] true⟩,
  ⟨some 7, none, .mv (.tmp 14)⟩]
def r_176_2 : List SOper := [⟨some 15, none, .mv (.tmp 0)⟩,
  ⟨some 16, none, .chk (.tmp 15)⟩,
  ⟨some 17, none, .fa0 T_simplex_tableau_int64_simplex_few_167 (.tmp 16)⟩,
  ⟨some 18, none, .load true 0 (.tmp 17)⟩,
  ⟨some 19, none, .iface T_simplex_few (.tmp 18)⟩,
  ⟨some 20, none, .mv (.tmp 1)⟩,
  ⟨some 21, none, .mv (.tmp 7)⟩,
  ⟨some 22, none, .mv (.tmp 2)⟩,
  ⟨some 23, none, .mv (.tmp 7)⟩,
  ⟨some 24, none, .mv (.tmp 7)⟩,
  ⟨some 25, none, .inv (.tmp 19) [(T_simplex_all, f_206), (T_simplex_few, f_213)] [(.tmp 20), (.tmp 21), (.tmp 22), (.tmp 23), (.tmp 24)] true⟩,
  ⟨some 6, none, .mv (.tmp 25)⟩]
def s_176 : SFun := ⟨3, 26, [.tmp 6],
  (.seq (.reg r_176_0) (.seq (.draw r_176_1 [0, 1, 3, 7, 15, 0, 63, 127] []) (.seq (.reg r_176_2) .ret)))⟩

def r_177_0 : List SOper := [⟨some 4, none, .mv (.const (.int .i64 0))⟩]
def r_177_1 : List SOper := [⟨some 5, none, .mv (.const (.int .i64 (-1)))⟩]
def r_177_2 : List SOper := [⟨some 8, none, .mv (.tmp 0)⟩,
  ⟨some 9, none, .chk (.tmp 8)⟩,
  ⟨some 10, none, .fa 1 (.tmp 9)⟩,
  ⟨some 11, none, .load false 1 (.tmp 10)⟩,
  ⟨some 12, none, .mv (.const (.int .i64 0))⟩]
def r_177_3 : List SOper := [⟨some 13, none, .bin 0 .lss (.tmp 12) (.tmp 11)⟩]
def r_177_4 : List SOper := [⟨some 14, none, .mv (.tmp 12)⟩,
  ⟨some 6, none, .mv (.tmp 14)⟩]
def r_177_5 : List SOper := [⟨some 15, none, .mv (.tmp 0)⟩,
  ⟨some 16, none, .chk (.tmp 15)⟩,
  ⟨some 17, none, .fa0 T_simplex_tableau_int64_simplex_few_167 (.tmp 16)⟩,
  ⟨some 18, none, .load true 0 (.tmp 17)⟩,
  ⟨some 19, none, .iface T_simplex_few (.tmp 18)⟩,
  ⟨some 20, none, .mv (.tmp 0)⟩,
  ⟨some 21, none, .chk (.tmp 20)⟩,
  ⟨some 22, none, .fa 3 (.tmp 21)⟩,
  ⟨some 23, none, .load false 1 (.tmp 22)⟩,
  ⟨some 24, none, .mv (.tmp 6)⟩,
  ⟨some 25, none, .ia 1 (.tmp 23) (.tmp 24)⟩,
  ⟨some 26, none, .load false 1 (.tmp 25)⟩,
  ⟨some 27, none, .mv (.tmp 1)⟩,
  ⟨some 28, none, .ia 1 (.tmp 26) (.tmp 27)⟩,
  ⟨some 29, none, .load false 1 (.tmp 28)⟩,
  ⟨some 30, none, .inv (.tmp 19) [(T_simplex_all, f_205), (T_simplex_few, f_212)] [(.tmp 29)] true⟩,
  ⟨some 31, none, .bin 0 .leq (.tmp 30) (.const (.int .i64 0))⟩]
def r_177_6 : List SOper := [⟨some 32, none, .mv (.tmp 5)⟩,
  ⟨some 33, none, .bin 0 .lss (.tmp 32) (.const (.int .i64 0))⟩]
def r_177_7 : List SOper := [⟨some 34, none, .mv (.tmp 6)⟩,
  ⟨some 5, none, .mv (.tmp 34)⟩]
def r_177_8 : List SOper := [⟨some 35, none, .mv (.tmp 0)⟩,
  ⟨some 36, none, .chk (.tmp 35)⟩,
  ⟨some 37, none, .fa0 T_simplex_tableau_int64_simplex_few_167 (.tmp 36)⟩,
  ⟨some 38, none, .load true 0 (.tmp 37)⟩,
  ⟨some 39, none, .iface T_simplex_few (.tmp 38)⟩,
  ⟨some 40, none, .mv (.tmp 0)⟩,
  ⟨some 41, none, .chk (.tmp 40)⟩,
  ⟨some 42, none, .fa 3 (.tmp 41)⟩,
  ⟨some 43, none, .load false 1 (.tmp 42)⟩,
  ⟨some 44, none, .mv (.tmp 6)⟩,
  ⟨some 45, none, .ia 1 (.tmp 43) (.tmp 44)⟩,
  ⟨some 46, none, .load false 1 (.tmp 45)⟩,
  ⟨some 47, none, .mv (.tmp 0)⟩,
  ⟨some 48, none, .chk (.tmp 47)⟩,
  ⟨some 49, none, .fa 2 (.tmp 48)⟩,
  ⟨some 50, none, .load false 1 (.tmp 49)⟩,
  ⟨some 51, none, .ia 1 (.tmp 46) (.tmp 50)⟩,
  ⟨some 52, none, .load false 1 (.tmp 51)⟩,
  ⟨some 53, none, .mv (.tmp 0)⟩,
  ⟨some 54, none, .chk (.tmp 53)⟩,
  ⟨some 55, none, .fa 3 (.tmp 54)⟩,
  ⟨some 56, none, .load false 1 (.tmp 55)⟩,
  ⟨some 57, none, .mv (.tmp 5)⟩,
  ⟨some 58, none, .ia 1 (.tmp 56) (.tmp 57)⟩,
  ⟨some 59, none, .load false 1 (.tmp 58)⟩,
  ⟨some 60, none, .mv (.tmp 1)⟩,
  ⟨some 61, none, .ia 1 (.tmp 59) (.tmp 60)⟩,
  ⟨some 62, none, .load false 1 (.tmp 61)⟩,
  ⟨some 63, none, .mv (.tmp 0)⟩,
  ⟨some 64, none, .chk (.tmp 63)⟩,
  ⟨some 65, none, .fa 3 (.tmp 64)⟩,
  ⟨some 66, none, .load false 1 (.tmp 65)⟩,
  ⟨some 67, none, .mv (.tmp 5)⟩,
  ⟨some 68, none, .ia 1 (.tmp 66) (.tmp 67)⟩,
  ⟨some 69, none, .load false 1 (.tmp 68)⟩,
  ⟨some 70, none, .mv (.tmp 0)⟩,
  ⟨some 71, none, .chk (.tmp 70)⟩,
  ⟨some 72, none, .fa 2 (.tmp 71)⟩,
  ⟨some 73, none, .load false 1 (.tmp 72)⟩,
  ⟨some 74, none, .ia 1 (.tmp 69) (.tmp 73)⟩,
  ⟨some 75, none, .load false 1 (.tmp 74)⟩,
  ⟨some 76, none, .mv (.tmp 0)⟩,
  ⟨some 77, none, .chk (.tmp 76)⟩,
  ⟨some 78, none, .fa 3 (.tmp 77)⟩,
  ⟨some 79, none, .load false 1 (.tmp 78)⟩,
  ⟨some 80, none, .mv (.tmp 6)⟩,
  ⟨some 81, none, .ia 1 (.tmp 79) (.tmp 80)⟩,
  ⟨some 82, none, .load false 1 (.tmp 81)⟩,
  ⟨some 83, none, .mv (.tmp 1)⟩,
  ⟨some 84, none, .ia 1 (.tmp 82) (.tmp 83)⟩,
  ⟨some 85, none, .load false 1 (.tmp 84)⟩,
  ⟨some 86, none, .inv (.tmp 39) [(T_simplex_all, f_201), (T_simplex_few, f_208)] [(.tmp 52), (.tmp 62), (.tmp 75), (.tmp 85)] true⟩,
  ⟨some 7, none, .mv (.tmp 86)⟩]
def r_177_9 : List SOper := [⟨some 87, none, .mv (.tmp 7)⟩,
  ⟨some 88, none, .bin 0 .lss (.tmp 87) (.const (.int .i64 0))⟩,
  ⟨some 89, none, .mv (.tmp 88)⟩,
  ⟨some 90, some (89, false), .mv (.tmp 7)⟩,
  ⟨some 91, some (89, false), .bin 0 .eql (.tmp 90) (.const (.int .i64 0))⟩,
  ⟨some 92, some (89, false), .mv (.tmp 91)⟩,
  ⟨some 93, some (92, true), .mv (.tmp 0)⟩,
  ⟨some 94, some (92, true), .chk (.tmp 93)⟩,
  ⟨some 95, some (92, true), .fa 5 (.tmp 94)⟩,
  ⟨some 96, some (92, true), .load false 1 (.tmp 95)⟩,
  ⟨some 97, some (92, true), .mv (.tmp 6)⟩,
  ⟨some 98, some (92, true), .ia 1 (.tmp 96) (.tmp 97)⟩,
  ⟨some 99, some (92, true), .load false 1 (.tmp 98)⟩,
  ⟨some 100, some (92, true), .mv (.tmp 0)⟩,
  ⟨some 101, some (92, true), .chk (.tmp 100)⟩,
  ⟨some 102, some (92, true), .fa 5 (.tmp 101)⟩,
  ⟨some 103, some (92, true), .load false 1 (.tmp 102)⟩,
  ⟨some 104, some (92, true), .mv (.tmp 5)⟩,
  ⟨some 105, some (92, true), .ia 1 (.tmp 103) (.tmp 104)⟩,
  ⟨some 106, some (92, true), .load false 1 (.tmp 105)⟩,
  ⟨some 107, some (92, true), .bin 0 .lss (.tmp 99) (.tmp 106)⟩,
  ⟨some 108, some (89, false), .pick (.tmp 92) (.tmp 107) (.const (.bool false))⟩,
  ⟨some 109, none, .pick (.tmp 89) (.const (.bool true)) (.tmp 108)⟩]
def r_177_10 : List SOper := [⟨some 110, none, .mv (.tmp 6)⟩,
  ⟨some 5, none, .mv (.tmp 110)⟩]
def r_177_11 : List SOper := [⟨some 111, none, .bin 0 .add (.tmp 12) (.const (.int .i64 1))⟩,
  ⟨some 12, none, .mv (.tmp 111)⟩]
def r_177_12 : List SOper := [⟨some 112, none, .mv (.tmp 5)⟩,
  ⟨some 4, none, .mv (.tmp 112)⟩]
def s_177 : SFun := ⟨2, 113, [.tmp 4],
  (.seq (.reg r_177_0) (.seq (.reg r_177_1) (.seq (.seq (.reg r_177_2) (.block 0 (.loop (.seq (.reg r_177_3) (.seq (.cond (.tmp 13) .skip (.exit 0)) (.seq (.block 1 (.seq (.reg r_177_4) (.seq (.seq (.draw r_177_5 [0, 1, 3, 7, 15, 0, 32, 96, 224, 0, 992, 2016, 0, 8160, 16352, 32767, 65535] []) (.cond (.tmp 31) (.exit 1) .skip)) (.seq (.seq (.reg r_177_6) (.cond (.tmp 33) (.seq (.reg r_177_7) (.exit 1)) .skip)) (.seq (.draw r_177_8 [0, 1, 3, 7, 15, 0, 32, 96, 224, 0, 992, 2016, 0, 4096, 12288, 28672, 65504, 131040, 0, 262144, 786432, 1835008, 0, 8126464, 16515072, 0, 66846720, 133955584, 0, 268435456, 805306368, 1879048192, 0, 8321499136, 16911433728, 0, 34359738368, 103079215104, 240518168576, 549487378432, 1099243192320, 0, 2199023255552, 6597069766656, 15393162788864, 0, 68169720922112, 138538465099776, 0, 560750930165760, 1123700883587072, 2251799813685247, 4503599627370495] []) (.seq (.draw r_177_9 [0, 1, 3, 7, 15, 31, 63, 127, 255, 511, 63, 2047, 4095, 63, 8255, 24639, 57407, 63, 254015, 516159, 1048575, 2097151, 4194303] []) (.cond (.tmp 109) (.reg r_177_10) .skip))))))) (.reg r_177_11))))))) (.seq (.reg r_177_12) .ret))))⟩

def r_178_0 : List SOper := [⟨some 12, none, .mv (.tmp 0)⟩,
  ⟨some 13, none, .chk (.tmp 12)⟩,
  ⟨some 14, none, .fa 6 (.tmp 13)⟩,
  ⟨some 15, none, .load false 1 (.tmp 14)⟩,
  ⟨some 16, none, .bin 0 .add (.tmp 15) (.const (.int .i64 1))⟩,
  ⟨some 17, none, .chk (.tmp 12)⟩,
  ⟨some 18, none, .fa 6 (.tmp 17)⟩,
  ⟨none, none, .store 1 (.tmp 18) (.tmp 16)⟩]
def r_178_1 : List SOper := [⟨some 19, none, .mv (.tmp 0)⟩,
  ⟨some 20, none, .chk (.tmp 19)⟩,
  ⟨some 21, none, .fa 3 (.tmp 20)⟩,
  ⟨some 22, none, .load false 1 (.tmp 21)⟩,
  ⟨some 23, none, .mv (.tmp 1)⟩,
  ⟨some 24, none, .ia 1 (.tmp 22) (.tmp 23)⟩,
  ⟨some 25, none, .load false 1 (.tmp 24)⟩,
  ⟨some 26, none, .mv (.tmp 2)⟩,
  ⟨some 27, none, .ia 1 (.tmp 25) (.tmp 26)⟩,
  ⟨some 28, none, .load false 1 (.tmp 27)⟩,
  ⟨some 29, none, .mv (.tmp 0)⟩,
  ⟨some 30, none, .chk (.tmp 29)⟩,
  ⟨some 31, none, .fa 3 (.tmp 30)⟩,
  ⟨some 32, none, .load false 1 (.tmp 31)⟩,
  ⟨some 33, none, .mv (.tmp 1)⟩,
  ⟨some 34, none, .ia 1 (.tmp 32) (.tmp 33)⟩,
  ⟨some 35, none, .load false 1 (.tmp 34)⟩,
  ⟨some 6, none, .mv (.tmp 28)⟩,
  ⟨some 7, none, .mv (.tmp 35)⟩]
def r_178_2 : List SOper := [⟨some 36, none, .mv (.tmp 0)⟩,
  ⟨some 37, none, .chk (.tmp 36)⟩,
  ⟨some 38, none, .fa 3 (.tmp 37)⟩,
  ⟨some 39, none, .load false 1 (.tmp 38)⟩,
  ⟨some 40, none, .len (.tmp 39)⟩,
  ⟨some 41, none, .mv (.const (.int .i64 0))⟩]
def r_178_3 : List SOper := [⟨some 42, none, .bin 0 .lss (.tmp 41) (.tmp 40)⟩]
def r_178_4 : List SOper := [⟨some 43, none, .mv (.tmp 41)⟩,
  ⟨some 44, none, .ia 1 (.tmp 39) (.tmp 41)⟩,
  ⟨some 45, none, .load false 1 (.tmp 44)⟩,
  ⟨some 8, none, .mv (.tmp 43)⟩,
  ⟨some 9, none, .mv (.tmp 45)⟩]
def r_178_5 : List SOper := [⟨some 46, none, .mv (.tmp 8)⟩,
  ⟨some 47, none, .mv (.tmp 1)⟩,
  ⟨some 48, none, .bin 0 .eql (.tmp 46) (.tmp 47)⟩]
def r_178_6 : List SOper := [⟨some 49, none, .mv (.tmp 9)⟩,
  ⟨some 50, none, .mv (.tmp 2)⟩,
  ⟨some 51, none, .ia 1 (.tmp 49) (.tmp 50)⟩,
  ⟨some 52, none, .load false 1 (.tmp 51)⟩,
  ⟨some 10, none, .mv (.tmp 52)⟩]
def r_178_7 : List SOper := [⟨some 53, none, .mv (.tmp 9)⟩,
  ⟨some 54, none, .len (.tmp 53)⟩,
  ⟨some 55, none, .mv (.const (.int .i64 0))⟩]
def r_178_8 : List SOper := [⟨some 56, none, .bin 0 .lss (.tmp 55) (.tmp 54)⟩]
def r_178_9 : List SOper := [⟨some 57, none, .mv (.tmp 55)⟩,
  ⟨some 11, none, .mv (.tmp 57)⟩]
def r_178_10 : List SOper := [⟨some 58, none, .mv (.tmp 9)⟩,
  ⟨some 59, none, .mv (.tmp 11)⟩,
  ⟨some 60, none, .mv (.tmp 0)⟩,
  ⟨some 61, none, .chk (.tmp 60)⟩,
  ⟨some 62, none, .fa0 T_simplex_tableau_int64_simplex_few_167 (.tmp 61)⟩,
  ⟨some 63, none, .load true 0 (.tmp 62)⟩,
  ⟨some 64, none, .iface T_simplex_few (.tmp 63)⟩,
  ⟨some 65, none, .mv (.tmp 9)⟩,
  ⟨some 66, none, .mv (.tmp 11)⟩,
  ⟨some 67, none, .ia 1 (.tmp 65) (.tmp 66)⟩,
  ⟨some 68, none, .load false 1 (.tmp 67)⟩,
  ⟨some 69, none, .mv (.tmp 6)⟩,
  ⟨some 70, none, .mv (.tmp 10)⟩,
  ⟨some 71, none, .mv (.tmp 7)⟩,
  ⟨some 72, none, .mv (.tmp 11)⟩,
  ⟨some 73, none, .ia 1 (.tmp 71) (.tmp 72)⟩,
  ⟨some 74, none, .load false 1 (.tmp 73)⟩,
  ⟨some 75, none, .mv (.tmp 0)⟩,
  ⟨some 76, none, .chk (.tmp 75)⟩,
  ⟨some 77, none, .fa 4 (.tmp 76)⟩,
  ⟨some 78, none, .load false 1 (.tmp 77)⟩,
  ⟨some 79, none, .inv (.tmp 64) [(T_simplex_all, f_206), (T_simplex_few, f_213)] [(.tmp 68), (.tmp 69), (.tmp 70), (.tmp 74), (.tmp 78)] true⟩,
  ⟨some 80, none, .ia 1 (.tmp 58) (.tmp 59)⟩,
  ⟨none, none, .store 1 (.tmp 80) (.tmp 79)⟩]
def r_178_11 : List SOper := [⟨some 81, none, .bin 0 .add (.tmp 55) (.const (.int .i64 1))⟩,
  ⟨some 55, none, .mv (.tmp 81)⟩]
def r_178_12 : List SOper := [⟨some 82, none, .bin 0 .add (.tmp 41) (.const (.int .i64 1))⟩,
  ⟨some 41, none, .mv (.tmp 82)⟩]
def r_178_13 : List SOper := [⟨some 83, none, .mv (.tmp 0)⟩,
  ⟨some 84, none, .mv (.tmp 0)⟩,
  ⟨some 85, none, .chk (.tmp 84)⟩,
  ⟨some 86, none, .fa 5 (.tmp 85)⟩,
  ⟨some 87, none, .load false 1 (.tmp 86)⟩,
  ⟨some 88, none, .mv (.tmp 1)⟩,
  ⟨some 89, none, .mv (.tmp 6)⟩,
  ⟨some 90, none, .mv (.tmp 2)⟩,
  ⟨some 91, none, .chk (.tmp 83)⟩,
  ⟨some 92, none, .fa 4 (.tmp 91)⟩,
  ⟨none, none, .store 1 (.tmp 92) (.tmp 89)⟩,
  ⟨some 93, none, .ia 1 (.tmp 87) (.tmp 88)⟩,
  ⟨none, none, .store 1 (.tmp 93) (.tmp 90)⟩]
def s_178 : SFun := ⟨3, 94, [],
  (.seq (.reg r_178_0) (.seq (.draw r_178_1 [0, 1, 3, 7, 0, 31, 63, 0, 255, 511, 0, 1024, 3072, 7168, 0, 31744, 64512, 1023, 262143] []) (.seq (.seq (.reg r_178_2) (.block 0 (.loop (.seq (.reg r_178_3) (.seq (.cond (.tmp 42) .skip (.exit 0)) (.seq (.block 1 (.seq (.reg r_178_4) (.seq (.seq (.reg r_178_5) (.cond (.tmp 48) (.exit 1) .skip)) (.seq (.reg r_178_6) (.seq (.reg r_178_7) (.block 2 (.loop (.seq (.reg r_178_8) (.seq (.cond (.tmp 56) .skip (.exit 2)) (.seq (.block 3 (.seq (.reg r_178_9) (.draw r_178_10 [0, 0, 0, 4, 12, 28, 60, 0, 0, 384, 896, 0, 0, 0, 0, 24576, 57344, 0, 131072, 393216, 917504, 2097148, 4194303, 8388607] []))) (.reg r_178_11))))))))))) (.reg r_178_12))))))) (.reg r_178_13))))⟩

def r_179_0 : List SOper := [⟨some 4, none, .alloc T_api_Rat [(.bool false), (.slice none 0 0), (.bool false), (.slice none 0 0)]⟩]
def r_179_1 : List SOper := [⟨some 8, none, .mv (.tmp 0)⟩,
  ⟨some 9, none, .chk (.tmp 8)⟩,
  ⟨some 10, none, .fa0 T_simplex_tableau_int64_simplex_few_167 (.tmp 9)⟩,
  ⟨some 11, none, .load true 0 (.tmp 10)⟩,
  ⟨some 12, none, .iface T_simplex_few (.tmp 11)⟩,
  ⟨some 13, none, .mv (.tmp 1)⟩,
  ⟨some 14, none, .inv (.tmp 12) [(T_simplex_all, f_203), (T_simplex_few, f_210)] [(.tmp 13)] false⟩,
  ⟨some 15, none, .mv (.tmp 0)⟩,
  ⟨some 16, none, .chk (.tmp 15)⟩,
  ⟨some 17, none, .fa0 T_simplex_tableau_int64_simplex_few_167 (.tmp 16)⟩,
  ⟨some 18, none, .load true 0 (.tmp 17)⟩,
  ⟨some 19, none, .iface T_simplex_few (.tmp 18)⟩,
  ⟨some 20, none, .mv (.tmp 0)⟩,
  ⟨some 21, none, .chk (.tmp 20)⟩,
  ⟨some 22, none, .fa 4 (.tmp 21)⟩,
  ⟨some 23, none, .load false 1 (.tmp 22)⟩,
  ⟨some 24, none, .inv (.tmp 19) [(T_simplex_all, f_203), (T_simplex_few, f_210)] [(.tmp 23)] false⟩,
  ⟨some 25, none, .call f_118 [(.tmp 14), (.tmp 24)] false⟩,
  ⟨some 7, none, .mv (.tmp 25)⟩,
  ⟨some 26, none, .ext (.tmp 7) 0⟩,
  ⟨some 27, none, .ext (.tmp 7) 1⟩,
  ⟨some 5, none, .alloc T_api_Rat [(.bool false), (.slice none 0 0), (.bool false), (.slice none 0 0)]⟩,
  ⟨none, none, .store 4 (.tmp 5) (.tmp 26)⟩,
  ⟨some 6, none, .mv (.tmp 27)⟩]
def r_179_2 : List SOper := [⟨some 28, none, .load true 4 (.tmp 5)⟩,
  ⟨none, none, .store 4 (.tmp 4) (.tmp 28)⟩]
def s_179 : SFun := ⟨2, 29, [.cell 4 true 4],
  (.seq (.reg r_179_0) (.seq (.draw r_179_1 [0, 1, 3, 7, 15, 0, 63, 0, 128, 384, 896, 1920, 0, 4096, 12288, 28672, 65535, 131071, 262143, 524287, 524287, 0, 3145727, 8388607] []) (.seq (.reg r_179_2) .ret)))⟩

def r_180_0 : List SOper := [⟨some 4, none, .mv (.const (.int .i64 0))⟩]
def r_180_1 : List SOper := [⟨some 5, none, .load false 1 (.tmp 1)⟩,
  ⟨some 6, none, .chk (.tmp 5)⟩,
  ⟨some 7, none, .fa0 T_simplex_tableau_int64_simplex_few_167 (.tmp 6)⟩,
  ⟨some 8, none, .load true 0 (.tmp 7)⟩,
  ⟨some 9, none, .iface T_simplex_few (.tmp 8)⟩,
  ⟨some 10, none, .load false 1 (.tmp 1)⟩,
  ⟨some 11, none, .chk (.tmp 10)⟩,
  ⟨some 12, none, .fa 3 (.tmp 11)⟩,
  ⟨some 13, none, .load false 1 (.tmp 12)⟩,
  ⟨some 14, none, .mv (.tmp 0)⟩,
  ⟨some 15, none, .ia 1 (.tmp 13) (.tmp 14)⟩,
  ⟨some 16, none, .load false 1 (.tmp 15)⟩,
  ⟨some 17, none, .load false 1 (.tmp 2)⟩,
  ⟨some 18, none, .ia 1 (.tmp 16) (.tmp 17)⟩,
  ⟨some 19, none, .load false 1 (.tmp 18)⟩,
  ⟨some 20, none, .inv (.tmp 9) [(T_simplex_all, f_202), (T_simplex_few, f_209)] [(.tmp 19)] true⟩,
  ⟨some 4, none, .mv (.tmp 20)⟩]
def s_180 : SFun := ⟨3, 21, [.tmp 4],
  (.seq (.reg r_180_0) (.seq (.draw r_180_1 [0, 1, 3, 7, 15, 0, 32, 96, 224, 0, 992, 2016, 0, 8160, 16352, 32767, 65535] []) .ret))⟩

def r_181_0 : List SOper := [⟨some 1, none, .box T_api_Rat (.tmp 0)⟩,
  ⟨some 2, none, .alloc T_api_Rat [(.bool false), (.slice none 0 0), (.bool false), (.slice none 0 0)]⟩]
def r_181_1 : List SOper := [⟨some 3, none, .fa 0 (.tmp 1)⟩,
  ⟨some 4, none, .load true 2 (.tmp 3)⟩,
  ⟨some 5, none, .call f_151 [(.tmp 4)] false⟩,
  ⟨some 6, none, .fa 2 (.tmp 1)⟩,
  ⟨some 7, none, .load true 2 (.tmp 6)⟩,
  ⟨some 8, none, .build [(.bool false), (.slice none 0 0), (.bool false), (.slice none 0 0)] [(0, 2, (.tmp 5)), (2, 2, (.tmp 7))]⟩,
  ⟨none, none, .store 4 (.tmp 2) (.tmp 8)⟩]
def s_181 : SFun := ⟨1, 9, [.cell 2 true 4],
  (.seq (.reg r_181_0) (.seq (.draw r_181_1 [0, 1, 3, 0, 8, 31, 63] []) .ret))⟩

def r_182_0 : List SOper := [⟨some 4, none, .mv (.const (.slice none 0 0))⟩]
def r_182_1 : List SOper := [⟨some 9, none, .mv (.tmp 0)⟩,
  ⟨some 10, none, .len (.tmp 9)⟩,
  ⟨some 11, none, .bin 0 .add (.tmp 10) (.const (.int .i64 1))⟩,
  ⟨some 12, none, .mk T_uint32 4 [(.int .u32 0)] (.const (.int .i64 0)) (.tmp 11)⟩,
  ⟨some 5, none, .mv (.tmp 12)⟩]
def r_182_2 : List SOper := [⟨some 6, none, .mv (.const (.int .u64 0))⟩]
def r_182_3 : List SOper := [⟨some 13, none, .mv (.tmp 0)⟩,
  ⟨some 14, none, .len (.tmp 13)⟩,
  ⟨some 15, none, .mv (.const (.int .i64 0))⟩]
def r_182_4 : List SOper := [⟨some 16, none, .bin 0 .lss (.tmp 15) (.tmp 14)⟩]
def r_182_5 : List SOper := [⟨some 17, none, .ia 1 (.tmp 13) (.tmp 15)⟩,
  ⟨some 18, none, .load false 1 (.tmp 17)⟩,
  ⟨some 8, none, .mv (.tmp 18)⟩]
def r_182_6 : List SOper := [⟨some 19, none, .mv (.tmp 6)⟩,
  ⟨some 20, none, .mv (.tmp 8)⟩,
  ⟨some 21, none, .conv .u64 (.tmp 20)⟩,
  ⟨some 22, none, .mv (.tmp 1)⟩,
  ⟨some 23, none, .bin 0 .shl (.tmp 21) (.tmp 22)⟩,
  ⟨some 24, none, .bin 0 .or (.tmp 19) (.tmp 23)⟩,
  ⟨some 6, none, .mv (.tmp 24)⟩]
def r_182_7 : List SOper := [⟨some 25, none, .mv (.tmp 5)⟩,
  ⟨some 26, none, .mv (.tmp 6)⟩,
  ⟨some 27, none, .call f_125 [(.tmp 26)] true⟩,
  ⟨some 28, none, .lit T_uint32 [(.int .u32 0)] 1 [(0, 1, (.tmp 27))]⟩,
  ⟨some 29, none, .app T_uint32 1 4 (.tmp 25) (.tmp 28)⟩,
  ⟨some 5, none, .mv (.tmp 29)⟩]
def r_182_8 : List SOper := [⟨some 30, none, .mv (.tmp 6)⟩,
  ⟨some 31, none, .bin 0 .shr (.tmp 30) (.const (.int .u64 32))⟩,
  ⟨some 6, none, .mv (.tmp 31)⟩]
def r_182_9 : List SOper := [⟨some 32, none, .bin 0 .add (.tmp 15) (.const (.int .i64 1))⟩,
  ⟨some 15, none, .mv (.tmp 32)⟩]
def r_182_10 : List SOper := [⟨some 33, none, .mv (.tmp 5)⟩,
  ⟨some 34, none, .mv (.tmp 6)⟩,
  ⟨some 35, none, .call f_125 [(.tmp 34)] true⟩,
  ⟨some 36, none, .lit T_uint32 [(.int .u32 0)] 1 [(0, 1, (.tmp 35))]⟩,
  ⟨some 37, none, .app T_uint32 1 4 (.tmp 33) (.tmp 36)⟩,
  ⟨some 4, none, .mv (.tmp 37)⟩]
def s_182 : SFun := ⟨2, 38, [.tmp 4],
  (.seq (.reg r_182_0) (.seq (.reg r_182_1) (.seq (.reg r_182_2) (.seq (.seq (.reg r_182_3) (.block 0 (.loop (.seq (.reg r_182_4) (.seq (.cond (.tmp 16) .skip (.exit 0)) (.seq (.block 1 (.seq (.reg r_182_5) (.seq (.reg r_182_6) (.seq (.reg r_182_7) (.reg r_182_8))))) (.reg r_182_9))))))) (.seq (.reg r_182_10) .ret)))))⟩

def r_183_0 : List SOper := [⟨some 6, none, .mv (.const (.bool false))⟩]
def r_183_1 : List SOper := [⟨some 7, none, .mv (.const (.int .u64 0))⟩]
def r_183_2 : List SOper := [⟨some 10, none, .mv (.tmp 0)⟩,
  ⟨some 11, none, .len (.tmp 10)⟩,
  ⟨some 12, none, .mv (.const (.int .i64 0))⟩]
def r_183_3 : List SOper := [⟨some 13, none, .bin 0 .lss (.tmp 12) (.tmp 11)⟩]
def r_183_4 : List SOper := [⟨some 14, none, .mv (.tmp 12)⟩,
  ⟨some 8, none, .mv (.tmp 14)⟩]
def r_183_5 : List SOper := [⟨some 15, none, .mv (.tmp 8)⟩,
  ⟨some 16, none, .mv (.tmp 1)⟩,
  ⟨some 17, none, .len (.tmp 16)⟩,
  ⟨some 18, none, .bin 0 .lss (.tmp 15) (.tmp 17)⟩]
def r_183_6 : List SOper := [⟨some 19, none, .mv (.tmp 7)⟩,
  ⟨some 20, none, .mv (.tmp 1)⟩,
  ⟨some 21, none, .mv (.tmp 8)⟩,
  ⟨some 22, none, .ia 1 (.tmp 20) (.tmp 21)⟩,
  ⟨some 23, none, .load false 1 (.tmp 22)⟩,
  ⟨some 24, none, .conv .u64 (.tmp 23)⟩,
  ⟨some 25, none, .mv (.tmp 2)⟩,
  ⟨some 26, none, .bin 0 .mul (.tmp 24) (.tmp 25)⟩,
  ⟨some 27, none, .bin 0 .add (.tmp 19) (.tmp 26)⟩,
  ⟨some 7, none, .mv (.tmp 27)⟩]
def r_183_7 : List SOper := [⟨some 28, none, .mv (.tmp 0)⟩,
  ⟨some 29, none, .mv (.tmp 8)⟩,
  ⟨some 30, none, .ia 1 (.tmp 28) (.tmp 29)⟩,
  ⟨some 31, none, .load false 1 (.tmp 30)⟩,
  ⟨some 32, none, .conv .u64 (.tmp 31)⟩,
  ⟨some 33, none, .mv (.tmp 7)⟩,
  ⟨some 34, none, .bin 0 .and (.tmp 33) (.const (.int .u64 4294967295))⟩,
  ⟨some 35, none, .bin 0 .sub (.tmp 32) (.tmp 34)⟩,
  ⟨some 9, none, .mv (.tmp 35)⟩]
def r_183_8 : List SOper := [⟨some 36, none, .mv (.tmp 0)⟩,
  ⟨some 37, none, .mv (.tmp 8)⟩,
  ⟨some 38, none, .mv (.tmp 9)⟩,
  ⟨some 39, none, .call f_125 [(.tmp 38)] true⟩,
  ⟨some 40, none, .ia 1 (.tmp 36) (.tmp 37)⟩,
  ⟨none, none, .store 1 (.tmp 40) (.tmp 39)⟩]
def r_183_9 : List SOper := [⟨some 41, none, .mv (.tmp 7)⟩,
  ⟨some 42, none, .bin 0 .shr (.tmp 41) (.const (.int .u64 32))⟩,
  ⟨some 43, none, .mv (.tmp 9)⟩,
  ⟨some 44, none, .bin 0 .shr (.tmp 43) (.const (.int .u64 63))⟩,
  ⟨some 45, none, .bin 0 .add (.tmp 42) (.tmp 44)⟩,
  ⟨some 7, none, .mv (.tmp 45)⟩]
def r_183_10 : List SOper := [⟨some 46, none, .bin 0 .add (.tmp 12) (.const (.int .i64 1))⟩,
  ⟨some 12, none, .mv (.tmp 46)⟩]
def r_183_11 : List SOper := [⟨some 47, none, .mv (.tmp 7)⟩,
  ⟨some 48, none, .bin 0 .neq (.tmp 47) (.const (.int .u64 0))⟩,
  ⟨some 6, none, .mv (.tmp 48)⟩]
def s_183 : SFun := ⟨3, 49, [.tmp 6],
  (.seq (.reg r_183_0) (.seq (.reg r_183_1) (.seq (.seq (.reg r_183_2) (.block 0 (.loop (.seq (.reg r_183_3) (.seq (.cond (.tmp 13) .skip (.exit 0)) (.seq (.block 1 (.seq (.reg r_183_4) (.seq (.seq (.reg r_183_5) (.cond (.tmp 18) (.reg r_183_6) .skip)) (.seq (.reg r_183_7) (.seq (.reg r_183_8) (.reg r_183_9)))))) (.reg r_183_10))))))) (.seq (.reg r_183_11) .ret))))⟩

def r_184_0 : List SOper := [⟨some 4, none, .mv (.const (.int .u64 0))⟩]
def r_184_1 : List SOper := [⟨some 6, none, .mv (.tmp 0)⟩,
  ⟨some 7, none, .len (.tmp 6)⟩,
  ⟨some 8, none, .mv (.const (.int .i64 0))⟩]
def r_184_2 : List SOper := [⟨some 9, none, .bin 0 .lss (.tmp 8) (.tmp 7)⟩]
def r_184_3 : List SOper := [⟨some 10, none, .mv (.tmp 8)⟩,
  ⟨some 5, none, .mv (.tmp 10)⟩]
def r_184_4 : List SOper := [⟨some 11, none, .mv (.tmp 4)⟩,
  ⟨some 12, none, .mv (.tmp 0)⟩,
  ⟨some 13, none, .mv (.tmp 5)⟩,
  ⟨some 14, none, .ia 1 (.tmp 12) (.tmp 13)⟩,
  ⟨some 15, none, .load false 1 (.tmp 14)⟩,
  ⟨some 16, none, .conv .u64 (.tmp 15)⟩,
  ⟨some 17, none, .bin 0 .add (.tmp 11) (.tmp 16)⟩,
  ⟨some 4, none, .mv (.tmp 17)⟩]
def r_184_5 : List SOper := [⟨some 18, none, .mv (.tmp 5)⟩,
  ⟨some 19, none, .mv (.tmp 1)⟩,
  ⟨some 20, none, .len (.tmp 19)⟩,
  ⟨some 21, none, .bin 0 .lss (.tmp 18) (.tmp 20)⟩]
def r_184_6 : List SOper := [⟨some 22, none, .mv (.tmp 4)⟩,
  ⟨some 23, none, .mv (.tmp 1)⟩,
  ⟨some 24, none, .mv (.tmp 5)⟩,
  ⟨some 25, none, .ia 1 (.tmp 23) (.tmp 24)⟩,
  ⟨some 26, none, .load false 1 (.tmp 25)⟩,
  ⟨some 27, none, .conv .u64 (.tmp 26)⟩,
  ⟨some 28, none, .bin 0 .add (.tmp 22) (.tmp 27)⟩,
  ⟨some 4, none, .mv (.tmp 28)⟩]
def r_184_7 : List SOper := [⟨some 29, none, .mv (.tmp 0)⟩,
  ⟨some 30, none, .mv (.tmp 5)⟩,
  ⟨some 31, none, .mv (.tmp 4)⟩,
  ⟨some 32, none, .call f_125 [(.tmp 31)] true⟩,
  ⟨some 33, none, .ia 1 (.tmp 29) (.tmp 30)⟩,
  ⟨none, none, .store 1 (.tmp 33) (.tmp 32)⟩]
def r_184_8 : List SOper := [⟨some 34, none, .mv (.tmp 4)⟩,
  ⟨some 35, none, .bin 0 .shr (.tmp 34) (.const (.int .u64 32))⟩,
  ⟨some 4, none, .mv (.tmp 35)⟩]
def r_184_9 : List SOper := [⟨some 36, none, .bin 0 .add (.tmp 8) (.const (.int .i64 1))⟩,
  ⟨some 8, none, .mv (.tmp 36)⟩]
def s_184 : SFun := ⟨2, 37, [],
  (.seq (.reg r_184_0) (.seq (.reg r_184_1) (.block 0 (.loop (.seq (.reg r_184_2) (.seq (.cond (.tmp 9) .skip (.exit 0)) (.seq (.block 1 (.seq (.reg r_184_3) (.seq (.reg r_184_4) (.seq (.seq (.reg r_184_5) (.cond (.tmp 21) (.reg r_184_6) .skip)) (.seq (.reg r_184_7) (.reg r_184_8)))))) (.reg r_184_9))))))))⟩

def r_185_0 : List SOper := [⟨some 4, none, .mv (.const (.slice none 0 0))⟩]
def r_185_1 : List SOper := [⟨some 8, none, .mv (.tmp 0)⟩,
  ⟨some 9, none, .len (.tmp 8)⟩,
  ⟨some 10, none, .mk T_uint32 4 [(.int .u32 0)] (.tmp 9) (.tmp 9)⟩,
  ⟨some 5, none, .mv (.tmp 10)⟩]
def r_185_2 : List SOper := [⟨some 11, none, .mv (.tmp 0)⟩,
  ⟨some 12, none, .len (.tmp 11)⟩,
  ⟨some 13, none, .mv (.const (.int .i64 0))⟩]
def r_185_3 : List SOper := [⟨some 14, none, .bin 0 .lss (.tmp 13) (.tmp 12)⟩]
def r_185_4 : List SOper := [⟨some 15, none, .mv (.tmp 13)⟩,
  ⟨some 6, none, .mv (.tmp 15)⟩]
def r_185_5 : List SOper := [⟨some 16, none, .mv (.tmp 0)⟩,
  ⟨some 17, none, .mv (.tmp 6)⟩,
  ⟨some 18, none, .ia 1 (.tmp 16) (.tmp 17)⟩,
  ⟨some 19, none, .load false 1 (.tmp 18)⟩,
  ⟨some 20, none, .conv .u64 (.tmp 19)⟩,
  ⟨some 7, none, .mv (.tmp 20)⟩]
def r_185_6 : List SOper := [⟨some 21, none, .mv (.tmp 6)⟩,
  ⟨some 22, none, .bin 0 .add (.tmp 21) (.const (.int .i64 1))⟩,
  ⟨some 23, none, .mv (.tmp 0)⟩,
  ⟨some 24, none, .len (.tmp 23)⟩,
  ⟨some 25, none, .bin 0 .lss (.tmp 22) (.tmp 24)⟩]
def r_185_7 : List SOper := [⟨some 26, none, .mv (.tmp 7)⟩,
  ⟨some 27, none, .mv (.tmp 0)⟩,
  ⟨some 28, none, .mv (.tmp 6)⟩,
  ⟨some 29, none, .bin 0 .add (.tmp 28) (.const (.int .i64 1))⟩,
  ⟨some 30, none, .ia 1 (.tmp 27) (.tmp 29)⟩,
  ⟨some 31, none, .load false 1 (.tmp 30)⟩,
  ⟨some 32, none, .conv .u64 (.tmp 31)⟩,
  ⟨some 33, none, .bin 0 .shl (.tmp 32) (.const (.int .u64 32))⟩,
  ⟨some 34, none, .bin 0 .or (.tmp 26) (.tmp 33)⟩,
  ⟨some 7, none, .mv (.tmp 34)⟩]
def r_185_8 : List SOper := [⟨some 35, none, .mv (.tmp 5)⟩,
  ⟨some 36, none, .mv (.tmp 6)⟩,
  ⟨some 37, none, .mv (.tmp 7)⟩,
  ⟨some 38, none, .mv (.tmp 1)⟩,
  ⟨some 39, none, .bin 0 .shr (.tmp 37) (.tmp 38)⟩,
  ⟨some 40, none, .call f_125 [(.tmp 39)] true⟩,
  ⟨some 41, none, .ia 1 (.tmp 35) (.tmp 36)⟩,
  ⟨none, none, .store 1 (.tmp 41) (.tmp 40)⟩]
def r_185_9 : List SOper := [⟨some 42, none, .bin 0 .add (.tmp 13) (.const (.int .i64 1))⟩,
  ⟨some 13, none, .mv (.tmp 42)⟩]
def r_185_10 : List SOper := [⟨some 43, none, .mv (.tmp 5)⟩,
  ⟨some 4, none, .mv (.tmp 43)⟩]
def s_185 : SFun := ⟨2, 44, [.tmp 4],
  (.seq (.reg r_185_0) (.seq (.reg r_185_1) (.seq (.seq (.reg r_185_2) (.block 0 (.loop (.seq (.reg r_185_3) (.seq (.cond (.tmp 14) .skip (.exit 0)) (.seq (.block 1 (.seq (.reg r_185_4) (.seq (.reg r_185_5) (.seq (.seq (.reg r_185_6) (.cond (.tmp 25) (.reg r_185_7) .skip)) (.reg r_185_8))))) (.reg r_185_9))))))) (.seq (.reg r_185_10) .ret))))⟩

def r_201_0 : List SOper := [⟨some 5, none, .box T_simplex_all (.tmp 0)⟩,
  ⟨some 6, none, .box T_api_Int (.tmp 1)⟩,
  ⟨some 7, none, .box T_api_Int (.tmp 2)⟩,
  ⟨some 8, none, .box T_api_Int (.tmp 3)⟩,
  ⟨some 9, none, .box T_api_Int (.tmp 4)⟩,
  ⟨some 10, none, .mv (.const (.int .i64 0))⟩]
def r_201_1 : List SOper := [⟨some 11, none, .load true 2 (.tmp 6)⟩,
  ⟨some 12, none, .load true 2 (.tmp 7)⟩,
  ⟨some 13, none, .call f_89 [(.tmp 11), (.tmp 12)] false⟩,
  ⟨some 14, none, .load true 2 (.tmp 8)⟩,
  ⟨some 15, none, .load true 2 (.tmp 9)⟩,
  ⟨some 16, none, .call f_89 [(.tmp 14), (.tmp 15)] true⟩,
  ⟨some 17, none, .call f_127 [(.tmp 13), (.tmp 16)] true⟩,
  ⟨some 10, none, .mv (.tmp 17)⟩]
def s_201 : SFun := ⟨5, 18, [.tmp 10],
  (.seq (.reg r_201_0) (.seq (.draw r_201_1 [0, 0, 3, 0, 0, 31, 63, 127] []) .ret))⟩

def r_202_0 : List SOper := [⟨some 2, none, .box T_simplex_all (.tmp 0)⟩,
  ⟨some 3, none, .box T_api_Int (.tmp 1)⟩,
  ⟨some 4, none, .alloc T_api_Int [(.bool false), (.slice none 0 0)]⟩]
def r_202_1 : List SOper := [⟨some 5, none, .load true 2 (.tmp 3)⟩,
  ⟨some 6, none, .call f_151 [(.tmp 5)] true⟩,
  ⟨none, none, .store 2 (.tmp 4) (.tmp 6)⟩]
def s_202 : SFun := ⟨2, 7, [.cell 4 true 2],
  (.seq (.reg r_202_0) (.seq (.reg r_202_1) .ret))⟩

def r_203_0 : List SOper := [⟨some 2, none, .box T_simplex_all (.tmp 0)⟩,
  ⟨some 3, none, .box T_api_Int (.tmp 1)⟩,
  ⟨some 4, none, .alloc T_api_Int [(.bool false), (.slice none 0 0)]⟩]
def r_203_1 : List SOper := [⟨some 5, none, .load true 2 (.tmp 3)⟩,
  ⟨none, none, .store 2 (.tmp 4) (.tmp 5)⟩]
def s_203 : SFun := ⟨2, 6, [.cell 4 true 2],
  (.seq (.reg r_203_0) (.seq (.reg r_203_1) .ret))⟩

def r_204_0 : List SOper := [⟨some 2, none, .box T_simplex_all (.tmp 0)⟩,
  ⟨some 3, none, .box T_api_Int (.tmp 1)⟩,
  ⟨some 4, none, .alloc T_api_Int [(.bool false), (.slice none 0 0)]⟩]
def r_204_1 : List SOper := [⟨some 5, none, .load true 2 (.tmp 3)⟩,
  ⟨none, none, .store 2 (.tmp 4) (.tmp 5)⟩]
def s_204 : SFun := ⟨2, 6, [.cell 4 true 2],
  (.seq (.reg r_204_0) (.seq (.reg r_204_1) .ret))⟩

def r_205_0 : List SOper := [⟨some 2, none, .box T_simplex_all (.tmp 0)⟩,
  ⟨some 3, none, .box T_api_Int (.tmp 1)⟩,
  ⟨some 4, none, .mv (.const (.int .i64 0))⟩]
def r_205_1 : List SOper := [⟨some 5, none, .load true 2 (.tmp 3)⟩,
  ⟨some 6, none, .build [(.bool false), (.slice none 0 0)] []⟩,
  ⟨some 7, none, .call f_127 [(.tmp 5), (.tmp 6)] true⟩,
  ⟨some 4, none, .mv (.tmp 7)⟩]
def s_205 : SFun := ⟨2, 8, [.tmp 4],
  (.seq (.reg r_205_0) (.seq (.reg r_205_1) .ret))⟩

def r_206_0 : List SOper := [⟨some 6, none, .box T_simplex_all (.tmp 0)⟩,
  ⟨some 7, none, .box T_api_Int (.tmp 1)⟩,
  ⟨some 8, none, .box T_api_Int (.tmp 2)⟩,
  ⟨some 9, none, .box T_api_Int (.tmp 3)⟩,
  ⟨some 10, none, .box T_api_Int (.tmp 4)⟩,
  ⟨some 11, none, .box T_api_Int (.tmp 5)⟩,
  ⟨some 12, none, .alloc T_api_Int [(.bool false), (.slice none 0 0)]⟩]
def r_206_1 : List SOper := [⟨some 17, none, .load true 2 (.tmp 7)⟩,
  ⟨some 18, none, .load true 2 (.tmp 8)⟩,
  ⟨some 19, none, .call f_89 [(.tmp 17), (.tmp 18)] false⟩,
  ⟨some 20, none, .load true 2 (.tmp 9)⟩,
  ⟨some 21, none, .load true 2 (.tmp 10)⟩,
  ⟨some 22, none, .call f_89 [(.tmp 20), (.tmp 21)] false⟩,
  ⟨some 23, none, .call f_207 [(.tmp 19), (.tmp 22)] false⟩,
  ⟨some 24, none, .load true 2 (.tmp 11)⟩,
  ⟨some 25, none, .call f_152 [(.tmp 23), (.tmp 24)] false⟩,
  ⟨some 16, none, .mv (.tmp 25)⟩,
  ⟨some 26, none, .ext (.tmp 16) 0⟩,
  ⟨some 27, none, .ext (.tmp 16) 1⟩,
  ⟨some 28, none, .ext (.tmp 16) 2⟩,
  ⟨some 13, none, .alloc T_api_Int [(.bool false), (.slice none 0 0)]⟩,
  ⟨some 14, none, .alloc T_api_Int [(.bool false), (.slice none 0 0)]⟩,
  ⟨none, none, .store 2 (.tmp 13) (.tmp 26)⟩,
  ⟨none, none, .store 2 (.tmp 14) (.tmp 27)⟩,
  ⟨some 15, none, .mv (.tmp 28)⟩]
def r_206_2 : List SOper := [⟨some 29, none, .load true 2 (.tmp 13)⟩,
  ⟨none, none, .store 2 (.tmp 12) (.tmp 29)⟩]
def s_206 : SFun := ⟨6, 30, [.cell 12 true 2],
  (.seq (.reg r_206_0) (.seq (.draw r_206_1 [0, 0, 3, 0, 0, 31, 63, 0, 255, 511, 1023, 1023, 1023, 0, 0, 26623, 61439, 131071] []) (.seq (.reg r_206_2) .ret)))⟩

def r_207_0 : List SOper := [⟨some 2, none, .box T_api_Int (.tmp 0)⟩,
  ⟨some 3, none, .box T_api_Int (.tmp 1)⟩,
  ⟨some 4, none, .alloc T_api_Int [(.bool false), (.slice none 0 0)]⟩]
def r_207_1 : List SOper := [⟨some 5, none, .load true 2 (.tmp 2)⟩,
  ⟨some 6, none, .load true 2 (.tmp 3)⟩,
  ⟨some 7, none, .call f_151 [(.tmp 6)] false⟩,
  ⟨some 8, none, .call f_88 [(.tmp 5), (.tmp 7)] true⟩,
  ⟨none, none, .store 2 (.tmp 4) (.tmp 8)⟩]
def s_207 : SFun := ⟨2, 9, [.cell 4 true 2],
  (.seq (.reg r_207_0) (.seq (.draw r_207_1 [0, 0, 2, 7, 15] []) .ret))⟩

def r_208_0 : List SOper := [⟨some 5, none, .box T_simplex_few (.tmp 0)⟩,
  ⟨some 10, none, .mv (.const (.int .i64 0))⟩]
def r_208_1 : List SOper := [⟨some 11, none, .mv (.tmp 1)⟩,
  ⟨some 12, none, .mv (.tmp 2)⟩,
  ⟨some 13, none, .bin 0 .mul (.tmp 11) (.tmp 12)⟩,
  ⟨some 14, none, .mv (.tmp 3)⟩,
  ⟨some 15, none, .mv (.tmp 4)⟩,
  ⟨some 16, none, .bin 0 .mul (.tmp 14) (.tmp 15)⟩,
  ⟨some 17, none, .call f_214 [(.tmp 13), (.tmp 16)] true⟩,
  ⟨some 10, none, .mv (.tmp 17)⟩]
def s_208 : SFun := ⟨5, 18, [.tmp 10],
  (.seq (.reg r_208_0) (.seq (.reg r_208_1) .ret))⟩

def r_209_0 : List SOper := [⟨some 2, none, .box T_simplex_few (.tmp 0)⟩,
  ⟨some 4, none, .mv (.const (.int .i64 0))⟩]
def r_209_1 : List SOper := [⟨some 5, none, .mv (.tmp 1)⟩,
  ⟨some 6, none, .un .neg (.tmp 5)⟩,
  ⟨some 4, none, .mv (.tmp 6)⟩]
def s_209 : SFun := ⟨2, 7, [.tmp 4],
  (.seq (.reg r_209_0) (.seq (.reg r_209_1) .ret))⟩

def r_210_0 : List SOper := [⟨some 2, none, .box T_simplex_few (.tmp 0)⟩,
  ⟨some 4, none, .alloc T_api_Int [(.bool false), (.slice none 0 0)]⟩]
def r_210_1 : List SOper := [⟨some 5, none, .mv (.tmp 1)⟩,
  ⟨some 6, none, .call f_126 [(.tmp 5)] true⟩,
  ⟨none, none, .store 2 (.tmp 4) (.tmp 6)⟩]
def s_210 : SFun := ⟨2, 7, [.cell 4 true 2],
  (.seq (.reg r_210_0) (.seq (.reg r_210_1) .ret))⟩

def r_211_0 : List SOper := [⟨some 2, none, .box T_simplex_few (.tmp 0)⟩,
  ⟨some 3, none, .box T_api_Int (.tmp 1)⟩,
  ⟨some 4, none, .mv (.const (.int .i64 0))⟩]
def r_211_1 : List SOper := [⟨some 8, none, .load true 2 (.tmp 3)⟩,
  ⟨some 9, none, .call f_215 [(.tmp 8)] true⟩,
  ⟨some 7, none, .mv (.tmp 9)⟩,
  ⟨some 10, none, .ext (.tmp 7) 0⟩,
  ⟨some 11, none, .ext (.tmp 7) 1⟩,
  ⟨some 5, none, .mv (.tmp 10)⟩,
  ⟨some 6, none, .mv (.tmp 11)⟩]
def r_211_2 : List SOper := [⟨some 12, none, .mv (.tmp 6)⟩,
  ⟨some 13, none, .un .not (.tmp 12)⟩]
def r_211_3 : List SOper := [⟨some 14, none, .build [] []⟩,
  ⟨some 15, none, .iface T_simplex_wide (.tmp 14)⟩,
  ⟨none, none, .pan (.tmp 15)⟩]
def r_211_4 : List SOper := [⟨some 16, none, .mv (.tmp 5)⟩,
  ⟨some 17, none, .call f_216 [(.tmp 16)] true⟩,
  ⟨some 4, none, .mv (.tmp 17)⟩]
def s_211 : SFun := ⟨2, 18, [.tmp 4],
  (.seq (.reg r_211_0) (.seq (.reg r_211_1) (.seq (.seq (.reg r_211_2) (.cond (.tmp 13) (.reg r_211_3) .skip)) (.seq (.reg r_211_4) .ret))))⟩

def r_212_0 : List SOper := [⟨some 2, none, .box T_simplex_few (.tmp 0)⟩,
  ⟨some 4, none, .mv (.const (.int .i64 0))⟩]
def r_212_1 : List SOper := [⟨some 5, none, .mv (.tmp 1)⟩,
  ⟨some 6, none, .call f_214 [(.tmp 5), (.const (.int .i64 0))] true⟩,
  ⟨some 4, none, .mv (.tmp 6)⟩]
def s_212 : SFun := ⟨2, 7, [.tmp 4],
  (.seq (.reg r_212_0) (.seq (.reg r_212_1) .ret))⟩

def r_213_0 : List SOper := [⟨some 6, none, .box T_simplex_few (.tmp 0)⟩,
  ⟨some 12, none, .mv (.const (.int .i64 0))⟩]
def r_213_1 : List SOper := [⟨some 13, none, .mv (.tmp 1)⟩,
  ⟨some 14, none, .mv (.tmp 2)⟩,
  ⟨some 15, none, .bin 0 .mul (.tmp 13) (.tmp 14)⟩,
  ⟨some 16, none, .mv (.tmp 3)⟩,
  ⟨some 17, none, .mv (.tmp 4)⟩,
  ⟨some 18, none, .bin 0 .mul (.tmp 16) (.tmp 17)⟩,
  ⟨some 19, none, .bin 0 .sub (.tmp 15) (.tmp 18)⟩,
  ⟨some 20, none, .mv (.tmp 5)⟩,
  ⟨some 21, none, .bin 0 .quo (.tmp 19) (.tmp 20)⟩,
  ⟨some 22, none, .call f_216 [(.tmp 21)] true⟩,
  ⟨some 12, none, .mv (.tmp 22)⟩]
def s_213 : SFun := ⟨6, 23, [.tmp 12],
  (.seq (.reg r_213_0) (.seq (.reg r_213_1) .ret))⟩

def r_214_0 : List SOper := [⟨some 4, none, .mv (.const (.int .i64 0))⟩]
def r_214_1 : List SOper := [⟨some 6, none, .mv (.tmp 0)⟩,
  ⟨some 7, none, .mv (.tmp 1)⟩,
  ⟨some 8, none, .bin 0 .lss (.tmp 6) (.tmp 7)⟩,
  ⟨some 5, none, .mv (.tmp 8)⟩]
def r_214_2 : List SOper := [⟨some 4, none, .mv (.const (.int .i64 (-1)))⟩]
def r_214_3 : List SOper := [⟨some 10, none, .mv (.tmp 0)⟩,
  ⟨some 11, none, .mv (.tmp 1)⟩,
  ⟨some 12, none, .bin 0 .gtr (.tmp 10) (.tmp 11)⟩,
  ⟨some 9, none, .mv (.tmp 12)⟩]
def r_214_4 : List SOper := [⟨some 4, none, .mv (.const (.int .i64 1))⟩]
def r_214_5 : List SOper := [⟨some 4, none, .mv (.const (.int .i64 0))⟩]
def s_214 : SFun := ⟨2, 13, [.tmp 4],
  (.seq (.reg r_214_0) (.seq (.block 0 (.seq (.reg r_214_1) (.cond (.tmp 5) (.seq (.reg r_214_2) .ret) (.seq (.reg r_214_3) (.cond (.tmp 9) (.seq (.reg r_214_4) .ret) .skip))))) (.seq (.reg r_214_5) .ret)))⟩

def r_215_0 : List SOper := [⟨some 1, none, .box T_api_Int (.tmp 0)⟩,
  ⟨some 2, none, .mv (.const (.int .i64 0))⟩,
  ⟨some 3, none, .mv (.const (.bool false))⟩]
def r_215_1 : List SOper := [⟨some 8, none, .load true 2 (.tmp 1)⟩,
  ⟨some 9, none, .call f_119 [(.tmp 8)] true⟩,
  ⟨some 4, none, .mv (.tmp 9)⟩]
def r_215_2 : List SOper := [⟨some 10, none, .mv (.tmp 4)⟩,
  ⟨some 11, none, .len (.tmp 10)⟩,
  ⟨some 12, none, .bin 0 .gtr (.tmp 11) (.const (.int .i64 2))⟩]
def r_215_3 : List SOper := [⟨some 2, none, .mv (.const (.int .i64 0))⟩,
  ⟨some 3, none, .mv (.const (.bool false))⟩]
def r_215_4 : List SOper := [⟨some 5, none, .mv (.const (.int .u64 0))⟩]
def r_215_5 : List SOper := [⟨some 13, none, .mv (.tmp 4)⟩,
  ⟨some 14, none, .len (.tmp 13)⟩,
  ⟨some 15, none, .mv (.const (.int .i64 0))⟩]
def r_215_6 : List SOper := [⟨some 16, none, .bin 0 .lss (.tmp 15) (.tmp 14)⟩]
def r_215_7 : List SOper := [⟨some 17, none, .mv (.tmp 15)⟩,
  ⟨some 18, none, .ia 1 (.tmp 13) (.tmp 15)⟩,
  ⟨some 19, none, .load false 1 (.tmp 18)⟩,
  ⟨some 6, none, .mv (.tmp 17)⟩,
  ⟨some 7, none, .mv (.tmp 19)⟩]
def r_215_8 : List SOper := [⟨some 20, none, .mv (.tmp 5)⟩,
  ⟨some 21, none, .mv (.tmp 7)⟩,
  ⟨some 22, none, .conv .u64 (.tmp 21)⟩,
  ⟨some 23, none, .mv (.tmp 6)⟩,
  ⟨some 24, none, .bin 0 .mul (.const (.int .i64 32)) (.tmp 23)⟩,
  ⟨some 25, none, .bin 0 .shl (.tmp 22) (.tmp 24)⟩,
  ⟨some 26, none, .bin 0 .or (.tmp 20) (.tmp 25)⟩,
  ⟨some 5, none, .mv (.tmp 26)⟩]
def r_215_9 : List SOper := [⟨some 27, none, .bin 0 .add (.tmp 15) (.const (.int .i64 1))⟩,
  ⟨some 15, none, .mv (.tmp 27)⟩]
def r_215_10 : List SOper := [⟨some 29, none, .load true 2 (.tmp 1)⟩,
  ⟨some 30, none, .call f_120 [(.tmp 29)] true⟩,
  ⟨some 31, none, .mv (.tmp 30)⟩,
  ⟨some 32, some (31, true), .mv (.tmp 5)⟩,
  ⟨some 33, some (31, true), .bin 0 .leq (.tmp 32) (.const (.int .u64 9223372036854775808))⟩,
  ⟨some 34, none, .pick (.tmp 31) (.tmp 33) (.const (.bool false))⟩,
  ⟨some 28, none, .mv (.tmp 34)⟩]
def r_215_11 : List SOper := [⟨some 35, none, .mv (.tmp 5)⟩,
  ⟨some 36, none, .un .neg (.tmp 35)⟩,
  ⟨some 37, none, .conv .i64 (.tmp 36)⟩,
  ⟨some 2, none, .mv (.tmp 37)⟩,
  ⟨some 3, none, .mv (.const (.bool true))⟩]
def r_215_12 : List SOper := [⟨some 39, none, .load true 2 (.tmp 1)⟩,
  ⟨some 40, none, .call f_120 [(.tmp 39)] true⟩,
  ⟨some 41, none, .un .not (.tmp 40)⟩,
  ⟨some 42, none, .mv (.tmp 41)⟩,
  ⟨some 43, some (42, true), .mv (.tmp 5)⟩,
  ⟨some 44, some (42, true), .bin 0 .lss (.tmp 43) (.const (.int .u64 9223372036854775808))⟩,
  ⟨some 45, none, .pick (.tmp 42) (.tmp 44) (.const (.bool false))⟩,
  ⟨some 38, none, .mv (.tmp 45)⟩]
def r_215_13 : List SOper := [⟨some 46, none, .mv (.tmp 5)⟩,
  ⟨some 47, none, .conv .i64 (.tmp 46)⟩,
  ⟨some 2, none, .mv (.tmp 47)⟩,
  ⟨some 3, none, .mv (.const (.bool true))⟩]
def r_215_14 : List SOper := [⟨some 2, none, .mv (.const (.int .i64 0))⟩,
  ⟨some 3, none, .mv (.const (.bool false))⟩]
def s_215 : SFun := ⟨1, 48, [.tmp 2, .tmp 3],
  (.seq (.reg r_215_0) (.seq (.reg r_215_1) (.seq (.seq (.reg r_215_2) (.cond (.tmp 12) (.seq (.reg r_215_3) .ret) .skip)) (.seq (.reg r_215_4) (.seq (.seq (.reg r_215_5) (.block 0 (.loop (.seq (.reg r_215_6) (.seq (.cond (.tmp 16) .skip (.exit 0)) (.seq (.block 1 (.seq (.reg r_215_7) (.reg r_215_8))) (.reg r_215_9))))))) (.seq (.block 2 (.seq (.reg r_215_10) (.cond (.tmp 28) (.seq (.reg r_215_11) .ret) (.seq (.reg r_215_12) (.cond (.tmp 38) (.seq (.reg r_215_13) .ret) .skip))))) (.seq (.reg r_215_14) .ret)))))))⟩

def r_216_0 : List SOper := [⟨some 2, none, .mv (.const (.int .i64 0))⟩]
def r_216_1 : List SOper := [⟨some 3, none, .mv (.tmp 0)⟩,
  ⟨some 4, none, .bin 0 .leq (.tmp 3) (.const (.int .i64 (-2147483648)))⟩,
  ⟨some 5, none, .mv (.tmp 4)⟩,
  ⟨some 6, some (5, false), .mv (.tmp 0)⟩,
  ⟨some 7, some (5, false), .bin 0 .geq (.tmp 6) (.const (.int .i64 2147483648))⟩,
  ⟨some 8, none, .pick (.tmp 5) (.const (.bool true)) (.tmp 7)⟩]
def r_216_2 : List SOper := [⟨some 9, none, .build [] []⟩,
  ⟨some 10, none, .iface T_simplex_wide (.tmp 9)⟩,
  ⟨none, none, .pan (.tmp 10)⟩]
def r_216_3 : List SOper := [⟨some 11, none, .mv (.tmp 0)⟩,
  ⟨some 2, none, .mv (.tmp 11)⟩]
def s_216 : SFun := ⟨1, 12, [.tmp 2],
  (.seq (.reg r_216_0) (.seq (.seq (.reg r_216_1) (.cond (.tmp 8) (.reg r_216_2) .skip)) (.seq (.reg r_216_3) .ret)))⟩


end Go.Proofs.YtjlohmnnldbjoaaGreat.AI

/- The small code of the program's functions: printed. -/
namespace Go.Proofs.YtjlohmnnldbjoaaGreat.AI
open Go

def codeTab : List (Nat × SFun) := [
  (f_8, s_8),
  (f_9, s_9),
  (f_12, s_12),
  (f_13, s_13),
  (f_15, s_15),
  (f_18, s_18),
  (f_19, s_19),
  (f_20, s_20),
  (f_21, s_21),
  (f_26, s_26),
  (f_27, s_27),
  (f_28, s_28),
  (f_30, s_30),
  (f_31, s_31),
  (f_33, s_33),
  (f_35, s_35),
  (f_36, s_36),
  (f_37, s_37),
  (f_39, s_39),
  (f_40, s_40),
  (f_48, s_48),
  (f_49, s_49),
  (f_50, s_50),
  (f_51, s_51),
  (f_52, s_52),
  (f_53, s_53),
  (f_54, s_54),
  (f_60, s_60),
  (f_61, s_61),
  (f_62, s_62),
  (f_63, s_63),
  (f_64, s_64),
  (f_65, s_65),
  (f_66, s_66),
  (f_67, s_67),
  (f_68, s_68),
  (f_69, s_69),
  (f_71, s_71),
  (f_76, s_76),
  (f_77, s_77),
  (f_78, s_78),
  (f_84, s_84),
  (f_85, s_85),
  (f_86, s_86),
  (f_87, s_87),
  (f_88, s_88),
  (f_89, s_89),
  (f_90, s_90),
  (f_91, s_91),
  (f_92, s_92),
  (f_93, s_93),
  (f_94, s_94),
  (f_97, s_97),
  (f_98, s_98),
  (f_99, s_99),
  (f_100, s_100),
  (f_101, s_101),
  (f_102, s_102),
  (f_103, s_103),
  (f_107, s_107),
  (f_108, s_108),
  (f_109, s_109),
  (f_110, s_110),
  (f_112, s_112),
  (f_116, s_116),
  (f_117, s_117),
  (f_118, s_118),
  (f_119, s_119),
  (f_120, s_120),
  (f_121, s_121),
  (f_122, s_122),
  (f_123, s_123),
  (f_124, s_124),
  (f_125, s_125),
  (f_126, s_126),
  (f_127, s_127),
  (f_128, s_128),
  (f_131, s_131),
  (f_132, s_132),
  (f_133, s_133),
  (f_135, s_135),
  (f_136, s_136),
  (f_137, s_137),
  (f_139, s_139),
  (f_140, s_140),
  (f_141, s_141),
  (f_142, s_142),
  (f_143, s_143),
  (f_144, s_144),
  (f_145, s_145),
  (f_146, s_146),
  (f_151, s_151),
  (f_152, s_152),
  (f_153, s_153),
  (f_154, s_154),
  (f_155, s_155),
  (f_157, s_157),
  (f_158, s_158),
  (f_159, s_159),
  (f_160, s_160),
  (f_161, s_161),
  (f_162, s_162),
  (f_163, s_163),
  (f_164, s_164),
  (f_165, s_165),
  (f_166, s_166),
  (f_167, s_167),
  (f_168, s_168),
  (f_169, s_169),
  (f_170, s_170),
  (f_171, s_171),
  (f_172, s_172),
  (f_173, s_173),
  (f_175, s_175),
  (f_176, s_176),
  (f_177, s_177),
  (f_178, s_178),
  (f_179, s_179),
  (f_180, s_180),
  (f_181, s_181),
  (f_182, s_182),
  (f_183, s_183),
  (f_184, s_184),
  (f_185, s_185),
  (f_201, s_201),
  (f_202, s_202),
  (f_203, s_203),
  (f_204, s_204),
  (f_205, s_205),
  (f_206, s_206),
  (f_207, s_207),
  (f_208, s_208),
  (f_209, s_209),
  (f_210, s_210),
  (f_211, s_211),
  (f_212, s_212),
  (f_213, s_213),
  (f_214, s_214),
  (f_215, s_215),
  (f_216, s_216)]

def awakeTab : List (Nat × SFun) := [(f_17, s_17)]

/-- the program's functions; of those that show the document's examples it is known that they answer true. -/
def env : Env := ⟨fun f => codeTab.lookup f, some ⟨f_111, f_139, [(.int .i64 0), (.bool false), (.slice none 0 0), (.bool false), (.slice none 0 0), (.slice none 0 0), (.slice none 0 0), (.slice none 0 0)], 4, 8⟩, [(f_17, .bool true)]⟩

/-- the program's functions, all of them. -/
def envA : Env := ⟨fun f => (awakeTab ++ codeTab).lookup f, some ⟨f_111, f_139, [(.int .i64 0), (.bool false), (.slice none 0 0), (.bool false), (.slice none 0 0), (.slice none 0 0), (.slice none 0 0), (.slice none 0 0)], 4, 8⟩, []⟩

theorem e_8 : env.code f_8 = some s_8 := rfl
theorem e_9 : env.code f_9 = some s_9 := rfl
theorem e_12 : env.code f_12 = some s_12 := rfl
theorem e_13 : env.code f_13 = some s_13 := rfl
theorem e_15 : env.code f_15 = some s_15 := rfl
theorem e_18 : env.code f_18 = some s_18 := rfl
theorem e_19 : env.code f_19 = some s_19 := rfl
theorem e_20 : env.code f_20 = some s_20 := rfl
theorem e_21 : env.code f_21 = some s_21 := rfl
theorem e_26 : env.code f_26 = some s_26 := rfl
theorem e_27 : env.code f_27 = some s_27 := rfl
theorem e_28 : env.code f_28 = some s_28 := rfl
theorem e_30 : env.code f_30 = some s_30 := rfl
theorem e_31 : env.code f_31 = some s_31 := rfl
theorem e_33 : env.code f_33 = some s_33 := rfl
theorem e_35 : env.code f_35 = some s_35 := rfl
theorem e_36 : env.code f_36 = some s_36 := rfl
theorem e_37 : env.code f_37 = some s_37 := rfl
theorem e_39 : env.code f_39 = some s_39 := rfl
theorem e_40 : env.code f_40 = some s_40 := rfl
theorem e_48 : env.code f_48 = some s_48 := rfl
theorem e_49 : env.code f_49 = some s_49 := rfl
theorem e_50 : env.code f_50 = some s_50 := rfl
theorem e_51 : env.code f_51 = some s_51 := rfl
theorem e_52 : env.code f_52 = some s_52 := rfl
theorem e_53 : env.code f_53 = some s_53 := rfl
theorem e_54 : env.code f_54 = some s_54 := rfl
theorem e_60 : env.code f_60 = some s_60 := rfl
theorem e_61 : env.code f_61 = some s_61 := rfl
theorem e_62 : env.code f_62 = some s_62 := rfl
theorem e_63 : env.code f_63 = some s_63 := rfl
theorem e_64 : env.code f_64 = some s_64 := rfl
theorem e_65 : env.code f_65 = some s_65 := rfl
theorem e_66 : env.code f_66 = some s_66 := rfl
theorem e_67 : env.code f_67 = some s_67 := rfl
theorem e_68 : env.code f_68 = some s_68 := rfl
theorem e_69 : env.code f_69 = some s_69 := rfl
theorem e_71 : env.code f_71 = some s_71 := rfl
theorem e_76 : env.code f_76 = some s_76 := rfl
theorem e_77 : env.code f_77 = some s_77 := rfl
theorem e_78 : env.code f_78 = some s_78 := rfl
theorem e_84 : env.code f_84 = some s_84 := rfl
theorem e_85 : env.code f_85 = some s_85 := rfl
theorem e_86 : env.code f_86 = some s_86 := rfl
theorem e_87 : env.code f_87 = some s_87 := rfl
theorem e_88 : env.code f_88 = some s_88 := rfl
theorem e_89 : env.code f_89 = some s_89 := rfl
theorem e_90 : env.code f_90 = some s_90 := rfl
theorem e_91 : env.code f_91 = some s_91 := rfl
theorem e_92 : env.code f_92 = some s_92 := rfl
theorem e_93 : env.code f_93 = some s_93 := rfl
theorem e_94 : env.code f_94 = some s_94 := rfl
theorem e_97 : env.code f_97 = some s_97 := rfl
theorem e_98 : env.code f_98 = some s_98 := rfl
theorem e_99 : env.code f_99 = some s_99 := rfl
theorem e_100 : env.code f_100 = some s_100 := rfl
theorem e_101 : env.code f_101 = some s_101 := rfl
theorem e_102 : env.code f_102 = some s_102 := rfl
theorem e_103 : env.code f_103 = some s_103 := rfl
theorem e_107 : env.code f_107 = some s_107 := rfl
theorem e_108 : env.code f_108 = some s_108 := rfl
theorem e_109 : env.code f_109 = some s_109 := rfl
theorem e_110 : env.code f_110 = some s_110 := rfl
theorem e_112 : env.code f_112 = some s_112 := rfl
theorem e_116 : env.code f_116 = some s_116 := rfl
theorem e_117 : env.code f_117 = some s_117 := rfl
theorem e_118 : env.code f_118 = some s_118 := rfl
theorem e_119 : env.code f_119 = some s_119 := rfl
theorem e_120 : env.code f_120 = some s_120 := rfl
theorem e_121 : env.code f_121 = some s_121 := rfl
theorem e_122 : env.code f_122 = some s_122 := rfl
theorem e_123 : env.code f_123 = some s_123 := rfl
theorem e_124 : env.code f_124 = some s_124 := rfl
theorem e_125 : env.code f_125 = some s_125 := rfl
theorem e_126 : env.code f_126 = some s_126 := rfl
theorem e_127 : env.code f_127 = some s_127 := rfl
theorem e_128 : env.code f_128 = some s_128 := rfl
theorem e_131 : env.code f_131 = some s_131 := rfl
theorem e_132 : env.code f_132 = some s_132 := rfl
theorem e_133 : env.code f_133 = some s_133 := rfl
theorem e_135 : env.code f_135 = some s_135 := rfl
theorem e_136 : env.code f_136 = some s_136 := rfl
theorem e_137 : env.code f_137 = some s_137 := rfl
theorem e_139 : env.code f_139 = some s_139 := rfl
theorem e_140 : env.code f_140 = some s_140 := rfl
theorem e_141 : env.code f_141 = some s_141 := rfl
theorem e_142 : env.code f_142 = some s_142 := rfl
theorem e_143 : env.code f_143 = some s_143 := rfl
theorem e_144 : env.code f_144 = some s_144 := rfl
theorem e_145 : env.code f_145 = some s_145 := rfl
theorem e_146 : env.code f_146 = some s_146 := rfl
theorem e_151 : env.code f_151 = some s_151 := rfl
theorem e_152 : env.code f_152 = some s_152 := rfl
theorem e_153 : env.code f_153 = some s_153 := rfl
theorem e_154 : env.code f_154 = some s_154 := rfl
theorem e_155 : env.code f_155 = some s_155 := rfl
theorem e_157 : env.code f_157 = some s_157 := rfl
theorem e_158 : env.code f_158 = some s_158 := rfl
theorem e_159 : env.code f_159 = some s_159 := rfl
theorem e_160 : env.code f_160 = some s_160 := rfl
theorem e_161 : env.code f_161 = some s_161 := rfl
theorem e_162 : env.code f_162 = some s_162 := rfl
theorem e_163 : env.code f_163 = some s_163 := rfl
theorem e_164 : env.code f_164 = some s_164 := rfl
theorem e_165 : env.code f_165 = some s_165 := rfl
theorem e_166 : env.code f_166 = some s_166 := rfl
theorem e_167 : env.code f_167 = some s_167 := rfl
theorem e_168 : env.code f_168 = some s_168 := rfl
theorem e_169 : env.code f_169 = some s_169 := rfl
theorem e_170 : env.code f_170 = some s_170 := rfl
theorem e_171 : env.code f_171 = some s_171 := rfl
theorem e_172 : env.code f_172 = some s_172 := rfl
theorem e_173 : env.code f_173 = some s_173 := rfl
theorem e_175 : env.code f_175 = some s_175 := rfl
theorem e_176 : env.code f_176 = some s_176 := rfl
theorem e_177 : env.code f_177 = some s_177 := rfl
theorem e_178 : env.code f_178 = some s_178 := rfl
theorem e_179 : env.code f_179 = some s_179 := rfl
theorem e_180 : env.code f_180 = some s_180 := rfl
theorem e_181 : env.code f_181 = some s_181 := rfl
theorem e_182 : env.code f_182 = some s_182 := rfl
theorem e_183 : env.code f_183 = some s_183 := rfl
theorem e_184 : env.code f_184 = some s_184 := rfl
theorem e_185 : env.code f_185 = some s_185 := rfl
theorem e_201 : env.code f_201 = some s_201 := rfl
theorem e_202 : env.code f_202 = some s_202 := rfl
theorem e_203 : env.code f_203 = some s_203 := rfl
theorem e_204 : env.code f_204 = some s_204 := rfl
theorem e_205 : env.code f_205 = some s_205 := rfl
theorem e_206 : env.code f_206 = some s_206 := rfl
theorem e_207 : env.code f_207 = some s_207 := rfl
theorem e_208 : env.code f_208 = some s_208 := rfl
theorem e_209 : env.code f_209 = some s_209 := rfl
theorem e_210 : env.code f_210 = some s_210 := rfl
theorem e_211 : env.code f_211 = some s_211 := rfl
theorem e_212 : env.code f_212 = some s_212 := rfl
theorem e_213 : env.code f_213 = some s_213 := rfl
theorem e_214 : env.code f_214 = some s_214 := rfl
theorem e_215 : env.code f_215 = some s_215 := rfl
theorem e_216 : env.code f_216 = some s_216 := rfl
theorem e_17 : envA.code f_17 = some s_17 := rfl

end Go.Proofs.YtjlohmnnldbjoaaGreat.AI

/- Slices of whole numbers, numbers, quotients in the abstract heap; functions that leave alone what was there. -/
namespace Go.Proofs.YtjlohmnnldbjoaaGreat.AI
open Go

variable {E : Env} {fl : Nat} {t : Tmps} {H G : Heap} {K : PostV} {R : PostP}

/-- A slice of n elements of sz cells each. -/
def Sl (H : Heap) (e sz : Nat) (v : Value) (n : Nat) (cs : List Value) : Prop :=
  cs.length = n * sz ∧ ((v = .slice none 0 0 ∧ n = 0) ∨
    ∃ b off cap ro cells, v = .slice (some ⟨b, off, none⟩) n cap ∧ H.blk b = .row ro e cells ∧ off + n * sz ≤ cells.length ∧ cs = (cells.drop off).take (n * sz))

variable {e sz n : Nat} {v : Value} {cs : List Value}

theorem Sl.mono (h : Sl H e sz v n cs) (hx : Ext H G) : Sl G e sz v n cs := by
  obtain ⟨hl, h⟩ := h
  refine ⟨hl, ?_⟩
  rcases h with h | ⟨b, off, cap, ro, cells, h1, h2, h3, h4⟩
  · exact .inl h
  · exact .inr ⟨b, off, cap, ro, cells, h1, hx.blk h2, h3, h4⟩

theorem Sl.nil : Sl H e sz (.slice none 0 0) 0 [] := ⟨by simp, .inl ⟨rfl, rfl⟩⟩

theorem Sl.slen (h : Sl H e sz v n cs) : slenV v = some (.int .i64 n) := by
  obtain ⟨_, ⟨rfl, rfl⟩ | ⟨b, off, cap, ro, cells, rfl, _⟩⟩ := h <;> simp [slenV]

theorem Sl.ia (h : Sl H e sz v n cs) {k : IntKind} {j : Nat} (hj : j < n) : iaV sz v (.int k j) = some (adr sz v j) := by
  obtain ⟨_, ⟨rfl, rfl⟩ | ⟨b, off, cap, ro, cells, rfl, _⟩⟩ := h
  · omega
  · simp only [iaV, adr]; rw [if_pos (by omega)]; simp

theorem Sl.iaZ (h : Sl H e sz v n cs) {k : IntKind} {z : Int} (h0 : 0 ≤ z) (hj : z < n) : iaV sz v (.int k z) = some (adr sz v z.toNat) := by
  have := h.ia (k := k) (j := z.toNat) (by omega)
  rwa [Int.toNat_of_nonneg h0] at this

theorem Sl.load (h : Sl H e sz v n cs) (hx : Ext H G) {j : Nat} (hj : j < n) (hs : 0 < sz) : loadA G true sz (adr sz v j) = some (.agg ((cs.drop (j * sz)).take sz).toArray) := by
  obtain ⟨hl, ⟨rfl, rfl⟩ | ⟨b, off, cap, ro, cells, rfl, hb, ho, rfl⟩⟩ := h
  · omega
  · have hj2 : (j + 1) * sz ≤ n * sz := Nat.mul_le_mul_right sz hj
    rw [Nat.add_mul, Nat.one_mul] at hj2
    have hc := cells_of (off := off + j * sz) (n := sz) (hx.blk hb) (by omega)
    simp only [adr, loadA]
    rw [if_neg (by omega), if_neg (by simp)]
    simp only [if_true, hc]
    rw [List.drop_take, List.take_take, List.drop_drop, Nat.min_eq_left (by omega)]

theorem Sl.load1 (h : Sl H e 1 v n cs) (hx : Ext H G) {j : Nat} (hj : j < n) : loadA G false 1 (adr 1 v j) = some (cs.getD j undef) := by
  obtain ⟨hl, ⟨rfl, rfl⟩ | ⟨b, off, cap, ro, cells, rfl, hb, ho, rfl⟩⟩ := h
  · omega
  · have hc := cells_of (off := off + j * 1) (n := 1) (hx.blk hb) (by omega)
    simp only [adr, loadA]
    rw [if_neg (by simp), if_neg (by simp)]
    simp only [hc, Bool.false_eq_true, if_false]
    rw [List.head?_take, if_neg (by simp), List.head?_drop, List.getD_eq_getElem?_getD, List.getElem?_take, if_pos (by omega), List.getElem?_drop]
    simp only [Nat.mul_one] at ho ⊢
    rw [List.getElem?_eq_getElem (by omega)]
    rfl

theorem Sl.elemOk (h : Sl H e sz v n cs) {G : Heap} (hx : Ext H G) : AI.elemOk G e v = true := by
  obtain ⟨hl, ⟨rfl, rfl⟩ | ⟨b, off, cap, ro, cells, rfl, hb, ho, rfl⟩⟩ := h
  · rfl
  · unfold AI.elemOk
    simp only [hx.blk hb]
    cases ro <;> simp
theorem Sl.cells (h : Sl H e sz v n cs) : cellsL v = [v] := by
  obtain ⟨hl, ⟨rfl, rfl⟩ | ⟨b, off, cap, ro, cells, rfl, hb, ho, rfl⟩⟩ := h <;> rfl
theorem Sl.plain (h : Sl H e sz v n cs) : plainCell v = true := by
  obtain ⟨hl, ⟨rfl, rfl⟩ | ⟨b, off, cap, ro, cells, rfl, hb, ho, rfl⟩⟩ := h <;> rfl
/-- a part of a slice. -/
theorem Sl.slice (h : Sl H e sz v n cs) {lo hi : Nat} (h1 : lo ≤ hi) (h2 : hi ≤ n) {x y : Option Value} (hx : bnd 0 x = some lo) (hy : bnd n y = some hi) :
    ∃ v', sliceA sz v x y none = some v' ∧ Sl H e sz v' (hi - lo) ((cs.drop (lo * sz)).take ((hi - lo) * sz)) := by
  obtain ⟨hl, ⟨rfl, rfl⟩ | ⟨b, off, cap, ro, cells, rfl, hb, ho, rfl⟩⟩ := h
  · have : lo = 0 := by omega
    have : hi = 0 := by omega
    subst lo hi
    refine ⟨.slice none 0 0, ?_, by simp, .inl ⟨rfl, rfl⟩⟩
    unfold sliceA; simp [hx, hy]; intro h; exact absurd h (by decide)
  · refine ⟨_, by unfold sliceA; simp only [hx, hy]; rw [if_pos ⟨h1, h2⟩]; rfl, ?_, .inr ⟨b, off + lo * sz, _, ro, cells, rfl, hb, ?_, ?_⟩⟩
    · simp only [List.length_take, List.length_drop]
      have e1 : (hi - lo) * sz + lo * sz = hi * sz := by rw [← Nat.add_mul]; congr 1; omega
      have e2 : hi * sz ≤ n * sz := Nat.mul_le_mul_right sz h2
      omega
    · have e1 : (hi - lo) * sz + lo * sz = hi * sz := by rw [← Nat.add_mul]; congr 1; omega
      have e2 : hi * sz ≤ n * sz := Nat.mul_le_mul_right sz h2
      omega
    · have e1 : (hi - lo) * sz + lo * sz = hi * sz := by rw [← Nat.add_mul]; congr 1; omega
      have e2 : hi * sz ≤ n * sz := Nat.mul_le_mul_right sz h2
      rw [List.drop_take, List.take_take, List.drop_drop, Nat.min_eq_left (by omega)]

/-- a block of another kind may be written. -/
theorem Sl.setT (h : Sl H e sz v n cs) {p : Nat} {ro : Bool} {e' : TypeId} {cs' : List Value} {r : Blk} (hb : H.blk p = .row ro e' cs') (hne : e' ≠ e) : Sl (H.setIfInBounds p r) e sz v n cs := by
  obtain ⟨hl, h | ⟨b, off, cap, ro, cells, rfl, hb', ho, rfl⟩⟩ := h
  · exact ⟨hl, .inl h⟩
  · refine ⟨hl, .inr ⟨b, off, cap, ro, cells, rfl, ?_, ho, rfl⟩⟩
    rw [blk_set_ne]; exact hb'
    rintro rfl
    rw [hb'] at hb; cases hb; exact hne rfl

/-! ### limbs -/
def u32s (l : List Nat) : List Value := l.map fun x => .int .u32 (x : Nat)
@[simp] theorem length_u32s {l : List Nat} : (u32s l).length = l.length := by simp [u32s]

/-- v is a slice of the limbs l. -/
def Lim (H : Heap) (v : Value) (l : List Nat) : Prop := Sl H T_uint32 1 v l.length (u32s l) ∧ ∀ x ∈ l, x < 4294967296

variable {l : List Nat}
theorem Lim.mono (h : Lim H v l) (hx : Ext H G) : Lim G v l := ⟨h.1.mono hx, h.2⟩
theorem Lim.nil : Lim H (.slice none 0 0) [] := ⟨Sl.nil, by simp⟩
theorem Lim.slen (h : Lim H v l) : slenV v = some (.int .i64 l.length) := h.1.slen
theorem Lim.ia (h : Lim H v l) {k : IntKind} {j : Nat} (hj : j < l.length) : iaV 1 v (.int k j) = some (adr 1 v j) := h.1.ia hj
theorem Lim.iaZ (h : Lim H v l) {k : IntKind} {z : Int} (h0 : 0 ≤ z) (hj : z < l.length) : iaV 1 v (.int k z) = some (adr 1 v z.toNat) := h.1.iaZ h0 hj
theorem Lim.load (h : Lim H v l) {j : Nat} (hj : j < l.length) {G : Heap} (hx : Ext H G) : loadA G false 1 (adr 1 v j) = some (.int .u32 (l.getD j 0)) := by
  rw [h.1.load1 hx hj]
  simp [u32s, List.getD_eq_getElem?_getD, List.getElem?_map, hj]

theorem Lim.setT (h : Lim H v l) {p : Nat} {ro : Bool} {e' : TypeId} {cs' : List Value} {r : Blk} (hb : H.blk p = .row ro e' cs') (hne : e' ≠ T_uint32) : Lim (H.setIfInBounds p r) v l := ⟨h.1.setT hb hne, h.2⟩
theorem Lim.elemOk (h : Lim H v l) {G : Heap} (hx : Ext H G) : AI.elemOk G T_uint32 v = true := h.1.elemOk hx
theorem Lim.cells (h : Lim H v l) : cellsL v = [v] := h.1.cells
theorem Lim.plain (h : Lim H v l) : plainCell v = true := h.1.plain
theorem Lim.take (h : Lim H v l) {k : Nat} (hk : k ≤ l.length) {x : Option Value} (hx : bnd 0 x = some 0) {y : Option Value} (hy : bnd l.length y = some k) : ∃ v', sliceA 1 v x y none = some v' ∧ Lim H v' (l.take k) := by
  obtain ⟨v', h1, h2⟩ := h.1.slice (Nat.zero_le k) hk hx hy
  refine ⟨v', h1, ?_, fun x hx => h.2 x (List.mem_of_mem_take hx)⟩
  have : (l.take k).length = k := by simp; omega
  rw [this]
  simpa [u32s, List.map_take] using h2

/-- a number as it lies: its sign, its limbs. -/
def IntV (H : Heap) (v : Value) (i : Bool × List Nat) : Prop := ∃ s, v = .agg #[.bool i.1, s] ∧ Lim H s i.2
theorem IntV.mono {i : Bool × List Nat} (h : IntV H v i) (hx : Ext H G) : IntV G v i := by obtain ⟨s, h1, h2⟩ := h; exact ⟨s, h1, h2.mono hx⟩

/-! ### cells of one's own -/
def rd : Blk → Nat → Option Value
  | .row _ _ cs, o => cs[o]?
  | .dead, _ => none
def rdn : Blk → Nat → Nat → Option Value
  | .row _ _ cs, o, n => if o + n ≤ cs.length then some (.agg ((cs.drop o).take n).toArray) else none
  | .dead, _, _ => none
@[simp] theorem rd_row {ro : Bool} {e : TypeId} {cs : List Value} {o : Nat} : rd (.row ro e cs) o = cs[o]? := nr rfl
@[simp] theorem rdn_row {ro : Bool} {e : TypeId} {cs : List Value} {o n : Nat} : rdn (.row ro e cs) o n = if o + n ≤ cs.length then some (.agg ((cs.drop o).take n).toArray) else none := nr rfl
theorem loadA_ptr {b o : Nat} : loadA G false 1 (.pointer (some ⟨b, o, none⟩)) = rd (G.blk b) o := by
  simp only [loadA]
  rw [if_neg (by simp), if_neg (by simp)]
  unfold Heap.cells?
  cases G.blk b with
  | dead => rfl
  | row ro e cs =>
    simp only [Bool.false_eq_true, if_false, rd]
    by_cases h : o + 1 ≤ cs.length
    · rw [if_pos h]; simp only [List.head?_take]; rw [if_neg (by simp), List.head?_drop]
    · rw [if_neg h, List.getElem?_eq_none (by omega)]
theorem loadA_ptrs {b o n : Nat} (hn : 0 < n) : loadA G true n (.pointer (some ⟨b, o, none⟩)) = rdn (G.blk b) o n := by
  simp only [loadA]
  rw [if_neg (by omega), if_neg (by simp)]
  unfold Heap.cells?
  cases G.blk b with
  | dead => rfl
  | row ro e cs =>
    simp only [if_true, rdn]
    split <;> simp_all
def wr (G : Heap) (b o : Nat) (vs : List Value) : Blk → Option Heap
  | .row false e cs => if o + vs.length ≤ cs.length then some (G.setIfInBounds b (.row false e (writeL cs o vs))) else none
  | _ => none
@[simp] theorem wr_row {b o : Nat} {vs : List Value} {e : TypeId} {cs : List Value} : wr G b o vs (.row false e cs) = if o + vs.length ≤ cs.length then some (G.setIfInBounds b (.row false e (writeL cs o vs))) else none := nr rfl
theorem storeV_ptr {b o n : Nat} {x : Value} (hf : fl ≤ b) (hl : (cellsL x).length = n) (hp : (cellsL x).all plainCell = true) :
    storeV fl G n (.pointer (some ⟨b, o, none⟩)) x = wr G b o (cellsL x) (G.blk b) := by
  simp only [storeV]
  rw [if_neg (by simp [hl])]
  unfold Heap.write? wr
  split
  · rename_i h; simp only [h]; split <;> simp_all
  · rename_i h; split <;> simp_all
theorem load_cell {b o : Nat} {ro : Bool} {e : TypeId} {cs : List Value} (h : G.blk b = .row ro e cs) (ho : o < cs.length) : loadA G false 1 (.pointer (some ⟨b, o, none⟩)) = some (cs.getD o undef) := by
  have hc := cells_of (off := o) (n := 1) h (by omega)
  simp only [loadA]
  rw [if_neg (by simp), if_neg (by simp)]
  simp only [hc, Bool.false_eq_true, if_false]
  rw [List.head?_take, if_neg (by simp), List.head?_drop, List.getD_eq_getElem?_getD]
  rw [List.getElem?_eq_getElem ho]; simp
theorem load_cells {b o n : Nat} {ro : Bool} {e : TypeId} {cs : List Value} (h : G.blk b = .row ro e cs) (ho : o + n ≤ cs.length) (hn : 0 < n) : loadA G true n (.pointer (some ⟨b, o, none⟩)) = some (.agg ((cs.drop o).take n).toArray) := by
  have hc := cells_of (off := o) (n := n) h ho
  simp only [loadA]
  rw [if_neg (by omega), if_neg (by simp)]
  simp only [hc, if_true]
theorem store_cells {b o n : Nat} {e : TypeId} {cs : List Value} {x : Value} (h : G.blk b = .row false e cs) (hf : fl ≤ b) (hl : (cellsL x).length = n) (ho : o + n ≤ cs.length) (hp : (cellsL x).all plainCell = true) :
    storeV fl G n (.pointer (some ⟨b, o, none⟩)) x = some (G.setIfInBounds b (.row false e (writeL cs o (cellsL x)))) := by
  simp only [storeV]
  rw [if_neg (by simp [hl])]
  unfold Heap.write?
  simp only [h]
  rw [if_pos ⟨hf, by omega, hp⟩]

theorem wrap64 {x : Int} (h1 : -9223372036854775808 ≤ x) (h2 : x < 9223372036854775808) : IntKind.i64.wrap x = x := by
  show (if (true && decide (x % (2 ^ 64 : Int) ≥ (2 ^ 63 : Int))) = true then x % (2 ^ 64 : Int) - (2 ^ 64 : Int) else x % (2 ^ 64 : Int)) = x
  rw [show (2 ^ 64 : Int) = 18446744073709551616 from rfl, show (2 ^ 63 : Int) = 9223372036854775808 from rfl]
  simp only [Bool.true_and, decide_eq_true_eq]
  split <;> omega
theorem wrapu64 {x : Int} : IntKind.u64.wrap x = x % 18446744073709551616 := by
  simp [IntKind.wrap, IntKind.bits, IntKind.signed]
theorem wrapu32 {x : Int} : IntKind.u32.wrap x = x % 4294967296 := by
  simp [IntKind.wrap, IntKind.bits, IntKind.signed]

/-- what a function's results come to. -/
def resP (H : Heap) (t : Tmps) (rs : List SRes) (P : Value → Prop) : Prop := ∃ vs, resAll H t rs = some vs ∧ P (packRes vs)
theorem resP_tmp {a : Nat} {P : Value → Prop} : resP H t [.tmp a] P = P (get t a) := by simp [resP, resAll, resA, packRes]
theorem resP_cell {a n : Nat} {g : Bool} {P : Value → Prop} : resP H t [.cell a g n] P = oo (loadA H g n (get t a)) P := by
  unfold resP; simp only [resAll, resA]; cases loadA H g n (get t a) <;> simp [packRes]
theorem resP_two {r1 r2 : SRes} {P : Value → Prop} : resP H t [r1, r2] P = oo (resA H t r1) fun a => oo (resA H t r2) fun b => P (.tuple #[a, b]) := by
  unfold resP; simp only [resAll]; cases resA H t r1 <;> cases resA H t r2 <;> simp [packRes]
theorem resP_three {r1 r2 r3 : SRes} {P : Value → Prop} : resP H t [r1, r2, r3] P = oo (resA H t r1) fun a => oo (resA H t r2) fun b => oo (resA H t r3) fun c => P (.tuple #[a, b, c]) := by
  unfold resP; simp only [resAll]; cases resA H t r1 <;> cases resA H t r2 <;> cases resA H t r3 <;> simp [packRes]
theorem resA_tmp {a : Nat} : resA H t (.tmp a) = some (get t a) := nr rfl
theorem resA_cell {a n : Nat} {g : Bool} : resA H t (.cell a g n) = loadA H g n (get t a) := nr rfl

/-- where a function's body ends. -/
def endQ (P : Tmps → Heap → Prop) : PostX
  | .exit _, _, _ => False
  | .normal, t, H => P t H
  | .ret, t, H => P t H
@[simp] theorem endQ_normal {P : Tmps → Heap → Prop} : endQ P .normal t H = P t H := nr rfl
@[simp] theorem endQ_ret {P : Tmps → Heap → Prop} : endQ P .ret t H = P t H := nr rfl

/-- of a function that writes to nothing that was there. -/
theorem does_ext {f : FuncId} {args : List Value} {sf : SFun} (hc : E.code f = some sf) (hf : fl ≤ H.size) (hl : args.length = sf.np := by rfl) (hnt : args.length ≤ sf.nt := by exact of_decide_eq_true rfl)
    (h : ∀ ρ : Nat → Value, (∀ i, ρ i = args.getD i undef) → W E H.size sf.body (T sf.nt ρ) H (endQ (fun t' H' => resP H' t' sf.res fun v => Ext H H' → K v H')) R) :
    Does E fl f args H (fun v H' => K v H' ∧ Ext H H') R := by
  have h1 := (does_fun (K := fun v H' => Ext H H' → K v H') hc hl hnt (fun t h1 h2 => by
    have h3 := h (get t) h2
    rw [← T_get h1] at h3
    refine h3.mono fun e t' H' hq => ?_
    cases e with
    | exit i => exact absurd hq id
    | normal => exact ⟨trivial, hq⟩
    | ret => exact ⟨trivial, hq⟩)).keep (Nat.le_refl _)
  exact (h1.mono fun v H' hh => ⟨hh.1 hh.2.ext, hh.2.ext⟩).floor hf

end Go.Proofs.YtjlohmnnldbjoaaGreat.AI

/- The set of rules that simp runs code by. -/
namespace Go.Proofs.YtjlohmnnldbjoaaGreat.AI
open Go

section
variable {k : IntKind} {a b : Int} {tag : Nat}
@[simp] theorem binA_add : binA tag .add (.int k a) (.int k b) = some (.int k (k.wrap (a + b))) := by unfold binA; simp
@[simp] theorem binA_sub : binA tag .sub (.int k a) (.int k b) = some (.int k (k.wrap (a - b))) := by unfold binA; simp
@[simp] theorem binA_mul : binA tag .mul (.int k a) (.int k b) = some (.int k (k.wrap (a * b))) := by unfold binA; simp
theorem binA_quo (h : b ≠ 0) : binA tag .quo (.int k a) (.int k b) = some (.int k (k.wrap (a.tdiv b))) := by unfold binA; simp [h]
theorem binA_rem (h : b ≠ 0) : binA tag .rem (.int k a) (.int k b) = some (.int k (a.tmod b)) := by unfold binA; simp [h]
@[simp] theorem binA_and : binA tag .and (.int k a) (.int k b) = some (.int k (k.wrap (BitVec.ofInt k.bits a &&& BitVec.ofInt k.bits b).toNat)) := by unfold binA; simp
@[simp] theorem binA_or : binA tag .or (.int k a) (.int k b) = some (.int k (k.wrap (BitVec.ofInt k.bits a ||| BitVec.ofInt k.bits b).toNat)) := by unfold binA; simp
@[simp] theorem binA_eql : binA tag .eql (.int k a) (.int k b) = some (.bool (a == b)) := by unfold binA; simp
@[simp] theorem binA_neq : binA tag .neq (.int k a) (.int k b) = some (.bool (a != b)) := by unfold binA; simp
@[simp] theorem binA_lss : binA tag .lss (.int k a) (.int k b) = some (.bool (decide (a < b))) := by unfold binA; simp
@[simp] theorem binA_leq : binA tag .leq (.int k a) (.int k b) = some (.bool (decide (a ≤ b))) := by unfold binA; simp
@[simp] theorem binA_gtr : binA tag .gtr (.int k a) (.int k b) = some (.bool (decide (a > b))) := by unfold binA; simp
@[simp] theorem binA_geq : binA tag .geq (.int k a) (.int k b) = some (.bool (decide (a ≥ b))) := by unfold binA; simp
@[simp] theorem binA_eqlB {x y : Bool} : binA 1 .eql (.bool x) (.bool y) = some (.bool (x == y)) := by unfold binA; simp
@[simp] theorem binA_neqB {x y : Bool} : binA 1 .neq (.bool x) (.bool y) = some (.bool (x != y)) := by unfold binA; simp
@[simp] theorem binA_eqlS {x : Option Addr} {n c n2 c2 : Nat} : binA 2 .eql (.slice x n c) (.slice none n2 c2) = some (.bool x.isNone) := nr rfl
@[simp] theorem binA_neqS {x : Option Addr} {n c n2 c2 : Nat} : binA 2 .neq (.slice x n c) (.slice none n2 c2) = some (.bool x.isSome) := nr rfl
theorem binA_shl {k' : IntKind} (h : 0 ≤ b) : binA tag .shl (.int k a) (.int k' b) = some (.int k (k.wrap (a * 2 ^ (min b.toNat k.bits)))) := by unfold binA; simp [h]
theorem binA_shr {k' : IntKind} (h : 0 ≤ b) : binA tag .shr (.int k a) (.int k' b) = some (.int k (a.fdiv (2 ^ (min b.toNat k.bits)))) := by unfold binA; simp [h]
theorem fdivN {n m : Nat} : ((n : Int).fdiv (m : Int)) = ((n / m : Nat) : Int) := by
  rw [Int.fdiv_eq_ediv_of_nonneg _ (by omega)]; rfl
@[simp] theorem shr32 {n : Nat} {k' : IntKind} : binA tag .shr (.int .u64 (n : Int)) (.int k' 32) = some (.int .u64 ((n / 4294967296 : Nat) : Int)) := by
  rw [binA_shr (by omega)]; exact congrArg (fun x => some (Value.int .u64 x)) (fdivN (n := n) (m := 4294967296))
@[simp] theorem shr63 {n : Nat} {k' : IntKind} : binA tag .shr (.int .u64 (n : Int)) (.int k' 63) = some (.int .u64 ((n / 9223372036854775808 : Nat) : Int)) := by
  rw [binA_shr (by omega)]; exact congrArg (fun x => some (Value.int .u64 x)) (fdivN (n := n) (m := 9223372036854775808))
@[simp] theorem unA_neg : unA .neg (.int k a) = some (.int k (k.wrap (0 - a))) := nr rfl
@[simp] theorem unA_not {x : Bool} : unA .not (.bool x) = some (.bool !x) := nr rfl
end

@[simp] theorem cast_beq {a b : Nat} : ((a : Int) == (b : Int)) = (a == b) := by
  rw [Bool.eq_iff_iff, beq_iff_eq, beq_iff_eq]; omega
@[simp] theorem cast_bne {a b : Nat} : ((a : Int) != (b : Int)) = (a != b) := by simp only [bne, cast_beq]
@[simp] theorem cast_beq0 {a : Nat} : ((a : Int) == 0) = (a == 0) := by
  rw [Bool.eq_iff_iff, beq_iff_eq, beq_iff_eq]; omega
@[simp] theorem cast_bne0 {a : Nat} : ((a : Int) != 0) = (a != 0) := by simp only [bne, cast_beq0]

@[simp] theorem cells_agg {a : Array Value} : cellsL (.agg a) = a.toList := nr rfl
@[simp] theorem cells_int {k : IntKind} {n : Int} : cellsL (.int k n) = [.int k n] := nr rfl
@[simp] theorem cells_bool {b : Bool} : cellsL (.bool b) = [.bool b] := nr rfl
@[simp] theorem cells_slice {a : Option Addr} {n c : Nat} : cellsL (.slice a n c) = [.slice a n c] := nr rfl
@[simp] theorem cells_ptr {a : Option Addr} : cellsL (.pointer a) = [.pointer a] := nr rfl
@[simp] theorem plain_int {k : IntKind} {n : Int} : plainCell (.int k n) = true := nr rfl
@[simp] theorem plain_bool {b : Bool} : plainCell (.bool b) = true := nr rfl
@[simp] theorem plain_slice {a : Option Addr} {n c : Nat} : plainCell (.slice a n c) = true := nr rfl
@[simp] theorem plain_ptr {a : Option Addr} : plainCell (.pointer a) = true := nr rfl
@[simp] theorem bnd_none {d : Nat} : bnd d none = some d := nr rfl
@[simp] theorem bnd_int {d n : Nat} {k : IntKind} : bnd d (some (.int k (n : Int))) = some n := by simp [bnd]
@[simp] theorem add_2 {n : Nat} : n + 1 + 1 = n + 2 := by omega
@[simp] theorem add_3 {n : Nat} : n + 2 + 1 = n + 3 := by omega
@[simp] theorem add_4 {n : Nat} : n + 3 + 1 = n + 4 := by omega
@[simp] theorem add_5 {n : Nat} : n + 4 + 1 = n + 5 := by omega
@[simp] theorem add_6 {n : Nat} : n + 5 + 1 = n + 6 := by omega
@[simp] theorem add_1_2 {n : Nat} : n + 1 + 2 = n + 3 := by omega
@[simp] theorem add_1_3 {n : Nat} : n + 1 + 3 = n + 4 := by omega
@[simp] theorem add_1_4 {n : Nat} : n + 1 + 4 = n + 5 := by omega
@[simp] theorem add_1_5 {n : Nat} : n + 1 + 5 = n + 6 := by omega
@[simp] theorem add_1_6 {n : Nat} : n + 1 + 6 = n + 7 := by omega
@[simp] theorem add_2_2 {n : Nat} : n + 2 + 2 = n + 4 := by omega
@[simp] theorem add_2_3 {n : Nat} : n + 2 + 3 = n + 5 := by omega
@[simp] theorem add_2_4 {n : Nat} : n + 2 + 4 = n + 6 := by omega
@[simp] theorem add_2_5 {n : Nat} : n + 2 + 5 = n + 7 := by omega
@[simp] theorem add_2_6 {n : Nat} : n + 2 + 6 = n + 8 := by omega
@[simp] theorem add_3_2 {n : Nat} : n + 3 + 2 = n + 5 := by omega
@[simp] theorem add_3_3 {n : Nat} : n + 3 + 3 = n + 6 := by omega
@[simp] theorem add_3_4 {n : Nat} : n + 3 + 4 = n + 7 := by omega
@[simp] theorem add_3_5 {n : Nat} : n + 3 + 5 = n + 8 := by omega
@[simp] theorem add_3_6 {n : Nat} : n + 3 + 6 = n + 9 := by omega
@[simp] theorem add_4_2 {n : Nat} : n + 4 + 2 = n + 6 := by omega
@[simp] theorem add_4_3 {n : Nat} : n + 4 + 3 = n + 7 := by omega
@[simp] theorem add_4_4 {n : Nat} : n + 4 + 4 = n + 8 := by omega
@[simp] theorem add_4_5 {n : Nat} : n + 4 + 5 = n + 9 := by omega
@[simp] theorem add_4_6 {n : Nat} : n + 4 + 6 = n + 10 := by omega
@[simp] theorem add_5_2 {n : Nat} : n + 5 + 2 = n + 7 := by omega
@[simp] theorem add_5_3 {n : Nat} : n + 5 + 3 = n + 8 := by omega
@[simp] theorem add_5_4 {n : Nat} : n + 5 + 4 = n + 9 := by omega
@[simp] theorem add_5_5 {n : Nat} : n + 5 + 5 = n + 10 := by omega
@[simp] theorem add_5_6 {n : Nat} : n + 5 + 6 = n + 11 := by omega
@[simp] theorem add_6_1 {n : Nat} : n + 6 + 1 = n + 7 := by omega
@[simp] theorem add_6_2 {n : Nat} : n + 6 + 2 = n + 8 := by omega
@[simp] theorem add_6_3 {n : Nat} : n + 6 + 3 = n + 9 := by omega
@[simp] theorem add_6_4 {n : Nat} : n + 6 + 4 = n + 10 := by omega
@[simp] theorem add_6_5 {n : Nat} : n + 6 + 5 = n + 11 := by omega
@[simp] theorem add_6_6 {n : Nat} : n + 6 + 6 = n + 12 := by omega
def wantB (w : Bool) : Value → Bool
  | .bool b => b == w
  | _ => false
@[simp] theorem wantB_bool {w b : Bool} : wantB w (.bool b) = (b == w) := nr rfl
@[simp ↓] theorem WR_g {E : Env} {fl : Nat} {t : Tmps} {H : Heap} {R : PostP} {d : Option Nat} {op : SOp} {r : List SOper} {Z : Tmps → Heap → Prop} {j : Nat} {w : Bool} :
    WR E fl (⟨d, some (j, w), op⟩ :: r) t H Z R = if wantB w (get t j) = true then WS E fl t H op (fun v H' => WR E fl r (put t d v) H' Z R) R else WR E fl r (put t d undef) H Z R := by
  have h : isWanted t (some (j, w)) = wantB w (get t j) := by
    simp only [isWanted]
    generalize get t j = v
    cases v <;> rfl
  show (if isWanted t (some (j, w)) = true then _ else _) = _
  rw [h]

attribute [simp ↓] WS_mv WS_pick WS_bin WS_un WS_conv WS_len WS_ia WS_ext WS_fa WS_fld WS_iface WS_mkfn WS_build WS_load WS_mnx WS_sl WS_alloc WS_box WS_lit WS_mk WS_store WS_app WS_call WR_nil WR_cons
attribute [simp ↓] We_seq We_skip We_exit We_ret We_cond We_block We_reg
attribute [simp] resP_tmp resP_cell resP_two resP_three resA_tmp resA_cell storeV_ptr blk_set_self blk_set_ne
attribute [simp] put_T get_Ti upd_app
attribute [simp] blk_push_self blk_push_lt loadA_ptr loadA_ptrs Ext.refl Ext.push Ext.set fillL evParts repl writeL
attribute [simp low] blk_push
attribute [congr] WR_congr Does_congr W_congr WS_congr oo_congr

/-- what is so where a loop's body ends. -/
def loopQ (i : Nat) (A M : Tmps → Heap → Prop) (Q : PostX) : PostX
  | .normal, t, H => A t H
  | .exit j, t, H => if j = i then M t H else Q (.exit j) t H
  | .ret, t, H => Q .ret t H
section
variable {E : Env} {fl : Nat} {t : Tmps} {H : Heap} {Q : PostX} {R : PostP}
@[simp] theorem loopQ_normal {i : Nat} {A M : Tmps → Heap → Prop} : loopQ i A M Q .normal t H = A t H := nr rfl
@[simp] theorem loopQ_exit {i j : Nat} {A M : Tmps → Heap → Prop} : loopQ i A M Q (.exit j) t H = if j = i then M t H else Q (.exit j) t H := nr rfl
@[simp] theorem loopQ_ret {i : Nat} {A M : Tmps → Heap → Prop} : loopQ i A M Q .ret t H = Q .ret t H := nr rfl
/-- what holds in the middle. -/
theorem W_mid {a : SCode} {Z : Tmps → Heap → Prop} (M : Tmps → Heap → Prop) (h : W E fl a t H (thenW M Q) R) (hz : ∀ t H, M t H → Z t H) : W E fl a t H (thenW Z Q) R := by
  refine h.mono fun e t' H' hq => ?_
  cases e with
  | normal => exact hz _ _ hq
  | exit i => exact hq
  | ret => exact hq
/-- a loop, what holds whenever it begins anew, what holds behind it. -/
theorem W_loopM {c : SCode} {i : Nat} {Z : Tmps → Heap → Prop} (I : Nat → Tmps → Heap → Prop) (M : Tmps → Heap → Prop) (k : Nat) (hI : I k t H)
    (step : ∀ k t H, I k t H → W E fl c t H (loopQ i (fun t' H' => ∃ k', k' < k ∧ I k' t' H') M Q) R)
    (rest : ∀ t H, M t H → Z t H) : W E fl (.loop c) t H (blockW i (thenW Z Q)) R := by
  refine W_loop I (fun k t H h => (step k t H h).mono fun e t' H' hq => ?_) k hI
  cases e with
  | normal => exact hq
  | ret => exact hq
  | exit j =>
    simp only [loopQ] at hq
    simp only [thenW, blockW]
    split
    · rename_i hj; rw [if_pos hj] at hq; exact rest _ _ hq
    · rename_i hj; rw [if_neg hj] at hq; exact hq
end

end Go.Proofs.YtjlohmnnldbjoaaGreat.AI

/- Slices that a function may write: append, make. -/
namespace Go.Proofs.YtjlohmnnldbjoaaGreat.AI
open Go

variable {fl : Nat} {H G : Heap} {e e2 sz n m bytes : Nat} {s x : Value} {cs new : List Value}

/-- the block that a slice lies in. -/
def slB : Value → Option Nat
  | .slice (some p) _ _ => some p.block
  | _ => none

/-- a slice that is all of a block of one's own. -/
def Own (fl : Nat) (H : Heap) (e sz : Nat) (v : Value) (n : Nat) (cs : List Value) : Prop :=
  cs.length = n * sz ∧ ((v = .slice none 0 0 ∧ n = 0) ∨ ∃ b cap, v = .slice (some ⟨b, 0, none⟩) n cap ∧ H.blk b = .row false e cs ∧ fl ≤ b)

theorem Own.nil : Own fl H e sz (.slice none 0 0) 0 [] := ⟨by simp, .inl ⟨rfl, rfl⟩⟩
theorem Own.mk {b cap : Nat} (hb : H.blk b = .row false e cs) (hl : cs.length = n * sz) (hf : fl ≤ b) : Own fl H e sz (.slice (some ⟨b, 0, none⟩) n cap) n cs := ⟨hl, .inr ⟨b, cap, rfl, hb, hf⟩⟩
theorem Own.sl (h : Own fl H e sz s n cs) : Sl H e sz s n cs := by
  obtain ⟨hl, h | ⟨b, cap, rfl, hb, hf⟩⟩ := h
  · exact ⟨hl, .inl h⟩
  · exact ⟨hl, .inr ⟨b, 0, cap, false, cs, rfl, hb, by omega, by rw [List.drop_zero, ← hl, List.take_length]⟩⟩
theorem Own.mono (h : Own fl H e sz s n cs) (hx : Ext H G) : Own fl G e sz s n cs := by
  obtain ⟨hl, h | ⟨b, cap, rfl, hb, hf⟩⟩ := h
  · exact ⟨hl, .inl h⟩
  · exact ⟨hl, .inr ⟨b, cap, rfl, hx.blk hb, hf⟩⟩

/-- what lies besides a slice's block stays. -/
def ExtB (o : Option Nat) (H G : Heap) : Prop := H.size ≤ G.size ∧ ∀ b, b < H.size → o ≠ some b → G.blk b = H.blk b
theorem Ext.extB {o : Option Nat} (h : Ext H G) : ExtB o H G := ⟨h.1, fun b hb _ => h.2 b hb⟩

theorem app_own (ho : Own fl G e sz s n cs) (hx : Sl G e2 sz x m new) (hp : new.all plainCell = true) (hn : n + m ≤ 1073741824) (hb : bytes ≤ 1024) (hs : 0 < sz) (hfl : fl ≤ G.size) :
    ∃ v' G', appA fl G e sz bytes s x = some (v', G') ∧ Own fl G' e sz v' (n + m) (cs ++ new) ∧ ExtB (slB s) G G' ∧ (∀ H0, H0.size ≤ fl → Ext H0 G → Ext H0 G') := by
  obtain ⟨hxl, hx⟩ := hx
  have hol := ho.1
  by_cases hm : m = 0
  · subst hm
    have hnew : new = [] := List.length_eq_zero_iff.1 (by omega)
    subst hnew
    refine ⟨s, G, ?_, by simpa using ho, (Ext.refl G).extB, fun _ _ h => h⟩
    rcases hx with ⟨rfl, _⟩ | ⟨b, off, cap, ro, cells, rfl, _⟩ <;> rcases ho.2 with ⟨rfl, rfl⟩ | ⟨b', cap', rfl, _⟩ <;> simp [appA]
  · rcases hx with ⟨_, h0⟩ | ⟨b, off, cap, ro, cells, rfl, hbk, ho1, ho2⟩
    · exact absurd h0 hm
    have hc := cells_of hbk ho1
    rw [← ho2] at hc
    rcases ho.2 with ⟨rfl, rfl⟩ | ⟨b', cap', rfl, hb', hf'⟩
    · have hcs : cs = [] := List.length_eq_zero_iff.1 (by omega)
      subst hcs
      refine ⟨.slice (some ⟨G.size, 0, none⟩) m unk, G.push (.row false e new), ?_, ?_, (Ext.push (Ext.refl G)).extB, fun _ _ h => h.push⟩
      · unfold appA
        simp only
        rw [if_neg hm, if_pos ⟨by omega, hb, hs⟩]
        simp only [hc, hp, Bool.true_eq_false, if_false]
        rw [if_pos ⟨by trivial, by trivial⟩]
      · rw [Nat.zero_add]; exact Own.mk blk_push_self (by simpa using hxl) hfl
    · have hb'l := blk_lt hb'
      have hc2 : G.cells? b' 0 (n * sz) = some cs := by
        rw [cells_of hb' (by omega), List.drop_zero, ← hol, List.take_length]
      by_cases hcap : cap' ≠ unk ∧ cap' < n + m
      · refine ⟨.slice (some ⟨G.size, 0, none⟩) (n + m) unk, G.push (.row false e (cs ++ new)), ?_, ?_, (Ext.push (Ext.refl G)).extB, fun _ _ h => h.push⟩
        · unfold appA
          simp only
          rw [if_neg hm, if_pos ⟨by omega, hb, hs⟩]
          simp only [hc, hp, Bool.true_eq_false, if_false, hc2]
          by_cases h00 : n = 0 ∧ cap' = 0
          · rw [if_pos h00]
            have hcs : cs = [] := List.length_eq_zero_iff.1 (by rw [hol, h00.1]; simp)
            rw [hcs, h00.1]; simp
          · rw [if_neg h00, if_pos hcap]
        · exact Own.mk blk_push_self (by rw [List.length_append, hol, hxl, Nat.add_mul]) hfl
      · refine ⟨.slice (some ⟨G.size, 0, none⟩) (n + m) unk, (G.setIfInBounds b' .dead).push (.row false e (cs ++ new)), ?_, ?_, ?_, ?_⟩
        · unfold appA
          simp only
          rw [if_neg hm, if_pos ⟨by omega, hb, hs⟩]
          simp only [hc, hp, Bool.true_eq_false, if_false, hc2]
          rw [if_neg (fun h00 : n = 0 ∧ cap' = 0 => hcap ⟨by rw [h00.2]; decide, by omega⟩), if_neg hcap]
          simp only [hb']
          rw [if_pos ⟨trivial, hf'⟩]
        · exact Own.mk (by rw [blk_push]; simp) (by rw [List.length_append, hol, hxl, Nat.add_mul]) hfl
        · refine ⟨by simp, fun c hc hne => ?_⟩
          have : b' ≠ c := fun h => hne (by simp [slB, h])
          rw [blk_push_lt (by simpa using hc), blk_set_ne this]
        · intro H0 h1 h2
          exact (h2.set (by omega)).push

/-- one more element, laid by a literal. -/
theorem app_lit {c : Nat} (ho : Own fl G e sz s n cs) (hl : new.length = sz) (hp : new.all plainCell = true) (hn : n < 1073741824) (hb : bytes ≤ 1024) (hs : 0 < sz) (hfl : fl ≤ G.size) :
    ∃ v' G', appA fl (G.push (.row false e2 new)) e sz bytes s (.slice (some ⟨G.size, 0, none⟩) 1 c) = some (v', G') ∧ Own fl G' e sz v' (n + 1) (cs ++ new) ∧ ExtB (slB s) G G' ∧ (∀ H0, H0.size ≤ fl → Ext H0 G → Ext H0 G') := by
  have hx : Sl (G.push (.row false e2 new)) e2 sz (.slice (some ⟨G.size, 0, none⟩) 1 c) 1 new := (Own.mk (fl := 0) blk_push_self (by omega) (Nat.zero_le _)).sl
  obtain ⟨v', G', h1, h2, h3, h4⟩ := app_own (ho.mono (Ext.push (Ext.refl G))) hx hp (by omega) hb hs (bytes := bytes) (by simp; omega)
  refine ⟨v', G', h1, h2, ⟨?_, fun b hb hne => ?_⟩, fun H0 k1 k2 => h4 H0 k1 k2.push⟩
  · have := h3.1; simp at this; omega
  · rw [h3.2 b (by simp; omega) hne, blk_push_lt hb]

theorem plain_u32 {x : Int} : [Value.int .u32 x].all plainCell = true := rfl
@[simp] theorem u32s_append {a b : List Nat} : u32s (a ++ b) = u32s a ++ u32s b := by simp [u32s]
theorem plain_u32s {l : List Nat} : (u32s l).all plainCell = true := by simp [u32s, plainCell]

end Go.Proofs.YtjlohmnnldbjoaaGreat.AI

/- num: what its functions answer. -/
namespace Go.Proofs.YtjlohmnnldbjoaaGreat.AI
open Go

variable {fl : Nat} {H : Heap} {R : PostP} {v : Value} {i : Bool × List Nat}

/-- may a number be? -/
def mayB (i : Bool × List Nat) : Bool := if i.2.length = 0 then !i.1 else i.2.getD (i.2.length - 1) 0 != 0

theorem num_May_does (h : IntV H v i) (hf : fl ≤ H.size) (hn : i.2.length < 4611686018427387904) :
    Does env fl f_131 [v] H (fun r H' => r = .bool (mayB i) ∧ Ext H H') R := by
  obtain ⟨s, rfl, hs⟩ := h
  refine does_ext e_131 hf (h := ?_)
  intro ρ h0
  simp [s_131]
  simp [r_131_0, r_131_1, r_131_2, r_131_3, h0]
  simp (disch := first | omega | assumption | (simp; done) | (repeat (first | assumption | exact Ext.refl _ | apply Ext.push | apply Ext.set))) [hs.slen, hs.iaZ, hs.load, wrap64]
  refine ⟨fun h => by simp [mayB, h], fun h => ?_⟩
  have hl := List.length_pos_iff.2 h
  simp (disch := first | omega | assumption | (simp; done) | (repeat (first | assumption | exact Ext.refl _ | apply Ext.push | apply Ext.set))) [hs.iaZ, hs.load, mayB, h]

/-- the limbs that count. -/
def limbsL (i : Bool × List Nat) : List Nat := if mayB i then i.2 else []

theorem num_limbs_does (h : IntV H v i) (hf : fl ≤ H.size) (hn : i.2.length < 4611686018427387904) :
    Does env fl f_119 [v] H (fun r H' => Lim H' r (limbsL i) ∧ Ext H H') R := by
  obtain ⟨s, rfl, hs⟩ := h
  refine does_ext e_119 hf (h := ?_)
  intro ρ h0
  simp [s_119]
  simp [r_119_0, r_119_1, r_119_2, r_119_3, h0]
  refine (num_May_does ⟨s, rfl, hs.mono (by simp)⟩ (by simp) hn).mono ?_
  rintro _ G ⟨rfl, hx⟩
  simp [hx.2, limbsL]
  exact ⟨fun h _ => by simp [h, Lim.nil], fun h hx => by simp [h, hs.mono hx]⟩

/-- below nought? -/
def negB (i : Bool × List Nat) : Bool := mayB i && i.1

theorem num_neg_does (h : IntV H v i) (hf : fl ≤ H.size) (hn : i.2.length < 4611686018427387904) :
    Does env fl f_120 [v] H (fun r H' => r = .bool (negB i) ∧ Ext H H') R := by
  obtain ⟨s, rfl, hs⟩ := h
  refine does_ext e_120 hf (h := ?_)
  intro ρ h0
  simp [s_120]
  simp [r_120_0, r_120_1, h0]
  refine (num_May_does ⟨s, rfl, hs.mono (by simp)⟩ (by simp) hn).mono ?_
  rintro _ G ⟨rfl, hx⟩
  cases hm : mayB i <;> simp [hx.2, negB, h0, hm]

theorem num_low_uint64_does {x : Nat} (hf : fl ≤ H.size) :
    Does env fl f_125 [.int .u64 x] H (fun r H' => r = .int .u32 ((x % 4294967296 : Nat) : Int) ∧ Ext H H') R := by
  refine does_ext e_125 hf (h := ?_)
  intro ρ h0
  simp [s_125]
  simp [r_125_0, r_125_1, h0, wrapu32]

/-- the order of two. -/
def cmpZ (a b : Int) : Int := if a < b then -1 else if a > b then 1 else 0

theorem num_order_int_does {a b : Int} (hf : fl ≤ H.size) :
    Does env fl f_154 [.int .i64 a, .int .i64 b] H (fun r H' => r = .int .i64 (cmpZ a b) ∧ Ext H H') R := by
  refine does_ext e_154 hf (h := ?_)
  intro ρ h0
  simp [s_154]
  simp [r_154_0, r_154_1, r_154_2, r_154_3, r_154_4, r_154_5, h0, cmpZ]
  refine ⟨fun h1 h2 => ?_, fun h1 => ⟨fun h2 => ?_, fun h2 => ?_⟩⟩ <;> (repeat' split) <;> omega
theorem num_order_uint32_does {a b : Int} (hf : fl ≤ H.size) :
    Does env fl f_155 [.int .u32 a, .int .u32 b] H (fun r H' => r = .int .i64 (cmpZ a b) ∧ Ext H H') R := by
  refine does_ext e_155 hf (h := ?_)
  intro ρ h0
  simp [s_155]
  simp [r_155_0, r_155_1, r_155_2, r_155_3, r_155_4, r_155_5, h0, cmpZ]
  refine ⟨fun h1 h2 => ?_, fun h1 => ⟨fun h2 => ?_, fun h2 => ?_⟩⟩ <;> (repeat' split) <;> omega

/-! ### slices.Clone, made -/
theorem Clone_does {l : List Nat} (h : Lim H v l) (hf : fl ≤ H.size) (hn : l.length ≤ 1073741824) :
    Does env fl f_153 [v] H (fun r H' => Lim H' r l ∧ Ext H H') R := by
  refine does_ext e_153 hf (h := ?_)
  intro ρ h0
  simp [s_153]
  simp [r_153_0, r_153_1, r_153_2, r_153_3, h0]
  have hd := h
  obtain ⟨⟨hl, ⟨rfl, h2⟩ | ⟨b, off, cap, ro, cells, rfl, hb, ho, hcs⟩⟩, hx⟩ := h
  · have : l = [] := List.length_eq_zero_iff.1 h2
    subst this
    simp [Lim.nil]
  · simp
    have ho2 : Own H.size (H.push (.row false T_uint32 [])) T_uint32 1 (.slice (some ⟨H.size, 0, none⟩) 0 0) 0 [] := Own.mk blk_push_self (by simp) (Nat.le_refl _)
    obtain ⟨v', G', h1, h2, h3, h4⟩ := app_own (bytes := 4) ho2 ((hd.mono (Ext.push (Ext.refl H))).1) plain_u32s (by omega) (by omega) (by omega) (by simp)
    simp only [Nat.zero_add, List.nil_append] at h2
    simp [h1]
    exact fun _ => ⟨h2.sl, hx⟩
end Go.Proofs.YtjlohmnnldbjoaaGreat.AI

/- num.made. -/
namespace Go.Proofs.YtjlohmnnldbjoaaGreat.AI
open Go

variable {fl : Nat} {H : Heap} {R : PostP} {v : Value} {i : Bool × List Nat} {l : List Nat}

/-- limbs without noughts on top. -/
def trimL (l : List Nat) : List Nat := (l.reverse.dropWhile (· == 0)).reverse
theorem trimL_nil : trimL [] = [] := rfl
theorem trimL_snoc0 : trimL (l ++ [0]) = trimL l := by simp [trimL]
theorem trimL_snoc {x : Nat} (h : x ≠ 0) : trimL (l ++ [x]) = l ++ [x] := by simp [trimL, h]
/-- a number of a sign and limbs. -/
def mkI (neg : Bool) (l : List Nat) : Bool × List Nat := if trimL l = [] then (false, []) else (neg, trimL l)

theorem take_succ_getD {n : Nat} (h : n < l.length) : l.take (n + 1) = l.take n ++ [l.getD n 0] := by
  rw [List.take_add_one, List.getElem?_eq_getElem h, List.getD_eq_getElem?_getD, List.getElem?_eq_getElem h]; rfl

theorem num_made_does {b : Bool} (h : Lim H v l) (hf : fl ≤ H.size) (hn : l.length ≤ 1073741824) :
    Does env fl f_121 [.bool b, v] H (fun r H' => IntV H' r (mkI b l) ∧ Ext H H') R := by
  refine does_ext e_121 hf (h := ?_)
  intro ρ h0
  simp [s_121]
  simp [r_121_0, r_121_1, h0, h.slen]
  refine W_loopM (fun k t G => G = H.push (.row false T_api_Int [.bool false, .slice none 0 0]) ∧ t.length = 29 ∧ get t 0 = .bool b ∧ get t 1 = v ∧ get t 4 = .pointer (some ⟨H.size, 0, none⟩) ∧
      get t 5 = .int .i64 k ∧ k ≤ l.length ∧ trimL (l.take k) = trimL l)
    (fun t G => ∃ k : Nat, G = H.push (.row false T_api_Int [.bool false, .slice none 0 0]) ∧ t.length = 29 ∧ get t 0 = .bool b ∧ get t 1 = v ∧ get t 4 = .pointer (some ⟨H.size, 0, none⟩) ∧
      get t 5 = .int .i64 k ∧ k ≤ l.length ∧ trimL l = l.take k) l.length (by simp [h0]) ?_ ?_
  · rintro k t G ⟨rfl, ht, g0, g1, g4, g5, hk, htr⟩
    obtain ⟨ρ, rfl⟩ := toT ht
    simp only [get_T, Nat.reduceLT] at g0 g1 g4 g5
    by_cases hk0 : k = 0
    · subst hk0
      simp [r_121_2, g0, g1, g4, g5]
      exact ⟨0, by simp, by simp, by rw [← htr]; rfl⟩
    · have hp : 0 < k := by omega
      have w1 : IntKind.i64.wrap ((k : Int) - 1) = ((k - 1 : Nat) : Int) := by rw [wrap64 (by omega) (by omega)]; omega
      simp [r_121_2, r_121_3, g0, g1, g4, g5, hp, w1, h.ia (show k - 1 < l.length by omega), h.load (show k - 1 < l.length by omega)]
      have hk1 : l.take k = l.take (k - 1) ++ [l.getD (k - 1) 0] := by rw [← take_succ_getD (by omega)]; congr 1; omega
      rw [List.getD_eq_getElem?_getD] at hk1
      refine ⟨fun hz => ⟨k - 1, by omega, rfl, by omega, ?_⟩, fun hz => ⟨k, rfl, hk, ?_⟩⟩
      · rw [← htr, hk1, hz, trimL_snoc0]
      · rw [← htr, hk1, trimL_snoc hz]
  · rintro t G ⟨k, rfl, ht, g0, g1, g4, g5, hk, htr⟩
    obtain ⟨ρ, rfl⟩ := toT ht
    simp only [get_T, Nat.reduceLT] at g0 g1 g4 g5
    obtain ⟨v', h1, h2⟩ := h.take hk (x := none) rfl (y := some (.int .i64 (k : Int))) (by simp)
    simp [r_121_4, r_121_5, r_121_6, g0, g1, g4, g5, h.elemOk, h1]
    refine ⟨fun hk0 => ⟨.slice none 0 0, by simp [mkI, htr, hk0], by simp [mkI, htr, hk0, Lim.nil]⟩, fun hk0 => ?_⟩
    refine (Clone_does (h2.mono (by simp)) (by simp) (by simp; omega)).mono ?_
    rintro r G ⟨hr, hx⟩
    have hlt : H.size < G.size := by have := hx.1; simp at this; omega
    simp [hr.cells, hr.plain, hx.2, hlt]
    have hl0 : l ≠ [] := by rintro rfl; exact hk0 (by simpa using hk)
    refine fun _ => ⟨r, ?_, ?_⟩
    · simp [mkI, htr, hk0, hl0]
    · have : (mkI b l).2 = l.take k := by simp [mkI, htr, hk0, hl0]
      rw [this]
      exact hr.setT (by rw [hx.2 _ (by simp)]; exact blk_push_self) (by decide)
end Go.Proofs.YtjlohmnnldbjoaaGreat.AI

/- Limbs and numbers: plain laws. -/
namespace Go.Proofs.YtjlohmnnldbjoaaGreat.AI
open Go

/-- what limbs come to, the lowest first. -/
def natL : List Nat → Nat
  | [] => 0
  | x :: l => x + 4294967296 * natL l

def LimOk (l : List Nat) : Prop := ∀ x ∈ l, x < 4294967296

theorem natL_append : ∀ (a b : List Nat), natL (a ++ b) = natL a + 4294967296 ^ a.length * natL b
  | [], b => by simp [natL]
  | x :: a, b => by
    simp only [List.cons_append, natL, natL_append a b, List.length_cons, Nat.pow_succ]
    rw [Nat.mul_add, ← Nat.mul_assoc, Nat.mul_comm (4294967296 ^ a.length) 4294967296, Nat.add_assoc]
theorem natL_snoc (a : List Nat) (x : Nat) : natL (a ++ [x]) = natL a + 4294967296 ^ a.length * x := by rw [natL_append]; simp [natL]
theorem natL_lt : ∀ (l : List Nat), LimOk l → natL l < 4294967296 ^ l.length
  | [], _ => by simp [natL]
  | x :: l, h => by
    have h1 := natL_lt l (fun y hy => h y (List.mem_cons_of_mem _ hy))
    have h2 := h x (List.mem_cons_self ..)
    simp only [natL, List.length_cons, Nat.pow_succ]
    omega

theorem trimL_cons (x : Nat) (l : List Nat) : trimL (x :: l) = if trimL l = [] ∧ x = 0 then [] else x :: trimL l := by
  unfold trimL
  rw [List.reverse_cons, List.dropWhile_append]
  by_cases h : (List.dropWhile (fun x => x == 0) l.reverse).isEmpty = true
  · rw [if_pos h]
    have h' : List.dropWhile (fun x => x == 0) l.reverse = [] := by simpa using h
    rw [h']
    by_cases hx : x = 0 <;> simp [hx]
  · rw [if_neg h]
    have h' : List.dropWhile (fun x => x == 0) l.reverse ≠ [] := by simpa using h
    rw [if_neg (by simp [h'])]
    simp

theorem natL_trim : ∀ (l : List Nat), natL (trimL l) = natL l
  | [] => rfl
  | x :: l => by
    rw [trimL_cons]
    have := natL_trim l
    split
    · rename_i h; rw [h.1] at this; simp only [natL] at this ⊢; omega
    · simp only [natL, this]

theorem natL_zero : ∀ (l : List Nat), natL l = 0 ↔ trimL l = []
  | [] => by simp [natL, trimL_nil]
  | x :: l => by
    rw [trimL_cons]
    have := natL_zero l
    by_cases h : trimL l = [] ∧ x = 0
    · rw [if_pos h]; have := this.2 h.1; simp [natL, this, h.2]
    · rw [if_neg h]
      simp only [natL, reduceCtorEq, iff_false]
      intro h0
      exact h ⟨this.1 (by omega), by omega⟩

/-- the limbs of a number. -/
def digits (n : Nat) : List Nat := if h : n = 0 then [] else (n % 4294967296) :: digits (n / 4294967296)
termination_by n
decreasing_by omega

theorem digits_zero : digits 0 = [] := by unfold digits; simp
theorem digits_pos {n : Nat} (h : n ≠ 0) : digits n = (n % 4294967296) :: digits (n / 4294967296) := by rw [digits]; simp [h]

theorem trimL_digits : ∀ (l : List Nat), LimOk l → trimL l = digits (natL l)
  | [], _ => by rw [trimL_nil, natL, digits_zero]
  | x :: l, h => by
    have ih := trimL_digits l (fun y hy => h y (List.mem_cons_of_mem _ hy))
    have hx := h x (List.mem_cons_self ..)
    rw [trimL_cons]
    by_cases hc : trimL l = [] ∧ x = 0
    · rw [if_pos hc]
      have := (natL_zero l).2 hc.1
      rw [natL, this, hc.2, digits_zero]
    · rw [if_neg hc]
      have hne : natL (x :: l) ≠ 0 := by
        intro h0
        simp only [natL] at h0
        exact hc ⟨(natL_zero l).1 (by omega), by omega⟩
      rw [digits_pos hne]
      have e1 : natL (x :: l) % 4294967296 = x := by simp only [natL]; omega
      have e2 : natL (x :: l) / 4294967296 = natL l := by simp only [natL]; omega
      rw [e1, e2, ih]

theorem natL_digits (n : Nat) : natL (digits n) = n := by
  induction n using Nat.strongRecOn with
  | ind n ih =>
    by_cases h : n = 0
    · rw [h, digits_zero]; rfl
    · rw [digits_pos h, natL, ih _ (by omega)]; omega

theorem digits_ok (n : Nat) : LimOk (digits n) := by
  induction n using Nat.strongRecOn with
  | ind n ih =>
    by_cases h : n = 0
    · rw [h, digits_zero]; intro x hx; simp at hx
    · rw [digits_pos h]
      intro x hx
      rcases List.mem_cons.1 hx with rfl | hx
      · omega
      · exact ih _ (by omega) x hx

theorem digits_inj {m n : Nat} (h : digits m = digits n) : m = n := by rw [← natL_digits m, h, natL_digits]

theorem digits_len {n k : Nat} (h : n < 4294967296 ^ k) : (digits n).length ≤ k := by
  induction k generalizing n with
  | zero => have : n = 0 := by simpa using h
            rw [this, digits_zero]; simp
  | succ k ih =>
    by_cases h0 : n = 0
    · rw [h0, digits_zero]; simp
    · rw [digits_pos h0, List.length_cons]
      have : n / 4294967296 < 4294967296 ^ k := by
        rw [Nat.div_lt_iff_lt_mul (by omega)]; rw [Nat.pow_succ] at h; exact h
      have := ih this
      omega

theorem lt_digits (n : Nat) : n < 4294967296 ^ (digits n).length := by
  have := natL_lt (digits n) (digits_ok n)
  rwa [natL_digits] at this

theorem digits_eq_nil {n : Nat} : digits n = [] ↔ n = 0 := by
  constructor
  · intro h; rw [← natL_digits n, h]; rfl
  · rintro rfl; exact digits_zero

theorem digits_last {n : Nat} (h : n ≠ 0) : (digits n).getD ((digits n).length - 1) 0 ≠ 0 := by
  induction n using Nat.strongRecOn with
  | ind n ih =>
    rw [digits_pos h]
    by_cases h2 : n / 4294967296 = 0
    · rw [h2, digits_zero]; simp; omega
    · have := ih (n / 4294967296) (by omega) h2
      have hl : (digits (n / 4294967296)).length ≠ 0 := fun h3 => h2 (digits_eq_nil.1 (List.length_eq_zero_iff.1 h3))
      rw [List.length_cons, show (digits (n / 4294967296)).length + 1 - 1 = ((digits (n / 4294967296)).length - 1) + 1 by omega, List.getD_cons_succ]
      exact this

/-- the whole number that a number's sign and limbs say; what may not be is nought. -/
def valI (i : Bool × List Nat) : Int := if mayB i then (if i.1 then -(natL i.2 : Int) else natL i.2) else 0
/-- a whole number as it is told. -/
def canonI (z : Int) : Bool × List Nat := (decide (z < 0), digits z.natAbs)

theorem mkI_eq {b : Bool} {l : List Nat} (h : LimOk l) : mkI b l = canonI (if b then -(natL l : Int) else natL l) := by
  unfold mkI canonI
  rw [trimL_digits l h]
  by_cases h0 : natL l = 0
  · rw [h0, digits_zero]; cases b <;> simp [digits_zero]
  · rw [if_neg (by rw [digits_eq_nil]; exact h0)]
    cases b <;> simp <;> omega

theorem may_canon (z : Int) : mayB (canonI z) = true := by
  unfold mayB canonI
  by_cases h : z = 0
  · subst h; simp [digits_zero]
  · have h1 : z.natAbs ≠ 0 := by omega
    have h2 : (digits z.natAbs).length ≠ 0 := fun h3 => h1 (digits_eq_nil.1 (List.length_eq_zero_iff.1 h3))
    simp only
    rw [if_neg h2]
    simpa using digits_last h1

theorem val_canon (z : Int) : valI (canonI z) = z := by
  unfold valI
  rw [may_canon]
  simp only [canonI, natL_digits, if_true]
  by_cases h : z < 0 <;> simp [h] <;> omega

theorem canon_zero : canonI 0 = (false, []) := by simp [canonI, digits_zero]

end Go.Proofs.YtjlohmnnldbjoaaGreat.AI

/- num.plus. -/
namespace Go.Proofs.YtjlohmnnldbjoaaGreat.AI
open Go
set_option maxHeartbeats 4000000

variable {fl : Nat} {H : Heap} {R : PostP} {v w : Value} {a b : List Nat}

theorem Lim.ok {l : List Nat} (h : Lim H v l) : LimOk l := h.2

theorem natL_take_succ {l : List Nat} {n : Nat} (h : n < l.length) : natL (l.take (n + 1)) = natL (l.take n) + 4294967296 ^ n * l.getD n 0 := by
  rw [take_succ_getD h, natL_snoc, List.length_take, Nat.min_eq_left (by omega)]

theorem num_plus_does (ha : Lim H v a) (hb : Lim H w b) (hf : fl ≤ H.size) (hna : a.length < 1073741824) (hnb : b.length < 1073741824) :
    Does env fl f_122 [v, w] H (fun r H' => (∃ o, Lim H' r o ∧ natL o = natL a + natL b ∧ o.length = max a.length b.length + 1) ∧ Ext H H') R := by
  refine does_ext e_122 hf (h := ?_)
  intro ρ h0
  simp only [s_122]
  refine W_seq (W_reg ?_)
  simp [-We_seq, r_122_0, h0]
  refine W_seq (W_mid (fun t G => G = H ∧ t.length = 55 ∧ ∃ v w a' b', get t 0 = v ∧ get t 1 = w ∧ Lim H v a' ∧ Lim H w b' ∧ b'.length ≤ a'.length ∧ a'.length = max a.length b.length ∧ natL a' + natL b' = natL a + natL b) ?_ ?_)
  · simp [r_122_1, r_122_2, h0, ha.slen, hb.slen]
    exact ⟨fun h => ⟨b, hb, a, ha, by omega, by omega, by omega⟩, fun h => ⟨a, ha, b, hb, by omega, by omega, by omega⟩⟩
  clear h0 ρ
  rintro t G ⟨rfl, ht, v, w, a', b', g0, g1, ha', hb', hle, hlen, hsum⟩
  obtain ⟨ρ, rfl⟩ := toT ht
  simp only [get_T, Nat.reduceLT] at g0 g1
  have hna' : a'.length < 1073741824 := by omega
  rw [← hlen, ← hsum]
  clear ha hb hna hnb hlen hsum a b
  have w1 : IntKind.i64.wrap ((a'.length : Int) + 1) = (a'.length : Int) + 1 := wrap64 (by omega) (by omega)
  have hm := mkVZ (bytes := 4) (k := .i64) (k' := .i64) (l := 0) (c := (a'.length : Int) + 1) (by omega) (by omega) (by omega) (by omega)
  simp [r_122_3, r_122_4, r_122_5, g0, g1, ha'.slen, w1, hm]
  refine W_loopM (fun k t G' => ∃ i c out s, i + k = a'.length ∧ t.length = 55 ∧ get t 1 = w ∧ get t 5 = s ∧ get t 6 = .int .u64 ((c : Nat) : Int) ∧ get t 20 = v ∧ get t 21 = .int .i64 a'.length ∧ get t 22 = .int .i64 ((i : Nat) : Int) ∧
      Ext G G' ∧ Own G.size G' T_uint32 1 s i (u32s out) ∧ LimOk out ∧ out.length = i ∧ c ≤ 1 ∧ natL out + 4294967296 ^ i * c = natL (a'.take i) + natL (b'.take i))
    (fun t G' => ∃ c out s, t.length = 55 ∧ get t 5 = s ∧ get t 6 = .int .u64 ((c : Nat) : Int) ∧
      Ext G G' ∧ Own G.size G' T_uint32 1 s a'.length (u32s out) ∧ LimOk out ∧ out.length = a'.length ∧ c ≤ 1 ∧ natL out + 4294967296 ^ a'.length * c = natL a' + natL b') a'.length ?_ ?_ ?_
  · exact ⟨0, 0, [], .slice (some ⟨G.size, 0, none⟩) 0 (a'.length + 1), by omega, by simp, by simp [g1], by simp, by simp, by simp, by simp, by simp, by simp,
      Own.mk (by simp [u32s]) rfl (Nat.le_refl _), by intro x hx; simp at hx, rfl, by omega, by simp [natL]⟩
  · clear g0 g1 hm w1 ht ρ
    rintro k t G' ⟨i, c, out, s, hik, ht, g1, g5, g6, g20, g21, g22, hx, ho, hok, hol, hc, hs⟩
    obtain ⟨ρ, rfl⟩ := toT ht
    simp only [get_T, Nat.reduceLT] at g1 g5 g6 g20 g21 g22
    by_cases hi : i < a'.length
    · have hla := ha'.load hi hx
      have hA2 := natL_take_succ hi
      have hA3 : a'.getD i 0 < 4294967296 := ha'.2 _ (by rw [List.getD_eq_getElem?_getD, List.getElem?_eq_getElem hi]; exact List.getElem_mem hi)
      generalize a'.getD i 0 = A at hla hA2 hA3
      have e1 : IntKind.u64.wrap ((c : Int) + IntKind.u64.wrap (A : Int)) = ((c + A : Nat) : Int) := by rw [wrapu64, wrapu64]; omega
      have e9 : IntKind.i64.wrap ((i : Int) + 1) = ((i + 1 : Nat) : Int) := by rw [wrap64 (by omega) (by omega)]; omega
      by_cases hib : i < b'.length
      · have hlb := hb'.load hib hx
        have hB2 := natL_take_succ hib
        have hB3 : b'.getD i 0 < 4294967296 := hb'.2 _ (by rw [List.getD_eq_getElem?_getD, List.getElem?_eq_getElem hib]; exact List.getElem_mem hib)
        generalize b'.getD i 0 = B at hlb hB2 hB3
        have e2 : IntKind.u64.wrap (((c + A : Nat) : Int) + IntKind.u64.wrap (B : Int)) = ((c + A + B : Nat) : Int) := by rw [wrapu64, wrapu64]; omega
        simp [-Int.natCast_add, r_122_6, r_122_7, r_122_8, r_122_9, r_122_10, r_122_11, r_122_12, r_122_13, g1, g5, g6, g20, g21, g22, hi, ha'.ia hi, hla, hb'.slen, e1, hib, hb'.ia hib, hlb, e2]
        generalize hc2 : c + A + B = c2
        refine (num_low_uint64_does hx.1).mono ?_
        rintro _ G2 ⟨rfl, hx2⟩
        obtain ⟨s', G3, h1, h2, h3, h4⟩ := app_lit (e2 := T_uint32) (new := [.int .u32 ((c2 % 4294967296 : Nat) : Int)]) (c := 1) (bytes := 4) (ho.mono hx2) rfl rfl (by omega) (by omega) (by omega) (by have := hx.1; have := hx2.1; omega)
        simp [-Int.natCast_emod, -Int.natCast_add, h1, g1, g5, g6, g20, g21, g22, e9]
        refine ⟨k - 1, by omega, i + 1, by omega, c2 / 4294967296, rfl, rfl, h4 _ (Nat.le_refl _) (hx.trans hx2), out ++ [c2 % 4294967296], by simpa [u32s] using h2, ?_, by simp [hol], by omega, ?_⟩
        · intro x hx
          rcases List.mem_append.1 hx with hx | hx
          · exact hok x hx
          · simp at hx; omega
        · rw [natL_snoc, hol, hA2, hB2, Nat.pow_succ]
          have e3 : 4294967296 ^ i * 4294967296 * (c2 / 4294967296) = 4294967296 ^ i * (4294967296 * (c2 / 4294967296)) := Nat.mul_assoc ..
          have e4 : 4294967296 ^ i * (c2 % 4294967296) + 4294967296 ^ i * (4294967296 * (c2 / 4294967296)) = 4294967296 ^ i * c2 := by rw [← Nat.mul_add, Nat.mod_add_div]
          have e5 : 4294967296 ^ i * c2 = 4294967296 ^ i * c + 4294967296 ^ i * A + 4294967296 ^ i * B := by rw [← hc2, Nat.mul_add, Nat.mul_add]
          omega
      · have hB2 : natL (b'.take (i + 1)) = natL (b'.take i) + 4294967296 ^ i * 0 := by rw [List.take_of_length_le (by omega), List.take_of_length_le (by omega)]; simp
        have hB3 : (0 : Nat) < 4294967296 := by omega
        have e2 : c + A = c + A + 0 := rfl
        rw [e2] at e1
        generalize (0 : Nat) = B at hB2 hB3 e1
        simp [-Int.natCast_add, r_122_6, r_122_7, r_122_8, r_122_9, r_122_10, r_122_11, r_122_12, r_122_13, g1, g5, g6, g20, g21, g22, hi, ha'.ia hi, hla, hb'.slen, e1, hib]
        generalize hc2 : c + A + B = c2
        refine (num_low_uint64_does hx.1).mono ?_
        rintro _ G2 ⟨rfl, hx2⟩
        obtain ⟨s', G3, h1, h2, h3, h4⟩ := app_lit (e2 := T_uint32) (new := [.int .u32 ((c2 % 4294967296 : Nat) : Int)]) (c := 1) (bytes := 4) (ho.mono hx2) rfl rfl (by omega) (by omega) (by omega) (by have := hx.1; have := hx2.1; omega)
        simp [-Int.natCast_emod, -Int.natCast_add, h1, g1, g5, g6, g20, g21, g22, e9]
        refine ⟨k - 1, by omega, i + 1, by omega, c2 / 4294967296, rfl, rfl, h4 _ (Nat.le_refl _) (hx.trans hx2), out ++ [c2 % 4294967296], by simpa [u32s] using h2, ?_, by simp [hol], by omega, ?_⟩
        · intro x hx
          rcases List.mem_append.1 hx with hx | hx
          · exact hok x hx
          · simp at hx; omega
        · rw [natL_snoc, hol, hA2, hB2, Nat.pow_succ]
          have e3 : 4294967296 ^ i * 4294967296 * (c2 / 4294967296) = 4294967296 ^ i * (4294967296 * (c2 / 4294967296)) := Nat.mul_assoc ..
          have e4 : 4294967296 ^ i * (c2 % 4294967296) + 4294967296 ^ i * (4294967296 * (c2 / 4294967296)) = 4294967296 ^ i * c2 := by rw [← Nat.mul_add, Nat.mod_add_div]
          have e5 : 4294967296 ^ i * c2 = 4294967296 ^ i * c + 4294967296 ^ i * A + 4294967296 ^ i * B := by rw [← hc2, Nat.mul_add, Nat.mul_add]
          omega
    · simp [r_122_6, g1, g5, g6, g20, g21, g22, hi]
      have : i = a'.length := by omega
      subst this
      refine ⟨c, rfl, hx, out, ho, hok, hol, hc, ?_⟩
      rw [hs, List.take_of_length_le (Nat.le_refl _), List.take_of_length_le hle]
  · clear g0 g1 hm w1 ht ρ
    rintro t G' ⟨c, out, s, ht, g5, g6, hx, ho, hok, hol, hc, hs⟩
    obtain ⟨ρ, rfl⟩ := toT ht
    simp only [get_T, Nat.reduceLT] at g5 g6
    simp [r_122_14, g5, g6]
    refine (num_low_uint64_does hx.1).mono ?_
    rintro _ G2 ⟨rfl, hx2⟩
    obtain ⟨s', G3, h1, h2, h3, h4⟩ := app_lit (e2 := T_uint32) (new := [.int .u32 ((c % 4294967296 : Nat) : Int)]) (c := 1) (bytes := 4) (ho.mono hx2) rfl rfl (by omega) (by omega) (by omega) (by have := hx.1; have := hx2.1; omega)
    simp [-Int.natCast_emod, -Int.natCast_add, h1]
    refine fun _ => ⟨out ++ [c % 4294967296], ⟨by simpa [hol, u32s] using h2.sl, ?_⟩, ?_, by simp [hol]⟩
    · intro x hx
      rcases List.mem_append.1 hx with hx | hx
      · exact hok x hx
      · simp at hx; omega
    · rw [natL_snoc, hol, Nat.mod_eq_of_lt (by omega)]; exact hs
end Go.Proofs.YtjlohmnnldbjoaaGreat.AI

/- num.minus. -/
namespace Go.Proofs.YtjlohmnnldbjoaaGreat.AI
open Go
set_option maxHeartbeats 4000000

variable {fl : Nat} {H : Heap} {R : PostP} {v w : Value} {a b : List Nat}

theorem num_minus_does (ha : Lim H v a) (hb : Lim H w b) (hf : fl ≤ H.size) (hna : a.length < 1073741824) (hle : b.length ≤ a.length) (hnat : natL b ≤ natL a) :
    Does env fl f_124 [v, w] H (fun r H' => (∃ o, Lim H' r o ∧ natL o = natL a - natL b ∧ o.length = a.length) ∧ Ext H H') R := by
  refine does_ext e_124 hf (h := ?_)
  intro ρ h0
  simp only [s_124]
  have hm := mkVZ (bytes := 4) (k := .i64) (k' := .i64) (l := 0) (c := (a.length : Int)) (by omega) (by omega) (by omega) (by omega)
  simp [r_124_0, r_124_1, r_124_2, r_124_3, h0, ha.slen, hm]
  refine W_loopM (fun k t G' => ∃ i c out s, i + k = a.length ∧ t.length = 46 ∧ get t 1 = w ∧ get t 5 = s ∧ get t 6 = .int .u64 ((c : Nat) : Int) ∧ get t 14 = v ∧ get t 15 = .int .i64 a.length ∧ get t 16 = .int .i64 ((i : Nat) : Int) ∧
      Ext H G' ∧ Own H.size G' T_uint32 1 s i (u32s out) ∧ LimOk out ∧ out.length = i ∧ c ≤ 1 ∧ natL out + natL (b.take i) = natL (a.take i) + 4294967296 ^ i * c)
    (fun t G' => ∃ c out s, t.length = 46 ∧ get t 5 = s ∧
      Ext H G' ∧ Own H.size G' T_uint32 1 s a.length (u32s out) ∧ LimOk out ∧ out.length = a.length ∧ c ≤ 1 ∧ natL out + natL b = natL a + 4294967296 ^ a.length * c) a.length ?_ ?_ ?_
  · exact ⟨0, 0, [], .slice (some ⟨H.size, 0, none⟩) 0 a.length, by omega, by simp, by simp [h0], by simp, by simp, by simp [h0], by simp, by simp, by simp,
      Own.mk (by simp [u32s]) rfl (Nat.le_refl _), by intro x hx; simp at hx, rfl, by omega, by simp [natL]⟩
  · clear hm h0 ρ
    rintro k t G' ⟨i, c, out, s, hik, ht, g1, g5, g6, g14, g15, g16, hx, ho, hok, hol, hc, hs⟩
    obtain ⟨ρ, rfl⟩ := toT ht
    simp only [get_T, Nat.reduceLT] at g1 g5 g6 g14 g15 g16
    by_cases hi : i < a.length
    · have hla := ha.load hi hx
      have hA2 := natL_take_succ hi
      have hA3 : a.getD i 0 < 4294967296 := ha.2 _ (by rw [List.getD_eq_getElem?_getD, List.getElem?_eq_getElem hi]; exact List.getElem_mem hi)
      generalize a.getD i 0 = A at hla hA2 hA3
      have e9 : IntKind.i64.wrap ((i : Int) + 1) = ((i + 1 : Nat) : Int) := by rw [wrap64 (by omega) (by omega)]; omega
      by_cases hib : i < b.length
      · have hlb := hb.load hib hx
        have hB2 := natL_take_succ hib
        have hB3 : b.getD i 0 < 4294967296 := hb.2 _ (by rw [List.getD_eq_getElem?_getD, List.getElem?_eq_getElem hib]; exact List.getElem_mem hib)
        generalize b.getD i 0 = B at hlb hB2 hB3
        have e2 : IntKind.u64.wrap ((c : Int) + IntKind.u64.wrap (B : Int)) = ((c + B : Nat) : Int) := by rw [wrapu64, wrapu64]; omega
        have e3 : IntKind.u64.wrap (IntKind.u64.wrap (A : Int) - ((c + B : Nat) : Int)) = (((A + 18446744073709551616 - (c + B)) % 18446744073709551616 : Nat) : Int) := by rw [wrapu64, wrapu64]; omega
        simp [-Int.natCast_add, -Int.natCast_emod, r_124_4, r_124_5, r_124_6, r_124_7, r_124_8, r_124_9, r_124_10, r_124_11, r_124_12, g1, g5, g6, g14, g15, g16, hi, ha.ia hi, hla, hb.slen, hib, hb.ia hib, hlb, e2, e3]
        generalize hD : (A + 18446744073709551616 - (c + B)) % 18446744073709551616 = D
        refine (num_low_uint64_does hx.1).mono ?_
        rintro _ G2 ⟨rfl, hx2⟩
        obtain ⟨s', G3, h1, h2, h3, h4⟩ := app_lit (e2 := T_uint32) (new := [.int .u32 ((D % 4294967296 : Nat) : Int)]) (c := 1) (bytes := 4) (ho.mono hx2) rfl rfl (by omega) (by omega) (by omega) (by have := hx.1; have := hx2.1; omega)
        simp [-Int.natCast_emod, -Int.natCast_add, h1, g1, g5, g6, g14, g15, g16, e9]
        refine ⟨k - 1, by omega, i + 1, by omega, D / 9223372036854775808, rfl, rfl, h4 _ (Nat.le_refl _) (hx.trans hx2), out ++ [D % 4294967296], by simpa [u32s] using h2, ?_, by simp [hol], by omega, ?_⟩
        · intro x hx
          rcases List.mem_append.1 hx with hx | hx
          · exact hok x hx
          · simp at hx; omega
        · rw [natL_snoc, hol, hA2, hB2, Nat.pow_succ]
          have e3 : 4294967296 ^ i * 4294967296 * (D / 9223372036854775808) = 4294967296 ^ i * (4294967296 * (D / 9223372036854775808)) := Nat.mul_assoc ..
          have e4 : D % 4294967296 + c + B = A + 4294967296 * (D / 9223372036854775808) := by omega
          have e5 : 4294967296 ^ i * (D % 4294967296) + 4294967296 ^ i * c + 4294967296 ^ i * B = 4294967296 ^ i * A + 4294967296 ^ i * (4294967296 * (D / 9223372036854775808)) := by
            rw [← Nat.mul_add, ← Nat.mul_add, ← Nat.mul_add, e4]
          omega
      · have hB2 : natL (b.take (i + 1)) = natL (b.take i) + 4294967296 ^ i * 0 := by rw [List.take_of_length_le (by omega), List.take_of_length_le (by omega)]; simp
        have hB3 : (0 : Nat) < 4294967296 := by omega
        have e3 : IntKind.u64.wrap (IntKind.u64.wrap (A : Int) - (c : Int)) = (((A + 18446744073709551616 - (c + 0)) % 18446744073709551616 : Nat) : Int) := by rw [wrapu64, wrapu64]; omega
        generalize hB : (0 : Nat) = B at hB2 hB3 e3
        simp [-Int.natCast_add, -Int.natCast_emod, r_124_4, r_124_5, r_124_6, r_124_7, r_124_8, r_124_9, r_124_10, r_124_11, r_124_12, g1, g5, g6, g14, g15, g16, hi, ha.ia hi, hla, hb.slen, hib, e3]
        generalize hD : (A + 18446744073709551616 - (c + B)) % 18446744073709551616 = D
        refine (num_low_uint64_does hx.1).mono ?_
        rintro _ G2 ⟨rfl, hx2⟩
        obtain ⟨s', G3, h1, h2, h3, h4⟩ := app_lit (e2 := T_uint32) (new := [.int .u32 ((D % 4294967296 : Nat) : Int)]) (c := 1) (bytes := 4) (ho.mono hx2) rfl rfl (by omega) (by omega) (by omega) (by have := hx.1; have := hx2.1; omega)
        simp [-Int.natCast_emod, -Int.natCast_add, h1, g1, g5, g6, g14, g15, g16, e9]
        refine ⟨k - 1, by omega, i + 1, by omega, D / 9223372036854775808, rfl, rfl, h4 _ (Nat.le_refl _) (hx.trans hx2), out ++ [D % 4294967296], by simpa [u32s] using h2, ?_, by simp [hol], by omega, ?_⟩
        · intro x hx
          rcases List.mem_append.1 hx with hx | hx
          · exact hok x hx
          · simp at hx; omega
        · rw [natL_snoc, hol, hA2, hB2, Nat.pow_succ]
          have e3 : 4294967296 ^ i * 4294967296 * (D / 9223372036854775808) = 4294967296 ^ i * (4294967296 * (D / 9223372036854775808)) := Nat.mul_assoc ..
          have e4 : D % 4294967296 + c + B = A + 4294967296 * (D / 9223372036854775808) := by omega
          have e5 : 4294967296 ^ i * (D % 4294967296) + 4294967296 ^ i * c + 4294967296 ^ i * B = 4294967296 ^ i * A + 4294967296 ^ i * (4294967296 * (D / 9223372036854775808)) := by
            rw [← Nat.mul_add, ← Nat.mul_add, ← Nat.mul_add, e4]
          omega
    · simp [r_124_4, g1, g5, g6, g14, g15, g16, hi]
      have : i = a.length := by omega
      subst this
      refine ⟨hx, c, out, ho, hok, hol, hc, ?_⟩
      rw [List.take_of_length_le (Nat.le_refl _), List.take_of_length_le hle] at hs
      exact hs
  · clear hm h0 ρ
    rintro t G' ⟨c, out, s, ht, g5, hx, ho, hok, hol, hc, hs⟩
    obtain ⟨ρ, rfl⟩ := toT ht
    simp only [get_T, Nat.reduceLT] at g5
    simp [r_124_13, g5]
    refine fun _ => ⟨out, ⟨by simpa [hol] using ho.sl, hok⟩, ?_, hol⟩
    have h2 := natL_lt out hok
    rw [hol] at h2
    have : c = 0 := by
      refine Decidable.byContradiction fun hc0 => ?_
      have : c = 1 := by omega
      subst this
      omega
    subst this
    omega
end Go.Proofs.YtjlohmnnldbjoaaGreat.AI

/- num.cmp. -/
namespace Go.Proofs.YtjlohmnnldbjoaaGreat.AI
open Go
set_option maxHeartbeats 4000000

variable {fl : Nat} {H : Heap} {R : PostP} {v w : Value} {a b : List Nat}

/-- how limbs compare that lie one as long as the other, or not. -/
def cmpL (a b : List Nat) : Int := if a.length ≠ b.length then cmpZ a.length b.length else cmpZ (natL a) (natL b)

theorem cmpZ_cast {x y : Nat} : cmpZ (x : Int) (y : Int) = if x < y then -1 else if y < x then 1 else 0 := by
  unfold cmpZ; (repeat' split) <;> omega

/-- the highest limb that differs says it. -/
theorem natL_high {i : Nat} (hab : a.length = b.length) (ha : LimOk a) (hb : LimOk b) (hi : i < a.length) (he : a.drop (i + 1) = b.drop (i + 1)) (hne : a.getD i 0 ≠ b.getD i 0) :
    cmpZ (natL a : Int) (natL b : Int) = cmpZ (a.getD i 0 : Int) (b.getD i 0 : Int) := by
  have h1 : natL a = natL (a.take i) + 4294967296 ^ i * a.getD i 0 + 4294967296 ^ (i + 1) * natL (a.drop (i + 1)) := by
    have := natL_append (a.take (i + 1)) (a.drop (i + 1))
    rw [List.take_append_drop, List.length_take, Nat.min_eq_left (by omega)] at this
    rw [this, natL_take_succ hi]
  have h2 : natL b = natL (b.take i) + 4294967296 ^ i * b.getD i 0 + 4294967296 ^ (i + 1) * natL (b.drop (i + 1)) := by
    have := natL_append (b.take (i + 1)) (b.drop (i + 1))
    rw [List.take_append_drop, List.length_take, Nat.min_eq_left (by omega)] at this
    rw [this, natL_take_succ (by omega)]
  have h3 := natL_lt (a.take i) (fun x hx => ha x (List.mem_of_mem_take hx))
  have h4 := natL_lt (b.take i) (fun x hx => hb x (List.mem_of_mem_take hx))
  rw [List.length_take, Nat.min_eq_left (by omega)] at h3 h4
  rw [he] at h1
  generalize 4294967296 ^ (i + 1) * natL (b.drop (i + 1)) = Z at h1 h2
  generalize a.getD i 0 = x at *
  generalize b.getD i 0 = y at *
  generalize 4294967296 ^ i = P at *
  rw [cmpZ_cast, cmpZ_cast]
  by_cases hxy : x < y
  · have : P * (x + 1) ≤ P * y := Nat.mul_le_mul_left P hxy
    rw [Nat.mul_add] at this
    rw [if_pos (by omega), if_pos hxy]
  · have : P * (y + 1) ≤ P * x := Nat.mul_le_mul_left P (by omega)
    rw [Nat.mul_add] at this
    rw [if_neg (by omega), if_pos (by omega), if_neg hxy, if_pos (by omega)]

theorem num_cmp_does (ha : Lim H v a) (hb : Lim H w b) (hf : fl ≤ H.size) (hna : a.length < 4611686018427387904) :
    Does env fl f_123 [v, w] H (fun r H' => r = .int .i64 (cmpL a b) ∧ Ext H H') R := by
  refine does_ext e_123 hf (h := ?_)
  intro ρ h0
  simp only [s_123]
  have w1 : IntKind.i64.wrap ((a.length : Int) - 1) = (a.length : Int) - 1 := wrap64 (by omega) (by omega)
  simp [r_123_0, r_123_1, r_123_2, r_123_3, h0, ha.slen, hb.slen, w1]
  refine ⟨fun h => ?_, fun hab => ?_⟩
  · refine (num_order_int_does (Nat.le_refl _)).mono ?_
    rintro _ G ⟨rfl, hx⟩
    simp [cmpL, h]
  have hcl : cmpL a b = cmpZ (natL a) (natL b) := by simp [cmpL, hab]
  rw [hcl]
  refine W_loopM (fun k t G' => t.length = 41 ∧ get t 0 = v ∧ get t 1 = w ∧ get t 5 = .int .i64 ((k : Int) - 1) ∧ G' = H ∧ k ≤ a.length ∧ a.drop k = b.drop k)
    (fun t G' => t.length = 41 ∧ G' = H ∧ a = b) a.length (by simp [h0, hab]) ?_ ?_
  · clear h0 ρ
    rintro k t G' ⟨ht, g0, g1, g5, rfl, hk, hd⟩
    obtain ⟨ρ, rfl⟩ := toT ht
    simp only [get_T, Nat.reduceLT] at g0 g1 g5
    by_cases hk0 : k = 0
    · subst hk0
      simp [r_123_4, g0, g1, g5]
      simpa using hd
    · have e0 : (k : Int) - 1 = ((k - 1 : Nat) : Int) := by omega
      have hka : k - 1 < a.length := by omega
      have hkb : k - 1 < b.length := by omega
      have hla := ha.load hka (Ext.refl _)
      have hlb := hb.load hkb (Ext.refl _)
      have w2 : IntKind.i64.wrap (((k - 1 : Nat) : Int) - 1) = ((k - 1 : Nat) : Int) - 1 := wrap64 (by omega) (by omega)
      rw [e0] at g5
      have hla' := ha.ia (k := .i64) hka
      have hlb' := hb.ia (k := .i64) hkb
      have hh := natL_high hab ha.ok hb.ok hka (by rw [show k - 1 + 1 = k by omega]; exact hd)
      generalize hA : a.getD (k - 1) 0 = A at hla hh
      generalize hB : b.getD (k - 1) 0 = B at hlb hh
      simp [r_123_4, g0, g1, g5]
      refine W_draw ?_
      simp [r_123_5, g0, g1, g5, hla, hla', hlb, hlb']
      refine ⟨fun hne => ?_, fun heq => ?_⟩
      · refine W_draw ?_
        simp [r_123_6, g0, g1, g5, hla, hla', hlb, hlb']
        refine (num_order_uint32_does (Nat.le_refl _)).mono ?_
        rintro _ G ⟨rfl, hx⟩
        simp [hh hne]
      · simp [r_123_7, g0, g1, g5, w2]
        refine ⟨k - 1, by omega, rfl, by omega, ?_⟩
        rw [List.drop_eq_getElem_cons hka, List.drop_eq_getElem_cons hkb, show k - 1 + 1 = k by omega, hd]
        congr 1
        rw [List.getD_eq_getElem?_getD, List.getElem?_eq_getElem hka] at hA
        rw [List.getD_eq_getElem?_getD, List.getElem?_eq_getElem hkb] at hB
        simp at hA hB; omega
  · clear h0 ρ
    rintro t G' ⟨ht, rfl, rfl⟩
    obtain ⟨ρ, rfl⟩ := toT ht
    simp [r_123_8, cmpZ]
end Go.Proofs.YtjlohmnnldbjoaaGreat.AI

/- Numbers as they lie and what they say. -/
namespace Go.Proofs.YtjlohmnnldbjoaaGreat.AI
open Go

variable {fl : Nat} {H : Heap} {R : PostP} {v : Value} {i : Bool × List Nat} {a b : List Nat}

theorem IntV.ok (h : IntV H v i) : LimOk i.2 := by obtain ⟨s, _, hs⟩ := h; exact hs.ok

theorem trim_last {l : List Nat} (h : l.length = 0 ∨ l.getD (l.length - 1) 0 ≠ 0) : trimL l = l := by
  rcases List.eq_nil_or_concat l with rfl | ⟨l', x, rfl⟩
  · rfl
  · have : x ≠ 0 := by
      rcases h with h | h
      · simp at h
      · simpa [List.getD_eq_getElem?_getD] using h
    rw [List.concat_eq_append]; exact trimL_snoc this

theorem limbsL_trim (i : Bool × List Nat) : trimL (limbsL i) = limbsL i := by
  unfold limbsL
  by_cases h : mayB i = true
  · rw [if_pos h]
    refine trim_last ?_
    unfold mayB at h
    by_cases h0 : i.2.length = 0
    · exact .inl h0
    · rw [if_neg h0] at h; exact .inr (by simpa using h)
  · rw [if_neg h]; rfl

theorem limbsL_ok (h : LimOk i.2) : LimOk (limbsL i) := by
  unfold limbsL; split
  · exact h
  · intro x hx; simp at hx

theorem valI_abs (i : Bool × List Nat) : (valI i).natAbs = natL (limbsL i) := by
  unfold valI limbsL
  by_cases h : mayB i = true
  · rw [if_pos h, if_pos h]; split <;> omega
  · rw [if_neg h, if_neg h]; rfl

theorem limbsL_eq (h : LimOk i.2) : limbsL i = digits (valI i).natAbs := by
  rw [valI_abs, ← trimL_digits _ (limbsL_ok h), limbsL_trim]

theorem negB_eq (i : Bool × List Nat) : negB i = decide (valI i < 0) := by
  unfold negB valI
  by_cases h : mayB i = true
  · rw [if_pos h, h, Bool.true_and]
    by_cases hn : i.1 = true
    · have h0 : natL i.2 ≠ 0 := by
        intro h0
        have h1 := (natL_zero i.2).1 h0
        have h2 := limbsL_trim i
        unfold limbsL at h2
        rw [if_pos h, h1] at h2
        unfold mayB at h
        rw [← h2] at h
        simp [hn] at h
      rw [if_pos hn, hn]; simp; omega
    · rw [if_neg hn]; simp [hn]
  · rw [if_neg h]; simp [h]

theorem len_limbsL (i : Bool × List Nat) : (limbsL i).length ≤ i.2.length := by unfold limbsL; split <;> simp

theorem len_digits_val (h : LimOk i.2) : (digits (valI i).natAbs).length ≤ i.2.length := by rw [← limbsL_eq h]; exact len_limbsL i

theorem digits_mono {m n : Nat} (h : m ≤ n) : (digits m).length ≤ (digits n).length := digits_len (Nat.lt_of_le_of_lt h (lt_digits n))

theorem cmpL_digits (m n : Nat) : cmpL (digits m) (digits n) = cmpZ m n := by
  unfold cmpL
  rw [natL_digits, natL_digits]
  split
  · rename_i h
    rw [cmpZ_cast, cmpZ_cast]
    by_cases hmn : m < n
    · have := digits_mono (Nat.le_of_lt hmn)
      rw [if_pos hmn, if_pos (by omega)]
    · have := digits_mono (show n ≤ m by omega)
      have hne : m ≠ n := fun h2 => h (by rw [h2])
      rw [if_neg hmn, if_pos (by omega : n < m), if_neg (by omega), if_pos (by omega)]
  · rfl

/-- limbs, negative or not, of a number. -/
theorem limbs_does (h : IntV H v i) (hf : fl ≤ H.size) (hn : i.2.length < 4611686018427387904) :
    Does env fl f_119 [v] H (fun r H' => Lim H' r (digits (valI i).natAbs) ∧ Ext H H') R := by
  rw [← limbsL_eq h.ok]; exact num_limbs_does h hf hn
theorem neg_does (h : IntV H v i) (hf : fl ≤ H.size) (hn : i.2.length < 4611686018427387904) :
    Does env fl f_120 [v] H (fun r H' => r = .bool (decide (valI i < 0)) ∧ Ext H H') R := by
  rw [← negB_eq]; exact num_neg_does h hf hn
theorem made_does {l : List Nat} {b : Bool} (z : Int) (h : Lim H v l) (hf : fl ≤ H.size) (hn : l.length ≤ 1073741824) (hz : (if b then -(natL l : Int) else natL l) = z) :
    Does env fl f_121 [.bool b, v] H (fun r H' => IntV H' r (canonI z) ∧ Ext H H') R := by
  rw [← hz, ← mkI_eq h.ok]; exact num_made_does h hf hn

theorem IntV.setT (h : IntV H v i) {p : Nat} {ro : Bool} {e' : TypeId} {cs' : List Value} {r : Blk} (hb : H.blk p = .row ro e' cs') (hne : e' ≠ T_uint32) : IntV (H.setIfInBounds p r) v i := by
  obtain ⟨s, h1, h2⟩ := h; exact ⟨s, h1, h2.setT hb hne⟩

end Go.Proofs.YtjlohmnnldbjoaaGreat.AI
