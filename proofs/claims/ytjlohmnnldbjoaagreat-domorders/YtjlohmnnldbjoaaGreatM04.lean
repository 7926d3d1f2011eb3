/- Part 5 of the proof: AiCode2, AiCode3, AiEnv. -/
import Derived.Test.YtjlohmnnldbjoaaGreatM03
set_option linter.unusedVariables false
set_option linter.unusedSimpArgs false
set_option linter.unusedSectionVars false

/- The small code of the program's functions: printed. -/
namespace Go.Proofs.YtjlohmnnldbjoaaGreat.AI
open Go

def r_134_0 : List SOper := [o 1 (.box T_api_Int (t 0)),o 2 (.alloc T_api_Int [(.bool false), (.slice none 0 0)])]
def r_134_1 : List SOper := [o 3 (.load true 2 (t 1)),o 4 (.call f_105 [(t 3)] true),
  ⟨none, none, .store 2 (t 1) (t 4)⟩]
def r_134_2 : List SOper := [o 5 (.fa 0 (t 1)),o 6 (.load false 1 (t 5)),o 7 (.un .not (t 6)),o 8 (.fa 1 (t 1)),o 9 (.load false 1 (t 8)),o 10 (.call f_76 [(t 7), (t 9)] true),
  ⟨none, none, .store 2 (t 2) (t 10)⟩]
def s_134 : SFun := ⟨1, 11, [.cell 2 true 2],
  (.seq (.reg r_134_0) (.seq (.reg r_134_1) (.seq (.reg r_134_2) .ret)))⟩

def r_135_0 : List SOper := [o 4 (.mv (i 0))]
def r_135_1 : List SOper := [o 6 (.mv (t 0)),o 7 (.len (t 6)),o 8 (.mv (i 0))]
def r_135_2 : List SOper := [o 9 (.bin 0 .lss (t 8) (t 7))]
def r_135_3 : List SOper := [o 10 (.mv (t 8)),o 5 (.mv (t 10))]
def r_135_4 : List SOper := [o 11 (.mv (t 1)),o 12 (.mv (t 0)),o 13 (.mv (t 5)),o 14 (.ia 1 (t 12) (t 13)),o 15 (.load false 1 (t 14)),o 16 (.callv (t 11) [(t 15)] true)]
def r_135_5 : List SOper := [o 17 (.mv (t 5)),o 4 (.mv (t 17))]
def r_135_6 : List SOper := [o 18 (.bin 0 .add (t 8) (i 1)),o 8 (.mv (t 18))]
def r_135_7 : List SOper := [o 4 (.mv (.const (.int .i64 (-1))))]
def s_135 : SFun := ⟨2, 19, [.tmp 4],
  (.seq (.reg r_135_0) (.seq (.seq (.reg r_135_1) (.block 0 (.loop (.seq (.reg r_135_2) (.seq (.cond (t 9) .skip (.exit 0)) (.seq (.block 1 (.seq (.reg r_135_3) (.seq (.reg r_135_4) (.cond (t 16) (.seq (.reg r_135_5) .ret) .skip)))) (.reg r_135_6))))))) (.seq (.reg r_135_7) .ret)))⟩

def r_136_0 : List SOper := [o 2 (.mv (.const (.slice none 0 0))),o 3 (.alloc T_api_Rat [(.bool false), (.slice none 0 0), (.bool false), (.slice none 0 0)])]
def r_136_1 : List SOper := [o 21 (.call f_126 [(i 1)] true),o 4 (.alloc T_api_Int [(.bool false), (.slice none 0 0)]),
  ⟨none, none, .store 2 (t 4) (t 21)⟩]
def r_136_2 : List SOper := [o 22 (.mv (t 0)),o 23 (.len (t 22)),o 24 (.mv (i 0))]
def r_136_3 : List SOper := [o 25 (.bin 0 .lss (t 24) (t 23))]
def r_136_4 : List SOper := [o 26 (.ia 4 (t 22) (t 24)),o 27 (.load true 4 (t 26)),o 6 (.alloc T_api_Rat [(.bool false), (.slice none 0 0), (.bool false), (.slice none 0 0)]),
  ⟨none, none, .store 4 (t 6) (t 27)⟩]
def r_136_5 : List SOper := [o 29 (.fa 2 (t 6)),o 30 (.load true 2 (t 29)),o 31 (.load true 2 (t 4)),o 32 (.fa 2 (t 6)),o 33 (.load true 2 (t 32)),o 34 (.call f_133 [(t 31), (t 33)] false),o 35 (.call f_152 [(t 30), (t 34)] false),o 28 (.mv (t 35)),o 36 (.ext (t 28) 0),o 37 (.ext (t 28) 1),o 38 (.ext (t 28) 2),o 7 (.alloc T_api_Int [(.bool false), (.slice none 0 0)]),o 8 (.alloc T_api_Int [(.bool false), (.slice none 0 0)]),
  ⟨none, none, .store 2 (t 7) (t 36)⟩,
  ⟨none, none, .store 2 (t 8) (t 37)⟩,o 9 (.mv (t 38))]
def r_136_6 : List SOper := [o 39 (.load true 2 (t 4)),o 40 (.load true 2 (t 7)),o 41 (.call f_89 [(t 39), (t 40)] true),
  ⟨none, none, .store 2 (t 4) (t 41)⟩]
def r_136_7 : List SOper := [o 42 (.bin 0 .add (t 24) (i 1)),o 24 (.mv (t 42))]
def r_136_8 : List SOper := [o 10 (.mv (.const (.slice none 0 0)))]
def r_136_9 : List SOper := [o 43 (.build [(.bool false), (.slice none 0 0)] []),o 11 (.alloc T_api_Int [(.bool false), (.slice none 0 0)]),
  ⟨none, none, .store 2 (t 11) (t 43)⟩]
def r_136_10 : List SOper := [o 44 (.mv (t 0)),o 45 (.len (t 44)),o 46 (.mv (i 0))]
def r_136_11 : List SOper := [o 47 (.bin 0 .lss (t 46) (t 45))]
def r_136_12 : List SOper := [o 48 (.ia 4 (t 44) (t 46)),o 49 (.load true 4 (t 48)),o 13 (.alloc T_api_Rat [(.bool false), (.slice none 0 0), (.bool false), (.slice none 0 0)]),
  ⟨none, none, .store 4 (t 13) (t 49)⟩]
def r_136_13 : List SOper := [o 51 (.load true 2 (t 4)),o 52 (.fa 2 (t 13)),o 53 (.load true 2 (t 52)),o 54 (.call f_152 [(t 51), (t 53)] true),o 50 (.mv (t 54)),o 55 (.ext (t 50) 0),o 56 (.ext (t 50) 1),o 57 (.ext (t 50) 2),o 14 (.alloc T_api_Int [(.bool false), (.slice none 0 0)]),o 15 (.alloc T_api_Int [(.bool false), (.slice none 0 0)]),
  ⟨none, none, .store 2 (t 14) (t 55)⟩,
  ⟨none, none, .store 2 (t 15) (t 56)⟩,o 16 (.mv (t 57))]
def r_136_14 : List SOper := [o 58 (.fa 0 (t 13)),o 59 (.load true 2 (t 58)),o 60 (.load true 2 (t 14)),o 61 (.call f_89 [(t 59), (t 60)] true),o 17 (.alloc T_api_Int [(.bool false), (.slice none 0 0)]),
  ⟨none, none, .store 2 (t 17) (t 61)⟩]
def r_136_15 : List SOper := [o 62 (.mv (t 10)),o 63 (.load true 2 (t 17)),o 64 (.lit T_api_Int [(.bool false), (.slice none 0 0)] 1 [(0, 2, (t 63))]),o 65 (.app T_api_Int 2 32 (t 62) (t 64)),o 10 (.mv (t 65))]
def r_136_16 : List SOper := [o 66 (.load true 2 (t 11)),o 67 (.load true 2 (t 17)),o 68 (.call f_133 [(t 66), (t 67)] true),
  ⟨none, none, .store 2 (t 11) (t 68)⟩]
def r_136_17 : List SOper := [o 69 (.bin 0 .add (t 46) (i 1)),o 46 (.mv (t 69))]
def r_136_18 : List SOper := [o 70 (.load true 2 (t 11)),o 71 (.build [(.bool false), (.slice none 0 0)] []),o 72 (.call f_127 [(t 70), (t 71)] true),o 73 (.bin 0 .eql (t 72) (i 0))]
def r_136_19 : List SOper := [o 74 (.call f_126 [(i 1)] true),
  ⟨none, none, .store 2 (t 11) (t 74)⟩]
def r_136_20 : List SOper := [o 75 (.mv (t 10)),o 76 (.len (t 75)),o 77 (.mv (i 0))]
def r_136_21 : List SOper := [o 78 (.bin 0 .lss (t 77) (t 76))]
def r_136_22 : List SOper := [o 79 (.mv (t 77)),o 18 (.mv (t 79))]
def r_136_23 : List SOper := [o 81 (.mv (t 10)),o 82 (.mv (t 18)),o 83 (.mv (t 10)),o 84 (.mv (t 18)),o 85 (.ia 2 (t 83) (t 84)),o 86 (.load true 2 (t 85)),o 87 (.load true 2 (t 11)),o 88 (.call f_152 [(t 86), (t 87)] true),o 80 (.mv (t 88)),o 89 (.ext (t 80) 0),o 90 (.ext (t 80) 1),o 91 (.ext (t 80) 2),o 92 (.ia 2 (t 81) (t 82)),
  ⟨none, none, .store 2 (t 92) (t 89)⟩]
def r_136_24 : List SOper := [o 93 (.bin 0 .add (t 77) (i 1)),o 77 (.mv (t 93))]
def r_136_25 : List SOper := [o 95 (.load true 2 (t 4)),o 96 (.load true 2 (t 11)),o 97 (.call f_118 [(t 95), (t 96)] true),o 94 (.mv (t 97)),o 98 (.ext (t 94) 0),o 99 (.ext (t 94) 1),o 19 (.alloc T_api_Rat [(.bool false), (.slice none 0 0), (.bool false), (.slice none 0 0)]),
  ⟨none, none, .store 4 (t 19) (t 98)⟩,o 20 (.mv (t 99))]
def r_136_26 : List SOper := [o 100 (.mv (t 10)),o 101 (.load true 4 (t 19)),o 2 (.mv (t 100)),
  ⟨none, none, .store 4 (t 3) (t 101)⟩]
def s_136 : SFun := ⟨1, 102, [.tmp 2, .cell 3 true 4],
  (.seq (.reg r_136_0) (.seq (.reg r_136_1) (.seq (.seq (.reg r_136_2) (.block 0 (.loop (.seq (.reg r_136_3) (.seq (.cond (t 25) .skip (.exit 0)) (.seq (.block 1 (.seq (.reg r_136_4) (.seq (.draw r_136_5 [0, 1, 0, 0, 8, 28, 63, 127, 255, 255, 255, 0, 0, 6655, 15359, 32767] []) (.reg r_136_6)))) (.reg r_136_7))))))) (.seq (.reg r_136_8) (.seq (.reg r_136_9) (.seq (.seq (.reg r_136_10) (.block 2 (.loop (.seq (.reg r_136_11) (.seq (.cond (t 47) .skip (.exit 2)) (.seq (.block 3 (.seq (.reg r_136_12) (.seq (.reg r_136_13) (.seq (.reg r_136_14) (.seq (.reg r_136_15) (.reg r_136_16)))))) (.reg r_136_17))))))) (.seq (.seq (.reg r_136_18) (.cond (t 73) (.reg r_136_19) .skip)) (.seq (.seq (.reg r_136_20) (.block 4 (.loop (.seq (.reg r_136_21) (.seq (.cond (t 78) .skip (.exit 4)) (.seq (.block 5 (.seq (.reg r_136_22) (.draw r_136_23 [0, 0, 0, 0, 12, 28, 0, 124, 252, 508, 508, 508, 1023, 5119] []))) (.reg r_136_24))))))) (.seq (.reg r_136_25) (.seq (.draw r_136_26 [0, 0, 1, 7] []) .ret))))))))))⟩

def r_137_0 : List SOper := [o 2 (.mv (.const (.slice none 0 0)))]
def r_137_1 : List SOper := [o 6 (.mv (t 0)),o 7 (.len (t 6)),o 8 (.bin 0 .add (t 7) (i 1)),o 9 (.mk T_api_Rat 64 [(.bool false), (.slice none 0 0), (.bool false), (.slice none 0 0)] (i 0) (t 8)),o 3 (.mv (t 9))]
def r_137_2 : List SOper := [o 10 (.mv (t 0)),o 11 (.len (t 10)),o 12 (.mv (i 0))]
def r_137_3 : List SOper := [o 13 (.bin 0 .lss (t 12) (t 11))]
def r_137_4 : List SOper := [o 14 (.ia 4 (t 10) (t 12)),o 15 (.load true 4 (t 14)),o 5 (.alloc T_api_Rat [(.bool false), (.slice none 0 0), (.bool false), (.slice none 0 0)]),
  ⟨none, none, .store 4 (t 5) (t 15)⟩]
def r_137_5 : List SOper := [o 16 (.mv (t 3)),o 17 (.load true 4 (t 5)),o 18 (.build [(.bool false), (.slice none 0 0), (.bool false), (.slice none 0 0)] []),o 19 (.call f_51 [(t 17), (t 18)] true),o 20 (.lit T_api_Rat [(.bool false), (.slice none 0 0), (.bool false), (.slice none 0 0)] 1 [(0, 4, (t 19))]),o 21 (.app T_api_Rat 4 64 (t 16) (t 20)),o 3 (.mv (t 21))]
def r_137_6 : List SOper := [o 22 (.bin 0 .add (t 12) (i 1)),o 12 (.mv (t 22))]
def r_137_7 : List SOper := [o 23 (.mv (t 3)),o 2 (.mv (t 23))]
def s_137 : SFun := ⟨1, 24, [.tmp 2],
  (.seq (.reg r_137_0) (.seq (.reg r_137_1) (.seq (.seq (.reg r_137_2) (.block 0 (.loop (.seq (.reg r_137_3) (.seq (.cond (t 13) .skip (.exit 0)) (.seq (.block 1 (.seq (.reg r_137_4) (.reg r_137_5))) (.reg r_137_6))))))) (.seq (.reg r_137_7) .ret))))⟩

def r_139_0 : List SOper := [o 3 (.box T_simplex_few (t 0)),o 4 (.box T_api_LP (t 1)),o 5 (.box T_simplex_scaled (t 2)),o 6 (.alloc T_api_Answer [(.int .i64 0), (.bool false), (.slice none 0 0), (.bool false), (.slice none 0 0), (.slice none 0 0), (.slice none 0 0), (.slice none 0 0)]),o 7 (.mv (i 0))]
def r_139_1 : List SOper := [o 16 (.load true 0 (t 3)),o 17 (.load true 8 (t 5)),o 18 (.call f_157 [(t 16), (t 17)] true),o 8 (.alloc T_simplex_tableau_int64_simplex_few [(.pointer none)]),
  ⟨none, none, .store 1 (t 8) (t 18)⟩]
def r_139_2 : List SOper := [o 19 (.load false 1 (t 8)),o 20 (.chk (t 19)),o 21 (.fa 1 (t 20)),o 22 (.load false 1 (t 21)),o 23 (.load false 1 (t 8)),o 24 (.chk (t 23)),o 25 (.fa 1 (t 24)),o 26 (.load false 1 (t 25)),o 27 (.bin 0 .add (t 26) (i 1)),o 9 (.mv (t 22)),o 10 (.mv (t 27))]
def r_139_3 : List SOper := [o 28 (.load false 1 (t 8)),o 29 (.mv (t 9)),o 30 (.call f_158 [(t 28), (t 29)] true)]
def r_139_4 : List SOper := [o 31 (.load false 1 (t 8)),o 32 (.chk (t 31)),o 33 (.fa0 T_simplex_tableau_int64_simplex_few_167 (t 32)),o 34 (.load true 0 (t 33)),o 35 (.iface T_simplex_few (t 34)),o 36 (.load false 1 (t 8)),o 37 (.chk (t 36)),o 38 (.fa 3 (t 37)),o 39 (.load false 1 (t 38)),o 40 (.mv (t 9)),o 41 (.ia 1 (t 39) (t 40)),o 42 (.load false 1 (t 41)),o 43 (.load false 1 (t 8)),o 44 (.chk (t 43)),o 45 (.fa 2 (t 44)),o 46 (.load false 1 (t 45)),o 47 (.ia 1 (t 42) (t 46)),o 48 (.load false 1 (t 47)),o 49 (.inv (t 35) [(T_simplex_all, f_205), (T_simplex_few, f_212)] [(t 48)] true),o 50 (.bin 0 .lss (t 49) (i 0))]
def r_139_5 : List SOper := [o 51 (.call f_90 [(i 0)] false),o 52 (.load false 1 (t 8)),o 53 (.mv (t 9)),o 54 (.load true 8 (t 5)),o 55 (.call f_90 [(i 1)] false),o 56 (.call f_159 [(t 52), (t 53), (t 54), (t 55)] false),o 57 (.build [(.int .i64 0), (.bool false), (.slice none 0 0), (.bool false), (.slice none 0 0), (.slice none 0 0), (.slice none 0 0), (.slice none 0 0)] [(0, 1, (i 2)), (1, 4, (t 51)), (6, 1, (t 56))]),o 58 (.load false 1 (t 8)),o 59 (.chk (t 58)),o 60 (.fa 6 (t 59)),o 61 (.load false 1 (t 60)),
  ⟨none, none, .store 8 (t 6) (t 57)⟩,o 7 (.mv (t 61))]
def r_139_6 : List SOper := [o 62 (.load false 1 (t 8)),o 63 (.call f_160 [(t 62)] true)]
def r_139_7 : List SOper := [o 64 (.load false 1 (t 8)),o 65 (.mv (t 10)),o 66 (.call f_158 [(t 64), (t 65)] true),o 11 (.mv (t 66))]
def r_139_8 : List SOper := [o 67 (.load false 1 (t 8)),o 68 (.mkfn (.func f_162) [] [(t 8)]),o 69 (.call f_161 [(t 67), (t 68)] true),o 12 (.mv (t 69))]
def r_139_9 : List SOper := [o 70 (.mv (t 11)),o 71 (.bin 0 .geq (t 70) (i 0))]
def r_139_10 : List SOper := [o 72 (.call f_90 [(i 0)] false),o 73 (.mv (t 12)),o 74 (.load false 1 (t 8)),o 75 (.mv (t 11)),o 76 (.call f_163 [(t 74), (t 75)] false),o 77 (.build [(.int .i64 0), (.bool false), (.slice none 0 0), (.bool false), (.slice none 0 0), (.slice none 0 0), (.slice none 0 0), (.slice none 0 0)] [(0, 1, (i 3)), (1, 4, (t 72)), (5, 1, (t 73)), (7, 1, (t 76))]),o 78 (.load false 1 (t 8)),o 79 (.chk (t 78)),o 80 (.fa 6 (t 79)),o 81 (.load false 1 (t 80)),
  ⟨none, none, .store 8 (t 6) (t 77)⟩,o 7 (.mv (t 81))]
def r_139_11 : List SOper := [o 82 (.call f_90 [(i 0)] true),o 13 (.alloc T_api_Rat [(.bool false), (.slice none 0 0), (.bool false), (.slice none 0 0)]),
  ⟨none, none, .store 4 (t 13) (t 82)⟩]
def r_139_12 : List SOper := [o 83 (.fa 3 (t 4)),o 84 (.load false 1 (t 83)),o 85 (.len (t 84)),o 86 (.mv (i 0))]
def r_139_13 : List SOper := [o 87 (.bin 0 .lss (t 86) (t 85))]
def r_139_14 : List SOper := [o 88 (.mv (t 86)),o 89 (.ia 4 (t 84) (t 86)),o 90 (.load true 4 (t 89)),o 15 (.alloc T_api_Rat [(.bool false), (.slice none 0 0), (.bool false), (.slice none 0 0)]),o 14 (.mv (t 88)),
  ⟨none, none, .store 4 (t 15) (t 90)⟩]
def r_139_15 : List SOper := [o 91 (.load true 4 (t 13)),o 92 (.load true 4 (t 15)),o 93 (.mv (t 12)),o 94 (.mv (t 14)),o 95 (.ia 4 (t 93) (t 94)),o 96 (.load true 4 (t 95)),o 97 (.call f_91 [(t 92), (t 96)] false),o 98 (.call f_51 [(t 91), (t 97)] true),
  ⟨none, none, .store 4 (t 13) (t 98)⟩]
def r_139_16 : List SOper := [o 99 (.bin 0 .add (t 86) (i 1)),o 86 (.mv (t 99))]
def r_139_17 : List SOper := [o 100 (.load true 4 (t 13)),o 101 (.mv (t 12)),o 102 (.load false 1 (t 8)),o 103 (.mv (t 10)),o 104 (.load true 8 (t 5)),o 105 (.fa 4 (t 5)),o 106 (.load true 4 (t 105)),o 107 (.call f_159 [(t 102), (t 103), (t 104), (t 106)] false),o 108 (.build [(.int .i64 0), (.bool false), (.slice none 0 0), (.bool false), (.slice none 0 0), (.slice none 0 0), (.slice none 0 0), (.slice none 0 0)] [(0, 1, (i 1)), (1, 4, (t 100)), (5, 1, (t 101)), (6, 1, (t 107))]),o 109 (.load false 1 (t 8)),o 110 (.chk (t 109)),o 111 (.fa 6 (t 110)),o 112 (.load false 1 (t 111)),
  ⟨none, none, .store 8 (t 6) (t 108)⟩,o 7 (.mv (t 112))]
def s_139 : SFun := ⟨3, 113, [.cell 6 true 8, .tmp 7],
  (.seq (.reg r_139_0) (.seq (.reg r_139_1) (.seq (.draw r_139_2 [0, 1, 3, 7, 0, 16, 48, 112, 240, 15, 1023] []) (.seq (.reg r_139_3) (.seq (.seq (.draw r_139_4 [0, 1, 3, 7, 15, 0, 32, 96, 224, 0, 992, 2016, 0, 4096, 12288, 28672, 65504, 131040, 262143, 524287] []) (.cond (t 50) (.seq (.draw r_139_5 [0, 0, 0, 0, 1, 31, 63, 0, 128, 384, 896, 127, 4095] [(7, 11), (10, 11)]) .ret) .skip)) (.seq (.reg r_139_6) (.seq (.reg r_139_7) (.seq (.reg r_139_8) (.seq (.seq (.reg r_139_9) (.cond (t 71) (.seq (.draw r_139_10 [0, 0, 0, 0, 13, 31, 0, 64, 192, 448, 63, 2047] [(6, 10), (9, 10)]) .ret) .skip)) (.seq (.reg r_139_11) (.seq (.seq (.reg r_139_12) (.block 0 (.loop (.seq (.reg r_139_13) (.seq (.cond (t 87) .skip (.exit 0)) (.seq (.block 1 (.seq (.reg r_139_14) (.draw r_139_15 [0, 0, 0, 0, 12, 28, 62, 127, 255] []))) (.reg r_139_16))))))) (.seq (.draw r_139_17 [0, 0, 0, 0, 0, 0, 32, 124, 255, 0, 512, 1536, 3584, 511, 16383] [(9, 13), (12, 13)]) .ret))))))))))))⟩

def r_140_0 : List SOper := [o 2 (.box T_simplex_all (t 0)),o 3 (.box T_simplex_scaled (t 1)),o 4 (.mv (.const (.pointer none)))]
def r_140_1 : List SOper := [o 22 (.fa 1 (t 3)),o 23 (.load false 1 (t 22)),o 24 (.len (t 23)),o 5 (.mv (t 24))]
def r_140_2 : List SOper := [o 25 (.load true 0 (t 2)),o 26 (.fa 0 (t 3)),o 27 (.load false 1 (t 26)),o 28 (.mv (t 5)),o 29 (.fa 0 (t 3)),o 30 (.load false 1 (t 29)),o 31 (.bin 0 .mul (i 2) (t 30)),o 32 (.mv (t 5)),o 33 (.bin 0 .add (t 31) (t 32)),o 34 (.load true 0 (t 2)),o 35 (.iface T_simplex_all (t 34)),o 36 (.call f_126 [(i 1)] false),o 37 (.inv (t 35) [(T_simplex_all, f_204), (T_simplex_few, f_211)] [(t 36)] false),o 38 (.build [(.int .i64 0), (.int .i64 0), (.int .i64 0), (.slice none 0 0), (.bool false), (.slice none 0 0), (.slice none 0 0), (.int .i64 0)] [(0, 0, (t 25)), (0, 1, (t 27)), (1, 1, (t 28)), (2, 1, (t 33)), (4, 2, (t 37))]),o 39 (.box T_simplex_tableau_api_Int_simplex_all_150 (t 38)),o 6 (.alloc T_simplex_tableau_api_Int_simplex_all [(.pointer none)]),
  ⟨none, none, .store 1 (t 6) (t 39)⟩]
def r_140_3 : List SOper := [o 40 (.load true 0 (t 2)),o 41 (.iface T_simplex_all (t 40)),o 42 (.build [(.bool false), (.slice none 0 0)] []),o 43 (.inv (t 41) [(T_simplex_all, f_204), (T_simplex_few, f_211)] [(t 42)] true),o 7 (.alloc T_api_Int [(.bool false), (.slice none 0 0)]),
  ⟨none, none, .store 2 (t 7) (t 43)⟩]
def r_140_4 : List SOper := [o 44 (.mkfn (.func f_164) [] [(t 6), (t 7)]),o 8 (.mv (t 44))]
def r_140_5 : List SOper := [o 45 (.mv (t 8)),o 46 (.callv (t 45) [] true),o 47 (.mv (t 8)),o 48 (.callv (t 47) [] true),o 9 (.mv (t 46)),o 10 (.mv (t 48))]
def r_140_6 : List SOper := [o 49 (.fa 3 (t 3)),o 50 (.load false 1 (t 49)),o 51 (.len (t 50)),o 52 (.mv (i 0))]
def r_140_7 : List SOper := [o 53 (.bin 0 .lss (t 52) (t 51))]
def r_140_8 : List SOper := [o 54 (.mv (t 52)),o 55 (.ia 2 (t 50) (t 52)),o 56 (.load true 2 (t 55)),o 12 (.alloc T_api_Int [(.bool false), (.slice none 0 0)]),o 11 (.mv (t 54)),
  ⟨none, none, .store 2 (t 12) (t 56)⟩]
def r_140_9 : List SOper := [o 57 (.load true 0 (t 2)),o 58 (.iface T_simplex_all (t 57)),o 59 (.load true 2 (t 12)),o 60 (.inv (t 58) [(T_simplex_all, f_204), (T_simplex_few, f_211)] [(t 59)] true),o 13 (.alloc T_api_Int [(.bool false), (.slice none 0 0)]),
  ⟨none, none, .store 2 (t 13) (t 60)⟩]
def r_140_10 : List SOper := [o 61 (.mv (t 10)),o 62 (.mv (t 11)),o 63 (.mv (t 10)),o 64 (.fa 0 (t 3)),o 65 (.load false 1 (t 64)),o 66 (.mv (t 11)),o 67 (.bin 0 .add (t 65) (t 66)),o 68 (.load true 0 (t 2)),o 69 (.iface T_simplex_all (t 68)),o 70 (.load true 2 (t 13)),o 71 (.inv (t 69) [(T_simplex_all, f_202), (T_simplex_few, f_209)] [(t 70)] false),o 72 (.load true 2 (t 13)),o 73 (.ia 2 (t 61) (t 62)),
  ⟨none, none, .store 2 (t 73) (t 71)⟩,o 74 (.ia 2 (t 63) (t 67)),
  ⟨none, none, .store 2 (t 74) (t 72)⟩]
def r_140_11 : List SOper := [o 75 (.bin 0 .add (t 52) (i 1)),o 52 (.mv (t 75))]
def r_140_12 : List SOper := [o 76 (.fa 1 (t 3)),o 77 (.load false 1 (t 76)),o 78 (.len (t 77)),o 79 (.mv (i 0))]
def r_140_13 : List SOper := [o 80 (.bin 0 .lss (t 79) (t 78))]
def r_140_14 : List SOper := [o 81 (.mv (t 79)),o 82 (.ia 1 (t 77) (t 79)),o 83 (.load false 1 (t 82)),o 14 (.mv (t 81)),o 15 (.mv (t 83))]
def r_140_15 : List SOper := [o 84 (.mv (t 8)),o 85 (.callv (t 84) [] true),o 16 (.mv (t 85))]
def r_140_16 : List SOper := [o 86 (.mv (t 15)),o 87 (.fa 0 (t 3)),o 88 (.load false 1 (t 87)),o 89 (.sl T_api_Int 2 (t 86) none (some (t 88)) none),o 90 (.len (t 89)),o 91 (.mv (i 0))]
def r_140_17 : List SOper := [o 92 (.bin 0 .lss (t 91) (t 90))]
def r_140_18 : List SOper := [o 93 (.mv (t 91)),o 94 (.ia 2 (t 89) (t 91)),o 95 (.load true 2 (t 94)),o 18 (.alloc T_api_Int [(.bool false), (.slice none 0 0)]),o 17 (.mv (t 93)),
  ⟨none, none, .store 2 (t 18) (t 95)⟩]
def r_140_19 : List SOper := [o 96 (.load true 0 (t 2)),o 97 (.iface T_simplex_all (t 96)),o 98 (.load true 2 (t 18)),o 99 (.inv (t 97) [(T_simplex_all, f_204), (T_simplex_few, f_211)] [(t 98)] true),o 19 (.alloc T_api_Int [(.bool false), (.slice none 0 0)]),
  ⟨none, none, .store 2 (t 19) (t 99)⟩]
def r_140_20 : List SOper := [o 100 (.mv (t 16)),o 101 (.mv (t 17)),o 102 (.mv (t 16)),o 103 (.fa 0 (t 3)),o 104 (.load false 1 (t 103)),o 105 (.mv (t 17)),o 106 (.bin 0 .add (t 104) (t 105)),o 107 (.load true 2 (t 19)),o 108 (.load true 0 (t 2)),o 109 (.iface T_simplex_all (t 108)),o 110 (.load true 2 (t 19)),o 111 (.inv (t 109) [(T_simplex_all, f_202), (T_simplex_few, f_209)] [(t 110)] false),o 112 (.ia 2 (t 100) (t 101)),
  ⟨none, none, .store 2 (t 112) (t 107)⟩,o 113 (.ia 2 (t 102) (t 106)),
  ⟨none, none, .store 2 (t 113) (t 111)⟩]
def r_140_21 : List SOper := [o 114 (.bin 0 .add (t 91) (i 1)),o 91 (.mv (t 114))]
def r_140_22 : List SOper := [o 115 (.mv (t 16)),o 116 (.fa 0 (t 3)),o 117 (.load false 1 (t 116)),o 118 (.bin 0 .mul (i 2) (t 117)),o 119 (.mv (t 14)),o 120 (.bin 0 .add (t 118) (t 119)),o 121 (.load false 1 (t 6)),o 122 (.chk (t 121)),o 123 (.fa 4 (t 122)),o 124 (.load true 2 (t 123)),o 125 (.ia 2 (t 115) (t 120)),
  ⟨none, none, .store 2 (t 125) (t 124)⟩]
def r_140_23 : List SOper := [o 126 (.mv (t 16)),o 127 (.load false 1 (t 6)),o 128 (.chk (t 127)),o 129 (.fa 2 (t 128)),o 130 (.load false 1 (t 129)),o 131 (.load true 0 (t 2)),o 132 (.iface T_simplex_all (t 131)),o 133 (.mv (t 15)),o 134 (.fa 0 (t 3)),o 135 (.load false 1 (t 134)),o 136 (.ia 2 (t 133) (t 135)),o 137 (.load true 2 (t 136)),o 138 (.inv (t 132) [(T_simplex_all, f_204), (T_simplex_few, f_211)] [(t 137)] false),o 139 (.ia 2 (t 126) (t 130)),
  ⟨none, none, .store 2 (t 139) (t 138)⟩]
def r_140_24 : List SOper := [o 140 (.fa 0 (t 3)),o 141 (.load false 1 (t 140)),o 142 (.bin 0 .mul (i 2) (t 141)),o 143 (.mv (t 14)),o 144 (.bin 0 .add (t 142) (t 143)),o 20 (.mv (t 144))]
def r_140_25 : List SOper := [o 145 (.load true 0 (t 2)),o 146 (.iface T_simplex_all (t 145)),o 147 (.mv (t 16)),o 148 (.load false 1 (t 6)),o 149 (.chk (t 148)),o 150 (.fa 2 (t 149)),o 151 (.load false 1 (t 150)),o 152 (.ia 2 (t 147) (t 151)),o 153 (.load true 2 (t 152)),o 154 (.inv (t 146) [(T_simplex_all, f_205), (T_simplex_few, f_212)] [(t 153)] true),o 155 (.bin 0 .lss (t 154) (i 0))]
def r_140_26 : List SOper := [o 156 (.load false 1 (t 6)),o 157 (.chk (t 156)),o 158 (.fa 2 (t 157)),o 159 (.load false 1 (t 158)),o 160 (.mv (t 14)),o 161 (.bin 0 .add (t 159) (t 160)),o 20 (.mv (t 161))]
def r_140_27 : List SOper := [o 162 (.mv (t 16)),o 163 (.len (t 162)),o 164 (.mv (i 0))]
def r_140_28 : List SOper := [o 165 (.bin 0 .lss (t 164) (t 163))]
def r_140_29 : List SOper := [o 166 (.mv (t 164)),o 21 (.mv (t 166))]
def r_140_30 : List SOper := [o 167 (.mv (t 16)),o 168 (.mv (t 21)),o 169 (.load true 0 (t 2)),o 170 (.iface T_simplex_all (t 169)),o 171 (.mv (t 16)),o 172 (.mv (t 21)),o 173 (.ia 2 (t 171) (t 172)),o 174 (.load true 2 (t 173)),o 175 (.inv (t 170) [(T_simplex_all, f_202), (T_simplex_few, f_209)] [(t 174)] true),o 176 (.ia 2 (t 167) (t 168)),
  ⟨none, none, .store 2 (t 176) (t 175)⟩]
def r_140_31 : List SOper := [o 177 (.mv (t 9)),o 178 (.mv (t 21)),o 179 (.load false 1 (t 6)),o 180 (.mv (t 9)),o 181 (.mv (t 21)),o 182 (.ia 2 (t 180) (t 181)),o 183 (.load true 2 (t 182)),o 184 (.mv (t 16)),o 185 (.mv (t 21)),o 186 (.ia 2 (t 184) (t 185)),o 187 (.load true 2 (t 186)),o 188 (.call f_165 [(t 179), (t 183), (t 187)] true),o 189 (.ia 2 (t 177) (t 178)),
  ⟨none, none, .store 2 (t 189) (t 188)⟩]
def r_140_32 : List SOper := [o 190 (.bin 0 .add (t 164) (i 1)),o 164 (.mv (t 190))]
def r_140_33 : List SOper := [o 191 (.load false 1 (t 6)),o 192 (.load false 1 (t 6)),o 193 (.load false 1 (t 6)),o 194 (.chk (t 193)),o 195 (.fa 3 (t 194)),o 196 (.load false 1 (t 195)),o 197 (.mv (t 16)),o 198 (.lit T_sl_api_Int [(.slice none 0 0)] 1 [(0, 1, (t 197))]),o 199 (.app T_sl_api_Int 1 24 (t 196) (t 198)),o 200 (.load false 1 (t 6)),o 201 (.chk (t 200)),o 202 (.fa 6 (t 201)),o 203 (.load false 1 (t 202)),o 204 (.mv (t 20)),o 205 (.lit T_int [(.int .i64 0)] 1 [(0, 1, (t 204))]),o 206 (.app T_int 1 8 (t 203) (t 205)),o 207 (.chk (t 191)),o 208 (.fa 3 (t 207)),
  ⟨none, none, .store 1 (t 208) (t 199)⟩,o 209 (.chk (t 192)),o 210 (.fa 6 (t 209)),
  ⟨none, none, .store 1 (t 210) (t 206)⟩]
def r_140_34 : List SOper := [o 211 (.bin 0 .add (t 79) (i 1)),o 79 (.mv (t 211))]
def r_140_35 : List SOper := [o 212 (.load false 1 (t 6)),o 213 (.load false 1 (t 6)),o 214 (.chk (t 213)),o 215 (.fa 3 (t 214)),o 216 (.load false 1 (t 215)),o 217 (.mv (t 9)),o 218 (.mv (t 10)),o 219 (.lit T_sl_api_Int [(.slice none 0 0)] 2 [(0, 1, (t 217)), (1, 1, (t 218))]),o 220 (.app T_sl_api_Int 1 24 (t 216) (t 219)),o 221 (.chk (t 212)),o 222 (.fa 3 (t 221)),
  ⟨none, none, .store 1 (t 222) (t 220)⟩]
def r_140_36 : List SOper := [o 223 (.load false 1 (t 6)),o 4 (.mv (t 223))]
def s_140 : SFun := ⟨2, 224, [.tmp 4],
  (.seq (.reg r_140_0) (.seq (.reg r_140_1) (.seq (.draw r_140_2 [0, 0, 2, 0, 0, 16, 48, 0, 240, 0, 512, 0, 3584, 8191, 16383, 0, 65535] []) (.seq (.reg r_140_3) (.seq (.reg r_140_4) (.seq (.reg r_140_5) (.seq (.seq (.reg r_140_6) (.block 0 (.loop (.seq (.reg r_140_7) (.seq (.cond (t 53) .skip (.exit 0)) (.seq (.block 1 (.seq (.reg r_140_8) (.seq (.reg r_140_9) (.draw r_140_10 [0, 0, 0, 0, 8, 0, 56, 0, 128, 0, 896, 0, 1923, 6019, 16383, 32767] [(4, 13), (11, 13)])))) (.reg r_140_11))))))) (.seq (.seq (.reg r_140_12) (.block 2 (.loop (.seq (.reg r_140_13) (.seq (.cond (t 80) .skip (.exit 2)) (.seq (.block 3 (.seq (.reg r_140_14) (.seq (.reg r_140_15) (.seq (.seq (.reg r_140_16) (.block 4 (.loop (.seq (.reg r_140_17) (.seq (.cond (t 92) .skip (.exit 4)) (.seq (.block 5 (.seq (.reg r_140_18) (.seq (.reg r_140_19) (.draw r_140_20 [0, 0, 0, 0, 8, 0, 56, 0, 0, 256, 0, 1792, 3971, 8067, 16383, 32767] [(4, 13)])))) (.reg r_140_21))))))) (.seq (.draw r_140_22 [0, 0, 2, 6, 0, 30, 0, 64, 192, 448, 1023, 2047] []) (.seq (.draw r_140_23 [0, 0, 2, 6, 14, 0, 32, 0, 0, 256, 896, 1920, 4064, 8191, 16383] []) (.seq (.reg r_140_24) (.seq (.seq (.draw r_140_25 [0, 1, 0, 0, 8, 24, 56, 124, 252, 511, 1023] []) (.cond (t 155) (.seq (.reg r_140_26) (.seq (.reg r_140_27) (.block 6 (.loop (.seq (.reg r_140_28) (.seq (.cond (t 165) .skip (.exit 6)) (.seq (.block 7 (.seq (.reg r_140_29) (.seq (.draw r_140_30 [0, 0, 0, 4, 0, 0, 48, 112, 252, 511, 1023] []) (.draw r_140_31 [0, 0, 0, 0, 0, 24, 56, 0, 0, 384, 896, 2044, 4095, 8191] [])))) (.reg r_140_32)))))))) .skip)) (.draw r_140_33 [0, 0, 0, 4, 12, 28, 0, 64, 252, 0, 512, 1536, 3584, 0, 8192, 32764, 65533, 131069, 262141, 524287, 1048575, 2097151] [(0, 8), (1, 8), (8, 9), (8, 12), (8, 14), (0, 15), (1, 15), (1, 18)]))))))))) (.reg r_140_34))))))) (.seq (.draw r_140_35 [0, 0, 2, 6, 14, 0, 0, 96, 254, 511, 1023, 2047] [(0, 8)]) (.seq (.reg r_140_36) .ret))))))))))⟩

def r_141_0 : List SOper := [o 4 (.mv (i 0))]
def r_141_1 : List SOper := [o 5 (.mv (i 0))]
def r_141_2 : List SOper := [o 7 (.mv (t 5)),o 8 (.mv (t 0)),o 9 (.chk (t 8)),o 10 (.fa 2 (t 9)),o 11 (.load false 1 (t 10)),o 12 (.bin 0 .lss (t 7) (t 11)),o 13 (.mv (t 12)),og 14 13 true (.mv (t 0)),og 15 13 true (.chk (t 14)),og 16 13 true (.fa0 T_simplex_tableau_api_Int_simplex_all_150 (t 15)),og 17 13 true (.load true 0 (t 16)),og 18 13 true (.iface T_simplex_all (t 17)),og 19 13 true (.mv (t 0)),og 20 13 true (.chk (t 19)),og 21 13 true (.fa 3 (t 20)),og 22 13 true (.load false 1 (t 21)),og 23 13 true (.mv (t 1)),og 24 13 true (.ia 1 (t 22) (t 23)),og 25 13 true (.load false 1 (t 24)),og 26 13 true (.mv (t 5)),og 27 13 true (.ia 2 (t 25) (t 26)),og 28 13 true (.load true 2 (t 27)),og 29 13 true (.inv (t 18) [(T_simplex_all, f_205), (T_simplex_few, f_212)] [(t 28)] true),og 30 13 true (.bin 0 .geq (t 29) (i 0)),o 31 (.pick (t 13) (t 30) (.const (.bool false)))]
def r_141_3 : List SOper := [o 32 (.mv (t 5)),o 33 (.bin 0 .add (t 32) (i 1)),o 5 (.mv (t 33))]
def r_141_4 : List SOper := [o 34 (.mv (t 5)),o 35 (.mv (t 0)),o 36 (.chk (t 35)),o 37 (.fa 2 (t 36)),o 38 (.load false 1 (t 37)),o 39 (.bin 0 .eql (t 34) (t 38))]
def r_141_5 : List SOper := [o 4 (.mv (.const (.int .i64 (-1))))]
def r_141_6 : List SOper := [o 40 (.mv (t 0)),o 41 (.mv (t 5)),o 42 (.call f_166 [(t 40), (t 41)] true),o 6 (.mv (t 42))]
def r_141_7 : List SOper := [o 43 (.mv (t 6)),o 44 (.bin 0 .lss (t 43) (i 0))]
def r_141_8 : List SOper := [o 45 (.mv (t 5)),o 4 (.mv (t 45))]
def r_141_9 : List SOper := [o 46 (.mv (t 0)),o 47 (.mv (t 6)),o 48 (.mv (t 5)),o 49 (.call f_167 [(t 46), (t 47), (t 48)] true)]
def s_141 : SFun := ⟨2, 50, [.tmp 4],
  (.seq (.reg r_141_0) (.block 0 (.loop (.block 1 (.seq (.reg r_141_1) (.seq (.block 2 (.loop (.seq (.seq (.draw r_141_2 [0, 0, 2, 6, 14, 31, 63, 127, 255, 511, 1023, 2047, 127, 4223, 12415, 28799, 127, 127103, 258175, 127, 1044607, 2093183, 4194303, 8388607, 16777215] []) (.cond (t 31) .skip (.exit 2))) (.block 3 (.reg r_141_3))))) (.seq (.seq (.reg r_141_4) (.cond (t 39) (.seq (.reg r_141_5) .ret) .skip)) (.seq (.reg r_141_6) (.seq (.seq (.reg r_141_7) (.cond (t 44) (.seq (.reg r_141_8) .ret) .skip)) (.reg r_141_9))))))))))⟩

def r_142_0 : List SOper := [o 6 (.box T_simplex_scaled (t 2)),o 7 (.box T_api_Rat (t 3)),o 8 (.mv (.const (.slice none 0 0)))]
def r_142_1 : List SOper := [o 9 (.mv (.const (.slice none 0 0)))]
def r_142_2 : List SOper := [o 13 (.mv (t 0)),o 14 (.chk (t 13)),o 15 (.fa 1 (t 14)),o 16 (.load false 1 (t 15)),o 17 (.mv (i 0))]
def r_142_3 : List SOper := [o 18 (.bin 0 .lss (t 17) (t 16))]
def r_142_4 : List SOper := [o 19 (.mv (t 17)),o 10 (.mv (t 19))]
def r_142_5 : List SOper := [o 21 (.mv (t 0)),o 22 (.mv (t 0)),o 23 (.chk (t 22)),o 24 (.fa 3 (t 23)),o 25 (.load false 1 (t 24)),o 26 (.mv (t 1)),o 27 (.ia 1 (t 25) (t 26)),o 28 (.load false 1 (t 27)),o 29 (.mv (t 0)),o 30 (.chk (t 29)),o 31 (.fa 0 (t 30)),o 32 (.load false 1 (t 31)),o 33 (.bin 0 .mul (i 2) (t 32)),o 34 (.mv (t 10)),o 35 (.bin 0 .add (t 33) (t 34)),o 36 (.ia 2 (t 28) (t 35)),o 37 (.load true 2 (t 36)),o 38 (.call f_169 [(t 21), (t 37)] false),o 39 (.fa 2 (t 6)),o 40 (.load false 1 (t 39)),o 41 (.mv (t 10)),o 42 (.ia 4 (t 40) (t 41)),o 43 (.load true 4 (t 42)),o 44 (.call f_91 [(t 38), (t 43)] false),o 45 (.load true 4 (t 7)),o 46 (.call f_168 [(t 44), (t 45)] false),o 20 (.mv (t 46)),o 47 (.ext (t 20) 0),o 48 (.ext (t 20) 1),o 11 (.alloc T_api_Rat [(.bool false), (.slice none 0 0), (.bool false), (.slice none 0 0)]),
  ⟨none, none, .store 4 (t 11) (t 47)⟩,o 12 (.mv (t 48))]
def r_142_6 : List SOper := [o 49 (.mv (t 9)),o 50 (.load true 4 (t 11)),o 51 (.lit T_api_Rat [(.bool false), (.slice none 0 0), (.bool false), (.slice none 0 0)] 1 [(0, 4, (t 50))]),o 52 (.app T_api_Rat 4 64 (t 49) (t 51)),o 9 (.mv (t 52))]
def r_142_7 : List SOper := [o 53 (.bin 0 .add (t 17) (i 1)),o 17 (.mv (t 53))]
def r_142_8 : List SOper := [o 54 (.mv (t 9)),o 8 (.mv (t 54))]
def s_142 : SFun := ⟨4, 55, [.tmp 8],
  (.seq (.reg r_142_0) (.seq (.reg r_142_1) (.seq (.seq (.reg r_142_2) (.block 0 (.loop (.seq (.reg r_142_3) (.seq (.cond (t 18) .skip (.exit 0)) (.seq (.block 1 (.seq (.reg r_142_4) (.seq (.draw r_142_5 [0, 0, 2, 6, 14, 0, 62, 126, 0, 256, 768, 1792, 3840, 0, 16128, 32766, 65534, 131071, 0, 262144, 0, 1835008, 3932160, 8388607, 0, 33554431, 67108863, 134217727, 134217727, 0, 805306367, 2147483647] []) (.reg r_142_6)))) (.reg r_142_7))))))) (.seq (.reg r_142_8) .ret))))⟩

def r_143_0 : List SOper := [o 7 (.mv (t 0)),o 8 (.chk (t 7)),o 9 (.fa 1 (t 8)),o 10 (.load false 1 (t 9)),o 11 (.mv (i 0))]
def r_143_1 : List SOper := [o 12 (.bin 0 .lss (t 11) (t 10))]
def r_143_2 : List SOper := [o 13 (.mv (t 11)),o 2 (.mv (t 13))]
def r_143_3 : List SOper := [o 14 (.mv (t 0)),o 15 (.chk (t 14)),o 16 (.fa 6 (t 15)),o 17 (.load false 1 (t 16)),o 18 (.mv (t 2)),o 19 (.ia 1 (t 17) (t 18)),o 20 (.load false 1 (t 19)),o 21 (.mv (t 0)),o 22 (.chk (t 21)),o 23 (.fa 2 (t 22)),o 24 (.load false 1 (t 23)),o 25 (.bin 0 .lss (t 20) (t 24))]
def r_143_4 : List SOper := [o 26 (.mv (t 0)),o 27 (.chk (t 26)),o 28 (.fa 2 (t 27)),o 29 (.load false 1 (t 28)),o 30 (.mv (i 0))]
def r_143_5 : List SOper := [o 31 (.bin 0 .lss (t 30) (t 29))]
def r_143_6 : List SOper := [o 32 (.mv (t 30)),o 3 (.mv (t 32))]
def r_143_7 : List SOper := [o 33 (.mv (t 0)),o 34 (.chk (t 33)),o 35 (.fa0 T_simplex_tableau_api_Int_simplex_all_150 (t 34)),o 36 (.load true 0 (t 35)),o 37 (.iface T_simplex_all (t 36)),o 38 (.mv (t 0)),o 39 (.chk (t 38)),o 40 (.fa 3 (t 39)),o 41 (.load false 1 (t 40)),o 42 (.mv (t 2)),o 43 (.ia 1 (t 41) (t 42)),o 44 (.load false 1 (t 43)),o 45 (.mv (t 3)),o 46 (.ia 2 (t 44) (t 45)),o 47 (.load true 2 (t 46)),o 48 (.inv (t 37) [(T_simplex_all, f_205), (T_simplex_few, f_212)] [(t 47)] true),o 4 (.mv (t 48))]
def r_143_8 : List SOper := [o 49 (.mv (t 4)),o 50 (.bin 0 .eql (t 49) (i 0))]
def r_143_9 : List SOper := [o 51 (.mv (t 4)),o 52 (.bin 0 .lss (t 51) (i 0))]
def r_143_10 : List SOper := [o 53 (.mv (t 0)),o 54 (.chk (t 53)),o 55 (.fa 3 (t 54)),o 56 (.load false 1 (t 55)),o 57 (.mv (t 2)),o 58 (.ia 1 (t 56) (t 57)),o 59 (.load false 1 (t 58)),o 60 (.len (t 59)),o 61 (.mv (i 0))]
def r_143_11 : List SOper := [o 62 (.bin 0 .lss (t 61) (t 60))]
def r_143_12 : List SOper := [o 63 (.mv (t 61)),o 64 (.ia 2 (t 59) (t 61)),o 65 (.load true 2 (t 64)),o 6 (.alloc T_api_Int [(.bool false), (.slice none 0 0)]),o 5 (.mv (t 63)),
  ⟨none, none, .store 2 (t 6) (t 65)⟩]
def r_143_13 : List SOper := [o 66 (.mv (t 0)),o 67 (.chk (t 66)),o 68 (.fa 3 (t 67)),o 69 (.load false 1 (t 68)),o 70 (.mv (t 2)),o 71 (.ia 1 (t 69) (t 70)),o 72 (.load false 1 (t 71)),o 73 (.mv (t 5)),o 74 (.mv (t 0)),o 75 (.chk (t 74)),o 76 (.fa0 T_simplex_tableau_api_Int_simplex_all_150 (t 75)),o 77 (.load true 0 (t 76)),o 78 (.iface T_simplex_all (t 77)),o 79 (.load true 2 (t 6)),o 80 (.inv (t 78) [(T_simplex_all, f_202), (T_simplex_few, f_209)] [(t 79)] false),o 81 (.ia 2 (t 72) (t 73)),
  ⟨none, none, .store 2 (t 81) (t 80)⟩]
def r_143_14 : List SOper := [o 82 (.bin 0 .add (t 61) (i 1)),o 61 (.mv (t 82))]
def r_143_15 : List SOper := [o 83 (.mv (t 0)),o 84 (.mv (t 2)),o 85 (.mv (t 3)),o 86 (.call f_167 [(t 83), (t 84), (t 85)] true)]
def r_143_16 : List SOper := [o 87 (.bin 0 .add (t 30) (i 1)),o 30 (.mv (t 87))]
def r_143_17 : List SOper := [o 88 (.bin 0 .add (t 11) (i 1)),o 11 (.mv (t 88))]
def s_143 : SFun := ⟨1, 89, [],
  (.seq (.reg r_143_0) (.block 0 (.loop (.seq (.reg r_143_1) (.seq (.cond (t 12) .skip (.exit 0)) (.seq (.block 1 (.seq (.reg r_143_2) (.seq (.seq (.draw r_143_3 [0, 1, 3, 7, 0, 31, 63, 0, 128, 384, 896, 2047] []) (.cond (t 25) (.exit 1) .skip)) (.seq (.reg r_143_4) (.block 2 (.loop (.seq (.reg r_143_5) (.seq (.cond (t 31) .skip (.exit 2)) (.seq (.block 3 (.seq (.reg r_143_6) (.seq (.draw r_143_7 [0, 1, 3, 7, 15, 0, 32, 96, 224, 0, 992, 2016, 0, 8160, 16352, 32767, 65535] []) (.seq (.seq (.reg r_143_8) (.cond (t 50) (.exit 3) .skip)) (.seq (.seq (.reg r_143_9) (.cond (t 52) (.seq (.reg r_143_10) (.block 4 (.loop (.seq (.reg r_143_11) (.seq (.cond (t 62) .skip (.exit 4)) (.seq (.block 5 (.seq (.reg r_143_12) (.draw r_143_13 [0, 1, 3, 7, 0, 31, 63, 0, 0, 256, 768, 1792, 3840, 0, 16128, 32767, 65535] []))) (.reg r_143_14))))))) .skip)) (.seq (.reg r_143_15) (.exit 2))))))) (.reg r_143_16)))))))))) (.reg r_143_17)))))))⟩

def r_144_0 : List SOper := [o 4 (.mv (.const (.slice none 0 0)))]
def r_144_1 : List SOper := [o 9 (.mv (t 0)),o 10 (.chk (t 9)),o 11 (.fa 0 (t 10)),o 12 (.load false 1 (t 11)),o 13 (.mk T_api_Rat 64 [(.bool false), (.slice none 0 0), (.bool false), (.slice none 0 0)] (t 12) (t 12)),o 5 (.mv (t 13))]
def r_144_2 : List SOper := [o 14 (.mv (t 5)),o 15 (.len (t 14)),o 16 (.mv (i 0))]
def r_144_3 : List SOper := [o 17 (.bin 0 .lss (t 16) (t 15))]
def r_144_4 : List SOper := [o 18 (.mv (t 16)),o 6 (.mv (t 18))]
def r_144_5 : List SOper := [o 19 (.mv (t 5)),o 20 (.mv (t 6)),o 21 (.call f_90 [(i 0)] true),o 22 (.ia 4 (t 19) (t 20)),
  ⟨none, none, .store 4 (t 22) (t 21)⟩]
def r_144_6 : List SOper := [o 23 (.bin 0 .add (t 16) (i 1)),o 16 (.mv (t 23))]
def r_144_7 : List SOper := [o 24 (.mv (t 0)),o 25 (.chk (t 24)),o 26 (.fa 6 (t 25)),o 27 (.load false 1 (t 26)),o 28 (.len (t 27)),o 29 (.mv (i 0))]
def r_144_8 : List SOper := [o 30 (.bin 0 .lss (t 29) (t 28))]
def r_144_9 : List SOper := [o 31 (.mv (t 29)),o 32 (.ia 1 (t 27) (t 29)),o 33 (.load false 1 (t 32)),o 7 (.mv (t 31)),o 8 (.mv (t 33))]
def r_144_10 : List SOper := [o 35 (.mv (t 8)),o 36 (.mv (t 0)),o 37 (.chk (t 36)),o 38 (.fa 0 (t 37)),o 39 (.load false 1 (t 38)),o 40 (.bin 0 .lss (t 35) (t 39)),o 34 (.mv (t 40))]
def r_144_11 : List SOper := [o 41 (.mv (t 5)),o 42 (.mv (t 8)),o 43 (.mv (t 5)),o 44 (.mv (t 8)),o 45 (.ia 4 (t 43) (t 44)),o 46 (.load true 4 (t 45)),o 47 (.mv (t 0)),o 48 (.mv (t 1)),o 49 (.mv (t 7)),o 50 (.callv (t 48) [(t 49)] false),o 51 (.call f_169 [(t 47), (t 50)] false),o 52 (.call f_51 [(t 46), (t 51)] true),o 53 (.ia 4 (t 41) (t 42)),
  ⟨none, none, .store 4 (t 53) (t 52)⟩]
def r_144_12 : List SOper := [o 55 (.mv (t 8)),o 56 (.mv (t 0)),o 57 (.chk (t 56)),o 58 (.fa 0 (t 57)),o 59 (.load false 1 (t 58)),o 60 (.bin 0 .mul (i 2) (t 59)),o 61 (.bin 0 .lss (t 55) (t 60)),o 54 (.mv (t 61))]
def r_144_13 : List SOper := [o 62 (.mv (t 5)),o 63 (.mv (t 8)),o 64 (.mv (t 0)),o 65 (.chk (t 64)),o 66 (.fa 0 (t 65)),o 67 (.load false 1 (t 66)),o 68 (.bin 0 .sub (t 63) (t 67)),o 69 (.mv (t 5)),o 70 (.mv (t 8)),o 71 (.mv (t 0)),o 72 (.chk (t 71)),o 73 (.fa 0 (t 72)),o 74 (.load false 1 (t 73)),o 75 (.bin 0 .sub (t 70) (t 74)),o 76 (.ia 4 (t 69) (t 75)),o 77 (.load true 4 (t 76)),o 78 (.mv (t 0)),o 79 (.mv (t 1)),o 80 (.mv (t 7)),o 81 (.callv (t 79) [(t 80)] false),o 82 (.call f_169 [(t 78), (t 81)] false),o 83 (.call f_170 [(t 77), (t 82)] false),o 84 (.ia 4 (t 62) (t 68)),
  ⟨none, none, .store 4 (t 84) (t 83)⟩]
def r_144_14 : List SOper := [o 85 (.bin 0 .add (t 29) (i 1)),o 29 (.mv (t 85))]
def r_144_15 : List SOper := [o 86 (.mv (t 5)),o 4 (.mv (t 86))]
def s_144 : SFun := ⟨2, 87, [.tmp 4],
  (.seq (.reg r_144_0) (.seq (.reg r_144_1) (.seq (.seq (.reg r_144_2) (.block 0 (.loop (.seq (.reg r_144_3) (.seq (.cond (t 17) .skip (.exit 0)) (.seq (.block 1 (.seq (.reg r_144_4) (.reg r_144_5))) (.reg r_144_6))))))) (.seq (.seq (.reg r_144_7) (.block 2 (.loop (.seq (.reg r_144_8) (.seq (.cond (t 30) .skip (.exit 2)) (.seq (.block 3 (.seq (.reg r_144_9) (.block 4 (.seq (.reg r_144_10) (.cond (t 34) (.draw r_144_11 [0, 0, 0, 0, 12, 28, 0, 0, 0, 384, 960, 2044, 4095, 8191] []) (.seq (.reg r_144_12) (.cond (t 54) (.draw r_144_13 [0, 0, 0, 4, 12, 28, 62, 0, 0, 0, 512, 1536, 3584, 7936, 16256, 32640, 0, 0, 0, 393216, 983040, 2097024, 4194303, 8388607] []) .skip))))))) (.reg r_144_14))))))) (.seq (.reg r_144_15) .ret)))))⟩

def r_145_0 : List SOper := [o 3 (.alloc T_api_Int [(.bool false), (.slice none 0 0)])]
def r_145_1 : List SOper := [o 4 (.load false 1 (t 1)),o 5 (.chk (t 4)),o 6 (.fa 3 (t 5)),o 7 (.load false 1 (t 6)),o 8 (.mv (t 0)),o 9 (.ia 1 (t 7) (t 8)),o 10 (.load false 1 (t 9)),o 11 (.load false 1 (t 1)),o 12 (.chk (t 11)),o 13 (.fa 2 (t 12)),o 14 (.load false 1 (t 13)),o 15 (.ia 2 (t 10) (t 14)),o 16 (.load true 2 (t 15)),
  ⟨none, none, .store 2 (t 3) (t 16)⟩]
def s_145 : SFun := ⟨2, 17, [.cell 3 true 2],
  (.seq (.reg r_145_0) (.seq (.draw r_145_1 [0, 1, 3, 7, 0, 31, 63, 0, 128, 384, 896, 2047, 4095, 8191] []) .ret))⟩

def r_146_0 : List SOper := [o 2 (.box T_simplex_tableau_api_Int_simplex_all (t 0)),o 3 (.box T_int (t 1)),o 4 (.mv (.const (.slice none 0 0)))]
def r_146_1 : List SOper := [o 6 (.load false 1 (t 2)),o 7 (.mkfn (.func f_171) [] [(t 2), (t 3)]),o 8 (.call f_144 [(t 6), (t 7)] true),o 5 (.mv (t 8))]
def r_146_2 : List SOper := [o 10 (.load false 1 (t 3)),o 11 (.load false 1 (t 2)),o 12 (.chk (t 11)),o 13 (.fa 0 (t 12)),o 14 (.load false 1 (t 13)),o 15 (.bin 0 .lss (t 10) (t 14)),o 9 (.mv (t 15))]
def r_146_3 : List SOper := [o 16 (.mv (t 5)),o 17 (.load false 1 (t 3)),o 18 (.mv (t 5)),o 19 (.load false 1 (t 3)),o 20 (.ia 4 (t 18) (t 19)),o 21 (.load true 4 (t 20)),o 22 (.call f_90 [(i 1)] false),o 23 (.call f_51 [(t 21), (t 22)] false),o 24 (.ia 4 (t 16) (t 17)),
  ⟨none, none, .store 4 (t 24) (t 23)⟩]
def r_146_4 : List SOper := [o 26 (.load false 1 (t 3)),o 27 (.load false 1 (t 2)),o 28 (.chk (t 27)),o 29 (.fa 0 (t 28)),o 30 (.load false 1 (t 29)),o 31 (.bin 0 .mul (i 2) (t 30)),o 32 (.bin 0 .lss (t 26) (t 31)),o 25 (.mv (t 32))]
def r_146_5 : List SOper := [o 33 (.mv (t 5)),o 34 (.load false 1 (t 3)),o 35 (.load false 1 (t 2)),o 36 (.chk (t 35)),o 37 (.fa 0 (t 36)),o 38 (.load false 1 (t 37)),o 39 (.bin 0 .sub (t 34) (t 38)),o 40 (.mv (t 5)),o 41 (.load false 1 (t 3)),o 42 (.load false 1 (t 2)),o 43 (.chk (t 42)),o 44 (.fa 0 (t 43)),o 45 (.load false 1 (t 44)),o 46 (.bin 0 .sub (t 41) (t 45)),o 47 (.ia 4 (t 40) (t 46)),o 48 (.load true 4 (t 47)),o 49 (.call f_90 [(i 1)] false),o 50 (.call f_170 [(t 48), (t 49)] false),o 51 (.ia 4 (t 33) (t 39)),
  ⟨none, none, .store 4 (t 51) (t 50)⟩]
def r_146_6 : List SOper := [o 52 (.mv (t 5)),o 4 (.mv (t 52))]
def s_146 : SFun := ⟨2, 53, [.tmp 4],
  (.seq (.reg r_146_0) (.seq (.reg r_146_1) (.seq (.block 0 (.seq (.draw r_146_2 [0, 0, 2, 6, 14, 31, 63] []) (.cond (t 9) (.draw r_146_3 [0, 0, 0, 0, 12, 28, 0, 124, 255, 511] []) (.seq (.draw r_146_4 [0, 0, 2, 6, 14, 30, 63, 127] []) (.cond (t 25) (.draw r_146_5 [0, 0, 0, 4, 12, 28, 62, 0, 0, 0, 512, 1536, 3584, 7936, 16256, 32640, 0, 130944, 262143, 524287] []) .skip))))) (.seq (.reg r_146_6) .ret))))⟩

def r_148_0 : List SOper := [o 4 (.mv (.const (.slice none 0 0)))]
def r_148_1 : List SOper := [o 5 (.mv (.const (.slice none 0 0)))]
def r_148_2 : List SOper := [o 6 (.mv (.const (.int .u64 0)))]
def r_148_3 : List SOper := [o 7 (.mv (i 0))]
def r_148_4 : List SOper := [o 9 (.mv (t 7)),o 10 (.mv (t 0)),o 11 (.len (t 10)),o 12 (.bin 0 .lss (t 9) (t 11)),o 13 (.mv (t 12)),og 14 13 false (.mv (t 7)),og 15 13 false (.mv (t 1)),og 16 13 false (.len (t 15)),og 17 13 false (.bin 0 .lss (t 14) (t 16)),o 18 (.pick (t 13) (.const (.bool true)) (t 17)),o 19 (.mv (t 18)),og 20 19 false (.mv (t 6)),og 21 19 false (.bin 0 .gtr (t 20) (.const (.int .u64 0))),o 22 (.pick (t 19) (.const (.bool true)) (t 21))]
def r_148_5 : List SOper := [o 25 (.mv (t 6)),o 8 (.mv (t 25))]
def r_148_6 : List SOper := [o 26 (.mv (t 7)),o 27 (.mv (t 0)),o 28 (.len (t 27)),o 29 (.bin 0 .lss (t 26) (t 28))]
def r_148_7 : List SOper := [o 30 (.mv (t 8)),o 31 (.mv (t 0)),o 32 (.mv (t 7)),o 33 (.ia 1 (t 31) (t 32)),o 34 (.load false 1 (t 33)),o 35 (.conv .u64 (t 34)),o 36 (.bin 0 .add (t 30) (t 35)),o 8 (.mv (t 36))]
def r_148_8 : List SOper := [o 37 (.mv (t 7)),o 38 (.mv (t 1)),o 39 (.len (t 38)),o 40 (.bin 0 .lss (t 37) (t 39))]
def r_148_9 : List SOper := [o 41 (.mv (t 8)),o 42 (.mv (t 1)),o 43 (.mv (t 7)),o 44 (.ia 1 (t 42) (t 43)),o 45 (.load false 1 (t 44)),o 46 (.conv .u64 (t 45)),o 47 (.bin 0 .add (t 41) (t 46)),o 8 (.mv (t 47))]
def r_148_10 : List SOper := [o 48 (.mv (t 5)),o 49 (.mv (t 8)),o 50 (.conv .u32 (t 49)),o 51 (.lit T_uint32 [(.int .u32 0)] 1 [(0, 1, (t 50))]),o 52 (.app T_uint32 1 4 (t 48) (t 51)),o 5 (.mv (t 52))]
def r_148_11 : List SOper := [o 53 (.mv (t 8)),o 54 (.bin 0 .shr (t 53) (.const (.int .u64 32))),o 6 (.mv (t 54))]
def r_148_12 : List SOper := [o 23 (.mv (t 7)),o 24 (.bin 0 .add (t 23) (i 1)),o 7 (.mv (t 24))]
def r_148_13 : List SOper := [o 55 (.mv (t 5)),o 56 (.call f_107 [(t 55)] true),o 4 (.mv (t 56))]
def s_148 : SFun := ⟨2, 57, [.tmp 4],
  (.seq (.reg r_148_0) (.seq (.reg r_148_1) (.seq (.reg r_148_2) (.seq (.seq (.reg r_148_3) (.block 0 (.loop (.seq (.seq (.reg r_148_4) (.cond (t 22) .skip (.exit 0))) (.seq (.block 1 (.seq (.reg r_148_5) (.seq (.seq (.reg r_148_6) (.cond (t 29) (.reg r_148_7) .skip)) (.seq (.seq (.reg r_148_8) (.cond (t 40) (.reg r_148_9) .skip)) (.seq (.reg r_148_10) (.reg r_148_11)))))) (.reg r_148_12)))))) (.seq (.reg r_148_13) .ret)))))⟩

def r_149_0 : List SOper := [o 4 (.mv (i 0))]
def r_149_1 : List SOper := [o 6 (.mv (t 0)),o 7 (.len (t 6)),o 8 (.mv (t 1)),o 9 (.len (t 8)),o 10 (.bin 0 .neq (t 7) (t 9))]
def r_149_2 : List SOper := [o 11 (.mv (t 0)),o 12 (.len (t 11)),o 13 (.mv (t 1)),o 14 (.len (t 13)),o 15 (.bin 0 .lss (t 12) (t 14))]
def r_149_3 : List SOper := [o 4 (.mv (.const (.int .i64 (-1))))]
def r_149_4 : List SOper := [o 4 (.mv (i 1))]
def r_149_5 : List SOper := [o 16 (.mv (t 0)),o 17 (.len (t 16)),o 18 (.bin 0 .sub (t 17) (i 1)),o 5 (.mv (t 18))]
def r_149_6 : List SOper := [o 19 (.mv (t 5)),o 20 (.bin 0 .geq (t 19) (i 0))]
def r_149_7 : List SOper := [o 23 (.mv (t 0)),o 24 (.mv (t 5)),o 25 (.ia 1 (t 23) (t 24)),o 26 (.load false 1 (t 25)),o 27 (.mv (t 1)),o 28 (.mv (t 5)),o 29 (.ia 1 (t 27) (t 28)),o 30 (.load false 1 (t 29)),o 31 (.bin 0 .lss (t 26) (t 30))]
def r_149_8 : List SOper := [o 4 (.mv (.const (.int .i64 (-1))))]
def r_149_9 : List SOper := [o 32 (.mv (t 0)),o 33 (.mv (t 5)),o 34 (.ia 1 (t 32) (t 33)),o 35 (.load false 1 (t 34)),o 36 (.mv (t 1)),o 37 (.mv (t 5)),o 38 (.ia 1 (t 36) (t 37)),o 39 (.load false 1 (t 38)),o 40 (.bin 0 .gtr (t 35) (t 39))]
def r_149_10 : List SOper := [o 4 (.mv (i 1))]
def r_149_11 : List SOper := [o 21 (.mv (t 5)),o 22 (.bin 0 .sub (t 21) (i 1)),o 5 (.mv (t 22))]
def r_149_12 : List SOper := [o 4 (.mv (i 0))]
def s_149 : SFun := ⟨2, 41, [.tmp 4],
  (.seq (.reg r_149_0) (.seq (.seq (.reg r_149_1) (.cond (t 10) (.seq (.seq (.reg r_149_2) (.cond (t 15) (.seq (.reg r_149_3) .ret) .skip)) (.seq (.reg r_149_4) .ret)) .skip)) (.seq (.seq (.reg r_149_5) (.block 0 (.loop (.seq (.seq (.reg r_149_6) (.cond (t 20) .skip (.exit 0))) (.seq (.block 1 (.seq (.seq (.draw r_149_7 [0, 0, 3, 7, 0, 0, 48, 112, 255] []) (.cond (t 31) (.seq (.reg r_149_8) .ret) .skip)) (.seq (.draw r_149_9 [0, 0, 3, 7, 0, 0, 48, 112, 255] []) (.cond (t 40) (.seq (.reg r_149_10) .ret) .skip)))) (.reg r_149_11)))))) (.seq (.reg r_149_12) .ret))))⟩

def r_150_0 : List SOper := [o 4 (.mv (.const (.slice none 0 0)))]
def r_150_1 : List SOper := [o 9 (.lit T_uint32 [(.int .u32 0)] 0 []),o 10 (.mv (t 0)),o 11 (.app T_uint32 1 4 (t 9) (t 10)),o 5 (.mv (t 11))]
def r_150_2 : List SOper := [o 6 (.mv (.const (.int .u64 0)))]
def r_150_3 : List SOper := [o 7 (.mv (i 0))]
def r_150_4 : List SOper := [o 12 (.mv (t 7)),o 13 (.mv (t 5)),o 14 (.len (t 13)),o 15 (.bin 0 .lss (t 12) (t 14))]
def r_150_5 : List SOper := [o 18 (.mv (t 6)),o 8 (.mv (t 18))]
def r_150_6 : List SOper := [o 19 (.mv (t 7)),o 20 (.mv (t 1)),o 21 (.len (t 20)),o 22 (.bin 0 .lss (t 19) (t 21))]
def r_150_7 : List SOper := [o 23 (.mv (t 8)),o 24 (.mv (t 1)),o 25 (.mv (t 7)),o 26 (.ia 1 (t 24) (t 25)),o 27 (.load false 1 (t 26)),o 28 (.conv .u64 (t 27)),o 29 (.bin 0 .add (t 23) (t 28)),o 8 (.mv (t 29))]
def r_150_8 : List SOper := [o 30 (.mv (t 5)),o 31 (.mv (t 7)),o 32 (.ia 1 (t 30) (t 31)),o 33 (.load false 1 (t 32)),o 34 (.conv .u64 (t 33)),o 35 (.mv (t 8)),o 36 (.bin 0 .geq (t 34) (t 35))]
def r_150_9 : List SOper := [o 37 (.mv (t 5)),o 38 (.mv (t 7)),o 39 (.mv (t 5)),o 40 (.mv (t 7)),o 41 (.ia 1 (t 39) (t 40)),o 42 (.load false 1 (t 41)),o 43 (.conv .u64 (t 42)),o 44 (.mv (t 8)),o 45 (.bin 0 .sub (t 43) (t 44)),o 46 (.conv .u32 (t 45)),o 47 (.ia 1 (t 37) (t 38)),
  ⟨none, none, .store 1 (t 47) (t 46)⟩]
def r_150_10 : List SOper := [o 6 (.mv (.const (.int .u64 0)))]
def r_150_11 : List SOper := [o 48 (.mv (t 5)),o 49 (.mv (t 7)),o 50 (.mv (t 5)),o 51 (.mv (t 7)),o 52 (.ia 1 (t 50) (t 51)),o 53 (.load false 1 (t 52)),o 54 (.conv .u64 (t 53)),o 55 (.bin 0 .add (t 54) (.const (.int .u64 4294967296))),o 56 (.mv (t 8)),o 57 (.bin 0 .sub (t 55) (t 56)),o 58 (.conv .u32 (t 57)),o 59 (.ia 1 (t 48) (t 49)),
  ⟨none, none, .store 1 (t 59) (t 58)⟩]
def r_150_12 : List SOper := [o 6 (.mv (.const (.int .u64 1)))]
def r_150_13 : List SOper := [o 16 (.mv (t 7)),o 17 (.bin 0 .add (t 16) (i 1)),o 7 (.mv (t 17))]
def r_150_14 : List SOper := [o 60 (.mv (t 5)),o 61 (.call f_107 [(t 60)] true),o 4 (.mv (t 61))]
def s_150 : SFun := ⟨2, 62, [.tmp 4],
  (.seq (.reg r_150_0) (.seq (.reg r_150_1) (.seq (.reg r_150_2) (.seq (.seq (.reg r_150_3) (.block 0 (.loop (.seq (.seq (.reg r_150_4) (.cond (t 15) .skip (.exit 0))) (.seq (.block 1 (.seq (.reg r_150_5) (.seq (.seq (.reg r_150_6) (.cond (t 22) (.reg r_150_7) .skip)) (.seq (.reg r_150_8) (.cond (t 36) (.seq (.reg r_150_9) (.reg r_150_10)) (.seq (.reg r_150_11) (.reg r_150_12))))))) (.reg r_150_13)))))) (.seq (.reg r_150_14) .ret)))))⟩

def r_151_0 : List SOper := [o 1 (.box T_api_Int (t 0)),o 2 (.alloc T_api_Int [(.bool false), (.slice none 0 0)])]
def r_151_1 : List SOper := [o 3 (.load true 2 (t 1)),o 4 (.call f_120 [(t 3)] false),o 5 (.un .not (t 4)),o 6 (.load true 2 (t 1)),o 7 (.call f_119 [(t 6)] true),o 8 (.call f_121 [(t 5), (t 7)] true),
  ⟨none, none, .store 2 (t 2) (t 8)⟩]
def s_151 : SFun := ⟨1, 9, [.cell 2 true 2],
  (.seq (.reg r_151_0) (.seq (.draw r_151_1 [0, 1, 3, 0, 11, 31, 63] []) .ret))⟩

def r_152_0 : List SOper := [o 2 (.box T_api_Int (t 0)),o 3 (.box T_api_Int (t 1)),o 4 (.alloc T_api_Int [(.bool false), (.slice none 0 0)]),o 5 (.alloc T_api_Int [(.bool false), (.slice none 0 0)]),o 6 (.mv (i 0))]
def r_152_1 : List SOper := [o 13 (.load true 2 (t 2)),o 14 (.call f_119 [(t 13)] false),o 15 (.load true 2 (t 3)),o 16 (.call f_119 [(t 15)] true),o 7 (.mv (t 14)),o 8 (.mv (t 16))]
def r_152_2 : List SOper := [o 18 (.mv (t 8)),o 19 (.len (t 18)),o 20 (.bin 0 .eql (t 19) (i 0)),o 17 (.mv (t 20))]
def r_152_3 : List SOper := [o 21 (.build [(.bool false), (.slice none 0 0)] []),o 22 (.build [(.bool false), (.slice none 0 0)] []),
  ⟨none, none, .store 2 (t 4) (t 21)⟩,
  ⟨none, none, .store 2 (t 5) (t 22)⟩,o 6 (.mv (i 1))]
def r_152_4 : List SOper := [o 24 (.mv (t 7)),o 25 (.mv (t 8)),o 26 (.call f_123 [(t 24), (t 25)] true),o 27 (.bin 0 .lss (t 26) (i 0)),o 23 (.mv (t 27))]
def r_152_5 : List SOper := [o 28 (.build [(.bool false), (.slice none 0 0)] []),o 29 (.load true 2 (t 2)),o 30 (.call f_120 [(t 29)] true),o 31 (.mv (t 7)),o 32 (.call f_121 [(t 30), (t 31)] true),
  ⟨none, none, .store 2 (t 4) (t 28)⟩,
  ⟨none, none, .store 2 (t 5) (t 32)⟩,o 6 (.mv (i 0))]
def r_152_6 : List SOper := [o 34 (.mv (t 8)),o 35 (.len (t 34)),o 36 (.bin 0 .eql (t 35) (i 1)),o 33 (.mv (t 36))]
def r_152_7 : List SOper := [o 38 (.mv (t 7)),o 39 (.mv (t 8)),o 40 (.ia 1 (t 39) (i 0)),o 41 (.load false 1 (t 40)),o 42 (.call f_172 [(t 38), (t 41)] true),o 37 (.mv (t 42)),o 43 (.ext (t 37) 0),o 44 (.ext (t 37) 1),o 9 (.mv (t 43)),o 10 (.mv (t 44))]
def r_152_8 : List SOper := [o 45 (.load true 2 (t 2)),o 46 (.call f_120 [(t 45)] false),o 47 (.load true 2 (t 3)),o 48 (.call f_120 [(t 47)] false),o 49 (.bin 1 .neq (t 46) (t 48)),o 50 (.mv (t 9)),o 51 (.call f_121 [(t 49), (t 50)] false),o 52 (.load true 2 (t 2)),o 53 (.call f_120 [(t 52)] false),o 54 (.mv (t 10)),o 55 (.lit T_uint32 [(.int .u32 0)] 1 [(0, 1, (t 54))]),o 56 (.call f_121 [(t 53), (t 55)] true),
  ⟨none, none, .store 2 (t 4) (t 51)⟩,
  ⟨none, none, .store 2 (t 5) (t 56)⟩,o 6 (.mv (i 0))]
def r_152_9 : List SOper := [o 58 (.mv (t 7)),o 59 (.mv (t 8)),o 60 (.call f_173 [(t 58), (t 59)] true),o 57 (.mv (t 60)),o 61 (.ext (t 57) 0),o 62 (.ext (t 57) 1),o 11 (.mv (t 61)),o 12 (.mv (t 62))]
def r_152_10 : List SOper := [o 63 (.load true 2 (t 2)),o 64 (.call f_120 [(t 63)] false),o 65 (.load true 2 (t 3)),o 66 (.call f_120 [(t 65)] false),o 67 (.bin 1 .neq (t 64) (t 66)),o 68 (.mv (t 11)),o 69 (.call f_121 [(t 67), (t 68)] false),o 70 (.load true 2 (t 2)),o 71 (.call f_120 [(t 70)] true),o 72 (.mv (t 12)),o 73 (.call f_121 [(t 71), (t 72)] true),
  ⟨none, none, .store 2 (t 4) (t 69)⟩,
  ⟨none, none, .store 2 (t 5) (t 73)⟩,o 6 (.mv (i 0))]
def s_152 : SFun := ⟨2, 74, [.cell 4 true 2, .cell 5 true 2, .tmp 6],
  (.seq (.reg r_152_0) (.seq (.draw r_152_1 [0, 1, 0, 7, 15, 31] []) (.seq (.block 0 (.seq (.reg r_152_2) (.cond (t 17) (.seq (.reg r_152_3) .ret) (.seq (.reg r_152_4) (.cond (t 23) (.seq (.reg r_152_5) .ret) (.seq (.reg r_152_6) (.cond (t 33) (.seq (.reg r_152_7) (.seq (.draw r_152_8 [0, 1, 0, 7, 15, 0, 63, 0, 255, 0, 512, 2047, 4095, 8191, 16383] []) .ret)) .skip))))))) (.seq (.reg r_152_9) (.seq (.draw r_152_10 [0, 1, 0, 7, 15, 0, 63, 0, 255, 0, 1023, 2047, 4095, 8191] []) .ret)))))⟩

def r_153_0 : List SOper := [o 2 (.mv (.const (.slice none 0 0)))]
def r_153_1 : List SOper := [o 3 (.mv (t 0)),o 4 (.bin 2 .eql (t 3) (.const (.slice none 0 0)))]
def r_153_2 : List SOper := [o 2 (.mv (.const (.slice none 0 0)))]
def r_153_3 : List SOper := [o 5 (.lit T_uint32 [(.int .u32 0)] 0 []),o 6 (.mv (t 0)),o 7 (.app T_uint32 1 4 (t 5) (t 6)),o 2 (.mv (t 7))]
def s_153 : SFun := ⟨1, 8, [.tmp 2],
  (.seq (.reg r_153_0) (.seq (.seq (.reg r_153_1) (.cond (t 4) (.seq (.reg r_153_2) .ret) .skip)) (.seq (.reg r_153_3) .ret)))⟩

def r_154_0 : List SOper := [o 4 (.mv (i 0))]
def r_154_1 : List SOper := [o 6 (.mv (t 0)),o 7 (.mv (t 1)),o 8 (.bin 0 .lss (t 6) (t 7)),o 5 (.mv (t 8))]
def r_154_2 : List SOper := [o 4 (.mv (.const (.int .i64 (-1))))]
def r_154_3 : List SOper := [o 10 (.mv (t 0)),o 11 (.mv (t 1)),o 12 (.bin 0 .gtr (t 10) (t 11)),o 9 (.mv (t 12))]
def r_154_4 : List SOper := [o 4 (.mv (i 1))]
def r_154_5 : List SOper := [o 4 (.mv (i 0))]
def s_154 : SFun := ⟨2, 13, [.tmp 4],
  (.seq (.reg r_154_0) (.seq (.block 0 (.seq (.reg r_154_1) (.cond (t 5) (.seq (.reg r_154_2) .ret) (.seq (.reg r_154_3) (.cond (t 9) (.seq (.reg r_154_4) .ret) .skip))))) (.seq (.reg r_154_5) .ret)))⟩

def r_155_0 : List SOper := [o 4 (.mv (i 0))]
def r_155_1 : List SOper := [o 6 (.mv (t 0)),o 7 (.mv (t 1)),o 8 (.bin 0 .lss (t 6) (t 7)),o 5 (.mv (t 8))]
def r_155_2 : List SOper := [o 4 (.mv (.const (.int .i64 (-1))))]
def r_155_3 : List SOper := [o 10 (.mv (t 0)),o 11 (.mv (t 1)),o 12 (.bin 0 .gtr (t 10) (t 11)),o 9 (.mv (t 12))]
def r_155_4 : List SOper := [o 4 (.mv (i 1))]
def r_155_5 : List SOper := [o 4 (.mv (i 0))]
def s_155 : SFun := ⟨2, 13, [.tmp 4],
  (.seq (.reg r_155_0) (.seq (.block 0 (.seq (.reg r_155_1) (.cond (t 5) (.seq (.reg r_155_2) .ret) (.seq (.reg r_155_3) (.cond (t 9) (.seq (.reg r_155_4) .ret) .skip))))) (.seq (.reg r_155_5) .ret)))⟩

def r_156_0 : List SOper := [o 4 (.mv (.const (.slice none 0 0))),o 5 (.mv (.const (.slice none 0 0)))]
def r_156_1 : List SOper := [o 10 (.mv (t 0)),o 11 (.mv (t 1)),o 12 (.call f_149 [(t 10), (t 11)] true),o 13 (.bin 0 .lss (t 12) (i 0))]
def r_156_2 : List SOper := [o 14 (.mv (t 0)),o 4 (.mv (.const (.slice none 0 0))),o 5 (.mv (t 14))]
def r_156_3 : List SOper := [o 15 (.mv (t 0)),o 16 (.len (t 15)),o 17 (.mk T_uint32 4 [(.int .u32 0)] (t 16) (t 16)),o 6 (.mv (t 17))]
def r_156_4 : List SOper := [o 7 (.mv (.const (.slice none 0 0)))]
def r_156_5 : List SOper := [o 18 (.mv (t 0)),o 19 (.len (t 18)),o 20 (.bin 0 .sub (t 19) (i 1)),o 8 (.mv (t 20))]
def r_156_6 : List SOper := [o 21 (.mv (t 8)),o 22 (.bin 0 .geq (t 21) (i 0))]
def r_156_7 : List SOper := [o 9 (.mv (i 31))]
def r_156_8 : List SOper := [o 25 (.mv (t 9)),o 26 (.bin 0 .geq (t 25) (i 0))]
def r_156_9 : List SOper := [o 29 (.mv (t 7)),o 30 (.mv (t 0)),o 31 (.mv (t 8)),o 32 (.ia 1 (t 30) (t 31)),o 33 (.load false 1 (t 32)),o 34 (.mv (t 9)),o 35 (.conv .u64 (t 34)),o 36 (.bin 0 .shr (t 33) (t 35)),o 37 (.bin 0 .and (t 36) (.const (.int .u32 1))),o 38 (.bin 0 .eql (t 37) (.const (.int .u32 1))),o 39 (.call f_174 [(t 29), (t 38)] true),o 7 (.mv (t 39))]
def r_156_10 : List SOper := [o 40 (.mv (t 7)),o 41 (.mv (t 1)),o 42 (.call f_149 [(t 40), (t 41)] true),o 43 (.bin 0 .geq (t 42) (i 0))]
def r_156_11 : List SOper := [o 44 (.mv (t 7)),o 45 (.mv (t 1)),o 46 (.call f_150 [(t 44), (t 45)] true),o 7 (.mv (t 46))]
def r_156_12 : List SOper := [o 47 (.mv (t 6)),o 48 (.mv (t 8)),o 49 (.mv (t 6)),o 50 (.mv (t 8)),o 51 (.ia 1 (t 49) (t 50)),o 52 (.load false 1 (t 51)),o 53 (.mv (t 9)),o 54 (.conv .u64 (t 53)),o 55 (.bin 0 .shl (.const (.int .u32 1)) (t 54)),o 56 (.bin 0 .or (t 52) (t 55)),o 57 (.ia 1 (t 47) (t 48)),
  ⟨none, none, .store 1 (t 57) (t 56)⟩]
def r_156_13 : List SOper := [o 27 (.mv (t 9)),o 28 (.bin 0 .sub (t 27) (i 1)),o 9 (.mv (t 28))]
def r_156_14 : List SOper := [o 23 (.mv (t 8)),o 24 (.bin 0 .sub (t 23) (i 1)),o 8 (.mv (t 24))]
def r_156_15 : List SOper := [o 58 (.mv (t 6)),o 59 (.call f_107 [(t 58)] true),o 60 (.mv (t 7)),o 4 (.mv (t 59)),o 5 (.mv (t 60))]
def s_156 : SFun := ⟨2, 61, [.tmp 4, .tmp 5],
  (.seq (.reg r_156_0) (.seq (.seq (.reg r_156_1) (.cond (t 13) (.seq (.reg r_156_2) .ret) .skip)) (.seq (.reg r_156_3) (.seq (.reg r_156_4) (.seq (.seq (.reg r_156_5) (.block 0 (.loop (.seq (.seq (.reg r_156_6) (.cond (t 22) .skip (.exit 0))) (.seq (.block 1 (.seq (.reg r_156_7) (.block 2 (.loop (.seq (.seq (.reg r_156_8) (.cond (t 26) .skip (.exit 2))) (.seq (.block 3 (.seq (.reg r_156_9) (.seq (.reg r_156_10) (.cond (t 43) (.seq (.reg r_156_11) (.reg r_156_12)) .skip)))) (.reg r_156_13))))))) (.reg r_156_14)))))) (.seq (.reg r_156_15) .ret))))))⟩

def r_157_0 : List SOper := [o 2 (.box T_simplex_few (t 0)),o 3 (.box T_simplex_scaled (t 1)),o 4 (.mv (.const (.pointer none)))]
def r_157_1 : List SOper := [o 22 (.fa 1 (t 3)),o 23 (.load false 1 (t 22)),o 24 (.len (t 23)),o 5 (.mv (t 24))]
def r_157_2 : List SOper := [o 25 (.load true 0 (t 2)),o 26 (.fa 0 (t 3)),o 27 (.load false 1 (t 26)),o 28 (.mv (t 5)),o 29 (.fa 0 (t 3)),o 30 (.load false 1 (t 29)),o 31 (.bin 0 .mul (i 2) (t 30)),o 32 (.mv (t 5)),o 33 (.bin 0 .add (t 31) (t 32)),o 34 (.load true 0 (t 2)),o 35 (.iface T_simplex_few (t 34)),o 36 (.call f_126 [(i 1)] false),o 37 (.inv (t 35) [(T_simplex_all, f_204), (T_simplex_few, f_211)] [(t 36)] false),o 38 (.build [(.int .i64 0), (.int .i64 0), (.int .i64 0), (.slice none 0 0), (.int .i64 0), (.slice none 0 0), (.int .i64 0)] [(0, 0, (t 25)), (0, 1, (t 27)), (1, 1, (t 28)), (2, 1, (t 33)), (4, 1, (t 37))]),o 39 (.box T_simplex_tableau_int64_simplex_few_167 (t 38)),o 6 (.alloc T_simplex_tableau_int64_simplex_few [(.pointer none)]),
  ⟨none, none, .store 1 (t 6) (t 39)⟩]
def r_157_3 : List SOper := [o 40 (.load true 0 (t 2)),o 41 (.iface T_simplex_few (t 40)),o 42 (.build [(.bool false), (.slice none 0 0)] []),o 43 (.inv (t 41) [(T_simplex_all, f_204), (T_simplex_few, f_211)] [(t 42)] true),o 7 (.alloc T_int64 [(.int .i64 0)]),
  ⟨none, none, .store 1 (t 7) (t 43)⟩]
def r_157_4 : List SOper := [o 44 (.mkfn (.func f_175) [] [(t 6), (t 7)]),o 8 (.mv (t 44))]
def r_157_5 : List SOper := [o 45 (.mv (t 8)),o 46 (.callv (t 45) [] true),o 47 (.mv (t 8)),o 48 (.callv (t 47) [] true),o 9 (.mv (t 46)),o 10 (.mv (t 48))]
def r_157_6 : List SOper := [o 49 (.fa 3 (t 3)),o 50 (.load false 1 (t 49)),o 51 (.len (t 50)),o 52 (.mv (i 0))]
def r_157_7 : List SOper := [o 53 (.bin 0 .lss (t 52) (t 51))]
def r_157_8 : List SOper := [o 54 (.mv (t 52)),o 55 (.ia 2 (t 50) (t 52)),o 56 (.load true 2 (t 55)),o 12 (.alloc T_api_Int [(.bool false), (.slice none 0 0)]),o 11 (.mv (t 54)),
  ⟨none, none, .store 2 (t 12) (t 56)⟩]
def r_157_9 : List SOper := [o 57 (.load true 0 (t 2)),o 58 (.iface T_simplex_few (t 57)),o 59 (.load true 2 (t 12)),o 60 (.inv (t 58) [(T_simplex_all, f_204), (T_simplex_few, f_211)] [(t 59)] true),o 13 (.mv (t 60))]
def r_157_10 : List SOper := [o 61 (.mv (t 10)),o 62 (.mv (t 11)),o 63 (.mv (t 10)),o 64 (.fa 0 (t 3)),o 65 (.load false 1 (t 64)),o 66 (.mv (t 11)),o 67 (.bin 0 .add (t 65) (t 66)),o 68 (.load true 0 (t 2)),o 69 (.iface T_simplex_few (t 68)),o 70 (.mv (t 13)),o 71 (.inv (t 69) [(T_simplex_all, f_202), (T_simplex_few, f_209)] [(t 70)] false),o 72 (.mv (t 13)),o 73 (.ia 1 (t 61) (t 62)),
  ⟨none, none, .store 1 (t 73) (t 71)⟩,o 74 (.ia 1 (t 63) (t 67)),
  ⟨none, none, .store 1 (t 74) (t 72)⟩]
def r_157_11 : List SOper := [o 75 (.bin 0 .add (t 52) (i 1)),o 52 (.mv (t 75))]
def r_157_12 : List SOper := [o 76 (.fa 1 (t 3)),o 77 (.load false 1 (t 76)),o 78 (.len (t 77)),o 79 (.mv (i 0))]
def r_157_13 : List SOper := [o 80 (.bin 0 .lss (t 79) (t 78))]
def r_157_14 : List SOper := [o 81 (.mv (t 79)),o 82 (.ia 1 (t 77) (t 79)),o 83 (.load false 1 (t 82)),o 14 (.mv (t 81)),o 15 (.mv (t 83))]
def r_157_15 : List SOper := [o 84 (.mv (t 8)),o 85 (.callv (t 84) [] true),o 16 (.mv (t 85))]
def r_157_16 : List SOper := [o 86 (.mv (t 15)),o 87 (.fa 0 (t 3)),o 88 (.load false 1 (t 87)),o 89 (.sl T_api_Int 2 (t 86) none (some (t 88)) none),o 90 (.len (t 89)),o 91 (.mv (i 0))]
def r_157_17 : List SOper := [o 92 (.bin 0 .lss (t 91) (t 90))]
def r_157_18 : List SOper := [o 93 (.mv (t 91)),o 94 (.ia 2 (t 89) (t 91)),o 95 (.load true 2 (t 94)),o 18 (.alloc T_api_Int [(.bool false), (.slice none 0 0)]),o 17 (.mv (t 93)),
  ⟨none, none, .store 2 (t 18) (t 95)⟩]
def r_157_19 : List SOper := [o 96 (.load true 0 (t 2)),o 97 (.iface T_simplex_few (t 96)),o 98 (.load true 2 (t 18)),o 99 (.inv (t 97) [(T_simplex_all, f_204), (T_simplex_few, f_211)] [(t 98)] true),o 19 (.mv (t 99))]
def r_157_20 : List SOper := [o 100 (.mv (t 16)),o 101 (.mv (t 17)),o 102 (.mv (t 16)),o 103 (.fa 0 (t 3)),o 104 (.load false 1 (t 103)),o 105 (.mv (t 17)),o 106 (.bin 0 .add (t 104) (t 105)),o 107 (.mv (t 19)),o 108 (.load true 0 (t 2)),o 109 (.iface T_simplex_few (t 108)),o 110 (.mv (t 19)),o 111 (.inv (t 109) [(T_simplex_all, f_202), (T_simplex_few, f_209)] [(t 110)] false),o 112 (.ia 1 (t 100) (t 101)),
  ⟨none, none, .store 1 (t 112) (t 107)⟩,o 113 (.ia 1 (t 102) (t 106)),
  ⟨none, none, .store 1 (t 113) (t 111)⟩]
def r_157_21 : List SOper := [o 114 (.bin 0 .add (t 91) (i 1)),o 91 (.mv (t 114))]
def r_157_22 : List SOper := [o 115 (.mv (t 16)),o 116 (.fa 0 (t 3)),o 117 (.load false 1 (t 116)),o 118 (.bin 0 .mul (i 2) (t 117)),o 119 (.mv (t 14)),o 120 (.bin 0 .add (t 118) (t 119)),o 121 (.load false 1 (t 6)),o 122 (.chk (t 121)),o 123 (.fa 4 (t 122)),o 124 (.load false 1 (t 123)),o 125 (.ia 1 (t 115) (t 120)),
  ⟨none, none, .store 1 (t 125) (t 124)⟩]
def r_157_23 : List SOper := [o 126 (.mv (t 16)),o 127 (.load false 1 (t 6)),o 128 (.chk (t 127)),o 129 (.fa 2 (t 128)),o 130 (.load false 1 (t 129)),o 131 (.load true 0 (t 2)),o 132 (.iface T_simplex_few (t 131)),o 133 (.mv (t 15)),o 134 (.fa 0 (t 3)),o 135 (.load false 1 (t 134)),o 136 (.ia 2 (t 133) (t 135)),o 137 (.load true 2 (t 136)),o 138 (.inv (t 132) [(T_simplex_all, f_204), (T_simplex_few, f_211)] [(t 137)] false),o 139 (.ia 1 (t 126) (t 130)),
  ⟨none, none, .store 1 (t 139) (t 138)⟩]
def r_157_24 : List SOper := [o 140 (.fa 0 (t 3)),o 141 (.load false 1 (t 140)),o 142 (.bin 0 .mul (i 2) (t 141)),o 143 (.mv (t 14)),o 144 (.bin 0 .add (t 142) (t 143)),o 20 (.mv (t 144))]
def r_157_25 : List SOper := [o 145 (.load true 0 (t 2)),o 146 (.iface T_simplex_few (t 145)),o 147 (.mv (t 16)),o 148 (.load false 1 (t 6)),o 149 (.chk (t 148)),o 150 (.fa 2 (t 149)),o 151 (.load false 1 (t 150)),o 152 (.ia 1 (t 147) (t 151)),o 153 (.load false 1 (t 152)),o 154 (.inv (t 146) [(T_simplex_all, f_205), (T_simplex_few, f_212)] [(t 153)] true),o 155 (.bin 0 .lss (t 154) (i 0))]
def r_157_26 : List SOper := [o 156 (.load false 1 (t 6)),o 157 (.chk (t 156)),o 158 (.fa 2 (t 157)),o 159 (.load false 1 (t 158)),o 160 (.mv (t 14)),o 161 (.bin 0 .add (t 159) (t 160)),o 20 (.mv (t 161))]
def r_157_27 : List SOper := [o 162 (.mv (t 16)),o 163 (.len (t 162)),o 164 (.mv (i 0))]
def r_157_28 : List SOper := [o 165 (.bin 0 .lss (t 164) (t 163))]
def r_157_29 : List SOper := [o 166 (.mv (t 164)),o 21 (.mv (t 166))]
def r_157_30 : List SOper := [o 167 (.mv (t 16)),o 168 (.mv (t 21)),o 169 (.load true 0 (t 2)),o 170 (.iface T_simplex_few (t 169)),o 171 (.mv (t 16)),o 172 (.mv (t 21)),o 173 (.ia 1 (t 171) (t 172)),o 174 (.load false 1 (t 173)),o 175 (.inv (t 170) [(T_simplex_all, f_202), (T_simplex_few, f_209)] [(t 174)] true),o 176 (.ia 1 (t 167) (t 168)),
  ⟨none, none, .store 1 (t 176) (t 175)⟩]
def r_157_31 : List SOper := [o 177 (.mv (t 9)),o 178 (.mv (t 21)),o 179 (.load false 1 (t 6)),o 180 (.mv (t 9)),o 181 (.mv (t 21)),o 182 (.ia 1 (t 180) (t 181)),o 183 (.load false 1 (t 182)),o 184 (.mv (t 16)),o 185 (.mv (t 21)),o 186 (.ia 1 (t 184) (t 185)),o 187 (.load false 1 (t 186)),o 188 (.call f_176 [(t 179), (t 183), (t 187)] true),o 189 (.ia 1 (t 177) (t 178)),
  ⟨none, none, .store 1 (t 189) (t 188)⟩]
def r_157_32 : List SOper := [o 190 (.bin 0 .add (t 164) (i 1)),o 164 (.mv (t 190))]
def r_157_33 : List SOper := [o 191 (.load false 1 (t 6)),o 192 (.load false 1 (t 6)),o 193 (.load false 1 (t 6)),o 194 (.chk (t 193)),o 195 (.fa 3 (t 194)),o 196 (.load false 1 (t 195)),o 197 (.mv (t 16)),o 198 (.lit T_sl_int64 [(.slice none 0 0)] 1 [(0, 1, (t 197))]),o 199 (.app T_sl_int64 1 24 (t 196) (t 198)),o 200 (.load false 1 (t 6)),o 201 (.chk (t 200)),o 202 (.fa 5 (t 201)),o 203 (.load false 1 (t 202)),o 204 (.mv (t 20)),o 205 (.lit T_int [(.int .i64 0)] 1 [(0, 1, (t 204))]),o 206 (.app T_int 1 8 (t 203) (t 205)),o 207 (.chk (t 191)),o 208 (.fa 3 (t 207)),
  ⟨none, none, .store 1 (t 208) (t 199)⟩,o 209 (.chk (t 192)),o 210 (.fa 5 (t 209)),
  ⟨none, none, .store 1 (t 210) (t 206)⟩]
def r_157_34 : List SOper := [o 211 (.bin 0 .add (t 79) (i 1)),o 79 (.mv (t 211))]
def r_157_35 : List SOper := [o 212 (.load false 1 (t 6)),o 213 (.load false 1 (t 6)),o 214 (.chk (t 213)),o 215 (.fa 3 (t 214)),o 216 (.load false 1 (t 215)),o 217 (.mv (t 9)),o 218 (.mv (t 10)),o 219 (.lit T_sl_int64 [(.slice none 0 0)] 2 [(0, 1, (t 217)), (1, 1, (t 218))]),o 220 (.app T_sl_int64 1 24 (t 216) (t 219)),o 221 (.chk (t 212)),o 222 (.fa 3 (t 221)),
  ⟨none, none, .store 1 (t 222) (t 220)⟩]
def r_157_36 : List SOper := [o 223 (.load false 1 (t 6)),o 4 (.mv (t 223))]
def s_157 : SFun := ⟨2, 224, [.tmp 4],
  (.seq (.reg r_157_0) (.seq (.reg r_157_1) (.seq (.draw r_157_2 [0, 0, 2, 0, 0, 16, 48, 0, 240, 0, 512, 0, 3584, 8191, 16383, 0, 65535] []) (.seq (.reg r_157_3) (.seq (.reg r_157_4) (.seq (.reg r_157_5) (.seq (.seq (.reg r_157_6) (.block 0 (.loop (.seq (.reg r_157_7) (.seq (.cond (t 53) .skip (.exit 0)) (.seq (.block 1 (.seq (.reg r_157_8) (.seq (.reg r_157_9) (.draw r_157_10 [0, 0, 0, 0, 8, 0, 56, 0, 128, 0, 896, 0, 1923, 6019, 16383, 32767] [(4, 13)])))) (.reg r_157_11))))))) (.seq (.seq (.reg r_157_12) (.block 2 (.loop (.seq (.reg r_157_13) (.seq (.cond (t 80) .skip (.exit 2)) (.seq (.block 3 (.seq (.reg r_157_14) (.seq (.reg r_157_15) (.seq (.seq (.reg r_157_16) (.block 4 (.loop (.seq (.reg r_157_17) (.seq (.cond (t 92) .skip (.exit 4)) (.seq (.block 5 (.seq (.reg r_157_18) (.seq (.reg r_157_19) (.draw r_157_20 [0, 0, 0, 0, 8, 0, 56, 0, 0, 256, 0, 1792, 3971, 8067, 16383, 32767] [(4, 13)])))) (.reg r_157_21))))))) (.seq (.draw r_157_22 [0, 0, 2, 6, 0, 30, 0, 64, 192, 448, 1023, 2047] []) (.seq (.draw r_157_23 [0, 0, 2, 6, 14, 0, 32, 0, 0, 256, 896, 1920, 4064, 8191, 16383] []) (.seq (.reg r_157_24) (.seq (.seq (.draw r_157_25 [0, 1, 0, 0, 8, 24, 56, 124, 252, 511, 1023] []) (.cond (t 155) (.seq (.reg r_157_26) (.seq (.reg r_157_27) (.block 6 (.loop (.seq (.reg r_157_28) (.seq (.cond (t 165) .skip (.exit 6)) (.seq (.block 7 (.seq (.reg r_157_29) (.seq (.draw r_157_30 [0, 0, 0, 4, 0, 0, 48, 112, 252, 511, 1023] []) (.draw r_157_31 [0, 0, 0, 0, 0, 24, 56, 0, 0, 384, 896, 2044, 4095, 8191] [])))) (.reg r_157_32)))))))) .skip)) (.draw r_157_33 [0, 0, 0, 4, 12, 28, 0, 64, 252, 0, 512, 1536, 3584, 0, 8192, 32764, 65533, 131069, 262141, 524287, 1048575, 2097151] [(0, 8), (1, 8), (8, 9), (8, 12), (8, 14), (0, 15), (1, 15), (1, 18)]))))))))) (.reg r_157_34))))))) (.seq (.draw r_157_35 [0, 0, 2, 6, 14, 0, 0, 96, 254, 511, 1023, 2047] [(0, 8)]) (.seq (.reg r_157_36) .ret))))))))))⟩

def r_158_0 : List SOper := [o 4 (.mv (i 0))]
def r_158_1 : List SOper := [o 5 (.mv (i 0))]
def r_158_2 : List SOper := [o 7 (.mv (t 5)),o 8 (.mv (t 0)),o 9 (.chk (t 8)),o 10 (.fa 2 (t 9)),o 11 (.load false 1 (t 10)),o 12 (.bin 0 .lss (t 7) (t 11)),o 13 (.mv (t 12)),og 14 13 true (.mv (t 0)),og 15 13 true (.chk (t 14)),og 16 13 true (.fa0 T_simplex_tableau_int64_simplex_few_167 (t 15)),og 17 13 true (.load true 0 (t 16)),og 18 13 true (.iface T_simplex_few (t 17)),og 19 13 true (.mv (t 0)),og 20 13 true (.chk (t 19)),og 21 13 true (.fa 3 (t 20)),og 22 13 true (.load false 1 (t 21)),og 23 13 true (.mv (t 1)),og 24 13 true (.ia 1 (t 22) (t 23)),og 25 13 true (.load false 1 (t 24)),og 26 13 true (.mv (t 5)),og 27 13 true (.ia 1 (t 25) (t 26)),og 28 13 true (.load false 1 (t 27)),og 29 13 true (.inv (t 18) [(T_simplex_all, f_205), (T_simplex_few, f_212)] [(t 28)] true),og 30 13 true (.bin 0 .geq (t 29) (i 0)),o 31 (.pick (t 13) (t 30) (.const (.bool false)))]
def r_158_3 : List SOper := [o 32 (.mv (t 5)),o 33 (.bin 0 .add (t 32) (i 1)),o 5 (.mv (t 33))]
def r_158_4 : List SOper := [o 34 (.mv (t 5)),o 35 (.mv (t 0)),o 36 (.chk (t 35)),o 37 (.fa 2 (t 36)),o 38 (.load false 1 (t 37)),o 39 (.bin 0 .eql (t 34) (t 38))]
def r_158_5 : List SOper := [o 4 (.mv (.const (.int .i64 (-1))))]
def r_158_6 : List SOper := [o 40 (.mv (t 0)),o 41 (.mv (t 5)),o 42 (.call f_177 [(t 40), (t 41)] true),o 6 (.mv (t 42))]
def r_158_7 : List SOper := [o 43 (.mv (t 6)),o 44 (.bin 0 .lss (t 43) (i 0))]
def r_158_8 : List SOper := [o 45 (.mv (t 5)),o 4 (.mv (t 45))]
def r_158_9 : List SOper := [o 46 (.mv (t 0)),o 47 (.mv (t 6)),o 48 (.mv (t 5)),o 49 (.call f_178 [(t 46), (t 47), (t 48)] true)]
def s_158 : SFun := ⟨2, 50, [.tmp 4],
  (.seq (.reg r_158_0) (.block 0 (.loop (.block 1 (.seq (.reg r_158_1) (.seq (.block 2 (.loop (.seq (.seq (.draw r_158_2 [0, 0, 2, 6, 14, 31, 63, 127, 255, 511, 1023, 2047, 127, 4223, 12415, 28799, 127, 127103, 258175, 127, 1044607, 2093183, 4194303, 8388607, 16777215] []) (.cond (t 31) .skip (.exit 2))) (.block 3 (.reg r_158_3))))) (.seq (.seq (.reg r_158_4) (.cond (t 39) (.seq (.reg r_158_5) .ret) .skip)) (.seq (.reg r_158_6) (.seq (.seq (.reg r_158_7) (.cond (t 44) (.seq (.reg r_158_8) .ret) .skip)) (.reg r_158_9))))))))))⟩

def r_159_0 : List SOper := [o 6 (.box T_simplex_scaled (t 2)),o 7 (.box T_api_Rat (t 3)),o 8 (.mv (.const (.slice none 0 0)))]
def r_159_1 : List SOper := [o 9 (.mv (.const (.slice none 0 0)))]
def r_159_2 : List SOper := [o 13 (.mv (t 0)),o 14 (.chk (t 13)),o 15 (.fa 1 (t 14)),o 16 (.load false 1 (t 15)),o 17 (.mv (i 0))]
def r_159_3 : List SOper := [o 18 (.bin 0 .lss (t 17) (t 16))]
def r_159_4 : List SOper := [o 19 (.mv (t 17)),o 10 (.mv (t 19))]
def r_159_5 : List SOper := [o 21 (.mv (t 0)),o 22 (.mv (t 0)),o 23 (.chk (t 22)),o 24 (.fa 3 (t 23)),o 25 (.load false 1 (t 24)),o 26 (.mv (t 1)),o 27 (.ia 1 (t 25) (t 26)),o 28 (.load false 1 (t 27)),o 29 (.mv (t 0)),o 30 (.chk (t 29)),o 31 (.fa 0 (t 30)),o 32 (.load false 1 (t 31)),o 33 (.bin 0 .mul (i 2) (t 32)),o 34 (.mv (t 10)),o 35 (.bin 0 .add (t 33) (t 34)),o 36 (.ia 1 (t 28) (t 35)),o 37 (.load false 1 (t 36)),o 38 (.call f_179 [(t 21), (t 37)] false),o 39 (.fa 2 (t 6)),o 40 (.load false 1 (t 39)),o 41 (.mv (t 10)),o 42 (.ia 4 (t 40) (t 41)),o 43 (.load true 4 (t 42)),o 44 (.call f_91 [(t 38), (t 43)] false),o 45 (.load true 4 (t 7)),o 46 (.call f_168 [(t 44), (t 45)] false),o 20 (.mv (t 46)),o 47 (.ext (t 20) 0),o 48 (.ext (t 20) 1),o 11 (.alloc T_api_Rat [(.bool false), (.slice none 0 0), (.bool false), (.slice none 0 0)]),
  ⟨none, none, .store 4 (t 11) (t 47)⟩,o 12 (.mv (t 48))]
def r_159_6 : List SOper := [o 49 (.mv (t 9)),o 50 (.load true 4 (t 11)),o 51 (.lit T_api_Rat [(.bool false), (.slice none 0 0), (.bool false), (.slice none 0 0)] 1 [(0, 4, (t 50))]),o 52 (.app T_api_Rat 4 64 (t 49) (t 51)),o 9 (.mv (t 52))]
def r_159_7 : List SOper := [o 53 (.bin 0 .add (t 17) (i 1)),o 17 (.mv (t 53))]
def r_159_8 : List SOper := [o 54 (.mv (t 9)),o 8 (.mv (t 54))]
def s_159 : SFun := ⟨4, 55, [.tmp 8],
  (.seq (.reg r_159_0) (.seq (.reg r_159_1) (.seq (.seq (.reg r_159_2) (.block 0 (.loop (.seq (.reg r_159_3) (.seq (.cond (t 18) .skip (.exit 0)) (.seq (.block 1 (.seq (.reg r_159_4) (.seq (.draw r_159_5 [0, 0, 2, 6, 14, 0, 62, 126, 0, 256, 768, 1792, 3840, 0, 16128, 32766, 65534, 131071, 0, 262144, 0, 1835008, 3932160, 8388607, 0, 33554431, 67108863, 134217727, 134217727, 0, 805306367, 2147483647] []) (.reg r_159_6)))) (.reg r_159_7))))))) (.seq (.reg r_159_8) .ret))))⟩

def r_160_0 : List SOper := [o 7 (.mv (t 0)),o 8 (.chk (t 7)),o 9 (.fa 1 (t 8)),o 10 (.load false 1 (t 9)),o 11 (.mv (i 0))]
def r_160_1 : List SOper := [o 12 (.bin 0 .lss (t 11) (t 10))]
def r_160_2 : List SOper := [o 13 (.mv (t 11)),o 2 (.mv (t 13))]
def r_160_3 : List SOper := [o 14 (.mv (t 0)),o 15 (.chk (t 14)),o 16 (.fa 5 (t 15)),o 17 (.load false 1 (t 16)),o 18 (.mv (t 2)),o 19 (.ia 1 (t 17) (t 18)),o 20 (.load false 1 (t 19)),o 21 (.mv (t 0)),o 22 (.chk (t 21)),o 23 (.fa 2 (t 22)),o 24 (.load false 1 (t 23)),o 25 (.bin 0 .lss (t 20) (t 24))]
def r_160_4 : List SOper := [o 26 (.mv (t 0)),o 27 (.chk (t 26)),o 28 (.fa 2 (t 27)),o 29 (.load false 1 (t 28)),o 30 (.mv (i 0))]
def r_160_5 : List SOper := [o 31 (.bin 0 .lss (t 30) (t 29))]
def r_160_6 : List SOper := [o 32 (.mv (t 30)),o 3 (.mv (t 32))]
def r_160_7 : List SOper := [o 33 (.mv (t 0)),o 34 (.chk (t 33)),o 35 (.fa0 T_simplex_tableau_int64_simplex_few_167 (t 34)),o 36 (.load true 0 (t 35)),o 37 (.iface T_simplex_few (t 36)),o 38 (.mv (t 0)),o 39 (.chk (t 38)),o 40 (.fa 3 (t 39)),o 41 (.load false 1 (t 40)),o 42 (.mv (t 2)),o 43 (.ia 1 (t 41) (t 42)),o 44 (.load false 1 (t 43)),o 45 (.mv (t 3)),o 46 (.ia 1 (t 44) (t 45)),o 47 (.load false 1 (t 46)),o 48 (.inv (t 37) [(T_simplex_all, f_205), (T_simplex_few, f_212)] [(t 47)] true),o 4 (.mv (t 48))]
def r_160_8 : List SOper := [o 49 (.mv (t 4)),o 50 (.bin 0 .eql (t 49) (i 0))]
def r_160_9 : List SOper := [o 51 (.mv (t 4)),o 52 (.bin 0 .lss (t 51) (i 0))]
def r_160_10 : List SOper := [o 53 (.mv (t 0)),o 54 (.chk (t 53)),o 55 (.fa 3 (t 54)),o 56 (.load false 1 (t 55)),o 57 (.mv (t 2)),o 58 (.ia 1 (t 56) (t 57)),o 59 (.load false 1 (t 58)),o 60 (.len (t 59)),o 61 (.mv (i 0))]
def r_160_11 : List SOper := [o 62 (.bin 0 .lss (t 61) (t 60))]
def r_160_12 : List SOper := [o 63 (.mv (t 61)),o 64 (.ia 1 (t 59) (t 61)),o 65 (.load false 1 (t 64)),o 5 (.mv (t 63)),o 6 (.mv (t 65))]
def r_160_13 : List SOper := [o 66 (.mv (t 0)),o 67 (.chk (t 66)),o 68 (.fa 3 (t 67)),o 69 (.load false 1 (t 68)),o 70 (.mv (t 2)),o 71 (.ia 1 (t 69) (t 70)),o 72 (.load false 1 (t 71)),o 73 (.mv (t 5)),o 74 (.mv (t 0)),o 75 (.chk (t 74)),o 76 (.fa0 T_simplex_tableau_int64_simplex_few_167 (t 75)),o 77 (.load true 0 (t 76)),o 78 (.iface T_simplex_few (t 77)),o 79 (.mv (t 6)),o 80 (.inv (t 78) [(T_simplex_all, f_202), (T_simplex_few, f_209)] [(t 79)] false),o 81 (.ia 1 (t 72) (t 73)),
  ⟨none, none, .store 1 (t 81) (t 80)⟩]
def r_160_14 : List SOper := [o 82 (.bin 0 .add (t 61) (i 1)),o 61 (.mv (t 82))]
def r_160_15 : List SOper := [o 83 (.mv (t 0)),o 84 (.mv (t 2)),o 85 (.mv (t 3)),o 86 (.call f_178 [(t 83), (t 84), (t 85)] true)]
def r_160_16 : List SOper := [o 87 (.bin 0 .add (t 30) (i 1)),o 30 (.mv (t 87))]
def r_160_17 : List SOper := [o 88 (.bin 0 .add (t 11) (i 1)),o 11 (.mv (t 88))]
def s_160 : SFun := ⟨1, 89, [],
  (.seq (.reg r_160_0) (.block 0 (.loop (.seq (.reg r_160_1) (.seq (.cond (t 12) .skip (.exit 0)) (.seq (.block 1 (.seq (.reg r_160_2) (.seq (.seq (.draw r_160_3 [0, 1, 3, 7, 0, 31, 63, 0, 128, 384, 896, 2047] []) (.cond (t 25) (.exit 1) .skip)) (.seq (.reg r_160_4) (.block 2 (.loop (.seq (.reg r_160_5) (.seq (.cond (t 31) .skip (.exit 2)) (.seq (.block 3 (.seq (.reg r_160_6) (.seq (.draw r_160_7 [0, 1, 3, 7, 15, 0, 32, 96, 224, 0, 992, 2016, 0, 8160, 16352, 32767, 65535] []) (.seq (.seq (.reg r_160_8) (.cond (t 50) (.exit 3) .skip)) (.seq (.seq (.reg r_160_9) (.cond (t 52) (.seq (.reg r_160_10) (.block 4 (.loop (.seq (.reg r_160_11) (.seq (.cond (t 62) .skip (.exit 4)) (.seq (.block 5 (.seq (.reg r_160_12) (.draw r_160_13 [0, 1, 3, 7, 0, 31, 63, 0, 0, 256, 768, 1792, 3840, 0, 16128, 32767, 65535] []))) (.reg r_160_14))))))) .skip)) (.seq (.reg r_160_15) (.exit 2))))))) (.reg r_160_16)))))))))) (.reg r_160_17)))))))⟩

def r_161_0 : List SOper := [o 4 (.mv (.const (.slice none 0 0)))]
def r_161_1 : List SOper := [o 9 (.mv (t 0)),o 10 (.chk (t 9)),o 11 (.fa 0 (t 10)),o 12 (.load false 1 (t 11)),o 13 (.mk T_api_Rat 64 [(.bool false), (.slice none 0 0), (.bool false), (.slice none 0 0)] (t 12) (t 12)),o 5 (.mv (t 13))]
def r_161_2 : List SOper := [o 14 (.mv (t 5)),o 15 (.len (t 14)),o 16 (.mv (i 0))]
def r_161_3 : List SOper := [o 17 (.bin 0 .lss (t 16) (t 15))]
def r_161_4 : List SOper := [o 18 (.mv (t 16)),o 6 (.mv (t 18))]
def r_161_5 : List SOper := [o 19 (.mv (t 5)),o 20 (.mv (t 6)),o 21 (.call f_90 [(i 0)] true),o 22 (.ia 4 (t 19) (t 20)),
  ⟨none, none, .store 4 (t 22) (t 21)⟩]
def r_161_6 : List SOper := [o 23 (.bin 0 .add (t 16) (i 1)),o 16 (.mv (t 23))]
def r_161_7 : List SOper := [o 24 (.mv (t 0)),o 25 (.chk (t 24)),o 26 (.fa 5 (t 25)),o 27 (.load false 1 (t 26)),o 28 (.len (t 27)),o 29 (.mv (i 0))]
def r_161_8 : List SOper := [o 30 (.bin 0 .lss (t 29) (t 28))]
def r_161_9 : List SOper := [o 31 (.mv (t 29)),o 32 (.ia 1 (t 27) (t 29)),o 33 (.load false 1 (t 32)),o 7 (.mv (t 31)),o 8 (.mv (t 33))]
def r_161_10 : List SOper := [o 35 (.mv (t 8)),o 36 (.mv (t 0)),o 37 (.chk (t 36)),o 38 (.fa 0 (t 37)),o 39 (.load false 1 (t 38)),o 40 (.bin 0 .lss (t 35) (t 39)),o 34 (.mv (t 40))]
def r_161_11 : List SOper := [o 41 (.mv (t 5)),o 42 (.mv (t 8)),o 43 (.mv (t 5)),o 44 (.mv (t 8)),o 45 (.ia 4 (t 43) (t 44)),o 46 (.load true 4 (t 45)),o 47 (.mv (t 0)),o 48 (.mv (t 1)),o 49 (.mv (t 7)),o 50 (.callv (t 48) [(t 49)] false),o 51 (.call f_179 [(t 47), (t 50)] false),o 52 (.call f_51 [(t 46), (t 51)] true),o 53 (.ia 4 (t 41) (t 42)),
  ⟨none, none, .store 4 (t 53) (t 52)⟩]
def r_161_12 : List SOper := [o 55 (.mv (t 8)),o 56 (.mv (t 0)),o 57 (.chk (t 56)),o 58 (.fa 0 (t 57)),o 59 (.load false 1 (t 58)),o 60 (.bin 0 .mul (i 2) (t 59)),o 61 (.bin 0 .lss (t 55) (t 60)),o 54 (.mv (t 61))]
def r_161_13 : List SOper := [o 62 (.mv (t 5)),o 63 (.mv (t 8)),o 64 (.mv (t 0)),o 65 (.chk (t 64)),o 66 (.fa 0 (t 65)),o 67 (.load false 1 (t 66)),o 68 (.bin 0 .sub (t 63) (t 67)),o 69 (.mv (t 5)),o 70 (.mv (t 8)),o 71 (.mv (t 0)),o 72 (.chk (t 71)),o 73 (.fa 0 (t 72)),o 74 (.load false 1 (t 73)),o 75 (.bin 0 .sub (t 70) (t 74)),o 76 (.ia 4 (t 69) (t 75)),o 77 (.load true 4 (t 76)),o 78 (.mv (t 0)),o 79 (.mv (t 1)),o 80 (.mv (t 7)),o 81 (.callv (t 79) [(t 80)] false),o 82 (.call f_179 [(t 78), (t 81)] false),o 83 (.call f_170 [(t 77), (t 82)] false),o 84 (.ia 4 (t 62) (t 68)),
  ⟨none, none, .store 4 (t 84) (t 83)⟩]
def r_161_14 : List SOper := [o 85 (.bin 0 .add (t 29) (i 1)),o 29 (.mv (t 85))]
def r_161_15 : List SOper := [o 86 (.mv (t 5)),o 4 (.mv (t 86))]
def s_161 : SFun := ⟨2, 87, [.tmp 4],
  (.seq (.reg r_161_0) (.seq (.reg r_161_1) (.seq (.seq (.reg r_161_2) (.block 0 (.loop (.seq (.reg r_161_3) (.seq (.cond (t 17) .skip (.exit 0)) (.seq (.block 1 (.seq (.reg r_161_4) (.reg r_161_5))) (.reg r_161_6))))))) (.seq (.seq (.reg r_161_7) (.block 2 (.loop (.seq (.reg r_161_8) (.seq (.cond (t 30) .skip (.exit 2)) (.seq (.block 3 (.seq (.reg r_161_9) (.block 4 (.seq (.reg r_161_10) (.cond (t 34) (.draw r_161_11 [0, 0, 0, 0, 12, 28, 0, 0, 0, 384, 960, 2044, 4095, 8191] []) (.seq (.reg r_161_12) (.cond (t 54) (.draw r_161_13 [0, 0, 0, 4, 12, 28, 62, 0, 0, 0, 512, 1536, 3584, 7936, 16256, 32640, 0, 0, 0, 393216, 983040, 2097024, 4194303, 8388607] []) .skip))))))) (.reg r_161_14))))))) (.seq (.reg r_161_15) .ret)))))⟩

def r_162_0 : List SOper := [o 3 (.mv (i 0))]
def r_162_1 : List SOper := [o 4 (.load false 1 (t 1)),o 5 (.chk (t 4)),o 6 (.fa 3 (t 5)),o 7 (.load false 1 (t 6)),o 8 (.mv (t 0)),o 9 (.ia 1 (t 7) (t 8)),o 10 (.load false 1 (t 9)),o 11 (.load false 1 (t 1)),o 12 (.chk (t 11)),o 13 (.fa 2 (t 12)),o 14 (.load false 1 (t 13)),o 15 (.ia 1 (t 10) (t 14)),o 16 (.load false 1 (t 15)),o 3 (.mv (t 16))]
def s_162 : SFun := ⟨2, 17, [.tmp 3],
  (.seq (.reg r_162_0) (.seq (.draw r_162_1 [0, 1, 3, 7, 0, 31, 63, 0, 128, 384, 896, 2047, 4095, 8191] []) .ret))⟩

def r_163_0 : List SOper := [o 2 (.box T_simplex_tableau_int64_simplex_few (t 0)),o 3 (.box T_int (t 1)),o 4 (.mv (.const (.slice none 0 0)))]
def r_163_1 : List SOper := [o 6 (.load false 1 (t 2)),o 7 (.mkfn (.func f_180) [] [(t 2), (t 3)]),o 8 (.call f_161 [(t 6), (t 7)] true),o 5 (.mv (t 8))]
def r_163_2 : List SOper := [o 10 (.load false 1 (t 3)),o 11 (.load false 1 (t 2)),o 12 (.chk (t 11)),o 13 (.fa 0 (t 12)),o 14 (.load false 1 (t 13)),o 15 (.bin 0 .lss (t 10) (t 14)),o 9 (.mv (t 15))]
def r_163_3 : List SOper := [o 16 (.mv (t 5)),o 17 (.load false 1 (t 3)),o 18 (.mv (t 5)),o 19 (.load false 1 (t 3)),o 20 (.ia 4 (t 18) (t 19)),o 21 (.load true 4 (t 20)),o 22 (.call f_90 [(i 1)] false),o 23 (.call f_51 [(t 21), (t 22)] false),o 24 (.ia 4 (t 16) (t 17)),
  ⟨none, none, .store 4 (t 24) (t 23)⟩]
def r_163_4 : List SOper := [o 26 (.load false 1 (t 3)),o 27 (.load false 1 (t 2)),o 28 (.chk (t 27)),o 29 (.fa 0 (t 28)),o 30 (.load false 1 (t 29)),o 31 (.bin 0 .mul (i 2) (t 30)),o 32 (.bin 0 .lss (t 26) (t 31)),o 25 (.mv (t 32))]
def r_163_5 : List SOper := [o 33 (.mv (t 5)),o 34 (.load false 1 (t 3)),o 35 (.load false 1 (t 2)),o 36 (.chk (t 35)),o 37 (.fa 0 (t 36)),o 38 (.load false 1 (t 37)),o 39 (.bin 0 .sub (t 34) (t 38)),o 40 (.mv (t 5)),o 41 (.load false 1 (t 3)),o 42 (.load false 1 (t 2)),o 43 (.chk (t 42)),o 44 (.fa 0 (t 43)),o 45 (.load false 1 (t 44)),o 46 (.bin 0 .sub (t 41) (t 45)),o 47 (.ia 4 (t 40) (t 46)),o 48 (.load true 4 (t 47)),o 49 (.call f_90 [(i 1)] false),o 50 (.call f_170 [(t 48), (t 49)] false),o 51 (.ia 4 (t 33) (t 39)),
  ⟨none, none, .store 4 (t 51) (t 50)⟩]
def r_163_6 : List SOper := [o 52 (.mv (t 5)),o 4 (.mv (t 52))]
def s_163 : SFun := ⟨2, 53, [.tmp 4],
  (.seq (.reg r_163_0) (.seq (.reg r_163_1) (.seq (.block 0 (.seq (.draw r_163_2 [0, 0, 2, 6, 14, 31, 63] []) (.cond (t 9) (.draw r_163_3 [0, 0, 0, 0, 12, 28, 0, 124, 255, 511] []) (.seq (.draw r_163_4 [0, 0, 2, 6, 14, 30, 63, 127] []) (.cond (t 25) (.draw r_163_5 [0, 0, 0, 4, 12, 28, 62, 0, 0, 0, 512, 1536, 3584, 7936, 16256, 32640, 0, 130944, 262143, 524287] []) .skip))))) (.seq (.reg r_163_6) .ret))))⟩

def r_164_0 : List SOper := [o 2 (.mv (.const (.slice none 0 0)))]
def r_164_1 : List SOper := [o 5 (.load false 1 (t 0)),o 6 (.chk (t 5)),o 7 (.fa 2 (t 6)),o 8 (.load false 1 (t 7)),o 9 (.bin 0 .add (t 8) (i 1)),o 10 (.mk T_api_Int 32 [(.bool false), (.slice none 0 0)] (t 9) (t 9)),o 3 (.mv (t 10))]
def r_164_2 : List SOper := [o 11 (.mv (t 3)),o 12 (.len (t 11)),o 13 (.mv (i 0))]
def r_164_3 : List SOper := [o 14 (.bin 0 .lss (t 13) (t 12))]
def r_164_4 : List SOper := [o 15 (.mv (t 13)),o 4 (.mv (t 15))]
def r_164_5 : List SOper := [o 16 (.mv (t 3)),o 17 (.mv (t 4)),o 18 (.load true 2 (t 1)),o 19 (.ia 2 (t 16) (t 17)),
  ⟨none, none, .store 2 (t 19) (t 18)⟩]
def r_164_6 : List SOper := [o 20 (.bin 0 .add (t 13) (i 1)),o 13 (.mv (t 20))]
def r_164_7 : List SOper := [o 21 (.mv (t 3)),o 2 (.mv (t 21))]
def s_164 : SFun := ⟨2, 22, [.tmp 2],
  (.seq (.reg r_164_0) (.seq (.reg r_164_1) (.seq (.seq (.reg r_164_2) (.block 0 (.loop (.seq (.reg r_164_3) (.seq (.cond (t 14) .skip (.exit 0)) (.seq (.block 1 (.seq (.reg r_164_4) (.reg r_164_5))) (.reg r_164_6))))))) (.seq (.reg r_164_7) .ret))))⟩

def r_165_0 : List SOper := [o 4 (.box T_api_Int (t 1)),o 5 (.box T_api_Int (t 2)),o 6 (.alloc T_api_Int [(.bool false), (.slice none 0 0)])]
def r_165_1 : List SOper := [o 8 (.mv (t 0)),o 9 (.chk (t 8)),o 10 (.fa0 T_simplex_tableau_api_Int_simplex_all_150 (t 9)),o 11 (.load true 0 (t 10)),o 12 (.iface T_simplex_all (t 11)),o 13 (.call f_126 [(i 1)] false),o 14 (.inv (t 12) [(T_simplex_all, f_204), (T_simplex_few, f_211)] [(t 13)] false),o 7 (.alloc T_api_Int [(.bool false), (.slice none 0 0)]),
  ⟨none, none, .store 2 (t 7) (t 14)⟩]
def r_165_2 : List SOper := [o 15 (.mv (t 0)),o 16 (.chk (t 15)),o 17 (.fa0 T_simplex_tableau_api_Int_simplex_all_150 (t 16)),o 18 (.load true 0 (t 17)),o 19 (.iface T_simplex_all (t 18)),o 20 (.load true 2 (t 4)),o 21 (.load true 2 (t 7)),o 22 (.load true 2 (t 5)),o 23 (.load true 2 (t 7)),o 24 (.load true 2 (t 7)),o 25 (.inv (t 19) [(T_simplex_all, f_206), (T_simplex_few, f_213)] [(t 20), (t 21), (t 22), (t 23), (t 24)] true),
  ⟨none, none, .store 2 (t 6) (t 25)⟩]
def s_165 : SFun := ⟨3, 26, [.cell 6 true 2],
  (.seq (.reg r_165_0) (.seq (.draw r_165_1 [0, 1, 3, 7, 15, 0, 63, 0, 255] []) (.seq (.draw r_165_2 [0, 1, 3, 7, 15, 0, 0, 0, 0, 0, 1023, 2047] []) .ret)))⟩

def r_166_0 : List SOper := [o 4 (.mv (i 0))]
def r_166_1 : List SOper := [o 5 (.mv (.const (.int .i64 (-1))))]
def r_166_2 : List SOper := [o 8 (.mv (t 0)),o 9 (.chk (t 8)),o 10 (.fa 1 (t 9)),o 11 (.load false 1 (t 10)),o 12 (.mv (i 0))]
def r_166_3 : List SOper := [o 13 (.bin 0 .lss (t 12) (t 11))]
def r_166_4 : List SOper := [o 14 (.mv (t 12)),o 6 (.mv (t 14))]
def r_166_5 : List SOper := [o 15 (.mv (t 0)),o 16 (.chk (t 15)),o 17 (.fa0 T_simplex_tableau_api_Int_simplex_all_150 (t 16)),o 18 (.load true 0 (t 17)),o 19 (.iface T_simplex_all (t 18)),o 20 (.mv (t 0)),o 21 (.chk (t 20)),o 22 (.fa 3 (t 21)),o 23 (.load false 1 (t 22)),o 24 (.mv (t 6)),o 25 (.ia 1 (t 23) (t 24)),o 26 (.load false 1 (t 25)),o 27 (.mv (t 1)),o 28 (.ia 2 (t 26) (t 27)),o 29 (.load true 2 (t 28)),o 30 (.inv (t 19) [(T_simplex_all, f_205), (T_simplex_few, f_212)] [(t 29)] true),o 31 (.bin 0 .leq (t 30) (i 0))]
def r_166_6 : List SOper := [o 32 (.mv (t 5)),o 33 (.bin 0 .lss (t 32) (i 0))]
def r_166_7 : List SOper := [o 34 (.mv (t 6)),o 5 (.mv (t 34))]
def r_166_8 : List SOper := [o 35 (.mv (t 0)),o 36 (.chk (t 35)),o 37 (.fa0 T_simplex_tableau_api_Int_simplex_all_150 (t 36)),o 38 (.load true 0 (t 37)),o 39 (.iface T_simplex_all (t 38)),o 40 (.mv (t 0)),o 41 (.chk (t 40)),o 42 (.fa 3 (t 41)),o 43 (.load false 1 (t 42)),o 44 (.mv (t 6)),o 45 (.ia 1 (t 43) (t 44)),o 46 (.load false 1 (t 45)),o 47 (.mv (t 0)),o 48 (.chk (t 47)),o 49 (.fa 2 (t 48)),o 50 (.load false 1 (t 49)),o 51 (.ia 2 (t 46) (t 50)),o 52 (.load true 2 (t 51)),o 53 (.mv (t 0)),o 54 (.chk (t 53)),o 55 (.fa 3 (t 54)),o 56 (.load false 1 (t 55)),o 57 (.mv (t 5)),o 58 (.ia 1 (t 56) (t 57)),o 59 (.load false 1 (t 58)),o 60 (.mv (t 1)),o 61 (.ia 2 (t 59) (t 60)),o 62 (.load true 2 (t 61)),o 63 (.mv (t 0)),o 64 (.chk (t 63)),o 65 (.fa 3 (t 64)),o 66 (.load false 1 (t 65)),o 67 (.mv (t 5)),o 68 (.ia 1 (t 66) (t 67)),o 69 (.load false 1 (t 68)),o 70 (.mv (t 0)),o 71 (.chk (t 70)),o 72 (.fa 2 (t 71)),o 73 (.load false 1 (t 72)),o 74 (.ia 2 (t 69) (t 73)),o 75 (.load true 2 (t 74)),o 76 (.mv (t 0)),o 77 (.chk (t 76)),o 78 (.fa 3 (t 77)),o 79 (.load false 1 (t 78)),o 80 (.mv (t 6)),o 81 (.ia 1 (t 79) (t 80)),o 82 (.load false 1 (t 81)),o 83 (.mv (t 1)),o 84 (.ia 2 (t 82) (t 83)),o 85 (.load true 2 (t 84)),o 86 (.inv (t 39) [(T_simplex_all, f_201), (T_simplex_few, f_208)] [(t 52), (t 62), (t 75), (t 85)] true),o 7 (.mv (t 86))]
def r_166_9 : List SOper := [o 87 (.mv (t 7)),o 88 (.bin 0 .lss (t 87) (i 0)),o 89 (.mv (t 88)),og 90 89 false (.mv (t 7)),og 91 89 false (.bin 0 .eql (t 90) (i 0)),og 92 89 false (.mv (t 91)),og 93 92 true (.mv (t 0)),og 94 92 true (.chk (t 93)),og 95 92 true (.fa 6 (t 94)),og 96 92 true (.load false 1 (t 95)),og 97 92 true (.mv (t 6)),og 98 92 true (.ia 1 (t 96) (t 97)),og 99 92 true (.load false 1 (t 98)),og 100 92 true (.mv (t 0)),og 101 92 true (.chk (t 100)),og 102 92 true (.fa 6 (t 101)),og 103 92 true (.load false 1 (t 102)),og 104 92 true (.mv (t 5)),og 105 92 true (.ia 1 (t 103) (t 104)),og 106 92 true (.load false 1 (t 105)),og 107 92 true (.bin 0 .lss (t 99) (t 106)),og 108 89 false (.pick (t 92) (t 107) (.const (.bool false))),o 109 (.pick (t 89) (.const (.bool true)) (t 108))]
def r_166_10 : List SOper := [o 110 (.mv (t 6)),o 5 (.mv (t 110))]
def r_166_11 : List SOper := [o 111 (.bin 0 .add (t 12) (i 1)),o 12 (.mv (t 111))]
def r_166_12 : List SOper := [o 112 (.mv (t 5)),o 4 (.mv (t 112))]
def s_166 : SFun := ⟨2, 113, [.tmp 4],
  (.seq (.reg r_166_0) (.seq (.reg r_166_1) (.seq (.seq (.reg r_166_2) (.block 0 (.loop (.seq (.reg r_166_3) (.seq (.cond (t 13) .skip (.exit 0)) (.seq (.block 1 (.seq (.reg r_166_4) (.seq (.seq (.draw r_166_5 [0, 1, 3, 7, 15, 0, 32, 96, 224, 0, 992, 2016, 0, 8160, 16352, 32767, 65535] []) (.cond (t 31) (.exit 1) .skip)) (.seq (.seq (.reg r_166_6) (.cond (t 33) (.seq (.reg r_166_7) (.exit 1)) .skip)) (.seq (.draw r_166_8 [0, 1, 3, 7, 15, 0, 32, 96, 224, 0, 992, 2016, 0, 4096, 12288, 28672, 65504, 131040, 0, 262144, 786432, 1835008, 0, 8126464, 16515072, 0, 66846720, 133955584, 0, 268435456, 805306368, 1879048192, 0, 8321499136, 16911433728, 0, 34359738368, 103079215104, 240518168576, 549487378432, 1099243192320, 0, 2199023255552, 6597069766656, 15393162788864, 0, 68169720922112, 138538465099776, 0, 560750930165760, 1123700883587072, 2251799813685247, 4503599627370495] []) (.seq (.draw r_166_9 [0, 1, 3, 7, 15, 31, 63, 127, 255, 511, 63, 2047, 4095, 63, 8255, 24639, 57407, 63, 254015, 516159, 1048575, 2097151, 4194303] []) (.cond (t 109) (.reg r_166_10) .skip))))))) (.reg r_166_11))))))) (.seq (.reg r_166_12) .ret))))⟩

def r_167_0 : List SOper := [o 12 (.mv (t 0)),o 13 (.chk (t 12)),o 14 (.fa 7 (t 13)),o 15 (.load false 1 (t 14)),o 16 (.bin 0 .add (t 15) (i 1)),o 17 (.chk (t 12)),o 18 (.fa 7 (t 17)),
  ⟨none, none, .store 1 (t 18) (t 16)⟩]
def r_167_1 : List SOper := [o 19 (.mv (t 0)),o 20 (.chk (t 19)),o 21 (.fa 3 (t 20)),o 22 (.load false 1 (t 21)),o 23 (.mv (t 1)),o 24 (.ia 1 (t 22) (t 23)),o 25 (.load false 1 (t 24)),o 26 (.mv (t 2)),o 27 (.ia 2 (t 25) (t 26)),o 28 (.load true 2 (t 27)),o 29 (.mv (t 0)),o 30 (.chk (t 29)),o 31 (.fa 3 (t 30)),o 32 (.load false 1 (t 31)),o 33 (.mv (t 1)),o 34 (.ia 1 (t 32) (t 33)),o 35 (.load false 1 (t 34)),o 6 (.alloc T_api_Int [(.bool false), (.slice none 0 0)]),
  ⟨none, none, .store 2 (t 6) (t 28)⟩,o 7 (.mv (t 35))]
def r_167_2 : List SOper := [o 36 (.mv (t 0)),o 37 (.chk (t 36)),o 38 (.fa 3 (t 37)),o 39 (.load false 1 (t 38)),o 40 (.len (t 39)),o 41 (.mv (i 0))]
def r_167_3 : List SOper := [o 42 (.bin 0 .lss (t 41) (t 40))]
def r_167_4 : List SOper := [o 43 (.mv (t 41)),o 44 (.ia 1 (t 39) (t 41)),o 45 (.load false 1 (t 44)),o 8 (.mv (t 43)),o 9 (.mv (t 45))]
def r_167_5 : List SOper := [o 46 (.mv (t 8)),o 47 (.mv (t 1)),o 48 (.bin 0 .eql (t 46) (t 47))]
def r_167_6 : List SOper := [o 49 (.mv (t 9)),o 50 (.mv (t 2)),o 51 (.ia 2 (t 49) (t 50)),o 52 (.load true 2 (t 51)),o 10 (.alloc T_api_Int [(.bool false), (.slice none 0 0)]),
  ⟨none, none, .store 2 (t 10) (t 52)⟩]
def r_167_7 : List SOper := [o 53 (.mv (t 9)),o 54 (.len (t 53)),o 55 (.mv (i 0))]
def r_167_8 : List SOper := [o 56 (.bin 0 .lss (t 55) (t 54))]
def r_167_9 : List SOper := [o 57 (.mv (t 55)),o 11 (.mv (t 57))]
def r_167_10 : List SOper := [o 58 (.mv (t 9)),o 59 (.mv (t 11)),o 60 (.mv (t 0)),o 61 (.chk (t 60)),o 62 (.fa0 T_simplex_tableau_api_Int_simplex_all_150 (t 61)),o 63 (.load true 0 (t 62)),o 64 (.iface T_simplex_all (t 63)),o 65 (.mv (t 9)),o 66 (.mv (t 11)),o 67 (.ia 2 (t 65) (t 66)),o 68 (.load true 2 (t 67)),o 69 (.load true 2 (t 6)),o 70 (.load true 2 (t 10)),o 71 (.mv (t 7)),o 72 (.mv (t 11)),o 73 (.ia 2 (t 71) (t 72)),o 74 (.load true 2 (t 73)),o 75 (.mv (t 0)),o 76 (.chk (t 75)),o 77 (.fa 4 (t 76)),o 78 (.load true 2 (t 77)),o 79 (.inv (t 64) [(T_simplex_all, f_206), (T_simplex_few, f_213)] [(t 68), (t 69), (t 70), (t 74), (t 78)] true),o 80 (.ia 2 (t 58) (t 59)),
  ⟨none, none, .store 2 (t 80) (t 79)⟩]
def r_167_11 : List SOper := [o 81 (.bin 0 .add (t 55) (i 1)),o 55 (.mv (t 81))]
def r_167_12 : List SOper := [o 82 (.bin 0 .add (t 41) (i 1)),o 41 (.mv (t 82))]
def r_167_13 : List SOper := [o 83 (.mv (t 0)),o 84 (.mv (t 0)),o 85 (.chk (t 84)),o 86 (.fa 6 (t 85)),o 87 (.load false 1 (t 86)),o 88 (.mv (t 1)),o 89 (.load true 2 (t 6)),o 90 (.mv (t 2)),o 91 (.chk (t 83)),o 92 (.fa 4 (t 91)),
  ⟨none, none, .store 2 (t 92) (t 89)⟩,o 93 (.ia 1 (t 87) (t 88)),
  ⟨none, none, .store 1 (t 93) (t 90)⟩]
def s_167 : SFun := ⟨3, 94, [],
  (.seq (.reg r_167_0) (.seq (.draw r_167_1 [0, 1, 3, 7, 0, 31, 63, 0, 255, 511, 0, 1024, 3072, 7168, 0, 31744, 64512, 0, 132095, 524287] [(13, 18), (16, 18)]) (.seq (.seq (.reg r_167_2) (.block 0 (.loop (.seq (.reg r_167_3) (.seq (.cond (t 42) .skip (.exit 0)) (.seq (.block 1 (.seq (.reg r_167_4) (.seq (.seq (.reg r_167_5) (.cond (t 48) (.exit 1) .skip)) (.seq (.reg r_167_6) (.seq (.reg r_167_7) (.block 2 (.loop (.seq (.reg r_167_8) (.seq (.cond (t 56) .skip (.exit 2)) (.seq (.block 3 (.seq (.reg r_167_9) (.draw r_167_10 [0, 0, 0, 4, 12, 28, 60, 0, 0, 384, 896, 0, 0, 0, 0, 24576, 57344, 0, 131072, 393216, 917504, 2097148, 4194303, 8388607] []))) (.reg r_167_11))))))))))) (.reg r_167_12))))))) (.draw r_167_13 [0, 0, 2, 6, 14, 0, 0, 0, 95, 351, 863, 2047, 4095] []))))⟩


end Go.Proofs.YtjlohmnnldbjoaaGreat.AI

/- The small code of the program's functions: printed. -/
namespace Go.Proofs.YtjlohmnnldbjoaaGreat.AI
open Go

def r_168_0 : List SOper := [o 2 (.box T_api_Rat (t 0)),o 3 (.box T_api_Rat (t 1)),o 4 (.alloc T_api_Rat [(.bool false), (.slice none 0 0), (.bool false), (.slice none 0 0)]),o 5 (.mv (i 0))]
def r_168_1 : List SOper := [o 6 (.load true 4 (t 2)),o 7 (.call f_85 [(t 6)] false),o 8 (.load true 4 (t 3)),o 9 (.call f_85 [(t 8)] true),
  ⟨none, none, .store 4 (t 2) (t 7)⟩,
  ⟨none, none, .store 4 (t 3) (t 9)⟩]
def r_168_2 : List SOper := [o 10 (.fa 0 (t 2)),o 11 (.load true 2 (t 10)),o 12 (.fa 2 (t 3)),o 13 (.load true 2 (t 12)),o 14 (.call f_89 [(t 11), (t 13)] false),o 15 (.fa 2 (t 2)),o 16 (.load true 2 (t 15)),o 17 (.fa 0 (t 3)),o 18 (.load true 2 (t 17)),o 19 (.call f_89 [(t 16), (t 18)] true),o 20 (.call f_118 [(t 14), (t 19)] true),o 21 (.ext (t 20) 0),o 22 (.ext (t 20) 1),
  ⟨none, none, .store 4 (t 4) (t 21)⟩,o 5 (.mv (t 22))]
def s_168 : SFun := ⟨2, 23, [.cell 4 true 4, .tmp 5],
  (.seq (.reg r_168_0) (.seq (.draw r_168_1 [0, 1, 0, 7, 15, 31] []) (.seq (.draw r_168_2 [0, 1, 0, 4, 15, 0, 32, 0, 128, 511, 1023, 2047, 2047, 8191, 16383] []) .ret)))⟩

def r_169_0 : List SOper := [o 3 (.box T_api_Int (t 1)),o 4 (.alloc T_api_Rat [(.bool false), (.slice none 0 0), (.bool false), (.slice none 0 0)])]
def r_169_1 : List SOper := [o 8 (.mv (t 0)),o 9 (.chk (t 8)),o 10 (.fa0 T_simplex_tableau_api_Int_simplex_all_150 (t 9)),o 11 (.load true 0 (t 10)),o 12 (.iface T_simplex_all (t 11)),o 13 (.load true 2 (t 3)),o 14 (.inv (t 12) [(T_simplex_all, f_203), (T_simplex_few, f_210)] [(t 13)] false),o 15 (.mv (t 0)),o 16 (.chk (t 15)),o 17 (.fa0 T_simplex_tableau_api_Int_simplex_all_150 (t 16)),o 18 (.load true 0 (t 17)),o 19 (.iface T_simplex_all (t 18)),o 20 (.mv (t 0)),o 21 (.chk (t 20)),o 22 (.fa 4 (t 21)),o 23 (.load true 2 (t 22)),o 24 (.inv (t 19) [(T_simplex_all, f_203), (T_simplex_few, f_210)] [(t 23)] false),o 25 (.call f_118 [(t 14), (t 24)] false),o 7 (.mv (t 25)),o 26 (.ext (t 7) 0),o 27 (.ext (t 7) 1),o 5 (.alloc T_api_Rat [(.bool false), (.slice none 0 0), (.bool false), (.slice none 0 0)]),
  ⟨none, none, .store 4 (t 5) (t 26)⟩,o 6 (.mv (t 27))]
def r_169_2 : List SOper := [o 28 (.load true 4 (t 5)),
  ⟨none, none, .store 4 (t 4) (t 28)⟩]
def s_169 : SFun := ⟨2, 29, [.cell 4 true 4],
  (.seq (.reg r_169_0) (.seq (.draw r_169_1 [0, 1, 3, 7, 15, 0, 63, 0, 128, 384, 896, 1920, 0, 4096, 12288, 28672, 65535, 131071, 262143, 524287, 524287, 0, 3145727, 8388607] []) (.seq (.reg r_169_2) .ret)))⟩

def r_170_0 : List SOper := [o 2 (.box T_api_Rat (t 0)),o 3 (.box T_api_Rat (t 1)),o 4 (.alloc T_api_Rat [(.bool false), (.slice none 0 0), (.bool false), (.slice none 0 0)])]
def r_170_1 : List SOper := [o 5 (.load true 4 (t 2)),o 6 (.load true 4 (t 3)),o 7 (.call f_85 [(t 6)] false),o 8 (.call f_181 [(t 7)] false),o 9 (.call f_51 [(t 5), (t 8)] true),
  ⟨none, none, .store 4 (t 4) (t 9)⟩]
def s_170 : SFun := ⟨2, 10, [.cell 4 true 4],
  (.seq (.reg r_170_0) (.seq (.draw r_170_1 [0, 0, 2, 6, 15, 31] []) .ret))⟩

def r_171_0 : List SOper := [o 4 (.alloc T_api_Int [(.bool false), (.slice none 0 0)])]
def r_171_1 : List SOper := [o 5 (.load false 1 (t 1)),o 6 (.chk (t 5)),o 7 (.fa0 T_simplex_tableau_api_Int_simplex_all_150 (t 6)),o 8 (.load true 0 (t 7)),o 9 (.iface T_simplex_all (t 8)),o 10 (.load false 1 (t 1)),o 11 (.chk (t 10)),o 12 (.fa 3 (t 11)),o 13 (.load false 1 (t 12)),o 14 (.mv (t 0)),o 15 (.ia 1 (t 13) (t 14)),o 16 (.load false 1 (t 15)),o 17 (.load false 1 (t 2)),o 18 (.ia 2 (t 16) (t 17)),o 19 (.load true 2 (t 18)),o 20 (.inv (t 9) [(T_simplex_all, f_202), (T_simplex_few, f_209)] [(t 19)] true),
  ⟨none, none, .store 2 (t 4) (t 20)⟩]
def s_171 : SFun := ⟨3, 21, [.cell 4 true 2],
  (.seq (.reg r_171_0) (.seq (.draw r_171_1 [0, 1, 3, 7, 15, 0, 32, 96, 224, 0, 992, 2016, 0, 8160, 16352, 32767, 65535] []) .ret))⟩

def r_172_0 : List SOper := [o 4 (.mv (.const (.slice none 0 0))),o 5 (.mv (.const (.int .u32 0)))]
def r_172_1 : List SOper := [o 9 (.mv (t 0)),o 10 (.len (t 9)),o 11 (.mk T_uint32 4 [(.int .u32 0)] (t 10) (t 10)),o 6 (.mv (t 11))]
def r_172_2 : List SOper := [o 7 (.mv (.const (.int .u64 0)))]
def r_172_3 : List SOper := [o 12 (.mv (t 0)),o 13 (.len (t 12)),o 14 (.bin 0 .sub (t 13) (i 1)),o 8 (.mv (t 14))]
def r_172_4 : List SOper := [o 15 (.mv (t 8)),o 16 (.bin 0 .geq (t 15) (i 0))]
def r_172_5 : List SOper := [o 19 (.mv (t 7)),o 20 (.bin 0 .shl (t 19) (.const (.int .u64 32))),o 21 (.mv (t 0)),o 22 (.mv (t 8)),o 23 (.ia 1 (t 21) (t 22)),o 24 (.load false 1 (t 23)),o 25 (.conv .u64 (t 24)),o 26 (.bin 0 .or (t 20) (t 25)),o 7 (.mv (t 26))]
def r_172_6 : List SOper := [o 27 (.mv (t 6)),o 28 (.mv (t 8)),o 29 (.mv (t 7)),o 30 (.mv (t 1)),o 31 (.conv .u64 (t 30)),o 32 (.bin 0 .quo (t 29) (t 31)),o 33 (.call f_125 [(t 32)] true),o 34 (.ia 1 (t 27) (t 28)),
  ⟨none, none, .store 1 (t 34) (t 33)⟩]
def r_172_7 : List SOper := [o 35 (.mv (t 7)),o 36 (.mv (t 1)),o 37 (.conv .u64 (t 36)),o 38 (.bin 0 .rem (t 35) (t 37)),o 7 (.mv (t 38))]
def r_172_8 : List SOper := [o 17 (.mv (t 8)),o 18 (.bin 0 .sub (t 17) (i 1)),o 8 (.mv (t 18))]
def r_172_9 : List SOper := [o 39 (.mv (t 6)),o 40 (.mv (t 7)),o 41 (.call f_125 [(t 40)] true),o 4 (.mv (t 39)),o 5 (.mv (t 41))]
def s_172 : SFun := ⟨2, 42, [.tmp 4, .tmp 5],
  (.seq (.reg r_172_0) (.seq (.reg r_172_1) (.seq (.reg r_172_2) (.seq (.seq (.reg r_172_3) (.block 0 (.loop (.seq (.seq (.reg r_172_4) (.cond (t 16) .skip (.exit 0))) (.seq (.block 1 (.seq (.reg r_172_5) (.seq (.reg r_172_6) (.reg r_172_7)))) (.reg r_172_8)))))) (.seq (.reg r_172_9) .ret)))))⟩

def r_173_0 : List SOper := [o 4 (.mv (.const (.slice none 0 0))),o 5 (.mv (.const (.slice none 0 0)))]
def r_173_1 : List SOper := [o 6 (.mv (i 0))]
def r_173_2 : List SOper := [o 16 (.mv (t 1)),o 17 (.mv (t 1)),o 18 (.len (t 17)),o 19 (.bin 0 .sub (t 18) (i 1)),o 20 (.ia 1 (t 16) (t 19)),o 21 (.load false 1 (t 20)),o 22 (.mv (t 6)),o 23 (.bin 0 .shl (t 21) (t 22)),o 24 (.bin 0 .shr (t 23) (.const (.int .u64 31))),o 25 (.bin 0 .eql (t 24) (.const (.int .u32 0)))]
def r_173_3 : List SOper := [o 26 (.mv (t 6)),o 27 (.bin 0 .add (t 26) (i 1)),o 6 (.mv (t 27))]
def r_173_4 : List SOper := [o 28 (.mv (t 0)),o 29 (.mv (t 6)),o 30 (.call f_182 [(t 28), (t 29)] true),o 31 (.mv (t 1)),o 32 (.mv (t 6)),o 33 (.call f_182 [(t 31), (t 32)] true),o 34 (.mv (t 1)),o 35 (.len (t 34)),o 36 (.sl T_uint32 1 (t 33) none (some (t 35)) none),o 7 (.mv (t 30)),o 8 (.mv (t 36))]
def r_173_5 : List SOper := [o 37 (.mv (t 8)),o 38 (.len (t 37)),o 9 (.mv (t 38))]
def r_173_6 : List SOper := [o 39 (.mv (t 7)),o 40 (.len (t 39)),o 41 (.mv (t 9)),o 42 (.bin 0 .sub (t 40) (t 41)),o 43 (.mnx true (t 42) [(i 0)]),o 44 (.mk T_uint32 4 [(.int .u32 0)] (t 43) (t 43)),o 4 (.mv (t 44))]
def r_173_7 : List SOper := [o 45 (.mv (t 8)),o 46 (.mv (t 9)),o 47 (.bin 0 .sub (t 46) (i 1)),o 48 (.ia 1 (t 45) (t 47)),o 49 (.load false 1 (t 48)),o 50 (.conv .u64 (t 49)),o 51 (.mv (t 8)),o 52 (.mv (t 9)),o 53 (.bin 0 .sub (t 52) (i 2)),o 54 (.ia 1 (t 51) (t 53)),o 55 (.load false 1 (t 54)),o 56 (.conv .u64 (t 55)),o 10 (.mv (t 50)),o 11 (.mv (t 56))]
def r_173_8 : List SOper := [o 57 (.mv (t 7)),o 58 (.len (t 57)),o 59 (.mv (t 9)),o 60 (.bin 0 .sub (t 58) (t 59)),o 61 (.bin 0 .sub (t 60) (i 1)),o 12 (.mv (t 61))]
def r_173_9 : List SOper := [o 62 (.mv (t 12)),o 63 (.bin 0 .geq (t 62) (i 0))]
def r_173_10 : List SOper := [o 66 (.mv (t 7)),o 67 (.mv (t 12)),o 68 (.mv (t 9)),o 69 (.bin 0 .add (t 67) (t 68)),o 70 (.ia 1 (t 66) (t 69)),o 71 (.load false 1 (t 70)),o 72 (.conv .u64 (t 71)),o 73 (.bin 0 .shl (t 72) (.const (.int .u64 32))),o 74 (.mv (t 7)),o 75 (.mv (t 12)),o 76 (.mv (t 9)),o 77 (.bin 0 .add (t 75) (t 76)),o 78 (.bin 0 .sub (t 77) (i 1)),o 79 (.ia 1 (t 74) (t 78)),o 80 (.load false 1 (t 79)),o 81 (.conv .u64 (t 80)),o 82 (.bin 0 .or (t 73) (t 81)),o 13 (.mv (t 82))]
def r_173_11 : List SOper := [o 83 (.mv (t 13)),o 84 (.mv (t 10)),o 85 (.bin 0 .quo (t 83) (t 84)),o 86 (.mv (t 13)),o 87 (.mv (t 10)),o 88 (.bin 0 .rem (t 86) (t 87)),o 14 (.mv (t 85)),o 15 (.mv (t 88))]
def r_173_12 : List SOper := [o 89 (.mv (t 14)),o 90 (.bin 0 .geq (t 89) (.const (.int .u64 4294967296))),o 91 (.mv (t 90)),og 92 91 false (.mv (t 14)),og 93 91 false (.mv (t 11)),og 94 91 false (.bin 0 .mul (t 92) (t 93)),og 95 91 false (.mv (t 15)),og 96 91 false (.bin 0 .shl (t 95) (.const (.int .u64 32))),og 97 91 false (.mv (t 7)),og 98 91 false (.mv (t 12)),og 99 91 false (.mv (t 9)),og 100 91 false (.bin 0 .add (t 98) (t 99)),og 101 91 false (.bin 0 .sub (t 100) (i 2)),og 102 91 false (.ia 1 (t 97) (t 101)),og 103 91 false (.load false 1 (t 102)),og 104 91 false (.conv .u64 (t 103)),og 105 91 false (.bin 0 .or (t 96) (t 104)),og 106 91 false (.bin 0 .gtr (t 94) (t 105)),o 107 (.pick (t 91) (.const (.bool true)) (t 106))]
def r_173_13 : List SOper := [o 108 (.mv (t 14)),o 109 (.bin 0 .sub (t 108) (.const (.int .u64 1))),o 14 (.mv (t 109))]
def r_173_14 : List SOper := [o 110 (.mv (t 15)),o 111 (.mv (t 10)),o 112 (.bin 0 .add (t 110) (t 111)),o 15 (.mv (t 112))]
def r_173_15 : List SOper := [o 113 (.mv (t 15)),o 114 (.bin 0 .geq (t 113) (.const (.int .u64 4294967296)))]
def r_173_16 : List SOper := [o 115 (.mv (t 7)),o 116 (.mv (t 12)),o 117 (.mv (t 12)),o 118 (.mv (t 9)),o 119 (.bin 0 .add (t 117) (t 118)),o 120 (.bin 0 .add (t 119) (i 1)),o 121 (.sl T_uint32 1 (t 115) (some (t 116)) (some (t 120)) none),o 122 (.mv (t 8)),o 123 (.mv (t 14)),o 124 (.call f_183 [(t 121), (t 122), (t 123)] true)]
def r_173_17 : List SOper := [o 125 (.mv (t 14)),o 126 (.bin 0 .sub (t 125) (.const (.int .u64 1))),o 14 (.mv (t 126))]
def r_173_18 : List SOper := [o 127 (.mv (t 7)),o 128 (.mv (t 12)),o 129 (.mv (t 12)),o 130 (.mv (t 9)),o 131 (.bin 0 .add (t 129) (t 130)),o 132 (.bin 0 .add (t 131) (i 1)),o 133 (.sl T_uint32 1 (t 127) (some (t 128)) (some (t 132)) none),o 134 (.mv (t 8)),o 135 (.call f_184 [(t 133), (t 134)] true)]
def r_173_19 : List SOper := [o 136 (.mv (t 4)),o 137 (.mv (t 12)),o 138 (.mv (t 14)),o 139 (.call f_125 [(t 138)] true),o 140 (.ia 1 (t 136) (t 137)),
  ⟨none, none, .store 1 (t 140) (t 139)⟩]
def r_173_20 : List SOper := [o 64 (.mv (t 12)),o 65 (.bin 0 .sub (t 64) (i 1)),o 12 (.mv (t 65))]
def r_173_21 : List SOper := [o 141 (.mv (t 4)),o 142 (.mv (t 7)),o 143 (.mv (t 9)),o 144 (.sl T_uint32 1 (t 142) none (some (t 143)) none),o 145 (.mv (t 6)),o 146 (.call f_185 [(t 144), (t 145)] true),o 4 (.mv (t 141)),o 5 (.mv (t 146))]
def s_173 : SFun := ⟨2, 147, [.tmp 4, .tmp 5],
  (.seq (.reg r_173_0) (.seq (.reg r_173_1) (.seq (.block 0 (.loop (.seq (.seq (.reg r_173_2) (.cond (t 25) .skip (.exit 0))) (.block 1 (.reg r_173_3))))) (.seq (.draw r_173_4 [0, 0, 3, 0, 0, 31, 0, 64, 255, 63, 1023] []) (.seq (.reg r_173_5) (.seq (.reg r_173_6) (.seq (.draw r_173_7 [0, 0, 2, 7, 15, 31, 0, 0, 128, 448, 960, 1984, 63, 8191] []) (.seq (.seq (.reg r_173_8) (.block 2 (.loop (.seq (.seq (.reg r_173_9) (.cond (t 63) .skip (.exit 2))) (.seq (.block 3 (.seq (.draw r_173_10 [0, 0, 0, 6, 15, 31, 63, 127, 0, 0, 0, 1536, 3584, 7936, 16128, 32512, 65535, 131071] []) (.seq (.draw r_173_11 [0, 0, 3, 0, 0, 24, 7, 127] []) (.seq (.block 4 (.loop (.seq (.seq (.reg r_173_12) (.cond (t 107) .skip (.exit 4))) (.block 5 (.seq (.reg r_173_13) (.seq (.reg r_173_14) (.seq (.reg r_173_15) (.cond (t 114) (.exit 4) .skip)))))))) (.seq (.seq (.reg r_173_16) (.cond (t 124) (.seq (.reg r_173_17) (.reg r_173_18)) .skip)) (.reg r_173_19)))))) (.reg r_173_20)))))) (.seq (.reg r_173_21) .ret)))))))))⟩

def r_174_0 : List SOper := [o 4 (.mv (.const (.slice none 0 0)))]
def r_174_1 : List SOper := [o 5 (.mv (.const (.slice none 0 0)))]
def r_174_2 : List SOper := [o 6 (.mv (.const (.int .u32 0)))]
def r_174_3 : List SOper := [o 8 (.mv (t 1))]
def r_174_4 : List SOper := [o 6 (.mv (.const (.int .u32 1)))]
def r_174_5 : List SOper := [o 7 (.mv (i 0))]
def r_174_6 : List SOper := [o 9 (.mv (t 7)),o 10 (.mv (t 0)),o 11 (.len (t 10)),o 12 (.bin 0 .lss (t 9) (t 11))]
def r_174_7 : List SOper := [o 15 (.mv (t 5)),o 16 (.mv (t 0)),o 17 (.mv (t 7)),o 18 (.ia 1 (t 16) (t 17)),o 19 (.load false 1 (t 18)),o 20 (.bin 0 .shl (t 19) (.const (.int .u64 1))),o 21 (.mv (t 6)),o 22 (.bin 0 .or (t 20) (t 21)),o 23 (.lit T_uint32 [(.int .u32 0)] 1 [(0, 1, (t 22))]),o 24 (.app T_uint32 1 4 (t 15) (t 23)),o 5 (.mv (t 24))]
def r_174_8 : List SOper := [o 25 (.mv (t 0)),o 26 (.mv (t 7)),o 27 (.ia 1 (t 25) (t 26)),o 28 (.load false 1 (t 27)),o 29 (.bin 0 .shr (t 28) (.const (.int .u64 31))),o 6 (.mv (t 29))]
def r_174_9 : List SOper := [o 13 (.mv (t 7)),o 14 (.bin 0 .add (t 13) (i 1)),o 7 (.mv (t 14))]
def r_174_10 : List SOper := [o 30 (.mv (t 5)),o 31 (.mv (t 6)),o 32 (.lit T_uint32 [(.int .u32 0)] 1 [(0, 1, (t 31))]),o 33 (.app T_uint32 1 4 (t 30) (t 32)),o 5 (.mv (t 33))]
def r_174_11 : List SOper := [o 34 (.mv (t 5)),o 35 (.call f_107 [(t 34)] true),o 4 (.mv (t 35))]
def s_174 : SFun := ⟨2, 36, [.tmp 4],
  (.seq (.reg r_174_0) (.seq (.reg r_174_1) (.seq (.reg r_174_2) (.seq (.seq (.reg r_174_3) (.cond (t 8) (.reg r_174_4) .skip)) (.seq (.seq (.reg r_174_5) (.block 0 (.loop (.seq (.seq (.reg r_174_6) (.cond (t 12) .skip (.exit 0))) (.seq (.block 1 (.seq (.reg r_174_7) (.reg r_174_8))) (.reg r_174_9)))))) (.seq (.reg r_174_10) (.seq (.reg r_174_11) .ret)))))))⟩

def r_175_0 : List SOper := [o 2 (.mv (.const (.slice none 0 0)))]
def r_175_1 : List SOper := [o 5 (.load false 1 (t 0)),o 6 (.chk (t 5)),o 7 (.fa 2 (t 6)),o 8 (.load false 1 (t 7)),o 9 (.bin 0 .add (t 8) (i 1)),o 10 (.mk T_int64 8 [(.int .i64 0)] (t 9) (t 9)),o 3 (.mv (t 10))]
def r_175_2 : List SOper := [o 11 (.mv (t 3)),o 12 (.len (t 11)),o 13 (.mv (i 0))]
def r_175_3 : List SOper := [o 14 (.bin 0 .lss (t 13) (t 12))]
def r_175_4 : List SOper := [o 15 (.mv (t 13)),o 4 (.mv (t 15))]
def r_175_5 : List SOper := [o 16 (.mv (t 3)),o 17 (.mv (t 4)),o 18 (.load false 1 (t 1)),o 19 (.ia 1 (t 16) (t 17)),
  ⟨none, none, .store 1 (t 19) (t 18)⟩]
def r_175_6 : List SOper := [o 20 (.bin 0 .add (t 13) (i 1)),o 13 (.mv (t 20))]
def r_175_7 : List SOper := [o 21 (.mv (t 3)),o 2 (.mv (t 21))]
def s_175 : SFun := ⟨2, 22, [.tmp 2],
  (.seq (.reg r_175_0) (.seq (.reg r_175_1) (.seq (.seq (.reg r_175_2) (.block 0 (.loop (.seq (.reg r_175_3) (.seq (.cond (t 14) .skip (.exit 0)) (.seq (.block 1 (.seq (.reg r_175_4) (.reg r_175_5))) (.reg r_175_6))))))) (.seq (.reg r_175_7) .ret))))⟩

def r_176_0 : List SOper := [o 6 (.mv (i 0))]
def r_176_1 : List SOper := [o 8 (.mv (t 0)),o 9 (.chk (t 8)),o 10 (.fa0 T_simplex_tableau_int64_simplex_few_167 (t 9)),o 11 (.load true 0 (t 10)),o 12 (.iface T_simplex_few (t 11)),o 13 (.call f_126 [(i 1)] false),o 14 (.inv (t 12) [(T_simplex_all, f_204), (T_simplex_few, f_211)] [(t 13)] true),o 7 (.mv (t 14))]
def r_176_2 : List SOper := [o 15 (.mv (t 0)),o 16 (.chk (t 15)),o 17 (.fa0 T_simplex_tableau_int64_simplex_few_167 (t 16)),o 18 (.load true 0 (t 17)),o 19 (.iface T_simplex_few (t 18)),o 20 (.mv (t 1)),o 21 (.mv (t 7)),o 22 (.mv (t 2)),o 23 (.mv (t 7)),o 24 (.mv (t 7)),o 25 (.inv (t 19) [(T_simplex_all, f_206), (T_simplex_few, f_213)] [(t 20), (t 21), (t 22), (t 23), (t 24)] true),o 6 (.mv (t 25))]
def s_176 : SFun := ⟨3, 26, [.tmp 6],
  (.seq (.reg r_176_0) (.seq (.draw r_176_1 [0, 1, 3, 7, 15, 0, 63, 127] []) (.seq (.reg r_176_2) .ret)))⟩

def r_177_0 : List SOper := [o 4 (.mv (i 0))]
def r_177_1 : List SOper := [o 5 (.mv (.const (.int .i64 (-1))))]
def r_177_2 : List SOper := [o 8 (.mv (t 0)),o 9 (.chk (t 8)),o 10 (.fa 1 (t 9)),o 11 (.load false 1 (t 10)),o 12 (.mv (i 0))]
def r_177_3 : List SOper := [o 13 (.bin 0 .lss (t 12) (t 11))]
def r_177_4 : List SOper := [o 14 (.mv (t 12)),o 6 (.mv (t 14))]
def r_177_5 : List SOper := [o 15 (.mv (t 0)),o 16 (.chk (t 15)),o 17 (.fa0 T_simplex_tableau_int64_simplex_few_167 (t 16)),o 18 (.load true 0 (t 17)),o 19 (.iface T_simplex_few (t 18)),o 20 (.mv (t 0)),o 21 (.chk (t 20)),o 22 (.fa 3 (t 21)),o 23 (.load false 1 (t 22)),o 24 (.mv (t 6)),o 25 (.ia 1 (t 23) (t 24)),o 26 (.load false 1 (t 25)),o 27 (.mv (t 1)),o 28 (.ia 1 (t 26) (t 27)),o 29 (.load false 1 (t 28)),o 30 (.inv (t 19) [(T_simplex_all, f_205), (T_simplex_few, f_212)] [(t 29)] true),o 31 (.bin 0 .leq (t 30) (i 0))]
def r_177_6 : List SOper := [o 32 (.mv (t 5)),o 33 (.bin 0 .lss (t 32) (i 0))]
def r_177_7 : List SOper := [o 34 (.mv (t 6)),o 5 (.mv (t 34))]
def r_177_8 : List SOper := [o 35 (.mv (t 0)),o 36 (.chk (t 35)),o 37 (.fa0 T_simplex_tableau_int64_simplex_few_167 (t 36)),o 38 (.load true 0 (t 37)),o 39 (.iface T_simplex_few (t 38)),o 40 (.mv (t 0)),o 41 (.chk (t 40)),o 42 (.fa 3 (t 41)),o 43 (.load false 1 (t 42)),o 44 (.mv (t 6)),o 45 (.ia 1 (t 43) (t 44)),o 46 (.load false 1 (t 45)),o 47 (.mv (t 0)),o 48 (.chk (t 47)),o 49 (.fa 2 (t 48)),o 50 (.load false 1 (t 49)),o 51 (.ia 1 (t 46) (t 50)),o 52 (.load false 1 (t 51)),o 53 (.mv (t 0)),o 54 (.chk (t 53)),o 55 (.fa 3 (t 54)),o 56 (.load false 1 (t 55)),o 57 (.mv (t 5)),o 58 (.ia 1 (t 56) (t 57)),o 59 (.load false 1 (t 58)),o 60 (.mv (t 1)),o 61 (.ia 1 (t 59) (t 60)),o 62 (.load false 1 (t 61)),o 63 (.mv (t 0)),o 64 (.chk (t 63)),o 65 (.fa 3 (t 64)),o 66 (.load false 1 (t 65)),o 67 (.mv (t 5)),o 68 (.ia 1 (t 66) (t 67)),o 69 (.load false 1 (t 68)),o 70 (.mv (t 0)),o 71 (.chk (t 70)),o 72 (.fa 2 (t 71)),o 73 (.load false 1 (t 72)),o 74 (.ia 1 (t 69) (t 73)),o 75 (.load false 1 (t 74)),o 76 (.mv (t 0)),o 77 (.chk (t 76)),o 78 (.fa 3 (t 77)),o 79 (.load false 1 (t 78)),o 80 (.mv (t 6)),o 81 (.ia 1 (t 79) (t 80)),o 82 (.load false 1 (t 81)),o 83 (.mv (t 1)),o 84 (.ia 1 (t 82) (t 83)),o 85 (.load false 1 (t 84)),o 86 (.inv (t 39) [(T_simplex_all, f_201), (T_simplex_few, f_208)] [(t 52), (t 62), (t 75), (t 85)] true),o 7 (.mv (t 86))]
def r_177_9 : List SOper := [o 87 (.mv (t 7)),o 88 (.bin 0 .lss (t 87) (i 0)),o 89 (.mv (t 88)),og 90 89 false (.mv (t 7)),og 91 89 false (.bin 0 .eql (t 90) (i 0)),og 92 89 false (.mv (t 91)),og 93 92 true (.mv (t 0)),og 94 92 true (.chk (t 93)),og 95 92 true (.fa 5 (t 94)),og 96 92 true (.load false 1 (t 95)),og 97 92 true (.mv (t 6)),og 98 92 true (.ia 1 (t 96) (t 97)),og 99 92 true (.load false 1 (t 98)),og 100 92 true (.mv (t 0)),og 101 92 true (.chk (t 100)),og 102 92 true (.fa 5 (t 101)),og 103 92 true (.load false 1 (t 102)),og 104 92 true (.mv (t 5)),og 105 92 true (.ia 1 (t 103) (t 104)),og 106 92 true (.load false 1 (t 105)),og 107 92 true (.bin 0 .lss (t 99) (t 106)),og 108 89 false (.pick (t 92) (t 107) (.const (.bool false))),o 109 (.pick (t 89) (.const (.bool true)) (t 108))]
def r_177_10 : List SOper := [o 110 (.mv (t 6)),o 5 (.mv (t 110))]
def r_177_11 : List SOper := [o 111 (.bin 0 .add (t 12) (i 1)),o 12 (.mv (t 111))]
def r_177_12 : List SOper := [o 112 (.mv (t 5)),o 4 (.mv (t 112))]
def s_177 : SFun := ⟨2, 113, [.tmp 4],
  (.seq (.reg r_177_0) (.seq (.reg r_177_1) (.seq (.seq (.reg r_177_2) (.block 0 (.loop (.seq (.reg r_177_3) (.seq (.cond (t 13) .skip (.exit 0)) (.seq (.block 1 (.seq (.reg r_177_4) (.seq (.seq (.draw r_177_5 [0, 1, 3, 7, 15, 0, 32, 96, 224, 0, 992, 2016, 0, 8160, 16352, 32767, 65535] []) (.cond (t 31) (.exit 1) .skip)) (.seq (.seq (.reg r_177_6) (.cond (t 33) (.seq (.reg r_177_7) (.exit 1)) .skip)) (.seq (.draw r_177_8 [0, 1, 3, 7, 15, 0, 32, 96, 224, 0, 992, 2016, 0, 4096, 12288, 28672, 65504, 131040, 0, 262144, 786432, 1835008, 0, 8126464, 16515072, 0, 66846720, 133955584, 0, 268435456, 805306368, 1879048192, 0, 8321499136, 16911433728, 0, 34359738368, 103079215104, 240518168576, 549487378432, 1099243192320, 0, 2199023255552, 6597069766656, 15393162788864, 0, 68169720922112, 138538465099776, 0, 560750930165760, 1123700883587072, 2251799813685247, 4503599627370495] []) (.seq (.draw r_177_9 [0, 1, 3, 7, 15, 31, 63, 127, 255, 511, 63, 2047, 4095, 63, 8255, 24639, 57407, 63, 254015, 516159, 1048575, 2097151, 4194303] []) (.cond (t 109) (.reg r_177_10) .skip))))))) (.reg r_177_11))))))) (.seq (.reg r_177_12) .ret))))⟩

def r_178_0 : List SOper := [o 12 (.mv (t 0)),o 13 (.chk (t 12)),o 14 (.fa 6 (t 13)),o 15 (.load false 1 (t 14)),o 16 (.bin 0 .add (t 15) (i 1)),o 17 (.chk (t 12)),o 18 (.fa 6 (t 17)),
  ⟨none, none, .store 1 (t 18) (t 16)⟩]
def r_178_1 : List SOper := [o 19 (.mv (t 0)),o 20 (.chk (t 19)),o 21 (.fa 3 (t 20)),o 22 (.load false 1 (t 21)),o 23 (.mv (t 1)),o 24 (.ia 1 (t 22) (t 23)),o 25 (.load false 1 (t 24)),o 26 (.mv (t 2)),o 27 (.ia 1 (t 25) (t 26)),o 28 (.load false 1 (t 27)),o 29 (.mv (t 0)),o 30 (.chk (t 29)),o 31 (.fa 3 (t 30)),o 32 (.load false 1 (t 31)),o 33 (.mv (t 1)),o 34 (.ia 1 (t 32) (t 33)),o 35 (.load false 1 (t 34)),o 6 (.mv (t 28)),o 7 (.mv (t 35))]
def r_178_2 : List SOper := [o 36 (.mv (t 0)),o 37 (.chk (t 36)),o 38 (.fa 3 (t 37)),o 39 (.load false 1 (t 38)),o 40 (.len (t 39)),o 41 (.mv (i 0))]
def r_178_3 : List SOper := [o 42 (.bin 0 .lss (t 41) (t 40))]
def r_178_4 : List SOper := [o 43 (.mv (t 41)),o 44 (.ia 1 (t 39) (t 41)),o 45 (.load false 1 (t 44)),o 8 (.mv (t 43)),o 9 (.mv (t 45))]
def r_178_5 : List SOper := [o 46 (.mv (t 8)),o 47 (.mv (t 1)),o 48 (.bin 0 .eql (t 46) (t 47))]
def r_178_6 : List SOper := [o 49 (.mv (t 9)),o 50 (.mv (t 2)),o 51 (.ia 1 (t 49) (t 50)),o 52 (.load false 1 (t 51)),o 10 (.mv (t 52))]
def r_178_7 : List SOper := [o 53 (.mv (t 9)),o 54 (.len (t 53)),o 55 (.mv (i 0))]
def r_178_8 : List SOper := [o 56 (.bin 0 .lss (t 55) (t 54))]
def r_178_9 : List SOper := [o 57 (.mv (t 55)),o 11 (.mv (t 57))]
def r_178_10 : List SOper := [o 58 (.mv (t 9)),o 59 (.mv (t 11)),o 60 (.mv (t 0)),o 61 (.chk (t 60)),o 62 (.fa0 T_simplex_tableau_int64_simplex_few_167 (t 61)),o 63 (.load true 0 (t 62)),o 64 (.iface T_simplex_few (t 63)),o 65 (.mv (t 9)),o 66 (.mv (t 11)),o 67 (.ia 1 (t 65) (t 66)),o 68 (.load false 1 (t 67)),o 69 (.mv (t 6)),o 70 (.mv (t 10)),o 71 (.mv (t 7)),o 72 (.mv (t 11)),o 73 (.ia 1 (t 71) (t 72)),o 74 (.load false 1 (t 73)),o 75 (.mv (t 0)),o 76 (.chk (t 75)),o 77 (.fa 4 (t 76)),o 78 (.load false 1 (t 77)),o 79 (.inv (t 64) [(T_simplex_all, f_206), (T_simplex_few, f_213)] [(t 68), (t 69), (t 70), (t 74), (t 78)] true),o 80 (.ia 1 (t 58) (t 59)),
  ⟨none, none, .store 1 (t 80) (t 79)⟩]
def r_178_11 : List SOper := [o 81 (.bin 0 .add (t 55) (i 1)),o 55 (.mv (t 81))]
def r_178_12 : List SOper := [o 82 (.bin 0 .add (t 41) (i 1)),o 41 (.mv (t 82))]
def r_178_13 : List SOper := [o 83 (.mv (t 0)),o 84 (.mv (t 0)),o 85 (.chk (t 84)),o 86 (.fa 5 (t 85)),o 87 (.load false 1 (t 86)),o 88 (.mv (t 1)),o 89 (.mv (t 6)),o 90 (.mv (t 2)),o 91 (.chk (t 83)),o 92 (.fa 4 (t 91)),
  ⟨none, none, .store 1 (t 92) (t 89)⟩,o 93 (.ia 1 (t 87) (t 88)),
  ⟨none, none, .store 1 (t 93) (t 90)⟩]
def s_178 : SFun := ⟨3, 94, [],
  (.seq (.reg r_178_0) (.seq (.draw r_178_1 [0, 1, 3, 7, 0, 31, 63, 0, 255, 511, 0, 1024, 3072, 7168, 0, 31744, 64512, 1023, 262143] []) (.seq (.seq (.reg r_178_2) (.block 0 (.loop (.seq (.reg r_178_3) (.seq (.cond (t 42) .skip (.exit 0)) (.seq (.block 1 (.seq (.reg r_178_4) (.seq (.seq (.reg r_178_5) (.cond (t 48) (.exit 1) .skip)) (.seq (.reg r_178_6) (.seq (.reg r_178_7) (.block 2 (.loop (.seq (.reg r_178_8) (.seq (.cond (t 56) .skip (.exit 2)) (.seq (.block 3 (.seq (.reg r_178_9) (.draw r_178_10 [0, 0, 0, 4, 12, 28, 60, 0, 0, 384, 896, 0, 0, 0, 0, 24576, 57344, 0, 131072, 393216, 917504, 2097148, 4194303, 8388607] []))) (.reg r_178_11))))))))))) (.reg r_178_12))))))) (.reg r_178_13))))⟩

def r_179_0 : List SOper := [o 4 (.alloc T_api_Rat [(.bool false), (.slice none 0 0), (.bool false), (.slice none 0 0)])]
def r_179_1 : List SOper := [o 8 (.mv (t 0)),o 9 (.chk (t 8)),o 10 (.fa0 T_simplex_tableau_int64_simplex_few_167 (t 9)),o 11 (.load true 0 (t 10)),o 12 (.iface T_simplex_few (t 11)),o 13 (.mv (t 1)),o 14 (.inv (t 12) [(T_simplex_all, f_203), (T_simplex_few, f_210)] [(t 13)] false),o 15 (.mv (t 0)),o 16 (.chk (t 15)),o 17 (.fa0 T_simplex_tableau_int64_simplex_few_167 (t 16)),o 18 (.load true 0 (t 17)),o 19 (.iface T_simplex_few (t 18)),o 20 (.mv (t 0)),o 21 (.chk (t 20)),o 22 (.fa 4 (t 21)),o 23 (.load false 1 (t 22)),o 24 (.inv (t 19) [(T_simplex_all, f_203), (T_simplex_few, f_210)] [(t 23)] false),o 25 (.call f_118 [(t 14), (t 24)] false),o 7 (.mv (t 25)),o 26 (.ext (t 7) 0),o 27 (.ext (t 7) 1),o 5 (.alloc T_api_Rat [(.bool false), (.slice none 0 0), (.bool false), (.slice none 0 0)]),
  ⟨none, none, .store 4 (t 5) (t 26)⟩,o 6 (.mv (t 27))]
def r_179_2 : List SOper := [o 28 (.load true 4 (t 5)),
  ⟨none, none, .store 4 (t 4) (t 28)⟩]
def s_179 : SFun := ⟨2, 29, [.cell 4 true 4],
  (.seq (.reg r_179_0) (.seq (.draw r_179_1 [0, 1, 3, 7, 15, 0, 63, 0, 128, 384, 896, 1920, 0, 4096, 12288, 28672, 65535, 131071, 262143, 524287, 524287, 0, 3145727, 8388607] []) (.seq (.reg r_179_2) .ret)))⟩

def r_180_0 : List SOper := [o 4 (.mv (i 0))]
def r_180_1 : List SOper := [o 5 (.load false 1 (t 1)),o 6 (.chk (t 5)),o 7 (.fa0 T_simplex_tableau_int64_simplex_few_167 (t 6)),o 8 (.load true 0 (t 7)),o 9 (.iface T_simplex_few (t 8)),o 10 (.load false 1 (t 1)),o 11 (.chk (t 10)),o 12 (.fa 3 (t 11)),o 13 (.load false 1 (t 12)),o 14 (.mv (t 0)),o 15 (.ia 1 (t 13) (t 14)),o 16 (.load false 1 (t 15)),o 17 (.load false 1 (t 2)),o 18 (.ia 1 (t 16) (t 17)),o 19 (.load false 1 (t 18)),o 20 (.inv (t 9) [(T_simplex_all, f_202), (T_simplex_few, f_209)] [(t 19)] true),o 4 (.mv (t 20))]
def s_180 : SFun := ⟨3, 21, [.tmp 4],
  (.seq (.reg r_180_0) (.seq (.draw r_180_1 [0, 1, 3, 7, 15, 0, 32, 96, 224, 0, 992, 2016, 0, 8160, 16352, 32767, 65535] []) .ret))⟩

def r_181_0 : List SOper := [o 1 (.box T_api_Rat (t 0)),o 2 (.alloc T_api_Rat [(.bool false), (.slice none 0 0), (.bool false), (.slice none 0 0)])]
def r_181_1 : List SOper := [o 3 (.fa 0 (t 1)),o 4 (.load true 2 (t 3)),o 5 (.call f_151 [(t 4)] false),o 6 (.fa 2 (t 1)),o 7 (.load true 2 (t 6)),o 8 (.build [(.bool false), (.slice none 0 0), (.bool false), (.slice none 0 0)] [(0, 2, (t 5)), (2, 2, (t 7))]),
  ⟨none, none, .store 4 (t 2) (t 8)⟩]
def s_181 : SFun := ⟨1, 9, [.cell 2 true 4],
  (.seq (.reg r_181_0) (.seq (.draw r_181_1 [0, 1, 3, 0, 8, 31, 63] []) .ret))⟩

def r_182_0 : List SOper := [o 4 (.mv (.const (.slice none 0 0)))]
def r_182_1 : List SOper := [o 9 (.mv (t 0)),o 10 (.len (t 9)),o 11 (.bin 0 .add (t 10) (i 1)),o 12 (.mk T_uint32 4 [(.int .u32 0)] (i 0) (t 11)),o 5 (.mv (t 12))]
def r_182_2 : List SOper := [o 6 (.mv (.const (.int .u64 0)))]
def r_182_3 : List SOper := [o 13 (.mv (t 0)),o 14 (.len (t 13)),o 15 (.mv (i 0))]
def r_182_4 : List SOper := [o 16 (.bin 0 .lss (t 15) (t 14))]
def r_182_5 : List SOper := [o 17 (.ia 1 (t 13) (t 15)),o 18 (.load false 1 (t 17)),o 8 (.mv (t 18))]
def r_182_6 : List SOper := [o 19 (.mv (t 6)),o 20 (.mv (t 8)),o 21 (.conv .u64 (t 20)),o 22 (.mv (t 1)),o 23 (.bin 0 .shl (t 21) (t 22)),o 24 (.bin 0 .or (t 19) (t 23)),o 6 (.mv (t 24))]
def r_182_7 : List SOper := [o 25 (.mv (t 5)),o 26 (.mv (t 6)),o 27 (.call f_125 [(t 26)] true),o 28 (.lit T_uint32 [(.int .u32 0)] 1 [(0, 1, (t 27))]),o 29 (.app T_uint32 1 4 (t 25) (t 28)),o 5 (.mv (t 29))]
def r_182_8 : List SOper := [o 30 (.mv (t 6)),o 31 (.bin 0 .shr (t 30) (.const (.int .u64 32))),o 6 (.mv (t 31))]
def r_182_9 : List SOper := [o 32 (.bin 0 .add (t 15) (i 1)),o 15 (.mv (t 32))]
def r_182_10 : List SOper := [o 33 (.mv (t 5)),o 34 (.mv (t 6)),o 35 (.call f_125 [(t 34)] true),o 36 (.lit T_uint32 [(.int .u32 0)] 1 [(0, 1, (t 35))]),o 37 (.app T_uint32 1 4 (t 33) (t 36)),o 4 (.mv (t 37))]
def s_182 : SFun := ⟨2, 38, [.tmp 4],
  (.seq (.reg r_182_0) (.seq (.reg r_182_1) (.seq (.reg r_182_2) (.seq (.seq (.reg r_182_3) (.block 0 (.loop (.seq (.reg r_182_4) (.seq (.cond (t 16) .skip (.exit 0)) (.seq (.block 1 (.seq (.reg r_182_5) (.seq (.reg r_182_6) (.seq (.reg r_182_7) (.reg r_182_8))))) (.reg r_182_9))))))) (.seq (.reg r_182_10) .ret)))))⟩

def r_183_0 : List SOper := [o 6 (.mv (.const (.bool false)))]
def r_183_1 : List SOper := [o 7 (.mv (.const (.int .u64 0)))]
def r_183_2 : List SOper := [o 10 (.mv (t 0)),o 11 (.len (t 10)),o 12 (.mv (i 0))]
def r_183_3 : List SOper := [o 13 (.bin 0 .lss (t 12) (t 11))]
def r_183_4 : List SOper := [o 14 (.mv (t 12)),o 8 (.mv (t 14))]
def r_183_5 : List SOper := [o 15 (.mv (t 8)),o 16 (.mv (t 1)),o 17 (.len (t 16)),o 18 (.bin 0 .lss (t 15) (t 17))]
def r_183_6 : List SOper := [o 19 (.mv (t 7)),o 20 (.mv (t 1)),o 21 (.mv (t 8)),o 22 (.ia 1 (t 20) (t 21)),o 23 (.load false 1 (t 22)),o 24 (.conv .u64 (t 23)),o 25 (.mv (t 2)),o 26 (.bin 0 .mul (t 24) (t 25)),o 27 (.bin 0 .add (t 19) (t 26)),o 7 (.mv (t 27))]
def r_183_7 : List SOper := [o 28 (.mv (t 0)),o 29 (.mv (t 8)),o 30 (.ia 1 (t 28) (t 29)),o 31 (.load false 1 (t 30)),o 32 (.conv .u64 (t 31)),o 33 (.mv (t 7)),o 34 (.bin 0 .and (t 33) (.const (.int .u64 4294967295))),o 35 (.bin 0 .sub (t 32) (t 34)),o 9 (.mv (t 35))]
def r_183_8 : List SOper := [o 36 (.mv (t 0)),o 37 (.mv (t 8)),o 38 (.mv (t 9)),o 39 (.call f_125 [(t 38)] true),o 40 (.ia 1 (t 36) (t 37)),
  ⟨none, none, .store 1 (t 40) (t 39)⟩]
def r_183_9 : List SOper := [o 41 (.mv (t 7)),o 42 (.bin 0 .shr (t 41) (.const (.int .u64 32))),o 43 (.mv (t 9)),o 44 (.bin 0 .shr (t 43) (.const (.int .u64 63))),o 45 (.bin 0 .add (t 42) (t 44)),o 7 (.mv (t 45))]
def r_183_10 : List SOper := [o 46 (.bin 0 .add (t 12) (i 1)),o 12 (.mv (t 46))]
def r_183_11 : List SOper := [o 47 (.mv (t 7)),o 48 (.bin 0 .neq (t 47) (.const (.int .u64 0))),o 6 (.mv (t 48))]
def s_183 : SFun := ⟨3, 49, [.tmp 6],
  (.seq (.reg r_183_0) (.seq (.reg r_183_1) (.seq (.seq (.reg r_183_2) (.block 0 (.loop (.seq (.reg r_183_3) (.seq (.cond (t 13) .skip (.exit 0)) (.seq (.block 1 (.seq (.reg r_183_4) (.seq (.seq (.reg r_183_5) (.cond (t 18) (.reg r_183_6) .skip)) (.seq (.reg r_183_7) (.seq (.reg r_183_8) (.reg r_183_9)))))) (.reg r_183_10))))))) (.seq (.reg r_183_11) .ret))))⟩

def r_184_0 : List SOper := [o 4 (.mv (.const (.int .u64 0)))]
def r_184_1 : List SOper := [o 6 (.mv (t 0)),o 7 (.len (t 6)),o 8 (.mv (i 0))]
def r_184_2 : List SOper := [o 9 (.bin 0 .lss (t 8) (t 7))]
def r_184_3 : List SOper := [o 10 (.mv (t 8)),o 5 (.mv (t 10))]
def r_184_4 : List SOper := [o 11 (.mv (t 4)),o 12 (.mv (t 0)),o 13 (.mv (t 5)),o 14 (.ia 1 (t 12) (t 13)),o 15 (.load false 1 (t 14)),o 16 (.conv .u64 (t 15)),o 17 (.bin 0 .add (t 11) (t 16)),o 4 (.mv (t 17))]
def r_184_5 : List SOper := [o 18 (.mv (t 5)),o 19 (.mv (t 1)),o 20 (.len (t 19)),o 21 (.bin 0 .lss (t 18) (t 20))]
def r_184_6 : List SOper := [o 22 (.mv (t 4)),o 23 (.mv (t 1)),o 24 (.mv (t 5)),o 25 (.ia 1 (t 23) (t 24)),o 26 (.load false 1 (t 25)),o 27 (.conv .u64 (t 26)),o 28 (.bin 0 .add (t 22) (t 27)),o 4 (.mv (t 28))]
def r_184_7 : List SOper := [o 29 (.mv (t 0)),o 30 (.mv (t 5)),o 31 (.mv (t 4)),o 32 (.call f_125 [(t 31)] true),o 33 (.ia 1 (t 29) (t 30)),
  ⟨none, none, .store 1 (t 33) (t 32)⟩]
def r_184_8 : List SOper := [o 34 (.mv (t 4)),o 35 (.bin 0 .shr (t 34) (.const (.int .u64 32))),o 4 (.mv (t 35))]
def r_184_9 : List SOper := [o 36 (.bin 0 .add (t 8) (i 1)),o 8 (.mv (t 36))]
def s_184 : SFun := ⟨2, 37, [],
  (.seq (.reg r_184_0) (.seq (.reg r_184_1) (.block 0 (.loop (.seq (.reg r_184_2) (.seq (.cond (t 9) .skip (.exit 0)) (.seq (.block 1 (.seq (.reg r_184_3) (.seq (.reg r_184_4) (.seq (.seq (.reg r_184_5) (.cond (t 21) (.reg r_184_6) .skip)) (.seq (.reg r_184_7) (.reg r_184_8)))))) (.reg r_184_9))))))))⟩

def r_185_0 : List SOper := [o 4 (.mv (.const (.slice none 0 0)))]
def r_185_1 : List SOper := [o 8 (.mv (t 0)),o 9 (.len (t 8)),o 10 (.mk T_uint32 4 [(.int .u32 0)] (t 9) (t 9)),o 5 (.mv (t 10))]
def r_185_2 : List SOper := [o 11 (.mv (t 0)),o 12 (.len (t 11)),o 13 (.mv (i 0))]
def r_185_3 : List SOper := [o 14 (.bin 0 .lss (t 13) (t 12))]
def r_185_4 : List SOper := [o 15 (.mv (t 13)),o 6 (.mv (t 15))]
def r_185_5 : List SOper := [o 16 (.mv (t 0)),o 17 (.mv (t 6)),o 18 (.ia 1 (t 16) (t 17)),o 19 (.load false 1 (t 18)),o 20 (.conv .u64 (t 19)),o 7 (.mv (t 20))]
def r_185_6 : List SOper := [o 21 (.mv (t 6)),o 22 (.bin 0 .add (t 21) (i 1)),o 23 (.mv (t 0)),o 24 (.len (t 23)),o 25 (.bin 0 .lss (t 22) (t 24))]
def r_185_7 : List SOper := [o 26 (.mv (t 7)),o 27 (.mv (t 0)),o 28 (.mv (t 6)),o 29 (.bin 0 .add (t 28) (i 1)),o 30 (.ia 1 (t 27) (t 29)),o 31 (.load false 1 (t 30)),o 32 (.conv .u64 (t 31)),o 33 (.bin 0 .shl (t 32) (.const (.int .u64 32))),o 34 (.bin 0 .or (t 26) (t 33)),o 7 (.mv (t 34))]
def r_185_8 : List SOper := [o 35 (.mv (t 5)),o 36 (.mv (t 6)),o 37 (.mv (t 7)),o 38 (.mv (t 1)),o 39 (.bin 0 .shr (t 37) (t 38)),o 40 (.call f_125 [(t 39)] true),o 41 (.ia 1 (t 35) (t 36)),
  ⟨none, none, .store 1 (t 41) (t 40)⟩]
def r_185_9 : List SOper := [o 42 (.bin 0 .add (t 13) (i 1)),o 13 (.mv (t 42))]
def r_185_10 : List SOper := [o 43 (.mv (t 5)),o 4 (.mv (t 43))]
def s_185 : SFun := ⟨2, 44, [.tmp 4],
  (.seq (.reg r_185_0) (.seq (.reg r_185_1) (.seq (.seq (.reg r_185_2) (.block 0 (.loop (.seq (.reg r_185_3) (.seq (.cond (t 14) .skip (.exit 0)) (.seq (.block 1 (.seq (.reg r_185_4) (.seq (.reg r_185_5) (.seq (.seq (.reg r_185_6) (.cond (t 25) (.reg r_185_7) .skip)) (.reg r_185_8))))) (.reg r_185_9))))))) (.seq (.reg r_185_10) .ret))))⟩

def r_201_0 : List SOper := [o 5 (.box T_simplex_all (t 0)),o 6 (.box T_api_Int (t 1)),o 7 (.box T_api_Int (t 2)),o 8 (.box T_api_Int (t 3)),o 9 (.box T_api_Int (t 4)),o 10 (.mv (i 0))]
def r_201_1 : List SOper := [o 11 (.load true 2 (t 6)),o 12 (.load true 2 (t 7)),o 13 (.call f_89 [(t 11), (t 12)] false),o 14 (.load true 2 (t 8)),o 15 (.load true 2 (t 9)),o 16 (.call f_89 [(t 14), (t 15)] true),o 17 (.call f_127 [(t 13), (t 16)] true),o 10 (.mv (t 17))]
def s_201 : SFun := ⟨5, 18, [.tmp 10],
  (.seq (.reg r_201_0) (.seq (.draw r_201_1 [0, 0, 3, 0, 0, 31, 63, 127] []) .ret))⟩

def r_202_0 : List SOper := [o 2 (.box T_simplex_all (t 0)),o 3 (.box T_api_Int (t 1)),o 4 (.alloc T_api_Int [(.bool false), (.slice none 0 0)])]
def r_202_1 : List SOper := [o 5 (.load true 2 (t 3)),o 6 (.call f_151 [(t 5)] true),
  ⟨none, none, .store 2 (t 4) (t 6)⟩]
def s_202 : SFun := ⟨2, 7, [.cell 4 true 2],
  (.seq (.reg r_202_0) (.seq (.reg r_202_1) .ret))⟩

def r_203_0 : List SOper := [o 2 (.box T_simplex_all (t 0)),o 3 (.box T_api_Int (t 1)),o 4 (.alloc T_api_Int [(.bool false), (.slice none 0 0)])]
def r_203_1 : List SOper := [o 5 (.load true 2 (t 3)),
  ⟨none, none, .store 2 (t 4) (t 5)⟩]
def s_203 : SFun := ⟨2, 6, [.cell 4 true 2],
  (.seq (.reg r_203_0) (.seq (.reg r_203_1) .ret))⟩

def r_204_0 : List SOper := [o 2 (.box T_simplex_all (t 0)),o 3 (.box T_api_Int (t 1)),o 4 (.alloc T_api_Int [(.bool false), (.slice none 0 0)])]
def r_204_1 : List SOper := [o 5 (.load true 2 (t 3)),
  ⟨none, none, .store 2 (t 4) (t 5)⟩]
def s_204 : SFun := ⟨2, 6, [.cell 4 true 2],
  (.seq (.reg r_204_0) (.seq (.reg r_204_1) .ret))⟩

def r_205_0 : List SOper := [o 2 (.box T_simplex_all (t 0)),o 3 (.box T_api_Int (t 1)),o 4 (.mv (i 0))]
def r_205_1 : List SOper := [o 5 (.load true 2 (t 3)),o 6 (.build [(.bool false), (.slice none 0 0)] []),o 7 (.call f_127 [(t 5), (t 6)] true),o 4 (.mv (t 7))]
def s_205 : SFun := ⟨2, 8, [.tmp 4],
  (.seq (.reg r_205_0) (.seq (.reg r_205_1) .ret))⟩

def r_206_0 : List SOper := [o 6 (.box T_simplex_all (t 0)),o 7 (.box T_api_Int (t 1)),o 8 (.box T_api_Int (t 2)),o 9 (.box T_api_Int (t 3)),o 10 (.box T_api_Int (t 4)),o 11 (.box T_api_Int (t 5)),o 12 (.alloc T_api_Int [(.bool false), (.slice none 0 0)])]
def r_206_1 : List SOper := [o 17 (.load true 2 (t 7)),o 18 (.load true 2 (t 8)),o 19 (.call f_89 [(t 17), (t 18)] false),o 20 (.load true 2 (t 9)),o 21 (.load true 2 (t 10)),o 22 (.call f_89 [(t 20), (t 21)] false),o 23 (.call f_207 [(t 19), (t 22)] false),o 24 (.load true 2 (t 11)),o 25 (.call f_152 [(t 23), (t 24)] false),o 16 (.mv (t 25)),o 26 (.ext (t 16) 0),o 27 (.ext (t 16) 1),o 28 (.ext (t 16) 2),o 13 (.alloc T_api_Int [(.bool false), (.slice none 0 0)]),o 14 (.alloc T_api_Int [(.bool false), (.slice none 0 0)]),
  ⟨none, none, .store 2 (t 13) (t 26)⟩,
  ⟨none, none, .store 2 (t 14) (t 27)⟩,o 15 (.mv (t 28))]
def r_206_2 : List SOper := [o 29 (.load true 2 (t 13)),
  ⟨none, none, .store 2 (t 12) (t 29)⟩]
def s_206 : SFun := ⟨6, 30, [.cell 12 true 2],
  (.seq (.reg r_206_0) (.seq (.draw r_206_1 [0, 0, 3, 0, 0, 31, 63, 0, 255, 511, 1023, 1023, 1023, 0, 0, 26623, 61439, 131071] []) (.seq (.reg r_206_2) .ret)))⟩

def r_207_0 : List SOper := [o 2 (.box T_api_Int (t 0)),o 3 (.box T_api_Int (t 1)),o 4 (.alloc T_api_Int [(.bool false), (.slice none 0 0)])]
def r_207_1 : List SOper := [o 5 (.load true 2 (t 2)),o 6 (.load true 2 (t 3)),o 7 (.call f_151 [(t 6)] false),o 8 (.call f_88 [(t 5), (t 7)] true),
  ⟨none, none, .store 2 (t 4) (t 8)⟩]
def s_207 : SFun := ⟨2, 9, [.cell 4 true 2],
  (.seq (.reg r_207_0) (.seq (.draw r_207_1 [0, 0, 2, 7, 15] []) .ret))⟩

def r_208_0 : List SOper := [o 5 (.box T_simplex_few (t 0)),o 10 (.mv (i 0))]
def r_208_1 : List SOper := [o 11 (.mv (t 1)),o 12 (.mv (t 2)),o 13 (.bin 0 .mul (t 11) (t 12)),o 14 (.mv (t 3)),o 15 (.mv (t 4)),o 16 (.bin 0 .mul (t 14) (t 15)),o 17 (.call f_214 [(t 13), (t 16)] true),o 10 (.mv (t 17))]
def s_208 : SFun := ⟨5, 18, [.tmp 10],
  (.seq (.reg r_208_0) (.seq (.reg r_208_1) .ret))⟩

def r_209_0 : List SOper := [o 2 (.box T_simplex_few (t 0)),o 4 (.mv (i 0))]
def r_209_1 : List SOper := [o 5 (.mv (t 1)),o 6 (.un .neg (t 5)),o 4 (.mv (t 6))]
def s_209 : SFun := ⟨2, 7, [.tmp 4],
  (.seq (.reg r_209_0) (.seq (.reg r_209_1) .ret))⟩

def r_210_0 : List SOper := [o 2 (.box T_simplex_few (t 0)),o 4 (.alloc T_api_Int [(.bool false), (.slice none 0 0)])]
def r_210_1 : List SOper := [o 5 (.mv (t 1)),o 6 (.call f_126 [(t 5)] true),
  ⟨none, none, .store 2 (t 4) (t 6)⟩]
def s_210 : SFun := ⟨2, 7, [.cell 4 true 2],
  (.seq (.reg r_210_0) (.seq (.reg r_210_1) .ret))⟩

def r_211_0 : List SOper := [o 2 (.box T_simplex_few (t 0)),o 3 (.box T_api_Int (t 1)),o 4 (.mv (i 0))]
def r_211_1 : List SOper := [o 8 (.load true 2 (t 3)),o 9 (.call f_215 [(t 8)] true),o 7 (.mv (t 9)),o 10 (.ext (t 7) 0),o 11 (.ext (t 7) 1),o 5 (.mv (t 10)),o 6 (.mv (t 11))]
def r_211_2 : List SOper := [o 12 (.mv (t 6)),o 13 (.un .not (t 12))]
def r_211_3 : List SOper := [o 14 (.build [] []),o 15 (.iface T_simplex_wide (t 14)),
  ⟨none, none, .pan (t 15)⟩]
def r_211_4 : List SOper := [o 16 (.mv (t 5)),o 17 (.call f_216 [(t 16)] true),o 4 (.mv (t 17))]
def s_211 : SFun := ⟨2, 18, [.tmp 4],
  (.seq (.reg r_211_0) (.seq (.reg r_211_1) (.seq (.seq (.reg r_211_2) (.cond (t 13) (.reg r_211_3) .skip)) (.seq (.reg r_211_4) .ret))))⟩

def r_212_0 : List SOper := [o 2 (.box T_simplex_few (t 0)),o 4 (.mv (i 0))]
def r_212_1 : List SOper := [o 5 (.mv (t 1)),o 6 (.call f_214 [(t 5), (i 0)] true),o 4 (.mv (t 6))]
def s_212 : SFun := ⟨2, 7, [.tmp 4],
  (.seq (.reg r_212_0) (.seq (.reg r_212_1) .ret))⟩

def r_213_0 : List SOper := [o 6 (.box T_simplex_few (t 0)),o 12 (.mv (i 0))]
def r_213_1 : List SOper := [o 13 (.mv (t 1)),o 14 (.mv (t 2)),o 15 (.bin 0 .mul (t 13) (t 14)),o 16 (.mv (t 3)),o 17 (.mv (t 4)),o 18 (.bin 0 .mul (t 16) (t 17)),o 19 (.bin 0 .sub (t 15) (t 18)),o 20 (.mv (t 5)),o 21 (.bin 0 .quo (t 19) (t 20)),o 22 (.call f_216 [(t 21)] true),o 12 (.mv (t 22))]
def s_213 : SFun := ⟨6, 23, [.tmp 12],
  (.seq (.reg r_213_0) (.seq (.reg r_213_1) .ret))⟩

def r_214_0 : List SOper := [o 4 (.mv (i 0))]
def r_214_1 : List SOper := [o 6 (.mv (t 0)),o 7 (.mv (t 1)),o 8 (.bin 0 .lss (t 6) (t 7)),o 5 (.mv (t 8))]
def r_214_2 : List SOper := [o 4 (.mv (.const (.int .i64 (-1))))]
def r_214_3 : List SOper := [o 10 (.mv (t 0)),o 11 (.mv (t 1)),o 12 (.bin 0 .gtr (t 10) (t 11)),o 9 (.mv (t 12))]
def r_214_4 : List SOper := [o 4 (.mv (i 1))]
def r_214_5 : List SOper := [o 4 (.mv (i 0))]
def s_214 : SFun := ⟨2, 13, [.tmp 4],
  (.seq (.reg r_214_0) (.seq (.block 0 (.seq (.reg r_214_1) (.cond (t 5) (.seq (.reg r_214_2) .ret) (.seq (.reg r_214_3) (.cond (t 9) (.seq (.reg r_214_4) .ret) .skip))))) (.seq (.reg r_214_5) .ret)))⟩

def r_215_0 : List SOper := [o 1 (.box T_api_Int (t 0)),o 2 (.mv (i 0)),o 3 (.mv (.const (.bool false)))]
def r_215_1 : List SOper := [o 8 (.load true 2 (t 1)),o 9 (.call f_119 [(t 8)] true),o 4 (.mv (t 9))]
def r_215_2 : List SOper := [o 10 (.mv (t 4)),o 11 (.len (t 10)),o 12 (.bin 0 .gtr (t 11) (i 2))]
def r_215_3 : List SOper := [o 2 (.mv (i 0)),o 3 (.mv (.const (.bool false)))]
def r_215_4 : List SOper := [o 5 (.mv (.const (.int .u64 0)))]
def r_215_5 : List SOper := [o 13 (.mv (t 4)),o 14 (.len (t 13)),o 15 (.mv (i 0))]
def r_215_6 : List SOper := [o 16 (.bin 0 .lss (t 15) (t 14))]
def r_215_7 : List SOper := [o 17 (.mv (t 15)),o 18 (.ia 1 (t 13) (t 15)),o 19 (.load false 1 (t 18)),o 6 (.mv (t 17)),o 7 (.mv (t 19))]
def r_215_8 : List SOper := [o 20 (.mv (t 5)),o 21 (.mv (t 7)),o 22 (.conv .u64 (t 21)),o 23 (.mv (t 6)),o 24 (.bin 0 .mul (i 32) (t 23)),o 25 (.bin 0 .shl (t 22) (t 24)),o 26 (.bin 0 .or (t 20) (t 25)),o 5 (.mv (t 26))]
def r_215_9 : List SOper := [o 27 (.bin 0 .add (t 15) (i 1)),o 15 (.mv (t 27))]
def r_215_10 : List SOper := [o 29 (.load true 2 (t 1)),o 30 (.call f_120 [(t 29)] true),o 31 (.mv (t 30)),og 32 31 true (.mv (t 5)),og 33 31 true (.bin 0 .leq (t 32) (.const (.int .u64 9223372036854775808))),o 34 (.pick (t 31) (t 33) (.const (.bool false))),o 28 (.mv (t 34))]
def r_215_11 : List SOper := [o 35 (.mv (t 5)),o 36 (.un .neg (t 35)),o 37 (.conv .i64 (t 36)),o 2 (.mv (t 37)),o 3 (.mv (.const (.bool true)))]
def r_215_12 : List SOper := [o 39 (.load true 2 (t 1)),o 40 (.call f_120 [(t 39)] true),o 41 (.un .not (t 40)),o 42 (.mv (t 41)),og 43 42 true (.mv (t 5)),og 44 42 true (.bin 0 .lss (t 43) (.const (.int .u64 9223372036854775808))),o 45 (.pick (t 42) (t 44) (.const (.bool false))),o 38 (.mv (t 45))]
def r_215_13 : List SOper := [o 46 (.mv (t 5)),o 47 (.conv .i64 (t 46)),o 2 (.mv (t 47)),o 3 (.mv (.const (.bool true)))]
def r_215_14 : List SOper := [o 2 (.mv (i 0)),o 3 (.mv (.const (.bool false)))]
def s_215 : SFun := ⟨1, 48, [.tmp 2, .tmp 3],
  (.seq (.reg r_215_0) (.seq (.reg r_215_1) (.seq (.seq (.reg r_215_2) (.cond (t 12) (.seq (.reg r_215_3) .ret) .skip)) (.seq (.reg r_215_4) (.seq (.seq (.reg r_215_5) (.block 0 (.loop (.seq (.reg r_215_6) (.seq (.cond (t 16) .skip (.exit 0)) (.seq (.block 1 (.seq (.reg r_215_7) (.reg r_215_8))) (.reg r_215_9))))))) (.seq (.block 2 (.seq (.reg r_215_10) (.cond (t 28) (.seq (.reg r_215_11) .ret) (.seq (.reg r_215_12) (.cond (t 38) (.seq (.reg r_215_13) .ret) .skip))))) (.seq (.reg r_215_14) .ret)))))))⟩

def r_216_0 : List SOper := [o 2 (.mv (i 0))]
def r_216_1 : List SOper := [o 3 (.mv (t 0)),o 4 (.bin 0 .leq (t 3) (.const (.int .i64 (-2147483648)))),o 5 (.mv (t 4)),og 6 5 false (.mv (t 0)),og 7 5 false (.bin 0 .geq (t 6) (i 2147483648)),o 8 (.pick (t 5) (.const (.bool true)) (t 7))]
def r_216_2 : List SOper := [o 9 (.build [] []),o 10 (.iface T_simplex_wide (t 9)),
  ⟨none, none, .pan (t 10)⟩]
def r_216_3 : List SOper := [o 11 (.mv (t 0)),o 2 (.mv (t 11))]
def s_216 : SFun := ⟨1, 12, [.tmp 2],
  (.seq (.reg r_216_0) (.seq (.seq (.reg r_216_1) (.cond (t 8) (.reg r_216_2) .skip)) (.seq (.reg r_216_3) .ret)))⟩


end Go.Proofs.YtjlohmnnldbjoaaGreat.AI

/- The small code of the program's functions: printed. -/
namespace Go.Proofs.YtjlohmnnldbjoaaGreat.AI
open Go

def codeTab : List (Nat × SFun) := [
  (f_7, s_7),
  (f_12, s_12),
  (f_13, s_13),
  (f_15, s_15),
  (f_18, s_18),
  (f_19, s_19),
  (f_20, s_20),
  (f_24, s_24),
  (f_26, s_26),
  (f_27, s_27),
  (f_28, s_28),
  (f_29, s_29),
  (f_30, s_30),
  (f_31, s_31),
  (f_32, s_32),
  (f_33, s_33),
  (f_34, s_34),
  (f_35, s_35),
  (f_36, s_36),
  (f_37, s_37),
  (f_38, s_38),
  (f_39, s_39),
  (f_40, s_40),
  (f_48, s_48),
  (f_49, s_49),
  (f_50, s_50),
  (f_51, s_51),
  (f_53, s_53),
  (f_54, s_54),
  (f_55, s_55),
  (f_57, s_57),
  (f_58, s_58),
  (f_59, s_59),
  (f_60, s_60),
  (f_61, s_61),
  (f_62, s_62),
  (f_63, s_63),
  (f_64, s_64),
  (f_65, s_65),
  (f_66, s_66),
  (f_67, s_67),
  (f_68, s_68),
  (f_69, s_69),
  (f_70, s_70),
  (f_71, s_71),
  (f_72, s_72),
  (f_73, s_73),
  (f_74, s_74),
  (f_75, s_75),
  (f_76, s_76),
  (f_77, s_77),
  (f_78, s_78),
  (f_81, s_81),
  (f_84, s_84),
  (f_85, s_85),
  (f_86, s_86),
  (f_87, s_87),
  (f_88, s_88),
  (f_89, s_89),
  (f_90, s_90),
  (f_91, s_91),
  (f_92, s_92),
  (f_93, s_93),
  (f_94, s_94),
  (f_95, s_95),
  (f_96, s_96),
  (f_97, s_97),
  (f_98, s_98),
  (f_99, s_99),
  (f_100, s_100),
  (f_101, s_101),
  (f_102, s_102),
  (f_103, s_103),
  (f_104, s_104),
  (f_105, s_105),
  (f_106, s_106),
  (f_107, s_107),
  (f_108, s_108),
  (f_109, s_109),
  (f_110, s_110),
  (f_112, s_112),
  (f_115, s_115),
  (f_116, s_116),
  (f_117, s_117),
  (f_118, s_118),
  (f_119, s_119),
  (f_120, s_120),
  (f_121, s_121),
  (f_122, s_122),
  (f_123, s_123),
  (f_124, s_124),
  (f_125, s_125),
  (f_126, s_126),
  (f_127, s_127),
  (f_128, s_128),
  (f_129, s_129),
  (f_130, s_130),
  (f_131, s_131),
  (f_132, s_132),
  (f_133, s_133),
  (f_134, s_134),
  (f_135, s_135),
  (f_136, s_136),
  (f_137, s_137),
  (f_139, s_139),
  (f_140, s_140),
  (f_141, s_141),
  (f_142, s_142),
  (f_143, s_143),
  (f_144, s_144),
  (f_145, s_145),
  (f_146, s_146),
  (f_148, s_148),
  (f_149, s_149),
  (f_150, s_150),
  (f_151, s_151),
  (f_152, s_152),
  (f_153, s_153),
  (f_154, s_154),
  (f_155, s_155),
  (f_156, s_156),
  (f_157, s_157),
  (f_158, s_158),
  (f_159, s_159),
  (f_160, s_160),
  (f_161, s_161),
  (f_162, s_162),
  (f_163, s_163),
  (f_164, s_164),
  (f_165, s_165),
  (f_166, s_166),
  (f_167, s_167),
  (f_168, s_168),
  (f_169, s_169),
  (f_170, s_170),
  (f_171, s_171),
  (f_172, s_172),
  (f_173, s_173),
  (f_174, s_174),
  (f_175, s_175),
  (f_176, s_176),
  (f_177, s_177),
  (f_178, s_178),
  (f_179, s_179),
  (f_180, s_180),
  (f_181, s_181),
  (f_182, s_182),
  (f_183, s_183),
  (f_184, s_184),
  (f_185, s_185),
  (f_201, s_201),
  (f_202, s_202),
  (f_203, s_203),
  (f_204, s_204),
  (f_205, s_205),
  (f_206, s_206),
  (f_207, s_207),
  (f_208, s_208),
  (f_209, s_209),
  (f_210, s_210),
  (f_211, s_211),
  (f_212, s_212),
  (f_213, s_213),
  (f_214, s_214),
  (f_215, s_215),
  (f_216, s_216)]

def awakeTab : List (Nat × SFun) := [(f_17, s_17)]

/-- the program's functions; of those that show the document's examples it is known that they answer true. -/
def env : Env := ⟨fun f => codeTab.lookup f, some ⟨f_111, f_139, [(.int .i64 0), (.bool false), (.slice none 0 0), (.bool false), (.slice none 0 0), (.slice none 0 0), (.slice none 0 0), (.slice none 0 0)], 4, 8⟩, [(f_17, .bool true)]⟩

theorem e_7 : env.code f_7 = some s_7 := rfl
theorem e_18 : env.code f_18 = some s_18 := rfl
theorem e_19 : env.code f_19 = some s_19 := rfl
theorem e_24 : env.code f_24 = some s_24 := rfl
theorem e_27 : env.code f_27 = some s_27 := rfl
theorem e_28 : env.code f_28 = some s_28 := rfl
theorem e_29 : env.code f_29 = some s_29 := rfl
theorem e_30 : env.code f_30 = some s_30 := rfl
theorem e_31 : env.code f_31 = some s_31 := rfl
theorem e_32 : env.code f_32 = some s_32 := rfl
theorem e_33 : env.code f_33 = some s_33 := rfl
theorem e_34 : env.code f_34 = some s_34 := rfl
theorem e_38 : env.code f_38 = some s_38 := rfl
theorem e_39 : env.code f_39 = some s_39 := rfl
theorem e_48 : env.code f_48 = some s_48 := rfl
theorem e_51 : env.code f_51 = some s_51 := rfl
theorem e_53 : env.code f_53 = some s_53 := rfl
theorem e_54 : env.code f_54 = some s_54 := rfl
theorem e_55 : env.code f_55 = some s_55 := rfl
theorem e_57 : env.code f_57 = some s_57 := rfl
theorem e_58 : env.code f_58 = some s_58 := rfl
theorem e_59 : env.code f_59 = some s_59 := rfl
theorem e_60 : env.code f_60 = some s_60 := rfl
theorem e_61 : env.code f_61 = some s_61 := rfl
theorem e_62 : env.code f_62 = some s_62 := rfl
theorem e_63 : env.code f_63 = some s_63 := rfl
theorem e_64 : env.code f_64 = some s_64 := rfl
theorem e_65 : env.code f_65 = some s_65 := rfl
theorem e_66 : env.code f_66 = some s_66 := rfl
theorem e_67 : env.code f_67 = some s_67 := rfl
theorem e_68 : env.code f_68 = some s_68 := rfl
theorem e_69 : env.code f_69 = some s_69 := rfl
theorem e_70 : env.code f_70 = some s_70 := rfl
theorem e_71 : env.code f_71 = some s_71 := rfl
theorem e_72 : env.code f_72 = some s_72 := rfl
theorem e_73 : env.code f_73 = some s_73 := rfl
theorem e_74 : env.code f_74 = some s_74 := rfl
theorem e_75 : env.code f_75 = some s_75 := rfl
theorem e_76 : env.code f_76 = some s_76 := rfl
theorem e_81 : env.code f_81 = some s_81 := rfl
theorem e_85 : env.code f_85 = some s_85 := rfl
theorem e_86 : env.code f_86 = some s_86 := rfl
theorem e_87 : env.code f_87 = some s_87 := rfl
theorem e_88 : env.code f_88 = some s_88 := rfl
theorem e_89 : env.code f_89 = some s_89 := rfl
theorem e_92 : env.code f_92 = some s_92 := rfl
theorem e_93 : env.code f_93 = some s_93 := rfl
theorem e_94 : env.code f_94 = some s_94 := rfl
theorem e_95 : env.code f_95 = some s_95 := rfl
theorem e_96 : env.code f_96 = some s_96 := rfl
theorem e_97 : env.code f_97 = some s_97 := rfl
theorem e_98 : env.code f_98 = some s_98 := rfl
theorem e_99 : env.code f_99 = some s_99 := rfl
theorem e_100 : env.code f_100 = some s_100 := rfl
theorem e_101 : env.code f_101 = some s_101 := rfl
theorem e_102 : env.code f_102 = some s_102 := rfl
theorem e_103 : env.code f_103 = some s_103 := rfl
theorem e_104 : env.code f_104 = some s_104 := rfl
theorem e_105 : env.code f_105 = some s_105 := rfl
theorem e_106 : env.code f_106 = some s_106 := rfl
theorem e_107 : env.code f_107 = some s_107 := rfl
theorem e_115 : env.code f_115 = some s_115 := rfl
theorem e_116 : env.code f_116 = some s_116 := rfl
theorem e_117 : env.code f_117 = some s_117 := rfl
theorem e_118 : env.code f_118 = some s_118 := rfl
theorem e_119 : env.code f_119 = some s_119 := rfl
theorem e_120 : env.code f_120 = some s_120 := rfl
theorem e_121 : env.code f_121 = some s_121 := rfl
theorem e_122 : env.code f_122 = some s_122 := rfl
theorem e_123 : env.code f_123 = some s_123 := rfl
theorem e_124 : env.code f_124 = some s_124 := rfl
theorem e_125 : env.code f_125 = some s_125 := rfl
theorem e_126 : env.code f_126 = some s_126 := rfl
theorem e_127 : env.code f_127 = some s_127 := rfl
theorem e_128 : env.code f_128 = some s_128 := rfl
theorem e_129 : env.code f_129 = some s_129 := rfl
theorem e_130 : env.code f_130 = some s_130 := rfl
theorem e_131 : env.code f_131 = some s_131 := rfl
theorem e_132 : env.code f_132 = some s_132 := rfl
theorem e_133 : env.code f_133 = some s_133 := rfl
theorem e_134 : env.code f_134 = some s_134 := rfl
theorem e_148 : env.code f_148 = some s_148 := rfl
theorem e_149 : env.code f_149 = some s_149 := rfl
theorem e_150 : env.code f_150 = some s_150 := rfl
theorem e_151 : env.code f_151 = some s_151 := rfl
theorem e_152 : env.code f_152 = some s_152 := rfl
theorem e_153 : env.code f_153 = some s_153 := rfl
theorem e_154 : env.code f_154 = some s_154 := rfl
theorem e_155 : env.code f_155 = some s_155 := rfl
theorem e_156 : env.code f_156 = some s_156 := rfl
theorem e_172 : env.code f_172 = some s_172 := rfl
theorem e_173 : env.code f_173 = some s_173 := rfl
theorem e_174 : env.code f_174 = some s_174 := rfl
theorem e_182 : env.code f_182 = some s_182 := rfl
theorem e_183 : env.code f_183 = some s_183 := rfl
theorem e_184 : env.code f_184 = some s_184 := rfl
theorem e_185 : env.code f_185 = some s_185 := rfl
end Go.Proofs.YtjlohmnnldbjoaaGreat.AI
