/- Part 5 of the proof: AiCode2, AiCode3, AiEnv, AiHeap, AiSet, AiOwn. -/
import Derived.Test.YtjlohmnnldbjoaaGreatM02
import Derived.Test.YtjlohmnnldbjoaaGreatM03
set_option linter.unusedVariables false
set_option linter.unusedSimpArgs false
set_option linter.unusedSectionVars false

/- The small code of the program's functions: printed. -/
namespace Go.Proofs.YtjlohmnnldbjoaaGreat.AI
open Go

def r_134_0 : SS := [o 1 (.box T_api_Int (t 0)),o 2 (.alloc T_api_Int [(.bool false), (.slice none 0 0)])]
def r_134_1 : SS := [lA 3 2 1,o 4 (.call f_105 [(t 3)] true),
  ⟨none, none, .store 2 (t 1) (t 4)⟩]
def r_134_2 : SS := [fA 5 0 1,lD 6 5,o 7 (.un .not (t 6)),fA 8 1 1,lD 9 8,o 10 (.call f_76 [(t 7), (t 9)] true),
  ⟨none, none, .store 2 (t 2) (t 10)⟩]
def s_134 : SF := ⟨1, 11, [.cell 2 true 2],
  (qS (gR r_134_0) (qS (gR r_134_1) (qS (gR r_134_2) .ret)))⟩

def r_135_0 : SS := [o 4 (.mv (i 0))]
def r_135_1 : SS := [mV 6 0,lN 7 6,o 8 (.mv (i 0))]
def r_135_2 : SS := [o 9 (.bin 0 .lss (t 8) (t 7))]
def r_135_3 : SS := [mV 10 8,mV 5 10]
def r_135_4 : SS := [mV 11 1,mV 12 0,mV 13 5,iA 14 1 12 13,lD 15 14,o 16 (.callv (t 11) [(t 15)] true)]
def r_135_5 : SS := [mV 17 5,mV 4 17]
def r_135_6 : SS := [o 18 (.bin 0 .add (t 8) (i 1)),mV 8 18]
def r_135_7 : SS := [o 4 (.mv (.const (.int .i64 (-1))))]
def s_135 : SF := ⟨2, 19, [.tmp 4],
  (qS (gR r_135_0) (qS (qS (gR r_135_1) (.block 0 (.loop (qS (gR r_135_2) (qS (.cond (t 9) .skip (.exit 0)) (qS (.block 1 (qS (gR r_135_3) (qS (gR r_135_4) (.cond (t 16) (qS (gR r_135_5) .ret) .skip)))) (gR r_135_6))))))) (qS (gR r_135_7) .ret)))⟩

def r_136_0 : SS := [o 2 (.mv (.const (.slice none 0 0))),o 3 (.alloc T_api_Rat [(.bool false), (.slice none 0 0), (.bool false), (.slice none 0 0)])]
def r_136_1 : SS := [o 21 (.call f_126 [(i 1)] true),o 4 (.alloc T_api_Int [(.bool false), (.slice none 0 0)]),
  ⟨none, none, .store 2 (t 4) (t 21)⟩]
def r_136_2 : SS := [mV 22 0,lN 23 22,o 24 (.mv (i 0))]
def r_136_3 : SS := [o 25 (.bin 0 .lss (t 24) (t 23))]
def r_136_4 : SS := [iA 26 4 22 24,lA 27 4 26,o 6 (.alloc T_api_Rat [(.bool false), (.slice none 0 0), (.bool false), (.slice none 0 0)]),
  ⟨none, none, .store 4 (t 6) (t 27)⟩]
def r_136_5 : SS := [fA 29 2 6,lA 30 2 29,lA 31 2 4,fA 32 2 6,lA 33 2 32,o 34 (.call f_133 [(t 31), (t 33)] false),o 35 (.call f_152 [(t 30), (t 34)] false),mV 28 35,o 36 (.ext (t 28) 0),o 37 (.ext (t 28) 1),o 38 (.ext (t 28) 2),o 7 (.alloc T_api_Int [(.bool false), (.slice none 0 0)]),o 8 (.alloc T_api_Int [(.bool false), (.slice none 0 0)]),
  ⟨none, none, .store 2 (t 7) (t 36)⟩,
  ⟨none, none, .store 2 (t 8) (t 37)⟩,mV 9 38]
def r_136_6 : SS := [lA 39 2 4,lA 40 2 7,o 41 (.call f_89 [(t 39), (t 40)] true),
  ⟨none, none, .store 2 (t 4) (t 41)⟩]
def r_136_7 : SS := [o 42 (.bin 0 .add (t 24) (i 1)),mV 24 42]
def r_136_8 : SS := [o 10 (.mv (.const (.slice none 0 0)))]
def r_136_9 : SS := [o 43 (.build [(.bool false), (.slice none 0 0)] []),o 11 (.alloc T_api_Int [(.bool false), (.slice none 0 0)]),
  ⟨none, none, .store 2 (t 11) (t 43)⟩]
def r_136_10 : SS := [mV 44 0,lN 45 44,o 46 (.mv (i 0))]
def r_136_11 : SS := [o 47 (.bin 0 .lss (t 46) (t 45))]
def r_136_12 : SS := [iA 48 4 44 46,lA 49 4 48,o 13 (.alloc T_api_Rat [(.bool false), (.slice none 0 0), (.bool false), (.slice none 0 0)]),
  ⟨none, none, .store 4 (t 13) (t 49)⟩]
def r_136_13 : SS := [lA 51 2 4,fA 52 2 13,lA 53 2 52,o 54 (.call f_152 [(t 51), (t 53)] true),mV 50 54,o 55 (.ext (t 50) 0),o 56 (.ext (t 50) 1),o 57 (.ext (t 50) 2),o 14 (.alloc T_api_Int [(.bool false), (.slice none 0 0)]),o 15 (.alloc T_api_Int [(.bool false), (.slice none 0 0)]),
  ⟨none, none, .store 2 (t 14) (t 55)⟩,
  ⟨none, none, .store 2 (t 15) (t 56)⟩,mV 16 57]
def r_136_14 : SS := [fA 58 0 13,lA 59 2 58,lA 60 2 14,o 61 (.call f_89 [(t 59), (t 60)] true),o 17 (.alloc T_api_Int [(.bool false), (.slice none 0 0)]),
  ⟨none, none, .store 2 (t 17) (t 61)⟩]
def r_136_15 : SS := [mV 62 10,lA 63 2 17,o 64 (.lit T_api_Int [(.bool false), (.slice none 0 0)] 1 [(0, 2, (t 63))]),o 65 (.app T_api_Int 2 32 (t 62) (t 64)),mV 10 65]
def r_136_16 : SS := [lA 66 2 11,lA 67 2 17,o 68 (.call f_133 [(t 66), (t 67)] true),
  ⟨none, none, .store 2 (t 11) (t 68)⟩]
def r_136_17 : SS := [o 69 (.bin 0 .add (t 46) (i 1)),mV 46 69]
def r_136_18 : SS := [lA 70 2 11,o 71 (.build [(.bool false), (.slice none 0 0)] []),o 72 (.call f_127 [(t 70), (t 71)] true),o 73 (.bin 0 .eql (t 72) (i 0))]
def r_136_19 : SS := [o 74 (.call f_126 [(i 1)] true),
  ⟨none, none, .store 2 (t 11) (t 74)⟩]
def r_136_20 : SS := [mV 75 10,lN 76 75,o 77 (.mv (i 0))]
def r_136_21 : SS := [o 78 (.bin 0 .lss (t 77) (t 76))]
def r_136_22 : SS := [mV 79 77,mV 18 79]
def r_136_23 : SS := [mV 81 10,mV 82 18,mV 83 10,mV 84 18,iA 85 2 83 84,lA 86 2 85,lA 87 2 11,o 88 (.call f_152 [(t 86), (t 87)] true),mV 80 88,o 89 (.ext (t 80) 0),o 90 (.ext (t 80) 1),o 91 (.ext (t 80) 2),iA 92 2 81 82,
  ⟨none, none, .store 2 (t 92) (t 89)⟩]
def r_136_24 : SS := [o 93 (.bin 0 .add (t 77) (i 1)),mV 77 93]
def r_136_25 : SS := [lA 95 2 4,lA 96 2 11,o 97 (.call f_118 [(t 95), (t 96)] true),mV 94 97,o 98 (.ext (t 94) 0),o 99 (.ext (t 94) 1),o 19 (.alloc T_api_Rat [(.bool false), (.slice none 0 0), (.bool false), (.slice none 0 0)]),
  ⟨none, none, .store 4 (t 19) (t 98)⟩,mV 20 99]
def r_136_26 : SS := [mV 100 10,lA 101 4 19,mV 2 100,
  ⟨none, none, .store 4 (t 3) (t 101)⟩]
def s_136 : SF := ⟨1, 102, [.tmp 2, .cell 3 true 4],
  (qS (gR r_136_0) (qS (gR r_136_1) (qS (qS (gR r_136_2) (.block 0 (.loop (qS (gR r_136_3) (qS (.cond (t 25) .skip (.exit 0)) (qS (.block 1 (qS (gR r_136_4) (qS (.draw r_136_5 [0, 1, 0, 0, 8, 28, 63, 127, 255, 255, 255, 0, 0, 6655, 15359, 32767] []) (gR r_136_6)))) (gR r_136_7))))))) (qS (gR r_136_8) (qS (gR r_136_9) (qS (qS (gR r_136_10) (.block 2 (.loop (qS (gR r_136_11) (qS (.cond (t 47) .skip (.exit 2)) (qS (.block 3 (qS (gR r_136_12) (qS (gR r_136_13) (qS (gR r_136_14) (qS (gR r_136_15) (gR r_136_16)))))) (gR r_136_17))))))) (qS (qS (gR r_136_18) (.cond (t 73) (gR r_136_19) .skip)) (qS (qS (gR r_136_20) (.block 4 (.loop (qS (gR r_136_21) (qS (.cond (t 78) .skip (.exit 4)) (qS (.block 5 (qS (gR r_136_22) (.draw r_136_23 [0, 0, 0, 0, 12, 28, 0, 124, 252, 508, 508, 508, 1023, 5119] []))) (gR r_136_24))))))) (qS (gR r_136_25) (qS (.draw r_136_26 [0, 0, 1, 7] []) .ret))))))))))⟩

def r_137_0 : SS := [o 2 (.mv (.const (.slice none 0 0)))]
def r_137_1 : SS := [mV 6 0,lN 7 6,o 8 (.bin 0 .add (t 7) (i 1)),o 9 (.mk T_api_Rat 64 [(.bool false), (.slice none 0 0), (.bool false), (.slice none 0 0)] (i 0) (t 8)),mV 3 9]
def r_137_2 : SS := [mV 10 0,lN 11 10,o 12 (.mv (i 0))]
def r_137_3 : SS := [o 13 (.bin 0 .lss (t 12) (t 11))]
def r_137_4 : SS := [iA 14 4 10 12,lA 15 4 14,o 5 (.alloc T_api_Rat [(.bool false), (.slice none 0 0), (.bool false), (.slice none 0 0)]),
  ⟨none, none, .store 4 (t 5) (t 15)⟩]
def r_137_5 : SS := [mV 16 3,lA 17 4 5,o 18 (.build [(.bool false), (.slice none 0 0), (.bool false), (.slice none 0 0)] []),o 19 (.call f_51 [(t 17), (t 18)] true),o 20 (.lit T_api_Rat [(.bool false), (.slice none 0 0), (.bool false), (.slice none 0 0)] 1 [(0, 4, (t 19))]),o 21 (.app T_api_Rat 4 64 (t 16) (t 20)),mV 3 21]
def r_137_6 : SS := [o 22 (.bin 0 .add (t 12) (i 1)),mV 12 22]
def r_137_7 : SS := [mV 23 3,mV 2 23]
def s_137 : SF := ⟨1, 24, [.tmp 2],
  (qS (gR r_137_0) (qS (gR r_137_1) (qS (qS (gR r_137_2) (.block 0 (.loop (qS (gR r_137_3) (qS (.cond (t 13) .skip (.exit 0)) (qS (.block 1 (qS (gR r_137_4) (gR r_137_5))) (gR r_137_6))))))) (qS (gR r_137_7) .ret))))⟩

def r_139_0 : SS := [o 3 (.box T_simplex_few (t 0)),o 4 (.box T_api_LP (t 1)),o 5 (.box T_simplex_scaled (t 2)),o 6 (.alloc T_api_Answer [(.int .i64 0), (.bool false), (.slice none 0 0), (.bool false), (.slice none 0 0), (.slice none 0 0), (.slice none 0 0), (.slice none 0 0)]),o 7 (.mv (i 0))]
def r_139_1 : SS := [lA 16 0 3,lA 17 8 5,o 18 (.call f_157 [(t 16), (t 17)] true),o 8 (.alloc T_simplex_tableau_int64_simplex_few [(.pointer none)]),
  ⟨none, none, .store 1 (t 8) (t 18)⟩]
def r_139_2 : SS := [lD 19 8,cK 20 19,fA 21 1 20,lD 22 21,lD 23 8,cK 24 23,fA 25 1 24,lD 26 25,o 27 (.bin 0 .add (t 26) (i 1)),mV 9 22,mV 10 27]
def r_139_3 : SS := [lD 28 8,mV 29 9,o 30 (.call f_158 [(t 28), (t 29)] true)]
def r_139_4 : SS := [lD 31 8,cK 32 31,o 33 (.fa0 T_simplex_tableau_int64_simplex_few_167 (t 32)),lA 34 0 33,o 35 (.iface T_simplex_few (t 34)),lD 36 8,cK 37 36,fA 38 3 37,lD 39 38,mV 40 9,iA 41 1 39 40,lD 42 41,lD 43 8,cK 44 43,fA 45 2 44,lD 46 45,iA 47 1 42 46,lD 48 47,o 49 (.inv (t 35) [(T_simplex_all, f_205), (T_simplex_few, f_212)] [(t 48)] true),o 50 (.bin 0 .lss (t 49) (i 0))]
def r_139_5 : SS := [o 51 (.call f_90 [(i 0)] false),lD 52 8,mV 53 9,lA 54 8 5,o 55 (.call f_90 [(i 1)] false),o 56 (.call f_159 [(t 52), (t 53), (t 54), (t 55)] false),o 57 (.build [(.int .i64 0), (.bool false), (.slice none 0 0), (.bool false), (.slice none 0 0), (.slice none 0 0), (.slice none 0 0), (.slice none 0 0)] [(0, 1, (i 2)), (1, 4, (t 51)), (6, 1, (t 56))]),lD 58 8,cK 59 58,fA 60 6 59,lD 61 60,
  ⟨none, none, .store 8 (t 6) (t 57)⟩,mV 7 61]
def r_139_6 : SS := [lD 62 8,o 63 (.call f_160 [(t 62)] true)]
def r_139_7 : SS := [lD 64 8,mV 65 10,o 66 (.call f_158 [(t 64), (t 65)] true),mV 11 66]
def r_139_8 : SS := [lD 67 8,o 68 (.mkfn (.func f_162) [] [(t 8)]),o 69 (.call f_161 [(t 67), (t 68)] true),mV 12 69]
def r_139_9 : SS := [mV 70 11,o 71 (.bin 0 .geq (t 70) (i 0))]
def r_139_10 : SS := [o 72 (.call f_90 [(i 0)] false),mV 73 12,lD 74 8,mV 75 11,o 76 (.call f_163 [(t 74), (t 75)] false),o 77 (.build [(.int .i64 0), (.bool false), (.slice none 0 0), (.bool false), (.slice none 0 0), (.slice none 0 0), (.slice none 0 0), (.slice none 0 0)] [(0, 1, (i 3)), (1, 4, (t 72)), (5, 1, (t 73)), (7, 1, (t 76))]),lD 78 8,cK 79 78,fA 80 6 79,lD 81 80,
  ⟨none, none, .store 8 (t 6) (t 77)⟩,mV 7 81]
def r_139_11 : SS := [o 82 (.call f_90 [(i 0)] true),o 13 (.alloc T_api_Rat [(.bool false), (.slice none 0 0), (.bool false), (.slice none 0 0)]),
  ⟨none, none, .store 4 (t 13) (t 82)⟩]
def r_139_12 : SS := [fA 83 3 4,lD 84 83,lN 85 84,o 86 (.mv (i 0))]
def r_139_13 : SS := [o 87 (.bin 0 .lss (t 86) (t 85))]
def r_139_14 : SS := [mV 88 86,iA 89 4 84 86,lA 90 4 89,o 15 (.alloc T_api_Rat [(.bool false), (.slice none 0 0), (.bool false), (.slice none 0 0)]),mV 14 88,
  ⟨none, none, .store 4 (t 15) (t 90)⟩]
def r_139_15 : SS := [lA 91 4 13,lA 92 4 15,mV 93 12,mV 94 14,iA 95 4 93 94,lA 96 4 95,o 97 (.call f_91 [(t 92), (t 96)] false),o 98 (.call f_51 [(t 91), (t 97)] true),
  ⟨none, none, .store 4 (t 13) (t 98)⟩]
def r_139_16 : SS := [o 99 (.bin 0 .add (t 86) (i 1)),mV 86 99]
def r_139_17 : SS := [lA 100 4 13,mV 101 12,lD 102 8,mV 103 10,lA 104 8 5,fA 105 4 5,lA 106 4 105,o 107 (.call f_159 [(t 102), (t 103), (t 104), (t 106)] false),o 108 (.build [(.int .i64 0), (.bool false), (.slice none 0 0), (.bool false), (.slice none 0 0), (.slice none 0 0), (.slice none 0 0), (.slice none 0 0)] [(0, 1, (i 1)), (1, 4, (t 100)), (5, 1, (t 101)), (6, 1, (t 107))]),lD 109 8,cK 110 109,fA 111 6 110,lD 112 111,
  ⟨none, none, .store 8 (t 6) (t 108)⟩,mV 7 112]
def s_139 : SF := ⟨3, 113, [.cell 6 true 8, .tmp 7],
  (qS (gR r_139_0) (qS (gR r_139_1) (qS (.draw r_139_2 [0, 1, 3, 7, 0, 16, 48, 112, 240, 15, 1023] []) (qS (gR r_139_3) (qS (qS (.draw r_139_4 [0, 1, 3, 7, 15, 0, 32, 96, 224, 0, 992, 2016, 0, 4096, 12288, 28672, 65504, 131040, 262143, 524287] []) (.cond (t 50) (qS (.draw r_139_5 [0, 0, 0, 0, 1, 31, 63, 0, 128, 384, 896, 127, 4095] [(7, 11), (10, 11)]) .ret) .skip)) (qS (gR r_139_6) (qS (gR r_139_7) (qS (gR r_139_8) (qS (qS (gR r_139_9) (.cond (t 71) (qS (.draw r_139_10 [0, 0, 0, 0, 13, 31, 0, 64, 192, 448, 63, 2047] [(6, 10), (9, 10)]) .ret) .skip)) (qS (gR r_139_11) (qS (qS (gR r_139_12) (.block 0 (.loop (qS (gR r_139_13) (qS (.cond (t 87) .skip (.exit 0)) (qS (.block 1 (qS (gR r_139_14) (.draw r_139_15 [0, 0, 0, 0, 12, 28, 62, 127, 255] []))) (gR r_139_16))))))) (qS (.draw r_139_17 [0, 0, 0, 0, 0, 0, 32, 124, 255, 0, 512, 1536, 3584, 511, 16383] [(9, 13), (12, 13)]) .ret))))))))))))⟩

def r_140_0 : SS := [o 2 (.box T_simplex_all (t 0)),o 3 (.box T_simplex_scaled (t 1)),o 4 (.mv (.const (.pointer none)))]
def r_140_1 : SS := [fA 22 1 3,lD 23 22,lN 24 23,mV 5 24]
def r_140_2 : SS := [lA 25 0 2,fA 26 0 3,lD 27 26,mV 28 5,fA 29 0 3,lD 30 29,o 31 (.bin 0 .mul (i 2) (t 30)),mV 32 5,o 33 (.bin 0 .add (t 31) (t 32)),lA 34 0 2,o 35 (.iface T_simplex_all (t 34)),o 36 (.call f_126 [(i 1)] false),o 37 (.inv (t 35) [(T_simplex_all, f_204), (T_simplex_few, f_211)] [(t 36)] false),o 38 (.build [(.int .i64 0), (.int .i64 0), (.int .i64 0), (.slice none 0 0), (.bool false), (.slice none 0 0), (.slice none 0 0), (.int .i64 0)] [(0, 0, (t 25)), (0, 1, (t 27)), (1, 1, (t 28)), (2, 1, (t 33)), (4, 2, (t 37))]),o 39 (.box T_simplex_tableau_api_Int_simplex_all_150 (t 38)),o 6 (.alloc T_simplex_tableau_api_Int_simplex_all [(.pointer none)]),
  ⟨none, none, .store 1 (t 6) (t 39)⟩]
def r_140_3 : SS := [lA 40 0 2,o 41 (.iface T_simplex_all (t 40)),o 42 (.build [(.bool false), (.slice none 0 0)] []),o 43 (.inv (t 41) [(T_simplex_all, f_204), (T_simplex_few, f_211)] [(t 42)] true),o 7 (.alloc T_api_Int [(.bool false), (.slice none 0 0)]),
  ⟨none, none, .store 2 (t 7) (t 43)⟩]
def r_140_4 : SS := [o 44 (.mkfn (.func f_164) [] [(t 6), (t 7)]),mV 8 44]
def r_140_5 : SS := [mV 45 8,o 46 (.callv (t 45) [] true),mV 47 8,o 48 (.callv (t 47) [] true),mV 9 46,mV 10 48]
def r_140_6 : SS := [fA 49 3 3,lD 50 49,lN 51 50,o 52 (.mv (i 0))]
def r_140_7 : SS := [o 53 (.bin 0 .lss (t 52) (t 51))]
def r_140_8 : SS := [mV 54 52,iA 55 2 50 52,lA 56 2 55,o 12 (.alloc T_api_Int [(.bool false), (.slice none 0 0)]),mV 11 54,
  ⟨none, none, .store 2 (t 12) (t 56)⟩]
def r_140_9 : SS := [lA 57 0 2,o 58 (.iface T_simplex_all (t 57)),lA 59 2 12,o 60 (.inv (t 58) [(T_simplex_all, f_204), (T_simplex_few, f_211)] [(t 59)] true),o 13 (.alloc T_api_Int [(.bool false), (.slice none 0 0)]),
  ⟨none, none, .store 2 (t 13) (t 60)⟩]
def r_140_10 : SS := [mV 61 10,mV 62 11,mV 63 10,fA 64 0 3,lD 65 64,mV 66 11,o 67 (.bin 0 .add (t 65) (t 66)),lA 68 0 2,o 69 (.iface T_simplex_all (t 68)),lA 70 2 13,o 71 (.inv (t 69) [(T_simplex_all, f_202), (T_simplex_few, f_209)] [(t 70)] false),lA 72 2 13,iA 73 2 61 62,
  ⟨none, none, .store 2 (t 73) (t 71)⟩,iA 74 2 63 67,
  ⟨none, none, .store 2 (t 74) (t 72)⟩]
def r_140_11 : SS := [o 75 (.bin 0 .add (t 52) (i 1)),mV 52 75]
def r_140_12 : SS := [fA 76 1 3,lD 77 76,lN 78 77,o 79 (.mv (i 0))]
def r_140_13 : SS := [o 80 (.bin 0 .lss (t 79) (t 78))]
def r_140_14 : SS := [mV 81 79,iA 82 1 77 79,lD 83 82,mV 14 81,mV 15 83]
def r_140_15 : SS := [mV 84 8,o 85 (.callv (t 84) [] true),mV 16 85]
def r_140_16 : SS := [mV 86 15,fA 87 0 3,lD 88 87,o 89 (.sl T_api_Int 2 (t 86) none (some (t 88)) none),lN 90 89,o 91 (.mv (i 0))]
def r_140_17 : SS := [o 92 (.bin 0 .lss (t 91) (t 90))]
def r_140_18 : SS := [mV 93 91,iA 94 2 89 91,lA 95 2 94,o 18 (.alloc T_api_Int [(.bool false), (.slice none 0 0)]),mV 17 93,
  ⟨none, none, .store 2 (t 18) (t 95)⟩]
def r_140_19 : SS := [lA 96 0 2,o 97 (.iface T_simplex_all (t 96)),lA 98 2 18,o 99 (.inv (t 97) [(T_simplex_all, f_204), (T_simplex_few, f_211)] [(t 98)] true),o 19 (.alloc T_api_Int [(.bool false), (.slice none 0 0)]),
  ⟨none, none, .store 2 (t 19) (t 99)⟩]
def r_140_20 : SS := [mV 100 16,mV 101 17,mV 102 16,fA 103 0 3,lD 104 103,mV 105 17,o 106 (.bin 0 .add (t 104) (t 105)),lA 107 2 19,lA 108 0 2,o 109 (.iface T_simplex_all (t 108)),lA 110 2 19,o 111 (.inv (t 109) [(T_simplex_all, f_202), (T_simplex_few, f_209)] [(t 110)] false),iA 112 2 100 101,
  ⟨none, none, .store 2 (t 112) (t 107)⟩,iA 113 2 102 106,
  ⟨none, none, .store 2 (t 113) (t 111)⟩]
def r_140_21 : SS := [o 114 (.bin 0 .add (t 91) (i 1)),mV 91 114]
def r_140_22 : SS := [mV 115 16,fA 116 0 3,lD 117 116,o 118 (.bin 0 .mul (i 2) (t 117)),mV 119 14,o 120 (.bin 0 .add (t 118) (t 119)),lD 121 6,cK 122 121,fA 123 4 122,lA 124 2 123,iA 125 2 115 120,
  ⟨none, none, .store 2 (t 125) (t 124)⟩]
def r_140_23 : SS := [mV 126 16,lD 127 6,cK 128 127,fA 129 2 128,lD 130 129,lA 131 0 2,o 132 (.iface T_simplex_all (t 131)),mV 133 15,fA 134 0 3,lD 135 134,iA 136 2 133 135,lA 137 2 136,o 138 (.inv (t 132) [(T_simplex_all, f_204), (T_simplex_few, f_211)] [(t 137)] false),iA 139 2 126 130,
  ⟨none, none, .store 2 (t 139) (t 138)⟩]
def r_140_24 : SS := [fA 140 0 3,lD 141 140,o 142 (.bin 0 .mul (i 2) (t 141)),mV 143 14,o 144 (.bin 0 .add (t 142) (t 143)),mV 20 144]
def r_140_25 : SS := [lA 145 0 2,o 146 (.iface T_simplex_all (t 145)),mV 147 16,lD 148 6,cK 149 148,fA 150 2 149,lD 151 150,iA 152 2 147 151,lA 153 2 152,o 154 (.inv (t 146) [(T_simplex_all, f_205), (T_simplex_few, f_212)] [(t 153)] true),o 155 (.bin 0 .lss (t 154) (i 0))]
def r_140_26 : SS := [lD 156 6,cK 157 156,fA 158 2 157,lD 159 158,mV 160 14,o 161 (.bin 0 .add (t 159) (t 160)),mV 20 161]
def r_140_27 : SS := [mV 162 16,lN 163 162,o 164 (.mv (i 0))]
def r_140_28 : SS := [o 165 (.bin 0 .lss (t 164) (t 163))]
def r_140_29 : SS := [mV 166 164,mV 21 166]
def r_140_30 : SS := [mV 167 16,mV 168 21,lA 169 0 2,o 170 (.iface T_simplex_all (t 169)),mV 171 16,mV 172 21,iA 173 2 171 172,lA 174 2 173,o 175 (.inv (t 170) [(T_simplex_all, f_202), (T_simplex_few, f_209)] [(t 174)] true),iA 176 2 167 168,
  ⟨none, none, .store 2 (t 176) (t 175)⟩]
def r_140_31 : SS := [mV 177 9,mV 178 21,lD 179 6,mV 180 9,mV 181 21,iA 182 2 180 181,lA 183 2 182,mV 184 16,mV 185 21,iA 186 2 184 185,lA 187 2 186,o 188 (.call f_165 [(t 179), (t 183), (t 187)] true),iA 189 2 177 178,
  ⟨none, none, .store 2 (t 189) (t 188)⟩]
def r_140_32 : SS := [o 190 (.bin 0 .add (t 164) (i 1)),mV 164 190]
def r_140_33 : SS := [lD 191 6,lD 192 6,lD 193 6,cK 194 193,fA 195 3 194,lD 196 195,mV 197 16,o 198 (.lit T_sl_api_Int [(.slice none 0 0)] 1 [(0, 1, (t 197))]),o 199 (.app T_sl_api_Int 1 24 (t 196) (t 198)),lD 200 6,cK 201 200,fA 202 6 201,lD 203 202,mV 204 20,o 205 (.lit T_int [(.int .i64 0)] 1 [(0, 1, (t 204))]),o 206 (.app T_int 1 8 (t 203) (t 205)),cK 207 191,fA 208 3 207,
  ⟨none, none, .store 1 (t 208) (t 199)⟩,cK 209 192,fA 210 6 209,
  ⟨none, none, .store 1 (t 210) (t 206)⟩]
def r_140_34 : SS := [o 211 (.bin 0 .add (t 79) (i 1)),mV 79 211]
def r_140_35 : SS := [lD 212 6,lD 213 6,cK 214 213,fA 215 3 214,lD 216 215,mV 217 9,mV 218 10,o 219 (.lit T_sl_api_Int [(.slice none 0 0)] 2 [(0, 1, (t 217)), (1, 1, (t 218))]),o 220 (.app T_sl_api_Int 1 24 (t 216) (t 219)),cK 221 212,fA 222 3 221,
  ⟨none, none, .store 1 (t 222) (t 220)⟩]
def r_140_36 : SS := [lD 223 6,mV 4 223]
def s_140 : SF := ⟨2, 224, [.tmp 4],
  (qS (gR r_140_0) (qS (gR r_140_1) (qS (.draw r_140_2 [0, 0, 2, 0, 0, 16, 48, 0, 240, 0, 512, 0, 3584, 8191, 16383, 0, 65535] []) (qS (gR r_140_3) (qS (gR r_140_4) (qS (gR r_140_5) (qS (qS (gR r_140_6) (.block 0 (.loop (qS (gR r_140_7) (qS (.cond (t 53) .skip (.exit 0)) (qS (.block 1 (qS (gR r_140_8) (qS (gR r_140_9) (.draw r_140_10 [0, 0, 0, 0, 8, 0, 56, 0, 128, 0, 896, 0, 1923, 6019, 16383, 32767] [(4, 13), (11, 13)])))) (gR r_140_11))))))) (qS (qS (gR r_140_12) (.block 2 (.loop (qS (gR r_140_13) (qS (.cond (t 80) .skip (.exit 2)) (qS (.block 3 (qS (gR r_140_14) (qS (gR r_140_15) (qS (qS (gR r_140_16) (.block 4 (.loop (qS (gR r_140_17) (qS (.cond (t 92) .skip (.exit 4)) (qS (.block 5 (qS (gR r_140_18) (qS (gR r_140_19) (.draw r_140_20 [0, 0, 0, 0, 8, 0, 56, 0, 0, 256, 0, 1792, 3971, 8067, 16383, 32767] [(4, 13)])))) (gR r_140_21))))))) (qS (.draw r_140_22 [0, 0, 2, 6, 0, 30, 0, 64, 192, 448, 1023, 2047] []) (qS (.draw r_140_23 [0, 0, 2, 6, 14, 0, 32, 0, 0, 256, 896, 1920, 4064, 8191, 16383] []) (qS (gR r_140_24) (qS (qS (.draw r_140_25 [0, 1, 0, 0, 8, 24, 56, 124, 252, 511, 1023] []) (.cond (t 155) (qS (gR r_140_26) (qS (gR r_140_27) (.block 6 (.loop (qS (gR r_140_28) (qS (.cond (t 165) .skip (.exit 6)) (qS (.block 7 (qS (gR r_140_29) (qS (.draw r_140_30 [0, 0, 0, 4, 0, 0, 48, 112, 252, 511, 1023] []) (.draw r_140_31 [0, 0, 0, 0, 0, 24, 56, 0, 0, 384, 896, 2044, 4095, 8191] [])))) (gR r_140_32)))))))) .skip)) (.draw r_140_33 [0, 0, 0, 4, 12, 28, 0, 64, 252, 0, 512, 1536, 3584, 0, 8192, 32764, 65533, 131069, 262141, 524287, 1048575, 2097151] [(0, 8), (1, 8), (8, 9), (8, 12), (8, 14), (0, 15), (1, 15), (1, 18)]))))))))) (gR r_140_34))))))) (qS (.draw r_140_35 [0, 0, 2, 6, 14, 0, 0, 96, 254, 511, 1023, 2047] [(0, 8)]) (qS (gR r_140_36) .ret))))))))))⟩

def r_141_0 : SS := [o 4 (.mv (i 0))]
def r_141_1 : SS := [o 5 (.mv (i 0))]
def r_141_2 : SS := [mV 7 5,mV 8 0,cK 9 8,fA 10 2 9,lD 11 10,o 12 (.bin 0 .lss (t 7) (t 11)),mV 13 12,og 14 13 true (.mv (t 0)),og 15 13 true (.chk (t 14)),og 16 13 true (.fa0 T_simplex_tableau_api_Int_simplex_all_150 (t 15)),og 17 13 true (.load true 0 (t 16)),og 18 13 true (.iface T_simplex_all (t 17)),og 19 13 true (.mv (t 0)),og 20 13 true (.chk (t 19)),og 21 13 true (.fa 3 (t 20)),og 22 13 true (.load false 1 (t 21)),og 23 13 true (.mv (t 1)),og 24 13 true (.ia 1 (t 22) (t 23)),og 25 13 true (.load false 1 (t 24)),og 26 13 true (.mv (t 5)),og 27 13 true (.ia 2 (t 25) (t 26)),og 28 13 true (.load true 2 (t 27)),og 29 13 true (.inv (t 18) [(T_simplex_all, f_205), (T_simplex_few, f_212)] [(t 28)] true),og 30 13 true (.bin 0 .geq (t 29) (i 0)),o 31 (.pick (t 13) (t 30) (.const (.bool false)))]
def r_141_3 : SS := [mV 32 5,o 33 (.bin 0 .add (t 32) (i 1)),mV 5 33]
def r_141_4 : SS := [mV 34 5,mV 35 0,cK 36 35,fA 37 2 36,lD 38 37,o 39 (.bin 0 .eql (t 34) (t 38))]
def r_141_5 : SS := [o 4 (.mv (.const (.int .i64 (-1))))]
def r_141_6 : SS := [mV 40 0,mV 41 5,o 42 (.call f_166 [(t 40), (t 41)] true),mV 6 42]
def r_141_7 : SS := [mV 43 6,o 44 (.bin 0 .lss (t 43) (i 0))]
def r_141_8 : SS := [mV 45 5,mV 4 45]
def r_141_9 : SS := [mV 46 0,mV 47 6,mV 48 5,o 49 (.call f_167 [(t 46), (t 47), (t 48)] true)]
def s_141 : SF := ⟨2, 50, [.tmp 4],
  (qS (gR r_141_0) (.block 0 (.loop (.block 1 (qS (gR r_141_1) (qS (.block 2 (.loop (qS (qS (.draw r_141_2 [0, 0, 2, 6, 14, 31, 63, 127, 255, 511, 1023, 2047, 127, 4223, 12415, 28799, 127, 127103, 258175, 127, 1044607, 2093183, 4194303, 8388607, 16777215] []) (.cond (t 31) .skip (.exit 2))) (.block 3 (gR r_141_3))))) (qS (qS (gR r_141_4) (.cond (t 39) (qS (gR r_141_5) .ret) .skip)) (qS (gR r_141_6) (qS (qS (gR r_141_7) (.cond (t 44) (qS (gR r_141_8) .ret) .skip)) (gR r_141_9))))))))))⟩

def r_142_0 : SS := [o 6 (.box T_simplex_scaled (t 2)),o 7 (.box T_api_Rat (t 3)),o 8 (.mv (.const (.slice none 0 0)))]
def r_142_1 : SS := [o 9 (.mv (.const (.slice none 0 0)))]
def r_142_2 : SS := [mV 13 0,cK 14 13,fA 15 1 14,lD 16 15,o 17 (.mv (i 0))]
def r_142_3 : SS := [o 18 (.bin 0 .lss (t 17) (t 16))]
def r_142_4 : SS := [mV 19 17,mV 10 19]
def r_142_5 : SS := [mV 21 0,mV 22 0,cK 23 22,fA 24 3 23,lD 25 24,mV 26 1,iA 27 1 25 26,lD 28 27,mV 29 0,cK 30 29,fA 31 0 30,lD 32 31,o 33 (.bin 0 .mul (i 2) (t 32)),mV 34 10,o 35 (.bin 0 .add (t 33) (t 34)),iA 36 2 28 35,lA 37 2 36,o 38 (.call f_169 [(t 21), (t 37)] false),fA 39 2 6,lD 40 39,mV 41 10,iA 42 4 40 41,lA 43 4 42,o 44 (.call f_91 [(t 38), (t 43)] false),lA 45 4 7,o 46 (.call f_168 [(t 44), (t 45)] false),mV 20 46,o 47 (.ext (t 20) 0),o 48 (.ext (t 20) 1),o 11 (.alloc T_api_Rat [(.bool false), (.slice none 0 0), (.bool false), (.slice none 0 0)]),
  ⟨none, none, .store 4 (t 11) (t 47)⟩,mV 12 48]
def r_142_6 : SS := [mV 49 9,lA 50 4 11,o 51 (.lit T_api_Rat [(.bool false), (.slice none 0 0), (.bool false), (.slice none 0 0)] 1 [(0, 4, (t 50))]),o 52 (.app T_api_Rat 4 64 (t 49) (t 51)),mV 9 52]
def r_142_7 : SS := [o 53 (.bin 0 .add (t 17) (i 1)),mV 17 53]
def r_142_8 : SS := [mV 54 9,mV 8 54]
def s_142 : SF := ⟨4, 55, [.tmp 8],
  (qS (gR r_142_0) (qS (gR r_142_1) (qS (qS (gR r_142_2) (.block 0 (.loop (qS (gR r_142_3) (qS (.cond (t 18) .skip (.exit 0)) (qS (.block 1 (qS (gR r_142_4) (qS (.draw r_142_5 [0, 0, 2, 6, 14, 0, 62, 126, 0, 256, 768, 1792, 3840, 0, 16128, 32766, 65534, 131071, 0, 262144, 0, 1835008, 3932160, 8388607, 0, 33554431, 67108863, 134217727, 134217727, 0, 805306367, 2147483647] []) (gR r_142_6)))) (gR r_142_7))))))) (qS (gR r_142_8) .ret))))⟩

def r_143_0 : SS := [mV 7 0,cK 8 7,fA 9 1 8,lD 10 9,o 11 (.mv (i 0))]
def r_143_1 : SS := [o 12 (.bin 0 .lss (t 11) (t 10))]
def r_143_2 : SS := [mV 13 11,mV 2 13]
def r_143_3 : SS := [mV 14 0,cK 15 14,fA 16 6 15,lD 17 16,mV 18 2,iA 19 1 17 18,lD 20 19,mV 21 0,cK 22 21,fA 23 2 22,lD 24 23,o 25 (.bin 0 .lss (t 20) (t 24))]
def r_143_4 : SS := [mV 26 0,cK 27 26,fA 28 2 27,lD 29 28,o 30 (.mv (i 0))]
def r_143_5 : SS := [o 31 (.bin 0 .lss (t 30) (t 29))]
def r_143_6 : SS := [mV 32 30,mV 3 32]
def r_143_7 : SS := [mV 33 0,cK 34 33,o 35 (.fa0 T_simplex_tableau_api_Int_simplex_all_150 (t 34)),lA 36 0 35,o 37 (.iface T_simplex_all (t 36)),mV 38 0,cK 39 38,fA 40 3 39,lD 41 40,mV 42 2,iA 43 1 41 42,lD 44 43,mV 45 3,iA 46 2 44 45,lA 47 2 46,o 48 (.inv (t 37) [(T_simplex_all, f_205), (T_simplex_few, f_212)] [(t 47)] true),mV 4 48]
def r_143_8 : SS := [mV 49 4,o 50 (.bin 0 .eql (t 49) (i 0))]
def r_143_9 : SS := [mV 51 4,o 52 (.bin 0 .lss (t 51) (i 0))]
def r_143_10 : SS := [mV 53 0,cK 54 53,fA 55 3 54,lD 56 55,mV 57 2,iA 58 1 56 57,lD 59 58,lN 60 59,o 61 (.mv (i 0))]
def r_143_11 : SS := [o 62 (.bin 0 .lss (t 61) (t 60))]
def r_143_12 : SS := [mV 63 61,iA 64 2 59 61,lA 65 2 64,o 6 (.alloc T_api_Int [(.bool false), (.slice none 0 0)]),mV 5 63,
  ⟨none, none, .store 2 (t 6) (t 65)⟩]
def r_143_13 : SS := [mV 66 0,cK 67 66,fA 68 3 67,lD 69 68,mV 70 2,iA 71 1 69 70,lD 72 71,mV 73 5,mV 74 0,cK 75 74,o 76 (.fa0 T_simplex_tableau_api_Int_simplex_all_150 (t 75)),lA 77 0 76,o 78 (.iface T_simplex_all (t 77)),lA 79 2 6,o 80 (.inv (t 78) [(T_simplex_all, f_202), (T_simplex_few, f_209)] [(t 79)] false),iA 81 2 72 73,
  ⟨none, none, .store 2 (t 81) (t 80)⟩]
def r_143_14 : SS := [o 82 (.bin 0 .add (t 61) (i 1)),mV 61 82]
def r_143_15 : SS := [mV 83 0,mV 84 2,mV 85 3,o 86 (.call f_167 [(t 83), (t 84), (t 85)] true)]
def r_143_16 : SS := [o 87 (.bin 0 .add (t 30) (i 1)),mV 30 87]
def r_143_17 : SS := [o 88 (.bin 0 .add (t 11) (i 1)),mV 11 88]
def s_143 : SF := ⟨1, 89, [],
  (qS (gR r_143_0) (.block 0 (.loop (qS (gR r_143_1) (qS (.cond (t 12) .skip (.exit 0)) (qS (.block 1 (qS (gR r_143_2) (qS (qS (.draw r_143_3 [0, 1, 3, 7, 0, 31, 63, 0, 128, 384, 896, 2047] []) (.cond (t 25) (.exit 1) .skip)) (qS (gR r_143_4) (.block 2 (.loop (qS (gR r_143_5) (qS (.cond (t 31) .skip (.exit 2)) (qS (.block 3 (qS (gR r_143_6) (qS (.draw r_143_7 [0, 1, 3, 7, 15, 0, 32, 96, 224, 0, 992, 2016, 0, 8160, 16352, 32767, 65535] []) (qS (qS (gR r_143_8) (.cond (t 50) (.exit 3) .skip)) (qS (qS (gR r_143_9) (.cond (t 52) (qS (gR r_143_10) (.block 4 (.loop (qS (gR r_143_11) (qS (.cond (t 62) .skip (.exit 4)) (qS (.block 5 (qS (gR r_143_12) (.draw r_143_13 [0, 1, 3, 7, 0, 31, 63, 0, 0, 256, 768, 1792, 3840, 0, 16128, 32767, 65535] []))) (gR r_143_14))))))) .skip)) (qS (gR r_143_15) (.exit 2))))))) (gR r_143_16)))))))))) (gR r_143_17)))))))⟩

def r_144_0 : SS := [o 4 (.mv (.const (.slice none 0 0)))]
def r_144_1 : SS := [mV 9 0,cK 10 9,fA 11 0 10,lD 12 11,o 13 (.mk T_api_Rat 64 [(.bool false), (.slice none 0 0), (.bool false), (.slice none 0 0)] (t 12) (t 12)),mV 5 13]
def r_144_2 : SS := [mV 14 5,lN 15 14,o 16 (.mv (i 0))]
def r_144_3 : SS := [o 17 (.bin 0 .lss (t 16) (t 15))]
def r_144_4 : SS := [mV 18 16,mV 6 18]
def r_144_5 : SS := [mV 19 5,mV 20 6,o 21 (.call f_90 [(i 0)] true),iA 22 4 19 20,
  ⟨none, none, .store 4 (t 22) (t 21)⟩]
def r_144_6 : SS := [o 23 (.bin 0 .add (t 16) (i 1)),mV 16 23]
def r_144_7 : SS := [mV 24 0,cK 25 24,fA 26 6 25,lD 27 26,lN 28 27,o 29 (.mv (i 0))]
def r_144_8 : SS := [o 30 (.bin 0 .lss (t 29) (t 28))]
def r_144_9 : SS := [mV 31 29,iA 32 1 27 29,lD 33 32,mV 7 31,mV 8 33]
def r_144_10 : SS := [mV 35 8,mV 36 0,cK 37 36,fA 38 0 37,lD 39 38,o 40 (.bin 0 .lss (t 35) (t 39)),mV 34 40]
def r_144_11 : SS := [mV 41 5,mV 42 8,mV 43 5,mV 44 8,iA 45 4 43 44,lA 46 4 45,mV 47 0,mV 48 1,mV 49 7,o 50 (.callv (t 48) [(t 49)] false),o 51 (.call f_169 [(t 47), (t 50)] false),o 52 (.call f_51 [(t 46), (t 51)] true),iA 53 4 41 42,
  ⟨none, none, .store 4 (t 53) (t 52)⟩]
def r_144_12 : SS := [mV 55 8,mV 56 0,cK 57 56,fA 58 0 57,lD 59 58,o 60 (.bin 0 .mul (i 2) (t 59)),o 61 (.bin 0 .lss (t 55) (t 60)),mV 54 61]
def r_144_13 : SS := [mV 62 5,mV 63 8,mV 64 0,cK 65 64,fA 66 0 65,lD 67 66,o 68 (.bin 0 .sub (t 63) (t 67)),mV 69 5,mV 70 8,mV 71 0,cK 72 71,fA 73 0 72,lD 74 73,o 75 (.bin 0 .sub (t 70) (t 74)),iA 76 4 69 75,lA 77 4 76,mV 78 0,mV 79 1,mV 80 7,o 81 (.callv (t 79) [(t 80)] false),o 82 (.call f_169 [(t 78), (t 81)] false),o 83 (.call f_170 [(t 77), (t 82)] false),iA 84 4 62 68,
  ⟨none, none, .store 4 (t 84) (t 83)⟩]
def r_144_14 : SS := [o 85 (.bin 0 .add (t 29) (i 1)),mV 29 85]
def r_144_15 : SS := [mV 86 5,mV 4 86]
def s_144 : SF := ⟨2, 87, [.tmp 4],
  (qS (gR r_144_0) (qS (gR r_144_1) (qS (qS (gR r_144_2) (.block 0 (.loop (qS (gR r_144_3) (qS (.cond (t 17) .skip (.exit 0)) (qS (.block 1 (qS (gR r_144_4) (gR r_144_5))) (gR r_144_6))))))) (qS (qS (gR r_144_7) (.block 2 (.loop (qS (gR r_144_8) (qS (.cond (t 30) .skip (.exit 2)) (qS (.block 3 (qS (gR r_144_9) (.block 4 (qS (gR r_144_10) (.cond (t 34) (.draw r_144_11 [0, 0, 0, 0, 12, 28, 0, 0, 0, 384, 960, 2044, 4095, 8191] []) (qS (gR r_144_12) (.cond (t 54) (.draw r_144_13 [0, 0, 0, 4, 12, 28, 62, 0, 0, 0, 512, 1536, 3584, 7936, 16256, 32640, 0, 0, 0, 393216, 983040, 2097024, 4194303, 8388607] []) .skip))))))) (gR r_144_14))))))) (qS (gR r_144_15) .ret)))))⟩

def r_145_0 : SS := [o 3 (.alloc T_api_Int [(.bool false), (.slice none 0 0)])]
def r_145_1 : SS := [lD 4 1,cK 5 4,fA 6 3 5,lD 7 6,mV 8 0,iA 9 1 7 8,lD 10 9,lD 11 1,cK 12 11,fA 13 2 12,lD 14 13,iA 15 2 10 14,lA 16 2 15,
  ⟨none, none, .store 2 (t 3) (t 16)⟩]
def s_145 : SF := ⟨2, 17, [.cell 3 true 2],
  (qS (gR r_145_0) (qS (.draw r_145_1 [0, 1, 3, 7, 0, 31, 63, 0, 128, 384, 896, 2047, 4095, 8191] []) .ret))⟩

def r_146_0 : SS := [o 2 (.box T_simplex_tableau_api_Int_simplex_all (t 0)),o 3 (.box T_int (t 1)),o 4 (.mv (.const (.slice none 0 0)))]
def r_146_1 : SS := [lD 6 2,o 7 (.mkfn (.func f_171) [] [(t 2), (t 3)]),o 8 (.call f_144 [(t 6), (t 7)] true),mV 5 8]
def r_146_2 : SS := [lD 10 3,lD 11 2,cK 12 11,fA 13 0 12,lD 14 13,o 15 (.bin 0 .lss (t 10) (t 14)),mV 9 15]
def r_146_3 : SS := [mV 16 5,lD 17 3,mV 18 5,lD 19 3,iA 20 4 18 19,lA 21 4 20,o 22 (.call f_90 [(i 1)] false),o 23 (.call f_51 [(t 21), (t 22)] false),iA 24 4 16 17,
  ⟨none, none, .store 4 (t 24) (t 23)⟩]
def r_146_4 : SS := [lD 26 3,lD 27 2,cK 28 27,fA 29 0 28,lD 30 29,o 31 (.bin 0 .mul (i 2) (t 30)),o 32 (.bin 0 .lss (t 26) (t 31)),mV 25 32]
def r_146_5 : SS := [mV 33 5,lD 34 3,lD 35 2,cK 36 35,fA 37 0 36,lD 38 37,o 39 (.bin 0 .sub (t 34) (t 38)),mV 40 5,lD 41 3,lD 42 2,cK 43 42,fA 44 0 43,lD 45 44,o 46 (.bin 0 .sub (t 41) (t 45)),iA 47 4 40 46,lA 48 4 47,o 49 (.call f_90 [(i 1)] false),o 50 (.call f_170 [(t 48), (t 49)] false),iA 51 4 33 39,
  ⟨none, none, .store 4 (t 51) (t 50)⟩]
def r_146_6 : SS := [mV 52 5,mV 4 52]
def s_146 : SF := ⟨2, 53, [.tmp 4],
  (qS (gR r_146_0) (qS (gR r_146_1) (qS (.block 0 (qS (.draw r_146_2 [0, 0, 2, 6, 14, 31, 63] []) (.cond (t 9) (.draw r_146_3 [0, 0, 0, 0, 12, 28, 0, 124, 255, 511] []) (qS (.draw r_146_4 [0, 0, 2, 6, 14, 30, 63, 127] []) (.cond (t 25) (.draw r_146_5 [0, 0, 0, 4, 12, 28, 62, 0, 0, 0, 512, 1536, 3584, 7936, 16256, 32640, 0, 130944, 262143, 524287] []) .skip))))) (qS (gR r_146_6) .ret))))⟩

def r_147_0 : SS := [o 2 (.box T_api_Int (t 0)),o 3 (.box T_api_Int (t 1)),o 4 (.alloc T_api_Int [(.bool false), (.slice none 0 0)]),o 5 (.alloc T_api_Int [(.bool false), (.slice none 0 0)]),o 6 (.mv (i 0))]
def r_147_1 : SS := [lA 9 2 2,o 10 (.call f_105 [(t 9)] true),
  ⟨none, none, .store 2 (t 2) (t 10)⟩]
def r_147_2 : SS := [lA 11 2 3,o 12 (.call f_105 [(t 11)] true),
  ⟨none, none, .store 2 (t 3) (t 12)⟩]
def r_147_3 : SS := [fA 13 1 3,lD 14 13,lN 15 14,o 16 (.bin 0 .eql (t 15) (i 0))]
def r_147_4 : SS := [o 17 (.build [(.bool false), (.slice none 0 0)] []),o 18 (.build [(.bool false), (.slice none 0 0)] []),
  ⟨none, none, .store 2 (t 4) (t 17)⟩,
  ⟨none, none, .store 2 (t 5) (t 18)⟩,o 6 (.mv (i 1))]
def r_147_5 : SS := [fA 20 1 2,lD 21 20,fA 22 1 3,lD 23 22,o 24 (.call f_156 [(t 21), (t 23)] true),mV 19 24,o 25 (.ext (t 19) 0),o 26 (.ext (t 19) 1),mV 7 25,mV 8 26]
def r_147_6 : SS := [fA 27 0 2,lD 28 27,fA 29 0 3,lD 30 29,o 31 (.bin 1 .neq (t 28) (t 30)),mV 32 7,o 33 (.call f_76 [(t 31), (t 32)] false),fA 34 0 2,lD 35 34,mV 36 8,o 37 (.call f_76 [(t 35), (t 36)] true),
  ⟨none, none, .store 2 (t 4) (t 33)⟩,
  ⟨none, none, .store 2 (t 5) (t 37)⟩,o 6 (.mv (i 0))]
def s_147 : SF := ⟨2, 38, [.cell 4 true 2, .cell 5 true 2, .tmp 6],
  (qS (gR r_147_0) (qS (gR r_147_1) (qS (gR r_147_2) (qS (qS (gR r_147_3) (.cond (t 16) (qS (gR r_147_4) .ret) .skip)) (qS (gR r_147_5) (qS (.draw r_147_6 [0, 1, 0, 4, 15, 0, 63, 0, 128, 0, 1023, 2047, 4095, 8191] []) .ret))))))⟩

def r_148_0 : SS := [o 4 (.mv (.const (.slice none 0 0)))]
def r_148_1 : SS := [o 5 (.mv (.const (.slice none 0 0)))]
def r_148_2 : SS := [o 6 (.mv (.const (.int .u64 0)))]
def r_148_3 : SS := [o 7 (.mv (i 0))]
def r_148_4 : SS := [mV 9 7,mV 10 0,lN 11 10,o 12 (.bin 0 .lss (t 9) (t 11)),mV 13 12,og 14 13 false (.mv (t 7)),og 15 13 false (.mv (t 1)),og 16 13 false (.len (t 15)),og 17 13 false (.bin 0 .lss (t 14) (t 16)),o 18 (.pick (t 13) (.const (.bool true)) (t 17)),mV 19 18,og 20 19 false (.mv (t 6)),og 21 19 false (.bin 0 .gtr (t 20) (.const (.int .u64 0))),o 22 (.pick (t 19) (.const (.bool true)) (t 21))]
def r_148_5 : SS := [mV 25 6,mV 8 25]
def r_148_6 : SS := [mV 26 7,mV 27 0,lN 28 27,o 29 (.bin 0 .lss (t 26) (t 28))]
def r_148_7 : SS := [mV 30 8,mV 31 0,mV 32 7,iA 33 1 31 32,lD 34 33,o 35 (.conv .u64 (t 34)),o 36 (.bin 0 .add (t 30) (t 35)),mV 8 36]
def r_148_8 : SS := [mV 37 7,mV 38 1,lN 39 38,o 40 (.bin 0 .lss (t 37) (t 39))]
def r_148_9 : SS := [mV 41 8,mV 42 1,mV 43 7,iA 44 1 42 43,lD 45 44,o 46 (.conv .u64 (t 45)),o 47 (.bin 0 .add (t 41) (t 46)),mV 8 47]
def r_148_10 : SS := [mV 48 5,mV 49 8,o 50 (.conv .u32 (t 49)),o 51 (.lit T_uint32 [(.int .u32 0)] 1 [(0, 1, (t 50))]),o 52 (.app T_uint32 1 4 (t 48) (t 51)),mV 5 52]
def r_148_11 : SS := [mV 53 8,o 54 (.bin 0 .shr (t 53) (.const (.int .u64 32))),mV 6 54]
def r_148_12 : SS := [mV 23 7,o 24 (.bin 0 .add (t 23) (i 1)),mV 7 24]
def r_148_13 : SS := [mV 55 5,o 56 (.call f_107 [(t 55)] true),mV 4 56]
def s_148 : SF := ⟨2, 57, [.tmp 4],
  (qS (gR r_148_0) (qS (gR r_148_1) (qS (gR r_148_2) (qS (qS (gR r_148_3) (.block 0 (.loop (qS (qS (gR r_148_4) (.cond (t 22) .skip (.exit 0))) (qS (.block 1 (qS (gR r_148_5) (qS (qS (gR r_148_6) (.cond (t 29) (gR r_148_7) .skip)) (qS (qS (gR r_148_8) (.cond (t 40) (gR r_148_9) .skip)) (qS (gR r_148_10) (gR r_148_11)))))) (gR r_148_12)))))) (qS (gR r_148_13) .ret)))))⟩

def r_149_0 : SS := [o 4 (.mv (i 0))]
def r_149_1 : SS := [mV 6 0,lN 7 6,mV 8 1,lN 9 8,o 10 (.bin 0 .neq (t 7) (t 9))]
def r_149_2 : SS := [mV 11 0,lN 12 11,mV 13 1,lN 14 13,o 15 (.bin 0 .lss (t 12) (t 14))]
def r_149_3 : SS := [o 4 (.mv (.const (.int .i64 (-1))))]
def r_149_4 : SS := [o 4 (.mv (i 1))]
def r_149_5 : SS := [mV 16 0,lN 17 16,o 18 (.bin 0 .sub (t 17) (i 1)),mV 5 18]
def r_149_6 : SS := [mV 19 5,o 20 (.bin 0 .geq (t 19) (i 0))]
def r_149_7 : SS := [mV 23 0,mV 24 5,iA 25 1 23 24,lD 26 25,mV 27 1,mV 28 5,iA 29 1 27 28,lD 30 29,o 31 (.bin 0 .lss (t 26) (t 30))]
def r_149_8 : SS := [o 4 (.mv (.const (.int .i64 (-1))))]
def r_149_9 : SS := [mV 32 0,mV 33 5,iA 34 1 32 33,lD 35 34,mV 36 1,mV 37 5,iA 38 1 36 37,lD 39 38,o 40 (.bin 0 .gtr (t 35) (t 39))]
def r_149_10 : SS := [o 4 (.mv (i 1))]
def r_149_11 : SS := [mV 21 5,o 22 (.bin 0 .sub (t 21) (i 1)),mV 5 22]
def r_149_12 : SS := [o 4 (.mv (i 0))]
def s_149 : SF := ⟨2, 41, [.tmp 4],
  (qS (gR r_149_0) (qS (qS (gR r_149_1) (.cond (t 10) (qS (qS (gR r_149_2) (.cond (t 15) (qS (gR r_149_3) .ret) .skip)) (qS (gR r_149_4) .ret)) .skip)) (qS (qS (gR r_149_5) (.block 0 (.loop (qS (qS (gR r_149_6) (.cond (t 20) .skip (.exit 0))) (qS (.block 1 (qS (qS (.draw r_149_7 [0, 0, 3, 7, 0, 0, 48, 112, 255] []) (.cond (t 31) (qS (gR r_149_8) .ret) .skip)) (qS (.draw r_149_9 [0, 0, 3, 7, 0, 0, 48, 112, 255] []) (.cond (t 40) (qS (gR r_149_10) .ret) .skip)))) (gR r_149_11)))))) (qS (gR r_149_12) .ret))))⟩

def r_150_0 : SS := [o 4 (.mv (.const (.slice none 0 0)))]
def r_150_1 : SS := [o 9 (.lit T_uint32 [(.int .u32 0)] 0 []),mV 10 0,o 11 (.app T_uint32 1 4 (t 9) (t 10)),mV 5 11]
def r_150_2 : SS := [o 6 (.mv (.const (.int .u64 0)))]
def r_150_3 : SS := [o 7 (.mv (i 0))]
def r_150_4 : SS := [mV 12 7,mV 13 5,lN 14 13,o 15 (.bin 0 .lss (t 12) (t 14))]
def r_150_5 : SS := [mV 18 6,mV 8 18]
def r_150_6 : SS := [mV 19 7,mV 20 1,lN 21 20,o 22 (.bin 0 .lss (t 19) (t 21))]
def r_150_7 : SS := [mV 23 8,mV 24 1,mV 25 7,iA 26 1 24 25,lD 27 26,o 28 (.conv .u64 (t 27)),o 29 (.bin 0 .add (t 23) (t 28)),mV 8 29]
def r_150_8 : SS := [mV 30 5,mV 31 7,iA 32 1 30 31,lD 33 32,o 34 (.conv .u64 (t 33)),mV 35 8,o 36 (.bin 0 .geq (t 34) (t 35))]
def r_150_9 : SS := [mV 37 5,mV 38 7,mV 39 5,mV 40 7,iA 41 1 39 40,lD 42 41,o 43 (.conv .u64 (t 42)),mV 44 8,o 45 (.bin 0 .sub (t 43) (t 44)),o 46 (.conv .u32 (t 45)),iA 47 1 37 38,
  ⟨none, none, .store 1 (t 47) (t 46)⟩]
def r_150_10 : SS := [o 6 (.mv (.const (.int .u64 0)))]
def r_150_11 : SS := [mV 48 5,mV 49 7,mV 50 5,mV 51 7,iA 52 1 50 51,lD 53 52,o 54 (.conv .u64 (t 53)),o 55 (.bin 0 .add (t 54) (.const (.int .u64 4294967296))),mV 56 8,o 57 (.bin 0 .sub (t 55) (t 56)),o 58 (.conv .u32 (t 57)),iA 59 1 48 49,
  ⟨none, none, .store 1 (t 59) (t 58)⟩]
def r_150_12 : SS := [o 6 (.mv (.const (.int .u64 1)))]
def r_150_13 : SS := [mV 16 7,o 17 (.bin 0 .add (t 16) (i 1)),mV 7 17]
def r_150_14 : SS := [mV 60 5,o 61 (.call f_107 [(t 60)] true),mV 4 61]
def s_150 : SF := ⟨2, 62, [.tmp 4],
  (qS (gR r_150_0) (qS (gR r_150_1) (qS (gR r_150_2) (qS (qS (gR r_150_3) (.block 0 (.loop (qS (qS (gR r_150_4) (.cond (t 15) .skip (.exit 0))) (qS (.block 1 (qS (gR r_150_5) (qS (qS (gR r_150_6) (.cond (t 22) (gR r_150_7) .skip)) (qS (gR r_150_8) (.cond (t 36) (qS (gR r_150_9) (gR r_150_10)) (qS (gR r_150_11) (gR r_150_12))))))) (gR r_150_13)))))) (qS (gR r_150_14) .ret)))))⟩

def r_151_0 : SS := [o 1 (.box T_api_Int (t 0)),o 2 (.alloc T_api_Int [(.bool false), (.slice none 0 0)])]
def r_151_1 : SS := [lA 3 2 1,o 4 (.call f_120 [(t 3)] false),o 5 (.un .not (t 4)),lA 6 2 1,o 7 (.call f_119 [(t 6)] true),o 8 (.call f_121 [(t 5), (t 7)] true),
  ⟨none, none, .store 2 (t 2) (t 8)⟩]
def s_151 : SF := ⟨1, 9, [.cell 2 true 2],
  (qS (gR r_151_0) (qS (.draw r_151_1 [0, 1, 3, 0, 11, 31, 63] []) .ret))⟩

def r_152_0 : SS := [o 2 (.box T_api_Int (t 0)),o 3 (.box T_api_Int (t 1)),o 4 (.alloc T_api_Int [(.bool false), (.slice none 0 0)]),o 5 (.alloc T_api_Int [(.bool false), (.slice none 0 0)]),o 6 (.mv (i 0))]
def r_152_1 : SS := [lA 13 2 2,o 14 (.call f_119 [(t 13)] false),lA 15 2 3,o 16 (.call f_119 [(t 15)] true),mV 7 14,mV 8 16]
def r_152_2 : SS := [mV 18 8,lN 19 18,o 20 (.bin 0 .eql (t 19) (i 0)),mV 17 20]
def r_152_3 : SS := [o 21 (.build [(.bool false), (.slice none 0 0)] []),o 22 (.build [(.bool false), (.slice none 0 0)] []),
  ⟨none, none, .store 2 (t 4) (t 21)⟩,
  ⟨none, none, .store 2 (t 5) (t 22)⟩,o 6 (.mv (i 1))]
def r_152_4 : SS := [mV 24 7,mV 25 8,o 26 (.call f_123 [(t 24), (t 25)] true),o 27 (.bin 0 .lss (t 26) (i 0)),mV 23 27]
def r_152_5 : SS := [o 28 (.build [(.bool false), (.slice none 0 0)] []),lA 29 2 2,o 30 (.call f_120 [(t 29)] true),mV 31 7,o 32 (.call f_121 [(t 30), (t 31)] true),
  ⟨none, none, .store 2 (t 4) (t 28)⟩,
  ⟨none, none, .store 2 (t 5) (t 32)⟩,o 6 (.mv (i 0))]
def r_152_6 : SS := [mV 34 8,lN 35 34,o 36 (.bin 0 .eql (t 35) (i 1)),mV 33 36]
def r_152_7 : SS := [mV 38 7,mV 39 8,o 40 (.ia 1 (t 39) (i 0)),lD 41 40,o 42 (.call f_172 [(t 38), (t 41)] true),mV 37 42,o 43 (.ext (t 37) 0),o 44 (.ext (t 37) 1),mV 9 43,mV 10 44]
def r_152_8 : SS := [lA 45 2 2,o 46 (.call f_120 [(t 45)] false),lA 47 2 3,o 48 (.call f_120 [(t 47)] false),o 49 (.bin 1 .neq (t 46) (t 48)),mV 50 9,o 51 (.call f_121 [(t 49), (t 50)] false),lA 52 2 2,o 53 (.call f_120 [(t 52)] false),mV 54 10,o 55 (.lit T_uint32 [(.int .u32 0)] 1 [(0, 1, (t 54))]),o 56 (.call f_121 [(t 53), (t 55)] true),
  ⟨none, none, .store 2 (t 4) (t 51)⟩,
  ⟨none, none, .store 2 (t 5) (t 56)⟩,o 6 (.mv (i 0))]
def r_152_9 : SS := [mV 58 7,mV 59 8,o 60 (.call f_173 [(t 58), (t 59)] true),mV 57 60,o 61 (.ext (t 57) 0),o 62 (.ext (t 57) 1),mV 11 61,mV 12 62]
def r_152_10 : SS := [lA 63 2 2,o 64 (.call f_120 [(t 63)] false),lA 65 2 3,o 66 (.call f_120 [(t 65)] false),o 67 (.bin 1 .neq (t 64) (t 66)),mV 68 11,o 69 (.call f_121 [(t 67), (t 68)] false),lA 70 2 2,o 71 (.call f_120 [(t 70)] true),mV 72 12,o 73 (.call f_121 [(t 71), (t 72)] true),
  ⟨none, none, .store 2 (t 4) (t 69)⟩,
  ⟨none, none, .store 2 (t 5) (t 73)⟩,o 6 (.mv (i 0))]
def s_152 : SF := ⟨2, 74, [.cell 4 true 2, .cell 5 true 2, .tmp 6],
  (qS (gR r_152_0) (qS (.draw r_152_1 [0, 1, 0, 7, 15, 31] []) (qS (.block 0 (qS (gR r_152_2) (.cond (t 17) (qS (gR r_152_3) .ret) (qS (gR r_152_4) (.cond (t 23) (qS (gR r_152_5) .ret) (qS (gR r_152_6) (.cond (t 33) (qS (gR r_152_7) (qS (.draw r_152_8 [0, 1, 0, 7, 15, 0, 63, 0, 255, 0, 512, 2047, 4095, 8191, 16383] []) .ret)) .skip))))))) (qS (gR r_152_9) (qS (.draw r_152_10 [0, 1, 0, 7, 15, 0, 63, 0, 255, 0, 1023, 2047, 4095, 8191] []) .ret)))))⟩

def r_153_0 : SS := [o 2 (.mv (.const (.slice none 0 0)))]
def r_153_1 : SS := [mV 3 0,o 4 (.bin 2 .eql (t 3) (.const (.slice none 0 0)))]
def r_153_2 : SS := [o 2 (.mv (.const (.slice none 0 0)))]
def r_153_3 : SS := [o 5 (.lit T_uint32 [(.int .u32 0)] 0 []),mV 6 0,o 7 (.app T_uint32 1 4 (t 5) (t 6)),mV 2 7]
def s_153 : SF := ⟨1, 8, [.tmp 2],
  (qS (gR r_153_0) (qS (qS (gR r_153_1) (.cond (t 4) (qS (gR r_153_2) .ret) .skip)) (qS (gR r_153_3) .ret)))⟩

def r_154_0 : SS := [o 4 (.mv (i 0))]
def r_154_1 : SS := [mV 6 0,mV 7 1,o 8 (.bin 0 .lss (t 6) (t 7)),mV 5 8]
def r_154_2 : SS := [o 4 (.mv (.const (.int .i64 (-1))))]
def r_154_3 : SS := [mV 10 0,mV 11 1,o 12 (.bin 0 .gtr (t 10) (t 11)),mV 9 12]
def r_154_4 : SS := [o 4 (.mv (i 1))]
def r_154_5 : SS := [o 4 (.mv (i 0))]
def s_154 : SF := ⟨2, 13, [.tmp 4],
  (qS (gR r_154_0) (qS (.block 0 (qS (gR r_154_1) (.cond (t 5) (qS (gR r_154_2) .ret) (qS (gR r_154_3) (.cond (t 9) (qS (gR r_154_4) .ret) .skip))))) (qS (gR r_154_5) .ret)))⟩

def r_155_0 : SS := [o 4 (.mv (i 0))]
def r_155_1 : SS := [mV 6 0,mV 7 1,o 8 (.bin 0 .lss (t 6) (t 7)),mV 5 8]
def r_155_2 : SS := [o 4 (.mv (.const (.int .i64 (-1))))]
def r_155_3 : SS := [mV 10 0,mV 11 1,o 12 (.bin 0 .gtr (t 10) (t 11)),mV 9 12]
def r_155_4 : SS := [o 4 (.mv (i 1))]
def r_155_5 : SS := [o 4 (.mv (i 0))]
def s_155 : SF := ⟨2, 13, [.tmp 4],
  (qS (gR r_155_0) (qS (.block 0 (qS (gR r_155_1) (.cond (t 5) (qS (gR r_155_2) .ret) (qS (gR r_155_3) (.cond (t 9) (qS (gR r_155_4) .ret) .skip))))) (qS (gR r_155_5) .ret)))⟩

def r_156_0 : SS := [o 4 (.mv (.const (.slice none 0 0))),o 5 (.mv (.const (.slice none 0 0)))]
def r_156_1 : SS := [mV 10 0,mV 11 1,o 12 (.call f_149 [(t 10), (t 11)] true),o 13 (.bin 0 .lss (t 12) (i 0))]
def r_156_2 : SS := [mV 14 0,o 4 (.mv (.const (.slice none 0 0))),mV 5 14]
def r_156_3 : SS := [mV 15 0,lN 16 15,o 17 (.mk T_uint32 4 [(.int .u32 0)] (t 16) (t 16)),mV 6 17]
def r_156_4 : SS := [o 7 (.mv (.const (.slice none 0 0)))]
def r_156_5 : SS := [mV 18 0,lN 19 18,o 20 (.bin 0 .sub (t 19) (i 1)),mV 8 20]
def r_156_6 : SS := [mV 21 8,o 22 (.bin 0 .geq (t 21) (i 0))]
def r_156_7 : SS := [o 9 (.mv (i 31))]
def r_156_8 : SS := [mV 25 9,o 26 (.bin 0 .geq (t 25) (i 0))]
def r_156_9 : SS := [mV 29 7,mV 30 0,mV 31 8,iA 32 1 30 31,lD 33 32,mV 34 9,o 35 (.conv .u64 (t 34)),o 36 (.bin 0 .shr (t 33) (t 35)),o 37 (.bin 0 .and (t 36) (.const (.int .u32 1))),o 38 (.bin 0 .eql (t 37) (.const (.int .u32 1))),o 39 (.call f_174 [(t 29), (t 38)] true),mV 7 39]
def r_156_10 : SS := [mV 40 7,mV 41 1,o 42 (.call f_149 [(t 40), (t 41)] true),o 43 (.bin 0 .geq (t 42) (i 0))]
def r_156_11 : SS := [mV 44 7,mV 45 1,o 46 (.call f_150 [(t 44), (t 45)] true),mV 7 46]
def r_156_12 : SS := [mV 47 6,mV 48 8,mV 49 6,mV 50 8,iA 51 1 49 50,lD 52 51,mV 53 9,o 54 (.conv .u64 (t 53)),o 55 (.bin 0 .shl (.const (.int .u32 1)) (t 54)),o 56 (.bin 0 .or (t 52) (t 55)),iA 57 1 47 48,
  ⟨none, none, .store 1 (t 57) (t 56)⟩]
def r_156_13 : SS := [mV 27 9,o 28 (.bin 0 .sub (t 27) (i 1)),mV 9 28]
def r_156_14 : SS := [mV 23 8,o 24 (.bin 0 .sub (t 23) (i 1)),mV 8 24]
def r_156_15 : SS := [mV 58 6,o 59 (.call f_107 [(t 58)] true),mV 60 7,mV 4 59,mV 5 60]
def s_156 : SF := ⟨2, 61, [.tmp 4, .tmp 5],
  (qS (gR r_156_0) (qS (qS (gR r_156_1) (.cond (t 13) (qS (gR r_156_2) .ret) .skip)) (qS (gR r_156_3) (qS (gR r_156_4) (qS (qS (gR r_156_5) (.block 0 (.loop (qS (qS (gR r_156_6) (.cond (t 22) .skip (.exit 0))) (qS (.block 1 (qS (gR r_156_7) (.block 2 (.loop (qS (qS (gR r_156_8) (.cond (t 26) .skip (.exit 2))) (qS (.block 3 (qS (gR r_156_9) (qS (gR r_156_10) (.cond (t 43) (qS (gR r_156_11) (gR r_156_12)) .skip)))) (gR r_156_13))))))) (gR r_156_14)))))) (qS (gR r_156_15) .ret))))))⟩

def r_157_0 : SS := [o 2 (.box T_simplex_few (t 0)),o 3 (.box T_simplex_scaled (t 1)),o 4 (.mv (.const (.pointer none)))]
def r_157_1 : SS := [fA 22 1 3,lD 23 22,lN 24 23,mV 5 24]
def r_157_2 : SS := [lA 25 0 2,fA 26 0 3,lD 27 26,mV 28 5,fA 29 0 3,lD 30 29,o 31 (.bin 0 .mul (i 2) (t 30)),mV 32 5,o 33 (.bin 0 .add (t 31) (t 32)),lA 34 0 2,o 35 (.iface T_simplex_few (t 34)),o 36 (.call f_126 [(i 1)] false),o 37 (.inv (t 35) [(T_simplex_all, f_204), (T_simplex_few, f_211)] [(t 36)] false),o 38 (.build [(.int .i64 0), (.int .i64 0), (.int .i64 0), (.slice none 0 0), (.int .i64 0), (.slice none 0 0), (.int .i64 0)] [(0, 0, (t 25)), (0, 1, (t 27)), (1, 1, (t 28)), (2, 1, (t 33)), (4, 1, (t 37))]),o 39 (.box T_simplex_tableau_int64_simplex_few_167 (t 38)),o 6 (.alloc T_simplex_tableau_int64_simplex_few [(.pointer none)]),
  ⟨none, none, .store 1 (t 6) (t 39)⟩]
def r_157_3 : SS := [lA 40 0 2,o 41 (.iface T_simplex_few (t 40)),o 42 (.build [(.bool false), (.slice none 0 0)] []),o 43 (.inv (t 41) [(T_simplex_all, f_204), (T_simplex_few, f_211)] [(t 42)] true),o 7 (.alloc T_int64 [(.int .i64 0)]),
  ⟨none, none, .store 1 (t 7) (t 43)⟩]
def r_157_4 : SS := [o 44 (.mkfn (.func f_175) [] [(t 6), (t 7)]),mV 8 44]
def r_157_5 : SS := [mV 45 8,o 46 (.callv (t 45) [] true),mV 47 8,o 48 (.callv (t 47) [] true),mV 9 46,mV 10 48]
def r_157_6 : SS := [fA 49 3 3,lD 50 49,lN 51 50,o 52 (.mv (i 0))]
def r_157_7 : SS := [o 53 (.bin 0 .lss (t 52) (t 51))]
def r_157_8 : SS := [mV 54 52,iA 55 2 50 52,lA 56 2 55,o 12 (.alloc T_api_Int [(.bool false), (.slice none 0 0)]),mV 11 54,
  ⟨none, none, .store 2 (t 12) (t 56)⟩]
def r_157_9 : SS := [lA 57 0 2,o 58 (.iface T_simplex_few (t 57)),lA 59 2 12,o 60 (.inv (t 58) [(T_simplex_all, f_204), (T_simplex_few, f_211)] [(t 59)] true),mV 13 60]
def r_157_10 : SS := [mV 61 10,mV 62 11,mV 63 10,fA 64 0 3,lD 65 64,mV 66 11,o 67 (.bin 0 .add (t 65) (t 66)),lA 68 0 2,o 69 (.iface T_simplex_few (t 68)),mV 70 13,o 71 (.inv (t 69) [(T_simplex_all, f_202), (T_simplex_few, f_209)] [(t 70)] false),mV 72 13,iA 73 1 61 62,
  ⟨none, none, .store 1 (t 73) (t 71)⟩,iA 74 1 63 67,
  ⟨none, none, .store 1 (t 74) (t 72)⟩]
def r_157_11 : SS := [o 75 (.bin 0 .add (t 52) (i 1)),mV 52 75]
def r_157_12 : SS := [fA 76 1 3,lD 77 76,lN 78 77,o 79 (.mv (i 0))]
def r_157_13 : SS := [o 80 (.bin 0 .lss (t 79) (t 78))]
def r_157_14 : SS := [mV 81 79,iA 82 1 77 79,lD 83 82,mV 14 81,mV 15 83]
def r_157_15 : SS := [mV 84 8,o 85 (.callv (t 84) [] true),mV 16 85]
def r_157_16 : SS := [mV 86 15,fA 87 0 3,lD 88 87,o 89 (.sl T_api_Int 2 (t 86) none (some (t 88)) none),lN 90 89,o 91 (.mv (i 0))]
def r_157_17 : SS := [o 92 (.bin 0 .lss (t 91) (t 90))]
def r_157_18 : SS := [mV 93 91,iA 94 2 89 91,lA 95 2 94,o 18 (.alloc T_api_Int [(.bool false), (.slice none 0 0)]),mV 17 93,
  ⟨none, none, .store 2 (t 18) (t 95)⟩]
def r_157_19 : SS := [lA 96 0 2,o 97 (.iface T_simplex_few (t 96)),lA 98 2 18,o 99 (.inv (t 97) [(T_simplex_all, f_204), (T_simplex_few, f_211)] [(t 98)] true),mV 19 99]
def r_157_20 : SS := [mV 100 16,mV 101 17,mV 102 16,fA 103 0 3,lD 104 103,mV 105 17,o 106 (.bin 0 .add (t 104) (t 105)),mV 107 19,lA 108 0 2,o 109 (.iface T_simplex_few (t 108)),mV 110 19,o 111 (.inv (t 109) [(T_simplex_all, f_202), (T_simplex_few, f_209)] [(t 110)] false),iA 112 1 100 101,
  ⟨none, none, .store 1 (t 112) (t 107)⟩,iA 113 1 102 106,
  ⟨none, none, .store 1 (t 113) (t 111)⟩]
def r_157_21 : SS := [o 114 (.bin 0 .add (t 91) (i 1)),mV 91 114]
def r_157_22 : SS := [mV 115 16,fA 116 0 3,lD 117 116,o 118 (.bin 0 .mul (i 2) (t 117)),mV 119 14,o 120 (.bin 0 .add (t 118) (t 119)),lD 121 6,cK 122 121,fA 123 4 122,lD 124 123,iA 125 1 115 120,
  ⟨none, none, .store 1 (t 125) (t 124)⟩]
def r_157_23 : SS := [mV 126 16,lD 127 6,cK 128 127,fA 129 2 128,lD 130 129,lA 131 0 2,o 132 (.iface T_simplex_few (t 131)),mV 133 15,fA 134 0 3,lD 135 134,iA 136 2 133 135,lA 137 2 136,o 138 (.inv (t 132) [(T_simplex_all, f_204), (T_simplex_few, f_211)] [(t 137)] false),iA 139 1 126 130,
  ⟨none, none, .store 1 (t 139) (t 138)⟩]
def r_157_24 : SS := [fA 140 0 3,lD 141 140,o 142 (.bin 0 .mul (i 2) (t 141)),mV 143 14,o 144 (.bin 0 .add (t 142) (t 143)),mV 20 144]
def r_157_25 : SS := [lA 145 0 2,o 146 (.iface T_simplex_few (t 145)),mV 147 16,lD 148 6,cK 149 148,fA 150 2 149,lD 151 150,iA 152 1 147 151,lD 153 152,o 154 (.inv (t 146) [(T_simplex_all, f_205), (T_simplex_few, f_212)] [(t 153)] true),o 155 (.bin 0 .lss (t 154) (i 0))]
def r_157_26 : SS := [lD 156 6,cK 157 156,fA 158 2 157,lD 159 158,mV 160 14,o 161 (.bin 0 .add (t 159) (t 160)),mV 20 161]
def r_157_27 : SS := [mV 162 16,lN 163 162,o 164 (.mv (i 0))]
def r_157_28 : SS := [o 165 (.bin 0 .lss (t 164) (t 163))]
def r_157_29 : SS := [mV 166 164,mV 21 166]
def r_157_30 : SS := [mV 167 16,mV 168 21,lA 169 0 2,o 170 (.iface T_simplex_few (t 169)),mV 171 16,mV 172 21,iA 173 1 171 172,lD 174 173,o 175 (.inv (t 170) [(T_simplex_all, f_202), (T_simplex_few, f_209)] [(t 174)] true),iA 176 1 167 168,
  ⟨none, none, .store 1 (t 176) (t 175)⟩]
def r_157_31 : SS := [mV 177 9,mV 178 21,lD 179 6,mV 180 9,mV 181 21,iA 182 1 180 181,lD 183 182,mV 184 16,mV 185 21,iA 186 1 184 185,lD 187 186,o 188 (.call f_176 [(t 179), (t 183), (t 187)] true),iA 189 1 177 178,
  ⟨none, none, .store 1 (t 189) (t 188)⟩]
def r_157_32 : SS := [o 190 (.bin 0 .add (t 164) (i 1)),mV 164 190]
def r_157_33 : SS := [lD 191 6,lD 192 6,lD 193 6,cK 194 193,fA 195 3 194,lD 196 195,mV 197 16,o 198 (.lit T_sl_int64 [(.slice none 0 0)] 1 [(0, 1, (t 197))]),o 199 (.app T_sl_int64 1 24 (t 196) (t 198)),lD 200 6,cK 201 200,fA 202 5 201,lD 203 202,mV 204 20,o 205 (.lit T_int [(.int .i64 0)] 1 [(0, 1, (t 204))]),o 206 (.app T_int 1 8 (t 203) (t 205)),cK 207 191,fA 208 3 207,
  ⟨none, none, .store 1 (t 208) (t 199)⟩,cK 209 192,fA 210 5 209,
  ⟨none, none, .store 1 (t 210) (t 206)⟩]
def r_157_34 : SS := [o 211 (.bin 0 .add (t 79) (i 1)),mV 79 211]
def r_157_35 : SS := [lD 212 6,lD 213 6,cK 214 213,fA 215 3 214,lD 216 215,mV 217 9,mV 218 10,o 219 (.lit T_sl_int64 [(.slice none 0 0)] 2 [(0, 1, (t 217)), (1, 1, (t 218))]),o 220 (.app T_sl_int64 1 24 (t 216) (t 219)),cK 221 212,fA 222 3 221,
  ⟨none, none, .store 1 (t 222) (t 220)⟩]
def r_157_36 : SS := [lD 223 6,mV 4 223]
def s_157 : SF := ⟨2, 224, [.tmp 4],
  (qS (gR r_157_0) (qS (gR r_157_1) (qS (.draw r_157_2 [0, 0, 2, 0, 0, 16, 48, 0, 240, 0, 512, 0, 3584, 8191, 16383, 0, 65535] []) (qS (gR r_157_3) (qS (gR r_157_4) (qS (gR r_157_5) (qS (qS (gR r_157_6) (.block 0 (.loop (qS (gR r_157_7) (qS (.cond (t 53) .skip (.exit 0)) (qS (.block 1 (qS (gR r_157_8) (qS (gR r_157_9) (.draw r_157_10 [0, 0, 0, 0, 8, 0, 56, 0, 128, 0, 896, 0, 1923, 6019, 16383, 32767] [(4, 13)])))) (gR r_157_11))))))) (qS (qS (gR r_157_12) (.block 2 (.loop (qS (gR r_157_13) (qS (.cond (t 80) .skip (.exit 2)) (qS (.block 3 (qS (gR r_157_14) (qS (gR r_157_15) (qS (qS (gR r_157_16) (.block 4 (.loop (qS (gR r_157_17) (qS (.cond (t 92) .skip (.exit 4)) (qS (.block 5 (qS (gR r_157_18) (qS (gR r_157_19) (.draw r_157_20 [0, 0, 0, 0, 8, 0, 56, 0, 0, 256, 0, 1792, 3971, 8067, 16383, 32767] [(4, 13)])))) (gR r_157_21))))))) (qS (.draw r_157_22 [0, 0, 2, 6, 0, 30, 0, 64, 192, 448, 1023, 2047] []) (qS (.draw r_157_23 [0, 0, 2, 6, 14, 0, 32, 0, 0, 256, 896, 1920, 4064, 8191, 16383] []) (qS (gR r_157_24) (qS (qS (.draw r_157_25 [0, 1, 0, 0, 8, 24, 56, 124, 252, 511, 1023] []) (.cond (t 155) (qS (gR r_157_26) (qS (gR r_157_27) (.block 6 (.loop (qS (gR r_157_28) (qS (.cond (t 165) .skip (.exit 6)) (qS (.block 7 (qS (gR r_157_29) (qS (.draw r_157_30 [0, 0, 0, 4, 0, 0, 48, 112, 252, 511, 1023] []) (.draw r_157_31 [0, 0, 0, 0, 0, 24, 56, 0, 0, 384, 896, 2044, 4095, 8191] [])))) (gR r_157_32)))))))) .skip)) (.draw r_157_33 [0, 0, 0, 4, 12, 28, 0, 64, 252, 0, 512, 1536, 3584, 0, 8192, 32764, 65533, 131069, 262141, 524287, 1048575, 2097151] [(0, 8), (1, 8), (8, 9), (8, 12), (8, 14), (0, 15), (1, 15), (1, 18)]))))))))) (gR r_157_34))))))) (qS (.draw r_157_35 [0, 0, 2, 6, 14, 0, 0, 96, 254, 511, 1023, 2047] [(0, 8)]) (qS (gR r_157_36) .ret))))))))))⟩

def r_158_0 : SS := [o 4 (.mv (i 0))]
def r_158_1 : SS := [o 5 (.mv (i 0))]
def r_158_2 : SS := [mV 7 5,mV 8 0,cK 9 8,fA 10 2 9,lD 11 10,o 12 (.bin 0 .lss (t 7) (t 11)),mV 13 12,og 14 13 true (.mv (t 0)),og 15 13 true (.chk (t 14)),og 16 13 true (.fa0 T_simplex_tableau_int64_simplex_few_167 (t 15)),og 17 13 true (.load true 0 (t 16)),og 18 13 true (.iface T_simplex_few (t 17)),og 19 13 true (.mv (t 0)),og 20 13 true (.chk (t 19)),og 21 13 true (.fa 3 (t 20)),og 22 13 true (.load false 1 (t 21)),og 23 13 true (.mv (t 1)),og 24 13 true (.ia 1 (t 22) (t 23)),og 25 13 true (.load false 1 (t 24)),og 26 13 true (.mv (t 5)),og 27 13 true (.ia 1 (t 25) (t 26)),og 28 13 true (.load false 1 (t 27)),og 29 13 true (.inv (t 18) [(T_simplex_all, f_205), (T_simplex_few, f_212)] [(t 28)] true),og 30 13 true (.bin 0 .geq (t 29) (i 0)),o 31 (.pick (t 13) (t 30) (.const (.bool false)))]
def r_158_3 : SS := [mV 32 5,o 33 (.bin 0 .add (t 32) (i 1)),mV 5 33]
def r_158_4 : SS := [mV 34 5,mV 35 0,cK 36 35,fA 37 2 36,lD 38 37,o 39 (.bin 0 .eql (t 34) (t 38))]
def r_158_5 : SS := [o 4 (.mv (.const (.int .i64 (-1))))]
def r_158_6 : SS := [mV 40 0,mV 41 5,o 42 (.call f_177 [(t 40), (t 41)] true),mV 6 42]
def r_158_7 : SS := [mV 43 6,o 44 (.bin 0 .lss (t 43) (i 0))]
def r_158_8 : SS := [mV 45 5,mV 4 45]
def r_158_9 : SS := [mV 46 0,mV 47 6,mV 48 5,o 49 (.call f_178 [(t 46), (t 47), (t 48)] true)]
def s_158 : SF := ⟨2, 50, [.tmp 4],
  (qS (gR r_158_0) (.block 0 (.loop (.block 1 (qS (gR r_158_1) (qS (.block 2 (.loop (qS (qS (.draw r_158_2 [0, 0, 2, 6, 14, 31, 63, 127, 255, 511, 1023, 2047, 127, 4223, 12415, 28799, 127, 127103, 258175, 127, 1044607, 2093183, 4194303, 8388607, 16777215] []) (.cond (t 31) .skip (.exit 2))) (.block 3 (gR r_158_3))))) (qS (qS (gR r_158_4) (.cond (t 39) (qS (gR r_158_5) .ret) .skip)) (qS (gR r_158_6) (qS (qS (gR r_158_7) (.cond (t 44) (qS (gR r_158_8) .ret) .skip)) (gR r_158_9))))))))))⟩

def r_159_0 : SS := [o 6 (.box T_simplex_scaled (t 2)),o 7 (.box T_api_Rat (t 3)),o 8 (.mv (.const (.slice none 0 0)))]
def r_159_1 : SS := [o 9 (.mv (.const (.slice none 0 0)))]
def r_159_2 : SS := [mV 13 0,cK 14 13,fA 15 1 14,lD 16 15,o 17 (.mv (i 0))]
def r_159_3 : SS := [o 18 (.bin 0 .lss (t 17) (t 16))]
def r_159_4 : SS := [mV 19 17,mV 10 19]
def r_159_5 : SS := [mV 21 0,mV 22 0,cK 23 22,fA 24 3 23,lD 25 24,mV 26 1,iA 27 1 25 26,lD 28 27,mV 29 0,cK 30 29,fA 31 0 30,lD 32 31,o 33 (.bin 0 .mul (i 2) (t 32)),mV 34 10,o 35 (.bin 0 .add (t 33) (t 34)),iA 36 1 28 35,lD 37 36,o 38 (.call f_179 [(t 21), (t 37)] false),fA 39 2 6,lD 40 39,mV 41 10,iA 42 4 40 41,lA 43 4 42,o 44 (.call f_91 [(t 38), (t 43)] false),lA 45 4 7,o 46 (.call f_168 [(t 44), (t 45)] false),mV 20 46,o 47 (.ext (t 20) 0),o 48 (.ext (t 20) 1),o 11 (.alloc T_api_Rat [(.bool false), (.slice none 0 0), (.bool false), (.slice none 0 0)]),
  ⟨none, none, .store 4 (t 11) (t 47)⟩,mV 12 48]
def r_159_6 : SS := [mV 49 9,lA 50 4 11,o 51 (.lit T_api_Rat [(.bool false), (.slice none 0 0), (.bool false), (.slice none 0 0)] 1 [(0, 4, (t 50))]),o 52 (.app T_api_Rat 4 64 (t 49) (t 51)),mV 9 52]
def r_159_7 : SS := [o 53 (.bin 0 .add (t 17) (i 1)),mV 17 53]
def r_159_8 : SS := [mV 54 9,mV 8 54]
def s_159 : SF := ⟨4, 55, [.tmp 8],
  (qS (gR r_159_0) (qS (gR r_159_1) (qS (qS (gR r_159_2) (.block 0 (.loop (qS (gR r_159_3) (qS (.cond (t 18) .skip (.exit 0)) (qS (.block 1 (qS (gR r_159_4) (qS (.draw r_159_5 [0, 0, 2, 6, 14, 0, 62, 126, 0, 256, 768, 1792, 3840, 0, 16128, 32766, 65534, 131071, 0, 262144, 0, 1835008, 3932160, 8388607, 0, 33554431, 67108863, 134217727, 134217727, 0, 805306367, 2147483647] []) (gR r_159_6)))) (gR r_159_7))))))) (qS (gR r_159_8) .ret))))⟩

def r_160_0 : SS := [mV 7 0,cK 8 7,fA 9 1 8,lD 10 9,o 11 (.mv (i 0))]
def r_160_1 : SS := [o 12 (.bin 0 .lss (t 11) (t 10))]
def r_160_2 : SS := [mV 13 11,mV 2 13]
def r_160_3 : SS := [mV 14 0,cK 15 14,fA 16 5 15,lD 17 16,mV 18 2,iA 19 1 17 18,lD 20 19,mV 21 0,cK 22 21,fA 23 2 22,lD 24 23,o 25 (.bin 0 .lss (t 20) (t 24))]
def r_160_4 : SS := [mV 26 0,cK 27 26,fA 28 2 27,lD 29 28,o 30 (.mv (i 0))]
def r_160_5 : SS := [o 31 (.bin 0 .lss (t 30) (t 29))]
def r_160_6 : SS := [mV 32 30,mV 3 32]
def r_160_7 : SS := [mV 33 0,cK 34 33,o 35 (.fa0 T_simplex_tableau_int64_simplex_few_167 (t 34)),lA 36 0 35,o 37 (.iface T_simplex_few (t 36)),mV 38 0,cK 39 38,fA 40 3 39,lD 41 40,mV 42 2,iA 43 1 41 42,lD 44 43,mV 45 3,iA 46 1 44 45,lD 47 46,o 48 (.inv (t 37) [(T_simplex_all, f_205), (T_simplex_few, f_212)] [(t 47)] true),mV 4 48]
def r_160_8 : SS := [mV 49 4,o 50 (.bin 0 .eql (t 49) (i 0))]
def r_160_9 : SS := [mV 51 4,o 52 (.bin 0 .lss (t 51) (i 0))]
def r_160_10 : SS := [mV 53 0,cK 54 53,fA 55 3 54,lD 56 55,mV 57 2,iA 58 1 56 57,lD 59 58,lN 60 59,o 61 (.mv (i 0))]
def r_160_11 : SS := [o 62 (.bin 0 .lss (t 61) (t 60))]
def r_160_12 : SS := [mV 63 61,iA 64 1 59 61,lD 65 64,mV 5 63,mV 6 65]
def r_160_13 : SS := [mV 66 0,cK 67 66,fA 68 3 67,lD 69 68,mV 70 2,iA 71 1 69 70,lD 72 71,mV 73 5,mV 74 0,cK 75 74,o 76 (.fa0 T_simplex_tableau_int64_simplex_few_167 (t 75)),lA 77 0 76,o 78 (.iface T_simplex_few (t 77)),mV 79 6,o 80 (.inv (t 78) [(T_simplex_all, f_202), (T_simplex_few, f_209)] [(t 79)] false),iA 81 1 72 73,
  ⟨none, none, .store 1 (t 81) (t 80)⟩]
def r_160_14 : SS := [o 82 (.bin 0 .add (t 61) (i 1)),mV 61 82]
def r_160_15 : SS := [mV 83 0,mV 84 2,mV 85 3,o 86 (.call f_178 [(t 83), (t 84), (t 85)] true)]
def r_160_16 : SS := [o 87 (.bin 0 .add (t 30) (i 1)),mV 30 87]
def r_160_17 : SS := [o 88 (.bin 0 .add (t 11) (i 1)),mV 11 88]
def s_160 : SF := ⟨1, 89, [],
  (qS (gR r_160_0) (.block 0 (.loop (qS (gR r_160_1) (qS (.cond (t 12) .skip (.exit 0)) (qS (.block 1 (qS (gR r_160_2) (qS (qS (.draw r_160_3 [0, 1, 3, 7, 0, 31, 63, 0, 128, 384, 896, 2047] []) (.cond (t 25) (.exit 1) .skip)) (qS (gR r_160_4) (.block 2 (.loop (qS (gR r_160_5) (qS (.cond (t 31) .skip (.exit 2)) (qS (.block 3 (qS (gR r_160_6) (qS (.draw r_160_7 [0, 1, 3, 7, 15, 0, 32, 96, 224, 0, 992, 2016, 0, 8160, 16352, 32767, 65535] []) (qS (qS (gR r_160_8) (.cond (t 50) (.exit 3) .skip)) (qS (qS (gR r_160_9) (.cond (t 52) (qS (gR r_160_10) (.block 4 (.loop (qS (gR r_160_11) (qS (.cond (t 62) .skip (.exit 4)) (qS (.block 5 (qS (gR r_160_12) (.draw r_160_13 [0, 1, 3, 7, 0, 31, 63, 0, 0, 256, 768, 1792, 3840, 0, 16128, 32767, 65535] []))) (gR r_160_14))))))) .skip)) (qS (gR r_160_15) (.exit 2))))))) (gR r_160_16)))))))))) (gR r_160_17)))))))⟩

def r_161_0 : SS := [o 4 (.mv (.const (.slice none 0 0)))]
def r_161_1 : SS := [mV 9 0,cK 10 9,fA 11 0 10,lD 12 11,o 13 (.mk T_api_Rat 64 [(.bool false), (.slice none 0 0), (.bool false), (.slice none 0 0)] (t 12) (t 12)),mV 5 13]
def r_161_2 : SS := [mV 14 5,lN 15 14,o 16 (.mv (i 0))]
def r_161_3 : SS := [o 17 (.bin 0 .lss (t 16) (t 15))]
def r_161_4 : SS := [mV 18 16,mV 6 18]
def r_161_5 : SS := [mV 19 5,mV 20 6,o 21 (.call f_90 [(i 0)] true),iA 22 4 19 20,
  ⟨none, none, .store 4 (t 22) (t 21)⟩]
def r_161_6 : SS := [o 23 (.bin 0 .add (t 16) (i 1)),mV 16 23]
def r_161_7 : SS := [mV 24 0,cK 25 24,fA 26 5 25,lD 27 26,lN 28 27,o 29 (.mv (i 0))]
def r_161_8 : SS := [o 30 (.bin 0 .lss (t 29) (t 28))]
def r_161_9 : SS := [mV 31 29,iA 32 1 27 29,lD 33 32,mV 7 31,mV 8 33]
def r_161_10 : SS := [mV 35 8,mV 36 0,cK 37 36,fA 38 0 37,lD 39 38,o 40 (.bin 0 .lss (t 35) (t 39)),mV 34 40]
def r_161_11 : SS := [mV 41 5,mV 42 8,mV 43 5,mV 44 8,iA 45 4 43 44,lA 46 4 45,mV 47 0,mV 48 1,mV 49 7,o 50 (.callv (t 48) [(t 49)] false),o 51 (.call f_179 [(t 47), (t 50)] false),o 52 (.call f_51 [(t 46), (t 51)] true),iA 53 4 41 42,
  ⟨none, none, .store 4 (t 53) (t 52)⟩]
def r_161_12 : SS := [mV 55 8,mV 56 0,cK 57 56,fA 58 0 57,lD 59 58,o 60 (.bin 0 .mul (i 2) (t 59)),o 61 (.bin 0 .lss (t 55) (t 60)),mV 54 61]
def r_161_13 : SS := [mV 62 5,mV 63 8,mV 64 0,cK 65 64,fA 66 0 65,lD 67 66,o 68 (.bin 0 .sub (t 63) (t 67)),mV 69 5,mV 70 8,mV 71 0,cK 72 71,fA 73 0 72,lD 74 73,o 75 (.bin 0 .sub (t 70) (t 74)),iA 76 4 69 75,lA 77 4 76,mV 78 0,mV 79 1,mV 80 7,o 81 (.callv (t 79) [(t 80)] false),o 82 (.call f_179 [(t 78), (t 81)] false),o 83 (.call f_170 [(t 77), (t 82)] false),iA 84 4 62 68,
  ⟨none, none, .store 4 (t 84) (t 83)⟩]
def r_161_14 : SS := [o 85 (.bin 0 .add (t 29) (i 1)),mV 29 85]
def r_161_15 : SS := [mV 86 5,mV 4 86]
def s_161 : SF := ⟨2, 87, [.tmp 4],
  (qS (gR r_161_0) (qS (gR r_161_1) (qS (qS (gR r_161_2) (.block 0 (.loop (qS (gR r_161_3) (qS (.cond (t 17) .skip (.exit 0)) (qS (.block 1 (qS (gR r_161_4) (gR r_161_5))) (gR r_161_6))))))) (qS (qS (gR r_161_7) (.block 2 (.loop (qS (gR r_161_8) (qS (.cond (t 30) .skip (.exit 2)) (qS (.block 3 (qS (gR r_161_9) (.block 4 (qS (gR r_161_10) (.cond (t 34) (.draw r_161_11 [0, 0, 0, 0, 12, 28, 0, 0, 0, 384, 960, 2044, 4095, 8191] []) (qS (gR r_161_12) (.cond (t 54) (.draw r_161_13 [0, 0, 0, 4, 12, 28, 62, 0, 0, 0, 512, 1536, 3584, 7936, 16256, 32640, 0, 0, 0, 393216, 983040, 2097024, 4194303, 8388607] []) .skip))))))) (gR r_161_14))))))) (qS (gR r_161_15) .ret)))))⟩

def r_162_0 : SS := [o 3 (.mv (i 0))]
def r_162_1 : SS := [lD 4 1,cK 5 4,fA 6 3 5,lD 7 6,mV 8 0,iA 9 1 7 8,lD 10 9,lD 11 1,cK 12 11,fA 13 2 12,lD 14 13,iA 15 1 10 14,lD 16 15,mV 3 16]
def s_162 : SF := ⟨2, 17, [.tmp 3],
  (qS (gR r_162_0) (qS (.draw r_162_1 [0, 1, 3, 7, 0, 31, 63, 0, 128, 384, 896, 2047, 4095, 8191] []) .ret))⟩

def r_163_0 : SS := [o 2 (.box T_simplex_tableau_int64_simplex_few (t 0)),o 3 (.box T_int (t 1)),o 4 (.mv (.const (.slice none 0 0)))]
def r_163_1 : SS := [lD 6 2,o 7 (.mkfn (.func f_180) [] [(t 2), (t 3)]),o 8 (.call f_161 [(t 6), (t 7)] true),mV 5 8]
def r_163_2 : SS := [lD 10 3,lD 11 2,cK 12 11,fA 13 0 12,lD 14 13,o 15 (.bin 0 .lss (t 10) (t 14)),mV 9 15]
def r_163_3 : SS := [mV 16 5,lD 17 3,mV 18 5,lD 19 3,iA 20 4 18 19,lA 21 4 20,o 22 (.call f_90 [(i 1)] false),o 23 (.call f_51 [(t 21), (t 22)] false),iA 24 4 16 17,
  ⟨none, none, .store 4 (t 24) (t 23)⟩]
def r_163_4 : SS := [lD 26 3,lD 27 2,cK 28 27,fA 29 0 28,lD 30 29,o 31 (.bin 0 .mul (i 2) (t 30)),o 32 (.bin 0 .lss (t 26) (t 31)),mV 25 32]
def r_163_5 : SS := [mV 33 5,lD 34 3,lD 35 2,cK 36 35,fA 37 0 36,lD 38 37,o 39 (.bin 0 .sub (t 34) (t 38)),mV 40 5,lD 41 3,lD 42 2,cK 43 42,fA 44 0 43,lD 45 44,o 46 (.bin 0 .sub (t 41) (t 45)),iA 47 4 40 46,lA 48 4 47,o 49 (.call f_90 [(i 1)] false),o 50 (.call f_170 [(t 48), (t 49)] false),iA 51 4 33 39,
  ⟨none, none, .store 4 (t 51) (t 50)⟩]
def r_163_6 : SS := [mV 52 5,mV 4 52]
def s_163 : SF := ⟨2, 53, [.tmp 4],
  (qS (gR r_163_0) (qS (gR r_163_1) (qS (.block 0 (qS (.draw r_163_2 [0, 0, 2, 6, 14, 31, 63] []) (.cond (t 9) (.draw r_163_3 [0, 0, 0, 0, 12, 28, 0, 124, 255, 511] []) (qS (.draw r_163_4 [0, 0, 2, 6, 14, 30, 63, 127] []) (.cond (t 25) (.draw r_163_5 [0, 0, 0, 4, 12, 28, 62, 0, 0, 0, 512, 1536, 3584, 7936, 16256, 32640, 0, 130944, 262143, 524287] []) .skip))))) (qS (gR r_163_6) .ret))))⟩

def r_164_0 : SS := [o 2 (.mv (.const (.slice none 0 0)))]
def r_164_1 : SS := [lD 5 0,cK 6 5,fA 7 2 6,lD 8 7,o 9 (.bin 0 .add (t 8) (i 1)),o 10 (.mk T_api_Int 32 [(.bool false), (.slice none 0 0)] (t 9) (t 9)),mV 3 10]
def r_164_2 : SS := [mV 11 3,lN 12 11,o 13 (.mv (i 0))]
def r_164_3 : SS := [o 14 (.bin 0 .lss (t 13) (t 12))]
def r_164_4 : SS := [mV 15 13,mV 4 15]
def r_164_5 : SS := [mV 16 3,mV 17 4,lA 18 2 1,iA 19 2 16 17,
  ⟨none, none, .store 2 (t 19) (t 18)⟩]
def r_164_6 : SS := [o 20 (.bin 0 .add (t 13) (i 1)),mV 13 20]
def r_164_7 : SS := [mV 21 3,mV 2 21]
def s_164 : SF := ⟨2, 22, [.tmp 2],
  (qS (gR r_164_0) (qS (gR r_164_1) (qS (qS (gR r_164_2) (.block 0 (.loop (qS (gR r_164_3) (qS (.cond (t 14) .skip (.exit 0)) (qS (.block 1 (qS (gR r_164_4) (gR r_164_5))) (gR r_164_6))))))) (qS (gR r_164_7) .ret))))⟩

def r_165_0 : SS := [o 4 (.box T_api_Int (t 1)),o 5 (.box T_api_Int (t 2)),o 6 (.alloc T_api_Int [(.bool false), (.slice none 0 0)])]
def r_165_1 : SS := [mV 8 0,cK 9 8,o 10 (.fa0 T_simplex_tableau_api_Int_simplex_all_150 (t 9)),lA 11 0 10,o 12 (.iface T_simplex_all (t 11)),o 13 (.call f_126 [(i 1)] false),o 14 (.inv (t 12) [(T_simplex_all, f_204), (T_simplex_few, f_211)] [(t 13)] false),o 7 (.alloc T_api_Int [(.bool false), (.slice none 0 0)]),
  ⟨none, none, .store 2 (t 7) (t 14)⟩]
def r_165_2 : SS := [mV 15 0,cK 16 15,o 17 (.fa0 T_simplex_tableau_api_Int_simplex_all_150 (t 16)),lA 18 0 17,o 19 (.iface T_simplex_all (t 18)),lA 20 2 4,lA 21 2 7,lA 22 2 5,lA 23 2 7,lA 24 2 7,o 25 (.inv (t 19) [(T_simplex_all, f_206), (T_simplex_few, f_213)] [(t 20), (t 21), (t 22), (t 23), (t 24)] true),
  ⟨none, none, .store 2 (t 6) (t 25)⟩]
def s_165 : SF := ⟨3, 26, [.cell 6 true 2],
  (qS (gR r_165_0) (qS (.draw r_165_1 [0, 1, 3, 7, 15, 0, 63, 0, 255] []) (qS (.draw r_165_2 [0, 1, 3, 7, 15, 0, 0, 0, 0, 0, 1023, 2047] []) .ret)))⟩

def r_166_0 : SS := [o 4 (.mv (i 0))]
def r_166_1 : SS := [o 5 (.mv (.const (.int .i64 (-1))))]
def r_166_2 : SS := [mV 8 0,cK 9 8,fA 10 1 9,lD 11 10,o 12 (.mv (i 0))]
def r_166_3 : SS := [o 13 (.bin 0 .lss (t 12) (t 11))]
def r_166_4 : SS := [mV 14 12,mV 6 14]
def r_166_5 : SS := [mV 15 0,cK 16 15,o 17 (.fa0 T_simplex_tableau_api_Int_simplex_all_150 (t 16)),lA 18 0 17,o 19 (.iface T_simplex_all (t 18)),mV 20 0,cK 21 20,fA 22 3 21,lD 23 22,mV 24 6,iA 25 1 23 24,lD 26 25,mV 27 1,iA 28 2 26 27,lA 29 2 28,o 30 (.inv (t 19) [(T_simplex_all, f_205), (T_simplex_few, f_212)] [(t 29)] true),o 31 (.bin 0 .leq (t 30) (i 0))]
def r_166_6 : SS := [mV 32 5,o 33 (.bin 0 .lss (t 32) (i 0))]
def r_166_7 : SS := [mV 34 6,mV 5 34]
def r_166_8 : SS := [mV 35 0,cK 36 35,o 37 (.fa0 T_simplex_tableau_api_Int_simplex_all_150 (t 36)),lA 38 0 37,o 39 (.iface T_simplex_all (t 38)),mV 40 0,cK 41 40,fA 42 3 41,lD 43 42,mV 44 6,iA 45 1 43 44,lD 46 45,mV 47 0,cK 48 47,fA 49 2 48,lD 50 49,iA 51 2 46 50,lA 52 2 51,mV 53 0,cK 54 53,fA 55 3 54,lD 56 55,mV 57 5,iA 58 1 56 57,lD 59 58,mV 60 1,iA 61 2 59 60,lA 62 2 61,mV 63 0,cK 64 63,fA 65 3 64,lD 66 65,mV 67 5,iA 68 1 66 67,lD 69 68,mV 70 0,cK 71 70,fA 72 2 71,lD 73 72,iA 74 2 69 73,lA 75 2 74,mV 76 0,cK 77 76,fA 78 3 77,lD 79 78,mV 80 6,iA 81 1 79 80,lD 82 81,mV 83 1,iA 84 2 82 83,lA 85 2 84,o 86 (.inv (t 39) [(T_simplex_all, f_201), (T_simplex_few, f_208)] [(t 52), (t 62), (t 75), (t 85)] true),mV 7 86]
def r_166_9 : SS := [mV 87 7,o 88 (.bin 0 .lss (t 87) (i 0)),mV 89 88,og 90 89 false (.mv (t 7)),og 91 89 false (.bin 0 .eql (t 90) (i 0)),og 92 89 false (.mv (t 91)),og 93 92 true (.mv (t 0)),og 94 92 true (.chk (t 93)),og 95 92 true (.fa 6 (t 94)),og 96 92 true (.load false 1 (t 95)),og 97 92 true (.mv (t 6)),og 98 92 true (.ia 1 (t 96) (t 97)),og 99 92 true (.load false 1 (t 98)),og 100 92 true (.mv (t 0)),og 101 92 true (.chk (t 100)),og 102 92 true (.fa 6 (t 101)),og 103 92 true (.load false 1 (t 102)),og 104 92 true (.mv (t 5)),og 105 92 true (.ia 1 (t 103) (t 104)),og 106 92 true (.load false 1 (t 105)),og 107 92 true (.bin 0 .lss (t 99) (t 106)),og 108 89 false (.pick (t 92) (t 107) (.const (.bool false))),o 109 (.pick (t 89) (.const (.bool true)) (t 108))]
def r_166_10 : SS := [mV 110 6,mV 5 110]
def r_166_11 : SS := [o 111 (.bin 0 .add (t 12) (i 1)),mV 12 111]
def r_166_12 : SS := [mV 112 5,mV 4 112]
def s_166 : SF := ⟨2, 113, [.tmp 4],
  (qS (gR r_166_0) (qS (gR r_166_1) (qS (qS (gR r_166_2) (.block 0 (.loop (qS (gR r_166_3) (qS (.cond (t 13) .skip (.exit 0)) (qS (.block 1 (qS (gR r_166_4) (qS (qS (.draw r_166_5 [0, 1, 3, 7, 15, 0, 32, 96, 224, 0, 992, 2016, 0, 8160, 16352, 32767, 65535] []) (.cond (t 31) (.exit 1) .skip)) (qS (qS (gR r_166_6) (.cond (t 33) (qS (gR r_166_7) (.exit 1)) .skip)) (qS (.draw r_166_8 [0, 1, 3, 7, 15, 0, 32, 96, 224, 0, 992, 2016, 0, 4096, 12288, 28672, 65504, 131040, 0, 262144, 786432, 1835008, 0, 8126464, 16515072, 0, 66846720, 133955584, 0, 268435456, 805306368, 1879048192, 0, 8321499136, 16911433728, 0, 34359738368, 103079215104, 240518168576, 549487378432, 1099243192320, 0, 2199023255552, 6597069766656, 15393162788864, 0, 68169720922112, 138538465099776, 0, 560750930165760, 1123700883587072, 2251799813685247, 4503599627370495] []) (qS (.draw r_166_9 [0, 1, 3, 7, 15, 31, 63, 127, 255, 511, 63, 2047, 4095, 63, 8255, 24639, 57407, 63, 254015, 516159, 1048575, 2097151, 4194303] []) (.cond (t 109) (gR r_166_10) .skip))))))) (gR r_166_11))))))) (qS (gR r_166_12) .ret))))⟩

def r_167_0 : SS := [mV 12 0,cK 13 12,fA 14 7 13,lD 15 14,o 16 (.bin 0 .add (t 15) (i 1)),cK 17 12,fA 18 7 17,
  ⟨none, none, .store 1 (t 18) (t 16)⟩]
def r_167_1 : SS := [mV 19 0,cK 20 19,fA 21 3 20,lD 22 21,mV 23 1,iA 24 1 22 23,lD 25 24,mV 26 2,iA 27 2 25 26,lA 28 2 27,mV 29 0,cK 30 29,fA 31 3 30,lD 32 31,mV 33 1,iA 34 1 32 33,lD 35 34,o 6 (.alloc T_api_Int [(.bool false), (.slice none 0 0)]),
  ⟨none, none, .store 2 (t 6) (t 28)⟩,mV 7 35]
def r_167_2 : SS := [mV 36 0,cK 37 36,fA 38 3 37,lD 39 38,lN 40 39,o 41 (.mv (i 0))]
def r_167_3 : SS := [o 42 (.bin 0 .lss (t 41) (t 40))]
def r_167_4 : SS := [mV 43 41,iA 44 1 39 41,lD 45 44,mV 8 43,mV 9 45]
def r_167_5 : SS := [mV 46 8,mV 47 1,o 48 (.bin 0 .eql (t 46) (t 47))]
def r_167_6 : SS := [mV 49 9,mV 50 2,iA 51 2 49 50,lA 52 2 51,o 10 (.alloc T_api_Int [(.bool false), (.slice none 0 0)]),
  ⟨none, none, .store 2 (t 10) (t 52)⟩]
def r_167_7 : SS := [mV 53 9,lN 54 53,o 55 (.mv (i 0))]
def r_167_8 : SS := [o 56 (.bin 0 .lss (t 55) (t 54))]
def r_167_9 : SS := [mV 57 55,mV 11 57]
def r_167_10 : SS := [mV 58 9,mV 59 11,mV 60 0,cK 61 60,o 62 (.fa0 T_simplex_tableau_api_Int_simplex_all_150 (t 61)),lA 63 0 62,o 64 (.iface T_simplex_all (t 63)),mV 65 9,mV 66 11,iA 67 2 65 66,lA 68 2 67,lA 69 2 6,lA 70 2 10,mV 71 7,mV 72 11,iA 73 2 71 72,lA 74 2 73,mV 75 0,cK 76 75,fA 77 4 76,lA 78 2 77,o 79 (.inv (t 64) [(T_simplex_all, f_206), (T_simplex_few, f_213)] [(t 68), (t 69), (t 70), (t 74), (t 78)] true),iA 80 2 58 59,
  ⟨none, none, .store 2 (t 80) (t 79)⟩]
def r_167_11 : SS := [o 81 (.bin 0 .add (t 55) (i 1)),mV 55 81]
def r_167_12 : SS := [o 82 (.bin 0 .add (t 41) (i 1)),mV 41 82]
def r_167_13 : SS := [mV 83 0,mV 84 0,cK 85 84,fA 86 6 85,lD 87 86,mV 88 1,lA 89 2 6,mV 90 2,cK 91 83,fA 92 4 91,
  ⟨none, none, .store 2 (t 92) (t 89)⟩,iA 93 1 87 88,
  ⟨none, none, .store 1 (t 93) (t 90)⟩]
def s_167 : SF := ⟨3, 94, [],
  (qS (gR r_167_0) (qS (.draw r_167_1 [0, 1, 3, 7, 0, 31, 63, 0, 255, 511, 0, 1024, 3072, 7168, 0, 31744, 64512, 0, 132095, 524287] [(13, 18), (16, 18)]) (qS (qS (gR r_167_2) (.block 0 (.loop (qS (gR r_167_3) (qS (.cond (t 42) .skip (.exit 0)) (qS (.block 1 (qS (gR r_167_4) (qS (qS (gR r_167_5) (.cond (t 48) (.exit 1) .skip)) (qS (gR r_167_6) (qS (gR r_167_7) (.block 2 (.loop (qS (gR r_167_8) (qS (.cond (t 56) .skip (.exit 2)) (qS (.block 3 (qS (gR r_167_9) (.draw r_167_10 [0, 0, 0, 4, 12, 28, 60, 0, 0, 384, 896, 0, 0, 0, 0, 24576, 57344, 0, 131072, 393216, 917504, 2097148, 4194303, 8388607] []))) (gR r_167_11))))))))))) (gR r_167_12))))))) (.draw r_167_13 [0, 0, 2, 6, 14, 0, 0, 0, 95, 351, 863, 2047, 4095] []))))⟩


end Go.Proofs.YtjlohmnnldbjoaaGreat.AI

/- The small code of the program's functions: printed. -/
namespace Go.Proofs.YtjlohmnnldbjoaaGreat.AI
open Go

def r_168_0 : SS := [o 2 (.box T_api_Rat (t 0)),o 3 (.box T_api_Rat (t 1)),o 4 (.alloc T_api_Rat [(.bool false), (.slice none 0 0), (.bool false), (.slice none 0 0)]),o 5 (.mv (i 0))]
def r_168_1 : SS := [lA 6 4 2,o 7 (.call f_85 [(t 6)] false),lA 8 4 3,o 9 (.call f_85 [(t 8)] true),
  ⟨none, none, .store 4 (t 2) (t 7)⟩,
  ⟨none, none, .store 4 (t 3) (t 9)⟩]
def r_168_2 : SS := [fA 10 0 2,lA 11 2 10,fA 12 2 3,lA 13 2 12,o 14 (.call f_89 [(t 11), (t 13)] false),fA 15 2 2,lA 16 2 15,fA 17 0 3,lA 18 2 17,o 19 (.call f_89 [(t 16), (t 18)] true),o 20 (.call f_118 [(t 14), (t 19)] true),o 21 (.ext (t 20) 0),o 22 (.ext (t 20) 1),
  ⟨none, none, .store 4 (t 4) (t 21)⟩,mV 5 22]
def s_168 : SF := ⟨2, 23, [.cell 4 true 4, .tmp 5],
  (qS (gR r_168_0) (qS (.draw r_168_1 [0, 1, 0, 7, 15, 31] []) (qS (.draw r_168_2 [0, 1, 0, 4, 15, 0, 32, 0, 128, 511, 1023, 2047, 2047, 8191, 16383] []) .ret)))⟩

def r_169_0 : SS := [o 3 (.box T_api_Int (t 1)),o 4 (.alloc T_api_Rat [(.bool false), (.slice none 0 0), (.bool false), (.slice none 0 0)])]
def r_169_1 : SS := [mV 8 0,cK 9 8,o 10 (.fa0 T_simplex_tableau_api_Int_simplex_all_150 (t 9)),lA 11 0 10,o 12 (.iface T_simplex_all (t 11)),lA 13 2 3,o 14 (.inv (t 12) [(T_simplex_all, f_203), (T_simplex_few, f_210)] [(t 13)] false),mV 15 0,cK 16 15,o 17 (.fa0 T_simplex_tableau_api_Int_simplex_all_150 (t 16)),lA 18 0 17,o 19 (.iface T_simplex_all (t 18)),mV 20 0,cK 21 20,fA 22 4 21,lA 23 2 22,o 24 (.inv (t 19) [(T_simplex_all, f_203), (T_simplex_few, f_210)] [(t 23)] false),o 25 (.call f_118 [(t 14), (t 24)] false),mV 7 25,o 26 (.ext (t 7) 0),o 27 (.ext (t 7) 1),o 5 (.alloc T_api_Rat [(.bool false), (.slice none 0 0), (.bool false), (.slice none 0 0)]),
  ⟨none, none, .store 4 (t 5) (t 26)⟩,mV 6 27]
def r_169_2 : SS := [lA 28 4 5,
  ⟨none, none, .store 4 (t 4) (t 28)⟩]
def s_169 : SF := ⟨2, 29, [.cell 4 true 4],
  (qS (gR r_169_0) (qS (.draw r_169_1 [0, 1, 3, 7, 15, 0, 63, 0, 128, 384, 896, 1920, 0, 4096, 12288, 28672, 65535, 131071, 262143, 524287, 524287, 0, 3145727, 8388607] []) (qS (gR r_169_2) .ret)))⟩

def r_170_0 : SS := [o 2 (.box T_api_Rat (t 0)),o 3 (.box T_api_Rat (t 1)),o 4 (.alloc T_api_Rat [(.bool false), (.slice none 0 0), (.bool false), (.slice none 0 0)])]
def r_170_1 : SS := [lA 5 4 2,lA 6 4 3,o 7 (.call f_85 [(t 6)] false),o 8 (.call f_181 [(t 7)] false),o 9 (.call f_51 [(t 5), (t 8)] true),
  ⟨none, none, .store 4 (t 4) (t 9)⟩]
def s_170 : SF := ⟨2, 10, [.cell 4 true 4],
  (qS (gR r_170_0) (qS (.draw r_170_1 [0, 0, 2, 6, 15, 31] []) .ret))⟩

def r_171_0 : SS := [o 4 (.alloc T_api_Int [(.bool false), (.slice none 0 0)])]
def r_171_1 : SS := [lD 5 1,cK 6 5,o 7 (.fa0 T_simplex_tableau_api_Int_simplex_all_150 (t 6)),lA 8 0 7,o 9 (.iface T_simplex_all (t 8)),lD 10 1,cK 11 10,fA 12 3 11,lD 13 12,mV 14 0,iA 15 1 13 14,lD 16 15,lD 17 2,iA 18 2 16 17,lA 19 2 18,o 20 (.inv (t 9) [(T_simplex_all, f_202), (T_simplex_few, f_209)] [(t 19)] true),
  ⟨none, none, .store 2 (t 4) (t 20)⟩]
def s_171 : SF := ⟨3, 21, [.cell 4 true 2],
  (qS (gR r_171_0) (qS (.draw r_171_1 [0, 1, 3, 7, 15, 0, 32, 96, 224, 0, 992, 2016, 0, 8160, 16352, 32767, 65535] []) .ret))⟩

def r_172_0 : SS := [o 4 (.mv (.const (.slice none 0 0))),o 5 (.mv (.const (.int .u32 0)))]
def r_172_1 : SS := [mV 9 0,lN 10 9,o 11 (.mk T_uint32 4 [(.int .u32 0)] (t 10) (t 10)),mV 6 11]
def r_172_2 : SS := [o 7 (.mv (.const (.int .u64 0)))]
def r_172_3 : SS := [mV 12 0,lN 13 12,o 14 (.bin 0 .sub (t 13) (i 1)),mV 8 14]
def r_172_4 : SS := [mV 15 8,o 16 (.bin 0 .geq (t 15) (i 0))]
def r_172_5 : SS := [mV 19 7,o 20 (.bin 0 .shl (t 19) (.const (.int .u64 32))),mV 21 0,mV 22 8,iA 23 1 21 22,lD 24 23,o 25 (.conv .u64 (t 24)),o 26 (.bin 0 .or (t 20) (t 25)),mV 7 26]
def r_172_6 : SS := [mV 27 6,mV 28 8,mV 29 7,mV 30 1,o 31 (.conv .u64 (t 30)),o 32 (.bin 0 .quo (t 29) (t 31)),o 33 (.call f_125 [(t 32)] true),iA 34 1 27 28,
  ⟨none, none, .store 1 (t 34) (t 33)⟩]
def r_172_7 : SS := [mV 35 7,mV 36 1,o 37 (.conv .u64 (t 36)),o 38 (.bin 0 .rem (t 35) (t 37)),mV 7 38]
def r_172_8 : SS := [mV 17 8,o 18 (.bin 0 .sub (t 17) (i 1)),mV 8 18]
def r_172_9 : SS := [mV 39 6,mV 40 7,o 41 (.call f_125 [(t 40)] true),mV 4 39,mV 5 41]
def s_172 : SF := ⟨2, 42, [.tmp 4, .tmp 5],
  (qS (gR r_172_0) (qS (gR r_172_1) (qS (gR r_172_2) (qS (qS (gR r_172_3) (.block 0 (.loop (qS (qS (gR r_172_4) (.cond (t 16) .skip (.exit 0))) (qS (.block 1 (qS (gR r_172_5) (qS (gR r_172_6) (gR r_172_7)))) (gR r_172_8)))))) (qS (gR r_172_9) .ret)))))⟩

def r_173_0 : SS := [o 4 (.mv (.const (.slice none 0 0))),o 5 (.mv (.const (.slice none 0 0)))]
def r_173_1 : SS := [o 6 (.mv (i 0))]
def r_173_2 : SS := [mV 16 1,mV 17 1,lN 18 17,o 19 (.bin 0 .sub (t 18) (i 1)),iA 20 1 16 19,lD 21 20,mV 22 6,o 23 (.bin 0 .shl (t 21) (t 22)),o 24 (.bin 0 .shr (t 23) (.const (.int .u64 31))),o 25 (.bin 0 .eql (t 24) (.const (.int .u32 0)))]
def r_173_3 : SS := [mV 26 6,o 27 (.bin 0 .add (t 26) (i 1)),mV 6 27]
def r_173_4 : SS := [mV 28 0,mV 29 6,o 30 (.call f_182 [(t 28), (t 29)] true),mV 31 1,mV 32 6,o 33 (.call f_182 [(t 31), (t 32)] true),mV 34 1,lN 35 34,o 36 (.sl T_uint32 1 (t 33) none (some (t 35)) none),mV 7 30,mV 8 36]
def r_173_5 : SS := [mV 37 8,lN 38 37,mV 9 38]
def r_173_6 : SS := [mV 39 7,lN 40 39,mV 41 9,o 42 (.bin 0 .sub (t 40) (t 41)),o 43 (.mnx true (t 42) [(i 0)]),o 44 (.mk T_uint32 4 [(.int .u32 0)] (t 43) (t 43)),mV 4 44]
def r_173_7 : SS := [mV 45 8,mV 46 9,o 47 (.bin 0 .sub (t 46) (i 1)),iA 48 1 45 47,lD 49 48,o 50 (.conv .u64 (t 49)),mV 51 8,mV 52 9,o 53 (.bin 0 .sub (t 52) (i 2)),iA 54 1 51 53,lD 55 54,o 56 (.conv .u64 (t 55)),mV 10 50,mV 11 56]
def r_173_8 : SS := [mV 57 7,lN 58 57,mV 59 9,o 60 (.bin 0 .sub (t 58) (t 59)),o 61 (.bin 0 .sub (t 60) (i 1)),mV 12 61]
def r_173_9 : SS := [mV 62 12,o 63 (.bin 0 .geq (t 62) (i 0))]
def r_173_10 : SS := [mV 66 7,mV 67 12,mV 68 9,o 69 (.bin 0 .add (t 67) (t 68)),iA 70 1 66 69,lD 71 70,o 72 (.conv .u64 (t 71)),o 73 (.bin 0 .shl (t 72) (.const (.int .u64 32))),mV 74 7,mV 75 12,mV 76 9,o 77 (.bin 0 .add (t 75) (t 76)),o 78 (.bin 0 .sub (t 77) (i 1)),iA 79 1 74 78,lD 80 79,o 81 (.conv .u64 (t 80)),o 82 (.bin 0 .or (t 73) (t 81)),mV 13 82]
def r_173_11 : SS := [mV 83 13,mV 84 10,o 85 (.bin 0 .quo (t 83) (t 84)),mV 86 13,mV 87 10,o 88 (.bin 0 .rem (t 86) (t 87)),mV 14 85,mV 15 88]
def r_173_12 : SS := [mV 89 14,o 90 (.bin 0 .geq (t 89) (.const (.int .u64 4294967296))),mV 91 90,og 92 91 false (.mv (t 14)),og 93 91 false (.mv (t 11)),og 94 91 false (.bin 0 .mul (t 92) (t 93)),og 95 91 false (.mv (t 15)),og 96 91 false (.bin 0 .shl (t 95) (.const (.int .u64 32))),og 97 91 false (.mv (t 7)),og 98 91 false (.mv (t 12)),og 99 91 false (.mv (t 9)),og 100 91 false (.bin 0 .add (t 98) (t 99)),og 101 91 false (.bin 0 .sub (t 100) (i 2)),og 102 91 false (.ia 1 (t 97) (t 101)),og 103 91 false (.load false 1 (t 102)),og 104 91 false (.conv .u64 (t 103)),og 105 91 false (.bin 0 .or (t 96) (t 104)),og 106 91 false (.bin 0 .gtr (t 94) (t 105)),o 107 (.pick (t 91) (.const (.bool true)) (t 106))]
def r_173_13 : SS := [mV 108 14,o 109 (.bin 0 .sub (t 108) (.const (.int .u64 1))),mV 14 109]
def r_173_14 : SS := [mV 110 15,mV 111 10,o 112 (.bin 0 .add (t 110) (t 111)),mV 15 112]
def r_173_15 : SS := [mV 113 15,o 114 (.bin 0 .geq (t 113) (.const (.int .u64 4294967296)))]
def r_173_16 : SS := [mV 115 7,mV 116 12,mV 117 12,mV 118 9,o 119 (.bin 0 .add (t 117) (t 118)),o 120 (.bin 0 .add (t 119) (i 1)),o 121 (.sl T_uint32 1 (t 115) (some (t 116)) (some (t 120)) none),mV 122 8,mV 123 14,o 124 (.call f_183 [(t 121), (t 122), (t 123)] true)]
def r_173_17 : SS := [mV 125 14,o 126 (.bin 0 .sub (t 125) (.const (.int .u64 1))),mV 14 126]
def r_173_18 : SS := [mV 127 7,mV 128 12,mV 129 12,mV 130 9,o 131 (.bin 0 .add (t 129) (t 130)),o 132 (.bin 0 .add (t 131) (i 1)),o 133 (.sl T_uint32 1 (t 127) (some (t 128)) (some (t 132)) none),mV 134 8,o 135 (.call f_184 [(t 133), (t 134)] true)]
def r_173_19 : SS := [mV 136 4,mV 137 12,mV 138 14,o 139 (.call f_125 [(t 138)] true),iA 140 1 136 137,
  ⟨none, none, .store 1 (t 140) (t 139)⟩]
def r_173_20 : SS := [mV 64 12,o 65 (.bin 0 .sub (t 64) (i 1)),mV 12 65]
def r_173_21 : SS := [mV 141 4,mV 142 7,mV 143 9,o 144 (.sl T_uint32 1 (t 142) none (some (t 143)) none),mV 145 6,o 146 (.call f_185 [(t 144), (t 145)] true),mV 4 141,mV 5 146]
def s_173 : SF := ⟨2, 147, [.tmp 4, .tmp 5],
  (qS (gR r_173_0) (qS (gR r_173_1) (qS (.block 0 (.loop (qS (qS (gR r_173_2) (.cond (t 25) .skip (.exit 0))) (.block 1 (gR r_173_3))))) (qS (.draw r_173_4 [0, 0, 3, 0, 0, 31, 0, 64, 255, 63, 1023] []) (qS (gR r_173_5) (qS (gR r_173_6) (qS (.draw r_173_7 [0, 0, 2, 7, 15, 31, 0, 0, 128, 448, 960, 1984, 63, 8191] []) (qS (qS (gR r_173_8) (.block 2 (.loop (qS (qS (gR r_173_9) (.cond (t 63) .skip (.exit 2))) (qS (.block 3 (qS (.draw r_173_10 [0, 0, 0, 6, 15, 31, 63, 127, 0, 0, 0, 1536, 3584, 7936, 16128, 32512, 65535, 131071] []) (qS (.draw r_173_11 [0, 0, 3, 0, 0, 24, 7, 127] []) (qS (.block 4 (.loop (qS (qS (gR r_173_12) (.cond (t 107) .skip (.exit 4))) (.block 5 (qS (gR r_173_13) (qS (gR r_173_14) (qS (gR r_173_15) (.cond (t 114) (.exit 4) .skip)))))))) (qS (qS (gR r_173_16) (.cond (t 124) (qS (gR r_173_17) (gR r_173_18)) .skip)) (gR r_173_19)))))) (gR r_173_20)))))) (qS (gR r_173_21) .ret)))))))))⟩

def r_174_0 : SS := [o 4 (.mv (.const (.slice none 0 0)))]
def r_174_1 : SS := [o 5 (.mv (.const (.slice none 0 0)))]
def r_174_2 : SS := [o 6 (.mv (.const (.int .u32 0)))]
def r_174_3 : SS := [mV 8 1]
def r_174_4 : SS := [o 6 (.mv (.const (.int .u32 1)))]
def r_174_5 : SS := [o 7 (.mv (i 0))]
def r_174_6 : SS := [mV 9 7,mV 10 0,lN 11 10,o 12 (.bin 0 .lss (t 9) (t 11))]
def r_174_7 : SS := [mV 15 5,mV 16 0,mV 17 7,iA 18 1 16 17,lD 19 18,o 20 (.bin 0 .shl (t 19) (.const (.int .u64 1))),mV 21 6,o 22 (.bin 0 .or (t 20) (t 21)),o 23 (.lit T_uint32 [(.int .u32 0)] 1 [(0, 1, (t 22))]),o 24 (.app T_uint32 1 4 (t 15) (t 23)),mV 5 24]
def r_174_8 : SS := [mV 25 0,mV 26 7,iA 27 1 25 26,lD 28 27,o 29 (.bin 0 .shr (t 28) (.const (.int .u64 31))),mV 6 29]
def r_174_9 : SS := [mV 13 7,o 14 (.bin 0 .add (t 13) (i 1)),mV 7 14]
def r_174_10 : SS := [mV 30 5,mV 31 6,o 32 (.lit T_uint32 [(.int .u32 0)] 1 [(0, 1, (t 31))]),o 33 (.app T_uint32 1 4 (t 30) (t 32)),mV 5 33]
def r_174_11 : SS := [mV 34 5,o 35 (.call f_107 [(t 34)] true),mV 4 35]
def s_174 : SF := ⟨2, 36, [.tmp 4],
  (qS (gR r_174_0) (qS (gR r_174_1) (qS (gR r_174_2) (qS (qS (gR r_174_3) (.cond (t 8) (gR r_174_4) .skip)) (qS (qS (gR r_174_5) (.block 0 (.loop (qS (qS (gR r_174_6) (.cond (t 12) .skip (.exit 0))) (qS (.block 1 (qS (gR r_174_7) (gR r_174_8))) (gR r_174_9)))))) (qS (gR r_174_10) (qS (gR r_174_11) .ret)))))))⟩

def r_175_0 : SS := [o 2 (.mv (.const (.slice none 0 0)))]
def r_175_1 : SS := [lD 5 0,cK 6 5,fA 7 2 6,lD 8 7,o 9 (.bin 0 .add (t 8) (i 1)),o 10 (.mk T_int64 8 [(.int .i64 0)] (t 9) (t 9)),mV 3 10]
def r_175_2 : SS := [mV 11 3,lN 12 11,o 13 (.mv (i 0))]
def r_175_3 : SS := [o 14 (.bin 0 .lss (t 13) (t 12))]
def r_175_4 : SS := [mV 15 13,mV 4 15]
def r_175_5 : SS := [mV 16 3,mV 17 4,lD 18 1,iA 19 1 16 17,
  ⟨none, none, .store 1 (t 19) (t 18)⟩]
def r_175_6 : SS := [o 20 (.bin 0 .add (t 13) (i 1)),mV 13 20]
def r_175_7 : SS := [mV 21 3,mV 2 21]
def s_175 : SF := ⟨2, 22, [.tmp 2],
  (qS (gR r_175_0) (qS (gR r_175_1) (qS (qS (gR r_175_2) (.block 0 (.loop (qS (gR r_175_3) (qS (.cond (t 14) .skip (.exit 0)) (qS (.block 1 (qS (gR r_175_4) (gR r_175_5))) (gR r_175_6))))))) (qS (gR r_175_7) .ret))))⟩

def r_176_0 : SS := [o 6 (.mv (i 0))]
def r_176_1 : SS := [mV 8 0,cK 9 8,o 10 (.fa0 T_simplex_tableau_int64_simplex_few_167 (t 9)),lA 11 0 10,o 12 (.iface T_simplex_few (t 11)),o 13 (.call f_126 [(i 1)] false),o 14 (.inv (t 12) [(T_simplex_all, f_204), (T_simplex_few, f_211)] [(t 13)] true),mV 7 14]
def r_176_2 : SS := [mV 15 0,cK 16 15,o 17 (.fa0 T_simplex_tableau_int64_simplex_few_167 (t 16)),lA 18 0 17,o 19 (.iface T_simplex_few (t 18)),mV 20 1,mV 21 7,mV 22 2,mV 23 7,mV 24 7,o 25 (.inv (t 19) [(T_simplex_all, f_206), (T_simplex_few, f_213)] [(t 20), (t 21), (t 22), (t 23), (t 24)] true),mV 6 25]
def s_176 : SF := ⟨3, 26, [.tmp 6],
  (qS (gR r_176_0) (qS (.draw r_176_1 [0, 1, 3, 7, 15, 0, 63, 127] []) (qS (gR r_176_2) .ret)))⟩

def r_177_0 : SS := [o 4 (.mv (i 0))]
def r_177_1 : SS := [o 5 (.mv (.const (.int .i64 (-1))))]
def r_177_2 : SS := [mV 8 0,cK 9 8,fA 10 1 9,lD 11 10,o 12 (.mv (i 0))]
def r_177_3 : SS := [o 13 (.bin 0 .lss (t 12) (t 11))]
def r_177_4 : SS := [mV 14 12,mV 6 14]
def r_177_5 : SS := [mV 15 0,cK 16 15,o 17 (.fa0 T_simplex_tableau_int64_simplex_few_167 (t 16)),lA 18 0 17,o 19 (.iface T_simplex_few (t 18)),mV 20 0,cK 21 20,fA 22 3 21,lD 23 22,mV 24 6,iA 25 1 23 24,lD 26 25,mV 27 1,iA 28 1 26 27,lD 29 28,o 30 (.inv (t 19) [(T_simplex_all, f_205), (T_simplex_few, f_212)] [(t 29)] true),o 31 (.bin 0 .leq (t 30) (i 0))]
def r_177_6 : SS := [mV 32 5,o 33 (.bin 0 .lss (t 32) (i 0))]
def r_177_7 : SS := [mV 34 6,mV 5 34]
def r_177_8 : SS := [mV 35 0,cK 36 35,o 37 (.fa0 T_simplex_tableau_int64_simplex_few_167 (t 36)),lA 38 0 37,o 39 (.iface T_simplex_few (t 38)),mV 40 0,cK 41 40,fA 42 3 41,lD 43 42,mV 44 6,iA 45 1 43 44,lD 46 45,mV 47 0,cK 48 47,fA 49 2 48,lD 50 49,iA 51 1 46 50,lD 52 51,mV 53 0,cK 54 53,fA 55 3 54,lD 56 55,mV 57 5,iA 58 1 56 57,lD 59 58,mV 60 1,iA 61 1 59 60,lD 62 61,mV 63 0,cK 64 63,fA 65 3 64,lD 66 65,mV 67 5,iA 68 1 66 67,lD 69 68,mV 70 0,cK 71 70,fA 72 2 71,lD 73 72,iA 74 1 69 73,lD 75 74,mV 76 0,cK 77 76,fA 78 3 77,lD 79 78,mV 80 6,iA 81 1 79 80,lD 82 81,mV 83 1,iA 84 1 82 83,lD 85 84,o 86 (.inv (t 39) [(T_simplex_all, f_201), (T_simplex_few, f_208)] [(t 52), (t 62), (t 75), (t 85)] true),mV 7 86]
def r_177_9 : SS := [mV 87 7,o 88 (.bin 0 .lss (t 87) (i 0)),mV 89 88,og 90 89 false (.mv (t 7)),og 91 89 false (.bin 0 .eql (t 90) (i 0)),og 92 89 false (.mv (t 91)),og 93 92 true (.mv (t 0)),og 94 92 true (.chk (t 93)),og 95 92 true (.fa 5 (t 94)),og 96 92 true (.load false 1 (t 95)),og 97 92 true (.mv (t 6)),og 98 92 true (.ia 1 (t 96) (t 97)),og 99 92 true (.load false 1 (t 98)),og 100 92 true (.mv (t 0)),og 101 92 true (.chk (t 100)),og 102 92 true (.fa 5 (t 101)),og 103 92 true (.load false 1 (t 102)),og 104 92 true (.mv (t 5)),og 105 92 true (.ia 1 (t 103) (t 104)),og 106 92 true (.load false 1 (t 105)),og 107 92 true (.bin 0 .lss (t 99) (t 106)),og 108 89 false (.pick (t 92) (t 107) (.const (.bool false))),o 109 (.pick (t 89) (.const (.bool true)) (t 108))]
def r_177_10 : SS := [mV 110 6,mV 5 110]
def r_177_11 : SS := [o 111 (.bin 0 .add (t 12) (i 1)),mV 12 111]
def r_177_12 : SS := [mV 112 5,mV 4 112]
def s_177 : SF := ⟨2, 113, [.tmp 4],
  (qS (gR r_177_0) (qS (gR r_177_1) (qS (qS (gR r_177_2) (.block 0 (.loop (qS (gR r_177_3) (qS (.cond (t 13) .skip (.exit 0)) (qS (.block 1 (qS (gR r_177_4) (qS (qS (.draw r_177_5 [0, 1, 3, 7, 15, 0, 32, 96, 224, 0, 992, 2016, 0, 8160, 16352, 32767, 65535] []) (.cond (t 31) (.exit 1) .skip)) (qS (qS (gR r_177_6) (.cond (t 33) (qS (gR r_177_7) (.exit 1)) .skip)) (qS (.draw r_177_8 [0, 1, 3, 7, 15, 0, 32, 96, 224, 0, 992, 2016, 0, 4096, 12288, 28672, 65504, 131040, 0, 262144, 786432, 1835008, 0, 8126464, 16515072, 0, 66846720, 133955584, 0, 268435456, 805306368, 1879048192, 0, 8321499136, 16911433728, 0, 34359738368, 103079215104, 240518168576, 549487378432, 1099243192320, 0, 2199023255552, 6597069766656, 15393162788864, 0, 68169720922112, 138538465099776, 0, 560750930165760, 1123700883587072, 2251799813685247, 4503599627370495] []) (qS (.draw r_177_9 [0, 1, 3, 7, 15, 31, 63, 127, 255, 511, 63, 2047, 4095, 63, 8255, 24639, 57407, 63, 254015, 516159, 1048575, 2097151, 4194303] []) (.cond (t 109) (gR r_177_10) .skip))))))) (gR r_177_11))))))) (qS (gR r_177_12) .ret))))⟩

def r_178_0 : SS := [mV 12 0,cK 13 12,fA 14 6 13,lD 15 14,o 16 (.bin 0 .add (t 15) (i 1)),cK 17 12,fA 18 6 17,
  ⟨none, none, .store 1 (t 18) (t 16)⟩]
def r_178_1 : SS := [mV 19 0,cK 20 19,fA 21 3 20,lD 22 21,mV 23 1,iA 24 1 22 23,lD 25 24,mV 26 2,iA 27 1 25 26,lD 28 27,mV 29 0,cK 30 29,fA 31 3 30,lD 32 31,mV 33 1,iA 34 1 32 33,lD 35 34,mV 6 28,mV 7 35]
def r_178_2 : SS := [mV 36 0,cK 37 36,fA 38 3 37,lD 39 38,lN 40 39,o 41 (.mv (i 0))]
def r_178_3 : SS := [o 42 (.bin 0 .lss (t 41) (t 40))]
def r_178_4 : SS := [mV 43 41,iA 44 1 39 41,lD 45 44,mV 8 43,mV 9 45]
def r_178_5 : SS := [mV 46 8,mV 47 1,o 48 (.bin 0 .eql (t 46) (t 47))]
def r_178_6 : SS := [mV 49 9,mV 50 2,iA 51 1 49 50,lD 52 51,mV 10 52]
def r_178_7 : SS := [mV 53 9,lN 54 53,o 55 (.mv (i 0))]
def r_178_8 : SS := [o 56 (.bin 0 .lss (t 55) (t 54))]
def r_178_9 : SS := [mV 57 55,mV 11 57]
def r_178_10 : SS := [mV 58 9,mV 59 11,mV 60 0,cK 61 60,o 62 (.fa0 T_simplex_tableau_int64_simplex_few_167 (t 61)),lA 63 0 62,o 64 (.iface T_simplex_few (t 63)),mV 65 9,mV 66 11,iA 67 1 65 66,lD 68 67,mV 69 6,mV 70 10,mV 71 7,mV 72 11,iA 73 1 71 72,lD 74 73,mV 75 0,cK 76 75,fA 77 4 76,lD 78 77,o 79 (.inv (t 64) [(T_simplex_all, f_206), (T_simplex_few, f_213)] [(t 68), (t 69), (t 70), (t 74), (t 78)] true),iA 80 1 58 59,
  ⟨none, none, .store 1 (t 80) (t 79)⟩]
def r_178_11 : SS := [o 81 (.bin 0 .add (t 55) (i 1)),mV 55 81]
def r_178_12 : SS := [o 82 (.bin 0 .add (t 41) (i 1)),mV 41 82]
def r_178_13 : SS := [mV 83 0,mV 84 0,cK 85 84,fA 86 5 85,lD 87 86,mV 88 1,mV 89 6,mV 90 2,cK 91 83,fA 92 4 91,
  ⟨none, none, .store 1 (t 92) (t 89)⟩,iA 93 1 87 88,
  ⟨none, none, .store 1 (t 93) (t 90)⟩]
def s_178 : SF := ⟨3, 94, [],
  (qS (gR r_178_0) (qS (.draw r_178_1 [0, 1, 3, 7, 0, 31, 63, 0, 255, 511, 0, 1024, 3072, 7168, 0, 31744, 64512, 1023, 262143] []) (qS (qS (gR r_178_2) (.block 0 (.loop (qS (gR r_178_3) (qS (.cond (t 42) .skip (.exit 0)) (qS (.block 1 (qS (gR r_178_4) (qS (qS (gR r_178_5) (.cond (t 48) (.exit 1) .skip)) (qS (gR r_178_6) (qS (gR r_178_7) (.block 2 (.loop (qS (gR r_178_8) (qS (.cond (t 56) .skip (.exit 2)) (qS (.block 3 (qS (gR r_178_9) (.draw r_178_10 [0, 0, 0, 4, 12, 28, 60, 0, 0, 384, 896, 0, 0, 0, 0, 24576, 57344, 0, 131072, 393216, 917504, 2097148, 4194303, 8388607] []))) (gR r_178_11))))))))))) (gR r_178_12))))))) (gR r_178_13))))⟩

def r_179_0 : SS := [o 4 (.alloc T_api_Rat [(.bool false), (.slice none 0 0), (.bool false), (.slice none 0 0)])]
def r_179_1 : SS := [mV 8 0,cK 9 8,o 10 (.fa0 T_simplex_tableau_int64_simplex_few_167 (t 9)),lA 11 0 10,o 12 (.iface T_simplex_few (t 11)),mV 13 1,o 14 (.inv (t 12) [(T_simplex_all, f_203), (T_simplex_few, f_210)] [(t 13)] false),mV 15 0,cK 16 15,o 17 (.fa0 T_simplex_tableau_int64_simplex_few_167 (t 16)),lA 18 0 17,o 19 (.iface T_simplex_few (t 18)),mV 20 0,cK 21 20,fA 22 4 21,lD 23 22,o 24 (.inv (t 19) [(T_simplex_all, f_203), (T_simplex_few, f_210)] [(t 23)] false),o 25 (.call f_118 [(t 14), (t 24)] false),mV 7 25,o 26 (.ext (t 7) 0),o 27 (.ext (t 7) 1),o 5 (.alloc T_api_Rat [(.bool false), (.slice none 0 0), (.bool false), (.slice none 0 0)]),
  ⟨none, none, .store 4 (t 5) (t 26)⟩,mV 6 27]
def r_179_2 : SS := [lA 28 4 5,
  ⟨none, none, .store 4 (t 4) (t 28)⟩]
def s_179 : SF := ⟨2, 29, [.cell 4 true 4],
  (qS (gR r_179_0) (qS (.draw r_179_1 [0, 1, 3, 7, 15, 0, 63, 0, 128, 384, 896, 1920, 0, 4096, 12288, 28672, 65535, 131071, 262143, 524287, 524287, 0, 3145727, 8388607] []) (qS (gR r_179_2) .ret)))⟩

def r_180_0 : SS := [o 4 (.mv (i 0))]
def r_180_1 : SS := [lD 5 1,cK 6 5,o 7 (.fa0 T_simplex_tableau_int64_simplex_few_167 (t 6)),lA 8 0 7,o 9 (.iface T_simplex_few (t 8)),lD 10 1,cK 11 10,fA 12 3 11,lD 13 12,mV 14 0,iA 15 1 13 14,lD 16 15,lD 17 2,iA 18 1 16 17,lD 19 18,o 20 (.inv (t 9) [(T_simplex_all, f_202), (T_simplex_few, f_209)] [(t 19)] true),mV 4 20]
def s_180 : SF := ⟨3, 21, [.tmp 4],
  (qS (gR r_180_0) (qS (.draw r_180_1 [0, 1, 3, 7, 15, 0, 32, 96, 224, 0, 992, 2016, 0, 8160, 16352, 32767, 65535] []) .ret))⟩

def r_181_0 : SS := [o 1 (.box T_api_Rat (t 0)),o 2 (.alloc T_api_Rat [(.bool false), (.slice none 0 0), (.bool false), (.slice none 0 0)])]
def r_181_1 : SS := [fA 3 0 1,lA 4 2 3,o 5 (.call f_151 [(t 4)] false),fA 6 2 1,lA 7 2 6,o 8 (.build [(.bool false), (.slice none 0 0), (.bool false), (.slice none 0 0)] [(0, 2, (t 5)), (2, 2, (t 7))]),
  ⟨none, none, .store 4 (t 2) (t 8)⟩]
def s_181 : SF := ⟨1, 9, [.cell 2 true 4],
  (qS (gR r_181_0) (qS (.draw r_181_1 [0, 1, 3, 0, 8, 31, 63] []) .ret))⟩

def r_182_0 : SS := [o 4 (.mv (.const (.slice none 0 0)))]
def r_182_1 : SS := [mV 9 0,lN 10 9,o 11 (.bin 0 .add (t 10) (i 1)),o 12 (.mk T_uint32 4 [(.int .u32 0)] (i 0) (t 11)),mV 5 12]
def r_182_2 : SS := [o 6 (.mv (.const (.int .u64 0)))]
def r_182_3 : SS := [mV 13 0,lN 14 13,o 15 (.mv (i 0))]
def r_182_4 : SS := [o 16 (.bin 0 .lss (t 15) (t 14))]
def r_182_5 : SS := [iA 17 1 13 15,lD 18 17,mV 8 18]
def r_182_6 : SS := [mV 19 6,mV 20 8,o 21 (.conv .u64 (t 20)),mV 22 1,o 23 (.bin 0 .shl (t 21) (t 22)),o 24 (.bin 0 .or (t 19) (t 23)),mV 6 24]
def r_182_7 : SS := [mV 25 5,mV 26 6,o 27 (.call f_125 [(t 26)] true),o 28 (.lit T_uint32 [(.int .u32 0)] 1 [(0, 1, (t 27))]),o 29 (.app T_uint32 1 4 (t 25) (t 28)),mV 5 29]
def r_182_8 : SS := [mV 30 6,o 31 (.bin 0 .shr (t 30) (.const (.int .u64 32))),mV 6 31]
def r_182_9 : SS := [o 32 (.bin 0 .add (t 15) (i 1)),mV 15 32]
def r_182_10 : SS := [mV 33 5,mV 34 6,o 35 (.call f_125 [(t 34)] true),o 36 (.lit T_uint32 [(.int .u32 0)] 1 [(0, 1, (t 35))]),o 37 (.app T_uint32 1 4 (t 33) (t 36)),mV 4 37]
def s_182 : SF := ⟨2, 38, [.tmp 4],
  (qS (gR r_182_0) (qS (gR r_182_1) (qS (gR r_182_2) (qS (qS (gR r_182_3) (.block 0 (.loop (qS (gR r_182_4) (qS (.cond (t 16) .skip (.exit 0)) (qS (.block 1 (qS (gR r_182_5) (qS (gR r_182_6) (qS (gR r_182_7) (gR r_182_8))))) (gR r_182_9))))))) (qS (gR r_182_10) .ret)))))⟩

def r_183_0 : SS := [o 6 (.mv (.const (.bool false)))]
def r_183_1 : SS := [o 7 (.mv (.const (.int .u64 0)))]
def r_183_2 : SS := [mV 10 0,lN 11 10,o 12 (.mv (i 0))]
def r_183_3 : SS := [o 13 (.bin 0 .lss (t 12) (t 11))]
def r_183_4 : SS := [mV 14 12,mV 8 14]
def r_183_5 : SS := [mV 15 8,mV 16 1,lN 17 16,o 18 (.bin 0 .lss (t 15) (t 17))]
def r_183_6 : SS := [mV 19 7,mV 20 1,mV 21 8,iA 22 1 20 21,lD 23 22,o 24 (.conv .u64 (t 23)),mV 25 2,o 26 (.bin 0 .mul (t 24) (t 25)),o 27 (.bin 0 .add (t 19) (t 26)),mV 7 27]
def r_183_7 : SS := [mV 28 0,mV 29 8,iA 30 1 28 29,lD 31 30,o 32 (.conv .u64 (t 31)),mV 33 7,o 34 (.bin 0 .and (t 33) (.const (.int .u64 4294967295))),o 35 (.bin 0 .sub (t 32) (t 34)),mV 9 35]
def r_183_8 : SS := [mV 36 0,mV 37 8,mV 38 9,o 39 (.call f_125 [(t 38)] true),iA 40 1 36 37,
  ⟨none, none, .store 1 (t 40) (t 39)⟩]
def r_183_9 : SS := [mV 41 7,o 42 (.bin 0 .shr (t 41) (.const (.int .u64 32))),mV 43 9,o 44 (.bin 0 .shr (t 43) (.const (.int .u64 63))),o 45 (.bin 0 .add (t 42) (t 44)),mV 7 45]
def r_183_10 : SS := [o 46 (.bin 0 .add (t 12) (i 1)),mV 12 46]
def r_183_11 : SS := [mV 47 7,o 48 (.bin 0 .neq (t 47) (.const (.int .u64 0))),mV 6 48]
def s_183 : SF := ⟨3, 49, [.tmp 6],
  (qS (gR r_183_0) (qS (gR r_183_1) (qS (qS (gR r_183_2) (.block 0 (.loop (qS (gR r_183_3) (qS (.cond (t 13) .skip (.exit 0)) (qS (.block 1 (qS (gR r_183_4) (qS (qS (gR r_183_5) (.cond (t 18) (gR r_183_6) .skip)) (qS (gR r_183_7) (qS (gR r_183_8) (gR r_183_9)))))) (gR r_183_10))))))) (qS (gR r_183_11) .ret))))⟩

def r_184_0 : SS := [o 4 (.mv (.const (.int .u64 0)))]
def r_184_1 : SS := [mV 6 0,lN 7 6,o 8 (.mv (i 0))]
def r_184_2 : SS := [o 9 (.bin 0 .lss (t 8) (t 7))]
def r_184_3 : SS := [mV 10 8,mV 5 10]
def r_184_4 : SS := [mV 11 4,mV 12 0,mV 13 5,iA 14 1 12 13,lD 15 14,o 16 (.conv .u64 (t 15)),o 17 (.bin 0 .add (t 11) (t 16)),mV 4 17]
def r_184_5 : SS := [mV 18 5,mV 19 1,lN 20 19,o 21 (.bin 0 .lss (t 18) (t 20))]
def r_184_6 : SS := [mV 22 4,mV 23 1,mV 24 5,iA 25 1 23 24,lD 26 25,o 27 (.conv .u64 (t 26)),o 28 (.bin 0 .add (t 22) (t 27)),mV 4 28]
def r_184_7 : SS := [mV 29 0,mV 30 5,mV 31 4,o 32 (.call f_125 [(t 31)] true),iA 33 1 29 30,
  ⟨none, none, .store 1 (t 33) (t 32)⟩]
def r_184_8 : SS := [mV 34 4,o 35 (.bin 0 .shr (t 34) (.const (.int .u64 32))),mV 4 35]
def r_184_9 : SS := [o 36 (.bin 0 .add (t 8) (i 1)),mV 8 36]
def s_184 : SF := ⟨2, 37, [],
  (qS (gR r_184_0) (qS (gR r_184_1) (.block 0 (.loop (qS (gR r_184_2) (qS (.cond (t 9) .skip (.exit 0)) (qS (.block 1 (qS (gR r_184_3) (qS (gR r_184_4) (qS (qS (gR r_184_5) (.cond (t 21) (gR r_184_6) .skip)) (qS (gR r_184_7) (gR r_184_8)))))) (gR r_184_9))))))))⟩

def r_185_0 : SS := [o 4 (.mv (.const (.slice none 0 0)))]
def r_185_1 : SS := [mV 8 0,lN 9 8,o 10 (.mk T_uint32 4 [(.int .u32 0)] (t 9) (t 9)),mV 5 10]
def r_185_2 : SS := [mV 11 0,lN 12 11,o 13 (.mv (i 0))]
def r_185_3 : SS := [o 14 (.bin 0 .lss (t 13) (t 12))]
def r_185_4 : SS := [mV 15 13,mV 6 15]
def r_185_5 : SS := [mV 16 0,mV 17 6,iA 18 1 16 17,lD 19 18,o 20 (.conv .u64 (t 19)),mV 7 20]
def r_185_6 : SS := [mV 21 6,o 22 (.bin 0 .add (t 21) (i 1)),mV 23 0,lN 24 23,o 25 (.bin 0 .lss (t 22) (t 24))]
def r_185_7 : SS := [mV 26 7,mV 27 0,mV 28 6,o 29 (.bin 0 .add (t 28) (i 1)),iA 30 1 27 29,lD 31 30,o 32 (.conv .u64 (t 31)),o 33 (.bin 0 .shl (t 32) (.const (.int .u64 32))),o 34 (.bin 0 .or (t 26) (t 33)),mV 7 34]
def r_185_8 : SS := [mV 35 5,mV 36 6,mV 37 7,mV 38 1,o 39 (.bin 0 .shr (t 37) (t 38)),o 40 (.call f_125 [(t 39)] true),iA 41 1 35 36,
  ⟨none, none, .store 1 (t 41) (t 40)⟩]
def r_185_9 : SS := [o 42 (.bin 0 .add (t 13) (i 1)),mV 13 42]
def r_185_10 : SS := [mV 43 5,mV 4 43]
def s_185 : SF := ⟨2, 44, [.tmp 4],
  (qS (gR r_185_0) (qS (gR r_185_1) (qS (qS (gR r_185_2) (.block 0 (.loop (qS (gR r_185_3) (qS (.cond (t 14) .skip (.exit 0)) (qS (.block 1 (qS (gR r_185_4) (qS (gR r_185_5) (qS (qS (gR r_185_6) (.cond (t 25) (gR r_185_7) .skip)) (gR r_185_8))))) (gR r_185_9))))))) (qS (gR r_185_10) .ret))))⟩

def r_201_0 : SS := [o 5 (.box T_simplex_all (t 0)),o 6 (.box T_api_Int (t 1)),o 7 (.box T_api_Int (t 2)),o 8 (.box T_api_Int (t 3)),o 9 (.box T_api_Int (t 4)),o 10 (.mv (i 0))]
def r_201_1 : SS := [lA 11 2 6,lA 12 2 7,o 13 (.call f_89 [(t 11), (t 12)] false),lA 14 2 8,lA 15 2 9,o 16 (.call f_89 [(t 14), (t 15)] true),o 17 (.call f_127 [(t 13), (t 16)] true),mV 10 17]
def s_201 : SF := ⟨5, 18, [.tmp 10],
  (qS (gR r_201_0) (qS (.draw r_201_1 [0, 0, 3, 0, 0, 31, 63, 127] []) .ret))⟩

def r_202_0 : SS := [o 2 (.box T_simplex_all (t 0)),o 3 (.box T_api_Int (t 1)),o 4 (.alloc T_api_Int [(.bool false), (.slice none 0 0)])]
def r_202_1 : SS := [lA 5 2 3,o 6 (.call f_151 [(t 5)] true),
  ⟨none, none, .store 2 (t 4) (t 6)⟩]
def s_202 : SF := ⟨2, 7, [.cell 4 true 2],
  (qS (gR r_202_0) (qS (gR r_202_1) .ret))⟩

def r_203_0 : SS := [o 2 (.box T_simplex_all (t 0)),o 3 (.box T_api_Int (t 1)),o 4 (.alloc T_api_Int [(.bool false), (.slice none 0 0)])]
def r_203_1 : SS := [lA 5 2 3,
  ⟨none, none, .store 2 (t 4) (t 5)⟩]
def s_203 : SF := ⟨2, 6, [.cell 4 true 2],
  (qS (gR r_203_0) (qS (gR r_203_1) .ret))⟩

def r_204_0 : SS := [o 2 (.box T_simplex_all (t 0)),o 3 (.box T_api_Int (t 1)),o 4 (.alloc T_api_Int [(.bool false), (.slice none 0 0)])]
def r_204_1 : SS := [lA 5 2 3,
  ⟨none, none, .store 2 (t 4) (t 5)⟩]
def s_204 : SF := ⟨2, 6, [.cell 4 true 2],
  (qS (gR r_204_0) (qS (gR r_204_1) .ret))⟩

def r_205_0 : SS := [o 2 (.box T_simplex_all (t 0)),o 3 (.box T_api_Int (t 1)),o 4 (.mv (i 0))]
def r_205_1 : SS := [lA 5 2 3,o 6 (.build [(.bool false), (.slice none 0 0)] []),o 7 (.call f_127 [(t 5), (t 6)] true),mV 4 7]
def s_205 : SF := ⟨2, 8, [.tmp 4],
  (qS (gR r_205_0) (qS (gR r_205_1) .ret))⟩

def r_206_0 : SS := [o 6 (.box T_simplex_all (t 0)),o 7 (.box T_api_Int (t 1)),o 8 (.box T_api_Int (t 2)),o 9 (.box T_api_Int (t 3)),o 10 (.box T_api_Int (t 4)),o 11 (.box T_api_Int (t 5)),o 12 (.alloc T_api_Int [(.bool false), (.slice none 0 0)])]
def r_206_1 : SS := [lA 17 2 7,lA 18 2 8,o 19 (.call f_89 [(t 17), (t 18)] false),lA 20 2 9,lA 21 2 10,o 22 (.call f_89 [(t 20), (t 21)] false),o 23 (.call f_207 [(t 19), (t 22)] false),lA 24 2 11,o 25 (.call f_152 [(t 23), (t 24)] false),mV 16 25,o 26 (.ext (t 16) 0),o 27 (.ext (t 16) 1),o 28 (.ext (t 16) 2),o 13 (.alloc T_api_Int [(.bool false), (.slice none 0 0)]),o 14 (.alloc T_api_Int [(.bool false), (.slice none 0 0)]),
  ⟨none, none, .store 2 (t 13) (t 26)⟩,
  ⟨none, none, .store 2 (t 14) (t 27)⟩,mV 15 28]
def r_206_2 : SS := [lA 29 2 13,
  ⟨none, none, .store 2 (t 12) (t 29)⟩]
def s_206 : SF := ⟨6, 30, [.cell 12 true 2],
  (qS (gR r_206_0) (qS (.draw r_206_1 [0, 0, 3, 0, 0, 31, 63, 0, 255, 511, 1023, 1023, 1023, 0, 0, 26623, 61439, 131071] []) (qS (gR r_206_2) .ret)))⟩

def r_207_0 : SS := [o 2 (.box T_api_Int (t 0)),o 3 (.box T_api_Int (t 1)),o 4 (.alloc T_api_Int [(.bool false), (.slice none 0 0)])]
def r_207_1 : SS := [lA 5 2 2,lA 6 2 3,o 7 (.call f_151 [(t 6)] false),o 8 (.call f_88 [(t 5), (t 7)] true),
  ⟨none, none, .store 2 (t 4) (t 8)⟩]
def s_207 : SF := ⟨2, 9, [.cell 4 true 2],
  (qS (gR r_207_0) (qS (.draw r_207_1 [0, 0, 2, 7, 15] []) .ret))⟩

def r_208_0 : SS := [o 5 (.box T_simplex_few (t 0)),o 10 (.mv (i 0))]
def r_208_1 : SS := [mV 11 1,mV 12 2,o 13 (.bin 0 .mul (t 11) (t 12)),mV 14 3,mV 15 4,o 16 (.bin 0 .mul (t 14) (t 15)),o 17 (.call f_214 [(t 13), (t 16)] true),mV 10 17]
def s_208 : SF := ⟨5, 18, [.tmp 10],
  (qS (gR r_208_0) (qS (gR r_208_1) .ret))⟩

def r_209_0 : SS := [o 2 (.box T_simplex_few (t 0)),o 4 (.mv (i 0))]
def r_209_1 : SS := [mV 5 1,o 6 (.un .neg (t 5)),mV 4 6]
def s_209 : SF := ⟨2, 7, [.tmp 4],
  (qS (gR r_209_0) (qS (gR r_209_1) .ret))⟩

def r_210_0 : SS := [o 2 (.box T_simplex_few (t 0)),o 4 (.alloc T_api_Int [(.bool false), (.slice none 0 0)])]
def r_210_1 : SS := [mV 5 1,o 6 (.call f_126 [(t 5)] true),
  ⟨none, none, .store 2 (t 4) (t 6)⟩]
def s_210 : SF := ⟨2, 7, [.cell 4 true 2],
  (qS (gR r_210_0) (qS (gR r_210_1) .ret))⟩

def r_211_0 : SS := [o 2 (.box T_simplex_few (t 0)),o 3 (.box T_api_Int (t 1)),o 4 (.mv (i 0))]
def r_211_1 : SS := [lA 8 2 3,o 9 (.call f_215 [(t 8)] true),mV 7 9,o 10 (.ext (t 7) 0),o 11 (.ext (t 7) 1),mV 5 10,mV 6 11]
def r_211_2 : SS := [mV 12 6,o 13 (.un .not (t 12))]
def r_211_3 : SS := [o 14 (.build [] []),o 15 (.iface T_simplex_wide (t 14)),
  ⟨none, none, .pan (t 15)⟩]
def r_211_4 : SS := [mV 16 5,o 17 (.call f_216 [(t 16)] true),mV 4 17]
def s_211 : SF := ⟨2, 18, [.tmp 4],
  (qS (gR r_211_0) (qS (gR r_211_1) (qS (qS (gR r_211_2) (.cond (t 13) (gR r_211_3) .skip)) (qS (gR r_211_4) .ret))))⟩

def r_212_0 : SS := [o 2 (.box T_simplex_few (t 0)),o 4 (.mv (i 0))]
def r_212_1 : SS := [mV 5 1,o 6 (.call f_214 [(t 5), (i 0)] true),mV 4 6]
def s_212 : SF := ⟨2, 7, [.tmp 4],
  (qS (gR r_212_0) (qS (gR r_212_1) .ret))⟩

def r_213_0 : SS := [o 6 (.box T_simplex_few (t 0)),o 12 (.mv (i 0))]
def r_213_1 : SS := [mV 13 1,mV 14 2,o 15 (.bin 0 .mul (t 13) (t 14)),mV 16 3,mV 17 4,o 18 (.bin 0 .mul (t 16) (t 17)),o 19 (.bin 0 .sub (t 15) (t 18)),mV 20 5,o 21 (.bin 0 .quo (t 19) (t 20)),o 22 (.call f_216 [(t 21)] true),mV 12 22]
def s_213 : SF := ⟨6, 23, [.tmp 12],
  (qS (gR r_213_0) (qS (gR r_213_1) .ret))⟩

def r_214_0 : SS := [o 4 (.mv (i 0))]
def r_214_1 : SS := [mV 6 0,mV 7 1,o 8 (.bin 0 .lss (t 6) (t 7)),mV 5 8]
def r_214_2 : SS := [o 4 (.mv (.const (.int .i64 (-1))))]
def r_214_3 : SS := [mV 10 0,mV 11 1,o 12 (.bin 0 .gtr (t 10) (t 11)),mV 9 12]
def r_214_4 : SS := [o 4 (.mv (i 1))]
def r_214_5 : SS := [o 4 (.mv (i 0))]
def s_214 : SF := ⟨2, 13, [.tmp 4],
  (qS (gR r_214_0) (qS (.block 0 (qS (gR r_214_1) (.cond (t 5) (qS (gR r_214_2) .ret) (qS (gR r_214_3) (.cond (t 9) (qS (gR r_214_4) .ret) .skip))))) (qS (gR r_214_5) .ret)))⟩

def r_215_0 : SS := [o 1 (.box T_api_Int (t 0)),o 2 (.mv (i 0)),o 3 (.mv (.const (.bool false)))]
def r_215_1 : SS := [lA 8 2 1,o 9 (.call f_119 [(t 8)] true),mV 4 9]
def r_215_2 : SS := [mV 10 4,lN 11 10,o 12 (.bin 0 .gtr (t 11) (i 2))]
def r_215_3 : SS := [o 2 (.mv (i 0)),o 3 (.mv (.const (.bool false)))]
def r_215_4 : SS := [o 5 (.mv (.const (.int .u64 0)))]
def r_215_5 : SS := [mV 13 4,lN 14 13,o 15 (.mv (i 0))]
def r_215_6 : SS := [o 16 (.bin 0 .lss (t 15) (t 14))]
def r_215_7 : SS := [mV 17 15,iA 18 1 13 15,lD 19 18,mV 6 17,mV 7 19]
def r_215_8 : SS := [mV 20 5,mV 21 7,o 22 (.conv .u64 (t 21)),mV 23 6,o 24 (.bin 0 .mul (i 32) (t 23)),o 25 (.bin 0 .shl (t 22) (t 24)),o 26 (.bin 0 .or (t 20) (t 25)),mV 5 26]
def r_215_9 : SS := [o 27 (.bin 0 .add (t 15) (i 1)),mV 15 27]
def r_215_10 : SS := [lA 29 2 1,o 30 (.call f_120 [(t 29)] true),mV 31 30,og 32 31 true (.mv (t 5)),og 33 31 true (.bin 0 .leq (t 32) (.const (.int .u64 9223372036854775808))),o 34 (.pick (t 31) (t 33) (.const (.bool false))),mV 28 34]
def r_215_11 : SS := [mV 35 5,o 36 (.un .neg (t 35)),o 37 (.conv .i64 (t 36)),mV 2 37,o 3 (.mv (.const (.bool true)))]
def r_215_12 : SS := [lA 39 2 1,o 40 (.call f_120 [(t 39)] true),o 41 (.un .not (t 40)),mV 42 41,og 43 42 true (.mv (t 5)),og 44 42 true (.bin 0 .lss (t 43) (.const (.int .u64 9223372036854775808))),o 45 (.pick (t 42) (t 44) (.const (.bool false))),mV 38 45]
def r_215_13 : SS := [mV 46 5,o 47 (.conv .i64 (t 46)),mV 2 47,o 3 (.mv (.const (.bool true)))]
def r_215_14 : SS := [o 2 (.mv (i 0)),o 3 (.mv (.const (.bool false)))]
def s_215 : SF := ⟨1, 48, [.tmp 2, .tmp 3],
  (qS (gR r_215_0) (qS (gR r_215_1) (qS (qS (gR r_215_2) (.cond (t 12) (qS (gR r_215_3) .ret) .skip)) (qS (gR r_215_4) (qS (qS (gR r_215_5) (.block 0 (.loop (qS (gR r_215_6) (qS (.cond (t 16) .skip (.exit 0)) (qS (.block 1 (qS (gR r_215_7) (gR r_215_8))) (gR r_215_9))))))) (qS (.block 2 (qS (gR r_215_10) (.cond (t 28) (qS (gR r_215_11) .ret) (qS (gR r_215_12) (.cond (t 38) (qS (gR r_215_13) .ret) .skip))))) (qS (gR r_215_14) .ret)))))))⟩

def r_216_0 : SS := [o 2 (.mv (i 0))]
def r_216_1 : SS := [mV 3 0,o 4 (.bin 0 .leq (t 3) (.const (.int .i64 (-2147483648)))),mV 5 4,og 6 5 false (.mv (t 0)),og 7 5 false (.bin 0 .geq (t 6) (i 2147483648)),o 8 (.pick (t 5) (.const (.bool true)) (t 7))]
def r_216_2 : SS := [o 9 (.build [] []),o 10 (.iface T_simplex_wide (t 9)),
  ⟨none, none, .pan (t 10)⟩]
def r_216_3 : SS := [mV 11 0,mV 2 11]
def s_216 : SF := ⟨1, 12, [.tmp 2],
  (qS (gR r_216_0) (qS (qS (gR r_216_1) (.cond (t 8) (gR r_216_2) .skip)) (qS (gR r_216_3) .ret)))⟩


end Go.Proofs.YtjlohmnnldbjoaaGreat.AI

/- The small code of the program's functions: printed. -/
namespace Go.Proofs.YtjlohmnnldbjoaaGreat.AI
open Go

def codeTab : List (Nat × SFun) := [
  (f_4, s_4),
  (f_12, s_12),
  (f_13, s_13),
  (f_14, s_14),
  (f_15, s_15),
  (f_18, s_18),
  (f_19, s_19),
  (f_20, s_20),
  (f_21, s_21),
  (f_22, s_22),
  (f_23, s_23),
  (f_24, s_24),
  (f_25, s_25),
  (f_26, s_26),
  (f_27, s_27),
  (f_35, s_35),
  (f_36, s_36),
  (f_37, s_37),
  (f_38, s_38),
  (f_39, s_39),
  (f_40, s_40),
  (f_41, s_41),
  (f_45, s_45),
  (f_48, s_48),
  (f_49, s_49),
  (f_50, s_50),
  (f_51, s_51),
  (f_52, s_52),
  (f_53, s_53),
  (f_54, s_54),
  (f_55, s_55),
  (f_56, s_56),
  (f_57, s_57),
  (f_58, s_58),
  (f_59, s_59),
  (f_60, s_60),
  (f_61, s_61),
  (f_62, s_62),
  (f_63, s_63),
  (f_73, s_73),
  (f_74, s_74),
  (f_75, s_75),
  (f_76, s_76),
  (f_77, s_77),
  (f_78, s_78),
  (f_79, s_79),
  (f_81, s_81),
  (f_82, s_82),
  (f_83, s_83),
  (f_84, s_84),
  (f_85, s_85),
  (f_86, s_86),
  (f_87, s_87),
  (f_88, s_88),
  (f_89, s_89),
  (f_90, s_90),
  (f_91, s_91),
  (f_92, s_92),
  (f_93, s_93),
  (f_94, s_94),
  (f_95, s_95),
  (f_96, s_96),
  (f_97, s_97),
  (f_98, s_98),
  (f_99, s_99),
  (f_104, s_104),
  (f_105, s_105),
  (f_106, s_106),
  (f_107, s_107),
  (f_108, s_108),
  (f_109, s_109),
  (f_110, s_110),
  (f_112, s_112),
  (f_114, s_114),
  (f_115, s_115),
  (f_116, s_116),
  (f_117, s_117),
  (f_118, s_118),
  (f_119, s_119),
  (f_120, s_120),
  (f_121, s_121),
  (f_122, s_122),
  (f_123, s_123),
  (f_124, s_124),
  (f_125, s_125),
  (f_126, s_126),
  (f_127, s_127),
  (f_128, s_128),
  (f_129, s_129),
  (f_130, s_130),
  (f_131, s_131),
  (f_132, s_132),
  (f_133, s_133),
  (f_134, s_134),
  (f_135, s_135),
  (f_136, s_136),
  (f_137, s_137),
  (f_139, s_139),
  (f_140, s_140),
  (f_141, s_141),
  (f_142, s_142),
  (f_143, s_143),
  (f_144, s_144),
  (f_145, s_145),
  (f_146, s_146),
  (f_147, s_147),
  (f_148, s_148),
  (f_149, s_149),
  (f_150, s_150),
  (f_151, s_151),
  (f_152, s_152),
  (f_153, s_153),
  (f_154, s_154),
  (f_155, s_155),
  (f_156, s_156),
  (f_157, s_157),
  (f_158, s_158),
  (f_159, s_159),
  (f_160, s_160),
  (f_161, s_161),
  (f_162, s_162),
  (f_163, s_163),
  (f_164, s_164),
  (f_165, s_165),
  (f_166, s_166),
  (f_167, s_167),
  (f_168, s_168),
  (f_169, s_169),
  (f_170, s_170),
  (f_171, s_171),
  (f_172, s_172),
  (f_173, s_173),
  (f_174, s_174),
  (f_175, s_175),
  (f_176, s_176),
  (f_177, s_177),
  (f_178, s_178),
  (f_179, s_179),
  (f_180, s_180),
  (f_181, s_181),
  (f_182, s_182),
  (f_183, s_183),
  (f_184, s_184),
  (f_185, s_185),
  (f_201, s_201),
  (f_202, s_202),
  (f_203, s_203),
  (f_204, s_204),
  (f_205, s_205),
  (f_206, s_206),
  (f_207, s_207),
  (f_208, s_208),
  (f_209, s_209),
  (f_210, s_210),
  (f_211, s_211),
  (f_212, s_212),
  (f_213, s_213),
  (f_214, s_214),
  (f_215, s_215),
  (f_216, s_216)]

def awakeTab : List (Nat × SFun) := [(f_17, s_17)]

def env : Env := ⟨fun f => codeTab.lookup f, some ⟨f_111, f_139, [(.int .i64 0), (.bool false), (.slice none 0 0), (.bool false), (.slice none 0 0), (.slice none 0 0), (.slice none 0 0), (.slice none 0 0)], 4, 8⟩, [(f_17, .bool true)]⟩

theorem e_4 : env.code f_4 = some s_4 := rfl
theorem e_12 : env.code f_12 = some s_12 := rfl
theorem e_14 : env.code f_14 = some s_14 := rfl
theorem e_18 : env.code f_18 = some s_18 := rfl
theorem e_19 : env.code f_19 = some s_19 := rfl
theorem e_20 : env.code f_20 = some s_20 := rfl
theorem e_21 : env.code f_21 = some s_21 := rfl
theorem e_22 : env.code f_22 = some s_22 := rfl
theorem e_23 : env.code f_23 = some s_23 := rfl
theorem e_24 : env.code f_24 = some s_24 := rfl
theorem e_25 : env.code f_25 = some s_25 := rfl
theorem e_27 : env.code f_27 = some s_27 := rfl
theorem e_38 : env.code f_38 = some s_38 := rfl
theorem e_39 : env.code f_39 = some s_39 := rfl
theorem e_41 : env.code f_41 = some s_41 := rfl
theorem e_45 : env.code f_45 = some s_45 := rfl
theorem e_48 : env.code f_48 = some s_48 := rfl
theorem e_49 : env.code f_49 = some s_49 := rfl
theorem e_50 : env.code f_50 = some s_50 := rfl
theorem e_51 : env.code f_51 = some s_51 := rfl
theorem e_52 : env.code f_52 = some s_52 := rfl
theorem e_53 : env.code f_53 = some s_53 := rfl
theorem e_54 : env.code f_54 = some s_54 := rfl
theorem e_55 : env.code f_55 = some s_55 := rfl
theorem e_56 : env.code f_56 = some s_56 := rfl
theorem e_57 : env.code f_57 = some s_57 := rfl
theorem e_58 : env.code f_58 = some s_58 := rfl
theorem e_59 : env.code f_59 = some s_59 := rfl
theorem e_60 : env.code f_60 = some s_60 := rfl
theorem e_61 : env.code f_61 = some s_61 := rfl
theorem e_62 : env.code f_62 = some s_62 := rfl
theorem e_63 : env.code f_63 = some s_63 := rfl
theorem e_73 : env.code f_73 = some s_73 := rfl
theorem e_74 : env.code f_74 = some s_74 := rfl
theorem e_75 : env.code f_75 = some s_75 := rfl
theorem e_76 : env.code f_76 = some s_76 := rfl
theorem e_79 : env.code f_79 = some s_79 := rfl
theorem e_81 : env.code f_81 = some s_81 := rfl
theorem e_82 : env.code f_82 = some s_82 := rfl
theorem e_83 : env.code f_83 = some s_83 := rfl
theorem e_84 : env.code f_84 = some s_84 := rfl
theorem e_85 : env.code f_85 = some s_85 := rfl
theorem e_86 : env.code f_86 = some s_86 := rfl
theorem e_87 : env.code f_87 = some s_87 := rfl
theorem e_88 : env.code f_88 = some s_88 := rfl
theorem e_89 : env.code f_89 = some s_89 := rfl
theorem e_90 : env.code f_90 = some s_90 := rfl
theorem e_91 : env.code f_91 = some s_91 := rfl
theorem e_92 : env.code f_92 = some s_92 := rfl
theorem e_93 : env.code f_93 = some s_93 := rfl
theorem e_94 : env.code f_94 = some s_94 := rfl
theorem e_95 : env.code f_95 = some s_95 := rfl
theorem e_96 : env.code f_96 = some s_96 := rfl
theorem e_97 : env.code f_97 = some s_97 := rfl
theorem e_98 : env.code f_98 = some s_98 := rfl
theorem e_99 : env.code f_99 = some s_99 := rfl
theorem e_104 : env.code f_104 = some s_104 := rfl
theorem e_105 : env.code f_105 = some s_105 := rfl
theorem e_106 : env.code f_106 = some s_106 := rfl
theorem e_107 : env.code f_107 = some s_107 := rfl
theorem e_114 : env.code f_114 = some s_114 := rfl
theorem e_115 : env.code f_115 = some s_115 := rfl
theorem e_116 : env.code f_116 = some s_116 := rfl
theorem e_117 : env.code f_117 = some s_117 := rfl
theorem e_118 : env.code f_118 = some s_118 := rfl
theorem e_119 : env.code f_119 = some s_119 := rfl
theorem e_120 : env.code f_120 = some s_120 := rfl
theorem e_121 : env.code f_121 = some s_121 := rfl
theorem e_122 : env.code f_122 = some s_122 := rfl
theorem e_123 : env.code f_123 = some s_123 := rfl
theorem e_124 : env.code f_124 = some s_124 := rfl
theorem e_125 : env.code f_125 = some s_125 := rfl
theorem e_126 : env.code f_126 = some s_126 := rfl
theorem e_127 : env.code f_127 = some s_127 := rfl
theorem e_128 : env.code f_128 = some s_128 := rfl
theorem e_129 : env.code f_129 = some s_129 := rfl
theorem e_130 : env.code f_130 = some s_130 := rfl
theorem e_131 : env.code f_131 = some s_131 := rfl
theorem e_132 : env.code f_132 = some s_132 := rfl
theorem e_133 : env.code f_133 = some s_133 := rfl
theorem e_134 : env.code f_134 = some s_134 := rfl
theorem e_147 : env.code f_147 = some s_147 := rfl
theorem e_148 : env.code f_148 = some s_148 := rfl
theorem e_149 : env.code f_149 = some s_149 := rfl
theorem e_150 : env.code f_150 = some s_150 := rfl
theorem e_151 : env.code f_151 = some s_151 := rfl
theorem e_152 : env.code f_152 = some s_152 := rfl
theorem e_153 : env.code f_153 = some s_153 := rfl
theorem e_154 : env.code f_154 = some s_154 := rfl
theorem e_155 : env.code f_155 = some s_155 := rfl
theorem e_156 : env.code f_156 = some s_156 := rfl
theorem e_172 : env.code f_172 = some s_172 := rfl
theorem e_173 : env.code f_173 = some s_173 := rfl
theorem e_174 : env.code f_174 = some s_174 := rfl
theorem e_182 : env.code f_182 = some s_182 := rfl
theorem e_183 : env.code f_183 = some s_183 := rfl
theorem e_184 : env.code f_184 = some s_184 := rfl
theorem e_185 : env.code f_185 = some s_185 := rfl
end Go.Proofs.YtjlohmnnldbjoaaGreat.AI

/- Slices of whole numbers, numbers, quotients in the abstract heap; functions that leave alone what was there. -/
namespace Go.Proofs.YtjlohmnnldbjoaaGreat.AI
open Go

variable {E : Env} {fl : Nat} {t : Tmps} {H G : Heap} {K : PostV} {R : PostP}

def Sl (H : Heap) (e sz : Nat) (v : Value) (n : Nat) (cs : List Value) : Prop :=
  cs.length = n * sz ∧ ((v = .slice none 0 0 ∧ n = 0) ∨
    ∃ b off cap ro cells, v = .slice (some ⟨b, off, none⟩) n cap ∧ H.blk b = .row ro e cells ∧ off + n * sz ≤ cells.length ∧ cs = (cells.drop off).take (n * sz))

variable {e sz n : Nat} {v : Value} {cs : List Value}

theorem Sl.mono (h : Sl H e sz v n cs) (hx : Ext H G) : Sl G e sz v n cs := by
  obtain ⟨hl, h⟩ := h
  refine ⟨hl, ?_⟩
  rcases h with h | ⟨b, off, cap, ro, cells, h1, h2, h3, h4⟩
  · exact .inl h
  · exact .inr ⟨b, off, cap, ro, cells, h1, hx.blk h2, h3, h4⟩

theorem Sl.nil : Sl H e sz (.slice none 0 0) 0 [] := ⟨by simp, .inl ⟨rfl, rfl⟩⟩

theorem Sl.slen (h : Sl H e sz v n cs) : slenV v = some (.int .i64 n) := by
  obtain ⟨_, ⟨rfl, rfl⟩ | ⟨b, off, cap, ro, cells, rfl, _⟩⟩ := h <;> simp [slenV]

theorem Sl.ia (h : Sl H e sz v n cs) {k : IntKind} {j : Nat} (hj : j < n) : iaV sz v (.int k j) = some (adr sz v j) := by
  obtain ⟨_, ⟨rfl, rfl⟩ | ⟨b, off, cap, ro, cells, rfl, _⟩⟩ := h
  · omega
  · simp only [iaV, adr]; rw [if_pos (by omega)]; simp

theorem Sl.iaZ (h : Sl H e sz v n cs) {k : IntKind} {z : Int} (h0 : 0 ≤ z) (hj : z < n) : iaV sz v (.int k z) = some (adr sz v z.toNat) := by
  have := h.ia (k := k) (j := z.toNat) (by omega)
  rwa [Int.toNat_of_nonneg h0] at this

theorem Sl.load (h : Sl H e sz v n cs) (hx : Ext H G) {j : Nat} (hj : j < n) (hs : 0 < sz) : loadA G true sz (adr sz v j) = some (.agg ((cs.drop (j * sz)).take sz).toArray) := by
  obtain ⟨hl, ⟨rfl, rfl⟩ | ⟨b, off, cap, ro, cells, rfl, hb, ho, rfl⟩⟩ := h
  · omega
  · have hj2 : (j + 1) * sz ≤ n * sz := Nat.mul_le_mul_right sz hj
    rw [Nat.add_mul, Nat.one_mul] at hj2
    have hc := cells_of (off := off + j * sz) (n := sz) (hx.blk hb) (by omega)
    simp only [adr, loadA]
    rw [if_neg (by omega), if_neg (by simp)]
    simp only [if_true, hc]
    rw [List.drop_take, List.take_take, List.drop_drop, Nat.min_eq_left (by omega)]

theorem Sl.load1 (h : Sl H e 1 v n cs) (hx : Ext H G) {j : Nat} (hj : j < n) : loadA G false 1 (adr 1 v j) = some (cs.getD j undef) := by
  obtain ⟨hl, ⟨rfl, rfl⟩ | ⟨b, off, cap, ro, cells, rfl, hb, ho, rfl⟩⟩ := h
  · omega
  · have hc := cells_of (off := off + j * 1) (n := 1) (hx.blk hb) (by omega)
    simp only [adr, loadA]
    rw [if_neg (by simp), if_neg (by simp)]
    simp only [hc, Bool.false_eq_true, if_false]
    rw [List.head?_take, if_neg (by simp), List.head?_drop, List.getD_eq_getElem?_getD, List.getElem?_take, if_pos (by omega), List.getElem?_drop]
    simp only [Nat.mul_one] at ho ⊢
    rw [List.getElem?_eq_getElem (by omega)]
    rfl

theorem Sl.elemOk (h : Sl H e sz v n cs) {G : Heap} (hx : Ext H G) : AI.elemOk G e v = true := by
  obtain ⟨hl, ⟨rfl, rfl⟩ | ⟨b, off, cap, ro, cells, rfl, hb, ho, rfl⟩⟩ := h
  · rfl
  · unfold AI.elemOk
    simp only [hx.blk hb]
    cases ro <;> simp
theorem Sl.cells (h : Sl H e sz v n cs) : cellsL v = [v] := by
  obtain ⟨hl, ⟨rfl, rfl⟩ | ⟨b, off, cap, ro, cells, rfl, hb, ho, rfl⟩⟩ := h <;> rfl
theorem Sl.plain (h : Sl H e sz v n cs) : plainCell v = true := by
  obtain ⟨hl, ⟨rfl, rfl⟩ | ⟨b, off, cap, ro, cells, rfl, hb, ho, rfl⟩⟩ := h <;> rfl
theorem Sl.slice (h : Sl H e sz v n cs) {lo hi : Nat} (h1 : lo ≤ hi) (h2 : hi ≤ n) {x y : Option Value} (hx : bnd 0 x = some lo) (hy : bnd n y = some hi) :
    ∃ v', sliceA sz v x y none = some v' ∧ Sl H e sz v' (hi - lo) ((cs.drop (lo * sz)).take ((hi - lo) * sz)) := by
  obtain ⟨hl, ⟨rfl, rfl⟩ | ⟨b, off, cap, ro, cells, rfl, hb, ho, rfl⟩⟩ := h
  · have : lo = 0 := by omega
    have : hi = 0 := by omega
    subst lo hi
    refine ⟨.slice none 0 0, ?_, by simp, .inl ⟨rfl, rfl⟩⟩
    unfold sliceA; simp [hx, hy]; intro h; exact absurd h (by decide)
  · refine ⟨_, by unfold sliceA; simp only [hx, hy]; rw [if_pos ⟨h1, h2⟩]; rfl, ?_, .inr ⟨b, off + lo * sz, _, ro, cells, rfl, hb, ?_, ?_⟩⟩
    · simp only [List.length_take, List.length_drop]
      have e1 : (hi - lo) * sz + lo * sz = hi * sz := by rw [← Nat.add_mul]; congr 1; omega
      have e2 : hi * sz ≤ n * sz := Nat.mul_le_mul_right sz h2
      omega
    · have e1 : (hi - lo) * sz + lo * sz = hi * sz := by rw [← Nat.add_mul]; congr 1; omega
      have e2 : hi * sz ≤ n * sz := Nat.mul_le_mul_right sz h2
      omega
    · have e1 : (hi - lo) * sz + lo * sz = hi * sz := by rw [← Nat.add_mul]; congr 1; omega
      have e2 : hi * sz ≤ n * sz := Nat.mul_le_mul_right sz h2
      rw [List.drop_take, List.take_take, List.drop_drop, Nat.min_eq_left (by omega)]

theorem Sl.setT (h : Sl H e sz v n cs) {p : Nat} {ro : Bool} {e' : TypeId} {cs' : List Value} {r : Blk} (hb : H.blk p = .row ro e' cs') (hne : e' ≠ e) : Sl (H.setIfInBounds p r) e sz v n cs := by
  obtain ⟨hl, h | ⟨b, off, cap, ro, cells, rfl, hb', ho, rfl⟩⟩ := h
  · exact ⟨hl, .inl h⟩
  · refine ⟨hl, .inr ⟨b, off, cap, ro, cells, rfl, ?_, ho, rfl⟩⟩
    rw [blk_set_ne]; exact hb'
    rintro rfl
    rw [hb'] at hb; cases hb; exact hne rfl

/-! ### limbs -/
def u32s (l : List Nat) : List Value := l.map fun x => .int .u32 (x : Nat)
@[simp] theorem length_u32s {l : List Nat} : (u32s l).length = l.length := by simp [u32s]

def Lim (H : Heap) (v : Value) (l : List Nat) : Prop := Sl H T_uint32 1 v l.length (u32s l) ∧ ∀ x ∈ l, x < 4294967296

variable {l : List Nat}
theorem Lim.mono (h : Lim H v l) (hx : Ext H G) : Lim G v l := ⟨h.1.mono hx, h.2⟩
theorem Lim.nil : Lim H (.slice none 0 0) [] := ⟨Sl.nil, by simp⟩
theorem Lim.slen (h : Lim H v l) : slenV v = some (.int .i64 l.length) := h.1.slen
theorem Lim.ia (h : Lim H v l) {k : IntKind} {j : Nat} (hj : j < l.length) : iaV 1 v (.int k j) = some (adr 1 v j) := h.1.ia hj
theorem Lim.iaZ (h : Lim H v l) {k : IntKind} {z : Int} (h0 : 0 ≤ z) (hj : z < l.length) : iaV 1 v (.int k z) = some (adr 1 v z.toNat) := h.1.iaZ h0 hj
theorem Lim.load (h : Lim H v l) {j : Nat} (hj : j < l.length) {G : Heap} (hx : Ext H G) : loadA G false 1 (adr 1 v j) = some (.int .u32 (l.getD j 0)) := by
  rw [h.1.load1 hx hj]
  simp [u32s, List.getD_eq_getElem?_getD, List.getElem?_map, hj]

theorem Lim.setT (h : Lim H v l) {p : Nat} {ro : Bool} {e' : TypeId} {cs' : List Value} {r : Blk} (hb : H.blk p = .row ro e' cs') (hne : e' ≠ T_uint32) : Lim (H.setIfInBounds p r) v l := ⟨h.1.setT hb hne, h.2⟩
theorem Lim.elemOk (h : Lim H v l) {G : Heap} (hx : Ext H G) : AI.elemOk G T_uint32 v = true := h.1.elemOk hx
theorem Lim.cells (h : Lim H v l) : cellsL v = [v] := h.1.cells
theorem Lim.plain (h : Lim H v l) : plainCell v = true := h.1.plain
theorem Lim.take (h : Lim H v l) {k : Nat} (hk : k ≤ l.length) {x : Option Value} (hx : bnd 0 x = some 0) {y : Option Value} (hy : bnd l.length y = some k) : ∃ v', sliceA 1 v x y none = some v' ∧ Lim H v' (l.take k) := by
  obtain ⟨v', h1, h2⟩ := h.1.slice (Nat.zero_le k) hk hx hy
  refine ⟨v', h1, ?_, fun x hx => h.2 x (List.mem_of_mem_take hx)⟩
  have : (l.take k).length = k := by simp; omega
  rw [this]
  simpa [u32s, List.map_take] using h2

def IntV (H : Heap) (v : Value) (i : Bool × List Nat) : Prop := ∃ s, v = .agg #[.bool i.1, s] ∧ Lim H s i.2
theorem IntV.mono {i : Bool × List Nat} (h : IntV H v i) (hx : Ext H G) : IntV G v i := by obtain ⟨s, h1, h2⟩ := h; exact ⟨s, h1, h2.mono hx⟩

/-! ### cells of one's own -/
def rd : Blk → Nat → Option Value
  | .row _ _ cs, o => cs[o]?
  | .dead, _ => none
def rdn : Blk → Nat → Nat → Option Value
  | .row _ _ cs, o, n => if o + n ≤ cs.length then some (.agg ((cs.drop o).take n).toArray) else none
  | .dead, _, _ => none
@[simp] theorem rd_row {ro : Bool} {e : TypeId} {cs : List Value} {o : Nat} : rd (.row ro e cs) o = cs[o]? := nr rfl
@[simp] theorem rdn_row {ro : Bool} {e : TypeId} {cs : List Value} {o n : Nat} : rdn (.row ro e cs) o n = if o + n ≤ cs.length then some (.agg ((cs.drop o).take n).toArray) else none := nr rfl
theorem loadA_ptr {b o : Nat} : loadA G false 1 (.pointer (some ⟨b, o, none⟩)) = rd (G.blk b) o := by
  simp only [loadA]
  rw [if_neg (by simp), if_neg (by simp)]
  unfold Heap.cells?
  cases G.blk b with
  | dead => rfl
  | row ro e cs =>
    simp only [Bool.false_eq_true, if_false, rd]
    by_cases h : o + 1 ≤ cs.length
    · rw [if_pos h]; simp only [List.head?_take]; rw [if_neg (by simp), List.head?_drop]
    · rw [if_neg h, List.getElem?_eq_none (by omega)]
theorem loadA_ptrs {b o n : Nat} (hn : 0 < n) : loadA G true n (.pointer (some ⟨b, o, none⟩)) = rdn (G.blk b) o n := by
  simp only [loadA]
  rw [if_neg (by omega), if_neg (by simp)]
  unfold Heap.cells?
  cases G.blk b with
  | dead => rfl
  | row ro e cs =>
    simp only [if_true, rdn]
    split <;> simp_all
def wr (G : Heap) (b o : Nat) (vs : List Value) : Blk → Option Heap
  | .row false e cs => if o + vs.length ≤ cs.length then some (G.setIfInBounds b (.row false e (writeL cs o vs))) else none
  | _ => none
@[simp] theorem wr_row {b o : Nat} {vs : List Value} {e : TypeId} {cs : List Value} : wr G b o vs (.row false e cs) = if o + vs.length ≤ cs.length then some (G.setIfInBounds b (.row false e (writeL cs o vs))) else none := nr rfl
theorem storeV_ptr {b o n : Nat} {x : Value} (hf : fl ≤ b) (hl : (cellsL x).length = n) (hp : (cellsL x).all plainCell = true) :
    storeV fl G n (.pointer (some ⟨b, o, none⟩)) x = wr G b o (cellsL x) (G.blk b) := by
  simp only [storeV]
  rw [if_neg (by simp [hl])]
  unfold Heap.write? wr
  split
  · rename_i h; simp only [h]; split <;> simp_all
  · rename_i h; split <;> simp_all
theorem store_cells {b o n : Nat} {e : TypeId} {cs : List Value} {x : Value} (h : G.blk b = .row false e cs) (hf : fl ≤ b) (hl : (cellsL x).length = n) (ho : o + n ≤ cs.length) (hp : (cellsL x).all plainCell = true) :
    storeV fl G n (.pointer (some ⟨b, o, none⟩)) x = some (G.setIfInBounds b (.row false e (writeL cs o (cellsL x)))) := by
  simp only [storeV]
  rw [if_neg (by simp [hl])]
  unfold Heap.write?
  simp only [h]
  rw [if_pos ⟨hf, by omega, hp⟩]

theorem wrap64 {x : Int} (h1 : -9223372036854775808 ≤ x) (h2 : x < 9223372036854775808) : IntKind.i64.wrap x = x := by
  show (if (true && decide (x % (2 ^ 64 : Int) ≥ (2 ^ 63 : Int))) = true then x % (2 ^ 64 : Int) - (2 ^ 64 : Int) else x % (2 ^ 64 : Int)) = x
  rw [show (2 ^ 64 : Int) = 18446744073709551616 from rfl, show (2 ^ 63 : Int) = 9223372036854775808 from rfl]
  simp only [Bool.true_and, decide_eq_true_eq]
  split <;> omega
theorem wrapu64 {x : Int} : IntKind.u64.wrap x = x % 18446744073709551616 := by
  simp [IntKind.wrap, IntKind.bits, IntKind.signed]
theorem wrapu32 {x : Int} : IntKind.u32.wrap x = x % 4294967296 := by
  simp [IntKind.wrap, IntKind.bits, IntKind.signed]

def resP (H : Heap) (t : Tmps) (rs : List SRes) (P : Value → Prop) : Prop := ∃ vs, resAll H t rs = some vs ∧ P (packRes vs)
theorem resP_tmp {a : Nat} {P : Value → Prop} : resP H t [.tmp a] P = P (get t a) := by simp [resP, resAll, resA, packRes]
theorem resP_cell {a n : Nat} {g : Bool} {P : Value → Prop} : resP H t [.cell a g n] P = oo (loadA H g n (get t a)) P := by
  unfold resP; simp only [resAll, resA]; cases loadA H g n (get t a) <;> simp [packRes]
theorem resP_two {r1 r2 : SRes} {P : Value → Prop} : resP H t [r1, r2] P = oo (resA H t r1) fun a => oo (resA H t r2) fun b => P (.tuple #[a, b]) := by
  unfold resP; simp only [resAll]; cases resA H t r1 <;> cases resA H t r2 <;> simp [packRes]
theorem resP_three {r1 r2 r3 : SRes} {P : Value → Prop} : resP H t [r1, r2, r3] P = oo (resA H t r1) fun a => oo (resA H t r2) fun b => oo (resA H t r3) fun c => P (.tuple #[a, b, c]) := by
  unfold resP; simp only [resAll]; cases resA H t r1 <;> cases resA H t r2 <;> cases resA H t r3 <;> simp [packRes]
theorem resA_tmp {a : Nat} : resA H t (.tmp a) = some (get t a) := nr rfl
theorem resA_cell {a n : Nat} {g : Bool} : resA H t (.cell a g n) = loadA H g n (get t a) := nr rfl

def endQ (P : Tmps → Heap → Prop) : PostX
  | .exit _, _, _ => False
  | .normal, t, H => P t H
  | .ret, t, H => P t H
@[simp] theorem endQ_normal {P : Tmps → Heap → Prop} : endQ P .normal t H = P t H := nr rfl
@[simp] theorem endQ_ret {P : Tmps → Heap → Prop} : endQ P .ret t H = P t H := nr rfl

theorem does_ext {f : FuncId} {args : List Value} {sf : SFun} (hc : E.code f = some sf) (hf : fl ≤ H.size) (hl : args.length = sf.np := by rfl) (hnt : args.length ≤ sf.nt := by exact of_decide_eq_true rfl)
    (h : ∀ ρ : Nat → Value, (∀ i, ρ i = args.getD i undef) → W E H.size sf.body (T sf.nt ρ) H (endQ (fun t' H' => resP H' t' sf.res fun v => Ext H H' → K v H')) R) :
    Does E fl f args H (fun v H' => K v H' ∧ Ext H H') R := by
  have h1 := (does_fun (K := fun v H' => Ext H H' → K v H') hc hl hnt (fun t h1 h2 => by
    have h3 := h (get t) h2
    rw [← T_get h1] at h3
    refine h3.mono fun e t' H' hq => ?_
    cases e with
    | exit i => exact absurd hq id
    | normal => exact ⟨trivial, hq⟩
    | ret => exact ⟨trivial, hq⟩)).keep (Nat.le_refl _)
  exact (h1.mono fun v H' hh => ⟨hh.1 hh.2.ext, hh.2.ext⟩).floor hf

end Go.Proofs.YtjlohmnnldbjoaaGreat.AI

/- The set of rules that simp runs code by. -/
namespace Go.Proofs.YtjlohmnnldbjoaaGreat.AI
open Go

section
variable {k : IntKind} {a b : Int} {tag : Nat}
@[simp] theorem binA_add : binA tag .add (.int k a) (.int k b) = some (.int k (k.wrap (a + b))) := by unfold binA; simp
@[simp] theorem binA_sub : binA tag .sub (.int k a) (.int k b) = some (.int k (k.wrap (a - b))) := by unfold binA; simp
@[simp] theorem binA_mul : binA tag .mul (.int k a) (.int k b) = some (.int k (k.wrap (a * b))) := by unfold binA; simp
theorem binA_quo (h : b ≠ 0) : binA tag .quo (.int k a) (.int k b) = some (.int k (k.wrap (a.tdiv b))) := by unfold binA; simp [h]
theorem binA_rem (h : b ≠ 0) : binA tag .rem (.int k a) (.int k b) = some (.int k (a.tmod b)) := by unfold binA; simp [h]
@[simp] theorem binA_and : binA tag .and (.int k a) (.int k b) = some (.int k (k.wrap (BitVec.ofInt k.bits a &&& BitVec.ofInt k.bits b).toNat)) := by unfold binA; simp
@[simp] theorem binA_or : binA tag .or (.int k a) (.int k b) = some (.int k (k.wrap (BitVec.ofInt k.bits a ||| BitVec.ofInt k.bits b).toNat)) := by unfold binA; simp
@[simp] theorem binA_eql : binA tag .eql (.int k a) (.int k b) = some (.bool (a == b)) := by unfold binA; simp
@[simp] theorem binA_neq : binA tag .neq (.int k a) (.int k b) = some (.bool (a != b)) := by unfold binA; simp
@[simp] theorem binA_lss : binA tag .lss (.int k a) (.int k b) = some (.bool (decide (a < b))) := by unfold binA; simp
@[simp] theorem binA_leq : binA tag .leq (.int k a) (.int k b) = some (.bool (decide (a ≤ b))) := by unfold binA; simp
@[simp] theorem binA_gtr : binA tag .gtr (.int k a) (.int k b) = some (.bool (decide (a > b))) := by unfold binA; simp
@[simp] theorem binA_geq : binA tag .geq (.int k a) (.int k b) = some (.bool (decide (a ≥ b))) := by unfold binA; simp
@[simp] theorem binA_eqlB {x y : Bool} : binA 1 .eql (.bool x) (.bool y) = some (.bool (x == y)) := by unfold binA; simp
@[simp] theorem binA_neqB {x y : Bool} : binA 1 .neq (.bool x) (.bool y) = some (.bool (x != y)) := by unfold binA; simp
@[simp] theorem binA_eqlS {x : Option Addr} {n c n2 c2 : Nat} : binA 2 .eql (.slice x n c) (.slice none n2 c2) = some (.bool x.isNone) := nr rfl
@[simp] theorem binA_neqS {x : Option Addr} {n c n2 c2 : Nat} : binA 2 .neq (.slice x n c) (.slice none n2 c2) = some (.bool x.isSome) := nr rfl
theorem binA_shl {k' : IntKind} (h : 0 ≤ b) : binA tag .shl (.int k a) (.int k' b) = some (.int k (k.wrap (a * 2 ^ (min b.toNat k.bits)))) := by unfold binA; simp [h]
theorem binA_shr {k' : IntKind} (h : 0 ≤ b) : binA tag .shr (.int k a) (.int k' b) = some (.int k (a.fdiv (2 ^ (min b.toNat k.bits)))) := by unfold binA; simp [h]
theorem fdivN {n m : Nat} : ((n : Int).fdiv (m : Int)) = ((n / m : Nat) : Int) := by
  rw [Int.fdiv_eq_ediv_of_nonneg _ (by omega)]; rfl
@[simp] theorem shr32 {n : Nat} {k' : IntKind} : binA tag .shr (.int .u64 (n : Int)) (.int k' 32) = some (.int .u64 ((n / 4294967296 : Nat) : Int)) := by
  rw [binA_shr (by omega)]; exact congrArg (fun x => some (Value.int .u64 x)) (fdivN (n := n) (m := 4294967296))
@[simp] theorem shr63 {n : Nat} {k' : IntKind} : binA tag .shr (.int .u64 (n : Int)) (.int k' 63) = some (.int .u64 ((n / 9223372036854775808 : Nat) : Int)) := by
  rw [binA_shr (by omega)]; exact congrArg (fun x => some (Value.int .u64 x)) (fdivN (n := n) (m := 9223372036854775808))
@[simp] theorem unA_neg : unA .neg (.int k a) = some (.int k (k.wrap (0 - a))) := nr rfl
@[simp] theorem unA_not {x : Bool} : unA .not (.bool x) = some (.bool !x) := nr rfl
end

@[simp] theorem cast_beq {a b : Nat} : ((a : Int) == (b : Int)) = (a == b) := by
  rw [Bool.eq_iff_iff, beq_iff_eq, beq_iff_eq]; omega
@[simp] theorem cast_bne {a b : Nat} : ((a : Int) != (b : Int)) = (a != b) := by simp only [bne, cast_beq]
@[simp] theorem cast_beq0 {a : Nat} : ((a : Int) == 0) = (a == 0) := by
  rw [Bool.eq_iff_iff, beq_iff_eq, beq_iff_eq]; omega
@[simp] theorem cast_bne0 {a : Nat} : ((a : Int) != 0) = (a != 0) := by simp only [bne, cast_beq0]

@[simp] theorem cells_agg {a : Array Value} : cellsL (.agg a) = a.toList := nr rfl
@[simp] theorem cells_int {k : IntKind} {n : Int} : cellsL (.int k n) = [.int k n] := nr rfl
@[simp] theorem cells_bool {b : Bool} : cellsL (.bool b) = [.bool b] := nr rfl
@[simp] theorem cells_slice {a : Option Addr} {n c : Nat} : cellsL (.slice a n c) = [.slice a n c] := nr rfl
@[simp] theorem cells_ptr {a : Option Addr} : cellsL (.pointer a) = [.pointer a] := nr rfl
@[simp] theorem plain_int {k : IntKind} {n : Int} : plainCell (.int k n) = true := nr rfl
@[simp] theorem plain_bool {b : Bool} : plainCell (.bool b) = true := nr rfl
@[simp] theorem plain_slice {a : Option Addr} {n c : Nat} : plainCell (.slice a n c) = true := nr rfl
@[simp] theorem plain_ptr {a : Option Addr} : plainCell (.pointer a) = true := nr rfl
@[simp] theorem bnd_none {d : Nat} : bnd d none = some d := nr rfl
@[simp] theorem bnd_int {d n : Nat} {k : IntKind} : bnd d (some (.int k (n : Int))) = some n := by simp [bnd]
@[simp] theorem add_2 {n : Nat} : n + 1 + 1 = n + 2 := by omega
@[simp] theorem add_3 {n : Nat} : n + 2 + 1 = n + 3 := by omega
@[simp] theorem add_4 {n : Nat} : n + 3 + 1 = n + 4 := by omega
@[simp] theorem add_5 {n : Nat} : n + 4 + 1 = n + 5 := by omega
@[simp] theorem add_6 {n : Nat} : n + 5 + 1 = n + 6 := by omega
@[simp] theorem add_1_2 {n : Nat} : n + 1 + 2 = n + 3 := by omega
@[simp] theorem add_1_3 {n : Nat} : n + 1 + 3 = n + 4 := by omega
@[simp] theorem add_1_4 {n : Nat} : n + 1 + 4 = n + 5 := by omega
@[simp] theorem add_1_5 {n : Nat} : n + 1 + 5 = n + 6 := by omega
@[simp] theorem add_1_6 {n : Nat} : n + 1 + 6 = n + 7 := by omega
@[simp] theorem add_2_2 {n : Nat} : n + 2 + 2 = n + 4 := by omega
@[simp] theorem add_2_3 {n : Nat} : n + 2 + 3 = n + 5 := by omega
@[simp] theorem add_2_4 {n : Nat} : n + 2 + 4 = n + 6 := by omega
@[simp] theorem add_2_5 {n : Nat} : n + 2 + 5 = n + 7 := by omega
@[simp] theorem add_2_6 {n : Nat} : n + 2 + 6 = n + 8 := by omega
@[simp] theorem add_3_2 {n : Nat} : n + 3 + 2 = n + 5 := by omega
@[simp] theorem add_3_3 {n : Nat} : n + 3 + 3 = n + 6 := by omega
@[simp] theorem add_3_4 {n : Nat} : n + 3 + 4 = n + 7 := by omega
@[simp] theorem add_3_5 {n : Nat} : n + 3 + 5 = n + 8 := by omega
@[simp] theorem add_3_6 {n : Nat} : n + 3 + 6 = n + 9 := by omega
@[simp] theorem add_4_2 {n : Nat} : n + 4 + 2 = n + 6 := by omega
@[simp] theorem add_4_3 {n : Nat} : n + 4 + 3 = n + 7 := by omega
@[simp] theorem add_4_4 {n : Nat} : n + 4 + 4 = n + 8 := by omega
@[simp] theorem add_4_5 {n : Nat} : n + 4 + 5 = n + 9 := by omega
@[simp] theorem add_4_6 {n : Nat} : n + 4 + 6 = n + 10 := by omega
@[simp] theorem add_5_2 {n : Nat} : n + 5 + 2 = n + 7 := by omega
@[simp] theorem add_5_3 {n : Nat} : n + 5 + 3 = n + 8 := by omega
@[simp] theorem add_5_4 {n : Nat} : n + 5 + 4 = n + 9 := by omega
@[simp] theorem add_5_5 {n : Nat} : n + 5 + 5 = n + 10 := by omega
@[simp] theorem add_5_6 {n : Nat} : n + 5 + 6 = n + 11 := by omega
@[simp] theorem add_6_1 {n : Nat} : n + 6 + 1 = n + 7 := by omega
@[simp] theorem add_6_2 {n : Nat} : n + 6 + 2 = n + 8 := by omega
@[simp] theorem add_6_3 {n : Nat} : n + 6 + 3 = n + 9 := by omega
@[simp] theorem add_6_4 {n : Nat} : n + 6 + 4 = n + 10 := by omega
@[simp] theorem add_6_5 {n : Nat} : n + 6 + 5 = n + 11 := by omega
@[simp] theorem add_6_6 {n : Nat} : n + 6 + 6 = n + 12 := by omega
def wantB (w : Bool) : Value → Bool
  | .bool b => b == w
  | _ => false
@[simp] theorem wantB_bool {w b : Bool} : wantB w (.bool b) = (b == w) := nr rfl
@[simp ↓] theorem WR_g {E : Env} {fl : Nat} {t : Tmps} {H : Heap} {R : PostP} {d : Option Nat} {op : SOp} {r : List SOper} {Z : Tmps → Heap → Prop} {j : Nat} {w : Bool} :
    WR E fl (⟨d, some (j, w), op⟩ :: r) t H Z R = if wantB w (get t j) = true then WS E fl t H op (fun v H' => WR E fl r (put t d v) H' Z R) R else WR E fl r (put t d undef) H Z R := by
  have h : isWanted t (some (j, w)) = wantB w (get t j) := by
    simp only [isWanted]
    generalize get t j = v
    cases v <;> rfl
  show (if isWanted t (some (j, w)) = true then _ else _) = _
  rw [h]

attribute [simp ↓] WS_mv WS_pick WS_bin WS_un WS_conv WS_len WS_ia WS_ext WS_fa WS_fld WS_iface WS_mkfn WS_build WS_load WS_mnx WS_sl WS_alloc WS_box WS_lit WS_mk WS_store WS_app WS_call WR_nil WR_cons
attribute [simp ↓] We_seq We_skip We_exit We_ret We_cond We_block We_reg
attribute [simp] resP_tmp resP_cell resP_two resP_three resA_tmp resA_cell storeV_ptr blk_set_self blk_set_ne
attribute [simp] put_T get_Ti upd_app
attribute [simp] blk_push_self blk_push_lt loadA_ptr loadA_ptrs Ext.refl Ext.push Ext.set fillL evParts repl writeL
attribute [simp low] blk_push
attribute [congr] WR_congr Does_congr W_congr WS_congr oo_congr

def loopQ (i : Nat) (A M : Tmps → Heap → Prop) (Q : PostX) : PostX
  | .normal, t, H => A t H
  | .exit j, t, H => if j = i then M t H else Q (.exit j) t H
  | .ret, t, H => Q .ret t H
section
variable {E : Env} {fl : Nat} {t : Tmps} {H : Heap} {Q : PostX} {R : PostP}
@[simp] theorem loopQ_normal {i : Nat} {A M : Tmps → Heap → Prop} : loopQ i A M Q .normal t H = A t H := nr rfl
@[simp] theorem loopQ_exit {i j : Nat} {A M : Tmps → Heap → Prop} : loopQ i A M Q (.exit j) t H = if j = i then M t H else Q (.exit j) t H := nr rfl
@[simp] theorem loopQ_ret {i : Nat} {A M : Tmps → Heap → Prop} : loopQ i A M Q .ret t H = Q .ret t H := nr rfl
theorem W_mid {a : SCode} {Z : Tmps → Heap → Prop} (M : Tmps → Heap → Prop) (h : W E fl a t H (thenW M Q) R) (hz : ∀ t H, M t H → Z t H) : W E fl a t H (thenW Z Q) R := by
  refine h.mono fun e t' H' hq => ?_
  cases e with
  | normal => exact hz _ _ hq
  | exit i => exact hq
  | ret => exact hq
theorem W_loopM {c : SCode} {i : Nat} {Z : Tmps → Heap → Prop} (I : Nat → Tmps → Heap → Prop) (M : Tmps → Heap → Prop) (k : Nat) (hI : I k t H)
    (step : ∀ k t H, I k t H → W E fl c t H (loopQ i (fun t' H' => ∃ k', k' < k ∧ I k' t' H') M Q) R)
    (rest : ∀ t H, M t H → Z t H) : W E fl (.loop c) t H (blockW i (thenW Z Q)) R := by
  refine W_loop I (fun k t H h => (step k t H h).mono fun e t' H' hq => ?_) k hI
  cases e with
  | normal => exact hq
  | ret => exact hq
  | exit j =>
    simp only [loopQ] at hq
    simp only [thenW, blockW]
    split
    · rename_i hj; rw [if_pos hj] at hq; exact rest _ _ hq
    · rename_i hj; rw [if_neg hj] at hq; exact hq
end

end Go.Proofs.YtjlohmnnldbjoaaGreat.AI

/- Slices that a function may write: append, make. -/
namespace Go.Proofs.YtjlohmnnldbjoaaGreat.AI
open Go

variable {fl : Nat} {H G : Heap} {e e2 sz n m bytes : Nat} {s x : Value} {cs new : List Value}

def slB : Value → Option Nat
  | .slice (some p) _ _ => some p.block
  | _ => none

def Own (fl : Nat) (H : Heap) (e sz : Nat) (v : Value) (n : Nat) (cs : List Value) : Prop :=
  cs.length = n * sz ∧ ((v = .slice none 0 0 ∧ n = 0) ∨ ∃ b cap, v = .slice (some ⟨b, 0, none⟩) n cap ∧ H.blk b = .row false e cs ∧ fl ≤ b)

theorem Own.nil : Own fl H e sz (.slice none 0 0) 0 [] := ⟨by simp, .inl ⟨rfl, rfl⟩⟩
theorem Own.mk {b cap : Nat} (hb : H.blk b = .row false e cs) (hl : cs.length = n * sz) (hf : fl ≤ b) : Own fl H e sz (.slice (some ⟨b, 0, none⟩) n cap) n cs := ⟨hl, .inr ⟨b, cap, rfl, hb, hf⟩⟩
theorem Own.sl (h : Own fl H e sz s n cs) : Sl H e sz s n cs := by
  obtain ⟨hl, h | ⟨b, cap, rfl, hb, hf⟩⟩ := h
  · exact ⟨hl, .inl h⟩
  · exact ⟨hl, .inr ⟨b, 0, cap, false, cs, rfl, hb, by omega, by rw [List.drop_zero, ← hl, List.take_length]⟩⟩
theorem Own.mono (h : Own fl H e sz s n cs) (hx : Ext H G) : Own fl G e sz s n cs := by
  obtain ⟨hl, h | ⟨b, cap, rfl, hb, hf⟩⟩ := h
  · exact ⟨hl, .inl h⟩
  · exact ⟨hl, .inr ⟨b, cap, rfl, hx.blk hb, hf⟩⟩

def ExtB (o : Option Nat) (H G : Heap) : Prop := H.size ≤ G.size ∧ ∀ b, b < H.size → o ≠ some b → G.blk b = H.blk b
theorem Ext.extB {o : Option Nat} (h : Ext H G) : ExtB o H G := ⟨h.1, fun b hb _ => h.2 b hb⟩

theorem app_own (ho : Own fl G e sz s n cs) (hx : Sl G e2 sz x m new) (hp : new.all plainCell = true) (hn : n + m ≤ 1073741824) (hb : bytes ≤ 1024) (hs : 0 < sz) (hfl : fl ≤ G.size) :
    ∃ v' G', appA fl G e sz bytes s x = some (v', G') ∧ Own fl G' e sz v' (n + m) (cs ++ new) ∧ ExtB (slB s) G G' ∧ (∀ H0, H0.size ≤ fl → Ext H0 G → Ext H0 G') := by
  obtain ⟨hxl, hx⟩ := hx
  have hol := ho.1
  by_cases hm : m = 0
  · subst hm
    have hnew : new = [] := List.length_eq_zero_iff.1 (by omega)
    subst hnew
    refine ⟨s, G, ?_, by simpa using ho, (Ext.refl G).extB, fun _ _ h => h⟩
    rcases hx with ⟨rfl, _⟩ | ⟨b, off, cap, ro, cells, rfl, _⟩ <;> rcases ho.2 with ⟨rfl, rfl⟩ | ⟨b', cap', rfl, _⟩ <;> simp [appA]
  · rcases hx with ⟨_, h0⟩ | ⟨b, off, cap, ro, cells, rfl, hbk, ho1, ho2⟩
    · exact absurd h0 hm
    have hc := cells_of hbk ho1
    rw [← ho2] at hc
    rcases ho.2 with ⟨rfl, rfl⟩ | ⟨b', cap', rfl, hb', hf'⟩
    · have hcs : cs = [] := List.length_eq_zero_iff.1 (by omega)
      subst hcs
      refine ⟨.slice (some ⟨G.size, 0, none⟩) m unk, G.push (.row false e new), ?_, ?_, (Ext.push (Ext.refl G)).extB, fun _ _ h => h.push⟩
      · unfold appA
        simp only
        rw [if_neg hm, if_pos ⟨by omega, hb, hs⟩]
        simp only [hc, hp, Bool.true_eq_false, if_false]
        rw [if_pos ⟨by trivial, by trivial⟩]
      · rw [Nat.zero_add]; exact Own.mk blk_push_self (by simpa using hxl) hfl
    · have hb'l := blk_lt hb'
      have hc2 : G.cells? b' 0 (n * sz) = some cs := by
        rw [cells_of hb' (by omega), List.drop_zero, ← hol, List.take_length]
      by_cases hcap : cap' ≠ unk ∧ cap' < n + m
      · refine ⟨.slice (some ⟨G.size, 0, none⟩) (n + m) unk, G.push (.row false e (cs ++ new)), ?_, ?_, (Ext.push (Ext.refl G)).extB, fun _ _ h => h.push⟩
        · unfold appA
          simp only
          rw [if_neg hm, if_pos ⟨by omega, hb, hs⟩]
          simp only [hc, hp, Bool.true_eq_false, if_false, hc2]
          by_cases h00 : n = 0 ∧ cap' = 0
          · rw [if_pos h00]
            have hcs : cs = [] := List.length_eq_zero_iff.1 (by rw [hol, h00.1]; simp)
            rw [hcs, h00.1]; simp
          · rw [if_neg h00, if_pos hcap]
        · exact Own.mk blk_push_self (by rw [List.length_append, hol, hxl, Nat.add_mul]) hfl
      · refine ⟨.slice (some ⟨G.size, 0, none⟩) (n + m) unk, (G.setIfInBounds b' .dead).push (.row false e (cs ++ new)), ?_, ?_, ?_, ?_⟩
        · unfold appA
          simp only
          rw [if_neg hm, if_pos ⟨by omega, hb, hs⟩]
          simp only [hc, hp, Bool.true_eq_false, if_false, hc2]
          rw [if_neg (fun h00 : n = 0 ∧ cap' = 0 => hcap ⟨by rw [h00.2]; decide, by omega⟩), if_neg hcap]
          simp only [hb']
          rw [if_pos ⟨trivial, hf'⟩]
        · exact Own.mk (by rw [blk_push]; simp) (by rw [List.length_append, hol, hxl, Nat.add_mul]) hfl
        · refine ⟨by simp, fun c hc hne => ?_⟩
          have : b' ≠ c := fun h => hne (by simp [slB, h])
          rw [blk_push_lt (by simpa using hc), blk_set_ne this]
        · intro H0 h1 h2
          exact (h2.set (by omega)).push

theorem app_lit {c : Nat} (ho : Own fl G e sz s n cs) (hl : new.length = sz) (hp : new.all plainCell = true) (hn : n < 1073741824) (hb : bytes ≤ 1024) (hs : 0 < sz) (hfl : fl ≤ G.size) :
    ∃ v' G', appA fl (G.push (.row false e2 new)) e sz bytes s (.slice (some ⟨G.size, 0, none⟩) 1 c) = some (v', G') ∧ Own fl G' e sz v' (n + 1) (cs ++ new) ∧ ExtB (slB s) G G' ∧ (∀ H0, H0.size ≤ fl → Ext H0 G → Ext H0 G') := by
  have hx : Sl (G.push (.row false e2 new)) e2 sz (.slice (some ⟨G.size, 0, none⟩) 1 c) 1 new := (Own.mk (fl := 0) blk_push_self (by omega) (Nat.zero_le _)).sl
  obtain ⟨v', G', h1, h2, h3, h4⟩ := app_own (ho.mono (Ext.push (Ext.refl G))) hx hp (by omega) hb hs (bytes := bytes) (by simp; omega)
  refine ⟨v', G', h1, h2, ⟨?_, fun b hb hne => ?_⟩, fun H0 k1 k2 => h4 H0 k1 k2.push⟩
  · have := h3.1; simp at this; omega
  · rw [h3.2 b (by simp; omega) hne, blk_push_lt hb]

@[simp] theorem u32s_append {a b : List Nat} : u32s (a ++ b) = u32s a ++ u32s b := by simp [u32s]
theorem plain_u32s {l : List Nat} : (u32s l).all plainCell = true := by simp [u32s, plainCell]

end Go.Proofs.YtjlohmnnldbjoaaGreat.AI
